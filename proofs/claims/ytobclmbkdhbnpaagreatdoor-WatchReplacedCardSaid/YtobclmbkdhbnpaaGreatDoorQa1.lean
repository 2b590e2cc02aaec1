/-
  Part 1 of the proof of WatchReplacedP: what the statement's proof uses of the texts in wip/tpl.
-/
import Derived.Test.YtobclmbkdhbnpaaGreatDoorProg
import Derived.WalkKit
import Derived.WalkSpells
import Derived.WalkLawsBesides
import Derived.Lib.Hide
import Derived.Outline
import Derived.Maps.AppendAt
import Derived.OwnWalk
import Derived.Deep.LoopGhost
import Derived.Deep.MidRow
import Derived.Great.BuildSlice
import Derived.Lib.Strings
set_option maxRecDepth 10000
set_option maxHeartbeats 4000000
set_option linter.unusedVariables false
set_option linter.unusedSimpArgs false
namespace Go.Proofs.YtobclmbkdhbnpaaGreatDoor
open Go.RowKit
theorem Ai {α : Type _} {l : List α} {i : Nat} {a : α} : l[i]? = some a ↔ ∃ h : i < l.length, l[i] = a := List.getElem?_eq_some_iff
theorem Aj {α : Type _} {l : List α} {i : Nat} {a : α} (e : l[i]? = some a) : a ∈ l := List.mem_of_getElem? e
theorem B6 {n m : Nat} (h : Nat.ble n m = true) : n ≤ m := Nat.le_of_ble_eq_true h
theorem BM {α : Type _} {l : List α} {i : Nat} (h : i < l.length) : l[i]? = some l[i] := List.getElem?_eq_getElem h
theorem Av (n : Nat) : n ≤ n := Nat.le_refl n
theorem BJ (n : Nat) : 0 ≤ n := Nat.zero_le n
theorem Ca {α : Type _} {l₁ l₂ : List α} {i : Nat} (h : i < l₁.length) : (l₁ ++ l₂)[i]? = l₁[i]? := List.getElem?_append_left h
theorem DP {α : Type _} {l₁ l₂ : List α} {i : Nat} (h : l₁.length ≤ i) : (l₁ ++ l₂)[i]? = l₂[i - l₁.length]? := List.getElem?_append_right h
theorem DE {α : Type _} {l : List α} (h : l.length = 0) : l = [] := List.eq_nil_of_length_eq_zero h
inductive AV where
 |v (x:Value)
 |agg (cs:List AV)
 |tup (cs:List AV)
 |sl (sz:Nat) (rows:List (List AV)) (tok:Option Nat)
 |fp (row:List AV)
 |bp (i off:Nat)
 |bs (i off sz n cap:Nat)
 |fn (f:FuncId) (caps:List AV)
 |any
mutual
def Ak(St:Nat→Nat→Prop)(w:World):AV→Value→Prop
 | .v x,y=>y=x
 | .agg cs,y=>∃ys:List Value,y= .agg ys.toArray∧Bc St w cs ys
 | .tup cs,y=>∃ys:List Value,y= .tuple ys.toArray∧Bc St w cs ys
 | .sl sz rows tok,y=>tok=none∧∃A cap,y= .slice A rows.length cap∧rows.length≤cap∧cap≤maxLen∧(rows=[]∨∃b off,A=some ⟨b,off,none⟩∧froR St w b sz rows off)
 | .fp row,y=>∃b off,y= .pointer (some ⟨b,off,none⟩)∧Cu St w b row off
 | .bp _ _,_=>False
 | .bs _ _ _ _ _,_=>False
 | .fn f caps,y=>∃ys:List Value,y= .func (.func f) #[] ys.toArray∧Bc St w caps ys
 | .any,_=>True
def Bc(St:Nat→Nat→Prop)(w:World):List AV→List Value→Prop
 |[],ys=>ys=[]
 |x::xs,ys=>∃z zs,ys=z::zs∧Ak St w x z∧Bc St w xs zs
def Cu(St:Nat→Nat→Prop)(w:World)(b:Nat):List AV→Nat→Prop
 |[],_=>True
 |x::xs,off=>(St b off∧∃u,w.cell? ⟨b,off,none⟩=some u∧u.oneCell'=true∧Ak St w x u)∧Cu St w b xs (off+1)
def froR(St:Nat→Nat→Prop)(w:World)(b sz:Nat):List (List AV)→Nat→Prop
 |[],_=>True
 |r::rs,off=>(r.length=sz∧Cu St w b r off)∧froR St w b sz rs (off+sz)
end
structure Gh where
 St:Nat→Nat→Prop
 bx:List Nat
 tk:List (Nat×Value)
mutual
def rep(G:Gh)(w:World):AV→Value→Prop
 | .v x,y=>y=x
 | .agg cs,y=>∃ys:List Value,y= .agg ys.toArray∧AY G w cs ys
 | .tup cs,y=>∃ys:List Value,y= .tuple ys.toArray∧AY G w cs ys
 | .sl sz rows none,y=>Ak G.St w (.sl sz rows none) y
 | .sl sz rows (some g),y=>Ak G.St w (.sl sz rows none) y∧∃n u,G.tk[g]?=some (n,u)∧rows.length≤n∧(rows.length=n→y=u)
 | .fp row,y=>∃b off,y= .pointer (some ⟨b,off,none⟩)∧Cu G.St w b row off
 | .bp i off,y=>∃b,G.bx[i]?=some b∧y= .pointer (some ⟨b,off,none⟩)
 | .bs i off _ n cap,y=>∃b,G.bx[i]?=some b∧y= .slice (some ⟨b,off,none⟩) n cap∧n≤cap∧cap≤maxLen
 | .fn f caps,y=>∃ys:List Value,y= .func (.func f) #[] ys.toArray∧AY G w caps ys
 | .any,_=>True
def AY(G:Gh)(w:World):List AV→List Value→Prop
 |[],ys=>ys=[]
 |x::xs,ys=>∃z zs,ys=z::zs∧rep G w x z∧AY G w xs zs
end
structure Ext(G:Gh)(w:World)(G':Gh)(w':World):Prop where
 st:∀b o,G.St b o→G'.St b o∧w'.cell? ⟨b,o,none⟩=w.cell? ⟨b,o,none⟩
 bx:∀(i b:Nat),G.bx[i]?=some b→G'.bx[i]?=some b
 tk:∀(g n:Nat) (u:Value),G.tk[g]?=some (n,u)→∃n' u',G'.tk[g]?=some (n',u')∧n≤n'∧(n=n'→u=u')
theorem Ext.refl(G:Gh)(w:World):Ext G w G w:=⟨fun _ _ h=>⟨h,rfl⟩,fun _ _ h=>h,fun _ n u h=>⟨n,u,h,Av _,fun _=>rfl⟩⟩
theorem Ext.trans{G G' G'':Gh}{w w' w'':World}(h:Ext G w G' w')(k:Ext G' w' G'' w''):Ext G w G'' w'':=by
 refine⟨fun b o hb=>?_,fun i b hb=>k.bx i b (h.bx i b hb),fun g n u hg=>?_⟩
 ·obtain⟨h1,h2⟩:=h.st b o hb;obtain⟨h3,h4⟩:=k.st b o h1;exact⟨h3,h4.trans h2⟩
 obtain⟨n',u',h1,h2,h3⟩:=h.tk g n u hg;obtain⟨n'',u'',h4,h5,h6⟩:=k.tk g n' u' h1
 exact⟨n'',u'',h4,Nat.le_trans h2 h5,fun e=>by
  have e1:n=n':=by omega
  rw[h3 e1,h6 (by omega)]⟩
section
variable {St St':Nat→Nat→Prop}{w w':World}(hst:∀b o,St b o→St' b o∧w'.cell? ⟨b,o,none⟩=w.cell? ⟨b,o,none⟩)
include hst
mutual
theorem Fw:∀(x:AV) (y:Value),Ak St w x y→Ak St' w' x y
 | .v _,_,h=>by simpa only[Ak]using h
 | .agg cs,_,h=>by
   simp only[Ak]at h ⊢;obtain⟨ys,h1,h2⟩:=h;exact⟨ys,h1,KP cs ys h2⟩
 | .tup cs,_,h=>by
   simp only[Ak]at h ⊢;obtain⟨ys,h1,h2⟩:=h;exact⟨ys,h1,KP cs ys h2⟩
 | .sl sz rows tok,_,h=>by
   simp only[Ak]at h ⊢;obtain⟨h0,A,cap,h1,h2,h3,h4⟩:=h;refine⟨h0,A,cap,h1,h2,h3,h4.imp id ?_⟩;rintro⟨b,off,h5,h6⟩;exact⟨b,off,h5,Ra b sz rows off h6⟩
 | .fp row,_,h=>by
   simp only[Ak]at h ⊢;obtain⟨b,off,h1,h2⟩:=h;exact⟨b,off,h1,KQ b row off h2⟩
 | .bp _ _,_,h=>by simp only[Ak]at h
 | .bs _ _ _ _ _,_,h=>by simp only[Ak]at h
 | .fn f caps,_,h=>by
   simp only[Ak]at h ⊢;obtain⟨ys,h1,h2⟩:=h;exact⟨ys,h1,KP caps ys h2⟩
 | .any,_,_=>by have _:=hst;simp only[Ak]
theorem KP:∀(xs:List AV) (ys:List Value),Bc St w xs ys→Bc St' w' xs ys
 |[],_,h=>by have _:=hst;simpa only[Bc]using h
 |x::xs,_,h=>by
   simp only[Bc]at h ⊢;obtain⟨z,zs,h1,h2,h3⟩:=h;exact⟨z,zs,h1,Fw x z h2,KP xs zs h3⟩
theorem KQ:∀(b:Nat) (xs:List AV) (off:Nat),Cu St w b xs off→Cu St' w' b xs off
 |_,[],_,_=>by simp only[Cu]
 |b,x::xs,off,h=>by
   simp only[Cu]at h ⊢;obtain⟨⟨h1,u,h2,h3,h4⟩,h5⟩:=h;obtain⟨k1,k2⟩:=hst b off h1;exact⟨⟨k1,u,k2.trans h2,h3,Fw x u h4⟩,KQ b xs (off+1) h5⟩
theorem Ra:∀(b sz:Nat) (rs:List (List AV)) (off:Nat),froR St w b sz rs off→froR St' w' b sz rs off
 |_,_,[],_,_=>by have _:=hst;simp only[froR]
 |b,sz,r::rs,off,h=>by
   simp only[froR]at h ⊢;exact⟨⟨h.1.1,KQ b r off h.1.2⟩,Ra b sz rs (off+sz) h.2⟩
end
end
section
variable {G G':Gh}{w w':World}(he:Ext G w G' w')
include he
mutual
theorem Hc:∀(x:AV) (y:Value),rep G w x y→rep G' w' x y
 | .v _,_,h=>by simpa only[rep]using h
 | .agg cs,_,h=>by
   simp only[rep]at h ⊢;obtain⟨ys,h1,h2⟩:=h;exact⟨ys,h1,Dq cs ys h2⟩
 | .tup cs,_,h=>by
   simp only[rep]at h ⊢;obtain⟨ys,h1,h2⟩:=h;exact⟨ys,h1,Dq cs ys h2⟩
 | .sl sz rows none,y,h=>by
   simp only[rep]at h ⊢;exact Fw he.st _ y h
 | .sl sz rows (some g),y,h=>by
   simp only[rep]at h ⊢;obtain⟨h0,n,u,h1,h2,h3⟩:=h;obtain⟨n',u',k1,k2,k3⟩:=he.tk g n u h1;refine⟨Fw he.st _ y h0,n',u',k1,Nat.le_trans h2 k2,fun e=>?_⟩;have e1:n=n':=by omega
   rw[h3 (by omega),k3 e1]
 | .fp row,_,h=>by
   simp only[rep]at h ⊢;obtain⟨b,off,h1,h2⟩:=h;exact⟨b,off,h1,KQ he.st b row off h2⟩
 | .bp i off,_,h=>by
   simp only[rep]at h ⊢;obtain⟨b,h1,h2⟩:=h;exact⟨b,he.bx i b h1,h2⟩
 | .bs i off sz n cap,_,h=>by
   simp only[rep]at h ⊢;obtain⟨b,h1,h2⟩:=h;exact⟨b,he.bx i b h1,h2⟩
 | .fn f caps,_,h=>by
   simp only[rep]at h ⊢;obtain⟨ys,h1,h2⟩:=h;exact⟨ys,h1,Dq caps ys h2⟩
 | .any,_,_=>by simp only[rep]
theorem Dq:∀(xs:List AV) (ys:List Value),AY G w xs ys→AY G' w' xs ys
 |[],_,h=>by have _:=he;simpa only[AY]using h
 |x::xs,_,h=>by
   simp only[AY]at h ⊢;obtain⟨z,zs,h1,h2,h3⟩:=h;exact⟨z,zs,h1,Hc x z h2,Dq xs zs h3⟩
end
end
mutual
def Cl:AV→AV
 | .v x=> .v x
 | .agg cs=> .agg (Ex cs)
 | .tup cs=> .tup (Ex cs)
 | .sl sz rows _=> .sl sz rows none
 | .fp row=> .fp row
 | .bp _ _=> .any
 | .bs _ _ _ _ _=> .any
 | .fn f caps=> .fn f (Ex caps)
 | .any=> .any
def Ex:List AV→List AV
 |[]=>[]
 |x::xs=>Cl x::Ex xs
end
mutual
theorem FD{G:Gh}{w:World}:∀(x:AV) (y:Value),rep G w x y→Ak G.St w (Cl x) y
 | .v _,_,h=>by simpa only[rep,Ak,Cl]using h
 | .agg cs,_,h=>by
   simp only[rep,Ak,Cl]at h ⊢;obtain⟨ys,h1,h2⟩:=h;exact⟨ys,h1,Jf cs ys h2⟩
 | .tup cs,_,h=>by
   simp only[rep,Ak,Cl]at h ⊢;obtain⟨ys,h1,h2⟩:=h;exact⟨ys,h1,Jf cs ys h2⟩
 | .sl sz rows none,y,h=>by simpa only[rep,Cl]using h
 | .sl sz rows (some g),y,h=>by
   simp only[rep,Cl]at h ⊢;exact h.1
 | .fp row,_,h=>by simpa only[rep,Ak,Cl]using h
 | .bp _ _,_,_=>by simp only[Ak,Cl]
 | .bs _ _ _ _ _,_,_=>by simp only[Ak,Cl]
 | .fn f caps,_,h=>by
   simp only[rep,Ak,Cl]at h ⊢;obtain⟨ys,h1,h2⟩:=h;exact⟨ys,h1,Jf caps ys h2⟩
 | .any,_,_=>by simp only[Ak,Cl]
theorem Jf{G:Gh}{w:World}:∀(xs:List AV) (ys:List Value),AY G w xs ys→Bc G.St w (Ex xs) ys
 |[],_,h=>by simpa only[AY,Bc,Ex]using h
 |x::xs,_,h=>by
   simp only[AY,Bc,Ex]at h ⊢;obtain⟨z,zs,h1,h2,h3⟩:=h;exact⟨z,zs,h1,FD x z h2,Jf xs zs h3⟩
end
mutual
theorem Fc{G:Gh}{w:World}:∀(x:AV) (y:Value),Ak G.St w x y→rep G w x y
 | .v _,_,h=>by simpa only[rep,Ak]using h
 | .agg cs,_,h=>by
   simp only[rep,Ak]at h ⊢;obtain⟨ys,h1,h2⟩:=h;exact⟨ys,h1,J5 cs ys h2⟩
 | .tup cs,_,h=>by
   simp only[rep,Ak]at h ⊢;obtain⟨ys,h1,h2⟩:=h;exact⟨ys,h1,J5 cs ys h2⟩
 | .sl sz rows none,y,h=>by simpa only[rep]using h
 | .sl sz rows (some g),y,h=>by
   simp only[Ak]at h;exact absurd h.1 (by simp)
 | .fp row,_,h=>by simpa only[rep,Ak]using h
 | .bp _ _,_,h=>by simp only[Ak]at h
 | .bs _ _ _ _ _,_,h=>by simp only[Ak]at h
 | .fn f caps,_,h=>by
   simp only[rep,Ak]at h ⊢;obtain⟨ys,h1,h2⟩:=h;exact⟨ys,h1,J5 caps ys h2⟩
 | .any,_,_=>by simp only[rep]
theorem J5{G:Gh}{w:World}:∀(xs:List AV) (ys:List Value),Bc G.St w xs ys→AY G w xs ys
 |[],_,h=>by simpa only[AY,Bc]using h
 |x::xs,_,h=>by
   simp only[AY,Bc]at h ⊢;obtain⟨z,zs,h1,h2,h3⟩:=h;exact⟨z,zs,h1,Fc x z h2,J5 xs zs h3⟩
end
theorem Fx{G:Gh}{w:World}:∀{xs:List AV} {ys:List Value},AY G w xs ys→ys.length=xs.length
 |[],_,h=>by simp only[AY]at h;rw[h];rfl
 |x::xs,_,h=>by
   simp only[AY]at h;obtain⟨z,zs,rfl,_,h3⟩:=h;simp[Fx h3]
theorem LN{G:Gh}{w:World}:∀{xs:List AV} {ys:List Value},AY G w xs ys→∀{i:Nat} {x:AV},xs[i]?=some x→∃y,ys[i]?=some y∧rep G w x y
 |[],_,_,i,x,hi=>by simp at hi
 |x::xs,_,h,i,x',hi=>by
   simp only[AY]at h;obtain⟨z,zs,rfl,h2,h3⟩:=h
   cases i with
   |zero=>simp at hi;subst hi;exact⟨z,by simp,h2⟩
   |succ i=>simp only[List.getElem?_cons_succ]at hi ⊢;exact LN h3 hi
theorem LO{St:Nat→Nat→Prop}{w:World}{b:Nat}:∀{xs:List AV} {off:Nat},Cu St w b xs off→∀{i:Nat} {x:AV},xs[i]?=some x→St b (off+i)∧∃u,w.cell? ⟨b,off+i,none⟩=some u∧u.oneCell'=true∧Ak St w x u
 |[],_,_,i,x,hi=>by simp at hi
 |x::xs,off,h,i,x',hi=>by
   simp only[Cu]at h
   cases i with
   |zero=>simp at hi;subst hi;exact h.1
   |succ i=>
     simp only[List.getElem?_cons_succ]at hi;have:=LO h.2 hi
     rwa [show off+1+i=off+(i+1) by omega]at this
theorem LP{St:Nat→Nat→Prop}{w:World}{b:Nat}:∀{xs:List AV} {off:Nat},Cu St w b xs off→∀k,Cu St w b (xs.drop k) (off+k)
 |[],_,_,k=>by simp[Cu]
 |x::xs,off,h,k=>by
   cases k with
   |zero=>exact h
   |succ k=>
     simp only[Cu]at h;have:=LP h.2 k
     rwa [show off+1+k=off+(k+1) by omega]at this
theorem Jg{St:Nat→Nat→Prop}{w:World}{b sz:Nat}:∀{rs:List (List AV)} {off:Nat},froR St w b sz rs off→∀{i:Nat} {r:List AV},rs[i]?=some r→r.length=sz∧Cu St w b r (off+i * sz)
 |[],_,_,i,r,hi=>by simp at hi
 |r::rs,off,h,i,r',hi=>by
   simp only[froR]at h
   cases i with
   |zero=>simp at hi;subst hi;simpa using h.1
   |succ i=>
     simp only[List.getElem?_cons_succ]at hi;have:=Jg h.2 hi
     rwa [show off+sz+i * sz=off+(i+1) * sz by rw[Nat.add_mul];omega]at this
theorem KR{St:Nat→Nat→Prop}{w:World}{b:Nat}:∀{xs:List AV} {off:Nat},(∀i x,xs[i]?=some x→St b (off+i)∧∃u,w.cell? ⟨b,off+i,none⟩=some u∧u.oneCell'=true∧Ak St w x u)→Cu St w b xs off
 |[],_,_=>by simp only[Cu]
 |x::xs,off,h=>by
   simp only[Cu];refine⟨h 0 x rfl,KR fun i y hi=>?_⟩;have:=h (i+1) y (by simpa using hi)
   rwa [show off+(i+1)=off+1+i by omega]at this
theorem LQ{St:Nat→Nat→Prop}{w:World}{b sz:Nat}:∀{rs:List (List AV)} {off:Nat},(∀i r,rs[i]?=some r→r.length=sz∧Cu St w b r (off+i * sz))→froR St w b sz rs off
 |[],_,_=>by simp only[froR]
 |r::rs,off,h=>by
   simp only[froR];refine⟨by simpa using h 0 r rfl,LQ fun i y hi=>?_⟩;have:=h (i+1) y (by simpa using hi)
   rwa [show off+(i+1) * sz=off+sz+i * sz by rw[Nat.add_mul];omega]at this
structure AH where
 bx:List (List AV)
 tk:List (Nat×Nat×List (List AV))
structure Env where
 w0:World
 ins:List Nat
 St0:Nat→Nat→Prop
structure Kept(w0:World)(ins:List Nat)(w:World):Prop where
 os:w.os=w0.os
 tape:w.tape=w0.tape
 output:w.output=w0.output
 size:w0.heap.size≤w.heap.size
 block:∀k,k<w0.heap.size→k∉ins→w.heap[k]?=w0.heap[k]?
def Mp(G:Gh)(w:World)(b:Nat)(row:List AV):Prop:=
 ∃(us:List Value) (T:TypeId),w.heap[b]?=some (.cells us.toArray T (0,0))∧AY G w row us∧∀u∈us,u.oneCell'=true
def Rb(base:Nat)(G:Gh)(w:World)(n:Nat)(u:Value)(E sz:Nat)(rows:List (List AV)):Prop:=
 n=rows.length∧(∃xs,w.ownsRow base E sz u n xs)∧∀b,u.ownBlock=some b→∀o,n * sz≤o→¬G.St b o
structure HRel(E:Env)(G:Gh)(h:AH)(w:World):Prop where
 inpre:∀(i b:Nat),E.ins[i]?=some b→G.bx[i]?=some b
 kept:Kept E.w0 E.ins w
 stlt:∀b o,G.St b o→b<w.heap.size
 stnew:∀b o,G.St b o→E.St0 b o∨E.w0.heap.size≤b
 bxlen:G.bx.length=h.bx.length
 bxnd:G.bx.Nodup
 bxst:∀b∈G.bx,∀o,¬G.St b o
 bxown:∀b∈G.bx,E.w0.heap.size≤b∨b∈E.ins
 box:∀(i b:Nat) (row:List AV),G.bx[i]?=some b→h.bx[i]?=some row→Mp G w b row
 tklen:G.tk.length=h.tk.length
 tok:∀(g n:Nat) (u:Value) (T sz:Nat) (rows:List (List AV)),G.tk[g]?=some (n,u)→h.tk[g]?=some (T,sz,rows)→Rb E.w0.heap.size G w n u T sz rows
 tkbx:∀(g n:Nat) (u:Value),G.tk[g]?=some (n,u)→∀b,u.ownBlock=some b→b∉G.bx
 tknd:∀(g g' n n':Nat) (u u':Value),G.tk[g]?=some (n,u)→G.tk[g']?=some (n',u')→g≠g'→∀b,u.ownBlock=some b→u'.ownBlock≠some b
theorem HRel.boxlt{E:Env}{G:Gh}{h:AH}{w:World}(hr:HRel E G h w){b:Nat}(hb:b∈G.bx):b<w.heap.size:=by
 obtain⟨i,hi⟩:=List.mem_iff_getElem?.1 hb;have hlt:i<h.bx.length:=by rw[←hr.bxlen];exact(Ai.1 hi).1
 obtain⟨us,T,h1,_⟩:=hr.box i b _ hi (BM hlt);exact(Array.getElem?_eq_some_iff.1 h1).1
theorem HRel.toklt{E:Env}{G:Gh}{h:AH}{w:World}(hr:HRel E G h w){g n:Nat}{u:Value}(hg:G.tk[g]?=some (n,u)){b:Nat}(hb:u.ownBlock=some b):E.w0.heap.size≤b∧b<w.heap.size:=by
 have hlt:g<h.tk.length:=by rw[←hr.tklen];exact(Ai.1 hg).1
 obtain⟨_,⟨xs,h1⟩,_⟩:=hr.tok g n u _ _ _ hg (BM hlt);exact World.ownsRow.lt h1 b hb
theorem HRel.grow{E:Env}{G:Gh}{h:AH}{w w':World}(hr:HRel E G h w)(hb:Below w.heap.size w w')(N:Nat→Nat→Prop)(hN:∀b o,N b o→w.heap.size≤b∧b<w'.heap.size):
    HRel E ⟨fun b o=>G.St b o∨N b o,G.bx,G.tk⟩ h w'∧Ext G w ⟨fun b o=>G.St b o∨N b o,G.bx,G.tk⟩ w':=by
 have he:Ext G w ⟨fun b o=>G.St b o∨N b o,G.bx,G.tk⟩ w':=
  ⟨fun b o hs=>⟨.inl hs,hb.cell (p:=⟨b,o,none⟩) (hr.stlt b o hs)⟩,fun _ _ h=>h,fun _ n u h=>⟨n,u,h,Av _,fun _=>rfl⟩⟩
 refine⟨⟨hr.inpre,?_,?_,?_,hr.bxlen,hr.bxnd,?_,hr.bxown,?_,hr.tklen,?_,hr.tkbx,hr.tknd⟩,he⟩
 ·have k:=hr.kept;exact⟨hb.os.trans k.os,hb.tape.trans k.tape,hb.output.trans k.output,Nat.le_trans k.size hb.size,fun i hi hn=>(hb.block i (Nat.lt_of_lt_of_le hi k.size)).trans (k.block i hi hn)⟩
 ·rintro b o (hs|hs)
  ·exact Nat.lt_of_lt_of_le (hr.stlt b o hs) hb.size
  exact(hN b o hs).2
 ·rintro b o (hs|hs)
  ·exact hr.stnew b o hs
  exact .inr (Nat.le_trans hr.kept.size (hN b o hs).1)
 ·rintro b hbx o (hs|hs)
  ·exact hr.bxst b hbx o hs
  have:=hr.boxlt hbx;have:=(hN b o hs).1;omega
 ·intro i b row hi hrow;obtain⟨us,T,h1,h2,h3⟩:=hr.box i b row hi hrow;exact⟨us,T,(hb.block b (hr.boxlt (Aj hi))).trans h1,Dq he row us h2,h3⟩
 intro g n u T sz rows hg ht;obtain⟨h1,⟨xs,h2⟩,h3⟩:=hr.tok g n u T sz rows hg ht;refine⟨h1,⟨xs,World.ownsRow.kept h2 (w':=w') (row:=none) ⟨hb.os,hb.tape,hb.output,hb.size,fun k hk _=>hb.block k hk⟩ (by cases u.ownBlock<;>simp)⟩,fun b hub o ho=>?_⟩;rintro(hs|hs)
 ·exact h3 b hub o ho hs
 have:=(hr.toklt hg hub).2;have:=(hN b o hs).1;omega
theorem WD(G:Gh):(⟨fun b o=>G.St b o∨False,G.bx,G.tk⟩:Gh)=G:=by
 cases G;simp
theorem HRel.below{E:Env}{G:Gh}{h:AH}{w w':World}(hr:HRel E G h w)(hb:Below w.heap.size w w'):HRel E G h w'∧Ext G w G w':=by
 have:=hr.grow hb (fun _ _=>False) (fun _ _ h=>h.elim)
 rwa [WD]at this
theorem HRel.addBox{E:Env}{G:Gh}{h:AH}{w:World}(hr:HRel E G h w){b:Nat}{row:List AV}(hnew:b∉G.bx)(hbase:E.w0.heap.size≤b)(hst:∀o,¬G.St b o)
    (htk:∀(g n:Nat) (u:Value),G.tk[g]?=some (n,u)→u.ownBlock≠some b) (hbox:Mp G w b row):
    HRel E ⟨G.St,G.bx++[b],G.tk⟩ ⟨h.bx++[row],h.tk⟩ w∧Ext G w ⟨G.St,G.bx++[b],G.tk⟩ w:=by
 have he:Ext G w ⟨G.St,G.bx++[b],G.tk⟩ w:=
  ⟨fun _ _ h=>⟨h,rfl⟩,fun i b' hi=>by
   rw[Ca (Ai.1 hi).1];exact hi,fun _ n u h=>⟨n,u,h,Av _,fun _=>rfl⟩⟩
 refine⟨⟨fun i b' hi=>he.bx i b' (hr.inpre i b' hi),hr.kept,hr.stlt,hr.stnew,by simp[hr.bxlen],?_,?_,?_,?_,hr.tklen,hr.tok,?_,hr.tknd⟩,he⟩
 ·exact List.nodup_append.2 ⟨hr.bxnd,by simp,fun x hx y hy=>by simp at hy;subst hy;intro e;subst e;exact hnew hx⟩
 ·intro b' hb';rcases List.mem_append.1 hb' with h1|h1
  ·exact hr.bxst b' h1
  simp at h1;subst h1;exact hst
 ·intro b' hb';rcases List.mem_append.1 hb' with h1|h1
  ·exact hr.bxown b' h1
  simp at h1;subst h1;exact .inl hbase
 ·intro i b' row' hi hrow;rcases Nat.lt_or_ge i G.bx.length with hlt|hge
  ·rw[Ca hlt]at hi;rw[Ca (by rw[←hr.bxlen];exact hlt)]at hrow;obtain⟨us,T,h1,h2,h3⟩:=hr.box i b' row' hi hrow;exact⟨us,T,h1,Dq he row' us h2,h3⟩
  rw[DP hge]at hi;rw[DP (by rw[←hr.bxlen];exact hge),←hr.bxlen]at hrow
  have h0:i - G.bx.length=0:=by
   have:=(Ai.1 hi).1;simp at this;omega
  rw[h0]at hi hrow;simp at hi hrow;subst hi;subst hrow;obtain⟨us,T,h1,h2,h3⟩:=hbox;exact⟨us,T,h1,Dq he row us h2,h3⟩
 intro g n u hg b' hb' hmem;rcases List.mem_append.1 hmem with h1|h1
 ·exact hr.tkbx g n u hg b' hb' h1
 simp at h1;subst h1;exact htk g n u hg hb'
theorem HRel.setBox{E:Env}{G:Gh}{h:AH}{w w':World}(hr:HRel E G h w){i b:Nat}{row:List AV}(hi:G.bx[i]?=some b)
    (hos:w'.os=w.os) (htape:w'.tape=w.tape) (hout:w'.output=w.output) (hsz:w'.heap.size=w.heap.size) (hblk:∀k,k≠b→w'.heap[k]?=w.heap[k]?)
    (hbox:∃(us:List Value) (T:TypeId),w'.heap[b]?=some (.cells us.toArray T (0,0))∧AY G w row us∧∀u∈us,u.oneCell'=true):
    HRel E G ⟨h.bx.set i row,h.tk⟩ w'∧Ext G w G w':=by
 have hmem:b∈G.bx:=Aj hi;have he:Ext G w G w':=⟨fun b' o hs=>⟨hs,World.cell?_of_block (w:=w) (a:=⟨b',o,none⟩) (hblk b' (fun e=>hr.bxst b hmem o (e ▸ hs)))⟩,fun _ _ h=>h,fun _ n u h=>⟨n,u,h,Av _,fun _=>rfl⟩⟩;refine⟨⟨hr.inpre,?_,?_,hr.stnew,by simp[hr.bxlen],hr.bxnd,hr.bxst,hr.bxown,?_,hr.tklen,?_,hr.tkbx,hr.tknd⟩,he⟩
 ·have k:=hr.kept;refine⟨hos.trans k.os,htape.trans k.tape,hout.trans k.output,by rw[hsz];exact k.size,fun j hj hn=>?_⟩;refine(hblk j (fun e=>?_)).trans (k.block j hj hn);subst e;rcases hr.bxown j hmem with h1|h1
  ·omega
  exact hn h1
 ·intro b' o hs;rw[hsz];exact hr.stlt b' o hs
 ·intro j b' row' hj hrow;by_cases hji:j=i
  ·subst hji;rw[hi]at hj;injection hj with hj;subst hj;have hlt:j<h.bx.length:=by rw[←hr.bxlen];exact(Ai.1 hi).1
   rw[List.getElem?_set_self hlt]at hrow;injection hrow with hrow;subst hrow;obtain⟨us,T,h1,h2,h3⟩:=hbox;exact⟨us,T,h1,Dq he row us h2,h3⟩
  rw[List.getElem?_set_ne (Ne.symm hji)]at hrow;obtain⟨us,T,h1,h2,h3⟩:=hr.box j b' row' hj hrow
  have hne:b'≠b:=by
   intro e;subst e;obtain⟨l1,e1⟩:=Ai.1 hi;obtain⟨l2,e2⟩:=Ai.1 hj;exact hji ((List.getElem_inj hr.bxnd).1 (e2.trans e1.symm))
  exact⟨us,T,(hblk b' hne).trans h1,Dq he row' us h2,h3⟩
 intro g n u T sz rows hg ht;obtain⟨h1,⟨xs,h2⟩,h3⟩:=hr.tok g n u T sz rows hg ht;refine⟨h1,⟨xs,World.ownsRow.kept h2 (w':=w') (row:=some b) ⟨hos,htape,hout,by omega,fun k _ hne=>hblk k (fun e=>hne (by rw[e]))⟩ (.inr (fun e=>hr.tkbx g n u hg b e hmem))⟩,h3⟩
def Fits(E:Env)(R:AV→AH→Prop)(G:Gh)(w:World)(v:Value)(w':World):Prop:=∃x h' G',R x h'∧HRel E G' h' w'∧Ext G w G' w'∧rep G' w' x v
def KS(P:Program)(E:Env)(R:AV→AH→Prop)(G:Gh)(w:World):Result Next→Prop
 | .ok (.value v) w'=>Fits E R G w v w'
 | .ok .skip w'=>Fits E R G w undef w'
 | .ok (.enter f args) w'=>Calls P f args w' fun e w''=>match e with
     | .returned v=>Fits E R G w v w''
     |_=>False
 |_=>False
def AStep(P:Program)(o:Oper)(ev:Operand→Option AV)(h:AH)(R:AV→AH→Prop):Prop:=
 ∀(E:Env) (G:Gh) (w:World) (ec:Operand→Value),HRel E G h w→(∀x∈o.op.operands,∀av,ev x=some av→rep G w av (ec x))→KS P E R G w ((execOp ec o).run P w)
theorem Fits.mono{E:Env}{R R':AV→AH→Prop}(hR:∀x h,R x h→R' x h){G:Gh}{w w':World}{v:Value}(h:Fits E R G w v w'):Fits E R' G w v w':=by
 obtain⟨x,h',G',h1,h2⟩:=h;exact⟨x,h',G',hR _ _ h1,h2⟩
theorem AStep.mono{P:Program}{o:Oper}{ev:Operand→Option AV}{h:AH}{R R':AV→AH→Prop}(hs:AStep P o ev h R)(hR:∀x h,R x h→R' x h):AStep P o ev h R':=by
 intro E G w ec h1 h2;have:=hs E G w ec h1 h2;revert this;generalize (execOp ec o).run P w=r;intro hu;unfold KS at hu ⊢;split at hu
 ·exact hu.mono hR
 ·exact hu.mono hR
 ·refine Calls.mono hu ?_;intro e w'' h3
  cases e with
  |returned v=>exact Fits.mono hR h3
  |panicked c=>exact h3.elim
  |outgrown=>exact h3.elim
 exact hu.elim
theorem AStep.congr{P:Program}{o:Oper}{ev ev':Operand→Option AV}{h:AH}{R:AV→AH→Prop}(hs:AStep P o ev h R)(he:∀x∈o.op.operands,ev' x=ev x):AStep P o ev' h R:=
 fun E G w ec h1 h2=>hs E G w ec h1 (fun x hx av hav=>h2 x hx av (by rw[he x hx];exact hav))
def look:List (Nat×AV)→Nat→Option AV
 |[],_=>none
 |(i,x)::l,t=>match Nat.beq i t with
   |true=>some x
   |false=>look l t
def put(d:Option Tmp)(x:AV)(f:Nat→Option AV):Nat→Option AV:=
 match d with
 |some d=>fun t=>match Nat.beq d t with
   |true=>some x
   |false=>f t
 |none=>f
def CA(f:Nat→Option AV):Operand→Option AV
 | .tmp t=>f t
 | .const c=>some (.v c)
 | .global g=>some (.v (.pointer (some ⟨g,0,none⟩)))
 | .func f=>some (.fn f [])
structure Dim where
 n:Nat
 ni:Nat
def Fy(d:Option Tmp)(N:Dim):Bool:=
 match d with
 |some d=>Nat.blt d N.n
 |none=>true
structure AS where
 sl:Nat→Option AV
 h:AH
def SlotsR(G:Gh)(w:World)(f:Nat→Option AV)(a:Act):Prop:=∀t x,f t=some x→rep G w x (a.tmps.getD t undef)
def Rel(N:Dim)(E:Env)(s:AS)(a:Act)(w:World):Prop:=∃G,HRel E G s.h w∧SlotsR G w s.sl a∧a.tmps.size=N.n∧a.defers=[]∧E.ins.length=N.ni
def Oh(N:Dim)(E:Env)(Q:Exit→AS→Prop)(e:Exit)(a:Act)(w:World):Prop:=∃s,Q e s∧Rel N E s a w
def Bz(P:Program)(N:Dim)(c:Code)(Q:Exit→AS→Prop)(s:AS):Prop:=∀E a w,Rel N E s a w→c.wp P (Oh N E Q) a w
theorem SlotsR.ev{G:Gh}{w:World}{f:Nat→Option AV}{a:Act}(h:SlotsR G w f a){x:Operand}{av:AV}(hx:CA f x=some av):rep G w av (a.eval x):=by
 cases x with
 |tmp t=>exact h t av hx
 |const c=>simp only[CA,Option.some.injEq]at hx;subst hx;simp only[rep,Act.eval]
 |global g=>simp only[CA,Option.some.injEq]at hx;subst hx;simp only[rep,Act.eval]
 |func f=>simp only[CA,Option.some.injEq]at hx;subst hx;simp only[rep,Act.eval];exact⟨[],rfl,by simp only[AY]⟩
theorem J6(d:Nat)(x:AV)(l:List (Nat×AV)):put (some d) x (look l)=look ((d,x)::l):=rfl
theorem Fz(d:Nat)(x:AV)(f:Nat→Option AV)(t:Nat):put (some d) x f t=if d=t then some x else f t:=by
 show(match Nat.beq d t with|true=>some x|false=>f t)=_;by_cases h:d=t
 ·subst h;simp
 have:Nat.beq d t=false:=by
  rw[←Bool.not_eq_true,Nat.beq_eq];exact h
 rw[this,if_neg h]
theorem SlotsR.put{G G':Gh}{w w':World}{f:Nat→Option AV}{a:Act}{N:Dim}(h:SlotsR G w f a)(he:Ext G w G' w')(hn:a.tmps.size=N.n){d:Option Tmp}{x:AV}{v:Value}(hd:Fy d N=true)(hx:rep G' w' x v):
    SlotsR G' w' (put d x f) (a.put d v)∧(a.put d v).tmps.size=N.n∧(a.put d v).defers=a.defers:=by
 cases d with
 |none=>exact⟨fun t y ht=>Hc he _ _ (h t y ht),hn,rfl⟩
 |some d=>
   have hdn:d<N.n:=B6 hd;refine⟨fun t y ht=>?_,by simp[Act.put,hn],rfl⟩;rw[Fz]at ht;by_cases hdt:d=t
   ·subst hdt;rw[if_pos rfl]at ht;injection ht with ht;subst ht;have:(a.put (some d) v).tmps.getD d undef=v:=by simp[Act.put,hn,hdn]
    rw[this];exact hx
   rw[if_neg hdt]at ht;have:(a.put (some d) v).tmps.getD t undef=a.tmps.getD t undef:=by simp[Act.put,Array.getElem?_setIfInBounds_ne hdt]
   rw[this];exact Hc he _ _ (h t y ht)
section
variable {P:Program}{N:Dim}{Q:Exit→AS→Prop}{s:AS}
def G0(K:AS→Prop)(Q:Exit→AS→Prop):Exit→AS→Prop
 | .normal,s=>K s
 |e,s=>Q e s
theorem BA(h:Q .normal s):Bz P N .skip Q s:=fun _ _ _ hr=>wp_skip ⟨s,h,hr⟩
theorem BU{id:Nat}(h:Q (.exit id) s):Bz P N (.exit id) Q s:=fun _ _ _ hr=>wp_exit ⟨s,h,hr⟩
theorem A6(h:Q .ret s):Bz P N .ret Q s:=fun _ _ _ hr=>wp_ret ⟨s,h,hr⟩
theorem Rel.bool{E:Env}{a:Act}{w:World}(hr:Rel N E s a w){c:Operand}{t:Bool}(hc:CA s.sl c=some (.v (.bool t))):a.eval c= .bool t:=by
 obtain⟨G,_,hs,_⟩:=hr;have:=hs.ev hc
 simpa only[rep]using this
theorem A8{c:Operand}{x y:Code}{t:Bool}(hc:CA s.sl c=some (.v (.bool t)))(ht:t=true→Bz P N x Q s)(hf:t=false→Bz P N y Q s):Bz P N (.cond c x y) Q s:=
 fun E a w hr=>wp_cond_split (hr.bool hc) (fun h=>ht h E a w hr) (fun h=>hf h E a w hr)
def J7(id:Nat)(Q:Exit→AS→Prop):Exit→AS→Prop
 | .exit id',s=>if id'=id then Q .normal s else Q (.exit id') s
 |e,s=>Q e s
theorem BV{id:Nat}(h:Q .normal s):J7 id Q (.exit id) s:=by simp only[J7,if_true];exact h
theorem LR{id id':Nat}(hne:Nat.beq id' id=false)(h:Q (.exit id') s):J7 id Q (.exit id') s:=by
 have:¬id'=id:=fun e=>by subst e;simp at hne
 simp only[J7,this,if_false];exact h
theorem Ao{id:Nat}{c:Code}(h:Bz P N c (J7 id Q) s):Bz P N (.block id c) Q s:=by
 intro E a w hr;refine wp_block (wp_mono (h E a w hr) ?_);rintro e a' w' ⟨s',hq,hr'⟩
 cases e with
 |exit id'=>
   simp only[J7,Exit.inBlock]at hq ⊢;split
   ·rename_i h1;rw[if_pos h1]at hq;exact⟨s',hq,hr'⟩
   rename_i h1;rw[if_neg h1]at hq;exact⟨s',hq,hr'⟩
 |normal=>exact⟨s',hq,hr'⟩
 |goto l=>exact⟨s',hq,hr'⟩
 |ret=>exact⟨s',hq,hr'⟩
 |panic c=>exact⟨s',hq,hr'⟩
 |outgrown=>exact⟨s',hq,hr'⟩
theorem WE{c:Code}(I:Nat→AS→Prop)(n:Nat)(h0:I n s)(round:∀n s,I n s→Bz P N c (G0 (fun s'=>∃m,m<n∧I m s') Q) s):Bz P N (.loop c) Q s:=by
 intro E a w hr;refine wp_loop_ghost (fun n a w=>∃s,I n s∧Rel N E s a w) n ⟨s,h0,hr⟩ ?_;rintro n a w ⟨s,hI,hr⟩;refine wp_mono (round n s hI E a w hr) ?_;rintro e a' w' ⟨s',hq,hr'⟩
 cases e with
 |normal=>obtain⟨m,h1,h2⟩:=hq;exact⟨m,h1,s',h2,hr'⟩
 |exit id=>exact⟨s',hq,hr'⟩
 |goto l=>exact⟨s',hq,hr'⟩
 |ret=>exact⟨s',hq,hr'⟩
 |panic c=>exact⟨s',hq,hr'⟩
 |outgrown=>exact⟨s',hq,hr'⟩
theorem Mq{E:Env}{R:AV→AH→Prop}{G:Gh}{w:World}{r:Result Next}{o:Oper}{a:Act}{next:Act→World→Prop}{Q':Exit→Act→World→Prop}(h:KS P E R G w r)
    (hn:∀v w',Fits E R G w v w'→next (a.put o.dst v) w'):o.upon P a next Q' r:=by
 unfold KS at h;split at h
 ·exact hn _ _ h
 ·exact hn _ _ h
 ·refine Calls.mono h ?_;intro e w'' h3
  cases e with
  |returned v=>exact hn _ _ h3
  |panicked c=>exact h3.elim
  |outgrown=>exact h3.elim
 exact h.elim
theorem Oi{E:Env}{a:Act}{w:World}{o:Oper}{K:AS→Prop}{next:Act→World→Prop}{Q':Exit→Act→World→Prop}(hr:Rel N E s a w)(hd:Fy o.dst N=true)
    (h:AStep P o (CA s.sl) s.h (fun x h'=>K ⟨put o.dst x s.sl,h'⟩)) (hn:∀s' a' w',K s'→Rel N E s' a' w'→next a' w'):o.wp P a w next Q':=by
 obtain⟨G,h1,h2,h3,h4,h5⟩:=hr;refine Mq (h E G w a.eval h1 (fun x _ av hav=>h2.ev hav)) ?_;rintro v w' ⟨x,h',G',hK,k1,k2,k3⟩;obtain⟨k4,k5,k6⟩:=h2.put k2 h3 hd k3;exact hn _ _ _ hK ⟨G',k1,k4,k5,k6.trans h4,h5⟩
theorem Rc{E:Env}{a:Act}{w:World}{d:Option Tmp}(hr:Rel N E s a w)(hd:Fy d N=true):Rel N E ⟨put d (.v undef) s.sl,s.h⟩ (a.put d undef) w:=by
 obtain⟨G,h1,h2,h3,h4,h5⟩:=hr;obtain⟨k4,k5,k6⟩:=h2.put (Ext.refl G w) h3 hd (x:= .v undef) (v:=undef) (by simp only[rep]);exact⟨G,h1,k4,k5,k6.trans h4,h5⟩
def yv(ops:Array Oper)(f:Nat→Option AV)(j:Nat):Option (Option Bool):=
 match (ops[j]?).bind (·.dst)with
 |none=>some none
 |some d=>match f d with
   |some (.v (.bool b))=>some (some b)
   |some (.v (.tuple _))=>some none
   |_=>none
def CP(ops:Array Oper)(f:Nat→Option AV)(o:Oper):Option Bool:=
 match o.guard with
 |none=>some true
 |some (j,want)=>match yv ops f j with
   |some (some b)=>some (b==want)
   |some none=>some false
   |none=>none
theorem Rd{ops:Array Oper}{o:Oper}{E:Env}{a:Act}{w:World}{t:Bool}(hr:Rel N E s a w)(h:CP ops s.sl o=some t):Region.wanted o (yielded ops a.tmps)=t:=by
 obtain⟨G,_,hs,_⟩:=hr;unfold CP at h;unfold Region.wanted
 cases hg:o.guard with
 |none=>simp only[hg]at h ⊢;injection h
 |some jw=>
   obtain⟨j,want⟩:=jw;simp only[hg]at h ⊢;unfold yv at h;unfold yielded
   cases hj:(ops[j]?).bind (·.dst)with
   |none=>simp only[hj]at h ⊢;simp at h ⊢;exact h.symm ▸ rfl
   |some d=>
     simp only[hj]at h ⊢
     cases hl:s.sl d with
     |none=>simp[hl]at h
     |some av=>
       have hrep:=hs d av hl;simp only[hl]at h
       cases av with
       |v x=>
         simp only[rep]at hrep;rw[Array.getD_eq_getD_getElem?]at hrep
         cases x with
         |bool b=>
           simp only at h;injection h with h
           cases hd:a.tmps[d]? with
           |none=>rw[hd]at hrep;simp[undef]at hrep
           |some y=>rw[hd]at hrep;simp at hrep;subst hrep;simp[hd,←h]
         |tuple vs=>
           simp only at h;injection h with h
           cases hd:a.tmps[d]? with
           |none=>simp[hd,←h]
           |some y=>rw[hd]at hrep;simp at hrep;subst hrep;simp[hd,←h]
         |_=>simp at h
       |_=>simp at h
def AL(P:Program)(N:Dim)(ops:Array Oper)(Q:Exit→AS→Prop)(rest:List Oper)(s:AS):Prop:=∀E a w,Rel N E s a w→wpList P ops (Oh N E Q) rest a w
theorem AX{id:Nat}{l:List Oper}(h:AL P N l.toArray Q l s):Bz P N (.region id l.toArray false) Q s:=fun E a w hr=>wp_region_lit (h E a w hr)
theorem AW{ops:Array Oper}(h:Q .normal s):AL P N ops Q [] s:=fun _ _ _ hr=>wpList_nil ⟨s,h,hr⟩
theorem Re{ops:Array Oper}{o:Oper}{rest:List Oper}(hg:o.guard=none)(hd:Fy o.dst N=true)(h:AStep P o (CA s.sl) s.h (fun x h'=>AL P N ops Q rest ⟨put o.dst x s.sl,h'⟩)):AL P N ops Q (o::rest) s:=
 fun E a w hr=>wpList_plain hg fun _ hK=>Oi hr hd h fun s' a' w' h1 h2=>hK _ _ (h1 E a' w' h2)
theorem Rf{ops:Array Oper}{o:Oper}{rest:List Oper}{t:Bool}(hg:CP ops s.sl o=some t)(hd:Fy o.dst N=true)(h:t=true→AStep P o (CA s.sl) s.h (fun x h'=>AL P N ops Q rest ⟨put o.dst x s.sl,h'⟩))
    (h':t=false→AL P N ops Q rest ⟨put o.dst (.v undef) s.sl,s.h⟩):AL P N ops Q (o::rest) s:=by
 intro E a w hr;refine wpList_step fun K hK=>?_;rw[Rd hr hg]
 cases t with
 |true=>exact Oi hr hd (h rfl) fun s' a' w' h1 h2=>hK _ _ (h1 E a' w' h2)
 |false=>exact hK _ _ (h' rfl E _ _ (Rc hr hd))
theorem WF{ops:Array Oper}{o:Oper}{rest:List Oper}(hg:CP ops s.sl o=some true)(hd:Fy o.dst N=true)(h:AStep P o (CA s.sl) s.h (fun x h'=>AL P N ops Q rest ⟨put o.dst x s.sl,h'⟩)):AL P N ops Q (o::rest) s:=
 Rf hg hd (fun _=>h) (fun h=>by cases h)
theorem Rg{ops:Array Oper}{o:Oper}{rest:List Oper}(hg:CP ops s.sl o=some false)(hd:Fy o.dst N=true)(h:AL P N ops Q rest ⟨put o.dst (.v undef) s.sl,s.h⟩):AL P N ops Q (o::rest) s:=
 Rf hg hd (fun h=>by cases h) (fun _=>h)
def AOp(P:Program)(N:Dim)(ops:Array Oper)(i:Nat)(K:AS→Prop)(s:AS):Prop:=
 match ops[i]? with
 |none=>False
 |some o=>Fy o.dst N=true∧∃t,CP ops s.sl o=some t∧(t=true→AStep P o (CA s.sl) s.h (fun x h'=>K ⟨put o.dst x s.sl,h'⟩))∧(t=false→K ⟨put o.dst (.v undef) s.sl,s.h⟩)
def AAny(P:Program)(N:Dim)(ops:Array Oper)(Q:Exit→AS→Prop)(S:AH→Prop)(tl:Nat):Nat→Array Bool→AS→Prop
 |0,listed,s=>Region.ready .any ops listed=[]∧Q .normal s
 |fuel+1,listed,s=>(Region.ready .any ops listed=[]→Q .normal s)∧∀i∈Region.ready .any ops listed,AOp P N ops i (fun s'=>(Nat.ble tl i=true∨S s'.h)∧AAny P N ops Q S tl fuel (listed.setIfInBounds i true) s') s
theorem AOp.wp{ops:Array Oper}{i:Nat}{K:AS→Prop}{E:Env}{a:Act}{w:World}{next:Act→World→Prop}{Q':Exit→Act→World→Prop}(hr:Rel N E s a w)(h:AOp P N ops i K s)(hn:∀s' a' w',K s'→Rel N E s' a' w'→next a' w'):wpOp P ops Q' i next a w:=by
 unfold AOp at h;unfold wpOp
 cases ho:ops[i]? with
 |none=>simp only[ho]at h
 |some o=>
   simp only[ho]at h ⊢;obtain⟨hd,t,ht,h1,h2⟩:=h;rw[Rd hr ht]
   cases t with
   |true=>exact .inl (Oi hr hd (h1 rfl) hn)
   |false=>exact hn _ _ _ (h2 rfl) (Rc hr hd)
theorem AAny.wp{ops:Array Oper}{S:AH→Prop}{tl:Nat}{E:Env}:∀(fuel:Nat) (listed:Array Bool) (s:AS) (a:Act) (w:World),Rel N E s a w→AAny P N ops Q S tl fuel listed s→wpAny P .any ops (Oh N E Q) fuel listed a w
 |0,_,s,_,_,hr,h=>⟨h.1,s,h.2,hr⟩
 |fuel+1,_,s,_,_,hr,h=>⟨fun h0=>⟨s,h.1 h0,hr⟩,fun i hi=>(h.2 i hi).wp hr fun s' a' w' hk hr'=>AAny.wp fuel _ s' a' w' hr' hk.2⟩
theorem Rel.drew{E:Env}{a:Act}{w:World}(hr:Rel N E s a w):Rel N E s a {w with drawn:=w.drawn+1}:=by
 obtain⟨G,h1,h2,h3⟩:=hr;obtain⟨k1,k2⟩:=h1.below (w':={w with drawn:=w.drawn+1}) ⟨rfl,rfl,rfl,Av _,fun _ _=>rfl⟩;exact⟨G,k1,fun t x ht=>Hc k2 _ _ (h2 t x ht),h3⟩
theorem KT{id:Nat}{l:List Oper}(S:AH→Prop)(tl:Nat)(hm:P.follows .mixedOrders=true)(h:AAny P N l.toArray Q S tl l.length (Array.replicate l.length false) s):Bz P N (.region id l.toArray true) Q s:=by
 intro E a w hr;refine wp_region_any hm ?_;have:=AAny.wp (Q:=Q) l.length (Array.replicate l.length false) s a _ hr.drew h
 simpa using this
end
section
variable {P:Program}{N:Dim}{Q:Exit→AS→Prop}{ops:Array Oper}{S:AH→Prop}{tl:Nat}
theorem Rh{x y:Option Tmp}(f:Nat→Option AV)(u v:AV)(h:∀d,x=some d→y≠some d):put y v (put x u f)=put x u (put y v f):=by
 cases x with
 |none=>rfl
 |some d=>
   cases y with
   |none=>rfl
   |some e=>
     have hne:d≠e:=fun he=>h d rfl (he ▸ rfl)
     funext t
     simp only[Fz];by_cases h1:d=t
     ·by_cases h2:e=t
      ·exact absurd (h1.trans h2.symm) hne
      rw[if_neg h2,if_pos h1,if_pos h1]
     rw[if_neg h1,if_neg h1]
theorem Ri{d:Option Tmp}(f:Nat→Option AV)(u:AV){t:Nat}(h:d≠some t):put d u f t=f t:=by
 cases d with
 |none=>rfl
 |some d=>rw[Fz,if_neg (fun e=>h (by rw[e]))]
theorem Oj{d:Option Tmp}(f:Nat→Option AV)(u:AV){x:Operand}(h:∀t,d=some t→x≠ .tmp t):CA (put d u f) x=CA f x:=by
 cases x with
 |tmp t=>exact Ri f u (fun e=>h t e rfl)
 |_=>rfl
theorem Ok{o:Oper}{t:Tmp}(h:Operand.tmp t∈o.op.operands):t∈o.looksAt ops:=by
 unfold Oper.looksAt;refine List.mem_append.2 (.inl (List.mem_filterMap.2 ⟨.tmp t,by simpa using h,rfl⟩))
theorem Mr{d:Option Tmp}{o:Oper}(f:Nat→Option AV)(u:AV)(h:∀t,d=some t→t∉o.looksAt ops):CP ops (put d u f) o=CP ops f o:=by
 unfold CP
 cases hg:o.guard with
 |none=>rfl
 |some jw=>
   obtain⟨j,want⟩:=jw;simp only;unfold yv
   cases hj:(ops[j]?).bind (·.dst)with
   |none=>rfl
   |some t=>
     simp only;rw[Ri f u];intro e;refine h t e ?_;unfold Oper.looksAt;rw[hg];simp only[hj];exact List.mem_append.2 (.inr (by simp))
def Steady(P:Program)(ops:Array Oper)(S:AH→Prop)(o:Oper)(x:AV)(f:Nat→Option AV):Prop:=
 (CP ops f o=some true∧∀h,S h→AStep P o (CA f) h (fun x' h'=>x'=x∧h'=h))∨(CP ops f o=some false∧x= .v undef)
theorem Steady.put{o:Oper}{x:AV}{f:Nat→Option AV}(hs:Steady P ops S o x f){d:Option Tmp}(u:AV)(h:∀t,d=some t→t∉o.looksAt ops):Steady P ops S o x (put d u f):=by
 rcases hs with⟨h1,h2⟩|⟨h1,h2⟩
 ·exact .inl ⟨by rw[Mr f u h];exact h1,fun hh hS=>(h2 hh hS).congr fun y hy=>Oj f u fun t e he=>h t e (Ok (he ▸ hy))⟩
 exact .inr ⟨by rw[Mr f u h];exact h1,h2⟩
theorem Steady.op{i:Nat}{o:Oper}{x:AV}{s:AS}{K:AS→Prop}(hi:ops[i]?=some o)(hd:Fy o.dst N=true)(hs:Steady P ops S o x s.sl)(hS:S s.h)(hK:K ⟨Go.Proofs.YtobclmbkdhbnpaaGreatDoor.put o.dst x s.sl,s.h⟩):AOp P N ops i K s:=by
 unfold AOp;simp only[hi];refine⟨hd,?_⟩;rcases hs with⟨h1,h2⟩|⟨h1,h2⟩
 ·exact⟨true,h1,fun _=>(h2 s.h hS).mono fun x' h' ⟨e1,e2⟩=>by subst e1;subst e2;exact hK,fun h=>by cases h⟩
 exact⟨false,h1,(fun h=>by cases h),fun _=>by subst h2;exact hK⟩
def Ol(ops:Array Oper)(tl:Nat):Bool:=
 (List.range ops.size).all fun k=>Nat.blt k tl||match ops[k]? with
   |none=>true
   |some o=>(List.range tl).all fun j=>o.after.any fun e=>Region.binds .any e&&e.on==j
theorem AAny.first{i:Nat}{oi:Oper}{x:AV}(hi:ops[i]?=some oi)(hd:Fy oi.dst N=true)(htl:Ol ops tl=true)(hit:Nat.ble tl i=false):
    ∀(fuel:Nat) (listed:Array Bool) (s:AS),
     (∀j oj,ops[j]?=some oj→j≠i→listed.getD j true=false→(∀e∈oj.after,Region.binds .any e=true→e.on≠i)→oi.apart ops oj=true)→
     i∈Region.ready .any ops listed→Steady P ops S oi x s.sl→S s.h→
     AAny P N ops Q S tl fuel (listed.setIfInBounds i true) ⟨put oi.dst x s.sl,s.h⟩→AAny P N ops Q S tl (fuel+1) listed s:=by
 intro fuel
 induction fuel with
 |zero=>
   intro listed s _ hr hy hS H;refine⟨fun h=>(by rw[h]at hr;cases hr),fun j hj=>?_⟩;by_cases hji:j=i
   ·subst hji;exact hy.op hi hd hS ⟨.inr hS,H⟩
   have:=ready_mono hj hji;rw[H.1]at this;cases this
 |succ fuel ih=>
   intro listed s hfree hr hy hS H;refine⟨fun h=>(by rw[h]at hr;cases hr),fun j hj=>?_⟩;by_cases hji:j=i
   ·subst hji;exact hy.op hi hd hS ⟨.inr hS,H⟩
   have h1:=H.2 j (ready_mono hj hji);obtain⟨hjun,oj,hoj,hall⟩:=mem_ready.1 hj
   have hnot:∀e∈oj.after,Region.binds .any e=true→e.on≠i:=fun e he hb heq=>by
    have h1:=hall e he hb;have h0:=(mem_ready.1 hr).1;rw[heq]at h1;rcases Nat.lt_or_ge i listed.size with h'|h'
    ·simp[h']at h0 h1;rw[h0]at h1;cases h1
    simp[Array.getElem?_eq_none h']at h1
   obtain⟨a1,a2,a3⟩:=Oper.apart_spec (hfree j oj hoj hji hjun hnot)
   have hfree':∀k ok,ops[k]?=some ok→k≠i→(listed.setIfInBounds j true).getD k true=false→
       (∀e∈ok.after,Region.binds .any e=true→e.on≠i)→oi.apart ops ok=true:=fun k ok hk hki hun hno=>by
    refine hfree k ok hk hki ?_ hno;by_cases hjk:j=k
    ·subst hjk;exact hjun
    rw[getD_set_ne true hjk]at hun;exact hun
   have hjt:¬Nat.ble tl j=true:=by
    intro e;rw[Nat.ble_eq]at e
    have hil:i<tl:=by
     rw[←Bool.not_eq_true,Nat.ble_eq]at hit;omega
    unfold Ol at htl;have h1:=List.all_eq_true.1 htl j (List.mem_range.2 (Array.getElem?_eq_some_iff.1 hoj).1);rw[Bool.or_eq_true,Nat.blt_eq]at h1;rcases h1 with h1|h1
    ·omega
    rw[hoj]at h1;have h2:=List.all_eq_true.1 h1 i (List.mem_range.2 hil);obtain⟨e,he,hb⟩:=Array.any_eq_true'.1 h2;simp only[Bool.and_eq_true,beq_iff_eq]at hb;exact hnot e he hb.1 hb.2
   have hgo:∀(y:AV) (h':AH),S h'→AAny P N ops Q S tl fuel ((listed.setIfInBounds i true).setIfInBounds j true) ⟨put oj.dst y (put oi.dst x s.sl),h'⟩→
       AAny P N ops Q S tl (fuel+1) (listed.setIfInBounds j true) ⟨put oj.dst y s.sl,h'⟩:=fun y h' hS' hA=>by
    refine ih (listed.setIfInBounds j true) ⟨put oj.dst y s.sl,h'⟩ hfree' (ready_mono hr (Ne.symm hji)) (hy.put y a3) hS' ?_;rw[Array.setIfInBounds_comm _ _ hji,←Rh s.sl x y a2];exact hA
   unfold AOp at h1 ⊢;simp only[hoj]at h1 ⊢;obtain⟨k1,t,k2,k3,k4⟩:=h1;rw[Mr s.sl x a1]at k2;refine⟨k1,t,k2,fun ht=>?_,fun ht=>?_⟩
   ·refine((k3 ht).congr fun z hz=>(Oj s.sl x fun u e he=>a1 u e (Ok (he ▸ hz))).symm).mono ?_;rintro y h' ⟨q1,q2⟩;have q1':=q1.resolve_left hjt;exact⟨.inr q1',hgo y h' q1' q2⟩
   obtain⟨q1,q2⟩:=k4 ht;have q1':=q1.resolve_left hjt;exact⟨.inr q1',hgo (.v undef) s.h q1' q2⟩
def Clo(ops:Array Oper)(listed:Array Bool):Prop:=∀(k:Nat) (o:Oper),ops[k]?=some o→listed.getD k false=true→∀e∈o.after,Region.binds .any e=true→listed.getD e.on false=true
def Ms(ops:Array Oper)(listed:Array Bool):Bool:=
 (List.range ops.size).all fun k=> !listed.getD k false||match ops[k]? with
   |none=>true
   |some o=>o.after.all fun e=> !Region.binds .any e||listed.getD e.on false
theorem Rj{listed:Array Bool}(h:Ms ops listed=true):Clo ops listed:=by
 intro k o hk hl e he hb;have h1:=List.all_eq_true.1 h k (List.mem_range.2 (Array.getElem?_eq_some_iff.1 hk).1);simp only[hl,Bool.not_true,Bool.false_or,hk]at h1;have h2:=Array.all_eq_true'.1 h1 e he
 simpa[hb]using h2
theorem Clo.step{listed:Array Bool}(h:Clo ops listed){j:Nat}{oj:Oper}(hj:ops[j]?=some oj)(hall:∀e∈oj.after,Region.binds .any e=true→listed.getD e.on false=true):Clo ops (listed.setIfInBounds j true):=by
 intro k o hk hl e he hb;refine getD_set_true ?_;by_cases hjk:j=k
 ·subst hjk;rw[hj]at hk;injection hk with hk;subst hk;exact hall e he hb
 rw[getD_set_ne false hjk]at hl;exact h k o hk hl e he hb
def Mt(ops:Array Oper)(tl:Nat):Bool:=
 (List.range ops.size).all fun j=>(Nat.ble tl j&&(j==tl||match ops[j]? with
   |none=>false
   |some o=>o.after.any fun e=>Region.binds .any e&&e.on==tl))||(Nat.blt j tl&&(List.range ops.size).any fun k=>Nat.blt j k&&Nat.ble k tl&&match ops[k]? with
   |none=>false
   |some o=>o.after.any fun e=>Region.binds .any e&&e.on==j)
theorem WG{listed:Array Bool}{j:Nat}{oj:Oper}(h:Mt ops tl=true)(hc:Clo ops listed)(hj:tl≤j)(hoj:ops[j]?=some oj)(hall:∀e∈oj.after,Region.binds .any e=true→listed.getD e.on false=true):∀i,i<tl→listed.getD i false=true:=by
 have hjs:=(Array.getElem?_eq_some_iff.1 hoj).1;have hts:tl<ops.size:=by omega
 have htl:∀ot,ops[tl]?=some ot→∀e∈ot.after,Region.binds .any e=true→listed.getD e.on false=true:=by
  intro ot ho;by_cases hjt:j=tl
  ·subst hjt;rw[hoj]at ho;injection ho with ho;subst ho;exact hall
  have h4:=List.all_eq_true.1 h j (List.mem_range.2 hjs);rw[Bool.or_eq_true,Bool.and_eq_true,Bool.and_eq_true,Nat.blt_eq]at h4;rcases h4 with h4|h4
  ·have h5:=h4.2;rw[hoj]at h5;simp only[Bool.or_eq_true,beq_iff_eq,hjt,false_or]at h5;obtain⟨e,he,hb⟩:=Array.any_eq_true'.1 h5;simp only[Bool.and_eq_true,beq_iff_eq]at hb;have h6:=hall e he hb.1;rw[hb.2]at h6;exact hc tl ot ho h6
  omega
 have key:∀(n i:Nat),tl - i≤n→i<tl→listed.getD i false=true:=by
  intro n
  induction n with
  |zero=>intro i h1 h2;omega
  |succ n ih=>
    intro i h1 h2;have h4:=List.all_eq_true.1 h i (List.mem_range.2 (by omega));rw[Bool.or_eq_true,Bool.and_eq_true,Bool.and_eq_true,Nat.ble_eq,Nat.blt_eq]at h4;rcases h4 with h4|h4
    ·omega
    obtain⟨k,hk,h5⟩:=List.any_eq_true.1 h4.2;simp only[Bool.and_eq_true,Nat.blt_eq,Nat.ble_eq]at h5;obtain⟨⟨h6,h6'⟩,h7⟩:=h5
    cases ho:ops[k]? with
    |none=>rw[ho]at h7;cases h7
    |some o=>
      rw[ho]at h7;obtain⟨e,he,hb⟩:=Array.any_eq_true'.1 h7;simp only[Bool.and_eq_true,beq_iff_eq]at hb;by_cases hkt:k=tl
      ·subst hkt;have:=htl o ho e he hb.1
       rwa [hb.2]at this
      have:=hc k o ho (ih k (by omega) (by omega)) e he hb.1
      rwa [hb.2]at this
 exact fun i=>key _ i (Av _)
theorem AAny.first3{i:Nat}{oi:Oper}{x:AV}(hi:ops[i]?=some oi)(hd:Fy oi.dst N=true)(htl:Mt ops tl=true)(hit:Nat.ble tl i=false):
    ∀(fuel:Nat) (listed:Array Bool) (s:AS),Clo ops listed→
     (∀j oj,ops[j]?=some oj→j≠i→listed.getD j true=false→(∀e∈oj.after,Region.binds .any e=true→e.on≠i)→oi.apart ops oj=true)→
     i∈Region.ready .any ops listed→Steady P ops S oi x s.sl→S s.h→
     AAny P N ops Q S tl fuel (listed.setIfInBounds i true) ⟨put oi.dst x s.sl,s.h⟩→AAny P N ops Q S tl (fuel+1) listed s:=by
 intro fuel
 induction fuel with
 |zero=>
   intro listed s _ _ hr hy hS H;refine⟨fun h=>(by rw[h]at hr;cases hr),fun j hj=>?_⟩;by_cases hji:j=i
   ·subst hji;exact hy.op hi hd hS ⟨.inr hS,H⟩
   have:=ready_mono hj hji;rw[H.1]at this;cases this
 |succ fuel ih=>
   intro listed s hcl hfree hr hy hS H;refine⟨fun h=>(by rw[h]at hr;cases hr),fun j hj=>?_⟩;by_cases hji:j=i
   ·subst hji;exact hy.op hi hd hS ⟨.inr hS,H⟩
   have h1:=H.2 j (ready_mono hj hji);obtain⟨hjun,oj,hoj,hall⟩:=mem_ready.1 hj
   have hun:∀k,k=i→listed.getD k false=true→False:=fun k hk h1=>by
    have h0:=(mem_ready.1 hr).1;rw[hk]at h1;rcases Nat.lt_or_ge i listed.size with h'|h'
    ·simp[h']at h0 h1;rw[h0]at h1;cases h1
    simp[Array.getElem?_eq_none h']at h1
   have hnot:∀e∈oj.after,Region.binds .any e=true→e.on≠i:=fun e he hb heq=>hun _ heq (hall e he hb);obtain⟨a1,a2,a3⟩:=Oper.apart_spec (hfree j oj hoj hji hjun hnot)
   have hfree':∀k ok,ops[k]?=some ok→k≠i→(listed.setIfInBounds j true).getD k true=false→
       (∀e∈ok.after,Region.binds .any e=true→e.on≠i)→oi.apart ops ok=true:=fun k ok hk hki hun hno=>by
    refine hfree k ok hk hki ?_ hno;by_cases hjk:j=k
    ·subst hjk;exact hjun
    rw[getD_set_ne true hjk]at hun;exact hun
   have hjt:¬Nat.ble tl j=true:=by
    intro e;rw[Nat.ble_eq]at e
    have hil:i<tl:=by
     rw[←Bool.not_eq_true,Nat.ble_eq]at hit;omega
    exact hun _ rfl (WG htl hcl e hoj hall _ hil)
   have hgo:∀(y:AV) (h':AH),S h'→AAny P N ops Q S tl fuel ((listed.setIfInBounds i true).setIfInBounds j true) ⟨put oj.dst y (put oi.dst x s.sl),h'⟩→
       AAny P N ops Q S tl (fuel+1) (listed.setIfInBounds j true) ⟨put oj.dst y s.sl,h'⟩:=fun y h' hS' hA=>by
    refine ih (listed.setIfInBounds j true) ⟨put oj.dst y s.sl,h'⟩ (hcl.step hoj hall) hfree' (ready_mono hr (Ne.symm hji)) (hy.put y a3) hS' ?_;rw[Array.setIfInBounds_comm _ _ hji,←Rh s.sl x y a2];exact hA
   unfold AOp at h1 ⊢;simp only[hoj]at h1 ⊢;obtain⟨k1,t,k2,k3,k4⟩:=h1;rw[Mr s.sl x a1]at k2;refine⟨k1,t,k2,fun ht=>?_,fun ht=>?_⟩
   ·refine((k3 ht).congr fun z hz=>(Oj s.sl x fun u e he=>a1 u e (Ok (he ▸ hz))).symm).mono ?_;rintro y h' ⟨q1,q2⟩;have q1':=q1.resolve_left hjt;exact⟨.inr q1',hgo y h' q1' q2⟩
   obtain⟨q1,q2⟩:=k4 ht;have q1':=q1.resolve_left hjt;exact⟨.inr q1',hgo (.v undef) s.h q1' q2⟩
def Gj(ops:Array Oper)(tl:Nat)(listed:Array Bool):Bool:=Ol ops tl||(Mt ops tl&&Ms ops listed)
theorem AAny.firstX{i:Nat}{oi:Oper}{x:AV}{listed:Array Bool}(hi:ops[i]?=some oi)(hd:Fy oi.dst N=true)(htl:Gj ops tl listed=true)(hit:Nat.ble tl i=false)(fuel:Nat)(s:AS)
      (hf:∀j oj,ops[j]?=some oj→j≠i→listed.getD j true=false→(∀e∈oj.after,Region.binds .any e=true→e.on≠i)→oi.apart ops oj=true)
      (hr:i∈Region.ready .any ops listed) (hs:Steady P ops S oi x s.sl) (hS:S s.h)
      (H:AAny P N ops Q S tl fuel (listed.setIfInBounds i true) ⟨put oi.dst x s.sl,s.h⟩):AAny P N ops Q S tl (fuel+1) listed s:=by
 unfold Gj at htl;rw[Bool.or_eq_true]at htl;rcases htl with h|h
 ·exact AAny.first hi hd h hit fuel listed s hf hr hs hS H
 rw[Bool.and_eq_true]at h;exact AAny.first3 hi hd h.1 hit fuel listed s (Rj h.2) hf hr hs hS H
end
section
variable {P:Program}{N:Dim}{Q:Exit→AS→Prop}{l:List Oper}{S:AH→Prop}{tl:Nat}{fuel:Nat}{listed:Array Bool}{f:Nat→Option AV}{h:AH}
theorem Gk{i:Nat}{oi:Oper}(hi:l[i]?=some oi):l.toArray[i]?=some oi:=by simpa using hi
end
section
variable {P:Program}{N:Dim}{Q:Exit→AS→Prop}{l:List Oper}{S:AH→Prop}{tl:Nat}{fuel:Nat}{listed:Array Bool}{m:List (Nat×AV)}{h:AH}{op:Op}{ty:TypeId}{pos:String}{af:Array Edge}{gd:Option (Nat×Bool)}
theorem BR{i d:Nat}{x:AV}(hi:l[i]?=some ⟨some d,op,ty,pos,af,gd⟩)(hd:Nat.blt d N.n=true)(htl:(Gj l.toArray tl listed&& !Nat.ble tl i&&Region.free .any l.toArray listed i&&(Region.ready .any l.toArray listed).contains i)=true)
    (hw:CP l.toArray (look m) ⟨some d,op,ty,pos,af,gd⟩=some true) (hst:∀h,S h→AStep P ⟨some d,op,ty,pos,af,gd⟩ (CA (look m)) h (fun x' h'=>x'=x∧h'=h)) (hS:S h)
    (H:AAny P N l.toArray Q S tl fuel (listed.setIfInBounds i true) ⟨look ((d,x)::m),h⟩):AAny P N l.toArray Q S tl (fuel+1) listed ⟨look m,h⟩:=by
 simp only[Bool.and_eq_true,Bool.not_eq_true']at htl;obtain⟨⟨⟨t1,t2⟩,t3⟩,t4⟩:=htl;exact AAny.firstX (oi:=⟨some d,op,ty,pos,af,gd⟩) (Gk hi) hd t1 t2 fuel ⟨look m,h⟩ (Region.free_spec (Gk hi) t3) (List.contains_iff_mem.1 t4) (.inl ⟨hw,hst⟩) hS H
theorem Rk{i d:Nat}{x:AV}(hi:l[i]?=some ⟨some d,op,ty,pos,af,gd⟩)(hd:Nat.blt d N.n=true)(htl:(Gj l.toArray tl listed&& !Nat.ble tl i&&Region.free .any l.toArray listed i&&(Region.ready .any l.toArray listed).contains i)=true)
    (hw:CP l.toArray (look m) ⟨some d,op,ty,pos,af,gd⟩=some true) (hst:AStep P ⟨some d,op,ty,pos,af,gd⟩ (CA (look m)) h (fun x' h'=>x'=x∧h'=h))
    (H:AAny P N l.toArray Q (fun h'=>h'=h) tl fuel (listed.setIfInBounds i true) ⟨look ((d,x)::m),h⟩):AAny P N l.toArray Q (fun h'=>h'=h) tl (fuel+1) listed ⟨look m,h⟩:=
 BR hi hd htl hw (fun h' e=>by subst e;exact hst) rfl H
theorem WH{i d:Nat}(hi:l[i]?=some ⟨some d,op,ty,pos,af,gd⟩)(hd:Nat.blt d N.n=true)(htl:(Gj l.toArray tl listed&& !Nat.ble tl i&&Region.free .any l.toArray listed i&&(Region.ready .any l.toArray listed).contains i)=true)
    (hw:CP l.toArray (look m) ⟨some d,op,ty,pos,af,gd⟩=some false) (hS:S h)
    (H:AAny P N l.toArray Q S tl fuel (listed.setIfInBounds i true) ⟨look ((d, .v undef)::m),h⟩):AAny P N l.toArray Q S tl (fuel+1) listed ⟨look m,h⟩:=by
 simp only[Bool.and_eq_true,Bool.not_eq_true']at htl;obtain⟨⟨⟨t1,t2⟩,t3⟩,t4⟩:=htl;exact AAny.firstX (oi:=⟨some d,op,ty,pos,af,gd⟩) (Gk hi) hd t1 t2 fuel ⟨look m,h⟩ (Region.free_spec (Gk hi) t3) (List.contains_iff_mem.1 t4) (.inr ⟨hw,rfl⟩) hS H
theorem WJ{i d:Nat}(hi:l[i]?=some ⟨some d,op,ty,pos,af,gd⟩)(hd:Nat.blt d N.n=true)(hr:Region.ready .any l.toArray listed=[i])(hw:CP l.toArray (look m) ⟨some d,op,ty,pos,af,gd⟩=some true)
    (H:AStep P ⟨some d,op,ty,pos,af,gd⟩ (CA (look m)) h (fun x h'=>(Nat.ble tl i=true∨S h')∧AAny P N l.toArray Q S tl fuel (listed.setIfInBounds i true) ⟨look ((d,x)::m),h'⟩)):AAny P N l.toArray Q S tl (fuel+1) listed ⟨look m,h⟩:=by
 refine⟨(fun h0=>by rw[hr]at h0;cases h0),fun j hj=>?_⟩;rw[hr]at hj;simp at hj;subst hj;unfold AOp;simp only[Gk hi];exact⟨hd,true,hw,fun _=>H,fun h=>by cases h⟩
theorem WK{i:Nat}(hi:l[i]?=some ⟨none,op,ty,pos,af,gd⟩)(hr:Region.ready .any l.toArray listed=[i])(hw:CP l.toArray (look m) ⟨none,op,ty,pos,af,gd⟩=some true)
    (H:AStep P ⟨none,op,ty,pos,af,gd⟩ (CA (look m)) h (fun _ h'=>(Nat.ble tl i=true∨S h')∧AAny P N l.toArray Q S tl fuel (listed.setIfInBounds i true) ⟨look m,h'⟩)):AAny P N l.toArray Q S tl (fuel+1) listed ⟨look m,h⟩:=by
 refine⟨(fun h0=>by rw[hr]at h0;cases h0),fun j hj=>?_⟩;rw[hr]at hj;simp at hj;subst hj;unfold AOp;simp only[Gk hi];exact⟨rfl,true,hw,fun _=>H,fun h=>by cases h⟩
theorem Da{j:Nat}{t:Bool}(_hy:yv l.toArray (look m) j=some (some t))(h1:t=true→AAny P N l.toArray Q S tl fuel listed ⟨look m,h⟩)(h2:t=false→AAny P N l.toArray Q S tl fuel listed ⟨look m,h⟩):AAny P N l.toArray Q S tl fuel listed ⟨look m,h⟩:=by
 cases t with
 |true=>exact h1 rfl
 |false=>exact h2 rfl
theorem WM{id:Nat}(tl:Nat)(hm:P.follows .mixedOrders=true)(H:AAny P N l.toArray Q (fun h'=>h'=h) tl l.length (Array.replicate l.length false) ⟨look m,h⟩):Bz P N (.region id l.toArray true) Q ⟨look m,h⟩:=KT _ tl hm H
theorem WN(hr:Region.ready .any l.toArray listed=[])(hq:Q .normal ⟨look m,h⟩):∀fuel,AAny P N l.toArray Q S tl fuel listed ⟨look m,h⟩
 |0=>⟨hr,hq⟩
 |_+1=>⟨fun _=>hq,by rw[hr];simp⟩
theorem AO{o:Oper}{ops:Array Oper}{f:Nat→Option AV}{j:Nat}{want t:Bool}(hg:o.guard=some (j,want))(hy:yv ops f j=some (some t))(ht:(t==want)=true):CP ops f o=some true:=by simp only[CP,hg,hy,ht]
theorem Om{o:Oper}{ops:Array Oper}{f:Nat→Option AV}{j:Nat}{want t:Bool}(hg:o.guard=some (j,want))(hy:yv ops f j=some (some t))(ht:(t==want)=false):CP ops f o=some false:=by simp only[CP,hg,hy,ht]
theorem WO{o:Oper}{ops:Array Oper}{f:Nat→Option AV}{j:Nat}{want:Bool}(hg:o.guard=some (j,want))(hy:yv ops f j=some none):CP ops f o=some false:=by simp only[CP,hg,hy]
end
def On(P:Program)(T i:Nat):Option (Nat×Nat):=
 match P.underlying T with
 |some (.struct fs)=>match fs[i]? with
   |some f=>(P.info? f.type).bind fun inf=>if inf.size=0 then none else some (f.offset,inf.size)
   |none=>none
 |_=>none
def KU(P:Program)(T:Nat):Option (Nat×Bool):=
 match P.underlying T,P.info? T with
 |some d,some i=>some (i.size,d.isRow)
 |_,_=>none
def Jh(P:Program)(T:Nat):Option (Nat×Nat×Nat):=
 match P.underlying T with
 |some (.slice E)=>match P.info? E with
   |some i=>match i.zero with
     |some z=>if z.cells.size=i.size∧0<i.size then some (E,i.size,i.bytes)else none
     |none=>none
   |none=>none
 |_=>none
def Mu(P:Program)(T:Nat):Option (List Value):=(P.info? T).bind fun i=>i.zero.map fun z=>z.cells.toList
class Fld (P:Program) (T i:Nat) (off sz:outParam Nat):Prop where
 eq:On P T i=some (off,sz)
class Typ (P:Program) (T:Nat) (sz:outParam Nat) (ag:outParam Bool):Prop where
 eq:KU P T=some (sz,ag)
class Elm (P:Program) (T:Nat) (E sz bytes:outParam Nat):Prop where
 eq:Jh P T=some (E,sz,bytes)
 few:bytes≤100000
class Zer (P:Program) (T:Nat) (row:outParam (List AV)):Prop where
 eq:∃zs,Mu P T=some zs∧zs.map AV.v=row∧zs.all (·.oneCell')=true
def Oo(P:Program)(T:Nat):Option (List (Nat×Nat)):=
 match P.underlying T with
 |some (.struct fs)=>fs.toList.mapM fun f=>(P.info? f.type).map fun i=>(f.offset,i.size)
 |some (.array n e)=>(P.info? e).map fun i=>(List.range n).map fun k=>(k * i.size,i.size)
 |_=>none
class Plc (P:Program) (T:Nat) (pl:outParam (List (Nat×Nat))):Prop where
 eq:Oo P T=some pl
section
variable {P:Program}{ev:Operand→Option AV}{h:AH}{R:AV→AH→Prop}{d:Option Tmp}{ty:TypeId}{pos:String}{af:Array Edge}{gd:Option (Nat×Bool)}
theorem Cv{o:Oper}{x:AV}(hrun:∀(E:Env) (G:Gh) (w:World) (ec:Operand→Value),HRel E G h w→(∀x∈o.op.operands,∀av,ev x=some av→rep G w av (ec x))→∃v,(execOp ec o).run P w= .ok (.value v) w∧rep G w x v)(hR:R x h):AStep P o ev h R:=by
 intro E G w ec hr he;obtain⟨v,h1,h2⟩:=hrun E G w ec hr he;rw[h1];exact⟨x,h,G,hR,hr,Ext.refl G w,h2⟩
theorem En{x:Operand}{av:AV}(hx:ev x=some av)(hR:R av h):AStep P ⟨d, .move x,ty,pos,af,gd⟩ ev h R:=
 Cv (fun _ _ _ ec _ he=>⟨ec x,rfl,he x (by simp[Op.operands]) av hx⟩) hR
theorem Gl{x:Operand}{av:AV}(hx:ev x=some av)(hR:R av h):AStep P ⟨d, .assign x,ty,pos,af,gd⟩ ev h R:=
 Cv (fun _ _ _ ec _ he=>⟨ec x,rfl,he x (by simp[Op.operands]) av hx⟩) hR
theorem WP{c a b:Operand}{t:Bool}{av:AV}(hc:ev c=some (.v (.bool t)))(ht:t=true)(hx:ev a=some av)(hR:R av h):AStep P ⟨d, .pick c a b,ty,pos,af,gd⟩ ev h R:=
 Cv (fun _ G w ec _ he=>⟨ec a,by
  have h1:=he c (by simp[Op.operands]) _ hc;simp only[rep]at h1
  simp[execOp,h1,asBool,ht],he a (by simp[Op.operands]) av hx⟩) hR
theorem WQ{c a b:Operand}{t:Bool}{av:AV}(hc:ev c=some (.v (.bool t)))(ht:t=false)(hx:ev b=some av)(hR:R av h):AStep P ⟨d, .pick c a b,ty,pos,af,gd⟩ ev h R:=
 Cv (fun _ G w ec _ he=>⟨ec b,by
  have h1:=he c (by simp[Op.operands]) _ hc;simp only[rep]at h1
  simp[execOp,h1,asBool,ht],he b (by simp[Op.operands]) av hx⟩) hR
theorem Mv{x:Operand}{i:Nat}{cs:List AV}{av:AV}(hx:ev x=some (.tup cs))(hi:cs[i]?=some av)(hR:R av h):AStep P ⟨d, .extract x i,ty,pos,af,gd⟩ ev h R:=by
 refine Cv (fun _ G w ec _ he=>?_) hR;have h1:=he x (by simp[Op.operands]) _ hx;simp only[rep]at h1;obtain⟨ys,h2,h3⟩:=h1;obtain⟨y,h4,h5⟩:=LN h3 hi;exact⟨y,by simp[execOp,h2,Instr.extract,h4],h5⟩
theorem Gm{x:Operand}{i off:Nat}(hx:ev x=some (.bp i off))(hR:R (.bp i off) h):AStep P ⟨d, .nilCheck x,ty,pos,af,gd⟩ ev h R:=by
 refine Cv (fun _ G w ec _ he=>?_) hR;have h1:=he x (by simp[Op.operands]) _ hx;have h2:=h1;simp only[rep]at h1;obtain⟨b,_,h3⟩:=h1;exact⟨ec x,by simp[execOp,h3],h2⟩
theorem Gp{x:Operand}{row:List AV}(hx:ev x=some (.fp row))(hR:R (.fp row) h):AStep P ⟨d, .nilCheck x,ty,pos,af,gd⟩ ev h R:=by
 refine Cv (fun _ G w ec _ he=>?_) hR;have h1:=he x (by simp[Op.operands]) _ hx;have h2:=h1;simp only[rep]at h1;obtain⟨b,off,h3,_⟩:=h1;exact⟨ec x,by simp[execOp,h3],h2⟩
theorem Rl{T i off sz:Nat}(hf:On P T i=some (off,sz))(b o:Nat)(w:World):(Instr.fieldAt T (.pointer (some ⟨b,o,none⟩)) i).run P w= .ok (.pointer (some ⟨b,o+off,none⟩)) w:=by
 unfold On at hf
 cases hu:P.underlying T with
 |none=>simp[hu]at hf
 |some dsc=>
   cases dsc<;>try (simp[hu]at hf;done)
   case struct fs=>
    cases hfi:fs[i]? with
    |none=>simp[hu,hfi]at hf
    |some f=>
      cases hi:P.info? f.type with
      |none=>simp[hu,hfi,hi]at hf
      |some inf=>
        by_cases h0:inf.size=0
        ·simp[hu,hfi,hi,h0]at hf
        simp[hu,hfi,hi,h0]at hf;simp[Instr.fieldAt,run_underlying hu,hfi,Instr.sureAddr,fieldPlace,sizeOf,typeInfo,hi,h0,Addr.add_mid,hf.1]
theorem Ee{T:TypeId}{x:Operand}{i j o off sz:Nat}[hf:Fld P T i off sz](hx:ev x=some (.bp j o))(hR:R (.bp j (o+off)) h):AStep P ⟨d, .fieldAddr T x i,ty,pos,af,gd⟩ ev h R:=by
 refine Cv (fun _ G w ec _ he=>?_) hR;have h1:=he x (by simp[Op.operands]) _ hx;simp only[rep]at h1;obtain⟨b,h2,h3⟩:=h1;exact⟨.pointer (some ⟨b,o+off,none⟩),by simp[execOp,h3,Rl hf.eq],by simp only[rep];exact⟨b,h2,rfl⟩⟩
theorem Gq{T:TypeId}{x:Operand}{row:List AV}{i off sz:Nat}[hf:Fld P T i off sz](hx:ev x=some (.fp row))(hR:R (.fp (row.drop off)) h):AStep P ⟨d, .fieldAddr T x i,ty,pos,af,gd⟩ ev h R:=by
 refine Cv (fun _ G w ec _ he=>?_) hR;have h1:=he x (by simp[Op.operands]) _ hx;simp only[rep]at h1;obtain⟨b,o,h2,h3⟩:=h1;exact⟨.pointer (some ⟨b,o+off,none⟩),by simp[execOp,h2,Rl hf.eq],by simp only[rep];exact⟨b,o+off,rfl,LP h3 off⟩⟩
theorem Ey{T E sz bytes:Nat}(he:Jh P T=some (E,sz,bytes)):P.underlying T=some (.slice E)∧∃i z,P.info? E=some i∧i.zero=some z∧z.cells.size=sz∧i.size=sz∧i.bytes=bytes∧0<sz:=by
 unfold Jh at he
 cases hu:P.underlying T with
 |none=>simp[hu]at he
 |some dsc=>
   cases dsc<;>try (simp[hu]at he;done)
   case slice E'=>
    cases hi:P.info? E' with
    |none=>simp[hu,hi]at he
    |some i=>
      cases hz:i.zero with
      |none=>simp[hu,hi,hz]at he
      |some z=>
        simp[hu,hi,hz]at he;obtain⟨⟨h1,h2⟩,rfl,rfl,rfl⟩:=he;exact⟨rfl,i,z,hi,hz,h1,rfl,rfl,h2⟩
theorem CM{T:TypeId}{x ix:Operand}{E sz bytes n:Nat}{k:IntKind}{i:Int}{rows:List (List AV)}{tok:Option Nat}{row:List AV}[hE:Elm P T E sz bytes]
    (hx:ev x=some (.sl sz rows tok)) (hi:ev ix=some (.v (.int k i))) (hn:i=(n:Int)) (hrow:rows[n]?=some row) (hR:R (.fp row) h):AStep P ⟨d, .indexAddr T x ix,ty,pos,af,gd⟩ ev h R:=by
 refine Cv (fun _ G w ec _ he=>?_) hR;have h1:=FD _ _ (he x (by simp[Op.operands]) _ hx);have h2:=he ix (by simp[Op.operands]) _ hi;simp only[rep]at h2;simp only[Cl,Ak]at h1;obtain⟨_,A,cap,h3,_,_,h4⟩:=h1;obtain⟨hu,inf,z,hinf,_,_,hs,_,_⟩:=Ey hE.eq;have hlt:n<rows.length:=(Ai.1 hrow).1;rcases h4 with h4|⟨b,off,rfl,h4⟩
 ·subst h4;simp at hlt
 obtain⟨h5,h6⟩:=Jg h4 hrow;subst hn;refine⟨.pointer (some ⟨b,off+n * sz,none⟩),?_,by simp only[rep];exact⟨b,_,rfl,h6⟩⟩;simp[execOp,h2,h3,Instr.indexAt,asIntOf,run_underlying hu,hlt,sizeOf,typeInfo,hinf,hs,Addr.add_mid]
theorem Oq{T sz:Nat}{ag:Bool}(ht:KU P T=some (sz,ag)):∃dsc i,P.underlying T=some dsc∧P.info? T=some i∧i.size=sz∧dsc.isRow=ag:=by
 unfold KU at ht
 cases hu:P.underlying T with
 |none=>simp[hu]at ht
 |some dsc=>
   cases hi:P.info? T with
   |none=>simp[hu,hi]at ht
   |some i=>
     simp[hu,hi]at ht;exact⟨dsc,i,rfl,rfl,ht.1,ht.2⟩
theorem Ot{T sz:Nat}(ht:KU P T=some (sz,false)){b o:Nat}{w:World}{u:Value}(hc:w.cell? ⟨b,o,none⟩=some u):(Instr.loadAt T (.pointer (some ⟨b,o,none⟩))).run P w= .ok u w:=by
 obtain⟨dsc,i,hu,hi,_,hd⟩:=Oq ht
 have hagg:(isAgg T).run P w= .ok false w:=by
  unfold isAgg;rw[Sem.run_bind,run_underlying hu w];cases dsc<;>simp_all
 simp[Instr.loadAt,Instr.sureAddr,loadVar,hagg,hc]
theorem Ou{T:Nat}{cs:List Value}(ht:KU P T=some (cs.length,true)){b o:Nat}{w:World}(hc:w.rangeAt b o cs):(Instr.loadAt T (.pointer (some ⟨b,o,none⟩))).run P w= .ok (.agg cs.toArray) w:=by
 obtain⟨dsc,i,hu,hi,hs,hd⟩:=Oq ht;exact run_loadAt_mid w b o T cs dsc hc hu hd (by rw[hi];simp[hs])
theorem Ov{St:Nat→Nat→Prop}{w:World}{b:Nat}:∀{xs:List AV} {off:Nat},Cu St w b xs off→∃us:List Value,Bc St w xs us∧(∀u∈us,u.oneCell'=true)∧w.rangeAt b off us
 |[],_,_=>⟨[],by simp only[Bc],by simp,fun j v hv=>by simp at hv⟩
 |x::xs,off,hc=>by
   simp only[Cu]at hc;obtain⟨⟨_,u,h1,h2,h3⟩,h4⟩:=hc;obtain⟨us,k1,k2,k3⟩:=Ov h4;refine⟨u::us,by simp only[Bc];exact⟨u,us,rfl,h3,k1⟩,?_,fun j v hv=>?_⟩
   ·intro y hy;rcases List.mem_cons.1 hy with e|e
    ·rw[e];exact h2
    exact k2 y e
   cases j with
   |zero=>simp at hv;subst hv;exact h1
   |succ j=>
     have:=k3 j v (by simpa using hv)
     rwa [show off+1+j=off+(j+1) by omega]at this
theorem Rm{St:Nat→Nat→Prop}{w:World}:∀{xs:List AV} {us:List Value},Bc St w xs us→∀n,Bc St w (xs.take n) (us.take n)
 |[],_,hf,n=>by simp only[Bc]at hf;subst hf;simp[Bc]
 |x::xs,_,hf,n=>by
   simp only[Bc]at hf;obtain⟨z,zs,rfl,h1,h2⟩:=hf
   cases n with
   |zero=>simp[Bc]
   |succ n=>simp only[List.take_succ_cons,Bc];exact⟨_,_,rfl,h1,Rm h2 n⟩
theorem LS{St:Nat→Nat→Prop}{w:World}:∀{xs:List AV} {ys:List Value},Bc St w xs ys→ys.length=xs.length
 |[],_,hf=>by simp only[Bc]at hf;rw[hf];rfl
 |x::xs,_,hf=>by
   simp only[Bc]at hf;obtain⟨z,zs,rfl,_,h3⟩:=hf;simp[LS h3]
theorem Gr{T:TypeId}{x:Operand}{sz:Nat}{row:List AV}{av:AV}[ht:Typ P T sz false](hx:ev x=some (.fp row))(hr:row[0]?=some av)(hR:R av h):AStep P ⟨d, .load T x,ty,pos,af,gd⟩ ev h R:=by
 refine Cv (fun _ G w ec _ he=>?_) hR;have h1:=he x (by simp[Op.operands]) _ hx;simp only[rep]at h1;obtain⟨b,o,h2,h3⟩:=h1;obtain⟨_,u,h4,_,h5⟩:=LO h3 hr;rw[Nat.add_zero]at h4;exact⟨u,by simp[execOp,h2,Ot ht.eq h4],Fc _ _ h5⟩
theorem Hd{T:TypeId}{x:Operand}{sz:Nat}{row:List AV}[ht:Typ P T sz true](hx:ev x=some (.fp row))(hr:Nat.ble sz row.length=true)(hR:R (.agg (row.take sz)) h):AStep P ⟨d, .load T x,ty,pos,af,gd⟩ ev h R:=by
 refine Cv (fun _ G w ec _ he=>?_) hR;have h1:=he x (by simp[Op.operands]) _ hx;simp only[rep]at h1;obtain⟨b,o,h2,h3⟩:=h1;obtain⟨us,h4,_,h5⟩:=Ov h3
 have hlen:(us.take sz).length=sz:=by
  have:=B6 hr;rw[List.length_take,LS h4];omega
 have hrng:w.rangeAt b o (us.take sz):=fun j v hv=>h5 j v (by
  rw[List.getElem?_take]at hv;split at hv
  ·exact hv
  cases hv)
 refine⟨.agg (us.take sz).toArray,by simp only[execOp,h2,Sem.run_bind,Ou (by rw[hlen];exact ht.eq) hrng,Result.andThen_ok,Sem.run_pure],?_⟩;simp only[rep];exact⟨_,rfl,J5 _ _ (Rm h4 sz)⟩
theorem J8{T:TypeId}{x:Operand}{sz:Nat}{row:List AV}[ht:Typ P T sz true](hx:ev x=some (.fp row))(hr:Nat.beq row.length sz=true)(hR:R (.agg row) h):AStep P ⟨d, .load T x,ty,pos,af,gd⟩ ev h R:=by
 have hr':row.length=sz:=Nat.eq_of_beq_eq_true hr;refine Hd (row:=row) hx (by rw[hr'];simp) ?_;rw[←hr',List.take_length];exact hR
theorem HRel.boxAt{E:Env}{G:Gh}{w:World}(hr:HRel E G h w){i b:Nat}{row:List AV}(hb:G.bx[i]?=some b)(hrow:h.bx[i]?=some row):Mp G w b row:=hr.box i b row hb hrow
theorem Mw{G:Gh}{w:World}:∀{xs:List AV} {us:List Value},AY G w xs us→∀n,AY G w (xs.take n) (us.take n)
 |[],_,hf,n=>by simp only[AY]at hf;subst hf;simp[AY]
 |x::xs,_,hf,n=>by
   simp only[AY]at hf;obtain⟨z,zs,rfl,h1,h2⟩:=hf
   cases n with
   |zero=>simp[AY]
   |succ n=>simp only[List.take_succ_cons,AY];exact⟨_,_,rfl,h1,Mw h2 n⟩
theorem Mx{G:Gh}{w:World}:∀{xs:List AV} {us:List Value},AY G w xs us→∀n,AY G w (xs.drop n) (us.drop n)
 |[],_,hf,n=>by simp only[AY]at hf;subst hf;simp[AY]
 |x::xs,_,hf,n=>by
   cases n with
   |zero=>simpa using hf
   |succ n=>
     simp only[AY]at hf;obtain⟨z,zs,rfl,h1,h2⟩:=hf;simp only[List.drop_succ_cons];exact Mx h2 n
theorem Rn{w:World}{b:Nat}{us:List Value}{T:TypeId}(hb:w.heap[b]?=some (.cells us.toArray T (0,0)))(off n:Nat):w.rangeAt b off ((us.drop off).take n):=by
 intro j v hv;rw[List.getElem?_take]at hv;split at hv
 ·rw[List.getElem?_drop]at hv;simp only[World.cell?,hb]
  simpa using hv
 cases hv
theorem Bh{T:TypeId}{x:Operand}{sz i o:Nat}{row:List AV}{av:AV}[ht:Typ P T sz false](hx:ev x=some (.bp i o))(hb:h.bx[i]?=some row)(hr:row[o]?=some av)(hR:R av h):AStep P ⟨d, .load T x,ty,pos,af,gd⟩ ev h R:=by
 refine Cv (fun _ G w ec hrel he=>?_) hR;have h1:=he x (by simp[Op.operands]) _ hx;simp only[rep]at h1;obtain⟨b,h2,h3⟩:=h1;obtain⟨us,T',k1,k2,k3⟩:=hrel.boxAt h2 hb;obtain⟨u,k4,k5⟩:=LN k2 hr;have hc:w.cell? ⟨b,o,none⟩=some u:=by simp only[World.cell?,k1];simpa using k4
 exact⟨u,by simp[execOp,h3,Ot ht.eq hc],k5⟩
theorem Ez{T:TypeId}{x:Operand}{sz i o:Nat}{row:List AV}[ht:Typ P T sz true](hx:ev x=some (.bp i o))(hb:h.bx[i]?=some row)(hr:Nat.ble (o+sz) row.length=true)(hR:R (.agg ((row.drop o).take sz)) h):AStep P ⟨d, .load T x,ty,pos,af,gd⟩ ev h R:=by
 refine Cv (fun _ G w ec hrel he=>?_) hR;have h1:=he x (by simp[Op.operands]) _ hx;simp only[rep]at h1;obtain⟨b,h2,h3⟩:=h1;obtain⟨us,T',k1,k2,k3⟩:=hrel.boxAt h2 hb
 have hlen:((us.drop o).take sz).length=sz:=by
  have:=B6 hr;rw[List.length_take,List.length_drop,Fx k2];omega
 refine⟨.agg ((us.drop o).take sz).toArray,by simp only[execOp,h3,Sem.run_bind,Ou (by rw[hlen];exact ht.eq) (Rn k1 o sz),Result.andThen_ok,Sem.run_pure],?_⟩;simp only[rep];exact⟨_,rfl,Mw (Mx k2 o) sz⟩
theorem Fd{T:TypeId}{x:Operand}{sz i:Nat}{row:List AV}[ht:Typ P T sz true](hx:ev x=some (.bp i 0))(hb:h.bx[i]?=some row)(hr:Nat.beq row.length sz=true)(hR:R (.agg row) h):AStep P ⟨d, .load T x,ty,pos,af,gd⟩ ev h R:=by
 have hr':row.length=sz:=Nat.eq_of_beq_eq_true hr;refine Ez (row:=row) hx hb (by rw[hr'];simp) ?_;rw[←hr',List.drop_zero,List.take_length];exact hR
end
inductive SetAt{α:Type}:List α→Nat→List α→List α→Prop
 |nil (l:List α) (n:Nat):SetAt l n [] l
 |here (a x:α) (l xs l':List α):SetAt l 0 xs l'→SetAt (a::l) 0 (x::xs) (x::l')
 |there (a x:α) (l xs l':List α) (n:Nat):SetAt l n (x::xs) l'→SetAt (a::l) (n+1) (x::xs) (a::l')
inductive SnocAt{α:Type}:List α→α→Nat→List α→Prop
 |nil (x:α):SnocAt [] x 0 [x]
 |cons (a x:α) (l l':List α) (n:Nat):SnocAt l x n l'→SnocAt (a::l) x (n+1) (a::l')
theorem SnocAt.eq{α:Type}{l l':List α}{x:α}{n:Nat}(h:SnocAt l x n l'):n=l.length∧l'=l++[x]:=by
 induction h with
 |nil x=>exact⟨rfl,rfl⟩
 |cons a x l l' n _ ih=>exact⟨by simp[ih.1],by simp[ih.2]⟩
theorem SetAt.one_{α:Type}{l xs l':List α}{n:Nat}(h:SetAt l n xs l'):∀x,xs=[x]→n<l.length∧l'=l.set n x:=by
 induction h with
 |nil l n=>intro x h;cases h
 |here a x l xs l' h ih=>
   intro y hy;injection hy with h1 h2;subst h1;subst h2;cases h;exact⟨by simp,by simp⟩
 |there a x l xs l' n h ih=>
   intro y hy;obtain⟨h1,h2⟩:=ih y hy;exact⟨by simp;omega,by simp[h2]⟩
theorem SetAt.one{α:Type}{l l':List α}{n:Nat}{x:α}(h:SetAt l n [x] l'):n<l.length∧l'=l.set n x:=h.one_ x rfl
def GH:List Value→Nat→List Value→List Value
 |us,_,[]=>us
 |us,o,v::vs=>GH (us.set o v) (o+1) vs
theorem Ow:∀(vs:List Value) (u:Value) (us:List Value) (n:Nat),GH (u::us) (n+1) vs=u::GH us n vs
 |[],_,_,_=>rfl
 |v::vs,u,us,n=>by simp only[GH,List.set_cons_succ];exact Ow vs u (us.set n v) (n+1)
theorem LT:∀(vs us:List Value) (n:Nat) (y:Value),y∈GH us n vs→y∈us∨y∈vs
 |[],_,_,_,h=> .inl h
 |v::vs,us,n,y,h=>by
   simp only[GH]at h;rcases LT vs _ _ y h with h1|h1
   ·rcases List.mem_or_eq_of_mem_set h1 with h2|h2
    ·exact .inl h2
    exact .inr (by simp[h2])
   exact .inr (by simp[h1])
theorem SetAt.rep{G:Gh}{w:World}{row xs row':List AV}{o:Nat}(h:SetAt row o xs row'):∀{us vs:List Value},AY G w row us→AY G w xs vs→AY G w row' (GH us o vs)∧o+(if xs=[]then 0 else xs.length)≤max o us.length:=by
 induction h with
 |nil l n=>intro us vs h1 h2;simp only[AY]at h2;subst h2;exact⟨h1,by simp;omega⟩
 |here a x l xs l' _ ih=>
   intro us vs h1 h2;simp only[AY]at h1 h2;obtain⟨z,zs,rfl,h3,h4⟩:=h1;obtain⟨y,ys,rfl,h5,h6⟩:=h2;obtain⟨k1,k2⟩:=ih h4 h6;refine⟨?_,?_⟩
   ·simp only[GH,List.set_cons_zero];rw[Ow];simp only[AY];exact⟨y,_,rfl,h5,k1⟩
   simp only[reduceCtorEq,if_false,List.length_cons]at k2 ⊢;split at k2
   ·rename_i e;subst e;simp
   omega
 |there a x l xs l' n _ ih=>
   intro us vs h1 h2;simp only[AY]at h1;obtain⟨z,zs,rfl,h3,h4⟩:=h1;obtain⟨k1,k2⟩:=ih h4 h2;refine⟨?_,?_⟩
   ·rw[Ow];simp only[AY];exact⟨z,_,rfl,h3,k1⟩
   simp only[reduceCtorEq,if_false,List.length_cons]at k2 ⊢;omega
def CT:AV→List AV
 | .agg cs=>cs
 |x=>[x]
def Ox:AV→Bool
 | .v x=>x.oneCell'
 | .agg _| .tup _| .any=>false
 |_=>true
def FE:List AV→Bool
 |[]=>true
 |x::xs=>Ox x&&FE xs
theorem Ro{G:Gh}{w:World}{x:AV}{v:Value}(h:rep G w x v)(h1:Ox x=true):v.oneCell'=true:=by
 cases x with
 |v y=>simp only[rep]at h;subst h;exact h1
 |agg cs=>cases h1
 |tup cs=>cases h1
 |any=>cases h1
 |sl sz rows tok=>
   have:=FD _ _ h;simp only[Cl,Ak]at this;obtain⟨_,A,cap,rfl,_⟩:=this;rfl
 |fp row=>simp only[rep]at h;obtain⟨b,o,rfl,_⟩:=h;rfl
 |bp i o=>simp only[rep]at h;obtain⟨b,_,rfl⟩:=h;rfl
 |bs i o sz n cap=>simp only[rep]at h;obtain⟨b,_,rfl,_⟩:=h;rfl
 |fn f caps=>simp only[rep]at h;obtain⟨ys,rfl,_⟩:=h;rfl
theorem J9{G:Gh}{w:World}:∀{xs:List AV} {vs:List Value},AY G w xs vs→FE xs=true→∀u∈vs,u.oneCell'=true
 |[],_,h,_=>by simp only[AY]at h;subst h;simp
 |x::xs,_,h,h1=>by
   simp only[AY]at h;obtain⟨z,zs,rfl,h2,h3⟩:=h;simp only[FE,Bool.and_eq_true]at h1;intro u hu;rcases List.mem_cons.1 hu with e|e
   ·rw[e];exact Ro h2 h1.1
   exact J9 h3 h1.2 u e
theorem KV{G:Gh}{w:World}{x:AV}{v:Value}(h:rep G w x v)(h1:FE (CT x)=true):∃vs:List Value,v.cells=vs.toArray∧AY G w (CT x) vs:=by
 have key:Ox x=true→CT x=[x]→∃vs:List Value,v.cells=vs.toArray∧AY G w (CT x) vs:=fun h2 h3=>by
  refine⟨[v],?_,by rw[h3];simp only[AY];exact⟨v,[],rfl,h,rfl⟩⟩;have:=Ro h h2;cases v<;>first|rfl|cases this
 cases x with
 |agg cs=>
   simp only[rep]at h;obtain⟨ys,rfl,h2⟩:=h;exact⟨ys,rfl,h2⟩
 |_=>exact key (by simpa[CT,FE]using h1) rfl
section
variable {P:Program}
theorem My(b:Nat)(T:TypeId):∀(vs:List Value) (o:Nat) (us:List Value) (w:World),w.heap[b]?=some (.cells us.toArray T (0,0))→
    (w.setCells b o vs).heap[b]?=some (.cells (GH us o vs).toArray T (0,0))∧(∀k,k≠b→(w.setCells b o vs).heap[k]?=w.heap[k]?)∧(w.setCells b o vs).heap.size=w.heap.size∧(w.setCells b o vs).os=w.os∧(w.setCells b o vs).tape=w.tape∧(w.setCells b o vs).output=w.output
 |[],o,us,w,h=>⟨h,fun _ _=>rfl,rfl,rfl,rfl,rfl⟩
 |v::vs,o,us,w,h=>by
   have h1:(w.setCell ⟨b,o,none⟩ v).heap[b]?=some (.cells (us.set o v).toArray T (0,0)):=by
    simp only[World.setCell,Array.getElem?_modify,if_true,h,Option.map_some];simp
   obtain⟨k1,k2,k3,k4,k5,k6⟩:=My b T vs (o+1) (us.set o v) (w.setCell ⟨b,o,none⟩ v) h1;refine⟨k1,fun k hk=>(k2 k hk).trans (Below.heap_setCell w _ _ k hk),k3.trans (by simp[World.setCell]),k4,k5,k6⟩
theorem WR{T sz:Nat}{ag:Bool}(ht:KU P T=some (sz,ag)){b o:Nat}{w:World}{us vs:List Value}{T':TypeId}(hb:w.heap[b]?=some (.cells us.toArray T' (0,0))){v:Value}(hv:v.cells=vs.toArray)(hl:vs.length=sz)
    (hfit:o+vs.length≤us.length) (h1:∀u∈vs,u.oneCell'=true):(Instr.storeAt T (.pointer (some ⟨b,o,none⟩)) v).run P w= .ok () (w.setCells b o vs):=by
 obtain⟨dsc,i,hu,hi,hs,_⟩:=Oq ht;have:=run_storeCells_cells (P:=P) b o vs 0 w (fun j hj=>by simp only[World.cell?,hb];simp;omega) (fun j hj=>by simp[World.frozen?,hb]) h1;simp only[Nat.add_zero]at this;simp[Instr.storeAt,Instr.sureAddr,storeVar,sizeOf,typeInfo,hi,hv,hl,hs,this]
end
section
variable {P:Program}{ev:Operand→Option AV}{h:AH}{R:AV→AH→Prop}{d:Option Tmp}{ty:TypeId}{pos:String}{af:Array Edge}{gd:Option (Nat×Bool)}
theorem WS{T:TypeId}{x y:Operand}{sz i o:Nat}{ag:Bool}{av:AV}{row row':List AV}{bx':List (List AV)}[ht:Typ P T sz ag](hx:ev x=some (.bp i o))(hy:ev y=some av)(hb:h.bx[i]?=some row)
    (h1:FE (CT av)=true) (hl:Nat.beq (CT av).length sz=true) (hpos:Nat.blt 0 sz=true) (hs:SetAt row o (CT av) row') (hset:SetAt h.bx i [row'] bx') (hR:R (.v undef) ⟨bx',h.tk⟩):AStep P ⟨d, .store T x y,ty,pos,af,gd⟩ ev h R:=by
 intro E G w ec hr he;have k1:=he x (by simp[Op.operands]) _ hx;have k2:=he y (by simp[Op.operands]) _ hy;simp only[rep]at k1;obtain⟨b,k3,k4⟩:=k1;obtain⟨us,T',k5,k6,k7⟩:=hr.boxAt k3 hb;obtain⟨vs,k8,k9⟩:=KV k2 h1;obtain⟨m1,m2⟩:=hs.rep k6 k9;have hl':=Nat.eq_of_beq_eq_true hl;have hp:0<sz:=B6 hpos;have hvl:=Fx k9;have hne:CT av≠[]:=fun e=>by rw[e]at hl';simp at hl';omega
 rw[if_neg hne]at m2;obtain⟨q1,q2,q3,q4,q5,q6⟩:=My b T' vs o us w k5;have hrun:=WR (P:=P) ht.eq (o:=o) k5 k8 (by omega) (by omega) (J9 k9 h1)
 obtain⟨r1,r2⟩:=hr.setBox (w':=w.setCells b o vs) (row:=row') k3 q4 q5 q6 q3 q2 ⟨_,T',q1,m1,fun u hu=>by
  rcases LT vs us o u hu with e|e
  ·exact k7 u e
  exact J9 k9 h1 u e⟩
 have hbx:=(SetAt.one hset).2;subst hbx;simp only[execOp,k4,Sem.run_bind,hrun,Result.andThen_ok,Sem.run_pure];exact⟨.v undef,_,G,hR,r1,r2,by simp only[rep]⟩
theorem Oy(w:World)(o:Obj):(w.alloc o).heap[w.heap.size]?=some o:=by show(w.heap.push o)[w.heap.size]?=_;simp
theorem LU{E:Env}{G:Gh}{w:World}(hr:HRel E G h w){us:List Value}{row:List AV}{T:TypeId}(hrep:AY G w row us)(h1:∀u∈us,u.oneCell'=true){n:Nat}{bx':List (List AV)}(hs:SnocAt h.bx row n bx'):
    ∃G',HRel E G' ⟨bx',h.tk⟩ (w.alloc (.cells us.toArray T))∧Ext G w G' (w.alloc (.cells us.toArray T))∧rep G' (w.alloc (.cells us.toArray T)) (.bp n 0) (.pointer (some ⟨w.heap.size,0,none⟩)):=by
 obtain⟨e1,e2⟩:=hs.eq;subst e1;subst e2;obtain⟨k1,k2⟩:=hr.below (w':=w.alloc (.cells us.toArray T)) ((Below.refl _ _).alloc (Av _) _);have hnb:w.heap.size∉G.bx:=fun hm=>by have:=hr.boxlt hm;omega
 have hst:∀o,¬G.St w.heap.size o:=fun o hs=>by have:=hr.stlt _ _ hs;omega
 obtain⟨q1,q2⟩:=k1.addBox (b:=w.heap.size) (row:=row) hnb hr.kept.size hst (fun g n u hg hu=>by have:=(hr.toklt hg hu).2;omega) ⟨us,T,Oy _ _,Dq k2 _ _ hrep,h1⟩;refine⟨_,q1,k2.trans q2,?_⟩;simp only[rep];refine⟨w.heap.size,?_,rfl⟩;rw[←hr.bxlen];simp
theorem Rp{T:TypeId}{x:Operand}{n:Nat}{av:AV}{bx':List (List AV)}(hx:ev x=some av)(h1:FE (CT av)=true)(hs:SnocAt h.bx (CT av) n bx')(hR:R (.bp n 0) ⟨bx',h.tk⟩):AStep P ⟨d, .box T x,ty,pos,af,gd⟩ ev h R:=by
 intro E G w ec hr he;obtain⟨vs,k8,k9⟩:=KV (he x (by simp[Op.operands]) _ hx) h1;obtain⟨G',q1,q2,q3⟩:=LU (T:=T) hr k9 (J9 k9 h1) hs
 have hrun:(Instr.box T (ec x)).run P w= .ok (.pointer (some ⟨w.heap.size,0,none⟩)) (w.alloc (.cells vs.toArray T)):=by
  simp[Instr.box,newVar,newRow,k8]
 simp only[execOp,Sem.run_bind,hrun,Result.andThen_ok,Sem.run_pure];exact⟨_,_,G',hR,q1,q2,q3⟩
theorem Oz{G:Gh}{w:World}:∀(us:List Value),AY G w (us.map AV.v) us
 |[]=>by simp only[List.map_nil,AY]
 |u::us=>by simp only[List.map_cons,AY];exact⟨u,us,rfl,by simp only[rep],Oz us⟩
theorem P0{T:Nat}{zs:List Value}(hz:Mu P T=some zs):∃i z,P.info? T=some i∧i.zero=some z∧z.cells=zs.toArray:=by
 unfold Mu at hz
 cases hi:P.info? T with
 |none=>simp[hi]at hz
 |some i=>
   cases hq:i.zero with
   |none=>simp[hi,hq]at hz
   |some z=>
     simp[hi,hq]at hz;exact⟨i,z,rfl,hq,by rw[←hz]⟩
theorem WT{T:TypeId}{n:Nat}{row:List AV}{bx':List (List AV)}[hz:Zer P T row](hs:SnocAt h.bx row n bx')(hR:R (.bp n 0) ⟨bx',h.tk⟩):AStep P ⟨d, .alloc T,ty,pos,af,gd⟩ ev h R:=by
 intro E G w ec hr he;obtain⟨zs,hz1,hrow,hz2⟩:=hz.eq;obtain⟨i,z,k1,k2,k3⟩:=P0 hz1;have hone:∀u∈zs,u.oneCell'=true:=List.all_eq_true.1 hz2;obtain⟨G',q1,q2,q3⟩:=LU (T:=T) hr (hrow ▸ Oz zs) hone hs
 have hrun:(Instr.alloc T true (.tuple #[])).run P w= .ok (.pointer (some ⟨w.heap.size,0,none⟩)) (w.alloc (.cells zs.toArray T)):=by
  simp[Instr.alloc,zeroValue,typeInfo,k1,k2,newVar,newRow,k3]
 simp only[execOp,Sem.run_bind,hrun,Result.andThen_ok,Sem.run_pure];exact⟨_,_,G',hR,q1,q2,q3⟩
theorem Dz{op:BinOp}{T yT:TypeId}{x y:Operand}{a b z:Value}(hx:ev x=some (.v a))(hy:ev y=some (.v b))(hz:∀w,(do eqGuard op T x y a b;binOp op T a b:Sem Value).run P w= .ok z w)(hR:R (.v z) h):AStep P ⟨d, .binOp op T x y yT,ty,pos,af,gd⟩ ev h R:=
 Cv (fun _ G w ec _ he=>⟨z,by
  have h1:=he x (by simp[Op.operands]) _ hx;have h2:=he y (by simp[Op.operands]) _ hy;simp only[rep]at h1 h2;simp only[execOp];rw[h1,h2,Sem.run_bind,hz w]
  rfl,by simp only[rep]⟩) hR
theorem P3{T yT:TypeId}{x y:Operand}{k:IntKind}{a b:Int}(hx:ev x=some (.v (.int k a)))(hy:ev y=some (.v (.int k b)))(hR:R (.v (.int k (k.wrap (a+b)))) h):AStep P ⟨d, .binOp .add T x y yT,ty,pos,af,gd⟩ ev h R:=
 Dz hx hy (fun w=>by simp[eqGuard,binOp,Op.intArith]) hR
theorem LV{T yT:TypeId}{x y:Operand}{k:IntKind}{a b:Int}(hx:ev x=some (.v (.int k a)))(hy:ev y=some (.v (.int k b)))(hR:R (.v (.int k (k.wrap (a - b)))) h):AStep P ⟨d, .binOp .sub T x y yT,ty,pos,af,gd⟩ ev h R:=
 Dz hx hy (fun w=>by simp[eqGuard,binOp,Op.intArith]) hR
theorem Rq{T yT:TypeId}{x y:Operand}{k:IntKind}{a b:Int}(hx:ev x=some (.v (.int k a)))(hy:ev y=some (.v (.int k b)))(hR:R (.v (.int k (k.wrap (a * b)))) h):AStep P ⟨d, .binOp .mul T x y yT,ty,pos,af,gd⟩ ev h R:=
 Dz hx hy (fun w=>by simp[eqGuard,binOp,Op.intArith]) hR
theorem Ji{T yT:TypeId}{x y:Operand}{a b:Int}(hx:ev x=some (.v (.int .i64 a)))(hy:ev y=some (.v (.int .i64 b)))(hb: -9223372036854775808≤a+b∧a+b≤9223372036854775807)(hR:R (.v (.int .i64 (a+b))) h):AStep P ⟨d, .binOp .add T x y yT,ty,pos,af,gd⟩ ev h R:=
 P3 hx hy (by rw[IntWalk.i64_in _ (by omega)];exact hR)
theorem Jj{T yT:TypeId}{x y:Operand}{a b:Int}(hx:ev x=some (.v (.int .i64 a)))(hy:ev y=some (.v (.int .i64 b)))(hb: -9223372036854775808≤a - b∧a - b≤9223372036854775807)(hR:R (.v (.int .i64 (a - b))) h):AStep P ⟨d, .binOp .sub T x y yT,ty,pos,af,gd⟩ ev h R:=
 LV hx hy (by rw[IntWalk.i64_in _ (by omega)];exact hR)
theorem Rr{T yT:TypeId}{x y:Operand}{k:IntKind}{a b:Int}(hx:ev x=some (.v (.int k a)))(hy:ev y=some (.v (.int k b)))(hb:b≠0)(hR:R (.v (.int k (a.tmod b))) h):AStep P ⟨d, .binOp .rem T x y yT,ty,pos,af,gd⟩ ev h R:=
 Dz hx hy (fun w=>by simp[eqGuard,binOp,Op.intDiv,hb]) hR
theorem P4(a b:Int):(a==b)=decide (a=b):=by rw[Bool.eq_iff_iff,beq_iff_eq,decide_eq_true_iff]
theorem Mz{T yT:TypeId}{x y:Operand}{k:IntKind}{a b:Int}(hx:ev x=some (.v (.int k a)))(hy:ev y=some (.v (.int k b)))(hR:R (.v (.bool (decide (a=b)))) h):AStep P ⟨d, .binOp .eql T x y yT,ty,pos,af,gd⟩ ev h R:=
 Dz hx hy (fun w=>by simp[eqGuard,binOp,Op.intCmp,P4]) hR
theorem N0{T yT:TypeId}{x y:Operand}{k:IntKind}{a b:Int}(hx:ev x=some (.v (.int k a)))(hy:ev y=some (.v (.int k b)))(hR:R (.v (.bool (!decide (a=b)))) h):AStep P ⟨d, .binOp .neq T x y yT,ty,pos,af,gd⟩ ev h R:=
 Dz hx hy (fun w=>by simp[eqGuard,binOp,Op.intCmp,bne,P4]) hR
theorem N1{T yT:TypeId}{x y:Operand}{k:IntKind}{a b:Int}(hx:ev x=some (.v (.int k a)))(hy:ev y=some (.v (.int k b)))(hR:R (.v (.bool (decide (a<b)))) h):AStep P ⟨d, .binOp .lss T x y yT,ty,pos,af,gd⟩ ev h R:=
 Dz hx hy (fun w=>by simp[eqGuard,binOp,Op.intCmp]) hR
theorem N2{T yT:TypeId}{x y:Operand}{k:IntKind}{a b:Int}(hx:ev x=some (.v (.int k a)))(hy:ev y=some (.v (.int k b)))(hR:R (.v (.bool (decide (a≤b)))) h):AStep P ⟨d, .binOp .leq T x y yT,ty,pos,af,gd⟩ ev h R:=
 Dz hx hy (fun w=>by simp[eqGuard,binOp,Op.intCmp]) hR
theorem N3{T yT:TypeId}{x y:Operand}{k:IntKind}{a b:Int}(hx:ev x=some (.v (.int k a)))(hy:ev y=some (.v (.int k b)))(hR:R (.v (.bool (decide (b<a)))) h):AStep P ⟨d, .binOp .gtr T x y yT,ty,pos,af,gd⟩ ev h R:=
 Dz hx hy (fun w=>by simp[eqGuard,binOp,Op.intCmp]) hR
theorem N4{T yT:TypeId}{x y:Operand}{k:IntKind}{a b:Int}(hx:ev x=some (.v (.int k a)))(hy:ev y=some (.v (.int k b)))(hR:R (.v (.bool (decide (b≤a)))) h):AStep P ⟨d, .binOp .geq T x y yT,ty,pos,af,gd⟩ ev h R:=
 Dz hx hy (fun w=>by simp[eqGuard,binOp,Op.intCmp]) hR
theorem Rs(a b:ByteArray):(a.toList==b.toList)=decide (a=b):=by
 rw[Bool.eq_iff_iff,beq_iff_eq,decide_eq_true_iff];constructor
 ·intro h1;rw[Lib.toList_data,Lib.toList_data]at h1;exact ByteArray.ext (Array.toList_inj.1 h1)
 intro h1;rw[h1]
theorem N5{T yT:TypeId}{x y:Operand}{a b:ByteArray}(hx:ev x=some (.v (.string a)))(hy:ev y=some (.v (.string b)))(hR:R (.v (.bool (decide (a=b)))) h):AStep P ⟨d, .binOp .eql T x y yT,ty,pos,af,gd⟩ ev h R:=
 Dz hx hy (fun w=>by simp[eqGuard,binOp,Op.stringOp,Rs]) hR
theorem N6{T yT:TypeId}{x y:Operand}{a b:ByteArray}(hx:ev x=some (.v (.string a)))(hy:ev y=some (.v (.string b)))(hR:R (.v (.bool (!decide (a=b)))) h):AStep P ⟨d, .binOp .neq T x y yT,ty,pos,af,gd⟩ ev h R:=
 Dz hx hy (fun w=>by simp[eqGuard,binOp,Op.stringOp,Rs]) hR
theorem N7{T yT:TypeId}{x y:Operand}{a b:ByteArray}(hx:ev x=some (.v (.string a)))(hy:ev y=some (.v (.string b)))(hR:R (.v (.bool (Op.bytesLess a.toList b.toList))) h):AStep P ⟨d, .binOp .lss T x y yT,ty,pos,af,gd⟩ ev h R:=
 Dz hx hy (fun w=>by simp[eqGuard,binOp,Op.stringOp]) hR
theorem N8{T yT:TypeId}{x y:Operand}{a b:ByteArray}(hx:ev x=some (.v (.string a)))(hy:ev y=some (.v (.string b)))(hR:R (.v (.bool (!Op.bytesLess a.toList b.toList))) h):AStep P ⟨d, .binOp .geq T x y yT,ty,pos,af,gd⟩ ev h R:=
 Dz hx hy (fun w=>by simp[eqGuard,binOp,Op.stringOp]) hR
theorem Ef{T yT:TypeId}{x y:Operand}{a b:ByteArray}(hx:ev x=some (.v (.string a)))(hy:ev y=some (.v (.string b)))(hb:a.size+b.size≤9223372036854775807)(hR:R (.v (.string (a++b))) h):AStep P ⟨d, .binOp .add T x y yT,ty,pos,af,gd⟩ ev h R:=
 Dz hx hy (fun w=>by
  have:¬((a.size+b.size:Nat):Int)>IntKind.i64.max:=by
   have e:IntKind.i64.max=9223372036854775807:=by decide
   rw[e];omega
  simp only[eqGuard,binOp,Op.stringOp,if_neg this]
  simp) hR
theorem N9{T:TypeId}{x:Operand}{b:Bool}(hx:ev x=some (.v (.bool b)))(hR:R (.v (.bool (!b))) h):AStep P ⟨d, .unOp .not T x,ty,pos,af,gd⟩ ev h R:=
 Cv (fun _ G w ec _ he=>⟨.bool (!b),by
  have h1:=he x (by simp[Op.operands]) _ hx;simp only[rep]at h1
  simp[execOp,h1,Op.unary],by simp only[rep]⟩) hR
theorem NA{T:TypeId}{x:Operand}{s:ByteArray}(hu:P.underlying T=some .string)(hx:ev x=some (.v (.string s)))(hR:R (.v (.int .i64 s.size)) h):AStep P ⟨d, .call {callee:= .builtin .len,args:=#[x],argTypes:=#[T]},ty,pos,af,gd⟩ ev h R:=
 Cv (fun _ G w ec _ he=>⟨.int .i64 s.size,by
  have h1:=he x (by simp[Op.operands,Call.operands]) _ hx;simp only[rep]at h1
  simp[execOp,resolve,invoke,builtin,Builtin.len_,run_underlying hu,h1,goInt],by simp only[rep]⟩) hR
theorem NC{T:TypeId}{x:Operand}{E sz bytes:Nat}{rows:List (List AV)}{tok:Option Nat}[hE:Elm P T E sz bytes](hx:ev x=some (.sl sz rows tok))(hR:R (.v (.int .i64 rows.length)) h):AStep P ⟨d, .call {callee:= .builtin .len,args:=#[x],argTypes:=#[T]},ty,pos,af,gd⟩ ev h R:=
 Cv (fun _ G w ec _ he=>⟨.int .i64 rows.length,by
  have h1:=FD _ _ (he x (by simp[Op.operands,Call.operands]) _ hx);simp only[Cl,Ak]at h1;obtain⟨_,A,cap,h2,_⟩:=h1
  simp[execOp,resolve,invoke,builtin,Builtin.len_,run_underlying (Ey hE.eq).1,h2,goInt],by simp only[rep]⟩) hR
theorem ND{T:TypeId}{x:Operand}{E sz bytes:Nat}[hE:Elm P T E sz bytes](hx:ev x=some (.v (.slice none 0 0)))(hR:R (.v (.int .i64 0)) h):AStep P ⟨d, .call {callee:= .builtin .len,args:=#[x],argTypes:=#[T]},ty,pos,af,gd⟩ ev h R:=
 Cv (fun _ G w ec _ he=>⟨.int .i64 0,by
  have h1:=he x (by simp[Op.operands,Call.operands]) _ hx;simp only[rep]at h1
  simp[execOp,resolve,invoke,builtin,Builtin.len_,run_underlying (Ey hE.eq).1,h1,goInt],by simp only[rep]⟩) hR
end
end Go.Proofs.YtobclmbkdhbnpaaGreatDoor
