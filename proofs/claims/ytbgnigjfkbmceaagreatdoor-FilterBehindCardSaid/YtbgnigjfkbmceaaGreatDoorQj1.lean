/- Part 1 of the proof of FilterBehindP. -/
import Derived.Test.YtbgnigjfkbmceaaGreatDoorProg
import Derived.WalkKit
import Derived.WalkSpells
import Derived.WalkLawsBesides
import Derived.Lib.Hide
import Derived.Outline
import Derived.Maps.AppendAt
import Derived.OwnWalk
import Derived.Deep.LoopGhost
import Derived.Deep.MidRow
import Derived.Great.BuildSlice
import Derived.Lib.Strings
import Derived.Laws.StructEq
import Derived.Laws.Cover3
import Derived.ArgAppend
set_option maxRecDepth 10000
set_option maxHeartbeats 4000000
set_option linter.unusedVariables false
set_option linter.unusedSimpArgs false
namespace Go.Proofs.YtbgnigjfkbmceaaGreatDoor
open Go.RowKit
theorem AZ {α : Type _} {l : List α} {i : Nat} {a : α} : l[i]? = some a ↔ ∃ h : i < l.length, l[i] = a := List.getElem?_eq_some_iff
theorem Aj {α : Type _} {l : List α} {i : Nat} {a : α} (e : l[i]? = some a) : a ∈ l := List.mem_of_getElem? e
theorem Bl {n m : Nat} (h : Nat.ble n m = true) : n <= m := Nat.le_of_ble_eq_true h
theorem B7 {α : Type _} {l : List α} {i : Nat} (h : i < l.length) : l[i]? = some l[i] := List.getElem?_eq_getElem h
theorem As (n : Nat) : n <= n := Nat.le_refl n
theorem BG (n : Nat) : 0 <= n := Nat.zero_le n
theorem DD {α : Type _} {l₁ l₂ : List α} {i : Nat} (h : i < l₁.length) : (l₁ ++ l₂)[i]? = l₁[i]? := List.getElem?_append_left h
theorem Er {α : Type _} {l₁ l₂ : List α} {i : Nat} (h : l₁.length <= i) : (l₁ ++ l₂)[i]? = l₂[i - l₁.length]? := List.getElem?_append_right h
theorem ER {α : Type _} {l : List α} (h : l.length = 0) : l = [] := List.eq_nil_of_length_eq_zero h
inductive AV where
 |v (x:Value)
 |agg (cs:List AV)
 |tup (cs:List AV)
 |sl (sz:Nat) (rows:List (List AV)) (tok:Option Nat)
 |fp (row:List AV)
 |bp (i off:Nat)
 |bs (i off sz n cap:Nat)
 |fn (f:FuncId) (caps:List AV)
 |any
mutual
def Ai(St:Nat->Nat->Prop)(w:World):AV->Value->Prop
 | .v x,y=>y=x
 | .agg cs,y=>∃ys:List Value,y= .agg ys.toArray/\Bc St w cs ys
 | .tup cs,y=>∃ys:List Value,y= .tuple ys.toArray/\Bc St w cs ys
 | .sl sz rows tok,y=>tok=none/\∃A cap,y= .slice A rows.length cap/\rows.length<=cap/\cap<=maxLen/\(rows=[]\/∃b off,A=some ⟨b,off,none⟩/\froR St w b sz rows off)
 | .fp row,y=>∃b off,y= .pointer (some ⟨b,off,none⟩)/\Dd St w b row off
 | .bp _ _,_=>False
 | .bs _ _ _ _ _,_=>False
 | .fn f caps,y=>∃ys:List Value,y= .func (.func f) #[] ys.toArray/\Bc St w caps ys
 | .any,_=>True
def Bc(St:Nat->Nat->Prop)(w:World):List AV->List Value->Prop
 |[],ys=>ys=[]
 |x::xs,ys=>∃z zs,ys=z::zs/\Ai St w x z/\Bc St w xs zs
def Dd(St:Nat->Nat->Prop)(w:World)(b:Nat):List AV->Nat->Prop
 |[],_=>True
 |x::xs,off=>(St b off/\∃u,w.cell? ⟨b,off,none⟩=some u/\u.oneCell'=true/\Ai St w x u)/\Dd St w b xs (off+1)
def froR(St:Nat->Nat->Prop)(w:World)(b sz:Nat):List (List AV)->Nat->Prop
 |[],_=>True
 |r::rs,off=>(r.length=sz/\Dd St w b r off)/\froR St w b sz rs (off+sz)
end
structure Gh where
 St:Nat->Nat->Prop
 bx:List Nat
 tk:List (Nat×Value)
mutual
def rep(G:Gh)(w:World):AV->Value->Prop
 | .v x,y=>y=x
 | .agg cs,y=>∃ys:List Value,y= .agg ys.toArray/\AN G w cs ys
 | .tup cs,y=>∃ys:List Value,y= .tuple ys.toArray/\AN G w cs ys
 | .sl sz rows none,y=>Ai G.St w (.sl sz rows none) y
 | .sl sz rows (some g),y=>Ai G.St w (.sl sz rows none) y/\∃n u,G.tk[g]?=some (n,u)/\rows.length<=n/\(rows.length=n->y=u)
 | .fp row,y=>∃b off,y= .pointer (some ⟨b,off,none⟩)/\Dd G.St w b row off
 | .bp i off,y=>∃b,G.bx[i]?=some b/\y= .pointer (some ⟨b,off,none⟩)
 | .bs i off _ n cap,y=>∃b,G.bx[i]?=some b/\y= .slice (some ⟨b,off,none⟩) n cap/\n<=cap/\cap<=maxLen
 | .fn f caps,y=>∃ys:List Value,y= .func (.func f) #[] ys.toArray/\AN G w caps ys
 | .any,_=>True
def AN(G:Gh)(w:World):List AV->List Value->Prop
 |[],ys=>ys=[]
 |x::xs,ys=>∃z zs,ys=z::zs/\rep G w x z/\AN G w xs zs
end
structure Ext(G:Gh)(w:World)(G':Gh)(w':World):Prop where
 st:∀b o,G.St b o->G'.St b o/\w'.cell? ⟨b,o,none⟩=w.cell? ⟨b,o,none⟩
 bx:∀(i b:Nat),G.bx[i]?=some b->G'.bx[i]?=some b
 tk:∀(g n:Nat) (u:Value),G.tk[g]?=some (n,u)->∃n' u',G'.tk[g]?=some (n',u')/\n<=n'/\(n=n'->u=u')
theorem Ext.refl(G:Gh)(w:World):Ext G w G w:=⟨fun _ _ h=>⟨h,rfl⟩,fun _ _ h=>h,fun _ n u h=>⟨n,u,h,As _,fun _=>rfl⟩⟩
theorem Ext.trans{G G' G'':Gh}{w w' w'':World}(h:Ext G w G' w')(k:Ext G' w' G'' w''):Ext G w G'' w'':=by
 refine⟨fun b o hb=>?_,fun i b hb=>k.bx i b (h.bx i b hb),fun g n u hg=>?_⟩
 ·obtain⟨h1,h2⟩:=h.st b o hb;obtain⟨h3,h4⟩:=k.st b o h1;exact⟨h3,h4.trans h2⟩
 obtain⟨n',u',h1,h2,h3⟩:=h.tk g n u hg;obtain⟨n'',u'',h4,h5,h6⟩:=k.tk g n' u' h1
 exact⟨n'',u'',h4,Nat.le_trans h2 h5,fun e=>by
  have e1:n=n':=by omega
  rw[h3 e1,h6 (by omega)]⟩
section
variable {St St':Nat->Nat->Prop}{w w':World}(hst:∀b o,St b o->St' b o/\w'.cell? ⟨b,o,none⟩=w.cell? ⟨b,o,none⟩)
include hst
mutual
theorem JS:∀(x:AV) (y:Value),Ai St w x y->Ai St' w' x y
 | .v _,_,h=>by simpa only[Ai]using h
 | .agg cs,_,h=>by
   simp only[Ai]at h ⊢;obtain⟨ys,h1,h2⟩:=h;exact⟨ys,h1,NT cs ys h2⟩
 | .tup cs,_,h=>by
   simp only[Ai]at h ⊢;obtain⟨ys,h1,h2⟩:=h;exact⟨ys,h1,NT cs ys h2⟩
 | .sl sz rows tok,_,h=>by
   simp only[Ai]at h ⊢;obtain⟨h0,A,cap,h1,h2,h3,h4⟩:=h;refine⟨h0,A,cap,h1,h2,h3,h4.imp id ?_⟩;rintro⟨b,off,h5,h6⟩;exact⟨b,off,h5,WB b sz rows off h6⟩
 | .fp row,_,h=>by
   simp only[Ai]at h ⊢;obtain⟨b,off,h1,h2⟩:=h;exact⟨b,off,h1,NU b row off h2⟩
 | .bp _ _,_,h=>by simp only[Ai]at h
 | .bs _ _ _ _ _,_,h=>by simp only[Ai]at h
 | .fn f caps,_,h=>by
   simp only[Ai]at h ⊢;obtain⟨ys,h1,h2⟩:=h;exact⟨ys,h1,NT caps ys h2⟩
 | .any,_,_=>by have _:=hst;simp only[Ai]
theorem NT:∀(xs:List AV) (ys:List Value),Bc St w xs ys->Bc St' w' xs ys
 |[],_,h=>by have _:=hst;simpa only[Bc]using h
 |x::xs,_,h=>by
   simp only[Bc]at h ⊢;obtain⟨z,zs,h1,h2,h3⟩:=h;exact⟨z,zs,h1,JS x z h2,NT xs zs h3⟩
theorem NU:∀(b:Nat) (xs:List AV) (off:Nat),Dd St w b xs off->Dd St' w' b xs off
 |_,[],_,_=>by simp only[Dd]
 |b,x::xs,off,h=>by
   simp only[Dd]at h ⊢;obtain⟨⟨h1,u,h2,h3,h4⟩,h5⟩:=h;obtain⟨k1,k2⟩:=hst b off h1;exact⟨⟨k1,u,k2.trans h2,h3,JS x u h4⟩,NU b xs (off+1) h5⟩
theorem WB:∀(b sz:Nat) (rs:List (List AV)) (off:Nat),froR St w b sz rs off->froR St' w' b sz rs off
 |_,_,[],_,_=>by have _:=hst;simp only[froR]
 |b,sz,r::rs,off,h=>by
   simp only[froR]at h ⊢;exact⟨⟨h.1.1,NU b r off h.1.2⟩,WB b sz rs (off+sz) h.2⟩
end
end
section
variable {G G':Gh}{w w':World}(he:Ext G w G' w')
include he
mutual
theorem MH:∀(x:AV) (y:Value),rep G w x y->rep G' w' x y
 | .v _,_,h=>by simpa only[rep]using h
 | .agg cs,_,h=>by
   simp only[rep]at h ⊢;obtain⟨ys,h1,h2⟩:=h;exact⟨ys,h1,Fs cs ys h2⟩
 | .tup cs,_,h=>by
   simp only[rep]at h ⊢;obtain⟨ys,h1,h2⟩:=h;exact⟨ys,h1,Fs cs ys h2⟩
 | .sl sz rows none,y,h=>by
   simp only[rep]at h ⊢;exact JS he.st _ y h
 | .sl sz rows (some g),y,h=>by
   simp only[rep]at h ⊢;obtain⟨h0,n,u,h1,h2,h3⟩:=h;obtain⟨n',u',k1,k2,k3⟩:=he.tk g n u h1;refine⟨JS he.st _ y h0,n',u',k1,Nat.le_trans h2 k2,fun e=>?_⟩;have e1:n=n':=by omega
   rw[h3 (by omega),k3 e1]
 | .fp row,_,h=>by
   simp only[rep]at h ⊢;obtain⟨b,off,h1,h2⟩:=h;exact⟨b,off,h1,NU he.st b row off h2⟩
 | .bp i off,_,h=>by
   simp only[rep]at h ⊢;obtain⟨b,h1,h2⟩:=h;exact⟨b,he.bx i b h1,h2⟩
 | .bs i off sz n cap,_,h=>by
   simp only[rep]at h ⊢;obtain⟨b,h1,h2⟩:=h;exact⟨b,he.bx i b h1,h2⟩
 | .fn f caps,_,h=>by
   simp only[rep]at h ⊢;obtain⟨ys,h1,h2⟩:=h;exact⟨ys,h1,Fs caps ys h2⟩
 | .any,_,_=>by simp only[rep]
theorem Fs:∀(xs:List AV) (ys:List Value),AN G w xs ys->AN G' w' xs ys
 |[],_,h=>by have _:=he;simpa only[AN]using h
 |x::xs,_,h=>by
   simp only[AN]at h ⊢;obtain⟨z,zs,h1,h2,h3⟩:=h;exact⟨z,zs,h1,MH x z h2,Fs xs zs h3⟩
end
end
mutual
def DW:AV->AV
 | .v x=> .v x
 | .agg cs=> .agg (FZ cs)
 | .tup cs=> .tup (FZ cs)
 | .sl sz rows _=> .sl sz rows none
 | .fp row=> .fp row
 | .bp _ _=> .any
 | .bs _ _ _ _ _=> .any
 | .fn f caps=> .fn f (FZ caps)
 | .any=> .any
def FZ:List AV->List AV
 |[]=>[]
 |x::xs=>DW x::FZ xs
end
mutual
theorem JT{G:Gh}{w:World}:∀(x:AV) (y:Value),rep G w x y->Ai G.St w (DW x) y
 | .v _,_,h=>by simpa only[rep,Ai,DW]using h
 | .agg cs,_,h=>by
   simp only[rep,Ai,DW]at h ⊢;obtain⟨ys,h1,h2⟩:=h;exact⟨ys,h1,Mo cs ys h2⟩
 | .tup cs,_,h=>by
   simp only[rep,Ai,DW]at h ⊢;obtain⟨ys,h1,h2⟩:=h;exact⟨ys,h1,Mo cs ys h2⟩
 | .sl sz rows none,y,h=>by simpa only[rep,DW]using h
 | .sl sz rows (some g),y,h=>by
   simp only[rep,DW]at h ⊢;exact h.1
 | .fp row,_,h=>by simpa only[rep,Ai,DW]using h
 | .bp _ _,_,_=>by simp only[Ai,DW]
 | .bs _ _ _ _ _,_,_=>by simp only[Ai,DW]
 | .fn f caps,_,h=>by
   simp only[rep,Ai,DW]at h ⊢;obtain⟨ys,h1,h2⟩:=h;exact⟨ys,h1,Mo caps ys h2⟩
 | .any,_,_=>by simp only[Ai,DW]
theorem Mo{G:Gh}{w:World}:∀(xs:List AV) (ys:List Value),AN G w xs ys->Bc G.St w (FZ xs) ys
 |[],_,h=>by simpa only[AN,Bc,FZ]using h
 |x::xs,_,h=>by
   simp only[AN,Bc,FZ]at h ⊢;obtain⟨z,zs,h1,h2,h3⟩:=h;exact⟨z,zs,h1,JT x z h2,Mo xs zs h3⟩
end
mutual
theorem KL{G:Gh}{w:World}:∀(x:AV) (y:Value),Ai G.St w x y->rep G w x y
 | .v _,_,h=>by simpa only[rep,Ai]using h
 | .agg cs,_,h=>by
   simp only[rep,Ai]at h ⊢;obtain⟨ys,h1,h2⟩:=h;exact⟨ys,h1,Mp cs ys h2⟩
 | .tup cs,_,h=>by
   simp only[rep,Ai]at h ⊢;obtain⟨ys,h1,h2⟩:=h;exact⟨ys,h1,Mp cs ys h2⟩
 | .sl sz rows none,y,h=>by simpa only[rep]using h
 | .sl sz rows (some g),y,h=>by
   simp only[Ai]at h;exact absurd h.1 (by simp)
 | .fp row,_,h=>by simpa only[rep,Ai]using h
 | .bp _ _,_,h=>by simp only[Ai]at h
 | .bs _ _ _ _ _,_,h=>by simp only[Ai]at h
 | .fn f caps,_,h=>by
   simp only[rep,Ai]at h ⊢;obtain⟨ys,h1,h2⟩:=h;exact⟨ys,h1,Mp caps ys h2⟩
 | .any,_,_=>by simp only[rep]
theorem Mp{G:Gh}{w:World}:∀(xs:List AV) (ys:List Value),Bc G.St w xs ys->AN G w xs ys
 |[],_,h=>by simpa only[AN,Bc]using h
 |x::xs,_,h=>by
   simp only[AN,Bc]at h ⊢;obtain⟨z,zs,h1,h2,h3⟩:=h;exact⟨z,zs,h1,KL x z h2,Mp xs zs h3⟩
end
theorem Kr{G:Gh}{w:World}:∀{xs:List AV} {ys:List Value},AN G w xs ys->ys.length=xs.length
 |[],_,h=>by simp only[AN]at h;rw[h];rfl
 |x::xs,_,h=>by
   simp only[AN]at h;obtain⟨z,zs,rfl,_,h3⟩:=h;simp[Kr h3]
theorem PL{G:Gh}{w:World}:∀{xs:List AV} {ys:List Value},AN G w xs ys->∀{i:Nat} {x:AV},xs[i]?=some x->∃y,ys[i]?=some y/\rep G w x y
 |[],_,_,i,x,hi=>by simp at hi
 |x::xs,_,h,i,x',hi=>by
   simp only[AN]at h;obtain⟨z,zs,rfl,h2,h3⟩:=h
   cases i with
   |zero=>simp at hi;subst hi;exact⟨z,by simp,h2⟩
   |succ i=>simp only[List.getElem?_cons_succ]at hi ⊢;exact PL h3 hi
theorem PM{St:Nat->Nat->Prop}{w:World}{b:Nat}:∀{xs:List AV} {off:Nat},Dd St w b xs off->∀{i:Nat} {x:AV},xs[i]?=some x->St b (off+i)/\∃u,w.cell? ⟨b,off+i,none⟩=some u/\u.oneCell'=true/\Ai St w x u
 |[],_,_,i,x,hi=>by simp at hi
 |x::xs,off,h,i,x',hi=>by
   simp only[Dd]at h
   cases i with
   |zero=>simp at hi;subst hi;exact h.1
   |succ i=>
     simp only[List.getElem?_cons_succ]at hi;have:=PM h.2 hi
     rwa [show off+1+i=off+(i+1) by omega]at this
theorem OG{St:Nat->Nat->Prop}{w:World}{b:Nat}:∀{xs:List AV} {off:Nat},Dd St w b xs off->∀k,Dd St w b (xs.drop k) (off+k)
 |[],_,_,k=>by simp[Dd]
 |x::xs,off,h,k=>by
   cases k with
   |zero=>exact h
   |succ k=>
     simp only[Dd]at h;have:=OG h.2 k
     rwa [show off+1+k=off+(k+1) by omega]at this
theorem NV{St:Nat->Nat->Prop}{w:World}{b sz:Nat}:∀{rs:List (List AV)} {off:Nat},froR St w b sz rs off->∀{i:Nat} {r:List AV},rs[i]?=some r->r.length=sz/\Dd St w b r (off+i * sz)
 |[],_,_,i,r,hi=>by simp at hi
 |r::rs,off,h,i,r',hi=>by
   simp only[froR]at h
   cases i with
   |zero=>simp at hi;subst hi;simpa using h.1
   |succ i=>
     simp only[List.getElem?_cons_succ]at hi;have:=NV h.2 hi
     rwa [show off+sz+i * sz=off+(i+1) * sz by rw[Nat.add_mul];omega]at this
theorem OH{St:Nat->Nat->Prop}{w:World}{b:Nat}:∀{xs:List AV} {off:Nat},(∀i x,xs[i]?=some x->St b (off+i)/\∃u,w.cell? ⟨b,off+i,none⟩=some u/\u.oneCell'=true/\Ai St w x u)->Dd St w b xs off
 |[],_,_=>by simp only[Dd]
 |x::xs,off,h=>by
   simp only[Dd];refine⟨h 0 x rfl,OH fun i y hi=>?_⟩;have:=h (i+1) y (by simpa using hi)
   rwa [show off+(i+1)=off+1+i by omega]at this
theorem PN{St:Nat->Nat->Prop}{w:World}{b sz:Nat}:∀{rs:List (List AV)} {off:Nat},(∀i r,rs[i]?=some r->r.length=sz/\Dd St w b r (off+i * sz))->froR St w b sz rs off
 |[],_,_=>by simp only[froR]
 |r::rs,off,h=>by
   simp only[froR];refine⟨by simpa using h 0 r rfl,PN fun i y hi=>?_⟩;have:=h (i+1) y (by simpa using hi)
   rwa [show off+(i+1) * sz=off+sz+i * sz by rw[Nat.add_mul];omega]at this
structure AH where
 bx:List (List AV)
 tk:List (Nat×Nat×List (List AV))
structure Env where
 w0:World
 ins:List Nat
 St0:Nat->Nat->Prop
structure Kept(w0:World)(ins:List Nat)(w:World):Prop where
 os:w.os=w0.os
 tape:w.tape=w0.tape
 output:w.output=w0.output
 size:w0.heap.size<=w.heap.size
 block:∀k,k<w0.heap.size->k∉ins->w.heap[k]?=w0.heap[k]?
def Qk(G:Gh)(w:World)(b:Nat)(row:List AV):Prop:=
 ∃(us:List Value) (T:TypeId),w.heap[b]?=some (.cells us.toArray T (0,0))/\AN G w row us/\∀u∈us,u.oneCell'=true
def WC(base:Nat)(G:Gh)(w:World)(n:Nat)(u:Value)(E sz:Nat)(rows:List (List AV)):Prop:=
 n=rows.length/\(∃xs,w.ownsRow base E sz u n xs)/\∀b,u.ownBlock=some b->∀o,n * sz<=o->¬G.St b o
structure HRel(E:Env)(G:Gh)(h:AH)(w:World):Prop where
 inpre:∀(i b:Nat),E.ins[i]?=some b->G.bx[i]?=some b
 kept:Kept E.w0 E.ins w
 stlt:∀b o,G.St b o->b<w.heap.size
 stnew:∀b o,G.St b o->E.St0 b o\/E.w0.heap.size<=b
 bxlen:G.bx.length=h.bx.length
 bxnd:G.bx.Nodup
 bxst:∀b∈G.bx,∀o,¬G.St b o
 bxown:∀b∈G.bx,E.w0.heap.size<=b\/b∈E.ins
 box:∀(i b:Nat) (row:List AV),G.bx[i]?=some b->h.bx[i]?=some row->Qk G w b row
 tklen:G.tk.length=h.tk.length
 tok:∀(g n:Nat) (u:Value) (T sz:Nat) (rows:List (List AV)),G.tk[g]?=some (n,u)->h.tk[g]?=some (T,sz,rows)->WC E.w0.heap.size G w n u T sz rows
 tkbx:∀(g n:Nat) (u:Value),G.tk[g]?=some (n,u)->∀b,u.ownBlock=some b->b∉G.bx
 tknd:∀(g g' n n':Nat) (u u':Value),G.tk[g]?=some (n,u)->G.tk[g']?=some (n',u')->g≠g'->∀b,u.ownBlock=some b->u'.ownBlock≠some b
theorem HRel.boxlt{E:Env}{G:Gh}{h:AH}{w:World}(hr:HRel E G h w){b:Nat}(hb:b∈G.bx):b<w.heap.size:=by
 obtain⟨i,hi⟩:=List.mem_iff_getElem?.1 hb;have hlt:i<h.bx.length:=by rw[<-hr.bxlen];exact(AZ.1 hi).1
 obtain⟨us,T,h1,_⟩:=hr.box i b _ hi (B7 hlt);exact(Array.getElem?_eq_some_iff.1 h1).1
theorem HRel.toklt{E:Env}{G:Gh}{h:AH}{w:World}(hr:HRel E G h w){g n:Nat}{u:Value}(hg:G.tk[g]?=some (n,u)){b:Nat}(hb:u.ownBlock=some b):E.w0.heap.size<=b/\b<w.heap.size:=by
 have hlt:g<h.tk.length:=by rw[<-hr.tklen];exact(AZ.1 hg).1
 obtain⟨_,⟨xs,h1⟩,_⟩:=hr.tok g n u _ _ _ hg (B7 hlt);exact World.ownsRow.lt h1 b hb
theorem HRel.grow{E:Env}{G:Gh}{h:AH}{w w':World}(hr:HRel E G h w)(hb:Below w.heap.size w w')(N:Nat->Nat->Prop)(hN:∀b o,N b o->w.heap.size<=b/\b<w'.heap.size):
    HRel E ⟨fun b o=>G.St b o\/N b o,G.bx,G.tk⟩ h w'/\Ext G w ⟨fun b o=>G.St b o\/N b o,G.bx,G.tk⟩ w':=by
 have he:Ext G w ⟨fun b o=>G.St b o\/N b o,G.bx,G.tk⟩ w':=
  ⟨fun b o hs=>⟨.inl hs,hb.cell (p:=⟨b,o,none⟩) (hr.stlt b o hs)⟩,fun _ _ h=>h,fun _ n u h=>⟨n,u,h,As _,fun _=>rfl⟩⟩
 refine⟨⟨hr.inpre,?_,?_,?_,hr.bxlen,hr.bxnd,?_,hr.bxown,?_,hr.tklen,?_,hr.tkbx,hr.tknd⟩,he⟩
 ·have k:=hr.kept;exact⟨hb.os.trans k.os,hb.tape.trans k.tape,hb.output.trans k.output,Nat.le_trans k.size hb.size,fun i hi hn=>(hb.block i (Nat.lt_of_lt_of_le hi k.size)).trans (k.block i hi hn)⟩
 ·rintro b o (hs|hs)
  ·exact Nat.lt_of_lt_of_le (hr.stlt b o hs) hb.size
  exact(hN b o hs).2
 ·rintro b o (hs|hs)
  ·exact hr.stnew b o hs
  exact .inr (Nat.le_trans hr.kept.size (hN b o hs).1)
 ·rintro b hbx o (hs|hs)
  ·exact hr.bxst b hbx o hs
  have:=hr.boxlt hbx;have:=(hN b o hs).1;omega
 ·intro i b row hi hrow;obtain⟨us,T,h1,h2,h3⟩:=hr.box i b row hi hrow;exact⟨us,T,(hb.block b (hr.boxlt (Aj hi))).trans h1,Fs he row us h2,h3⟩
 intro g n u T sz rows hg ht;obtain⟨h1,⟨xs,h2⟩,h3⟩:=hr.tok g n u T sz rows hg ht;refine⟨h1,⟨xs,World.ownsRow.kept h2 (w':=w') (row:=none) ⟨hb.os,hb.tape,hb.output,hb.size,fun k hk _=>hb.block k hk⟩ (by cases u.ownBlock<;>simp)⟩,fun b hub o ho=>?_⟩;rintro(hs|hs)
 ·exact h3 b hub o ho hs
 have:=(hr.toklt hg hub).2;have:=(hN b o hs).1;omega
theorem eJ(G:Gh):(⟨fun b o=>G.St b o\/False,G.bx,G.tk⟩:Gh)=G:=by
 cases G;simp
theorem HRel.below{E:Env}{G:Gh}{h:AH}{w w':World}(hr:HRel E G h w)(hb:Below w.heap.size w w'):HRel E G h w'/\Ext G w G w':=by
 have:=hr.grow hb (fun _ _=>False) (fun _ _ h=>h.elim)
 rwa [eJ]at this
theorem HRel.addBox{E:Env}{G:Gh}{h:AH}{w:World}(hr:HRel E G h w){b:Nat}{row:List AV}(hnew:b∉G.bx)(hbase:E.w0.heap.size<=b)(hst:∀o,¬G.St b o)
    (htk:∀(g n:Nat) (u:Value),G.tk[g]?=some (n,u)->u.ownBlock≠some b) (hbox:Qk G w b row):
    HRel E ⟨G.St,G.bx++[b],G.tk⟩ ⟨h.bx++[row],h.tk⟩ w/\Ext G w ⟨G.St,G.bx++[b],G.tk⟩ w:=by
 have he:Ext G w ⟨G.St,G.bx++[b],G.tk⟩ w:=
  ⟨fun _ _ h=>⟨h,rfl⟩,fun i b' hi=>by
   rw[DD (AZ.1 hi).1];exact hi,fun _ n u h=>⟨n,u,h,As _,fun _=>rfl⟩⟩
 refine⟨⟨fun i b' hi=>he.bx i b' (hr.inpre i b' hi),hr.kept,hr.stlt,hr.stnew,by simp[hr.bxlen],?_,?_,?_,?_,hr.tklen,hr.tok,?_,hr.tknd⟩,he⟩
 ·exact List.nodup_append.2 ⟨hr.bxnd,by simp,fun x hx y hy=>by simp at hy;subst hy;intro e;subst e;exact hnew hx⟩
 ·intro b' hb';rcases List.mem_append.1 hb' with h1|h1
  ·exact hr.bxst b' h1
  simp at h1;subst h1;exact hst
 ·intro b' hb';rcases List.mem_append.1 hb' with h1|h1
  ·exact hr.bxown b' h1
  simp at h1;subst h1;exact .inl hbase
 ·intro i b' row' hi hrow;rcases Nat.lt_or_ge i G.bx.length with hlt|hge
  ·rw[DD hlt]at hi;rw[DD (by rw[<-hr.bxlen];exact hlt)]at hrow;obtain⟨us,T,h1,h2,h3⟩:=hr.box i b' row' hi hrow;exact⟨us,T,h1,Fs he row' us h2,h3⟩
  rw[Er hge]at hi;rw[Er (by rw[<-hr.bxlen];exact hge),<-hr.bxlen]at hrow
  have h0:i - G.bx.length=0:=by
   have:=(AZ.1 hi).1;simp at this;omega
  rw[h0]at hi hrow;simp at hi hrow;subst hi;subst hrow;obtain⟨us,T,h1,h2,h3⟩:=hbox;exact⟨us,T,h1,Fs he row us h2,h3⟩
 intro g n u hg b' hb' hmem;rcases List.mem_append.1 hmem with h1|h1
 ·exact hr.tkbx g n u hg b' hb' h1
 simp at h1;subst h1;exact htk g n u hg hb'
theorem HRel.setBox{E:Env}{G:Gh}{h:AH}{w w':World}(hr:HRel E G h w){i b:Nat}{row:List AV}(hi:G.bx[i]?=some b)
    (hos:w'.os=w.os) (htape:w'.tape=w.tape) (hout:w'.output=w.output) (hsz:w'.heap.size=w.heap.size) (hblk:∀k,k≠b->w'.heap[k]?=w.heap[k]?)
    (hbox:∃(us:List Value) (T:TypeId),w'.heap[b]?=some (.cells us.toArray T (0,0))/\AN G w row us/\∀u∈us,u.oneCell'=true):
    HRel E G ⟨h.bx.set i row,h.tk⟩ w'/\Ext G w G w':=by
 have hmem:b∈G.bx:=Aj hi;have he:Ext G w G w':=⟨fun b' o hs=>⟨hs,World.cell?_of_block (w:=w) (a:=⟨b',o,none⟩) (hblk b' (fun e=>hr.bxst b hmem o (e ▸ hs)))⟩,fun _ _ h=>h,fun _ n u h=>⟨n,u,h,As _,fun _=>rfl⟩⟩;refine⟨⟨hr.inpre,?_,?_,hr.stnew,by simp[hr.bxlen],hr.bxnd,hr.bxst,hr.bxown,?_,hr.tklen,?_,hr.tkbx,hr.tknd⟩,he⟩
 ·have k:=hr.kept;refine⟨hos.trans k.os,htape.trans k.tape,hout.trans k.output,by rw[hsz];exact k.size,fun j hj hn=>?_⟩;refine(hblk j (fun e=>?_)).trans (k.block j hj hn);subst e;rcases hr.bxown j hmem with h1|h1
  ·omega
  exact hn h1
 ·intro b' o hs;rw[hsz];exact hr.stlt b' o hs
 ·intro j b' row' hj hrow;by_cases hji:j=i
  ·subst hji;rw[hi]at hj;injection hj with hj;subst hj;have hlt:j<h.bx.length:=by rw[<-hr.bxlen];exact(AZ.1 hi).1
   rw[List.getElem?_set_self hlt]at hrow;injection hrow with hrow;subst hrow;obtain⟨us,T,h1,h2,h3⟩:=hbox;exact⟨us,T,h1,Fs he row us h2,h3⟩
  rw[List.getElem?_set_ne (Ne.symm hji)]at hrow;obtain⟨us,T,h1,h2,h3⟩:=hr.box j b' row' hj hrow
  have hne:b'≠b:=by
   intro e;subst e;obtain⟨l1,e1⟩:=AZ.1 hi;obtain⟨l2,e2⟩:=AZ.1 hj;exact hji ((List.getElem_inj hr.bxnd).1 (e2.trans e1.symm))
  exact⟨us,T,(hblk b' hne).trans h1,Fs he row' us h2,h3⟩
 intro g n u T sz rows hg ht;obtain⟨h1,⟨xs,h2⟩,h3⟩:=hr.tok g n u T sz rows hg ht;refine⟨h1,⟨xs,World.ownsRow.kept h2 (w':=w') (row:=some b) ⟨hos,htape,hout,by omega,fun k _ hne=>hblk k (fun e=>hne (by rw[e]))⟩ (.inr (fun e=>hr.tkbx g n u hg b e hmem))⟩,h3⟩
def Fits(E:Env)(R:AV->AH->Prop)(G:Gh)(w:World)(v:Value)(w':World):Prop:=∃x h' G',R x h'/\HRel E G' h' w'/\Ext G w G' w'/\rep G' w' x v
def OJ(P:Program)(E:Env)(R:AV->AH->Prop)(G:Gh)(w:World):Result Next->Prop
 | .ok (.value v) w'=>Fits E R G w v w'
 | .ok .skip w'=>Fits E R G w undef w'
 | .ok (.enter f args) w'=>Calls P f args w' fun e w''=>match e with
     | .returned v=>Fits E R G w v w''
     |_=>False
 |_=>False
def AStep(P:Program)(o:Oper)(ev:Operand->Option AV)(h:AH)(R:AV->AH->Prop):Prop:=
 ∀(E:Env) (G:Gh) (w:World) (ec:Operand->Value),HRel E G h w->(∀x∈o.op.operands,∀av,ev x=some av->rep G w av (ec x))->OJ P E R G w ((execOp ec o).run P w)
theorem Fits.mono{E:Env}{R R':AV->AH->Prop}(hR:∀x h,R x h->R' x h){G:Gh}{w w':World}{v:Value}(h:Fits E R G w v w'):Fits E R' G w v w':=by
 obtain⟨x,h',G',h1,h2⟩:=h;exact⟨x,h',G',hR _ _ h1,h2⟩
theorem AStep.mono{P:Program}{o:Oper}{ev:Operand->Option AV}{h:AH}{R R':AV->AH->Prop}(hs:AStep P o ev h R)(hR:∀x h,R x h->R' x h):AStep P o ev h R':=by
 intro E G w ec h1 h2;have:=hs E G w ec h1 h2;revert this;generalize (execOp ec o).run P w=r;intro hu;unfold OJ at hu ⊢;split at hu
 ·exact hu.mono hR
 ·exact hu.mono hR
 ·refine Calls.mono hu ?_;intro e w'' h3
  cases e with
  |returned v=>exact Fits.mono hR h3
  |panicked c=>exact h3.elim
  |outgrown=>exact h3.elim
 exact hu.elim
theorem AStep.congr{P:Program}{o:Oper}{ev ev':Operand->Option AV}{h:AH}{R:AV->AH->Prop}(hs:AStep P o ev h R)(he:∀x∈o.op.operands,ev' x=ev x):AStep P o ev' h R:=
 fun E G w ec h1 h2=>hs E G w ec h1 (fun x hx av hav=>h2 x hx av (by rw[he x hx];exact hav))
def look:List (Nat×AV)->Nat->Option AV
 |[],_=>none
 |(i,x)::l,t=>match Nat.beq i t with
   |true=>some x
   |false=>look l t
def put(d:Option Tmp)(x:AV)(f:Nat->Option AV):Nat->Option AV:=
 match d with
 |some d=>fun t=>match Nat.beq d t with
   |true=>some x
   |false=>f t
 |none=>f
def CD(f:Nat->Option AV):Operand->Option AV
 | .tmp t=>f t
 | .const c=>some (.v c)
 | .global g=>some (.v (.pointer (some ⟨g,0,none⟩)))
 | .func f=>some (.fn f [])
structure Dim where
 n:Nat
 ni:Nat
def Ks(d:Option Tmp)(N:Dim):Bool:=
 match d with
 |some d=>Nat.blt d N.n
 |none=>true
structure AS where
 sl:Nat->Option AV
 h:AH
def SlotsR(G:Gh)(w:World)(f:Nat->Option AV)(a:Act):Prop:=∀t x,f t=some x->rep G w x (a.tmps.getD t undef)
def Rel(N:Dim)(E:Env)(s:AS)(a:Act)(w:World):Prop:=∃G,HRel E G s.h w/\SlotsR G w s.sl a/\a.tmps.size=N.n/\a.defers=[]/\E.ins.length=N.ni
def Sy(N:Dim)(E:Env)(Q:Exit->AS->Prop)(e:Exit)(a:Act)(w:World):Prop:=∃s,Q e s/\Rel N E s a w
def By(P:Program)(N:Dim)(c:Code)(Q:Exit->AS->Prop)(s:AS):Prop:=∀E a w,Rel N E s a w->c.wp P (Sy N E Q) a w
theorem SlotsR.ev{G:Gh}{w:World}{f:Nat->Option AV}{a:Act}(h:SlotsR G w f a){x:Operand}{av:AV}(hx:CD f x=some av):rep G w av (a.eval x):=by
 cases x with
 |tmp t=>exact h t av hx
 |const c=>simp only[CD,Option.some.injEq]at hx;subst hx;simp only[rep,Act.eval]
 |global g=>simp only[CD,Option.some.injEq]at hx;subst hx;simp only[rep,Act.eval]
 |func f=>simp only[CD,Option.some.injEq]at hx;subst hx;simp only[rep,Act.eval];exact⟨[],rfl,by simp only[AN]⟩
theorem Mq(d:Nat)(x:AV)(l:List (Nat×AV)):put (some d) x (look l)=look ((d,x)::l):=rfl
theorem Kt(d:Nat)(x:AV)(f:Nat->Option AV)(t:Nat):put (some d) x f t=if d=t then some x else f t:=by
 show(match Nat.beq d t with|true=>some x|false=>f t)=_;by_cases h:d=t
 ·subst h;simp
 have:Nat.beq d t=false:=by
  rw[<-Bool.not_eq_true,Nat.beq_eq];exact h
 rw[this,if_neg h]
theorem SlotsR.put{G G':Gh}{w w':World}{f:Nat->Option AV}{a:Act}{N:Dim}(h:SlotsR G w f a)(he:Ext G w G' w')(hn:a.tmps.size=N.n){d:Option Tmp}{x:AV}{v:Value}(hd:Ks d N=true)(hx:rep G' w' x v):
    SlotsR G' w' (put d x f) (a.put d v)/\(a.put d v).tmps.size=N.n/\(a.put d v).defers=a.defers:=by
 cases d with
 |none=>exact⟨fun t y ht=>MH he _ _ (h t y ht),hn,rfl⟩
 |some d=>
   have hdn:d<N.n:=Bl hd;refine⟨fun t y ht=>?_,by simp[Act.put,hn],rfl⟩;rw[Kt]at ht;by_cases hdt:d=t
   ·subst hdt;rw[if_pos rfl]at ht;injection ht with ht;subst ht;have:(a.put (some d) v).tmps.getD d undef=v:=by simp[Act.put,hn,hdn]
    rw[this];exact hx
   rw[if_neg hdt]at ht;have:(a.put (some d) v).tmps.getD t undef=a.tmps.getD t undef:=by simp[Act.put,Array.getElem?_setIfInBounds_ne hdt]
   rw[this];exact MH he _ _ (h t y ht)
section
variable {P:Program}{N:Dim}{Q:Exit->AS->Prop}{s:AS}
def KM(K:AS->Prop)(Q:Exit->AS->Prop):Exit->AS->Prop
 | .normal,s=>K s
 |e,s=>Q e s
theorem Ci(h:Q .normal s):By P N .skip Q s:=fun _ _ _ hr=>wp_skip ⟨s,h,hr⟩
theorem Ll{id:Nat}(h:Q (.exit id) s):By P N (.exit id) Q s:=fun _ _ _ hr=>wp_exit ⟨s,h,hr⟩
theorem BH(h:Q .ret s):By P N .ret Q s:=fun _ _ _ hr=>wp_ret ⟨s,h,hr⟩
theorem Rel.bool{E:Env}{a:Act}{w:World}(hr:Rel N E s a w){c:Operand}{t:Bool}(hc:CD s.sl c=some (.v (.bool t))):a.eval c= .bool t:=by
 obtain⟨G,_,hs,_⟩:=hr;have:=hs.ev hc
 simpa only[rep]using this
theorem Sz{c:Operand}{x y:Code}{t:Bool}(hc:CD s.sl c=some (.v (.bool t)))(ht:t=true->By P N x Q s)(hf:t=false->By P N y Q s):By P N (.cond c x y) Q s:=
 fun E a w hr=>wp_cond_split (hr.bool hc) (fun h=>ht h E a w hr) (fun h=>hf h E a w hr)
def Mr(id:Nat)(Q:Exit->AS->Prop):Exit->AS->Prop
 | .exit id',s=>if id'=id then Q .normal s else Q (.exit id') s
 |e,s=>Q e s
theorem Ku{id:Nat}(h:Q .normal s):Mr id Q (.exit id) s:=by simp only[Mr,if_true];exact h
theorem PO{id id':Nat}(hne:Nat.beq id' id=false)(h:Q (.exit id') s):Mr id Q (.exit id') s:=by
 have:¬id'=id:=fun e=>by subst e;simp at hne
 simp only[Mr,this,if_false];exact h
theorem BF{id:Nat}{c:Code}(h:By P N c (Mr id Q) s):By P N (.block id c) Q s:=by
 intro E a w hr;refine wp_block (wp_mono (h E a w hr) ?_);rintro e a' w' ⟨s',hq,hr'⟩
 cases e with
 |exit id'=>
   simp only[Mr,Exit.inBlock]at hq ⊢;split
   ·rename_i h1;rw[if_pos h1]at hq;exact⟨s',hq,hr'⟩
   rename_i h1;rw[if_neg h1]at hq;exact⟨s',hq,hr'⟩
 |normal=>exact⟨s',hq,hr'⟩
 |goto l=>exact⟨s',hq,hr'⟩
 |ret=>exact⟨s',hq,hr'⟩
 |panic c=>exact⟨s',hq,hr'⟩
 |outgrown=>exact⟨s',hq,hr'⟩
theorem eK{c:Code}(I:Nat->AS->Prop)(n:Nat)(h0:I n s)(round:∀n s,I n s->By P N c (KM (fun s'=>∃m,m<n/\I m s') Q) s):By P N (.loop c) Q s:=by
 intro E a w hr;refine wp_loop_ghost (fun n a w=>∃s,I n s/\Rel N E s a w) n ⟨s,h0,hr⟩ ?_;rintro n a w ⟨s,hI,hr⟩;refine wp_mono (round n s hI E a w hr) ?_;rintro e a' w' ⟨s',hq,hr'⟩
 cases e with
 |normal=>obtain⟨m,h1,h2⟩:=hq;exact⟨m,h1,s',h2,hr'⟩
 |exit id=>exact⟨s',hq,hr'⟩
 |goto l=>exact⟨s',hq,hr'⟩
 |ret=>exact⟨s',hq,hr'⟩
 |panic c=>exact⟨s',hq,hr'⟩
 |outgrown=>exact⟨s',hq,hr'⟩
theorem Ql{E:Env}{R:AV->AH->Prop}{G:Gh}{w:World}{r:Result Next}{o:Oper}{a:Act}{next:Act->World->Prop}{Q':Exit->Act->World->Prop}(h:OJ P E R G w r)
    (hn:∀v w',Fits E R G w v w'->next (a.put o.dst v) w'):o.upon P a next Q' r:=by
 unfold OJ at h;split at h
 ·exact hn _ _ h
 ·exact hn _ _ h
 ·refine Calls.mono h ?_;intro e w'' h3
  cases e with
  |returned v=>exact hn _ _ h3
  |panicked c=>exact h3.elim
  |outgrown=>exact h3.elim
 exact h.elim
theorem T0{E:Env}{a:Act}{w:World}{o:Oper}{K:AS->Prop}{next:Act->World->Prop}{Q':Exit->Act->World->Prop}(hr:Rel N E s a w)(hd:Ks o.dst N=true)
    (h:AStep P o (CD s.sl) s.h (fun x h'=>K ⟨put o.dst x s.sl,h'⟩)) (hn:∀s' a' w',K s'->Rel N E s' a' w'->next a' w'):o.wp P a w next Q':=by
 obtain⟨G,h1,h2,h3,h4,h5⟩:=hr;refine Ql (h E G w a.eval h1 (fun x _ av hav=>h2.ev hav)) ?_;rintro v w' ⟨x,h',G',hK,k1,k2,k3⟩;obtain⟨k4,k5,k6⟩:=h2.put k2 h3 hd k3;exact hn _ _ _ hK ⟨G',k1,k4,k5,k6.trans h4,h5⟩
theorem WD{E:Env}{a:Act}{w:World}{d:Option Tmp}(hr:Rel N E s a w)(hd:Ks d N=true):Rel N E ⟨put d (.v undef) s.sl,s.h⟩ (a.put d undef) w:=by
 obtain⟨G,h1,h2,h3,h4,h5⟩:=hr;obtain⟨k4,k5,k6⟩:=h2.put (Ext.refl G w) h3 hd (x:= .v undef) (v:=undef) (by simp only[rep]);exact⟨G,h1,k4,k5,k6.trans h4,h5⟩
def yv(ops:Array Oper)(f:Nat->Option AV)(j:Nat):Option (Option Bool):=
 match (ops[j]?).bind (·.dst)with
 |none=>some none
 |some d=>match f d with
   |some (.v (.bool b))=>some (some b)
   |some (.v (.tuple _))=>some none
   |_=>none
def Cv(ops:Array Oper)(f:Nat->Option AV)(o:Oper):Option Bool:=
 match o.guard with
 |none=>some true
 |some (j,want)=>match yv ops f j with
   |some (some b)=>some (b==want)
   |some none=>some false
   |none=>none
theorem WE{ops:Array Oper}{o:Oper}{E:Env}{a:Act}{w:World}{t:Bool}(hr:Rel N E s a w)(h:Cv ops s.sl o=some t):Region.wanted o (yielded ops a.tmps)=t:=by
 obtain⟨G,_,hs,_⟩:=hr;unfold Cv at h;unfold Region.wanted
 cases hg:o.guard with
 |none=>simp only[hg]at h ⊢;injection h
 |some jw=>
   obtain⟨j,want⟩:=jw;simp only[hg]at h ⊢;unfold yv at h;unfold yielded
   cases hj:(ops[j]?).bind (·.dst)with
   |none=>simp only[hj]at h ⊢;simp at h ⊢;exact h.symm ▸ rfl
   |some d=>
     simp only[hj]at h ⊢
     cases hl:s.sl d with
     |none=>simp[hl]at h
     |some av=>
       have hrep:=hs d av hl;simp only[hl]at h
       cases av with
       |v x=>
         simp only[rep]at hrep;rw[Array.getD_eq_getD_getElem?]at hrep
         cases x with
         |bool b=>
           simp only at h;injection h with h
           cases hd:a.tmps[d]? with
           |none=>rw[hd]at hrep;simp[undef]at hrep
           |some y=>rw[hd]at hrep;simp at hrep;subst hrep;simp[hd,<-h]
         |tuple vs=>
           simp only at h;injection h with h
           cases hd:a.tmps[d]? with
           |none=>simp[hd,<-h]
           |some y=>rw[hd]at hrep;simp at hrep;subst hrep;simp[hd,<-h]
         |_=>simp at h
       |_=>simp at h
def AL(P:Program)(N:Dim)(ops:Array Oper)(Q:Exit->AS->Prop)(rest:List Oper)(s:AS):Prop:=∀E a w,Rel N E s a w->wpList P ops (Sy N E Q) rest a w
theorem Aq{id:Nat}{l:List Oper}(h:AL P N l.toArray Q l s):By P N (.region id l.toArray false) Q s:=fun E a w hr=>wp_region_lit (h E a w hr)
theorem Bu{ops:Array Oper}(h:Q .normal s):AL P N ops Q [] s:=fun _ _ _ hr=>wpList_nil ⟨s,h,hr⟩
theorem WF{ops:Array Oper}{o:Oper}{rest:List Oper}(hg:o.guard=none)(hd:Ks o.dst N=true)(h:AStep P o (CD s.sl) s.h (fun x h'=>AL P N ops Q rest ⟨put o.dst x s.sl,h'⟩)):AL P N ops Q (o::rest) s:=
 fun E a w hr=>wpList_plain hg fun _ hK=>T0 hr hd h fun s' a' w' h1 h2=>hK _ _ (h1 E a' w' h2)
theorem WG{ops:Array Oper}{o:Oper}{rest:List Oper}{t:Bool}(hg:Cv ops s.sl o=some t)(hd:Ks o.dst N=true)(h:t=true->AStep P o (CD s.sl) s.h (fun x h'=>AL P N ops Q rest ⟨put o.dst x s.sl,h'⟩))
    (h':t=false->AL P N ops Q rest ⟨put o.dst (.v undef) s.sl,s.h⟩):AL P N ops Q (o::rest) s:=by
 intro E a w hr;refine wpList_step fun K hK=>?_;rw[WE hr hg]
 cases t with
 |true=>exact T0 hr hd (h rfl) fun s' a' w' h1 h2=>hK _ _ (h1 E a' w' h2)
 |false=>exact hK _ _ (h' rfl E _ _ (WD hr hd))
theorem eL{ops:Array Oper}{o:Oper}{rest:List Oper}(hg:Cv ops s.sl o=some true)(hd:Ks o.dst N=true)(h:AStep P o (CD s.sl) s.h (fun x h'=>AL P N ops Q rest ⟨put o.dst x s.sl,h'⟩)):AL P N ops Q (o::rest) s:=
 WG hg hd (fun _=>h) (fun h=>by cases h)
theorem WH{ops:Array Oper}{o:Oper}{rest:List Oper}(hg:Cv ops s.sl o=some false)(hd:Ks o.dst N=true)(h:AL P N ops Q rest ⟨put o.dst (.v undef) s.sl,s.h⟩):AL P N ops Q (o::rest) s:=
 WG hg hd (fun h=>by cases h) (fun _=>h)
def AOp(P:Program)(N:Dim)(ops:Array Oper)(i:Nat)(K:AS->Prop)(s:AS):Prop:=
 match ops[i]? with
 |none=>False
 |some o=>Ks o.dst N=true/\∃t,Cv ops s.sl o=some t/\(t=true->AStep P o (CD s.sl) s.h (fun x h'=>K ⟨put o.dst x s.sl,h'⟩))/\(t=false->K ⟨put o.dst (.v undef) s.sl,s.h⟩)
def AAny(P:Program)(N:Dim)(ops:Array Oper)(Q:Exit->AS->Prop)(S:AH->Prop)(tl:Nat):Nat->Array Bool->AS->Prop
 |0,listed,s=>Region.ready .any ops listed=[]/\Q .normal s
 |fuel+1,listed,s=>(Region.ready .any ops listed=[]->Q .normal s)/\∀i∈Region.ready .any ops listed,AOp P N ops i (fun s'=>(Nat.ble tl i=true\/S s'.h)/\AAny P N ops Q S tl fuel (listed.setIfInBounds i true) s') s
theorem AOp.wp{ops:Array Oper}{i:Nat}{K:AS->Prop}{E:Env}{a:Act}{w:World}{next:Act->World->Prop}{Q':Exit->Act->World->Prop}(hr:Rel N E s a w)(h:AOp P N ops i K s)(hn:∀s' a' w',K s'->Rel N E s' a' w'->next a' w'):wpOp P ops Q' i next a w:=by
 unfold AOp at h;unfold wpOp
 cases ho:ops[i]? with
 |none=>simp only[ho]at h
 |some o=>
   simp only[ho]at h ⊢;obtain⟨hd,t,ht,h1,h2⟩:=h;rw[WE hr ht]
   cases t with
   |true=>exact .inl (T0 hr hd (h1 rfl) hn)
   |false=>exact hn _ _ _ (h2 rfl) (WD hr hd)
theorem AAny.wp{ops:Array Oper}{S:AH->Prop}{tl:Nat}{E:Env}:∀(fuel:Nat) (listed:Array Bool) (s:AS) (a:Act) (w:World),Rel N E s a w->AAny P N ops Q S tl fuel listed s->wpAny P .any ops (Sy N E Q) fuel listed a w
 |0,_,s,_,_,hr,h=>⟨h.1,s,h.2,hr⟩
 |fuel+1,_,s,_,_,hr,h=>⟨fun h0=>⟨s,h.1 h0,hr⟩,fun i hi=>(h.2 i hi).wp hr fun s' a' w' hk hr'=>AAny.wp fuel _ s' a' w' hr' hk.2⟩
theorem Rel.drew{E:Env}{a:Act}{w:World}(hr:Rel N E s a w):Rel N E s a {w with drawn:=w.drawn+1}:=by
 obtain⟨G,h1,h2,h3⟩:=hr;obtain⟨k1,k2⟩:=h1.below (w':={w with drawn:=w.drawn+1}) ⟨rfl,rfl,rfl,As _,fun _ _=>rfl⟩;exact⟨G,k1,fun t x ht=>MH k2 _ _ (h2 t x ht),h3⟩
theorem OK{id:Nat}{l:List Oper}(S:AH->Prop)(tl:Nat)(hm:P.follows .mixedOrders=true)(h:AAny P N l.toArray Q S tl l.length (Array.replicate l.length false) s):By P N (.region id l.toArray true) Q s:=by
 intro E a w hr;refine wp_region_any hm ?_;have:=AAny.wp (Q:=Q) l.length (Array.replicate l.length false) s a _ hr.drew h
 simpa using this
end
section
variable {P:Program}{N:Dim}{Q:Exit->AS->Prop}{ops:Array Oper}{S:AH->Prop}{tl:Nat}
theorem WJ{x y:Option Tmp}(f:Nat->Option AV)(u v:AV)(h:∀d,x=some d->y≠some d):put y v (put x u f)=put x u (put y v f):=by
 cases x with
 |none=>rfl
 |some d=>
   cases y with
   |none=>rfl
   |some e=>
     have hne:d≠e:=fun he=>h d rfl (he ▸ rfl)
     funext t
     simp only[Kt];by_cases h1:d=t
     ·by_cases h2:e=t
      ·exact absurd (h1.trans h2.symm) hne
      rw[if_neg h2,if_pos h1,if_pos h1]
     rw[if_neg h1,if_neg h1]
theorem WK{d:Option Tmp}(f:Nat->Option AV)(u:AV){t:Nat}(h:d≠some t):put d u f t=f t:=by
 cases d with
 |none=>rfl
 |some d=>rw[Kt,if_neg (fun e=>h (by rw[e]))]
theorem T3{d:Option Tmp}(f:Nat->Option AV)(u:AV){x:Operand}(h:∀t,d=some t->x≠ .tmp t):CD (put d u f) x=CD f x:=by
 cases x with
 |tmp t=>exact WK f u (fun e=>h t e rfl)
 |_=>rfl
theorem T4{o:Oper}{t:Tmp}(h:Operand.tmp t∈o.op.operands):t∈o.looksAt ops:=by
 unfold Oper.looksAt;refine List.mem_append.2 (.inl (List.mem_filterMap.2 ⟨.tmp t,by simpa using h,rfl⟩))
theorem Qm{d:Option Tmp}{o:Oper}(f:Nat->Option AV)(u:AV)(h:∀t,d=some t->t∉o.looksAt ops):Cv ops (put d u f) o=Cv ops f o:=by
 unfold Cv
 cases hg:o.guard with
 |none=>rfl
 |some jw=>
   obtain⟨j,want⟩:=jw;simp only;unfold yv
   cases hj:(ops[j]?).bind (·.dst)with
   |none=>rfl
   |some t=>
     simp only;rw[WK f u];intro e;refine h t e ?_;unfold Oper.looksAt;rw[hg];simp only[hj];exact List.mem_append.2 (.inr (by simp))
def Steady(P:Program)(ops:Array Oper)(S:AH->Prop)(o:Oper)(x:AV)(f:Nat->Option AV):Prop:=
 (Cv ops f o=some true/\∀h,S h->AStep P o (CD f) h (fun x' h'=>x'=x/\h'=h))\/(Cv ops f o=some false/\x= .v undef)
theorem Steady.put{o:Oper}{x:AV}{f:Nat->Option AV}(hs:Steady P ops S o x f){d:Option Tmp}(u:AV)(h:∀t,d=some t->t∉o.looksAt ops):Steady P ops S o x (put d u f):=by
 rcases hs with⟨h1,h2⟩|⟨h1,h2⟩
 ·exact .inl ⟨by rw[Qm f u h];exact h1,fun hh hS=>(h2 hh hS).congr fun y hy=>T3 f u fun t e he=>h t e (T4 (he ▸ hy))⟩
 exact .inr ⟨by rw[Qm f u h];exact h1,h2⟩
theorem Steady.op{i:Nat}{o:Oper}{x:AV}{s:AS}{K:AS->Prop}(hi:ops[i]?=some o)(hd:Ks o.dst N=true)(hs:Steady P ops S o x s.sl)(hS:S s.h)(hK:K ⟨Go.Proofs.YtbgnigjfkbmceaaGreatDoor.put o.dst x s.sl,s.h⟩):AOp P N ops i K s:=by
 unfold AOp;simp only[hi];refine⟨hd,?_⟩;rcases hs with⟨h1,h2⟩|⟨h1,h2⟩
 ·exact⟨true,h1,fun _=>(h2 s.h hS).mono fun x' h' ⟨e1,e2⟩=>by subst e1;subst e2;exact hK,fun h=>by cases h⟩
 exact⟨false,h1,(fun h=>by cases h),fun _=>by subst h2;exact hK⟩
def T5(ops:Array Oper)(tl:Nat):Bool:=
 (List.range ops.size).all fun k=>Nat.blt k tl||match ops[k]? with
   |none=>true
   |some o=>(List.range tl).all fun j=>o.after.any fun e=>Region.binds .any e&&e.on==j
theorem AAny.first{i:Nat}{oi:Oper}{x:AV}(hi:ops[i]?=some oi)(hd:Ks oi.dst N=true)(htl:T5 ops tl=true)(hit:Nat.ble tl i=false):
    ∀(fuel:Nat) (listed:Array Bool) (s:AS),
     (∀j oj,ops[j]?=some oj->j≠i->listed.getD j true=false->(∀e∈oj.after,Region.binds .any e=true->e.on≠i)->oi.apart ops oj=true)->
     i∈Region.ready .any ops listed->Steady P ops S oi x s.sl->S s.h->
     AAny P N ops Q S tl fuel (listed.setIfInBounds i true) ⟨put oi.dst x s.sl,s.h⟩->AAny P N ops Q S tl (fuel+1) listed s:=by
 intro fuel
 induction fuel with
 |zero=>
   intro listed s _ hr hy hS H;refine⟨fun h=>(by rw[h]at hr;cases hr),fun j hj=>?_⟩;by_cases hji:j=i
   ·subst hji;exact hy.op hi hd hS ⟨.inr hS,H⟩
   have:=ready_mono hj hji;rw[H.1]at this;cases this
 |succ fuel ih=>
   intro listed s hfree hr hy hS H;refine⟨fun h=>(by rw[h]at hr;cases hr),fun j hj=>?_⟩;by_cases hji:j=i
   ·subst hji;exact hy.op hi hd hS ⟨.inr hS,H⟩
   have h1:=H.2 j (ready_mono hj hji);obtain⟨hjun,oj,hoj,hall⟩:=mem_ready.1 hj
   have hnot:∀e∈oj.after,Region.binds .any e=true->e.on≠i:=fun e he hb heq=>by
    have h1:=hall e he hb;have h0:=(mem_ready.1 hr).1;rw[heq]at h1;rcases Nat.lt_or_ge i listed.size with h'|h'
    ·simp[h']at h0 h1;rw[h0]at h1;cases h1
    simp[Array.getElem?_eq_none h']at h1
   obtain⟨a1,a2,a3⟩:=Oper.apart_spec (hfree j oj hoj hji hjun hnot)
   have hfree':∀k ok,ops[k]?=some ok->k≠i->(listed.setIfInBounds j true).getD k true=false->
       (∀e∈ok.after,Region.binds .any e=true->e.on≠i)->oi.apart ops ok=true:=fun k ok hk hki hun hno=>by
    refine hfree k ok hk hki ?_ hno;by_cases hjk:j=k
    ·subst hjk;exact hjun
    rw[getD_set_ne true hjk]at hun;exact hun
   have hjt:¬Nat.ble tl j=true:=by
    intro e;rw[Nat.ble_eq]at e
    have hil:i<tl:=by
     rw[<-Bool.not_eq_true,Nat.ble_eq]at hit;omega
    unfold T5 at htl;have h1:=List.all_eq_true.1 htl j (List.mem_range.2 (Array.getElem?_eq_some_iff.1 hoj).1);rw[Bool.or_eq_true,Nat.blt_eq]at h1;rcases h1 with h1|h1
    ·omega
    rw[hoj]at h1;have h2:=List.all_eq_true.1 h1 i (List.mem_range.2 hil);obtain⟨e,he,hb⟩:=Array.any_eq_true'.1 h2;simp only[Bool.and_eq_true,beq_iff_eq]at hb;exact hnot e he hb.1 hb.2
   have hgo:∀(y:AV) (h':AH),S h'->AAny P N ops Q S tl fuel ((listed.setIfInBounds i true).setIfInBounds j true) ⟨put oj.dst y (put oi.dst x s.sl),h'⟩->
       AAny P N ops Q S tl (fuel+1) (listed.setIfInBounds j true) ⟨put oj.dst y s.sl,h'⟩:=fun y h' hS' hA=>by
    refine ih (listed.setIfInBounds j true) ⟨put oj.dst y s.sl,h'⟩ hfree' (ready_mono hr (Ne.symm hji)) (hy.put y a3) hS' ?_;rw[Array.setIfInBounds_comm _ _ hji,<-WJ s.sl x y a2];exact hA
   unfold AOp at h1 ⊢;simp only[hoj]at h1 ⊢;obtain⟨k1,t,k2,k3,k4⟩:=h1;rw[Qm s.sl x a1]at k2;refine⟨k1,t,k2,fun ht=>?_,fun ht=>?_⟩
   ·refine((k3 ht).congr fun z hz=>(T3 s.sl x fun u e he=>a1 u e (T4 (he ▸ hz))).symm).mono ?_;rintro y h' ⟨q1,q2⟩;have q1':=q1.resolve_left hjt;exact⟨.inr q1',hgo y h' q1' q2⟩
   obtain⟨q1,q2⟩:=k4 ht;have q1':=q1.resolve_left hjt;exact⟨.inr q1',hgo (.v undef) s.h q1' q2⟩
def Clo(ops:Array Oper)(listed:Array Bool):Prop:=∀(k:Nat) (o:Oper),ops[k]?=some o->listed.getD k false=true->∀e∈o.after,Region.binds .any e=true->listed.getD e.on false=true
def Qn(ops:Array Oper)(listed:Array Bool):Bool:=
 (List.range ops.size).all fun k=> !listed.getD k false||match ops[k]? with
   |none=>true
   |some o=>o.after.all fun e=> !Region.binds .any e||listed.getD e.on false
theorem WM{listed:Array Bool}(h:Qn ops listed=true):Clo ops listed:=by
 intro k o hk hl e he hb;have h1:=List.all_eq_true.1 h k (List.mem_range.2 (Array.getElem?_eq_some_iff.1 hk).1);simp only[hl,Bool.not_true,Bool.false_or,hk]at h1;have h2:=Array.all_eq_true'.1 h1 e he
 simpa[hb]using h2
theorem Clo.step{listed:Array Bool}(h:Clo ops listed){j:Nat}{oj:Oper}(hj:ops[j]?=some oj)(hall:∀e∈oj.after,Region.binds .any e=true->listed.getD e.on false=true):Clo ops (listed.setIfInBounds j true):=by
 intro k o hk hl e he hb;refine getD_set_true ?_;by_cases hjk:j=k
 ·subst hjk;rw[hj]at hk;injection hk with hk;subst hk;exact hall e he hb
 rw[getD_set_ne false hjk]at hl;exact h k o hk hl e he hb
def Qo(ops:Array Oper)(tl:Nat):Bool:=
 (List.range ops.size).all fun j=>(Nat.ble tl j&&(j==tl||match ops[j]? with
   |none=>false
   |some o=>o.after.any fun e=>Region.binds .any e&&e.on==tl))||(Nat.blt j tl&&(List.range ops.size).any fun k=>Nat.blt j k&&Nat.ble k tl&&match ops[k]? with
   |none=>false
   |some o=>o.after.any fun e=>Region.binds .any e&&e.on==j)
theorem eM{listed:Array Bool}{j:Nat}{oj:Oper}(h:Qo ops tl=true)(hc:Clo ops listed)(hj:tl<=j)(hoj:ops[j]?=some oj)(hall:∀e∈oj.after,Region.binds .any e=true->listed.getD e.on false=true):∀i,i<tl->listed.getD i false=true:=by
 have hjs:=(Array.getElem?_eq_some_iff.1 hoj).1;have hts:tl<ops.size:=by omega
 have htl:∀ot,ops[tl]?=some ot->∀e∈ot.after,Region.binds .any e=true->listed.getD e.on false=true:=by
  intro ot ho;by_cases hjt:j=tl
  ·subst hjt;rw[hoj]at ho;injection ho with ho;subst ho;exact hall
  have h4:=List.all_eq_true.1 h j (List.mem_range.2 hjs);rw[Bool.or_eq_true,Bool.and_eq_true,Bool.and_eq_true,Nat.blt_eq]at h4;rcases h4 with h4|h4
  ·have h5:=h4.2;rw[hoj]at h5;simp only[Bool.or_eq_true,beq_iff_eq,hjt,false_or]at h5;obtain⟨e,he,hb⟩:=Array.any_eq_true'.1 h5;simp only[Bool.and_eq_true,beq_iff_eq]at hb;have h6:=hall e he hb.1;rw[hb.2]at h6;exact hc tl ot ho h6
  omega
 have key:∀(n i:Nat),tl - i<=n->i<tl->listed.getD i false=true:=by
  intro n
  induction n with
  |zero=>intro i h1 h2;omega
  |succ n ih=>
    intro i h1 h2;have h4:=List.all_eq_true.1 h i (List.mem_range.2 (by omega));rw[Bool.or_eq_true,Bool.and_eq_true,Bool.and_eq_true,Nat.ble_eq,Nat.blt_eq]at h4;rcases h4 with h4|h4
    ·omega
    obtain⟨k,hk,h5⟩:=List.any_eq_true.1 h4.2;simp only[Bool.and_eq_true,Nat.blt_eq,Nat.ble_eq]at h5;obtain⟨⟨h6,h6'⟩,h7⟩:=h5
    cases ho:ops[k]? with
    |none=>rw[ho]at h7;cases h7
    |some o=>
      rw[ho]at h7;obtain⟨e,he,hb⟩:=Array.any_eq_true'.1 h7;simp only[Bool.and_eq_true,beq_iff_eq]at hb;by_cases hkt:k=tl
      ·subst hkt;have:=htl o ho e he hb.1
       rwa [hb.2]at this
      have:=hc k o ho (ih k (by omega) (by omega)) e he hb.1
      rwa [hb.2]at this
 exact fun i=>key _ i (As _)
theorem AAny.first3{i:Nat}{oi:Oper}{x:AV}(hi:ops[i]?=some oi)(hd:Ks oi.dst N=true)(htl:Qo ops tl=true)(hit:Nat.ble tl i=false):
    ∀(fuel:Nat) (listed:Array Bool) (s:AS),Clo ops listed->
     (∀j oj,ops[j]?=some oj->j≠i->listed.getD j true=false->(∀e∈oj.after,Region.binds .any e=true->e.on≠i)->oi.apart ops oj=true)->
     i∈Region.ready .any ops listed->Steady P ops S oi x s.sl->S s.h->
     AAny P N ops Q S tl fuel (listed.setIfInBounds i true) ⟨put oi.dst x s.sl,s.h⟩->AAny P N ops Q S tl (fuel+1) listed s:=by
 intro fuel
 induction fuel with
 |zero=>
   intro listed s _ _ hr hy hS H;refine⟨fun h=>(by rw[h]at hr;cases hr),fun j hj=>?_⟩;by_cases hji:j=i
   ·subst hji;exact hy.op hi hd hS ⟨.inr hS,H⟩
   have:=ready_mono hj hji;rw[H.1]at this;cases this
 |succ fuel ih=>
   intro listed s hcl hfree hr hy hS H;refine⟨fun h=>(by rw[h]at hr;cases hr),fun j hj=>?_⟩;by_cases hji:j=i
   ·subst hji;exact hy.op hi hd hS ⟨.inr hS,H⟩
   have h1:=H.2 j (ready_mono hj hji);obtain⟨hjun,oj,hoj,hall⟩:=mem_ready.1 hj
   have hun:∀k,k=i->listed.getD k false=true->False:=fun k hk h1=>by
    have h0:=(mem_ready.1 hr).1;rw[hk]at h1;rcases Nat.lt_or_ge i listed.size with h'|h'
    ·simp[h']at h0 h1;rw[h0]at h1;cases h1
    simp[Array.getElem?_eq_none h']at h1
   have hnot:∀e∈oj.after,Region.binds .any e=true->e.on≠i:=fun e he hb heq=>hun _ heq (hall e he hb);obtain⟨a1,a2,a3⟩:=Oper.apart_spec (hfree j oj hoj hji hjun hnot)
   have hfree':∀k ok,ops[k]?=some ok->k≠i->(listed.setIfInBounds j true).getD k true=false->
       (∀e∈ok.after,Region.binds .any e=true->e.on≠i)->oi.apart ops ok=true:=fun k ok hk hki hun hno=>by
    refine hfree k ok hk hki ?_ hno;by_cases hjk:j=k
    ·subst hjk;exact hjun
    rw[getD_set_ne true hjk]at hun;exact hun
   have hjt:¬Nat.ble tl j=true:=by
    intro e;rw[Nat.ble_eq]at e
    have hil:i<tl:=by
     rw[<-Bool.not_eq_true,Nat.ble_eq]at hit;omega
    exact hun _ rfl (eM htl hcl e hoj hall _ hil)
   have hgo:∀(y:AV) (h':AH),S h'->AAny P N ops Q S tl fuel ((listed.setIfInBounds i true).setIfInBounds j true) ⟨put oj.dst y (put oi.dst x s.sl),h'⟩->
       AAny P N ops Q S tl (fuel+1) (listed.setIfInBounds j true) ⟨put oj.dst y s.sl,h'⟩:=fun y h' hS' hA=>by
    refine ih (listed.setIfInBounds j true) ⟨put oj.dst y s.sl,h'⟩ (hcl.step hoj hall) hfree' (ready_mono hr (Ne.symm hji)) (hy.put y a3) hS' ?_;rw[Array.setIfInBounds_comm _ _ hji,<-WJ s.sl x y a2];exact hA
   unfold AOp at h1 ⊢;simp only[hoj]at h1 ⊢;obtain⟨k1,t,k2,k3,k4⟩:=h1;rw[Qm s.sl x a1]at k2;refine⟨k1,t,k2,fun ht=>?_,fun ht=>?_⟩
   ·refine((k3 ht).congr fun z hz=>(T3 s.sl x fun u e he=>a1 u e (T4 (he ▸ hz))).symm).mono ?_;rintro y h' ⟨q1,q2⟩;have q1':=q1.resolve_left hjt;exact⟨.inr q1',hgo y h' q1' q2⟩
   obtain⟨q1,q2⟩:=k4 ht;have q1':=q1.resolve_left hjt;exact⟨.inr q1',hgo (.v undef) s.h q1' q2⟩
def Lm(ops:Array Oper)(tl:Nat)(listed:Array Bool):Bool:=T5 ops tl||(Qo ops tl&&Qn ops listed)
theorem AAny.firstX{i:Nat}{oi:Oper}{x:AV}{listed:Array Bool}(hi:ops[i]?=some oi)(hd:Ks oi.dst N=true)(htl:Lm ops tl listed=true)(hit:Nat.ble tl i=false)(fuel:Nat)(s:AS)
      (hf:∀j oj,ops[j]?=some oj->j≠i->listed.getD j true=false->(∀e∈oj.after,Region.binds .any e=true->e.on≠i)->oi.apart ops oj=true)
      (hr:i∈Region.ready .any ops listed) (hs:Steady P ops S oi x s.sl) (hS:S s.h)
      (H:AAny P N ops Q S tl fuel (listed.setIfInBounds i true) ⟨put oi.dst x s.sl,s.h⟩):AAny P N ops Q S tl (fuel+1) listed s:=by
 unfold Lm at htl;rw[Bool.or_eq_true]at htl;rcases htl with h|h
 ·exact AAny.first hi hd h hit fuel listed s hf hr hs hS H
 rw[Bool.and_eq_true]at h;exact AAny.first3 hi hd h.1 hit fuel listed s (WM h.2) hf hr hs hS H
end
section
variable {P:Program}{N:Dim}{Q:Exit->AS->Prop}{l:List Oper}{S:AH->Prop}{tl:Nat}{fuel:Nat}{listed:Array Bool}{f:Nat->Option AV}{h:AH}
theorem Ln{i:Nat}{oi:Oper}(hi:l[i]?=some oi):l.toArray[i]?=some oi:=by simpa using hi
end
section
variable {P:Program}{N:Dim}{Q:Exit->AS->Prop}{l:List Oper}{S:AH->Prop}{tl:Nat}{fuel:Nat}{listed:Array Bool}{m:List (Nat×AV)}{h:AH}{op:Op}{ty:TypeId}{pos:String}{af:Array Edge}{gd:Option (Nat×Bool)}
theorem Cw{i d:Nat}{x:AV}(hi:l[i]?=some ⟨some d,op,ty,pos,af,gd⟩)(hd:Nat.blt d N.n=true)(htl:(Lm l.toArray tl listed&& !Nat.ble tl i&&Region.free .any l.toArray listed i&&(Region.ready .any l.toArray listed).contains i)=true)
    (hw:Cv l.toArray (look m) ⟨some d,op,ty,pos,af,gd⟩=some true) (hst:∀h,S h->AStep P ⟨some d,op,ty,pos,af,gd⟩ (CD (look m)) h (fun x' h'=>x'=x/\h'=h)) (hS:S h)
    (H:AAny P N l.toArray Q S tl fuel (listed.setIfInBounds i true) ⟨look ((d,x)::m),h⟩):AAny P N l.toArray Q S tl (fuel+1) listed ⟨look m,h⟩:=by
 simp only[Bool.and_eq_true,Bool.not_eq_true']at htl;obtain⟨⟨⟨t1,t2⟩,t3⟩,t4⟩:=htl;exact AAny.firstX (oi:=⟨some d,op,ty,pos,af,gd⟩) (Ln hi) hd t1 t2 fuel ⟨look m,h⟩ (Region.free_spec (Ln hi) t3) (List.contains_iff_mem.1 t4) (.inl ⟨hw,hst⟩) hS H
theorem WO{i d:Nat}{x:AV}(hi:l[i]?=some ⟨some d,op,ty,pos,af,gd⟩)(hd:Nat.blt d N.n=true)(htl:(Lm l.toArray tl listed&& !Nat.ble tl i&&Region.free .any l.toArray listed i&&(Region.ready .any l.toArray listed).contains i)=true)
    (hw:Cv l.toArray (look m) ⟨some d,op,ty,pos,af,gd⟩=some true) (hst:AStep P ⟨some d,op,ty,pos,af,gd⟩ (CD (look m)) h (fun x' h'=>x'=x/\h'=h))
    (H:AAny P N l.toArray Q (fun h'=>h'=h) tl fuel (listed.setIfInBounds i true) ⟨look ((d,x)::m),h⟩):AAny P N l.toArray Q (fun h'=>h'=h) tl (fuel+1) listed ⟨look m,h⟩:=
 Cw hi hd htl hw (fun h' e=>by subst e;exact hst) rfl H
theorem eN{i d:Nat}(hi:l[i]?=some ⟨some d,op,ty,pos,af,gd⟩)(hd:Nat.blt d N.n=true)(htl:(Lm l.toArray tl listed&& !Nat.ble tl i&&Region.free .any l.toArray listed i&&(Region.ready .any l.toArray listed).contains i)=true)
    (hw:Cv l.toArray (look m) ⟨some d,op,ty,pos,af,gd⟩=some false) (hS:S h)
    (H:AAny P N l.toArray Q S tl fuel (listed.setIfInBounds i true) ⟨look ((d, .v undef)::m),h⟩):AAny P N l.toArray Q S tl (fuel+1) listed ⟨look m,h⟩:=by
 simp only[Bool.and_eq_true,Bool.not_eq_true']at htl;obtain⟨⟨⟨t1,t2⟩,t3⟩,t4⟩:=htl;exact AAny.firstX (oi:=⟨some d,op,ty,pos,af,gd⟩) (Ln hi) hd t1 t2 fuel ⟨look m,h⟩ (Region.free_spec (Ln hi) t3) (List.contains_iff_mem.1 t4) (.inr ⟨hw,rfl⟩) hS H
theorem eO{i d:Nat}(hi:l[i]?=some ⟨some d,op,ty,pos,af,gd⟩)(hd:Nat.blt d N.n=true)(hr:Region.ready .any l.toArray listed=[i])(hw:Cv l.toArray (look m) ⟨some d,op,ty,pos,af,gd⟩=some true)
    (H:AStep P ⟨some d,op,ty,pos,af,gd⟩ (CD (look m)) h (fun x h'=>(Nat.ble tl i=true\/S h')/\AAny P N l.toArray Q S tl fuel (listed.setIfInBounds i true) ⟨look ((d,x)::m),h'⟩)):AAny P N l.toArray Q S tl (fuel+1) listed ⟨look m,h⟩:=by
 refine⟨(fun h0=>by rw[hr]at h0;cases h0),fun j hj=>?_⟩;rw[hr]at hj;simp at hj;subst hj;unfold AOp;simp only[Ln hi];exact⟨hd,true,hw,fun _=>H,fun h=>by cases h⟩
theorem eQ{i:Nat}(hi:l[i]?=some ⟨none,op,ty,pos,af,gd⟩)(hr:Region.ready .any l.toArray listed=[i])(hw:Cv l.toArray (look m) ⟨none,op,ty,pos,af,gd⟩=some true)
    (H:AStep P ⟨none,op,ty,pos,af,gd⟩ (CD (look m)) h (fun _ h'=>(Nat.ble tl i=true\/S h')/\AAny P N l.toArray Q S tl fuel (listed.setIfInBounds i true) ⟨look m,h'⟩)):AAny P N l.toArray Q S tl (fuel+1) listed ⟨look m,h⟩:=by
 refine⟨(fun h0=>by rw[hr]at h0;cases h0),fun j hj=>?_⟩;rw[hr]at hj;simp at hj;subst hj;unfold AOp;simp only[Ln hi];exact⟨rfl,true,hw,fun _=>H,fun h=>by cases h⟩
theorem MJ{j:Nat}{t:Bool}(_hy:yv l.toArray (look m) j=some (some t))(h1:t=true->AAny P N l.toArray Q S tl fuel listed ⟨look m,h⟩)(h2:t=false->AAny P N l.toArray Q S tl fuel listed ⟨look m,h⟩):AAny P N l.toArray Q S tl fuel listed ⟨look m,h⟩:=by
 cases t with
 |true=>exact h1 rfl
 |false=>exact h2 rfl
theorem eR{id:Nat}(tl:Nat)(hm:P.follows .mixedOrders=true)(H:AAny P N l.toArray Q (fun h'=>h'=h) tl l.length (Array.replicate l.length false) ⟨look m,h⟩):By P N (.region id l.toArray true) Q ⟨look m,h⟩:=OK _ tl hm H
theorem eS(hr:Region.ready .any l.toArray listed=[])(hq:Q .normal ⟨look m,h⟩):∀fuel,AAny P N l.toArray Q S tl fuel listed ⟨look m,h⟩
 |0=>⟨hr,hq⟩
 |_+1=>⟨fun _=>hq,by rw[hr];simp⟩
theorem Ag{o:Oper}{ops:Array Oper}{f:Nat->Option AV}{j:Nat}{want t:Bool}(hg:o.guard=some (j,want))(hy:yv ops f j=some (some t))(ht:(t==want)=true):Cv ops f o=some true:=by simp only[Cv,hg,hy,ht]
theorem T6{o:Oper}{ops:Array Oper}{f:Nat->Option AV}{j:Nat}{want t:Bool}(hg:o.guard=some (j,want))(hy:yv ops f j=some (some t))(ht:(t==want)=false):Cv ops f o=some false:=by simp only[Cv,hg,hy,ht]
theorem eT{o:Oper}{ops:Array Oper}{f:Nat->Option AV}{j:Nat}{want:Bool}(hg:o.guard=some (j,want))(hy:yv ops f j=some none):Cv ops f o=some false:=by simp only[Cv,hg,hy]
end
def Qp(P:Program)(T i:Nat):Option (Nat×Nat):=
 match P.underlying T with
 |some (.struct fs)=>match fs[i]? with
   |some f=>(P.info? f.type).bind fun inf=>if inf.size=0 then none else some (f.offset,inf.size)
   |none=>none
 |_=>none
def NW(P:Program)(T:Nat):Option (Nat×Bool):=
 match P.underlying T,P.info? T with
 |some d,some i=>some (i.size,d.isRow)
 |_,_=>none
def NX(P:Program)(T:Nat):Option (Nat×Nat×Nat):=
 match P.underlying T with
 |some (.slice E)=>match P.info? E with
   |some i=>match i.zero with
     |some z=>if z.cells.size=i.size/\0<i.size then some (E,i.size,i.bytes)else none
     |none=>none
   |none=>none
 |_=>none
def Qq(P:Program)(T:Nat):Option (List Value):=(P.info? T).bind fun i=>i.zero.map fun z=>z.cells.toList
class Fld (P:Program) (T i:Nat) (off sz:outParam Nat):Prop where
 eq:Qp P T i=some (off,sz)
class Typ (P:Program) (T:Nat) (sz:outParam Nat) (ag:outParam Bool):Prop where
 eq:NW P T=some (sz,ag)
class Elm (P:Program) (T:Nat) (E sz bytes:outParam Nat):Prop where
 eq:NX P T=some (E,sz,bytes)
 few:bytes<=100000
class Zer (P:Program) (T:Nat) (row:outParam (List AV)):Prop where
 eq:∃zs,Qq P T=some zs/\zs.map AV.v=row/\zs.all (·.oneCell')=true
def Qr(P:Program)(T:Nat):Option (List (Nat×Nat)):=
 match P.underlying T with
 |some (.struct fs)=>fs.toList.mapM fun f=>(P.info? f.type).map fun i=>(f.offset,i.size)
 |some (.array n e)=>(P.info? e).map fun i=>(List.range n).map fun k=>(k * i.size,i.size)
 |_=>none
class Plc (P:Program) (T:Nat) (pl:outParam (List (Nat×Nat))):Prop where
 eq:Qr P T=some pl
section
variable {P:Program}{ev:Operand->Option AV}{h:AH}{R:AV->AH->Prop}{d:Option Tmp}{ty:TypeId}{pos:String}{af:Array Edge}{gd:Option (Nat×Bool)}
theorem De{o:Oper}{x:AV}(hrun:∀(E:Env) (G:Gh) (w:World) (ec:Operand->Value),HRel E G h w->(∀x∈o.op.operands,∀av,ev x=some av->rep G w av (ec x))->∃v,(execOp ec o).run P w= .ok (.value v) w/\rep G w x v)(hR:R x h):AStep P o ev h R:=by
 intro E G w ec hr he;obtain⟨v,h1,h2⟩:=hrun E G w ec hr he;rw[h1];exact⟨x,h,G,hR,hr,Ext.refl G w,h2⟩
theorem JB{x:Operand}{av:AV}(hx:ev x=some av)(hR:R av h):AStep P ⟨d, .move x,ty,pos,af,gd⟩ ev h R:=
 De (fun _ _ _ ec _ he=>⟨ec x,rfl,he x (by simp[Op.operands]) av hx⟩) hR
theorem JU{x:Operand}{av:AV}(hx:ev x=some av)(hR:R av h):AStep P ⟨d, .assign x,ty,pos,af,gd⟩ ev h R:=
 De (fun _ _ _ ec _ he=>⟨ec x,rfl,he x (by simp[Op.operands]) av hx⟩) hR
theorem eU{c a b:Operand}{t:Bool}{av:AV}(hc:ev c=some (.v (.bool t)))(ht:t=true)(hx:ev a=some av)(hR:R av h):AStep P ⟨d, .pick c a b,ty,pos,af,gd⟩ ev h R:=
 De (fun _ G w ec _ he=>⟨ec a,by
  have h1:=he c (by simp[Op.operands]) _ hc;simp only[rep]at h1
  simp[execOp,h1,asBool,ht],he a (by simp[Op.operands]) av hx⟩) hR
theorem eV{c a b:Operand}{t:Bool}{av:AV}(hc:ev c=some (.v (.bool t)))(ht:t=false)(hx:ev b=some av)(hR:R av h):AStep P ⟨d, .pick c a b,ty,pos,af,gd⟩ ev h R:=
 De (fun _ G w ec _ he=>⟨ec b,by
  have h1:=he c (by simp[Op.operands]) _ hc;simp only[rep]at h1
  simp[execOp,h1,asBool,ht],he b (by simp[Op.operands]) av hx⟩) hR
theorem Qs{x:Operand}{i:Nat}{cs:List AV}{av:AV}(hx:ev x=some (.tup cs))(hi:cs[i]?=some av)(hR:R av h):AStep P ⟨d, .extract x i,ty,pos,af,gd⟩ ev h R:=by
 refine De (fun _ G w ec _ he=>?_) hR;have h1:=he x (by simp[Op.operands]) _ hx;simp only[rep]at h1;obtain⟨ys,h2,h3⟩:=h1;obtain⟨y,h4,h5⟩:=PL h3 hi;exact⟨y,by simp[execOp,h2,Instr.extract,h4],h5⟩
theorem WP{f:FuncId}{cap:Array Operand}{xs:List AV}(hx:cap.toList.mapM ev=some xs)(hR:R (.fn f xs) h):AStep P ⟨d, .makeFunc (.func f) #[] cap,ty,pos,af,gd⟩ ev h R:=by
 refine De (fun _ G w ec _ he=>⟨.func (.func f) #[] (cap.map ec),by simp[execOp,Instr.makeFunc],?_⟩) hR
 have key:∀(l:List Operand) (xs:List AV),(∀x∈l,x∈cap)->l.mapM ev=some xs->AN G w xs (l.map ec):=by
  intro l
  induction l with
  |nil=>intro xs _ h1;simp at h1;subst h1;simp only[AN,List.map_nil]
  |cons a l ih=>
    intro xs hm h1;simp only[List.mapM_cons,Option.bind_eq_bind]at h1
    cases ha:ev a with
    |none=>simp[ha]at h1
    |some av=>
      cases hl:l.mapM ev with
      |none=>simp[ha,hl]at h1
      |some ys=>
        simp[ha,hl]at h1;subst h1;simp only[AN,List.map_cons];exact⟨_,_,rfl,he a (by simpa[Op.operands]using hm a (by simp)) av ha,ih ys (fun x hx=>hm x (by simp[hx])) hl⟩
 simp only[rep];exact⟨cap.toList.map ec,by rw[<-Array.toList_map],key _ _ (fun x hx=>by simpa using hx) hx⟩
theorem Lo{x:Operand}{i off:Nat}(hx:ev x=some (.bp i off))(hR:R (.bp i off) h):AStep P ⟨d, .nilCheck x,ty,pos,af,gd⟩ ev h R:=by
 refine De (fun _ G w ec _ he=>?_) hR;have h1:=he x (by simp[Op.operands]) _ hx;have h2:=h1;simp only[rep]at h1;obtain⟨b,_,h3⟩:=h1;exact⟨ec x,by simp[execOp,h3],h2⟩
theorem Qt{x:Operand}{row:List AV}(hx:ev x=some (.fp row))(hR:R (.fp row) h):AStep P ⟨d, .nilCheck x,ty,pos,af,gd⟩ ev h R:=by
 refine De (fun _ G w ec _ he=>?_) hR;have h1:=he x (by simp[Op.operands]) _ hx;have h2:=h1;simp only[rep]at h1;obtain⟨b,off,h3,_⟩:=h1;exact⟨ec x,by simp[execOp,h3],h2⟩
theorem WQ{T i off sz:Nat}(hf:Qp P T i=some (off,sz))(b o:Nat)(w:World):(Instr.fieldAt T (.pointer (some ⟨b,o,none⟩)) i).run P w= .ok (.pointer (some ⟨b,o+off,none⟩)) w:=by
 unfold Qp at hf
 cases hu:P.underlying T with
 |none=>simp[hu]at hf
 |some dsc=>
   cases dsc<;>try (simp[hu]at hf;done)
   case struct fs=>
    cases hfi:fs[i]? with
    |none=>simp[hu,hfi]at hf
    |some f=>
      cases hi:P.info? f.type with
      |none=>simp[hu,hfi,hi]at hf
      |some inf=>
        by_cases h0:inf.size=0
        ·simp[hu,hfi,hi,h0]at hf
        simp[hu,hfi,hi,h0]at hf;simp[Instr.fieldAt,run_underlying hu,hfi,Instr.sureAddr,fieldPlace,sizeOf,typeInfo,hi,h0,Addr.add_mid,hf.1]
theorem H4{T:TypeId}{x:Operand}{i j o off sz:Nat}[hf:Fld P T i off sz](hx:ev x=some (.bp j o))(hR:R (.bp j (o+off)) h):AStep P ⟨d, .fieldAddr T x i,ty,pos,af,gd⟩ ev h R:=by
 refine De (fun _ G w ec _ he=>?_) hR;have h1:=he x (by simp[Op.operands]) _ hx;simp only[rep]at h1;obtain⟨b,h2,h3⟩:=h1;exact⟨.pointer (some ⟨b,o+off,none⟩),by simp[execOp,h3,WQ hf.eq],by simp only[rep];exact⟨b,h2,rfl⟩⟩
theorem Qu{T:TypeId}{x:Operand}{row:List AV}{i off sz:Nat}[hf:Fld P T i off sz](hx:ev x=some (.fp row))(hR:R (.fp (row.drop off)) h):AStep P ⟨d, .fieldAddr T x i,ty,pos,af,gd⟩ ev h R:=by
 refine De (fun _ G w ec _ he=>?_) hR;have h1:=he x (by simp[Op.operands]) _ hx;simp only[rep]at h1;obtain⟨b,o,h2,h3⟩:=h1;exact⟨.pointer (some ⟨b,o+off,none⟩),by simp[execOp,h2,WQ hf.eq],by simp only[rep];exact⟨b,o+off,rfl,OG h3 off⟩⟩
theorem Gl{T E sz bytes:Nat}(he:NX P T=some (E,sz,bytes)):P.underlying T=some (.slice E)/\∃i z,P.info? E=some i/\i.zero=some z/\z.cells.size=sz/\i.size=sz/\i.bytes=bytes/\0<sz:=by
 unfold NX at he
 cases hu:P.underlying T with
 |none=>simp[hu]at he
 |some dsc=>
   cases dsc<;>try (simp[hu]at he;done)
   case slice E'=>
    cases hi:P.info? E' with
    |none=>simp[hu,hi]at he
    |some i=>
      cases hz:i.zero with
      |none=>simp[hu,hi,hz]at he
      |some z=>
        simp[hu,hi,hz]at he;obtain⟨⟨h1,h2⟩,rfl,rfl,rfl⟩:=he;exact⟨rfl,i,z,hi,hz,h1,rfl,rfl,h2⟩
theorem DM{T:TypeId}{x ix:Operand}{E sz bytes n:Nat}{k:IntKind}{i:Int}{rows:List (List AV)}{tok:Option Nat}{row:List AV}[hE:Elm P T E sz bytes]
    (hx:ev x=some (.sl sz rows tok)) (hi:ev ix=some (.v (.int k i))) (hn:i=(n:Int)) (hrow:rows[n]?=some row) (hR:R (.fp row) h):AStep P ⟨d, .indexAddr T x ix,ty,pos,af,gd⟩ ev h R:=by
 refine De (fun _ G w ec _ he=>?_) hR;have h1:=JT _ _ (he x (by simp[Op.operands]) _ hx);have h2:=he ix (by simp[Op.operands]) _ hi;simp only[rep]at h2;simp only[DW,Ai]at h1;obtain⟨_,A,cap,h3,_,_,h4⟩:=h1;obtain⟨hu,inf,z,hinf,_,_,hs,_,_⟩:=Gl hE.eq;have hlt:n<rows.length:=(AZ.1 hrow).1;rcases h4 with h4|⟨b,off,rfl,h4⟩
 ·subst h4;simp at hlt
 obtain⟨h5,h6⟩:=NV h4 hrow;subst hn;refine⟨.pointer (some ⟨b,off+n * sz,none⟩),?_,by simp only[rep];exact⟨b,_,rfl,h6⟩⟩;simp[execOp,h2,h3,Instr.indexAt,asIntOf,run_underlying hu,hlt,sizeOf,typeInfo,hinf,hs,Addr.add_mid]
theorem T7{T sz:Nat}{ag:Bool}(ht:NW P T=some (sz,ag)):∃dsc i,P.underlying T=some dsc/\P.info? T=some i/\i.size=sz/\dsc.isRow=ag:=by
 unfold NW at ht
 cases hu:P.underlying T with
 |none=>simp[hu]at ht
 |some dsc=>
   cases hi:P.info? T with
   |none=>simp[hu,hi]at ht
   |some i=>
     simp[hu,hi]at ht;exact⟨dsc,i,rfl,rfl,ht.1,ht.2⟩
theorem T8{T sz:Nat}(ht:NW P T=some (sz,false)){b o:Nat}{w:World}{u:Value}(hc:w.cell? ⟨b,o,none⟩=some u):(Instr.loadAt T (.pointer (some ⟨b,o,none⟩))).run P w= .ok u w:=by
 obtain⟨dsc,i,hu,hi,_,hd⟩:=T7 ht
 have hagg:(isAgg T).run P w= .ok false w:=by
  unfold isAgg;rw[Sem.run_bind,run_underlying hu w];cases dsc<;>simp_all
 simp[Instr.loadAt,Instr.sureAddr,loadVar,hagg,hc]
theorem TA{T:Nat}{cs:List Value}(ht:NW P T=some (cs.length,true)){b o:Nat}{w:World}(hc:w.rangeAt b o cs):(Instr.loadAt T (.pointer (some ⟨b,o,none⟩))).run P w= .ok (.agg cs.toArray) w:=by
 obtain⟨dsc,i,hu,hi,hs,hd⟩:=T7 ht;exact run_loadAt_mid w b o T cs dsc hc hu hd (by rw[hi];simp[hs])
theorem TB{St:Nat->Nat->Prop}{w:World}{b:Nat}:∀{xs:List AV} {off:Nat},Dd St w b xs off->∃us:List Value,Bc St w xs us/\(∀u∈us,u.oneCell'=true)/\w.rangeAt b off us
 |[],_,_=>⟨[],by simp only[Bc],by simp,fun j v hv=>by simp at hv⟩
 |x::xs,off,hc=>by
   simp only[Dd]at hc;obtain⟨⟨_,u,h1,h2,h3⟩,h4⟩:=hc;obtain⟨us,k1,k2,k3⟩:=TB h4;refine⟨u::us,by simp only[Bc];exact⟨u,us,rfl,h3,k1⟩,?_,fun j v hv=>?_⟩
   ·intro y hy;rcases List.mem_cons.1 hy with e|e
    ·rw[e];exact h2
    exact k2 y e
   cases j with
   |zero=>simp at hv;subst hv;exact h1
   |succ j=>
     have:=k3 j v (by simpa using hv)
     rwa [show off+1+j=off+(j+1) by omega]at this
theorem WR{St:Nat->Nat->Prop}{w:World}:∀{xs:List AV} {us:List Value},Bc St w xs us->∀n,Bc St w (xs.take n) (us.take n)
 |[],_,hf,n=>by simp only[Bc]at hf;subst hf;simp[Bc]
 |x::xs,_,hf,n=>by
   simp only[Bc]at hf;obtain⟨z,zs,rfl,h1,h2⟩:=hf
   cases n with
   |zero=>simp[Bc]
   |succ n=>simp only[List.take_succ_cons,Bc];exact⟨_,_,rfl,h1,WR h2 n⟩
theorem PP{St:Nat->Nat->Prop}{w:World}:∀{xs:List AV} {ys:List Value},Bc St w xs ys->ys.length=xs.length
 |[],_,hf=>by simp only[Bc]at hf;rw[hf];rfl
 |x::xs,_,hf=>by
   simp only[Bc]at hf;obtain⟨z,zs,rfl,_,h3⟩:=hf;simp[PP h3]
theorem OL{T:TypeId}{x:Operand}{sz:Nat}{row:List AV}{av:AV}[ht:Typ P T sz false](hx:ev x=some (.fp row))(hr:row[0]?=some av)(hR:R av h):AStep P ⟨d, .load T x,ty,pos,af,gd⟩ ev h R:=by
 refine De (fun _ G w ec _ he=>?_) hR;have h1:=he x (by simp[Op.operands]) _ hx;simp only[rep]at h1;obtain⟨b,o,h2,h3⟩:=h1;obtain⟨_,u,h4,_,h5⟩:=PM h3 hr;rw[Nat.add_zero]at h4;exact⟨u,by simp[execOp,h2,T8 ht.eq h4],KL _ _ h5⟩
theorem PQ{T:TypeId}{x:Operand}{sz:Nat}{row:List AV}[ht:Typ P T sz true](hx:ev x=some (.fp row))(hr:Nat.ble sz row.length=true)(hR:R (.agg (row.take sz)) h):AStep P ⟨d, .load T x,ty,pos,af,gd⟩ ev h R:=by
 refine De (fun _ G w ec _ he=>?_) hR;have h1:=he x (by simp[Op.operands]) _ hx;simp only[rep]at h1;obtain⟨b,o,h2,h3⟩:=h1;obtain⟨us,h4,_,h5⟩:=TB h3
 have hlen:(us.take sz).length=sz:=by
  have:=Bl hr;rw[List.length_take,PP h4];omega
 have hrng:w.rangeAt b o (us.take sz):=fun j v hv=>h5 j v (by
  rw[List.getElem?_take]at hv;split at hv
  ·exact hv
  cases hv)
 refine⟨.agg (us.take sz).toArray,by simp only[execOp,h2,Sem.run_bind,TA (by rw[hlen];exact ht.eq) hrng,Result.andThen_ok,Sem.run_pure],?_⟩;simp only[rep];exact⟨_,rfl,Mp _ _ (WR h4 sz)⟩
theorem Qv{T:TypeId}{x:Operand}{sz:Nat}{row:List AV}[ht:Typ P T sz true](hx:ev x=some (.fp row))(hr:Nat.beq row.length sz=true)(hR:R (.agg row) h):AStep P ⟨d, .load T x,ty,pos,af,gd⟩ ev h R:=by
 have hr':row.length=sz:=Nat.eq_of_beq_eq_true hr;refine PQ (row:=row) hx (by rw[hr'];simp) ?_;rw[<-hr',List.take_length];exact hR
theorem HRel.boxAt{E:Env}{G:Gh}{w:World}(hr:HRel E G h w){i b:Nat}{row:List AV}(hb:G.bx[i]?=some b)(hrow:h.bx[i]?=some row):Qk G w b row:=hr.box i b row hb hrow
theorem Qw{G:Gh}{w:World}:∀{xs:List AV} {us:List Value},AN G w xs us->∀n,AN G w (xs.take n) (us.take n)
 |[],_,hf,n=>by simp only[AN]at hf;subst hf;simp[AN]
 |x::xs,_,hf,n=>by
   simp only[AN]at hf;obtain⟨z,zs,rfl,h1,h2⟩:=hf
   cases n with
   |zero=>simp[AN]
   |succ n=>simp only[List.take_succ_cons,AN];exact⟨_,_,rfl,h1,Qw h2 n⟩
theorem Qx{G:Gh}{w:World}:∀{xs:List AV} {us:List Value},AN G w xs us->∀n,AN G w (xs.drop n) (us.drop n)
 |[],_,hf,n=>by simp only[AN]at hf;subst hf;simp[AN]
 |x::xs,_,hf,n=>by
   cases n with
   |zero=>simpa using hf
   |succ n=>
     simp only[AN]at hf;obtain⟨z,zs,rfl,h1,h2⟩:=hf;simp only[List.drop_succ_cons];exact Qx h2 n
theorem WS{w:World}{b:Nat}{us:List Value}{T:TypeId}(hb:w.heap[b]?=some (.cells us.toArray T (0,0)))(off n:Nat):w.rangeAt b off ((us.drop off).take n):=by
 intro j v hv;rw[List.getElem?_take]at hv;split at hv
 ·rw[List.getElem?_drop]at hv;simp only[World.cell?,hb]
  simpa using hv
 cases hv
theorem Fa{T:TypeId}{x:Operand}{sz i o:Nat}{row:List AV}{av:AV}[ht:Typ P T sz false](hx:ev x=some (.bp i o))(hb:h.bx[i]?=some row)(hr:row[o]?=some av)(hR:R av h):AStep P ⟨d, .load T x,ty,pos,af,gd⟩ ev h R:=by
 refine De (fun _ G w ec hrel he=>?_) hR;have h1:=he x (by simp[Op.operands]) _ hx;simp only[rep]at h1;obtain⟨b,h2,h3⟩:=h1;obtain⟨us,T',k1,k2,k3⟩:=hrel.boxAt h2 hb;obtain⟨u,k4,k5⟩:=PL k2 hr;have hc:w.cell? ⟨b,o,none⟩=some u:=by simp only[World.cell?,k1];simpa using k4
 exact⟨u,by simp[execOp,h3,T8 ht.eq hc],k5⟩
theorem KN{T:TypeId}{x:Operand}{sz i o:Nat}{row:List AV}[ht:Typ P T sz true](hx:ev x=some (.bp i o))(hb:h.bx[i]?=some row)(hr:Nat.ble (o+sz) row.length=true)(hR:R (.agg ((row.drop o).take sz)) h):AStep P ⟨d, .load T x,ty,pos,af,gd⟩ ev h R:=by
 refine De (fun _ G w ec hrel he=>?_) hR;have h1:=he x (by simp[Op.operands]) _ hx;simp only[rep]at h1;obtain⟨b,h2,h3⟩:=h1;obtain⟨us,T',k1,k2,k3⟩:=hrel.boxAt h2 hb
 have hlen:((us.drop o).take sz).length=sz:=by
  have:=Bl hr;rw[List.length_take,List.length_drop,Kr k2];omega
 refine⟨.agg ((us.drop o).take sz).toArray,by simp only[execOp,h3,Sem.run_bind,TA (by rw[hlen];exact ht.eq) (WS k1 o sz),Result.andThen_ok,Sem.run_pure],?_⟩;simp only[rep];exact⟨_,rfl,Qw (Qx k2 o) sz⟩
theorem Kv{T:TypeId}{x:Operand}{sz i:Nat}{row:List AV}[ht:Typ P T sz true](hx:ev x=some (.bp i 0))(hb:h.bx[i]?=some row)(hr:Nat.beq row.length sz=true)(hR:R (.agg row) h):AStep P ⟨d, .load T x,ty,pos,af,gd⟩ ev h R:=by
 have hr':row.length=sz:=Nat.eq_of_beq_eq_true hr;refine KN (row:=row) hx hb (by rw[hr'];simp) ?_;rw[<-hr',List.drop_zero,List.take_length];exact hR
end
inductive SetAt{α:Type}:List α->Nat->List α->List α->Prop
 |nil (l:List α) (n:Nat):SetAt l n [] l
 |here (a x:α) (l xs l':List α):SetAt l 0 xs l'->SetAt (a::l) 0 (x::xs) (x::l')
 |there (a x:α) (l xs l':List α) (n:Nat):SetAt l n (x::xs) l'->SetAt (a::l) (n+1) (x::xs) (a::l')
inductive SnocAt{α:Type}:List α->α->Nat->List α->Prop
 |nil (x:α):SnocAt [] x 0 [x]
 |cons (a x:α) (l l':List α) (n:Nat):SnocAt l x n l'->SnocAt (a::l) x (n+1) (a::l')
theorem SnocAt.eq{α:Type}{l l':List α}{x:α}{n:Nat}(h:SnocAt l x n l'):n=l.length/\l'=l++[x]:=by
 induction h with
 |nil x=>exact⟨rfl,rfl⟩
 |cons a x l l' n _ ih=>exact⟨by simp[ih.1],by simp[ih.2]⟩
theorem SetAt.one_{α:Type}{l xs l':List α}{n:Nat}(h:SetAt l n xs l'):∀x,xs=[x]->n<l.length/\l'=l.set n x:=by
 induction h with
 |nil l n=>intro x h;cases h
 |here a x l xs l' h ih=>
   intro y hy;injection hy with h1 h2;subst h1;subst h2;cases h;exact⟨by simp,by simp⟩
 |there a x l xs l' n h ih=>
   intro y hy;obtain⟨h1,h2⟩:=ih y hy;exact⟨by simp;omega,by simp[h2]⟩
theorem SetAt.one{α:Type}{l l':List α}{n:Nat}{x:α}(h:SetAt l n [x] l'):n<l.length/\l'=l.set n x:=h.one_ x rfl
def LN:List Value->Nat->List Value->List Value
 |us,_,[]=>us
 |us,o,v::vs=>LN (us.set o v) (o+1) vs
theorem TC:∀(vs:List Value) (u:Value) (us:List Value) (n:Nat),LN (u::us) (n+1) vs=u::LN us n vs
 |[],_,_,_=>rfl
 |v::vs,u,us,n=>by simp only[LN,List.set_cons_succ];exact TC vs u (us.set n v) (n+1)
theorem PR:∀(vs us:List Value) (n:Nat) (y:Value),y∈LN us n vs->y∈us\/y∈vs
 |[],_,_,_,h=> .inl h
 |v::vs,us,n,y,h=>by
   simp only[LN]at h;rcases PR vs _ _ y h with h1|h1
   ·rcases List.mem_or_eq_of_mem_set h1 with h2|h2
    ·exact .inl h2
    exact .inr (by simp[h2])
   exact .inr (by simp[h1])
theorem SetAt.rep{G:Gh}{w:World}{row xs row':List AV}{o:Nat}(h:SetAt row o xs row'):∀{us vs:List Value},AN G w row us->AN G w xs vs->AN G w row' (LN us o vs)/\o+(if xs=[]then 0 else xs.length)<=max o us.length:=by
 induction h with
 |nil l n=>intro us vs h1 h2;simp only[AN]at h2;subst h2;exact⟨h1,by simp;omega⟩
 |here a x l xs l' _ ih=>
   intro us vs h1 h2;simp only[AN]at h1 h2;obtain⟨z,zs,rfl,h3,h4⟩:=h1;obtain⟨y,ys,rfl,h5,h6⟩:=h2;obtain⟨k1,k2⟩:=ih h4 h6;refine⟨?_,?_⟩
   ·simp only[LN,List.set_cons_zero];rw[TC];simp only[AN];exact⟨y,_,rfl,h5,k1⟩
   simp only[reduceCtorEq,if_false,List.length_cons]at k2 ⊢;split at k2
   ·rename_i e;subst e;simp
   omega
 |there a x l xs l' n _ ih=>
   intro us vs h1 h2;simp only[AN]at h1;obtain⟨z,zs,rfl,h3,h4⟩:=h1;obtain⟨k1,k2⟩:=ih h4 h2;refine⟨?_,?_⟩
   ·rw[TC];simp only[AN];exact⟨z,_,rfl,h3,k1⟩
   simp only[reduceCtorEq,if_false,List.length_cons]at k2 ⊢;omega
def Cf:AV->List AV
 | .agg cs=>cs
 |x=>[x]
def TD:AV->Bool
 | .v x=>x.oneCell'
 | .agg _| .tup _| .any=>false
 |_=>true
def JV:List AV->Bool
 |[]=>true
 |x::xs=>TD x&&JV xs
theorem WT{G:Gh}{w:World}{x:AV}{v:Value}(h:rep G w x v)(h1:TD x=true):v.oneCell'=true:=by
 cases x with
 |v y=>simp only[rep]at h;subst h;exact h1
 |agg cs=>cases h1
 |tup cs=>cases h1
 |any=>cases h1
 |sl sz rows tok=>
   have:=JT _ _ h;simp only[DW,Ai]at this;obtain⟨_,A,cap,rfl,_⟩:=this;rfl
 |fp row=>simp only[rep]at h;obtain⟨b,o,rfl,_⟩:=h;rfl
 |bp i o=>simp only[rep]at h;obtain⟨b,_,rfl⟩:=h;rfl
 |bs i o sz n cap=>simp only[rep]at h;obtain⟨b,_,rfl,_⟩:=h;rfl
 |fn f caps=>simp only[rep]at h;obtain⟨ys,rfl,_⟩:=h;rfl
theorem Ms{G:Gh}{w:World}:∀{xs:List AV} {vs:List Value},AN G w xs vs->JV xs=true->∀u∈vs,u.oneCell'=true
 |[],_,h,_=>by simp only[AN]at h;subst h;simp
 |x::xs,_,h,h1=>by
   simp only[AN]at h;obtain⟨z,zs,rfl,h2,h3⟩:=h;simp only[JV,Bool.and_eq_true]at h1;intro u hu;rcases List.mem_cons.1 hu with e|e
   ·rw[e];exact WT h2 h1.1
   exact Ms h3 h1.2 u e
theorem OM{G:Gh}{w:World}{x:AV}{v:Value}(h:rep G w x v)(h1:JV (Cf x)=true):∃vs:List Value,v.cells=vs.toArray/\AN G w (Cf x) vs:=by
 have key:TD x=true->Cf x=[x]->∃vs:List Value,v.cells=vs.toArray/\AN G w (Cf x) vs:=fun h2 h3=>by
  refine⟨[v],?_,by rw[h3];simp only[AN];exact⟨v,[],rfl,h,rfl⟩⟩;have:=WT h h2;cases v<;>first|rfl|cases this
 cases x with
 |agg cs=>
   simp only[rep]at h;obtain⟨ys,rfl,h2⟩:=h;exact⟨ys,rfl,h2⟩
 |_=>exact key (by simpa[Cf,JV]using h1) rfl
section
variable {P:Program}
theorem Qy(b:Nat)(T:TypeId):∀(vs:List Value) (o:Nat) (us:List Value) (w:World),w.heap[b]?=some (.cells us.toArray T (0,0))->
    (w.setCells b o vs).heap[b]?=some (.cells (LN us o vs).toArray T (0,0))/\(∀k,k≠b->(w.setCells b o vs).heap[k]?=w.heap[k]?)/\(w.setCells b o vs).heap.size=w.heap.size/\(w.setCells b o vs).os=w.os/\(w.setCells b o vs).tape=w.tape/\(w.setCells b o vs).output=w.output
 |[],o,us,w,h=>⟨h,fun _ _=>rfl,rfl,rfl,rfl,rfl⟩
 |v::vs,o,us,w,h=>by
   have h1:(w.setCell ⟨b,o,none⟩ v).heap[b]?=some (.cells (us.set o v).toArray T (0,0)):=by
    simp only[World.setCell,Array.getElem?_modify,if_true,h,Option.map_some];simp
   obtain⟨k1,k2,k3,k4,k5,k6⟩:=Qy b T vs (o+1) (us.set o v) (w.setCell ⟨b,o,none⟩ v) h1;refine⟨k1,fun k hk=>(k2 k hk).trans (Below.heap_setCell w _ _ k hk),k3.trans (by simp[World.setCell]),k4,k5,k6⟩
theorem eW{T sz:Nat}{ag:Bool}(ht:NW P T=some (sz,ag)){b o:Nat}{w:World}{us vs:List Value}{T':TypeId}(hb:w.heap[b]?=some (.cells us.toArray T' (0,0))){v:Value}(hv:v.cells=vs.toArray)(hl:vs.length=sz)
    (hfit:o+vs.length<=us.length) (h1:∀u∈vs,u.oneCell'=true):(Instr.storeAt T (.pointer (some ⟨b,o,none⟩)) v).run P w= .ok () (w.setCells b o vs):=by
 obtain⟨dsc,i,hu,hi,hs,_⟩:=T7 ht;have:=run_storeCells_cells (P:=P) b o vs 0 w (fun j hj=>by simp only[World.cell?,hb];simp;omega) (fun j hj=>by simp[World.frozen?,hb]) h1;simp only[Nat.add_zero]at this;simp[Instr.storeAt,Instr.sureAddr,storeVar,sizeOf,typeInfo,hi,hv,hl,hs,this]
end
section
variable {P:Program}{ev:Operand->Option AV}{h:AH}{R:AV->AH->Prop}{d:Option Tmp}{ty:TypeId}{pos:String}{af:Array Edge}{gd:Option (Nat×Bool)}
theorem eX{T:TypeId}{x y:Operand}{sz i o:Nat}{ag:Bool}{av:AV}{row row':List AV}{bx':List (List AV)}[ht:Typ P T sz ag](hx:ev x=some (.bp i o))(hy:ev y=some av)(hb:h.bx[i]?=some row)
    (h1:JV (Cf av)=true) (hl:Nat.beq (Cf av).length sz=true) (hpos:Nat.blt 0 sz=true) (hs:SetAt row o (Cf av) row') (hset:SetAt h.bx i [row'] bx') (hR:R (.v undef) ⟨bx',h.tk⟩):AStep P ⟨d, .store T x y,ty,pos,af,gd⟩ ev h R:=by
 intro E G w ec hr he;have k1:=he x (by simp[Op.operands]) _ hx;have k2:=he y (by simp[Op.operands]) _ hy;simp only[rep]at k1;obtain⟨b,k3,k4⟩:=k1;obtain⟨us,T',k5,k6,k7⟩:=hr.boxAt k3 hb;obtain⟨vs,k8,k9⟩:=OM k2 h1;obtain⟨m1,m2⟩:=hs.rep k6 k9;have hl':=Nat.eq_of_beq_eq_true hl;have hp:0<sz:=Bl hpos;have hvl:=Kr k9;have hne:Cf av≠[]:=fun e=>by rw[e]at hl';simp at hl';omega
 rw[if_neg hne]at m2;obtain⟨q1,q2,q3,q4,q5,q6⟩:=Qy b T' vs o us w k5;have hrun:=eW (P:=P) ht.eq (o:=o) k5 k8 (by omega) (by omega) (Ms k9 h1)
 obtain⟨r1,r2⟩:=hr.setBox (w':=w.setCells b o vs) (row:=row') k3 q4 q5 q6 q3 q2 ⟨_,T',q1,m1,fun u hu=>by
  rcases PR vs us o u hu with e|e
  ·exact k7 u e
  exact Ms k9 h1 u e⟩
 have hbx:=(SetAt.one hset).2;subst hbx;simp only[execOp,k4,Sem.run_bind,hrun,Result.andThen_ok,Sem.run_pure];exact⟨.v undef,_,G,hR,r1,r2,by simp only[rep]⟩
theorem PS(w:World)(o:Obj):(w.alloc o).heap[w.heap.size]?=some o:=by show(w.heap.push o)[w.heap.size]?=_;simp
theorem ON{E:Env}{G:Gh}{w:World}(hr:HRel E G h w){us:List Value}{row:List AV}{T:TypeId}(hrep:AN G w row us)(h1:∀u∈us,u.oneCell'=true){n:Nat}{bx':List (List AV)}(hs:SnocAt h.bx row n bx'):
    ∃G',HRel E G' ⟨bx',h.tk⟩ (w.alloc (.cells us.toArray T))/\Ext G w G' (w.alloc (.cells us.toArray T))/\rep G' (w.alloc (.cells us.toArray T)) (.bp n 0) (.pointer (some ⟨w.heap.size,0,none⟩)):=by
 obtain⟨e1,e2⟩:=hs.eq;subst e1;subst e2;obtain⟨k1,k2⟩:=hr.below (w':=w.alloc (.cells us.toArray T)) ((Below.refl _ _).alloc (As _) _);have hnb:w.heap.size∉G.bx:=fun hm=>by have:=hr.boxlt hm;omega
 have hst:∀o,¬G.St w.heap.size o:=fun o hs=>by have:=hr.stlt _ _ hs;omega
 obtain⟨q1,q2⟩:=k1.addBox (b:=w.heap.size) (row:=row) hnb hr.kept.size hst (fun g n u hg hu=>by have:=(hr.toklt hg hu).2;omega) ⟨us,T,PS _ _,Fs k2 _ _ hrep,h1⟩;refine⟨_,q1,k2.trans q2,?_⟩;simp only[rep];refine⟨w.heap.size,?_,rfl⟩;rw[<-hr.bxlen];simp
theorem WU{T:TypeId}{x:Operand}{n:Nat}{av:AV}{bx':List (List AV)}(hx:ev x=some av)(h1:JV (Cf av)=true)(hs:SnocAt h.bx (Cf av) n bx')(hR:R (.bp n 0) ⟨bx',h.tk⟩):AStep P ⟨d, .box T x,ty,pos,af,gd⟩ ev h R:=by
 intro E G w ec hr he;obtain⟨vs,k8,k9⟩:=OM (he x (by simp[Op.operands]) _ hx) h1;obtain⟨G',q1,q2,q3⟩:=ON (T:=T) hr k9 (Ms k9 h1) hs
 have hrun:(Instr.box T (ec x)).run P w= .ok (.pointer (some ⟨w.heap.size,0,none⟩)) (w.alloc (.cells vs.toArray T)):=by
  simp[Instr.box,newVar,newRow,k8]
 simp only[execOp,Sem.run_bind,hrun,Result.andThen_ok,Sem.run_pure];exact⟨_,_,G',hR,q1,q2,q3⟩
theorem TE{G:Gh}{w:World}:∀(us:List Value),AN G w (us.map AV.v) us
 |[]=>by simp only[List.map_nil,AN]
 |u::us=>by simp only[List.map_cons,AN];exact⟨u,us,rfl,by simp only[rep],TE us⟩
theorem Qz{T:Nat}{zs:List Value}(hz:Qq P T=some zs):∃i z,P.info? T=some i/\i.zero=some z/\z.cells=zs.toArray:=by
 unfold Qq at hz
 cases hi:P.info? T with
 |none=>simp[hi]at hz
 |some i=>
   cases hq:i.zero with
   |none=>simp[hi,hq]at hz
   |some z=>
     simp[hi,hq]at hz;exact⟨i,z,rfl,hq,by rw[<-hz]⟩
theorem eY{T:TypeId}{n:Nat}{row:List AV}{bx':List (List AV)}[hz:Zer P T row](hs:SnocAt h.bx row n bx')(hR:R (.bp n 0) ⟨bx',h.tk⟩):AStep P ⟨d, .alloc T,ty,pos,af,gd⟩ ev h R:=by
 intro E G w ec hr he;obtain⟨zs,hz1,hrow,hz2⟩:=hz.eq;obtain⟨i,z,k1,k2,k3⟩:=Qz hz1;have hone:∀u∈zs,u.oneCell'=true:=List.all_eq_true.1 hz2;obtain⟨G',q1,q2,q3⟩:=ON (T:=T) hr (hrow ▸ TE zs) hone hs
 have hrun:(Instr.alloc T true (.tuple #[])).run P w= .ok (.pointer (some ⟨w.heap.size,0,none⟩)) (w.alloc (.cells zs.toArray T)):=by
  simp[Instr.alloc,zeroValue,typeInfo,k1,k2,newVar,newRow,k3]
 simp only[execOp,Sem.run_bind,hrun,Result.andThen_ok,Sem.run_pure];exact⟨_,_,G',hR,q1,q2,q3⟩
theorem Fb{op:BinOp}{T yT:TypeId}{x y:Operand}{a b z:Value}(hx:ev x=some (.v a))(hy:ev y=some (.v b))(hz:∀w,(do eqGuard op T x y a b;binOp op T a b:Sem Value).run P w= .ok z w)(hR:R (.v z) h):AStep P ⟨d, .binOp op T x y yT,ty,pos,af,gd⟩ ev h R:=
 De (fun _ G w ec _ he=>⟨z,by
  have h1:=he x (by simp[Op.operands]) _ hx;have h2:=he y (by simp[Op.operands]) _ hy;simp only[rep]at h1 h2;simp only[execOp];rw[h1,h2,Sem.run_bind,hz w]
  rfl,by simp only[rep]⟩) hR
theorem TF{T yT:TypeId}{x y:Operand}{k:IntKind}{a b:Int}(hx:ev x=some (.v (.int k a)))(hy:ev y=some (.v (.int k b)))(hR:R (.v (.int k (k.wrap (a+b)))) h):AStep P ⟨d, .binOp .add T x y yT,ty,pos,af,gd⟩ ev h R:=
 Fb hx hy (fun w=>by simp[eqGuard,binOp,Op.intArith]) hR
theorem PT{T yT:TypeId}{x y:Operand}{k:IntKind}{a b:Int}(hx:ev x=some (.v (.int k a)))(hy:ev y=some (.v (.int k b)))(hR:R (.v (.int k (k.wrap (a - b)))) h):AStep P ⟨d, .binOp .sub T x y yT,ty,pos,af,gd⟩ ev h R:=
 Fb hx hy (fun w=>by simp[eqGuard,binOp,Op.intArith]) hR
theorem WV{T yT:TypeId}{x y:Operand}{k:IntKind}{a b:Int}(hx:ev x=some (.v (.int k a)))(hy:ev y=some (.v (.int k b)))(hR:R (.v (.int k (k.wrap (a * b)))) h):AStep P ⟨d, .binOp .mul T x y yT,ty,pos,af,gd⟩ ev h R:=
 Fb hx hy (fun w=>by simp[eqGuard,binOp,Op.intArith]) hR
theorem NY{T yT:TypeId}{x y:Operand}{a b:Int}(hx:ev x=some (.v (.int .i64 a)))(hy:ev y=some (.v (.int .i64 b)))(hb: -9223372036854775808<=a+b/\a+b<=9223372036854775807)(hR:R (.v (.int .i64 (a+b))) h):AStep P ⟨d, .binOp .add T x y yT,ty,pos,af,gd⟩ ev h R:=
 TF hx hy (by rw[IntWalk.i64_in _ (by omega)];exact hR)
theorem Mt{T yT:TypeId}{x y:Operand}{a b:Int}(hx:ev x=some (.v (.int .i64 a)))(hy:ev y=some (.v (.int .i64 b)))(hb: -9223372036854775808<=a - b/\a - b<=9223372036854775807)(hR:R (.v (.int .i64 (a - b))) h):AStep P ⟨d, .binOp .sub T x y yT,ty,pos,af,gd⟩ ev h R:=
 PT hx hy (by rw[IntWalk.i64_in _ (by omega)];exact hR)
theorem WW{T yT:TypeId}{x y:Operand}{k:IntKind}{a b:Int}(hx:ev x=some (.v (.int k a)))(hy:ev y=some (.v (.int k b)))(hb:b≠0)(hR:R (.v (.int k (a.tmod b))) h):AStep P ⟨d, .binOp .rem T x y yT,ty,pos,af,gd⟩ ev h R:=
 Fb hx hy (fun w=>by simp[eqGuard,binOp,Op.intDiv,hb]) hR
theorem TG(a b:Int):(a==b)=decide (a=b):=by rw[Bool.eq_iff_iff,beq_iff_eq,decide_eq_true_iff]
theorem R3{T yT:TypeId}{x y:Operand}{k:IntKind}{a b:Int}(hx:ev x=some (.v (.int k a)))(hy:ev y=some (.v (.int k b)))(hR:R (.v (.bool (decide (a=b)))) h):AStep P ⟨d, .binOp .eql T x y yT,ty,pos,af,gd⟩ ev h R:=
 Fb hx hy (fun w=>by simp[eqGuard,binOp,Op.intCmp,TG]) hR
theorem R4{T yT:TypeId}{x y:Operand}{k:IntKind}{a b:Int}(hx:ev x=some (.v (.int k a)))(hy:ev y=some (.v (.int k b)))(hR:R (.v (.bool (!decide (a=b)))) h):AStep P ⟨d, .binOp .neq T x y yT,ty,pos,af,gd⟩ ev h R:=
 Fb hx hy (fun w=>by simp[eqGuard,binOp,Op.intCmp,bne,TG]) hR
theorem R5{T yT:TypeId}{x y:Operand}{k:IntKind}{a b:Int}(hx:ev x=some (.v (.int k a)))(hy:ev y=some (.v (.int k b)))(hR:R (.v (.bool (decide (a<b)))) h):AStep P ⟨d, .binOp .lss T x y yT,ty,pos,af,gd⟩ ev h R:=
 Fb hx hy (fun w=>by simp[eqGuard,binOp,Op.intCmp]) hR
theorem R6{T yT:TypeId}{x y:Operand}{k:IntKind}{a b:Int}(hx:ev x=some (.v (.int k a)))(hy:ev y=some (.v (.int k b)))(hR:R (.v (.bool (decide (a<=b)))) h):AStep P ⟨d, .binOp .leq T x y yT,ty,pos,af,gd⟩ ev h R:=
 Fb hx hy (fun w=>by simp[eqGuard,binOp,Op.intCmp]) hR
theorem R7{T yT:TypeId}{x y:Operand}{k:IntKind}{a b:Int}(hx:ev x=some (.v (.int k a)))(hy:ev y=some (.v (.int k b)))(hR:R (.v (.bool (decide (b<a)))) h):AStep P ⟨d, .binOp .gtr T x y yT,ty,pos,af,gd⟩ ev h R:=
 Fb hx hy (fun w=>by simp[eqGuard,binOp,Op.intCmp]) hR
theorem R8{T yT:TypeId}{x y:Operand}{k:IntKind}{a b:Int}(hx:ev x=some (.v (.int k a)))(hy:ev y=some (.v (.int k b)))(hR:R (.v (.bool (decide (b<=a)))) h):AStep P ⟨d, .binOp .geq T x y yT,ty,pos,af,gd⟩ ev h R:=
 Fb hx hy (fun w=>by simp[eqGuard,binOp,Op.intCmp]) hR
theorem WX(a b:ByteArray):(a.toList==b.toList)=decide (a=b):=by
 rw[Bool.eq_iff_iff,beq_iff_eq,decide_eq_true_iff];constructor
 ·intro h1;rw[Lib.toList_data,Lib.toList_data]at h1;exact ByteArray.ext (Array.toList_inj.1 h1)
 intro h1;rw[h1]
theorem R9{T yT:TypeId}{x y:Operand}{a b:ByteArray}(hx:ev x=some (.v (.string a)))(hy:ev y=some (.v (.string b)))(hR:R (.v (.bool (decide (a=b)))) h):AStep P ⟨d, .binOp .eql T x y yT,ty,pos,af,gd⟩ ev h R:=
 Fb hx hy (fun w=>by simp[eqGuard,binOp,Op.stringOp,WX]) hR
theorem RA{T yT:TypeId}{x y:Operand}{a b:ByteArray}(hx:ev x=some (.v (.string a)))(hy:ev y=some (.v (.string b)))(hR:R (.v (.bool (!decide (a=b)))) h):AStep P ⟨d, .binOp .neq T x y yT,ty,pos,af,gd⟩ ev h R:=
 Fb hx hy (fun w=>by simp[eqGuard,binOp,Op.stringOp,WX]) hR
theorem RB{T yT:TypeId}{x y:Operand}{a b:ByteArray}(hx:ev x=some (.v (.string a)))(hy:ev y=some (.v (.string b)))(hR:R (.v (.bool (Op.bytesLess a.toList b.toList))) h):AStep P ⟨d, .binOp .lss T x y yT,ty,pos,af,gd⟩ ev h R:=
 Fb hx hy (fun w=>by simp[eqGuard,binOp,Op.stringOp]) hR
theorem RC{T yT:TypeId}{x y:Operand}{a b:ByteArray}(hx:ev x=some (.v (.string a)))(hy:ev y=some (.v (.string b)))(hR:R (.v (.bool (!Op.bytesLess a.toList b.toList))) h):AStep P ⟨d, .binOp .geq T x y yT,ty,pos,af,gd⟩ ev h R:=
 Fb hx hy (fun w=>by simp[eqGuard,binOp,Op.stringOp]) hR
theorem Hl{T yT:TypeId}{x y:Operand}{a b:ByteArray}(hx:ev x=some (.v (.string a)))(hy:ev y=some (.v (.string b)))(hb:a.size+b.size<=9223372036854775807)(hR:R (.v (.string (a++b))) h):AStep P ⟨d, .binOp .add T x y yT,ty,pos,af,gd⟩ ev h R:=
 Fb hx hy (fun w=>by
  have:¬((a.size+b.size:Nat):Int)>IntKind.i64.max:=by
   have e:IntKind.i64.max=9223372036854775807:=by decide
   rw[e];omega
  simp only[eqGuard,binOp,Op.stringOp,if_neg this]
  simp) hR
theorem RD{T:TypeId}{x:Operand}{b:Bool}(hx:ev x=some (.v (.bool b)))(hR:R (.v (.bool (!b))) h):AStep P ⟨d, .unOp .not T x,ty,pos,af,gd⟩ ev h R:=
 De (fun _ G w ec _ he=>⟨.bool (!b),by
  have h1:=he x (by simp[Op.operands]) _ hx;simp only[rep]at h1
  simp[execOp,h1,Op.unary],by simp only[rep]⟩) hR
theorem RE{T:TypeId}{x:Operand}{s:ByteArray}(hu:P.underlying T=some .string)(hx:ev x=some (.v (.string s)))(hR:R (.v (.int .i64 s.size)) h):AStep P ⟨d, .call {callee:= .builtin .len,args:=#[x],argTypes:=#[T]},ty,pos,af,gd⟩ ev h R:=
 De (fun _ G w ec _ he=>⟨.int .i64 s.size,by
  have h1:=he x (by simp[Op.operands,Call.operands]) _ hx;simp only[rep]at h1
  simp[execOp,resolve,invoke,builtin,Builtin.len_,run_underlying hu,h1,goInt],by simp only[rep]⟩) hR
theorem RF{T:TypeId}{x:Operand}{E sz bytes:Nat}{rows:List (List AV)}{tok:Option Nat}[hE:Elm P T E sz bytes](hx:ev x=some (.sl sz rows tok))(hR:R (.v (.int .i64 rows.length)) h):AStep P ⟨d, .call {callee:= .builtin .len,args:=#[x],argTypes:=#[T]},ty,pos,af,gd⟩ ev h R:=
 De (fun _ G w ec _ he=>⟨.int .i64 rows.length,by
  have h1:=JT _ _ (he x (by simp[Op.operands,Call.operands]) _ hx);simp only[DW,Ai]at h1;obtain⟨_,A,cap,h2,_⟩:=h1
  simp[execOp,resolve,invoke,builtin,Builtin.len_,run_underlying (Gl hE.eq).1,h2,goInt],by simp only[rep]⟩) hR
theorem RG{T:TypeId}{x:Operand}{E sz bytes:Nat}[hE:Elm P T E sz bytes](hx:ev x=some (.v (.slice none 0 0)))(hR:R (.v (.int .i64 0)) h):AStep P ⟨d, .call {callee:= .builtin .len,args:=#[x],argTypes:=#[T]},ty,pos,af,gd⟩ ev h R:=
 De (fun _ G w ec _ he=>⟨.int .i64 0,by
  have h1:=he x (by simp[Op.operands,Call.operands]) _ hx;simp only[rep]at h1
  simp[execOp,resolve,invoke,builtin,Builtin.len_,run_underlying (Gl hE.eq).1,h1,goInt],by simp only[rep]⟩) hR
end
inductive FillA(pl:List (Nat×Nat))(ev:Operand->Option AV):List AV->List (Nat×Operand)->List AV->Prop
 |nil (cs:List AV):FillA pl ev cs [] cs
 |cons (cs cs' cs'':List AV) (i:Nat) (o:Operand) (ps:List (Nat×Operand)) (x:AV) (off sz:Nat):ev o=some x->pl[i]?=some (off,sz)->JV (Cf x)=true->Nat.beq (Cf x).length sz=true->Nat.blt 0 sz=true->
     SetAt cs off (Cf x) cs'->FillA pl ev cs' ps cs''->FillA pl ev cs ((i,o)::ps) cs''
theorem WY(off:Nat):∀(vs:List Value) (s:Nat) (us:List Value),(vs.zipIdx s).foldl (fun cs (x:Value×Nat)=>cs.setIfInBounds (off+x.2) x.1) us.toArray=(LN us (off+s) vs).toArray
 |[],_,_=>rfl
 |v::vs,s,us=>by
   simp only[List.zipIdx_cons,List.foldl_cons,List.setIfInBounds_toArray,LN];exact WY off vs (s+1) (us.set (off+s) v)
theorem FillA.run{pl:List (Nat×Nat)}{ev:Operand->Option AV}{G:Gh}{w:World}{ec:Operand->Value}{place:Nat->Option (Nat×Nat)}{cs:List AV}{ps:List (Nat×Operand)}{cs':List AV}(hf:FillA pl ev cs ps cs')
    (hpl:∀i p,pl[i]?=some p->place i=some p) (he:∀p∈ps,∀av,ev p.2=some av->rep G w av (ec p.2)):∀{us:List Value},AN G w cs us->(∀u∈us,u.oneCell'=true)->
      ∃us',Instr.fill place us.toArray (ps.map fun p=>(p.1,ec p.2))=some us'.toArray/\AN G w cs' us'/\∀u∈us',u.oneCell'=true:=by
 induction hf with
 |nil cs=>intro us h1 h2;exact⟨us,rfl,h1,h2⟩
 |cons cs cs' cs'' i o ps x off sz h1 h2 h3 h4 h5 h6 _ ih=>
   intro us k1 k2;obtain⟨vs,m1,m2⟩:=OM (he (i,o) (by simp) _ h1) h3;obtain⟨q1,q2⟩:=h6.rep k1 m2;have hl:=Nat.eq_of_beq_eq_true h4;have hp:0<sz:=Bl h5;have hvl:=Kr m2;have hne:Cf x≠[]:=fun e=>by rw[e]at hl;simp at hl;omega
   rw[if_neg hne]at q2
   obtain⟨us',r1,r2,r3⟩:=ih (fun p hp=>he p (by simp[hp])) q1 (fun u hu=>by
    rcases PR vs us off u hu with e|e
    ·exact k2 u e
    exact Ms m2 h3 u e)
   refine⟨us',?_,r2,r3⟩;simp only[List.map_cons,Instr.fill,hpl i _ h2];rw[if_neg (by simp only[m1,List.size_toArray,Bool.or_eq_true,decide_eq_true_eq,not_or];simp;omega)];rw[<-r1,m1]
   congr 1
   have:=WY off vs 0 us;rw[Nat.add_zero]at this;rw[<-this,<-Array.foldl_toList];simp
theorem FillA.idx{pl:List (Nat×Nat)}{ev:Operand->Option AV}{cs:List AV}{ps:List (Nat×Operand)}{cs':List AV}(hf:FillA pl ev cs ps cs'):∀p∈ps,∃q,pl[p.1]?=some q:=by
 induction hf with
 |nil=>simp
 |cons cs cs' cs'' i o ps x off sz h1 h2 _ _ _ _ _ ih=>
   intro p hq;rcases List.mem_cons.1 hq with e|e
   ·subst e;exact⟨_,h2⟩
   exact ih p e
section
variable {P:Program}{ev:Operand->Option AV}{h:AH}{R:AV->AH->Prop}{d:Option Tmp}{ty:TypeId}{pos:String}{af:Array Edge}{gd:Option (Nat×Bool)}
theorem eZ{T:Nat}{pl:List (Nat×Nat)}{zs:List Value}(hp:Qr P T=some pl)(hz:Qq P T=some zs){place:Nat->Option (Nat×Nat)}{parts:List (Nat×Value)}{cells:List Value}(hall:∀p∈parts,∃q,pl[p.1]?=some q)
    (hf:∀place:Nat->Option (Nat×Nat),(∀i p,pl[i]?=some p->place i=some p)->Instr.fill place zs.toArray parts=some cells.toArray) (w:World):(Instr.build T parts.toArray).run P w= .ok (.agg cells.toArray) w:=by
 refine run_build w T _ cells.toArray ?_;obtain⟨i,z,k1,k2,k3⟩:=Qz hz;unfold Qr at hp;unfold Program.built;rw[k1]
 cases hu:P.underlying T with
 |none=>simp[hu]at hp
 |some dsc=>
   cases dsc<;>try (simp[hu]at hp;done)
   case array n e=>
    cases hi:P.info? e with
    |none=>simp[hu,hi]at hp
    |some ie=>
      simp only[hu,hi,Option.map_some,Option.some.injEq]at hp;simp only[k2,hi,k3];refine hf _ fun i p hi=>?_;subst hp;rw[List.getElem?_map]at hi
      cases hr:(List.range n)[i]? with
      |none=>rw[hr]at hi;cases hi
      |some k=>
        rw[hr]at hi
        have:k=i:=by
         obtain⟨h1,h2⟩:=AZ.1 hr;simp at h2;exact h2.symm
        subst this
        simpa using hi
   case struct fs=>
    simp only[hu]at hp;simp only[k2,hp,k3];exact hf _ fun i p hi=>by simpa using hi
theorem PU{T:TypeId}{l:List (Nat×Operand)}{pl:List (Nat×Nat)}{row cs:List AV}[hp:Plc P T pl][hz:Zer P T row](hf:FillA pl ev row l cs)(hR:R (.agg cs) h):AStep P ⟨d, .build T l.toArray,ty,pos,af,gd⟩ ev h R:=by
 refine De (fun _ G w ec _ he=>?_) hR;obtain⟨zs,hz1,hrow,hz2⟩:=hz.eq;have hrep:AN G w row zs:=hrow ▸ TE zs;have hev:∀p∈l,∀av,ev p.2=some av->rep G w av (ec p.2):=fun p hp av hav=>he p.2 (by simp only[Op.operands];simp;exact⟨p.1,hp⟩) av hav;obtain⟨us',k1,k2,k3⟩:=hf.run (place:=fun i=>pl[i]?) (fun i p h=>h) hev hrep (List.all_eq_true.1 hz2)
 have hrun:=eZ (P:=P) hp.eq hz1 (place:=fun i=>pl[i]?) (parts:=l.map fun p=>(p.1,ec p.2)) (cells:=us') (fun p hp=>by
  obtain⟨q,hq,rfl⟩:=List.mem_map.1 hp
  exact hf.idx q hq) (fun place hpl=>by
  obtain⟨us'',m1,m2,_⟩:=hf.run (place:=place) hpl hev hrep (List.all_eq_true.1 hz2)
  have key:∀(ps:List (Nat×Value)) (cells:Array Value),(∀p∈ps,∃q,pl[p.1]?=some q)->Instr.fill place cells ps=Instr.fill (fun i=>pl[i]?) cells ps:=by
   intro ps
   induction ps with
   |nil=>intro cells _;rfl
   |cons p ps ih=>
     intro cells hq;obtain⟨q,hq1⟩:=hq p (by simp);obtain⟨i,v⟩:=p;simp only[Instr.fill,hpl i q hq1,hq1];split
     ·rfl
     exact ih _ (fun p hp=>hq p (by simp[hp]))
  rw[key _ _ (fun p hp=>by
   obtain⟨q,hq,rfl⟩:=List.mem_map.1 hp
   exact hf.idx q hq)]
  exact k1) w
 refine⟨.agg us'.toArray,?_,by simp only[rep];exact⟨us',rfl,k2⟩⟩;simp only[execOp,Sem.run_bind,List.map_toArray,hrun,Result.andThen_ok,Sem.run_pure]
end
def FlatR(St:Nat->Nat->Prop)(w:World)(sz:Nat)(rows:List (List AV))(us:List Value):Prop:=
 us.length=rows.length * sz/\(∀r∈rows,r.length=sz)/\(∀u∈us,u.oneCell'=true)/\∀(i:Nat) (r:List AV) (k:Nat) (x:AV),rows[i]?=some r->r[k]?=some x->∃u,us[i * sz+k]?=some u/\Ai St w x u
theorem FlatR.nil(St:Nat->Nat->Prop)(w:World)(sz:Nat):FlatR St w sz [] []:=⟨by simp,by simp,by simp,by simp⟩
theorem FlatR.append{St:Nat->Nat->Prop}{w:World}{sz:Nat}{rows rows':List (List AV)}{us us':List Value}(h:FlatR St w sz rows us)(h':FlatR St w sz rows' us'):FlatR St w sz (rows++rows') (us++us'):=by
 obtain⟨a1,a2,a3,a4⟩:=h;obtain⟨b1,b2,b3,b4⟩:=h';refine⟨by simp[a1,b1,Nat.add_mul],?_,?_,?_⟩
 ·intro r hr;rcases List.mem_append.1 hr with e|e
  ·exact a2 r e
  exact b2 r e
 ·intro r hr;rcases List.mem_append.1 hr with e|e
  ·exact a3 r e
  exact b3 r e
 intro i r k x hi hk;rcases Nat.lt_or_ge i rows.length with hlt|hge
 ·rw[DD hlt]at hi;obtain⟨u,h1,h2⟩:=a4 i r k x hi hk;exact⟨u,by rw[DD (AZ.1 h1).1];exact h1,h2⟩
 rw[Er hge]at hi;obtain⟨u,h1,h2⟩:=b4 _ r k x hi hk;refine⟨u,?_,h2⟩
 have e:i * sz+k=us.length+((i - rows.length) * sz+k):=by
  rw[a1,Nat.sub_mul];have:rows.length * sz<=i * sz:=Nat.mul_le_mul_right sz hge;omega
 rw[e,Er (by omega)]
 simpa using h1
theorem FlatR.mono{St St':Nat->Nat->Prop}{w w':World}{sz:Nat}{rows:List (List AV)}{us:List Value}(h:FlatR St w sz rows us)(hst:∀b o,St b o->St' b o/\w'.cell? ⟨b,o,none⟩=w.cell? ⟨b,o,none⟩):FlatR St' w' sz rows us:=
 ⟨h.1,h.2.1,h.2.2.1,fun i r k x hi hk=>let ⟨u,h1,h2⟩:=h.2.2.2 i r k x hi hk;⟨u,h1,JS hst x u h2⟩⟩
theorem FlatR.froR{St:Nat->Nat->Prop}{w:World}{sz b off:Nat}{rows:List (List AV)}{us:List Value}(h:FlatR St w sz rows us)(hc:∀j u,us[j]?=some u->St b (off+j)/\w.cell? ⟨b,off+j,none⟩=some u):froR St w b sz rows off:=by
 refine PN fun i r hi=>⟨h.2.1 r (Aj hi),OH fun k x hk=>?_⟩;obtain⟨u,h1,h2⟩:=h.2.2.2 i r k x hi hk;obtain⟨c1,c2⟩:=hc _ u h1;rw[<-Nat.add_assoc]at c1 c2;exact⟨c1,u,c2,h.2.2.1 u (Aj h1),h2⟩
theorem f6{St:Nat->Nat->Prop}{w:World}{b:Nat}{r:List AV}{off:Nat}(hc:Dd St w b r off):∃us:List Value,us.length=r.length/\Bc St w r us/\(∀u∈us,u.oneCell'=true)/\∀j u,us[j]?=some u->w.cell? ⟨b,off+j,none⟩=some u:=by
 obtain⟨us,h1,h2,h3⟩:=TB hc;exact⟨us,PP h1,h1,h2,h3⟩
theorem RH{St:Nat->Nat->Prop}{w:World}:∀{xs:List AV} {ys:List Value},Bc St w xs ys->∀{i:Nat} {x:AV},xs[i]?=some x->∃y,ys[i]?=some y/\Ai St w x y
 |[],_,_,i,x,hi=>by simp at hi
 |x::xs,_,h,i,x',hi=>by
   simp only[Bc]at h;obtain⟨z,zs,rfl,h2,h3⟩:=h
   cases i with
   |zero=>simp at hi;subst hi;exact⟨z,by simp,h2⟩
   |succ i=>simp only[List.getElem?_cons_succ]at hi ⊢;exact RH h3 hi
theorem FlatR.one{St:Nat->Nat->Prop}{w:World}{sz:Nat}{r:List AV}{us:List Value}(hl:r.length=sz)(hf:Bc St w r us)(h1:∀u∈us,u.oneCell'=true):FlatR St w sz [r] us:=by
 refine⟨by simp[PP hf,hl],by simp[hl],h1,fun i r' k x hi hk=>?_⟩
 cases i with
 |zero=>simp at hi;subst hi;obtain⟨y,h1,h2⟩:=RH hf hk;exact⟨y,by simpa using h1,h2⟩
 |succ i=>simp at hi
theorem WZ{St:Nat->Nat->Prop}{w:World}{b sz:Nat}:∀{rs:List (List AV)} {off:Nat},froR St w b sz rs off->∃us:List Value,FlatR St w sz rs us/\∀j u,us[j]?=some u->w.cell? ⟨b,off+j,none⟩=some u
 |[],_,_=>⟨[],FlatR.nil _ _ _,by simp⟩
 |r::rs,off,h=>by
   simp only[Go.Proofs.YtbgnigjfkbmceaaGreatDoor.froR]at h;obtain⟨us,a1,a2,a3,a4⟩:=f6 h.1.2;obtain⟨vs,b1,b2⟩:=WZ h.2;refine⟨us++vs,FlatR.append (FlatR.one h.1.1 a2 a3) b1,fun j u hj=>?_⟩;rcases Nat.lt_or_ge j us.length with hlt|hge
   ·rw[DD hlt]at hj;exact a4 j u hj
   rw[Er hge]at hj;have:=b2 _ u hj
   rwa [show off+sz+(j - us.length)=off+j by rw[a1,h.1.1]at hge ⊢;omega]at this
theorem OO{St:Nat->Nat->Prop}{w:World}{sz:Nat}{rows:List (List AV)}{y:Value}(h:Ai St w (.sl sz rows none) y):∃A cap us,y= .slice A rows.length cap/\rows.length<=cap/\cap<=maxLen/\FlatR St w sz rows us/\
    (rows≠[]->∃b off,A=some ⟨b,off,none⟩/\∀j u,us[j]?=some u->w.cell? ⟨b,off+j,none⟩=some u):=by
 simp only[Ai]at h;obtain⟨_,A,cap,h1,h2,h3,h4⟩:=h;rcases h4 with h4|⟨b,off,h5,h6⟩
 ·subst h4;exact⟨A,cap,[],h1,h2,h3,FlatR.nil _ _ _,fun h=>absurd rfl h⟩
 obtain⟨us,k1,k2⟩:=WZ h6;exact⟨A,cap,us,h1,h2,h3,k1,fun _=>⟨b,off,h5,k2⟩⟩
mutual
def Lp:AV->Bool
 | .v _=>true
 | .agg cs=>LO cs
 | .tup cs=>LO cs
 | .sl _ _ none=>true
 | .sl _ _ (some _)=>false
 | .fp _=>true
 | .bp _ _=>false
 | .bs _ _ _ _ _=>false
 | .fn _ caps=>LO caps
 | .any=>true
def LO:List AV->Bool
 |[]=>true
 |x::xs=>Lp x&&LO xs
end
mutual
theorem Wa:∀(x:AV),Lp x=true->DW x=x
 | .v _,_=>by simp only[DW]
 | .agg cs,h=>by simp only[Lp]at h;simp only[DW,OP cs h]
 | .tup cs,h=>by simp only[Lp]at h;simp only[DW,OP cs h]
 | .sl _ _ none,_=>by simp only[DW]
 | .sl _ _ (some _),h=>by simp[Lp]at h
 | .fp _,_=>by simp only[DW]
 | .bp _ _,h=>by simp[Lp]at h
 | .bs _ _ _ _ _,h=>by simp[Lp]at h
 | .fn _ caps,h=>by simp only[Lp]at h;simp only[DW,OP caps h]
 | .any,_=>by simp only[DW]
theorem OP:∀(xs:List AV),LO xs=true->FZ xs=xs
 |[],_=>by simp only[FZ]
 |x::xs,h=>by
   simp only[LO,Bool.and_eq_true]at h;simp only[FZ,Wa x h.1,OP xs h.2]
end
inductive DenseA(sz:Nat)(ev:Operand->Option AV):Nat->List (Nat×Operand)->List (List AV)->Prop
 |nil (i:Nat):DenseA sz ev i [] []
 |cons (i:Nat) (o:Operand) (ps:List (Nat×Operand)) (x:AV) (rows:List (List AV)):ev o=some x->JV (Cf x)=true->Nat.beq (Cf x).length sz=true->LO (Cf x)=true->DenseA sz ev (i+1) ps rows->DenseA sz ev i ((i,o)::ps) (Cf x::rows)
 |consE (i:Nat) (o:Operand) (ps:List (Nat×Operand)) (x:AV) (rows:List (List AV)):ev o=some x->JV (Cf x)=true->Nat.beq (Cf x).length sz=true->DenseA sz ev (i+1) ps rows->DenseA sz ev i ((i,o)::ps) (FZ (Cf x)::rows)
def RowsV(St:Nat->Nat->Prop)(w:World)(sz:Nat):List (List AV)->List Value->Prop
 |[],vs=>vs=[]
 |r::rs,vs=>∃v vs',vs=v::vs'/\r.length=sz/\(∃us:List Value,v.cells=us.toArray/\Bc St w r us/\∀u∈us,u.oneCell'=true)/\RowsV St w sz rs vs'
theorem Wc:∀(xs:List AV),(FZ xs).length=xs.length
 |[]=>rfl
 |x::xs=>by simp only[FZ,List.length_cons,Wc xs]
theorem DenseA.vals{sz:Nat}{ev:Operand->Option AV}{G:Gh}{w:World}{ec:Operand->Value}{i:Nat}{ps:List (Nat×Operand)}{rows:List (List AV)}(hd:DenseA sz ev i ps rows)(he:∀p∈ps,∀av,ev p.2=some av->rep G w av (ec p.2)):
    ∃vs,RowsV G.St w sz rows vs/\ps.map (fun p=>(p.1,ec p.2))=(vs.zipIdx i).map (fun x=>(x.2,x.1))/\vs.length=rows.length:=by
 induction hd with
 |nil i=>exact⟨[],by simp only[RowsV],rfl,rfl⟩
 |cons i o ps x rows h1 h2 h3 h4 _ ih=>
   obtain⟨vs,k1,k2,k3⟩:=ih (fun p hp=>he p (by simp[hp]));obtain⟨us,m1,m2⟩:=OM (he (i,o) (by simp) _ h1) h2;refine⟨ec o::vs,?_,by simp[k2],by simp[k3]⟩;simp only[RowsV];have:=Mo _ _ m2;rw[OP _ h4]at this;exact⟨_,_,rfl,Nat.eq_of_beq_eq_true h3,⟨us,m1,this,Ms m2 h2⟩,k1⟩
 |consE i o ps x rows h1 h2 h3 _ ih=>
   obtain⟨vs,k1,k2,k3⟩:=ih (fun p hp=>he p (by simp[hp]));obtain⟨us,m1,m2⟩:=OM (he (i,o) (by simp) _ h1) h2;refine⟨ec o::vs,?_,by simp[k2],by simp[k3]⟩;simp only[RowsV];exact⟨_,_,rfl,by rw[Wc];exact Nat.eq_of_beq_eq_true h3,⟨us,m1,Mo _ _ m2,Ms m2 h2⟩,k1⟩
theorem RowsV.sizes{St:Nat->Nat->Prop}{w:World}{sz:Nat}:∀{rows:List (List AV)} {vs:List Value},RowsV St w sz rows vs->(∀v∈vs,v.cells.size=sz)/\vs.length=rows.length
 |[],_,h=>by simp only[RowsV]at h;subst h;simp
 |r::rs,_,h=>by
   simp only[RowsV]at h;obtain⟨v,vs,rfl,h1,⟨us,h2,h3,_⟩,h4⟩:=h;obtain⟨k1,k2⟩:=RowsV.sizes h4;refine⟨?_,by simp[k2]⟩;intro y hy;rcases List.mem_cons.1 hy with e|e
   ·rw[e,h2];simp[PP h3,h1]
   exact k1 y e
theorem RowsV.get{St:Nat->Nat->Prop}{w:World}{sz:Nat}:∀{rows:List (List AV)} {vs:List Value},RowsV St w sz rows vs->∀{i:Nat} {r:List AV},rows[i]?=some r->r.length=sz/\∃v us,vs[i]?=some v/\v.cells=List.toArray us/\Bc St w r us/\∀u∈us,u.oneCell'=true
 |[],_,_,i,r,hi=>by simp at hi
 |r::rs,_,h,i,r',hi=>by
   simp only[RowsV]at h;obtain⟨v,vs,rfl,h1,⟨us,h2,h3,h3'⟩,h4⟩:=h
   cases i with
   |zero=>simp at hi;subst hi;exact⟨h1,v,us,by simp,h2,h3,h3'⟩
   |succ i=>simp only[List.getElem?_cons_succ]at hi ⊢;exact RowsV.get h4 hi
theorem RowsV.fill{St:Nat->Nat->Prop}{w:World}{sz:Nat}{rows:List (List AV)}{vs:List Value}(h:RowsV St w sz rows vs)(hs:0<sz)(cells:Array Value)(hc:cells.size=rows.length * sz):
    ∃us:List Value,Instr.fill (fun i=>some (i * sz,sz)) cells ((vs.zipIdx 0).map fun x=>(x.2,x.1))=some us.toArray/\FlatR St w sz rows us:=by
 obtain⟨k1,k2⟩:=h.sizes;obtain⟨r,h1,h2,h3⟩:=Great.fill_dense hs vs 0 cells k1 (by rw[Nat.zero_add,k2,hc];exact As _)
 have key:∀(i:Nat) (row:List AV) (k:Nat),rows[i]?=some row->k<sz->∃us:List Value,Bc St w row us/\(∀u∈us,u.oneCell'=true)/\r[i * sz+k]?=us[k]?:=by
  intro i row k hi hk;obtain⟨q1,v,us,q2,q3,q4,q5⟩:=h.get hi;refine⟨us,q4,q5,?_⟩;have hilt:i<vs.length:=(AZ.1 q2).1;have hle:(i+1) * sz<=vs.length * sz:=Nat.mul_le_mul_right sz hilt;rw[Nat.add_mul]at hle;rw[h3,if_pos ⟨by simp,by rw[Nat.zero_add];omega⟩];have e1:(i * sz+k) / sz=i:=by rw[Nat.add_comm,Nat.mul_comm,Nat.add_mul_div_left _ _ hs,Nat.div_eq_of_lt hk,Nat.zero_add]
  have e2:(i * sz+k) % sz=k:=by rw[Nat.add_comm,Nat.mul_comm,Nat.add_mul_mod_self_left,Nat.mod_eq_of_lt hk]
  rw[e1,e2,Nat.sub_zero,q2,Option.bind_some,q3];simp
 refine⟨r.toList,by rw[h1],?_,?_,?_,?_⟩
 ·rw[Array.length_toList,h2,hc]
 ·intro row hrow;obtain⟨i,hi⟩:=List.mem_iff_getElem?.1 hrow;exact(h.get hi).1
 ·intro u hu;obtain⟨j,hj⟩:=List.mem_iff_getElem?.1 hu
  have hjl:j<rows.length * sz:=by
   have:=(AZ.1 hj).1
   rwa [Array.length_toList,h2,hc]at this
  have hq:j / sz<rows.length:=(Nat.div_lt_iff_lt_mul hs).2 hjl;obtain⟨us,_,m2,m3⟩:=key (j / sz) _ (j % sz) (B7 hq) (Nat.mod_lt _ hs);have e:j / sz * sz+j % sz=j:=by have:=Nat.div_add_mod j sz;rw[Nat.mul_comm]at this;exact this
  rw[e]at m3;rw[Array.getElem?_toList,m3]at hj;exact m2 u (Aj hj)
 intro i row k x hi hk
 have hkl:k<sz:=by
  have:=(AZ.1 hk).1
  rwa [(h.get hi).1]at this
 obtain⟨us,m1,_,m3⟩:=key i row k hi hkl;obtain⟨y,n1,n2⟩:=RH m1 hk;exact⟨y,by rw[Array.getElem?_toList,m3];exact n1,n2⟩
theorem Wd{E:Env}{G:Gh}{h:AH}{w:World}(hr:HRel E G h w){sz:Nat}{rows:List (List AV)}{us:List Value}{T:TypeId}(hf:FlatR G.St w sz rows us)(hlen:rows.length<=maxLen):
    ∃G',HRel E G' h (w.alloc (.cells us.toArray T))/\Ext G w G' (w.alloc (.cells us.toArray T))/\Ai G'.St (w.alloc (.cells us.toArray T)) (.sl sz rows none) (.slice (some ⟨w.heap.size,0,none⟩) rows.length rows.length)/\
     (∀o,G'.St w.heap.size o->o<us.length)/\G'.bx=G.bx/\G'.tk=G.tk:=by
 obtain⟨k1,k2⟩:=hr.grow (w':=w.alloc (.cells us.toArray T)) ((Below.refl _ _).alloc (As _) _) (fun b o=>b=w.heap.size/\o<us.length) (fun b o hb=>by simp[hb.1]);refine⟨_,k1,k2,?_,?_,rfl,rfl⟩
 ·simp only[Ai];refine⟨trivial,_,_,rfl,As _,hlen,?_⟩;by_cases h0:rows=[]
  ·exact .inl h0
  refine .inr ⟨w.heap.size,0,rfl,(hf.mono k2.st).froR fun j u hj=>?_⟩;rw[Nat.zero_add];refine⟨.inr ⟨rfl,(AZ.1 hj).1⟩,?_⟩;simp only[World.cell?,PS]
  simpa using hj
 rintro o (hs|hs)
 ·have:=hr.stlt _ _ hs;omega
 exact hs.2
section
variable {P:Program}{ev:Operand->Option AV}{h:AH}{R:AV->AH->Prop}{d:Option Tmp}{ty:TypeId}{pos:String}{af:Array Edge}{gd:Option (Nat×Bool)}
theorem We{T len E sz bytes:Nat}{l:List (Nat×Operand)}{rows:List (List AV)}(hE:NX P T=some (E,sz,bytes))(hd:DenseA sz ev 0 l rows)(hl:Nat.beq l.length len=true)(hsm:Nat.ble len 1000=true)(hpos:Nat.blt 0 len=true)(hsz:Nat.ble sz 100=true)
    {Ev:Env} {G:Gh} {w:World} {ec:Operand->Value} (_hr:HRel Ev G h w) (he:∀x∈(Op.buildSlice T len l.toArray).operands,∀av,ev x=some av->rep G w av (ec x)):
    ∃us:List Value,FlatR G.St w sz rows us/\rows.length=len/\len<=1000/\(Instr.buildSlice T len (l.toArray.map fun p=>(p.1,ec p.2))).run P w= .ok (.slice (some ⟨w.heap.size,0,none⟩) len len) (w.alloc (.cells us.toArray E)):=by
 obtain⟨hu,inf,z,hinf,hz,hzs,hs,hby,hp⟩:=Gl hE;have hev:∀p∈l,∀av,ev p.2=some av->rep G w av (ec p.2):=fun p hp av hav=>he p.2 (by simp only[Op.operands];simp;exact⟨p.1,hp⟩) av hav;obtain⟨vs,k1,k2,k3⟩:=hd.vals hev;have hl':l.length=len:=Nat.eq_of_beq_eq_true hl;have hsm':len<=1000:=Bl hsm;have hpos':0<len:=Bl hpos;have hsz':sz<=100:=Bl hsz
 have hrl:rows.length=len:=by
  have:=congrArg List.length k2;simp at this;omega
 obtain⟨us,m1,m2⟩:=k1.fill hp ((Array.range (len * inf.size)).map (z.cells[· % z.cells.size]!)) (by simp[hs,hrl]);refine⟨us,m2,hrl,hsm',?_⟩
 refine run_buildSlice w T E len _ us.toArray inf z hu hinf hz (by
  rw[hs];have:len * sz<=1000 * 100:=Nat.mul_le_mul hsm' hsz'
  omega) (by rw[hs];exact Nat.ne_of_gt (Nat.mul_pos hpos' hp)) ?_
 rw[hs]at m1 ⊢;simp only[List.map_toArray];rw[k2];exact m1
theorem PV{T:TypeId}{len E sz bytes:Nat}{l:List (Nat×Operand)}{rows:List (List AV)}[hE:Elm P T E sz bytes](hd:DenseA sz ev 0 l rows)(hl:Nat.beq l.length len=true)(hsm:Nat.ble len 1000=true)(hpos:Nat.blt 0 len=true)(hsz:Nat.ble sz 100=true)(hR:R (.sl sz rows none) h):
    AStep P ⟨d, .buildSlice T len l.toArray,ty,pos,af,gd⟩ ev h R:=by
 intro E' G w ec hr he;obtain⟨us,m2,hrl,hsm',hrun⟩:=We hE.eq hd hl hsm hpos hsz hr he;obtain⟨G',q1,q2,q3,_⟩:=Wd (T:=E) hr m2 (by rw[hrl];unfold maxLen;omega);simp only[execOp,Sem.run_bind,hrun,Result.andThen_ok,Sem.run_pure];refine⟨_,_,G',hR,q1,q2,?_⟩;simp only[rep];rw[hrl]at q3;exact q3
theorem HRel.addTok{E:Env}{G:Gh}{w:World}(hr:HRel E G h w){T sz n:Nat}{u:Value}{rows:List (List AV)}(ht:WC E.w0.heap.size G w n u T sz rows)(hbx:∀b,u.ownBlock=some b->b∉G.bx)(htk:∀(g n':Nat) (u':Value),G.tk[g]?=some (n',u')->∀b,u.ownBlock=some b->u'.ownBlock≠some b):
    HRel E ⟨G.St,G.bx,G.tk++[(n,u)]⟩ ⟨h.bx,h.tk++[(T,sz,rows)]⟩ w/\Ext G w ⟨G.St,G.bx,G.tk++[(n,u)]⟩ w:=by
 have he:Ext G w ⟨G.St,G.bx,G.tk++[(n,u)]⟩ w:=⟨fun _ _ h=>⟨h,rfl⟩,fun _ _ h=>h,fun g n' u' hg=>⟨n',u',by rw[DD (AZ.1 hg).1];exact hg,As _,fun _=>rfl⟩⟩
 have split:∀(g n':Nat) (u':Value),(G.tk++[(n,u)])[g]?=some (n',u')->G.tk[g]?=some (n',u')\/(g=G.tk.length/\n'=n/\u'=u):=by
  intro g n' u' hg;rcases Nat.lt_or_ge g G.tk.length with hlt|hge
  ·rw[DD hlt]at hg;exact .inl hg
  rw[Er hge]at hg;have h0:g - G.tk.length=0:=by have:=(AZ.1 hg).1;simp at this;omega
  rw[h0]at hg;simp at hg;exact .inr ⟨by omega,hg.1.symm,hg.2.symm⟩
 refine⟨⟨hr.inpre,hr.kept,hr.stlt,hr.stnew,hr.bxlen,hr.bxnd,hr.bxst,hr.bxown,?_,by simp[hr.tklen],?_,?_,?_⟩,he⟩
 ·intro i b row hi hrow;obtain⟨us,T',h1,h2,h3⟩:=hr.box i b row hi hrow;exact⟨us,T',h1,Fs he _ _ h2,h3⟩
 ·intro g n' u' T' sz' rows' hg ht';rcases split g n' u' hg with h1|⟨h1,h2,h3⟩
  ·have hlt:g<h.tk.length:=by rw[<-hr.tklen];exact(AZ.1 h1).1
   simp only at ht';rw[DD hlt]at ht';exact hr.tok g n' u' T' sz' rows' h1 ht'
  subst h1;subst h2;subst h3;simp only[hr.tklen]at ht';simp at ht';obtain⟨rfl,rfl,rfl⟩:=ht';exact ht
 ·intro g n' u' hg b hb;rcases split g n' u' hg with h1|⟨h1,h2,h3⟩
  ·exact hr.tkbx g n' u' h1 b hb
  subst h3;exact hbx b hb
 intro g g' n1 n2 u1 u2 hg hg' hne b hb;rcases split g n1 u1 hg with h1|⟨h1,h2,h3⟩
 ·rcases split g' n2 u2 hg' with k1|⟨k1,k2,k3⟩
  ·exact hr.tknd g g' n1 n2 u1 u2 h1 k1 hne b hb
  subst k3;exact fun e=>htk g n1 u1 h1 b e hb
 rcases split g' n2 u2 hg' with k1|⟨k1,k2,k3⟩
 ·subst h3;exact htk g' n2 u2 k1 b hb
 exact absurd (h1.trans k1.symm) hne
theorem Wf{E:Env}{G:Gh}{w:World}(hr:HRel E G h w){T T' sz bytes:Nat}(hE:NX P T=some (T',sz,bytes))(hby:bytes<=100000){g:Nat}{rows new:List (List AV)}{y s:Value}(hg:h.tk[g]?=some (T',sz,rows))
    (hs:rep G w (.sl sz rows (some g)) s) (hy:Ai G.St w (.sl sz new none) y) (hsm:rows.length+new.length<=1000000) (rt:TypeId):
    ∃v' w' G',(Builtin.append_ #[T,T] rt #[s,y]).run P w= .ok v' w'/\HRel E G' ⟨h.bx,h.tk.set g (T',sz,rows++new)⟩ w'/\Ext G w G' w'/\rep G' w' (.sl sz (rows++new) (some g)) v':=by
 obtain⟨hu,inf,z,hinf,hz,hzs,hsz,hbts,hp⟩:=Gl hE;simp only[rep]at hs;obtain⟨hs0,n,u,hn1,hn2,hn3⟩:=hs;obtain⟨tn,⟨xs,town⟩,tsp⟩:=hr.tok g n u T' sz rows hn1 hg;have hsu:s=u:=hn3 tn.symm;subst hsu;subst tn;obtain⟨A,cap,vs,e1,e2,e3,e4,e5⟩:=OO hy;obtain⟨A0,cap0,us0,f1,f2,f3,f4,f5⟩:=OO hs0
 have kw:E.w0.heap.size<=w.heap.size:=hr.kept.size
 -- the cells of what is there are xs
 have hxs:FlatR G.St w sz rows xs:=by
  by_cases h0:rows=[]
  ·subst h0;have:xs=[]:=ER (by simpa using town.1);subst this;exact FlatR.nil _ _ _
  obtain⟨b,off,q1,q2⟩:=f5 h0
  have:us0=xs:=by
   refine List.ext_getElem? fun j=>?_;rcases Nat.lt_or_ge j (rows.length * sz)with hj|hj
   ·have hj1:j<us0.length:=by rw[f4.1];exact hj
    have hj2:j<xs.length:=by rw[town.1];exact hj
    have a1:=q2 j _ (B7 hj1);rcases town.2 with⟨c1,c2⟩|⟨gb,cp,cur,c1,c2,c3,c4,c5,c6,c7⟩
    ·exact absurd c2 (by simp[h0])
    rw[f1,q1]at c1;injection c1 with c1 c1' c1'';injection c1 with c1;injection c1 with c1 c1o;subst c1;subst c1o;have a2:w.cell? ⟨b,0+j,none⟩=cur[j]?:=by simp only[World.cell?,c3];simp
    rw[a2]at a1;rw[B7 hj1,<-a1,<-c7,List.getElem?_take,if_pos hj,Array.getElem?_toList]
   rw[List.getElem?_eq_none (by rw[f4.1];exact hj),List.getElem?_eq_none (by rw[town.1];exact hj)]
  rw[<-this];exact f4
 -- the run
 have hrun:∃v' w',(Builtin.append_ #[T,T] rt #[s,y]).run P w= .ok v' w'/\w'.ownsRow E.w0.heap.size T' sz v' (rows.length+new.length) (xs++vs)/\w.grownBy w' s.ownBlock/\(v'.ownBlock=s.ownBlock\/(v'.ownBlock=some w.heap.size/\∀k,k<w.heap.size->w'.heap[k]?=w.heap[k]?)):=by
  by_cases h0:new=[]
  ·subst h0;have hv:vs=[]:=ER (by simpa using e4.1);subst hv;rcases A with _|ad
   ·refine⟨s,w,?_,by simpa using town,World.grownBy.refl w _, .inl rfl⟩;rw[e1];rcases town.2 with⟨c1,c2⟩|⟨gb,cp,cur,c1,c2,c3,c4,c5,c6,c7⟩
    ·simp[Builtin.append_,run_underlying hu,sizeOf,typeInfo,hinf,Builtin.lenOf,Builtin.firstCells,c1]
    simp[Builtin.append_,run_underlying hu,sizeOf,typeInfo,hinf,Builtin.lenOf,Builtin.firstCells,c1,c4,storeCells]
   rw[e1]
   obtain⟨v',w',r1,r2,r3,r4,r5⟩:=run_append_own_at (P:=P) w E.w0.heap.size T rt T' inf z sz bytes hu hinf hz hsz hbts hzs hp s rows.length xs town ad 0 cap [] (by simp) (by simp) (by simp) (by unfold maxLen;omega) (by
    have:(rows.length+0) * bytes<=1000000 * 100000:=Nat.mul_le_mul (by omega) hby
    omega) kw
   refine⟨v',w',r1,by simpa using r2,r3, .inl ?_⟩;rcases town.2 with⟨c1,c2⟩|⟨gb,cp,cur,c1,c2,c3,c4,c5,c6,c7⟩
   ·rw[r4.2 ⟨c1,rfl⟩,c1]
   have hroom:=run_append_room (P:=P) w T rt T' inf hu hinf gb rows.length cp cur c3 ad 0 cap [] (by simp) (by simp) (by simp) (by omega) (by rw[c6,hsz];simp;exact Nat.mul_le_mul_right _ c4);rw[<-c1,r1]at hroom;injection hroom with e _;rw[e,c1];simp[Value.ownBlock]
  obtain⟨b,off,q1,q2⟩:=e5 h0;subst q1;rw[e1];have hnl:0<new.length:=by cases new with|nil=>exact absurd rfl h0|cons=>simp
  have hnews:∀j u,vs[j]?=some u->w.cell? ((⟨b,off,none⟩:Addr).add j)=some u:=fun j u hj=>by rw[Addr.add_mid];exact q2 j u hj
  have hbt:(rows.length+new.length) * bytes<=140737488355328:=by
   have:(rows.length+new.length) * bytes<=1000000 * 100000:=Nat.mul_le_mul hsm hby;omega
  obtain⟨v',w',r1,r2,r3,r4,r5⟩:=run_append_own_at (P:=P) w E.w0.heap.size T rt T' inf z sz bytes hu hinf hz hsz hbts hzs hp s rows.length xs town ⟨b,off,none⟩ new.length cap vs (by rw[e4.1]) hnews e4.2.2.1 (by unfold maxLen;omega) hbt kw;refine⟨v',w',r1,r2,r3,?_⟩;rcases town.2 with⟨c1,c2⟩|⟨gb,cp,cur,c1,c2,c3,c4,c5,c6,c7⟩
  ·rcases r5 with r5|r5
   ·exact .inl r5
   exact .inr ⟨r5,fun k hk=>r3.block k hk (by rw[c1];simp[Value.ownBlock])⟩
  by_cases hroom:rows.length+new.length<=cp
  ·refine .inl ?_;have hh:=run_append_room (P:=P) w T rt T' inf hu hinf gb rows.length cp cur c3 ⟨b,off,none⟩ new.length cap vs (by rw[e4.1,hsz]) hnews e4.2.2.1 hroom (by rw[e4.1,c6,hsz,<-Nat.add_mul];exact Nat.mul_le_mul_right _ hroom);rw[<-c1,r1]at hh;injection hh with e _;rw[e,c1];simp[Value.ownBlock]
  refine .inr ?_;have holds:∀j u,xs[j]?=some u->w.cell? ((⟨gb,0,none⟩:Addr).add j)=some u:=town.cells (g:=gb) (by rw[c1];rfl);have hh:=run_append_grow (P:=P) w T rt T' inf z hu hinf hz ⟨gb,0,none⟩ rows.length cp xs (by rw[town.1,hsz]) holds ⟨b,off,none⟩ new.length cap vs (by rw[e4.1,hsz]) hnews (by omega) (by omega) (growslice_fits (by omega) (by rw[hbts];exact hbt));rw[<-c1,r1]at hh;injection hh with ea eb;refine⟨by rw[ea];simp[Value.ownBlock],fun k hk=>?_⟩;rw[eb];exact Below.heap_alloc w.drew _ k hk
 obtain⟨v',w',r1,r2,r3,r5⟩:=hrun
 -- what stays now
 refine⟨v',w',⟨fun b o=>G.St b o\/(v'.ownBlock=some b/\o<(rows.length+new.length) * sz),G.bx,G.tk.set g (rows.length+new.length,v')⟩,r1,?_⟩;have hvlt:=World.ownsRow.lt r2;have hold:∀b,s.ownBlock=some b->E.w0.heap.size<=b/\b<w.heap.size:=fun b hb=>hr.toklt hn1 hb
 have hcells:∀b o u,v'.ownBlock=some b->(xs++vs)[o]?=some u->w'.cell? ⟨b,o,none⟩=some u:=by
  intro b o u hb ho;rcases r2.2 with⟨c1,c2⟩|⟨gb,cp,cur,c1,c2,c3,c4,c5,c6,c7⟩
  ·rw[c1]at hb;simp[Value.ownBlock]at hb
  rw[c1]at hb;simp[Value.ownBlock]at hb;subst hb
  have hlt:o<(rows.length+new.length) * sz:=by
   have:=(AZ.1 ho).1
   rwa [r2.1]at this
  simp only[World.cell?,c3];rw[<-c7,List.getElem?_take,if_pos hlt,Array.getElem?_toList]at ho
  simpa using ho
 have hst:∀b o,G.St b o->(G.St b o\/(v'.ownBlock=some b/\o<(rows.length+new.length) * sz))/\w'.cell? ⟨b,o,none⟩=w.cell? ⟨b,o,none⟩:=by
  intro b o hb;refine⟨.inl hb,?_⟩;by_cases hbs:s.ownBlock=some b
  ·have hlt:o<rows.length * sz:=Nat.lt_of_not_le fun hle=>tsp b hbs o hle hb;rcases r5 with r5|⟨r5,r6⟩
   ·have ho:o<xs.length:=by rw[town.1];exact hlt
    have c:=hcells b o xs[o] (by rw[r5];exact hbs) (by rw[DD ho];exact B7 ho);rw[c];rcases town.2 with⟨c1,c2⟩|⟨gb,cp,cur,c1,c2,c3,c4,c5,c6,c7⟩
    ·rw[c1]at hbs;simp[Value.ownBlock]at hbs
    rw[c1]at hbs;simp[Value.ownBlock]at hbs;subst hbs;have hx:xs[o]?=cur[o]?:=by rw[<-c7,List.getElem?_take,if_pos hlt,Array.getElem?_toList]
    rw[B7 ho]at hx;simp only[World.cell?,c3]
    simpa using hx
   exact World.cell?_of_block (w:=w) (a:=⟨b,o,none⟩) (r6 b (hold b hbs).2)
  exact World.cell?_of_block (w:=w) (a:=⟨b,o,none⟩) (r3.block b (hr.stlt b o hb) (fun e=>hbs e.symm))
 have hgl:g<G.tk.length:=(AZ.1 hn1).1
 have hext:Ext G w ⟨fun b o=>G.St b o\/(v'.ownBlock=some b/\o<(rows.length+new.length) * sz),G.bx,G.tk.set g (rows.length+new.length,v')⟩ w':=by
  refine⟨hst,fun _ _ h=>h,fun g' n' u' hg'=>?_⟩;by_cases hgg:g=g'
  ·subst hgg;rw[hn1]at hg';injection hg' with hg';injection hg' with e1' e2';subst e1';subst e2';refine⟨_,_,List.getElem?_set_self hgl,by omega,fun e=>?_⟩;have hnew:new=[]:=ER (by omega);subst hnew
   have:v'=s:=by
    rcases A with _|ad
    ·rw[e1]at r1;rcases town.2 with⟨c1,c2⟩|⟨gb,cp,cur,c1,c2,c3,c4,c5,c6,c7⟩
     ·simp[Builtin.append_,run_underlying hu,sizeOf,typeInfo,hinf,Builtin.lenOf,Builtin.firstCells,c1]at r1;rw[<-r1.1,c1]
     simp[Builtin.append_,run_underlying hu,sizeOf,typeInfo,hinf,Builtin.lenOf,Builtin.firstCells,c1,c4,storeCells]at r1;rw[<-r1.1,c1]
    rw[e1]at r1;rcases town.2 with⟨c1,c2⟩|⟨gb,cp,cur,c1,c2,c3,c4,c5,c6,c7⟩
    ·simp[Builtin.append_,run_underlying hu,sizeOf,typeInfo,hinf,Builtin.lenOf,Builtin.firstCells,c1,loadCells,loadCellsFrom]at r1;rw[<-r1.1,c1]
    simp[Builtin.append_,run_underlying hu,sizeOf,typeInfo,hinf,Builtin.lenOf,Builtin.firstCells,c1,c4,storeCells,loadCells,loadCellsFrom]at r1;rw[<-r1.1,c1]
   exact this.symm
  exact⟨n',u',by rw[List.getElem?_set_ne hgg];exact hg',As _,fun _=>rfl⟩
 have hvb:∀b,v'.ownBlock=some b->s.ownBlock=some b\/b=w.heap.size:=by
  intro b hb;rcases r5 with r5|⟨r5,_⟩
  ·exact .inl (by rw[<-r5];exact hb)
  rw[r5]at hb;injection hb with hb;exact .inr hb.symm
 refine⟨⟨hr.inpre,?_,?_,?_,hr.bxlen,hr.bxnd,?_,hr.bxown,?_,by simp[hr.tklen],?_,?_,?_⟩,hext,?_⟩
 ·have k:=hr.kept;refine⟨r3.os.trans k.os,r3.tape.trans k.tape,r3.output.trans k.output,Nat.le_trans k.size r3.size,fun i hi hn=>(r3.block i (Nat.lt_of_lt_of_le hi k.size) (fun e=>?_)).trans (k.block i hi hn)⟩;have:=(hold i e.symm).1;omega
 ·rintro b o (hb|⟨hb,_⟩)
  ·exact Nat.lt_of_lt_of_le (hr.stlt b o hb) r3.size
  exact(hvlt b hb).2
 ·rintro b o (hb|⟨hb,_⟩)
  ·exact hr.stnew b o hb
  exact .inr (hvlt b hb).1
 ·rintro b hbx o (hb|⟨hb,_⟩)
  ·exact hr.bxst b hbx o hb
  rcases hvb b hb with e|e
  ·exact hr.tkbx g _ _ hn1 b e hbx
  have:=hr.boxlt hbx;omega
 ·intro i b row hi hrow;obtain⟨us,T'',h1,h2,h3⟩:=hr.box i b row hi hrow;have hmem:b∈G.bx:=Aj hi;exact⟨us,T'',(r3.block b (hr.boxlt hmem) (fun e=>hr.tkbx g _ _ hn1 b e.symm hmem)).trans h1,Fs hext _ _ h2,h3⟩
 ·intro g' n' u' T'' sz' rows' hg' ht';by_cases hgg:g=g'
  ·subst hgg;simp only at hg' ht';rw[List.getElem?_set_self hgl]at hg';rw[List.getElem?_set_self (by rw[<-hr.tklen];exact hgl)]at ht';injection hg' with hg';injection hg' with a1 a2;injection ht' with ht';injection ht' with b1 b2;injection b2 with b2 b3;subst a1;subst a2;subst b1;subst b2;subst b3;refine⟨by simp,⟨_,r2⟩,fun b hb o ho=>?_⟩;rintro(hs'|⟨_,hs'⟩)
   ·rcases hvb b hb with e|e
    ·have hlt:o<rows.length * sz:=Nat.lt_of_not_le fun hle=>tsp b e o hle hs';have:rows.length * sz<=(rows.length+new.length) * sz:=Nat.mul_le_mul_right sz (by omega);omega
    have:=hr.stlt b o hs';omega
   omega
  simp only at hg' ht';rw[List.getElem?_set_ne hgg]at hg' ht';obtain⟨h1,⟨xs',h2⟩,h3⟩:=hr.tok g' n' u' T'' sz' rows' hg' ht'
  have hne:u'.ownBlock=none\/u'.ownBlock≠s.ownBlock:=by
   cases hu':u'.ownBlock with
   |none=>exact .inl rfl
   |some b=>exact .inr fun e=>hr.tknd g g' _ _ _ _ hn1 hg' hgg b e.symm hu'
  refine⟨h1,⟨xs',World.ownsRow.kept h2 r3 hne⟩,fun b hb o ho=>?_⟩;rintro(hs'|⟨hs',_⟩)
  ·exact h3 b hb o ho hs'
  rcases hvb b hs' with e|e
  ·exact hr.tknd g g' _ _ _ _ hn1 hg' hgg b e hb
  have:=(hr.toklt hg' hb).2;omega
 ·intro g' n' u' hg' b hb hbx;by_cases hgg:g=g'
  ·subst hgg;simp only at hg';rw[List.getElem?_set_self hgl]at hg';injection hg' with hg';injection hg' with a1 a2;subst a2;rcases hvb b hb with e|e
   ·exact hr.tkbx g _ _ hn1 b e hbx
   have:=hr.boxlt hbx;omega
  simp only at hg';rw[List.getElem?_set_ne hgg]at hg';exact hr.tkbx g' n' u' hg' b hb hbx
 ·intro g1 g2 n1 n2 u1 u2 hg1 hg2 hne b hb ke;simp only at hg1 hg2;by_cases h1:g=g1
  ·subst h1;rw[List.getElem?_set_self hgl]at hg1;injection hg1 with hg1;injection hg1 with a1 a2;subst a2;rw[List.getElem?_set_ne hne]at hg2;rcases hvb b hb with e|e
   ·exact hr.tknd g g2 _ _ _ _ hn1 hg2 hne b e ke
   have:=(hr.toklt hg2 ke).2;omega
  rw[List.getElem?_set_ne h1]at hg1;by_cases h2:g=g2
  ·subst h2;rw[List.getElem?_set_self hgl]at hg2;injection hg2 with hg2;injection hg2 with a1 a2;subst a2;rcases hvb b ke with e|e
   ·exact hr.tknd g1 g _ _ _ _ hg1 hn1 hne b hb e
   have:=(hr.toklt hg1 hb).2;omega
  rw[List.getElem?_set_ne h2]at hg2;exact hr.tknd g1 g2 _ _ _ _ hg1 hg2 hne b hb ke
 simp only[rep];refine⟨?_,_,_,List.getElem?_set_self hgl,by simp,fun _=>rfl⟩;simp only[Ai];refine⟨trivial,?_⟩;have hflat:=(hxs.append e4).mono hst;rcases r2.2 with⟨c1,c2⟩|⟨gb,cp,cur,c1,c2,c3,c4,c5,c6,c7⟩
 ·have hz0:(rows++new).length=0:=by rw[List.length_append];exact c2
  exact⟨none,0,by rw[c1,hz0],by rw[hz0];exact As _,by simp, .inl (ER hz0)⟩
 refine⟨_,cp,by rw[c1];simp,by simpa using c4,c5, .inr ⟨gb,0,rfl,hflat.froR fun j u hj=>?_⟩⟩;rw[Nat.zero_add]
 have hlt:j<(rows.length+new.length) * sz:=by
  have:=(AZ.1 hj).1
  rwa [r2.1]at this
 have hob:v'.ownBlock=some gb:=by rw[c1];simp[Value.ownBlock]
 exact⟨.inr ⟨hob,hlt⟩,hcells gb j u hob hj⟩
end
section
variable {P:Program}{ev:Operand->Option AV}{h:AH}{R:AV->AH->Prop}{d:Option Tmp}{ty:TypeId}{pos:String}{af:Array Edge}{gd:Option (Nat×Bool)}
theorem f8{T:TypeId}{s y:Operand}{T' sz bytes g:Nat}{rows new:List (List AV)}{tok:Option Nat}{tk':List (Nat×Nat×List (List AV))}[hE:Elm P T T' sz bytes](hs:ev s=some (.sl sz rows (some g)))(hy:ev y=some (.sl sz new tok))(hg:h.tk[g]?=some (T',sz,rows))
    (hsm:rows.length+new.length<=1000000) (hset:SetAt h.tk g [(T',sz,rows++new)] tk') (hR:R (.sl sz (rows++new) (some g)) ⟨h.bx,tk'⟩):AStep P ⟨d, .call {callee:= .builtin .append,args:=#[s,y],argTypes:=#[T,T]},ty,pos,af,gd⟩ ev h R:=by
 intro E G w ec hr he;have k1:=he s (by simp[Op.operands,Call.operands]) _ hs;have k2:=JT _ _ (he y (by simp[Op.operands,Call.operands]) _ hy);simp only[DW]at k2;obtain⟨v',w',G',m1,m2,m3,m4⟩:=Wf hr hE.eq hE.few hg k1 k2 hsm ty;obtain⟨_,e⟩:=SetAt.one hset;subst e;simp only[execOp,resolve,invoke,builtin,Sem.run_bind,Sem.run_pure,Result.andThen_ok,List.map_toArray,List.map_cons,List.map_nil,m1];exact⟨_,_,G',hR,m2,m3,m4⟩
theorem TH{E:Env}{G:Gh}{w:World}(hr:HRel E G h w)(T sz:Nat):HRel E ⟨G.St,G.bx,G.tk++[(0, .slice none 0 0)]⟩ ⟨h.bx,h.tk++[(T,sz,[])]⟩ w/\Ext G w ⟨G.St,G.bx,G.tk++[(0, .slice none 0 0)]⟩ w/\
    rep ⟨G.St,G.bx,G.tk++[(0, .slice none 0 0)]⟩ w (.sl sz [] (some h.tk.length)) (.slice none 0 0):=by
 obtain⟨k1,k2⟩:=hr.addTok (T:=T) (sz:=sz) (n:=0) (u:= .slice none 0 0) (rows:=[]) ⟨rfl,⟨[],World.ownsRow_nil w _ T sz⟩,fun b hb=>by simp[Value.ownBlock]at hb⟩ (fun b hb=>by simp[Value.ownBlock]at hb) (fun _ _ _ _ b hb=>by simp[Value.ownBlock]at hb);refine⟨k1,k2,?_⟩;simp only[rep,Ai];exact⟨⟨trivial,none,0,rfl,As _,BG _, .inl trivial⟩,0, .slice none 0 0,by rw[<-hr.tklen];simp,As _,fun _=>rfl⟩
theorem f9{T:TypeId}{s y:Operand}{T' sz bytes n:Nat}{new:List (List AV)}{tok:Option Nat}{tk':List (Nat×Nat×List (List AV))}[hE:Elm P T T' sz bytes](hs:ev s=some (.v (.slice none 0 0)))(hy:ev y=some (.sl sz new tok))
    (hsm:new.length<=1000000) (hset:SnocAt h.tk (T',sz,new) n tk') (hR:R (.sl sz new (some n)) ⟨h.bx,tk'⟩):AStep P ⟨d, .call {callee:= .builtin .append,args:=#[s,y],argTypes:=#[T,T]},ty,pos,af,gd⟩ ev h R:=by
 intro E G w ec hr he;have k1:=he s (by simp[Op.operands,Call.operands]) _ hs;have k2:=JT _ _ (he y (by simp[Op.operands,Call.operands]) _ hy);simp only[DW]at k2;simp only[rep]at k1;obtain⟨q1,q2,q3⟩:=TH hr T' sz;obtain⟨v',w',G',m1,m2,m3,m4⟩:=Wf (y:=ec y) q1 hE.eq hE.few (g:=h.tk.length) (rows:=[]) (new:=new) (by simp) q3 k2 (by simpa using hsm) ty;obtain⟨e1,e2⟩:=hset.eq;subst e1;subst e2;simp only[execOp,resolve,invoke,builtin,Sem.run_bind,Sem.run_pure,Result.andThen_ok,List.map_toArray,List.map_cons,List.map_nil,k1,m1];refine⟨_,_,G',hR,?_,q2.trans m3,?_⟩
 ·simpa using m2
 simpa using m4
theorem fA{T:TypeId}{len E sz bytes n:Nat}{l:List (Nat×Operand)}{rows:List (List AV)}{tk':List (Nat×Nat×List (List AV))}[hE:Elm P T E sz bytes](hd:DenseA sz ev 0 l rows)(hl:Nat.beq l.length len=true)(hsm:Nat.ble len 1000=true)(hpos:Nat.blt 0 len=true)(hsz:Nat.ble sz 100=true)
    (hset:SnocAt h.tk (E,sz,rows) n tk') (hR:R (.sl sz rows (some n)) ⟨h.bx,tk'⟩):AStep P ⟨d, .buildSlice T len l.toArray,ty,pos,af,gd⟩ ev h R:=by
 intro E' G w ec hr he;obtain⟨us,m2,hrl,hsm',hrun⟩:=We hE.eq hd hl hsm hpos hsz hr he;have hml:len<=maxLen:=by unfold maxLen;omega
 obtain⟨G',q1,q2,q3,q4,q5,q6⟩:=Wd (T:=E) hr m2 (by rw[hrl];exact hml);obtain⟨e1,e2⟩:=hset.eq;subst e1;subst e2
 have hown:(w.alloc (.cells us.toArray E)).ownsRow E'.w0.heap.size E sz (.slice (some ⟨w.heap.size,0,none⟩) len len) len us:=by
  have hul:us.length=len * sz:=by rw[m2.1,hrl]
  refine⟨hul, .inr ⟨w.heap.size,len,us.toArray,rfl,hr.kept.size,PS _ _,As _,hml,by simp[hul],?_⟩⟩;simp[<-hul]
 obtain⟨r1,r2⟩:=q1.addTok (T:=E) (sz:=sz) (n:=len) (u:= .slice (some ⟨w.heap.size,0,none⟩) len len) (rows:=rows) ⟨hrl.symm,⟨us,hown⟩,fun b hb o ho=>by
     simp[Value.ownBlock]at hb;subst hb;intro hs;have:=q4 o hs;rw[m2.1,hrl]at this
     omega⟩ (fun b hb=>by
     simp[Value.ownBlock]at hb;subst hb;rw[q5]
     exact fun hm=>by have:=hr.boxlt hm;omega) (fun g n' u' hg b hb=>by
     simp[Value.ownBlock]at hb;subst hb;rw[q6]at hg
     exact fun e=>by have:=(hr.toklt hg e).2;omega)
 simp only[execOp,Sem.run_bind,hrun,Result.andThen_ok,Sem.run_pure];refine⟨_,_,_,hR,r1,q2.trans r2,?_⟩;simp only[rep];rw[hrl]at q3;refine⟨JS r2.st _ _ q3,len,_,?_,by rw[hrl];exact As _,fun _=>rfl⟩;have:=q1.tklen;rw[<-this];simp
theorem fB{T:TypeId}{x y:Operand}{E sz bytes n:Nat}{c:Int}{tk':List (Nat×Nat×List (List AV))}[hE:Elm P T E sz bytes](hx:ev x=some (.v (.int .i64 0)))(hy:ev y=some (.v (.int .i64 c)))(hc:0<=c/\c<=1000000)
    (hset:SnocAt h.tk (E,sz,[]) n tk') (hR:R (.sl sz [] (some n)) ⟨h.bx,tk'⟩):AStep P ⟨d, .makeSlice T x y,ty,pos,af,gd⟩ ev h R:=by
 intro E' G w ec hr he;have k1:=he x (by simp[Op.operands]) _ hx;have k2:=he y (by simp[Op.operands]) _ hy;simp only[rep]at k1 k2;obtain⟨hu,inf,z,hinf,hz,hzs,hs,hby,hp⟩:=Gl hE.eq;obtain⟨m,rfl⟩:=Int.eq_ofNat_of_zero_le hc.1;have hm:m<=1000000:=by omega
 have hw:IntKind.i64.wrap (m:Int)=m:=IntWalk.i64_in _ (by omega);have hw0:IntKind.i64.wrap 0=0:=by decide
 have hbig:¬(inf.bytes:Int) * (m:Int)>2 ^ 48:=by
  have h1:inf.bytes * m<=100000 * 1000000:=Nat.mul_le_mul (by rw[hby];exact hE.few) hm;have h2:((inf.bytes * m:Nat):Int)<=100000000000:=by omega
  rw[Int.natCast_mul]at h2;omega
 have hneg:¬((m:Int)<0):=by omega
 have hrun:∃cells:Array Value,cells.size=m * sz/\(Instr.makeSlice T (.int .i64 0) (.int .i64 m)).run P w= .ok (.slice (some ⟨w.heap.size,0,none⟩) 0 m) (w.alloc (.cells cells E)):=by
  refine⟨(Array.range (m * sz)).map ((if m * sz=0 then #[]else z.cells)[· % (if m * sz=0 then #[]else z.cells:Array Value).size]!),by simp,?_⟩;by_cases h0:m * sz=0
  ·simp[Instr.makeSlice,run_underlying hu,asInt,asIntOf,typeInfo,hinf,hw,hw0,hneg,sizeOf,hs,h0,newRow];exact fun hh=>absurd hh hbig
  simp[Instr.makeSlice,run_underlying hu,asInt,asIntOf,typeInfo,hinf,hw,hw0,hneg,sizeOf,hs,h0,newRow,zeroValue,hz];exact fun hh=>absurd hh hbig
 obtain⟨cells,c1,c2⟩:=hrun;obtain⟨q1,q2⟩:=hr.below (w':=w.alloc (.cells cells E)) ((Below.refl _ _).alloc (As _) _);obtain⟨e1,e2⟩:=hset.eq;subst e1;subst e2
 have hown:(w.alloc (.cells cells E)).ownsRow E'.w0.heap.size E sz (.slice (some ⟨w.heap.size,0,none⟩) 0 m) 0 []:=
  ⟨by simp, .inr ⟨w.heap.size,m,cells,rfl,hr.kept.size,PS _ _,BG _,by unfold maxLen;omega,c1,by simp⟩⟩
 obtain⟨r1,r2⟩:=q1.addTok (T:=E) (sz:=sz) (n:=0) (u:= .slice (some ⟨w.heap.size,0,none⟩) 0 m) (rows:=[]) ⟨rfl,⟨[],hown⟩,fun b hb o ho=>by
     simp[Value.ownBlock]at hb;subst hb;intro hs;have:=hr.stlt _ _ hs
     omega⟩ (fun b hb=>by
     simp[Value.ownBlock]at hb;subst hb
     exact fun hm=>by have:=hr.boxlt hm;omega) (fun g n' u' hg b hb=>by
     simp[Value.ownBlock]at hb;subst hb
     exact fun e=>by have:=(hr.toklt hg e).2;omega)
 simp only[execOp,k1,k2,Sem.run_bind,c2,Result.andThen_ok,Sem.run_pure];refine⟨_,_,_,hR,r1,q2.trans r2,?_⟩;simp only[rep,Ai];refine⟨⟨trivial,_,m,rfl,BG _,by unfold maxLen;omega, .inl trivial⟩,0,_,?_,As _,fun _=>rfl⟩;rw[<-hr.tklen];simp
theorem Wg{St:Nat->Nat->Prop}{w:World}{sz:Nat}{rows:List (List AV)}{y:Value}(hy:Ai St w (.sl sz rows none) y){l k:Nat}(hk:k<=rows.length)(hl:l<=k):
    ∃A cap,y= .slice A rows.length cap/\rows.length<=cap/\Ai St w (.sl sz ((rows.take k).drop l) none) (.slice (if cap=l then A else A.map (·.add (l * sz))) (k - l) (cap - l)):=by
 simp only[Ai]at hy;obtain⟨_,A,cap,h1,h2,h3,h4⟩:=hy;refine⟨A,cap,h1,h2,?_⟩;simp only[Ai];have hlen:((rows.take k).drop l).length=k - l:=by simp;omega
 refine⟨trivial,_,_,by rw[hlen],by rw[hlen];omega,by omega,?_⟩;by_cases h0:(rows.take k).drop l=[]
 ·exact .inl h0
 have hlk:l<k:=by
  rcases Nat.lt_or_ge l k with h'|h'
  ·exact h'
  exact absurd (ER (by rw[hlen];omega)) h0
 rcases h4 with h4|⟨b,off,h5,h6⟩
 ·subst h4;simp at h0
 refine .inr ⟨b,off+l * sz,?_,PN fun i r hi=>?_⟩
 ·rw[if_neg (by omega),h5,Option.map_some,Addr.add_mid]
 rw[List.getElem?_drop,List.getElem?_take]at hi;split at hi
 ·obtain⟨a1,a2⟩:=NV h6 hi;rw[Nat.add_mul,<-Nat.add_assoc]at a2;exact⟨a1,a2⟩
 cases hi
theorem TJ{T:TypeId}{x hi:Operand}{E sz bytes k:Nat}{i:Int}{rows:List (List AV)}{tok:Option Nat}[hE:Elm P T E sz bytes](hx:ev x=some (.sl sz rows tok))(hh:ev hi=some (.v (.int .i64 i)))(hi':i=(k:Int))(hk:k<=rows.length)(hR:R (.sl sz (rows.take k) none) h):
    AStep P ⟨d, .slice T x none (some hi) none,ty,pos,af,gd⟩ ev h R:=by
 refine De (fun _ G w ec _ he=>?_) hR;have k1:=JT _ _ (he x (by simp[Op.operands]) _ hx);have k2:=he hi (by simp[Op.operands]) _ hh;simp only[DW]at k1;simp only[rep]at k2;obtain⟨hu,inf,z,hinf,hz,hzs,hs,hby,hp⟩:=Gl hE.eq;obtain⟨A,cap,e1,e2,e3⟩:=Wg k1 (l:=0) hk (BG _);subst hi';have hle:k<=cap:=by omega
 refine⟨_,?_,by simp only[rep];simpa using e3⟩;simp[execOp,e1,k2,Instr.sliceAt,Instr.slice,Instr.sliceBounds,Instr.sliceBound,asIntOf,run_underlying hu,sizeOf,typeInfo,hinf,hs,hle]
theorem TK{T:TypeId}{x lo:Operand}{E sz bytes l:Nat}{i:Int}{rows:List (List AV)}{tok:Option Nat}[hE:Elm P T E sz bytes](hx:ev x=some (.sl sz rows tok))(hh:ev lo=some (.v (.int .i64 i)))(hi':i=(l:Int))(hk:l<=rows.length)(hR:R (.sl sz (rows.drop l) none) h):
    AStep P ⟨d, .slice T x (some lo) none none,ty,pos,af,gd⟩ ev h R:=by
 refine De (fun _ G w ec _ he=>?_) hR;have k1:=JT _ _ (he x (by simp[Op.operands]) _ hx);have k2:=he lo (by simp[Op.operands]) _ hh;simp only[DW]at k1;simp only[rep]at k2;obtain⟨hu,inf,z,hinf,hz,hzs,hs,hby,hp⟩:=Gl hE.eq;obtain⟨A,cap,e1,e2,e3⟩:=Wg k1 (k:=rows.length) (As _) hk;subst hi';refine⟨_,?_,by simp only[rep];rw[List.take_length]at e3;exact e3⟩;simp[execOp,e1,k2,Instr.sliceAt,Instr.slice,Instr.sliceBounds,Instr.sliceBound,asIntOf,run_underlying hu,sizeOf,typeInfo,hinf,hs,hk]
end
mutual
def Aa(n m:Nat):AV->Bool
 | .v _=>true
 | .agg cs=>Af n m cs
 | .tup cs=>Af n m cs
 | .sl _ _ none=>true
 | .sl _ _ (some g)=>Nat.blt g m
 | .fp _=>true
 | .bp i _=>Nat.blt i n
 | .bs i _ _ _ _=>Nat.blt i n
 | .fn _ caps=>Af n m caps
 | .any=>true
def Af(n m:Nat):List AV->Bool
 |[]=>true
 |x::xs=>Aa n m x&&Af n m xs
end
mutual
theorem OQ{G:Gh}{w:World}(n m:Nat):∀(x:AV) (y:Value),Aa n m x=true->rep G w x y->rep ⟨G.St,G.bx.take n,G.tk.take m⟩ w x y
 | .v _,_,_,h=>by simpa only[rep]using h
 | .agg cs,_,hb,h=>by
   simp only[Aa]at hb;simp only[rep]at h ⊢;obtain⟨ys,h1,h2⟩:=h;exact⟨ys,h1,Mu n m cs ys hb h2⟩
 | .tup cs,_,hb,h=>by
   simp only[Aa]at hb;simp only[rep]at h ⊢;obtain⟨ys,h1,h2⟩:=h;exact⟨ys,h1,Mu n m cs ys hb h2⟩
 | .sl sz rows none,_,_,h=>by simpa only[rep]using h
 | .sl sz rows (some g),_,hb,h=>by
   simp only[Aa]at hb;simp only[rep]at h ⊢;obtain⟨h0,n',u,h1,h2⟩:=h;refine⟨h0,n',u,?_,h2⟩;rw[List.getElem?_take,if_pos (show g<m from Bl hb)];exact h1
 | .fp _,_,_,h=>by simpa only[rep]using h
 | .bs i off _ _ _,_,hb,h=>by
   simp only[Aa]at hb;simp only[rep]at h ⊢;obtain⟨b,h1,h2⟩:=h;refine⟨b,?_,h2⟩;rw[List.getElem?_take,if_pos (show i<n from Bl hb)];exact h1
 | .bp i off,_,hb,h=>by
   simp only[Aa]at hb;simp only[rep]at h ⊢;obtain⟨b,h1,h2⟩:=h;refine⟨b,?_,h2⟩;rw[List.getElem?_take,if_pos (show i<n from Bl hb)];exact h1
 | .fn _ caps,_,hb,h=>by
   simp only[Aa]at hb;simp only[rep]at h ⊢;obtain⟨ys,h1,h2⟩:=h;exact⟨ys,h1,Mu n m caps ys hb h2⟩
 | .any,_,_,_=>by simp only[rep]
theorem Mu{G:Gh}{w:World}(n m:Nat):∀(xs:List AV) (ys:List Value),Af n m xs=true->AN G w xs ys->AN ⟨G.St,G.bx.take n,G.tk.take m⟩ w xs ys
 |[],_,_,h=>by simpa only[AN]using h
 |x::xs,_,hb,h=>by
   simp only[Af,Bool.and_eq_true]at hb;simp only[AN]at h ⊢;obtain⟨z,zs,h1,h2,h3⟩:=h;exact⟨z,zs,h1,OQ n m x z hb.1 h2,Mu n m xs zs hb.2 h3⟩
end
def Am(n m:Nat):List (List AV)->Bool
 |[]=>true
 |x::xs=>Af n m x&&Am n m xs
theorem TL{n m:Nat}:∀{l:List (List AV)},Am n m l=true->∀{i:Nat} {row:List AV},l[i]?=some row->Af n m row=true
 |[],_,i,row,hi=>by simp at hi
 |x::l,h,i,row,hi=>by
   simp only[Am,Bool.and_eq_true]at h
   cases i with
   |zero=>simp at hi;subst hi;exact h.1
   |succ i=>exact TL h.2 (by simpa using hi)
theorem HRel.trunc{E:Env}{G:Gh}{h:AH}{w:World}(hr:HRel E G h w)(n m:Nat)(hn:E.ins.length<=n)(hb:Am n m (h.bx.take n)=true):HRel E ⟨G.St,G.bx.take n,G.tk.take m⟩ ⟨h.bx.take n,h.tk.take m⟩ w:=by
 have tkget:∀(g n':Nat) (u:Value),(G.tk.take m)[g]?=some (n',u)->G.tk[g]?=some (n',u):=fun g n' u hg=>by
  rw[List.getElem?_take]at hg;split at hg
  ·exact hg
  cases hg
 refine⟨fun i b hi=>by rw[List.getElem?_take,if_pos (Nat.lt_of_lt_of_le (AZ.1 hi).1 hn)];exact hr.inpre i b hi,hr.kept,hr.stlt,hr.stnew,by simp[hr.bxlen],List.Nodup.sublist (List.take_sublist n G.bx) hr.bxnd,fun b hb=>hr.bxst b (List.mem_of_mem_take hb),fun b hb=>hr.bxown b (List.mem_of_mem_take hb),?_,by simp[hr.tklen],?_,?_,?_⟩
 ·intro i b row hi hrow;simp only at hi hrow;have hbp:=TL hb hrow;rw[List.getElem?_take]at hi hrow;split at hi
  ·rename_i hlt;rw[if_pos hlt]at hrow;obtain⟨us,T,h1,h2,h3⟩:=hr.box i b row hi hrow;exact⟨us,T,h1,Mu n m row us hbp h2,h3⟩
  cases hi
 ·intro g n' u T sz rows hg ht;refine hr.tok g n' u T sz rows (tkget g n' u hg) ?_;simp only at ht;rw[List.getElem?_take]at ht;split at ht
  ·exact ht
  cases ht
 ·exact fun g n' u hg b hb hm=>hr.tkbx g n' u (tkget g n' u hg) b hb (List.mem_of_mem_take hm)
 exact fun g g' n1 n2 u1 u2 hg hg' hne=>hr.tknd g g' n1 n2 u1 u2 (tkget _ _ _ hg) (tkget _ _ _ hg') hne
def Weak(N:Dim)(s s':AS):Prop:=∀(E:Env) (a:Act) (w:World),Rel N E s a w->Rel N E s' a w
inductive Sub(n m:Nat)(f:Nat->Option AV):List (Nat×AV)->Prop
 |nil:Sub n m f []
 |cons (t:Nat) (x:AV) (l:List (Nat×AV)):f t=some x->Aa n m x=true->Sub n m f l->Sub n m f ((t,x)::l)
 |any (t:Nat) (l:List (Nat×AV)):Sub n m f l->Sub n m f ((t, .any)::l)
 |sl (t:Nat) (sz:Nat) (rows:List (List AV)) (g:Nat) (l:List (Nat×AV)):f t=some (.sl sz rows (some g))->Sub n m f l->Sub n m f ((t, .sl sz rows none)::l)
 |slnil (t:Nat) (sz:Nat) (l:List (Nat×AV)):f t=some (.v (.slice none 0 0))->Sub n m f l->Sub n m f ((t, .sl sz [] none)::l)
 |of (t:Nat) (y x:AV) (l:List (Nat×AV)):f t=some y->(∀(G:Gh) (w:World) (v:Value),rep G w y v->rep G w x v)->Aa n m x=true->Sub n m f l->Sub n m f ((t,x)::l)
theorem Sub.look{n m:Nat}{f:Nat->Option AV}{l:List (Nat×AV)}(h:Sub n m f l){t:Nat}{x:AV}(ht:Go.Proofs.YtbgnigjfkbmceaaGreatDoor.look l t=some x){G:Gh}{w:World}{a:Act}(hs:SlotsR G w f a):rep ⟨G.St,G.bx.take n,G.tk.take m⟩ w x (a.tmps.getD t undef):=by
 induction h with
 |nil=>cases ht
 |cons t' x' l h1 h2 _ ih=>
   rw[<-Mq,Kt]at ht;split at ht
   ·rename_i e;subst e;injection ht with ht;subst ht
    exact OQ n m _ _ h2 (hs _ _ h1)
   exact ih ht
 |any t' l _ ih=>
   rw[<-Mq,Kt]at ht;split at ht
   ·injection ht with ht;subst ht;simp only[rep]
   exact ih ht
 |sl t' sz rows g l h1 _ ih=>
   rw[<-Mq,Kt]at ht;split at ht
   ·rename_i e;subst e;injection ht with ht;subst ht
    have:=hs _ _ h1;simp only[rep]at this ⊢;exact this.1
   exact ih ht
 |slnil t' sz l h1 _ ih=>
   rw[<-Mq,Kt]at ht;split at ht
   ·rename_i e;subst e;injection ht with ht;subst ht
    have:=hs _ _ h1;simp only[rep]at this ⊢;rw[this];simp only[Ai];exact⟨trivial,none,0,rfl,As _,BG _, .inl trivial⟩
   exact ih ht
 |of t' y x' l h1 h2 h3 _ ih=>
   rw[<-Mq,Kt]at ht;split at ht
   ·rename_i e;subst e;injection ht with ht;subst ht
    exact OQ n m _ _ h3 (h2 _ _ _ (hs _ _ h1))
   exact ih ht
theorem At{f:Nat->Option AV}{bx:List (List AV)}{tk:List (Nat×Nat×List (List AV))}{l:List (Nat×AV)}{N:Dim}(n m:Nat){bx':List (List AV)}{tk':List (Nat×Nat×List (List AV))}(hn:Nat.ble N.ni n=true)(hb:bx.take n=bx')(ht:tk.take m=tk')(hbp:Am n m bx'=true)(hl:Sub n m f l):Weak N ⟨f,⟨bx,tk⟩⟩ ⟨look l,⟨bx',tk'⟩⟩:=by
 rintro E a w ⟨G,h1,h2,h3,h4,h5⟩;subst hb;subst ht;exact⟨_,h1.trunc n m (by rw[h5];exact Bl hn) hbp,fun t x hx=>hl.look hx h2,h3,h4,h5⟩
theorem Weak.trans{N:Dim}{s s' s'':AS}(h:Weak N s s')(k:Weak N s' s''):Weak N s s'':=fun E a w r=>k E a w (h E a w r)
section
variable {P:Program}{N:Dim}{Q:Exit->AS->Prop}{s:AS}
theorem fC{c:Code}{s':AS}(hw:Weak N s s')(h:By P N c Q s'):By P N c Q s:=fun E a w hr=>h E a w (hw E a w hr)
theorem BL{c:Code}(I:Nat->AS->Prop)(n:Nat){s0:AS}(hw:Weak N s s0)(h0:I n s0)(round:∀n s,I n s->By P N c (KM (fun s'=>∃m s'',m<n/\I m s''/\Weak N s' s'') Q) s):By P N (.loop c) Q s:=by
 refine eK (fun n s=>∃s',I n s'/\Weak N s s') n ⟨s0,h0,hw⟩ ?_;rintro n s ⟨s',h1,h2⟩;refine fC h2 ?_;intro E a w hr;refine wp_mono (round n s' h1 E a w hr) ?_;rintro e a' w' ⟨s1,hq,hr'⟩;refine⟨s1,?_,hr'⟩
 cases e with
 |normal=>obtain⟨m,s'',q1,q2,q3⟩:=hq;exact⟨m,q1,s'',q2,q3⟩
 |exit id=>exact hq
 |goto l=>exact hq
 |ret=>exact hq
 |panic c=>exact hq
 |outgrown=>exact hq
theorem JW{x y:Code}(S0:AS)(h1:By P N x (KM (fun s'=>Weak N s' S0) Q) s)(h2:By P N y Q S0):By P N (.seq x y) Q s:=by
 intro E a w hr;refine wp_seq (wp_mono (h1 E a w hr) ?_);rintro e a' w' ⟨s',hq,hr'⟩
 cases e with
 |normal=>exact h2 E a' w' (hq E a' w' hr')
 |exit id=>exact⟨s',hq,hr'⟩
 |goto l=>exact⟨s',hq,hr'⟩
 |ret=>exact⟨s',hq,hr'⟩
 |panic c=>exact⟨s',hq,hr'⟩
 |outgrown=>exact⟨s',hq,hr'⟩
theorem NZ{c:Code}{f:Nat->Option AV}{bx:List (List AV)}{tk tk':List (Nat×Nat×List (List AV))}(t T sz:Nat){g:Nat}(ht:f t=some (.v (.slice none 0 0)))(hs:SnocAt tk (T,sz,[]) g tk')(h:By P N c Q ⟨put (some t) (.sl sz [] (some g)) f,⟨bx,tk'⟩⟩):By P N c Q ⟨f,⟨bx,tk⟩⟩:=by
 rintro E a w ⟨G,h1,h2,h3⟩;obtain⟨e1,e2⟩:=hs.eq;subst e1;subst e2;obtain⟨k1,k2,k3⟩:=TH h1 T sz;refine h E a w ⟨_,k1,fun t' x hx=>?_,h3⟩;simp only at hx;rw[Kt]at hx;split at hx
 ·rename_i e;subst e;injection hx with hx;subst hx;have:=h2 _ _ ht;simp only[rep]at this;rw[this];exact k3
 exact MH k2 _ _ (h2 t' x hx)
end
section
section
variable {n m:Nat}{f:Nat->Option AV}{t:Nat}{x:AV}{l:List (Nat×AV)}{sz:Nat}{rows:List (List AV)}{g:Nat}
theorem Aw(h1:f t=some x)(h2:Aa n m x=true)(h:Sub n m f l):Sub n m f ((t,x)::l):= .cons _ _ _ h1 h2 h
theorem B3(h:Sub n m f l):Sub n m f ((t, .any)::l):= .any _ _ h
theorem B4(h1:f t=some (.sl sz rows (some g)))(h:Sub n m f l):Sub n m f ((t, .sl sz rows none)::l):= .sl _ _ _ _ _ h1 h
theorem B5(h1:f t=some (.v (.slice none 0 0)))(h:Sub n m f l):Sub n m f ((t, .sl sz [] none)::l):= .slnil _ _ _ h1 h
end
abbrev Cj:=Nat×Nat×List (List AV)
def ACall(P:Program)(f:FuncId)(xs:List AV)(bx:List (List AV))(R:AV->List (List AV)->List Cj->Prop):Prop:=
 ∀(w:World) (St:Nat->Nat->Prop) (bl:List Nat) (vs:List Value),HRel ⟨w,bl,St⟩ ⟨St,bl,[]⟩ ⟨bx,[]⟩ w->AN ⟨St,bl,[]⟩ w xs vs->Calls P f vs.toArray w fun e w'=>match e with
  | .returned v=>∃r bx' tk' G',R r bx' tk'/\HRel ⟨w,bl,St⟩ G' ⟨bx',tk'⟩ w'/\Ext ⟨St,bl,[]⟩ w G' w'/\rep G' w' r v
  |_=>False
theorem ACall.mono{P:Program}{f:FuncId}{xs:List AV}{bx:List (List AV)}{R R':AV->List (List AV)->List Cj->Prop}(h:ACall P f xs bx R)(hR:∀r b t,R r b t->R' r b t):ACall P f xs bx R':=by
 intro w St bl vs h1 h2;refine Calls.mono (h w St bl vs h1 h2) ?_;intro e w' h3
 cases e with
 |returned v=>obtain⟨r,b,t,G',k1,k2⟩:=h3;exact⟨r,b,t,G',hR _ _ _ k1,k2⟩
 |panicked c=>exact h3.elim
 |outgrown=>exact h3.elim
def LeA(x y:AV):Prop:=∀(G:Gh) (w:World) (v:Value),rep G w x v->rep G w y v
def LeL(xs ys:List AV):Prop:=∀(G:Gh) (w:World) (vs:List Value),AN G w xs vs->AN G w ys vs
theorem LeA.refl(x:AV):LeA x x:=fun _ _ _ h=>h
theorem A6 (x:AV):LeA x x:=LeA.refl x
theorem LeA.of_eq{x y:AV}(h:x=y):LeA x y:=h ▸ A6 x
theorem LeA.any(x:AV):LeA x .any:=fun _ _ _ _=>by simp only[rep]
theorem LeA.nil(sz:Nat):LeA (.v (.slice none 0 0)) (.sl sz [] none):=fun G w v h=>by
 simp only[rep]at h ⊢;rw[h];simp only[Ai];exact⟨trivial,none,0,rfl,As _,BG _, .inl trivial⟩
theorem LeL.nil:LeL [] []:=fun _ _ _ h=>h
theorem LeL.cons{x y:AV}{xs ys:List AV}(h:LeA x y)(k:LeL xs ys):LeL (x::xs) (y::ys):=fun G w vs hv=>by
 simp only[AN]at hv ⊢;obtain⟨z,zs,h1,h2,h3⟩:=hv;exact⟨z,zs,h1,h G w z h2,k G w zs h3⟩
theorem LeL.refl(xs:List AV):LeL xs xs:=fun _ _ _ h=>h
theorem LeA.agg{xs ys:List AV}(h:LeL xs ys):LeA (.agg xs) (.agg ys):=fun G w v hv=>by
 simp only[rep]at hv ⊢;obtain⟨zs,h1,h2⟩:=hv;exact⟨zs,h1,h G w zs h2⟩
theorem LeA.tup{xs ys:List AV}(h:LeL xs ys):LeA (.tup xs) (.tup ys):=fun G w v hv=>by
 simp only[rep]at hv ⊢;obtain⟨zs,h1,h2⟩:=hv;exact⟨zs,h1,h G w zs h2⟩
inductive ResA(P:Program)(s:AS):List ResultVar->List AV->Prop
 |nil:ResA P s [] []
 |tmp (t:Tmp) (x:AV) (rs:List ResultVar) (xs:List AV):s.sl t=some x->ResA P s rs xs->ResA P s (.tmp t::rs) (x::xs)
 |cellN (a:Tmp) (T:TypeId) (i sz:Nat) (row:List AV) (rs:List ResultVar) (xs:List AV):Typ P T sz true->s.sl a=some (.bp i 0)->s.h.bx[i]?=some row->Nat.beq row.length sz=true->ResA P s rs xs->ResA P s (.cell a T::rs) (.agg row::xs)
 |cell1 (a:Tmp) (T:TypeId) (i sz:Nat) (row:List AV) (x:AV) (rs:List ResultVar) (xs:List AV):Typ P T sz false->s.sl a=some (.bp i 0)->s.h.bx[i]?=some row->row[0]?=some x->ResA P s rs xs->ResA P s (.cell a T::rs) (x::xs)
def Gm:List AV->AV
 |[x]=>x
 |xs=> .tup xs
def PW(tmps:Array Value):ResultVar->Sem Value
 | .tmp t=>pure (tmps.getD t undef)
 | .cell a t=>do loadVar t (<-asAddr (tmps.getD a undef))
theorem ResA.run{P:Program}{s:AS}{rs:List ResultVar}{xs:List AV}(h:ResA P s rs xs){E:Env}{G:Gh}{a:Act}{w:World}(hr:HRel E G s.h w)(hs:SlotsR G w s.sl a):
    ∃ys,(rs.mapM (PW a.tmps)).run P w= .ok ys w/\AN G w xs ys:=by
 induction h with
 |nil=>exact⟨[],by simp,by simp only[AN]⟩
 |tmp t x rs xs h1 _ ih=>
   obtain⟨ys,k1,k2⟩:=ih;refine⟨_::ys,?_,by simp only[AN];exact⟨_,ys,rfl,hs t x h1,k2⟩⟩;rw[List.mapM_cons];simp only[Sem.run_bind,PW,Sem.run_pure,Result.andThen_ok,k1]
 |cellN c T i sz row rs xs ht h1 h2 h3 _ ih=>
   obtain⟨ys,k1,k2⟩:=ih;have q:=hs c _ h1;simp only[rep]at q;obtain⟨b,q1,q2⟩:=q;obtain⟨us,T',m1,m2,m3⟩:=hr.boxAt q1 h2;have hl:us.length=sz:=by rw[Kr m2];exact Nat.eq_of_beq_eq_true h3
   have hload:=TA (P:=P) (T:=T) (cs:=us) (by rw[hl];exact ht.eq) (b:=b) (o:=0) (w:=w) (by have:=WS m1 0 us.length;simpa using this);simp only[Instr.loadAt,Instr.sureAddr,Sem.run_bind,Sem.run_pure,Result.andThen_ok]at hload;refine⟨.agg us.toArray::ys,?_,by simp only[AN,rep];exact⟨_,ys,rfl,⟨us,rfl,m2⟩,k2⟩⟩;rw[List.mapM_cons];simp only[Sem.run_bind,PW,q2,asAddr,Sem.run_pure,Result.andThen_ok,hload,k1]
 |cell1 c T i sz row x rs xs ht h1 h2 h3 _ ih=>
   obtain⟨ys,k1,k2⟩:=ih;have q:=hs c _ h1;simp only[rep]at q;obtain⟨b,q1,q2⟩:=q;obtain⟨us,T',m1,m2,m3⟩:=hr.boxAt q1 h2;obtain⟨u,n1,n2⟩:=PL m2 h3;have hload:=T8 (P:=P) ht.eq (b:=b) (o:=0) (w:=w) (u:=u) (by simp only[World.cell?,m1];simpa using n1);simp only[Instr.loadAt,Instr.sureAddr,Sem.run_bind,Sem.run_pure,Result.andThen_ok]at hload;refine⟨u::ys,?_,by simp only[AN];exact⟨_,ys,rfl,n2,k2⟩⟩;rw[List.mapM_cons];simp only[Sem.run_bind,PW,q2,asAddr,Sem.run_pure,Result.andThen_ok,hload,k1]
theorem fD(fn:Func)(tmps:Array Value):results fn tmps=(fn.results.mapM (PW tmps)>>=fun vs=>pure (if h:vs.size=1 then vs[0]else .tuple vs)):=by
 unfold results;refine congrArg (fun(F:ResultVar->Sem Value)=>Array.mapM (m:=Sem) F fn.results>>=fun vs=>pure (if h:vs.size=1 then vs[0]else Value.tuple vs)) (funext fun r=>?_);cases r<;>rfl
theorem ResA.results{P:Program}{fn:Func}{s:AS}{rs:List ResultVar}{xs:List AV}(hfr:fn.results=rs.toArray)(h:ResA P s rs xs){E:Env}{G:Gh}{a:Act}{w:World}(hr:HRel E G s.h w)(hs:SlotsR G w s.sl a):∃v,(results fn a.tmps).run P w= .ok v w/\rep G w (Gm xs) v:=by
 obtain⟨ys,k1,k2⟩:=h.run hr hs;have hl:=Kr k2;refine⟨if h:ys.toArray.size=1 then ys.toArray[0]else .tuple ys.toArray,?_,?_⟩
 ·rw[fD,hfr,Sem.run_bind,Array.mapM_eq_mapM_toList];simp only[Sem.run_map,k1,Result.andThen_ok,Sem.run_pure]
 match xs,ys,k2,hl with
 |[x],[y],k2,_=>
   simp only[AN]at k2;obtain⟨z,zs,e1,e2,_⟩:=k2;injection e1 with e1 _;subst e1
   simpa[Gm]using e2
 |[],[],k2,_=>simp[Gm,rep,AN]
 |x::x'::xs,y::y'::ys,k2,_=>
   simp only[List.size_toArray,List.length_cons,Gm];rw[dif_neg (by omega)];simp only[rep];exact⟨_,rfl,k2⟩
 |[x],[],_,hl=>simp at hl
 |[x],y::y'::ys,_,hl=>simp at hl
 |[],y::ys,_,hl=>simp at hl
 |x::x'::xs,[],_,hl=>simp at hl
 |x::x'::xs,[y],_,hl=>simp at hl
mutual
def Ec(g:Option Nat):AV->AV
 | .v x=> .v x
 | .agg cs=> .agg (Na g cs)
 | .tup cs=> .tup (Na g cs)
 | .sl sz rows none=> .sl sz rows none
 | .sl sz rows (some g')=>match g with
   |none=> .sl sz rows none
   |some k=>match Nat.beq k g' with
     |true=> .sl sz rows (some 0)
     |false=> .sl sz rows none
 | .fp row=> .fp row
 | .bp i o=> .bp i o
 | .bs i o sz n cap=> .bs i o sz n cap
 | .fn f caps=> .fn f (Na g caps)
 | .any=> .any
def Na(g:Option Nat):List AV->List AV
 |[]=>[]
 |x::xs=>Ec g x::Na g xs
end
section
variable {G:Gh}{w:World}{g:Option Nat}{tkl:List (Nat×Value)}(hg:∀k,g=some k->∃p,G.tk[k]?=some p/\tkl=[p])
include hg
mutual
theorem TM:∀(x:AV) (v:Value),rep G w x v->rep ⟨G.St,G.bx,tkl⟩ w (Ec g x) v
 | .v _,_,h=>by simpa only[rep,Ec]using h
 | .agg cs,_,h=>by
   simp only[rep,Ec]at h ⊢;obtain⟨ys,h1,h2⟩:=h;exact⟨ys,h1,RJ cs ys h2⟩
 | .tup cs,_,h=>by
   simp only[rep,Ec]at h ⊢;obtain⟨ys,h1,h2⟩:=h;exact⟨ys,h1,RJ cs ys h2⟩
 | .sl sz rows none,_,h=>by simpa only[rep,Ec]using h
 | .sl sz rows (some g'),v,h=>by
   simp only[rep]at h;obtain⟨h0,n,u,h1,h2⟩:=h;simp only[Ec];split
   ·simp only[rep];exact h0
   rename_i k;split
   ·rename_i hb;have e:k=g':=Nat.eq_of_beq_eq_true hb;subst e;obtain⟨p,k1,k2⟩:=hg k rfl;rw[h1]at k1;injection k1 with k1;simp only[rep];refine⟨h0,n,u,?_,h2⟩;rw[k2,<-k1];rfl
   simp only[rep];exact h0
 | .fp _,_,h=>by simpa only[rep,Ec]using h
 | .bp _ _,_,h=>by simpa only[rep,Ec]using h
 | .bs _ _ _ _ _,_,h=>by simpa only[rep,Ec]using h
 | .fn f caps,_,h=>by
   simp only[rep,Ec]at h ⊢;obtain⟨ys,h1,h2⟩:=h;exact⟨ys,h1,RJ caps ys h2⟩
 | .any,_,_=>by simp only[rep,Ec]
theorem RJ:∀(xs:List AV) (vs:List Value),AN G w xs vs->AN ⟨G.St,G.bx,tkl⟩ w (Na g xs) vs
 |[],_,h=>by have _:=hg;simpa only[AN,Na]using h
 |x::xs,_,h=>by
   simp only[AN,Na]at h ⊢;obtain⟨z,zs,h1,h2,h3⟩:=h;exact⟨z,zs,h1,TM x z h2,RJ xs zs h3⟩
end
end
def Mv(tk:List Cj):Option Nat->Option (List Cj)
 |none=>some []
 |some k=>(tk[k]?).map fun t=>[t]
theorem HRel.addSt{E:Env}{G:Gh}{h:AH}{w:World}(hr:HRel E G h w)(h0:∀b o,E.St0 b o->b<E.w0.heap.size/\b∉E.ins):HRel E ⟨fun b o=>G.St b o\/E.St0 b o,G.bx,G.tk⟩ h w/\Ext G w ⟨fun b o=>G.St b o\/E.St0 b o,G.bx,G.tk⟩ w:=by
 have he:Ext G w ⟨fun b o=>G.St b o\/E.St0 b o,G.bx,G.tk⟩ w:=⟨fun _ _ h=>⟨.inl h,rfl⟩,fun _ _ h=>h,fun _ n u h=>⟨n,u,h,As _,fun _=>rfl⟩⟩;refine⟨⟨hr.inpre,hr.kept,?_,?_,hr.bxlen,hr.bxnd,?_,hr.bxown,?_,hr.tklen,?_,hr.tkbx,hr.tknd⟩,he⟩
 ·rintro b o (hs|hs)
  ·exact hr.stlt b o hs
  exact Nat.lt_of_lt_of_le (h0 b o hs).1 hr.kept.size
 ·rintro b o (hs|hs)
  ·exact hr.stnew b o hs
  exact .inl hs
 ·rintro b hb o (hs|hs)
  ·exact hr.bxst b hb o hs
  obtain⟨k1,k2⟩:=h0 b o hs;rcases hr.bxown b hb with e|e
  ·omega
  exact k2 e
 ·intro i b row hi hrow;obtain⟨us,T,h1,h2,h3⟩:=hr.box i b row hi hrow;exact⟨us,T,h1,Fs he _ _ h2,h3⟩
 intro g n u T sz rows hg ht;obtain⟨h1,h2,h3⟩:=hr.tok g n u T sz rows hg ht;refine⟨h1,h2,fun b hb o ho=>?_⟩;rintro(hs|hs)
 ·exact h3 b hb o ho hs
 have:=(hr.toklt hg hb).1;have:=(h0 b o hs).1;omega
def Mw(P:Program)(rs:List ResultVar)(n:Nat)(R:AV->List (List AV)->List Cj->Prop)(e:Exit)(s:AS):Prop:=
 (e= .normal\/e= .ret)/\∃xs g r tk',ResA P s rs xs/\Mv s.h.tk g=some tk'/\Aa n 1 (Ec g (Gm xs))=true/\Am n 0 (s.h.bx.take n)=true/\LeA (Ec g (Gm xs)) r/\R r (s.h.bx.take n) tk'
theorem RK{P:Program}{rs:List ResultVar}{n:Nat}{R:AV->List (List AV)->List Cj->Prop}{s:AS}{xs:List AV}{r:AV}(g:Option Nat){tk':List Cj}(h1:ResA P s rs xs)(h2:Mv s.h.tk g=some tk')(h3:Aa n 1 (Ec g (Gm xs))=true)(h4:Am n 0 (s.h.bx.take n)=true)(h5:LeA (Ec g (Gm xs)) r)(h6:R r (s.h.bx.take n) tk'):Mw P rs n R .ret s:=
 ⟨.inr rfl,xs,g,r,tk',h1,h2,h3,h4,h5,h6⟩
theorem fE{P:Program}{rs:List ResultVar}{n:Nat}{R:AV->List (List AV)->List Cj->Prop}{s:AS}{xs:List AV}{r:AV}(g:Option Nat){tk':List Cj}(h1:ResA P s rs xs)(h2:Mv s.h.tk g=some tk')(h3:Aa n 1 (Ec g (Gm xs))=true)(h4:Am n 0 (s.h.bx.take n)=true)(h5:LeA (Ec g (Gm xs)) r)(h6:R r (s.h.bx.take n) tk'):Mw P rs n R .normal s:=
 ⟨.inl rfl,xs,g,r,tk',h1,h2,h3,h4,h5,h6⟩
def OR:Nat->List AV->List (Nat×AV)
 |_,[]=>[]
 |i,x::xs=>(i,x)::OR (i+1) xs
theorem Wh:∀(xs:List AV) (i t:Nat) (x:AV),look (OR i xs) t=some x->i<=t/\xs[t - i]?=some x
 |[],_,_,_,h=>by cases h
 |y::xs,i,t,x,h=>by
   simp only[OR]at h;rw[<-Mq,Kt]at h;split at h
   ·rename_i e;subst e;injection h with h;subst h;exact⟨As _,by simp⟩
   rename_i hne;obtain⟨h1,h2⟩:=Wh xs (i+1) t x h;refine⟨by omega,?_⟩;rw[show t - i=(t - (i+1))+1 by omega,List.getElem?_cons_succ];exact h2
theorem fF{P:Program}{f:FuncId}{fn:Func}{c:Code}{rs:List ResultVar}{xs:List AV}{bx:List (List AV)}{R:AV->List (List AV)->List Cj->Prop}{N:Dim}(hf:P.funcs[f]?=some fn)(hb:fn.body=some c)(hfr:fn.results=rs.toArray)(hN:fn.ntmps=N.n)(hle:Nat.ble xs.length N.n=true)(hni:bx.length=N.ni)(n:Nat)(hn:Nat.ble N.ni n=true)
    (h:By P N c (Mw P rs n R) ⟨look (OR 0 xs),⟨bx,[]⟩⟩):ACall P f xs bx R:=by
 intro w St bl vs h1 h2;refine calls_of_wp hf hb ?_;have hvl:=Kr h2;have hlen:xs.length<=N.n:=Bl hle
 have hrel:Rel N ⟨w,bl,St⟩ ⟨look (OR 0 xs),⟨bx,[]⟩⟩ {tmps:=vs.toArray++Array.replicate (fn.ntmps - vs.toArray.size) undef,defers:=[]} w:=by
  refine⟨_,h1,?_,by simp;omega,rfl,?_⟩
  ·intro t x ht;obtain⟨_,k1⟩:=Wh xs 0 t x ht;rw[Nat.sub_zero]at k1;obtain⟨y,k2,k3⟩:=PL h2 k1
   have:(vs.toArray++Array.replicate (fn.ntmps - vs.toArray.size) undef).getD t undef=y:=by
    have hlt:=(AZ.1 k2).1;rw[Array.getD_eq_getD_getElem?,Array.getElem?_append_left (by simpa using hlt)];simp[k2]
   simp only[this];exact k3
  have:=h1.bxlen;simp only at this;rw[<-hni];exact this
 refine wp_mono (h _ _ _ hrel) ?_;rintro e a w' ⟨s,⟨he,xs',g,r,tk',q1,q2,q3,q4,q5,q6⟩,G,r1,r2,r3,r4,r5⟩;obtain⟨v,m1,m2⟩:=q1.results hfr r1 r2;have h0:∀b o,(⟨w,bl,St⟩:Env).St0 b o->b<(⟨w,bl,St⟩:Env).w0.heap.size/\b∉(⟨w,bl,St⟩:Env).ins:=fun b o hs=>⟨h1.stlt b o hs,fun hm=>h1.bxst b hm o hs⟩;have hinl:(⟨w,bl,St⟩:Env).ins.length<=n:=by rw[r5];exact Bl hn
 have hfin:∃G',HRel ⟨w,bl,St⟩ G' ⟨s.h.bx.take n,tk'⟩ w'/\Ext ⟨St,bl,[]⟩ w G' w'/\rep G' w' r v:=by
  have t1:=r1.trunc n 0 hinl q4
  have fin:∀(G1:Gh),G1.St=G.St->G1.bx=G.bx.take n->HRel ⟨w,bl,St⟩ G1 ⟨s.h.bx.take n,tk'⟩ w'->rep G1 w' (Ec g (Gm xs')) v->∃G',HRel ⟨w,bl,St⟩ G' ⟨s.h.bx.take n,tk'⟩ w'/\Ext ⟨St,bl,[]⟩ w G' w'/\rep G' w' r v:=by
   intro G1 e1 e2 t2 t3;obtain⟨t4,t5⟩:=t2.addSt h0;refine⟨_,t4,⟨fun b o hs=>⟨.inr hs,?_⟩,fun i b hi=>t4.inpre i b hi,fun g n u hg=>by simp at hg⟩,MH t5 _ _ (q5 _ _ _ t3)⟩;obtain⟨z1,z2⟩:=h0 b o hs;exact World.cell?_of_block (w:=w) (a:=⟨b,o,none⟩) (r1.kept.block b z1 z2)
  cases g with
  |none=>
    simp only[Mv,Option.some.injEq]at q2;subst q2;refine fin ⟨G.St,G.bx.take n,[]⟩ rfl rfl (by simpa using t1) ?_;have:=OQ n 1 _ _ q3 (TM (g:=none) (tkl:=[]) (fun k hk=>by cases hk) _ _ m2)
    simpa using this
  |some k=>
    simp only[Mv]at q2
    cases hk:s.h.tk[k]? with
    |none=>rw[hk]at q2;cases q2
    |some t=>
      obtain⟨T,sz,rows⟩:=t;rw[hk]at q2;simp at q2;subst q2;have hkl:k<G.tk.length:=by rw[r1.tklen];exact(AZ.1 hk).1
      have hgk:G.tk[k]?=some G.tk[k]:=B7 hkl;rcases hp:G.tk[k]with⟨n',u⟩;rw[hp]at hgk;obtain⟨z1,z2,z3⟩:=r1.tok k n' u T sz rows hgk hk;obtain⟨y1,y2⟩:=t1.addTok (T:=T) (sz:=sz) (n:=n') (u:=u) (rows:=rows) ⟨z1,z2,z3⟩ (fun b hb hm=>r1.tkbx k n' u hgk b hb (List.mem_of_mem_take hm)) (fun g' n1 u1 hg'=>by simp at hg');refine fin ⟨G.St,G.bx.take n,[(n',u)]⟩ rfl rfl (by simpa using y1) ?_;have:=OQ n 1 _ _ q3 (TM (g:=some k) (tkl:=[(n',u)]) (fun k' hk'=>by injection hk' with hk';subst hk';exact⟨_,hgk,rfl⟩) _ _ m2)
      simpa using this
 obtain⟨G',f1,f2,f3⟩:=hfin;rcases he with rfl|rfl
 ·exact⟨r4,v,m1,r,_,tk',G',q6,f1,f2,f3⟩
 exact⟨r4,v,m1,r,_,tk',G',q6,f1,f2,f3⟩
end
section
def RL(P:Program)(f:FuncId):Bool:=
 match P.funcs[f]? with
 |some fn=>fn.body.isSome&& !(fn.name== "runtime.NumGoroutine")
 |none=>false
class Fun (P:Program) (f:Nat):Prop where
 eq:RL P f=true
theorem fG{P:Program}{f:FuncId}(hf:RL P f=true)(args:Array Value)(w:World):(callFunc f args).run P w= .ok (.enter f args) w:=by
 unfold RL at hf
 cases h:P.funcs[f]? with
 |none=>simp[h]at hf
 |some fn=>
   simp only[h,Bool.and_eq_true,Bool.not_eq_true']at hf;obtain⟨h1,h2⟩:=hf;have h3:¬fn.name= "runtime.NumGoroutine":=by simpa using h2
   have h4:fn.body.isNone=false:=by cases hb:fn.body<;>simp[hb]at h1 ⊢
   have h5:¬fn.body=none:=by intro e;simp[e]at h4
   simp[callFunc,h,h3,h5]
def PX(x y:AV):Prop:=∀(G:Gh) (w:World) (v:Value),rep G w x v->rep ⟨G.St,[],[]⟩ w y v
theorem Lq(x:AV):PX x (DW x):=fun G _ _ h=>KL (G:=⟨G.St,[],[]⟩) _ _ (JT (G:=G) _ _ h)
theorem PY(St:Nat->Nat->Prop)(bx:List Nat)(tk:List (Nat×Value))(w:World):Ext ⟨St,[],[]⟩ w ⟨St,bx,tk⟩ w:=⟨fun _ _ h=>⟨h,rfl⟩,fun _ _ h=>by simp at h,fun _ _ _ h=>by simp at h⟩
theorem fH{w:World}{base base':Nat}{e:TypeId}{size:Nat}{v:Value}{n:Nat}{xs:List Value}(h:w.ownsRow base e size v n xs)(hb:base'<=base):w.ownsRow base' e size v n xs:=by
 refine⟨h.1,?_⟩;rcases h.2 with h'|⟨g,cap,cur,hv,hg,r⟩
 ·exact .inl h'
 exact .inr ⟨g,cap,cur,hv,Nat.le_trans hb hg,r⟩
theorem LP{x:AV}(h:Lp x=true):PX x x:=by
 have:=Lq x
 rwa [Wa x h]at this
theorem MK(sz:Nat):PX (.v (.slice none 0 0)) (.sl sz [] none):=fun G w v h=>LeA.nil sz _ w v (by simpa only[rep]using h)
inductive Args(ev:Operand->Option AV):List Operand->List AV->Prop
 |nil:Args ev [] []
 |cons (o:Operand) (x y:AV) (l:List Operand) (ys:List AV):ev o=some x->PX x y->Args ev l ys->Args ev (o::l) (y::ys)
theorem Args.rep{ev:Operand->Option AV}{l:List Operand}{ys:List AV}(h:Args ev l ys){G:Gh}{w:World}{ec:Operand->Value}(he:∀x∈l,∀av,ev x=some av->rep G w av (ec x)):AN ⟨G.St,[],[]⟩ w ys (l.map ec):=by
 induction h with
 |nil=>simp only[List.map_nil,AN]
 |cons o x y l ys h1 h2 _ ih=>
   simp only[List.map_cons,AN];exact⟨_,_,rfl,h2 G w _ (he o (by simp) _ h1),ih fun x hx=>he x (by simp[hx])⟩
theorem TN{E:Env}{G:Gh}{h:AH}{w w':World}(hr:HRel E G h w){Gc:Gh}{bx':List (List AV)}{tk':List Cj}(hc:HRel ⟨w,[],G.St⟩ Gc ⟨bx',tk'⟩ w')(he:Ext ⟨G.St,[],[]⟩ w Gc w')(hbc:Am 0 0 bx'=true):
    HRel E ⟨Gc.St,G.bx++Gc.bx,G.tk++Gc.tk⟩ ⟨h.bx++bx',h.tk++tk'⟩ w'/\Ext G w ⟨Gc.St,G.bx++Gc.bx,G.tk++Gc.tk⟩ w':=by
 have hblk:∀k,k<w.heap.size->w'.heap[k]?=w.heap[k]?:=fun k hk=>hc.kept.block k hk (by simp);have hsz:w.heap.size<=w'.heap.size:=hc.kept.size;have hcb:∀b∈Gc.bx,w.heap.size<=b:=fun b hb=>(hc.bxown b hb).resolve_right (by simp)
 have hext:Ext G w ⟨Gc.St,G.bx++Gc.bx,G.tk++Gc.tk⟩ w':=by
  refine⟨fun b o hs=>he.st b o hs,fun i b hi=>by rw[DD (AZ.1 hi).1];exact hi,fun g n u hg=>⟨n,u,by rw[DD (AZ.1 hg).1];exact hg,As _,fun _=>rfl⟩⟩
 have hstc:∀b o,Gc.St b o->b<w.heap.size->G.St b o:=fun b o hs hb=>(hc.stnew b o hs).resolve_right (by simp only;omega)
 have tksplit:∀(g n:Nat) (u:Value),(G.tk++Gc.tk)[g]?=some (n,u)->(g<G.tk.length/\G.tk[g]?=some (n,u))\/(G.tk.length<=g/\Gc.tk[g - G.tk.length]?=some (n,u)):=by
  intro g n u hg;rcases Nat.lt_or_ge g G.tk.length with hlt|hge
  ·rw[DD hlt]at hg;exact .inl ⟨hlt,hg⟩
  rw[Er hge]at hg;exact .inr ⟨hge,hg⟩
 refine⟨⟨fun i b hi=>hext.bx i b (hr.inpre i b hi),?_,hc.stlt,?_,by simp[hr.bxlen,hc.bxlen],?_,?_,?_,?_,by simp[hr.tklen,hc.tklen],?_,?_,?_⟩,hext⟩
 ·have k:=hr.kept;have k':=hc.kept;exact⟨k'.os.trans k.os,k'.tape.trans k.tape,k'.output.trans k.output,Nat.le_trans k.size hsz,fun i hi hn=>(hblk i (Nat.lt_of_lt_of_le hi k.size)).trans (k.block i hi hn)⟩
 ·intro b o hs;rcases hc.stnew b o hs with h1|h1
  ·exact hr.stnew b o h1
  exact .inr (Nat.le_trans hr.kept.size h1)
 ·refine List.nodup_append.2 ⟨hr.bxnd,hc.bxnd,fun x hx y hy e=>?_⟩;subst e;have:=hr.boxlt hx;have:=hcb x hy;omega
 ·intro b hb o hs;rcases List.mem_append.1 hb with h1|h1
  ·exact hr.bxst b h1 o (hstc b o hs (hr.boxlt h1))
  exact hc.bxst b h1 o hs
 ·intro b hb;rcases List.mem_append.1 hb with h1|h1
  ·exact hr.bxown b h1
  exact .inl (Nat.le_trans hr.kept.size (hcb b h1))
 ·intro i b row hi hrow;rcases Nat.lt_or_ge i G.bx.length with hlt|hge
  ·simp only at hi hrow;rw[DD hlt]at hi;rw[DD (by rw[<-hr.bxlen];exact hlt)]at hrow;obtain⟨us,T,h1,h2,h3⟩:=hr.box i b row hi hrow;exact⟨us,T,(hblk b (hr.boxlt (Aj hi))).trans h1,Fs hext _ _ h2,h3⟩
  simp only at hi hrow;rw[Er hge]at hi;rw[Er (by rw[<-hr.bxlen];exact hge),<-hr.bxlen]at hrow;obtain⟨us,T,h1,h2,h3⟩:=hc.box _ b row hi hrow;refine⟨us,T,h1,?_,h3⟩;have:=Mu 0 0 _ _ (TL hbc hrow) h2;refine Fs (PY Gc.St (G.bx++Gc.bx) (G.tk++Gc.tk) w') _ _ ?_
  simpa using this
 ·intro g n u T sz rows hg ht;simp only at hg ht;rcases tksplit g n u hg with⟨h1,h2⟩|⟨h1,h2⟩
  ·rw[DD (by rw[<-hr.tklen];exact h1)]at ht;obtain⟨k1,⟨xs,k2⟩,k3⟩:=hr.tok g n u T sz rows h2 ht;refine⟨k1,⟨xs,World.ownsRow.kept k2 (w':=w') (row:=none) ⟨hc.kept.os,hc.kept.tape,hc.kept.output,hsz,fun k hk _=>hblk k hk⟩ (by cases u.ownBlock<;>simp)⟩,fun b hb o ho hs=>?_⟩;exact k3 b hb o ho (hstc b o hs (hr.toklt h2 hb).2)
  rw[Er (by rw[<-hr.tklen];exact h1),<-hr.tklen]at ht;obtain⟨k1,⟨xs,k2⟩,k3⟩:=hc.tok _ n u T sz rows h2 ht;exact⟨k1,⟨xs,fH k2 hr.kept.size⟩,k3⟩
 ·intro g n u hg b hb hm;rcases tksplit g n u hg with⟨h1,h2⟩|⟨h1,h2⟩
  ·rcases List.mem_append.1 hm with h3|h3
   ·exact hr.tkbx g n u h2 b hb h3
   have:=(hr.toklt h2 hb).2;have:=hcb b h3;omega
  rcases List.mem_append.1 hm with h3|h3
  ·have:=(hc.toklt h2 hb).1;have:=hr.boxlt h3;simp only at *;omega
  exact hc.tkbx _ n u h2 b hb h3
 intro g g' n n' u u' hg hg' hne b hb hb';rcases tksplit g n u hg with⟨h1,h2⟩|⟨h1,h2⟩
 ·rcases tksplit g' n' u' hg' with⟨k1,k2⟩|⟨k1,k2⟩
  ·exact hr.tknd g g' n n' u u' h2 k2 hne b hb hb'
  have:=(hr.toklt h2 hb).2;have:=(hc.toklt k2 hb').1;simp only at *;omega
 rcases tksplit g' n' u' hg' with⟨k1,k2⟩|⟨k1,k2⟩
 ·have:=(hr.toklt k2 hb').2;have:=(hc.toklt h2 hb).1;simp only at *;omega
 exact hc.tknd _ _ n n' u u' h2 k2 (by omega) b hb hb'
theorem RM{E:Env}{G:Gh}{h:AH}{w:World}(hr:HRel E G h w):HRel ⟨w,[],G.St⟩ ⟨G.St,[],[]⟩ ⟨[],[]⟩ w:=by
 refine⟨by simp,⟨rfl,rfl,rfl,As _,fun _ _ _=>rfl⟩,hr.stlt,fun _ _ h=> .inl h,rfl,by simp,by simp,by simp,by simp,rfl,by simp,by simp,by simp⟩
def AFn(P:Program)(f:FuncId)(xs:List AV)(R:AV->Prop):Prop:=ACall P f xs [] (fun r bx' tk'=>bx'=[]/\tk'=[]/\R r)
def RN(P:Program)(f:FuncId)(xs:List AV)(F:Option Nat->AV)(t:Cj):Prop:=ACall P f xs [] (fun r bx' tk'=>bx'=[]/\tk'=[t]/\r=F (some 0))
def RO(P:Program)(f:FuncId)(xs:List AV)(row:List AV)(R:AV->List AV->Prop):Prop:=ACall P f xs [row] (fun r bx' tk'=>∃row',bx'=[row']/\tk'=[]/\R r row')
theorem AFn.mono{P:Program}{f:FuncId}{xs:List AV}{R R':AV->Prop}(h:AFn P f xs R)(hR:∀r,R r->R' r):AFn P f xs R':=ACall.mono h fun _ _ _ ⟨h1,h2,h3⟩=>⟨h1,h2,hR _ h3⟩
mutual
def Kw(k:Nat):AV->AV
 | .v x=> .v x
 | .agg cs=> .agg (Nb k cs)
 | .tup cs=> .tup (Nb k cs)
 | .sl sz rows none=> .sl sz rows none
 | .sl sz rows (some g)=> .sl sz rows (some (k+g))
 | .fp row=> .fp row
 | .bp i o=> .bp i o
 | .bs i o sz n cap=> .bs i o sz n cap
 | .fn f caps=> .fn f (Nb k caps)
 | .any=> .any
def Nb(k:Nat):List AV->List AV
 |[]=>[]
 |x::xs=>Kw k x::Nb k xs
end
section
variable {G G':Gh}{w:World}{k:Nat}(hst:G'.St=G.St)(hbx:G.bx=[])(htk:∀(g n:Nat) (u:Value),G.tk[g]?=some (n,u)->G'.tk[k+g]?=some (n,u))
include hst hbx htk
mutual
theorem Wi:∀(x:AV) (v:Value),rep G w x v->rep G' w (Kw k x) v
 | .v _,_,h=>by simpa only[rep,Kw]using h
 | .agg cs,_,h=>by
   simp only[rep,Kw]at h ⊢;obtain⟨ys,h1,h2⟩:=h;exact⟨ys,h1,RP cs ys h2⟩
 | .tup cs,_,h=>by
   simp only[rep,Kw]at h ⊢;obtain⟨ys,h1,h2⟩:=h;exact⟨ys,h1,RP cs ys h2⟩
 | .sl sz rows none,_,h=>by simp only[rep,Kw]at h ⊢;rw[hst];exact h
 | .sl sz rows (some g),_,h=>by
   simp only[rep,Kw]at h ⊢;obtain⟨h0,n,u,h1,h2⟩:=h;rw[hst];exact⟨h0,n,u,htk g n u h1,h2⟩
 | .fp _,_,h=>by simp only[rep,Kw]at h ⊢;rw[hst];exact h
 | .bp i _,_,h=>by simp only[rep,hbx]at h;obtain⟨b,h1,_⟩:=h;simp at h1
 | .bs i _ _ _ _,_,h=>by simp only[rep,hbx]at h;obtain⟨b,h1,_⟩:=h;simp at h1
 | .fn f caps,_,h=>by
   simp only[rep,Kw]at h ⊢;obtain⟨ys,h1,h2⟩:=h;exact⟨ys,h1,RP caps ys h2⟩
 | .any,_,_=>by simp only[rep,Kw]
theorem RP:∀(xs:List AV) (vs:List Value),AN G w xs vs->AN G' w (Nb k xs) vs
 |[],_,h=>by have _:=hst;have _:=hbx;have _:=htk;simpa only[AN,Nb]using h
 |x::xs,_,h=>by
   simp only[AN,Nb]at h ⊢;obtain⟨z,zs,h1,h2,h3⟩:=h;exact⟨z,zs,h1,Wi x z h2,RP xs zs h3⟩
end
end
section
variable {P:Program}{ev:Operand->Option AV}{h:AH}{R:AV->AH->Prop}{d:Option Tmp}{ty:TypeId}{pos:String}{af:Array Edge}{gd:Option (Nat×Bool)}{ats:Array TypeId}
theorem Mx{f:FuncId}{l:List Operand}{E:Env}{G:Gh}{w:World}{ec:Operand->Value}[hf:Fun P f]{fo:Operand}{caps:List Value}(hfo:ec fo= .func (.func f) #[] caps.toArray)
    (hc:Calls P f (l.map ec++caps).toArray w fun e w''=>match e with
      | .returned v=>Fits E R G w v w''
      |_=>False):OJ P E R G w ((execOp ec ⟨d, .call {callee:= .value fo,args:=l.toArray,argTypes:=ats},ty,pos,af,gd⟩).run P w):=by
 have e:(execOp ec ⟨d, .call {callee:= .value fo,args:=l.toArray,argTypes:=ats},ty,pos,af,gd⟩).run P w= .ok (.enter f (l.map ec++caps).toArray) w:=by
  simp only[execOp,resolve,hfo,Deferred.ofValue,invoke,Sem.run_bind,Sem.run_pure,Result.andThen_ok,List.map_toArray];rw[fG hf.eq];simp
 rw[e];exact hc
theorem My{G:Gh}{w:World}{ec:Operand->Value}{f:FuncId}{caps:List AV}{fo:Operand}(h:rep G w (.fn f caps) (ec fo)):∃cs:List Value,ec fo= .func (.func f) #[] cs.toArray/\AN G w caps cs:=by
 simpa only[rep]using h
theorem Wj{E:Env}{G:Gh}{w w':World}{R0:AV->Prop}{v:Value}(hr:HRel E G h w)(hR:∀r,R0 r->R r h)
    (hx:∃r bx' tk' G',(bx'=[]/\tk'=[]/\R0 r)/\HRel ⟨w,[],G.St⟩ G' ⟨bx',tk'⟩ w'/\Ext ⟨G.St,[],[]⟩ w G' w'/\rep G' w' r v):Fits E R G w v w':=by
 obtain⟨r,bx',tk',Gc,⟨rfl,rfl,hR0⟩,h1,h2,h3⟩:=hx;obtain⟨k1,k2⟩:=TN hr h1 h2 rfl;refine⟨r,h,_,hR r hR0,by simpa using k1,k2,?_⟩;have e1:Gc.bx=[]:=ER (by rw[h1.bxlen];rfl);have e2:Gc.tk=[]:=ER (by rw[h1.tklen];rfl);refine MH (PY Gc.St (G.bx++Gc.bx) (G.tk++Gc.tk) w') _ _ ?_;have e3:Gc=⟨Gc.St,[],[]⟩:=by cases Gc;simp only at e1 e2;rw[e1,e2]
 rw[e3]at h3;exact h3
theorem Wl{f:FuncId}{l:List Operand}{ys:List AV}{R0:AV->Prop}[Fun P f](hfo:ev (.func f)=some (.fn f []))(ha:Args ev l ys)(hc:AFn P f ys R0)(hR:∀r,R0 r->R r h):AStep P ⟨d, .call {callee:= .value (.func f),args:=l.toArray,argTypes:=ats},ty,pos,af,gd⟩ ev h R:=by
 intro E G w ec hr he;obtain⟨cs,k1,k2⟩:=My (he (.func f) (by simp[Op.operands,Call.operands]) _ hfo);simp only[AN]at k2;subst k2;refine Mx k1 ?_;rw[List.append_nil];refine Calls.mono (hc w G.St [] _ (RM hr) (ha.rep fun x hx av hav=>he x (by simp[Op.operands,Call.operands,hx]) av hav)) ?_;intro e w' h3
 cases e with
 |returned v=>exact Wj hr hR h3
 |panicked c=>exact h3.elim
 |outgrown=>exact h3.elim
theorem TO{f:FuncId}{fo:Operand}{caps cy:List AV}{l:List Operand}{ys zs:List AV}{R0:AV->Prop}[Fun P f](hfo:ev fo=some (.fn f caps))(ha:Args ev l ys)(hcy:LO caps=true)(hz:ys++caps=zs)(hc:AFn P f zs R0)(hR:∀r,R0 r->R r h):AStep P ⟨d, .call {callee:= .value fo,args:=l.toArray,argTypes:=ats},ty,pos,af,gd⟩ ev h R:=by
 subst hz;intro E G w ec hr he;obtain⟨cs,k1,k2⟩:=My (he fo (by simp[Op.operands,Call.operands]) _ hfo);refine Mx k1 ?_
 have k3:AN ⟨G.St,[],[]⟩ w caps cs:=by
  have:=Mp (G:=⟨G.St,[],[]⟩) _ _ (Mo (G:=G) _ _ k2)
  rwa [OP _ hcy]at this
 have k4:=ha.rep (G:=G) (w:=w) (ec:=ec) fun x hx av hav=>he x (by simp[Op.operands,Call.operands,hx]) av hav
 have app:∀(xs:List AV) (vs:List Value),AN ⟨G.St,[],[]⟩ w xs vs->AN ⟨G.St,[],[]⟩ w (xs++caps) (vs++cs):=by
  intro xs
  induction xs with
  |nil=>intro vs hv;simp only[AN]at hv;subst hv;simpa using k3
  |cons x xs ih=>
    intro vs hv;simp only[AN]at hv;obtain⟨z,zs,rfl,h1,h2⟩:=hv;simp only[List.cons_append,AN];exact⟨z,_,rfl,h1,ih zs h2⟩
 refine Calls.mono (hc w G.St [] _ (RM hr) (app _ _ k4)) ?_;intro e w' h3
 cases e with
 |returned v=>exact Wj hr hR h3
 |panicked c=>exact h3.elim
 |outgrown=>exact h3.elim
theorem fJ{f:FuncId}{l:List Operand}{ys:List AV}{F:Option Nat->AV}{t:Cj}{n:Nat}{tk':List Cj}[Fun P f](hfo:ev (.func f)=some (.fn f []))(ha:Args ev l ys)(hc:RN P f ys F t)(hF:∀k,Kw k (F (some 0))=F (some k))(hs:SnocAt h.tk t n tk')(hR:R (F (some n)) ⟨h.bx,tk'⟩):
    AStep P ⟨d, .call {callee:= .value (.func f),args:=l.toArray,argTypes:=ats},ty,pos,af,gd⟩ ev h R:=by
 intro E G w ec hr he;obtain⟨cs,k1,k2⟩:=My (he (.func f) (by simp[Op.operands,Call.operands]) _ hfo);simp only[AN]at k2;subst k2;refine Mx k1 ?_;rw[List.append_nil];refine Calls.mono (hc w G.St [] _ (RM hr) (ha.rep fun x hx av hav=>he x (by simp[Op.operands,Call.operands,hx]) av hav)) ?_;intro e w' h3
 cases e with
 |returned v=>
   obtain⟨r,bx',tk1,Gc,⟨rfl,rfl,rfl⟩,h1,h2,h3⟩:=h3;obtain⟨m1,m2⟩:=TN hr h1 h2 rfl;obtain⟨e1,e2⟩:=hs.eq;subst e1;subst e2;have e1:Gc.bx=[]:=ER (by rw[h1.bxlen];rfl);refine⟨_,_,_,hR,by simpa using m1,m2,?_⟩;rw[<-hF];refine Wi (G:=Gc) (G':=⟨Gc.St,G.bx++Gc.bx,G.tk++Gc.tk⟩) (k:=h.tk.length) rfl e1 (fun g n u hg=>?_) _ _ h3;rw[<-hr.tklen];show(G.tk++Gc.tk)[G.tk.length+g]?=_;rw[Er (by omega)]
   simpa using hg
 |panicked c=>exact h3.elim
 |outgrown=>exact h3.elim
end
end
section
section
variable {P:Program}{N:Dim}{Q:Exit->AS->Prop}{s:AS}{K:AS->Prop}{l:List (Nat×AV)}{hh:AH}{ops:Array Oper}{rest:List Oper}{op:Op}{ty:TypeId}{pos:String}{af:Array Edge}
theorem fK{c:Operand}{x y:Code}{t:Bool}(hc:CD s.sl c=some (.v (.bool t)))(ht:t=true)(h:By P N x Q s):By P N (.cond c x y) Q s:=Sz hc (fun _=>h) (fun e=>by rw[ht]at e;cases e)
theorem fL{c:Operand}{x y:Code}{t:Bool}(hc:CD s.sl c=some (.v (.bool t)))(ht:t=false)(h:By P N y Q s):By P N (.cond c x y) Q s:=Sz hc (fun e=>by rw[ht]at e;cases e) (fun _=>h)
theorem AT(h:K s):KM K Q .normal s:=h
theorem Bp(h:Q .ret s):KM K Q .ret s:=h
theorem H5{i:Nat}(h:Q (.exit i) s):KM K Q (.exit i) s:=h
theorem Bz{id:Nat}(h:Q .normal s):Mr id Q .normal s:=h
theorem ML{id:Nat}(h:Q .ret s):Mr id Q .ret s:=h
theorem C0{d:Nat}(hd:Nat.blt d N.n=true)(h:AStep P ⟨some d,op,ty,pos,af,none⟩ (CD (look l)) hh (fun x h'=>AL P N ops Q rest ⟨look ((d,x)::l),h'⟩)):AL P N ops Q (⟨some d,op,ty,pos,af,none⟩::rest) ⟨look l,hh⟩:=WF (s:=⟨look l,hh⟩) rfl hd h
theorem Mz(h:AStep P ⟨none,op,ty,pos,af,none⟩ (CD (look l)) hh (fun _ h'=>AL P N ops Q rest ⟨look l,h'⟩)):AL P N ops Q (⟨none,op,ty,pos,af,none⟩::rest) ⟨look l,hh⟩:=WF (s:=⟨look l,hh⟩) rfl rfl h
theorem fM{d j:Nat}{want t:Bool}(hd:Nat.blt d N.n=true)(hy:yv ops (look l) j=some (some t))(ht:(t==want)=false)(h:AL P N ops Q rest ⟨look ((d, .v undef)::l),hh⟩):AL P N ops Q (⟨some d,op,ty,pos,af,some (j,want)⟩::rest) ⟨look l,hh⟩:=
 WH (s:=⟨look l,hh⟩) (by simp only[Cv,hy,ht]) hd h
theorem fN{d j:Nat}{want:Bool}(hd:Nat.blt d N.n=true)(hy:yv ops (look l) j=some none)(h:AL P N ops Q rest ⟨look ((d, .v undef)::l),hh⟩):AL P N ops Q (⟨some d,op,ty,pos,af,some (j,want)⟩::rest) ⟨look l,hh⟩:=
 WH (s:=⟨look l,hh⟩) (by simp only[Cv,hy]) hd h
theorem fO{d j:Nat}{want t:Bool}(hd:Nat.blt d N.n=true)(hy:yv ops (look l) j=some (some t))(ht:(t==want)=true)(h:AStep P ⟨some d,op,ty,pos,af,some (j,want)⟩ (CD (look l)) hh (fun x h'=>AL P N ops Q rest ⟨look ((d,x)::l),h'⟩)):AL P N ops Q (⟨some d,op,ty,pos,af,some (j,want)⟩::rest) ⟨look l,hh⟩:=
 eL (s:=⟨look l,hh⟩) (by simp only[Cv,hy,ht]) hd h
theorem fP{o:Oper}{j:Nat}{t:Bool}(want:Bool)(_hg:o.guard=some (j,want))(_hy:yv ops (look l) j=some (some t))(h1:t=true->AL P N ops Q (o::rest) ⟨look l,hh⟩)(h2:t=false->AL P N ops Q (o::rest) ⟨look l,hh⟩):AL P N ops Q (o::rest) ⟨look l,hh⟩:=by
 cases t with
 |true=>exact h1 rfl
 |false=>exact h2 rfl
theorem CM{t:Bool}(h:t=true):(t==true)=true:=by rw[h];rfl
theorem CN{t:Bool}(h:t=false):(t==false)=true:=by rw[h];rfl
theorem Wm{t:Bool}(h:t=true):(t==false)=false:=by rw[h];rfl
theorem Wn{t:Bool}(h:t=false):(t==true)=false:=by rw[h];rfl
end
section
variable {P:Program}{ev:Operand->Option AV}{bx:List (List AV)}{tk:List Cj}{R:AV->AH->Prop}{d:Option Tmp}{ty:TypeId}{pos:String}{af:Array Edge}{gd:Option (Nat×Bool)}{ats:Array TypeId}
theorem Es{T:TypeId}{x y:Operand}{sz i o:Nat}{ag:Bool}{av:AV}{row row':List AV}{bx':List (List AV)}[ht:Typ P T sz ag](hx:ev x=some (.bp i o))(hy:ev y=some av)(hb:bx[i]?=some row)
    (h1:JV (Cf av)=true) (hl:Nat.beq (Cf av).length sz=true) (hpos:Nat.blt 0 sz=true) (hs:SetAt row o (Cf av) row') (hset:SetAt bx i [row'] bx') (hR:R (.v undef) ⟨bx',tk⟩):AStep P ⟨d, .store T x y,ty,pos,af,gd⟩ ev ⟨bx,tk⟩ R:=eX (h:=⟨bx,tk⟩) hx hy hb h1 hl hpos hs hset hR
theorem Wo{T:TypeId}{x:Operand}{n:Nat}{av:AV}{bx':List (List AV)}(hx:ev x=some av)(h1:JV (Cf av)=true)(hs:SnocAt bx (Cf av) n bx')(hR:R (.bp n 0) ⟨bx',tk⟩):AStep P ⟨d, .box T x,ty,pos,af,gd⟩ ev ⟨bx,tk⟩ R:=WU (h:=⟨bx,tk⟩) hx h1 hs hR
theorem RQ{T:TypeId}{x:Operand}{n:Nat}{cs:List AV}{bx':List (List AV)}(hx:ev x=some (.agg cs))(h1:JV cs=true)(hs:SnocAt bx cs n bx')(hR:R (.bp n 0) ⟨bx',tk⟩):AStep P ⟨d, .box T x,ty,pos,af,gd⟩ ev ⟨bx,tk⟩ R:=WU (h:=⟨bx,tk⟩) hx h1 hs hR
theorem Bn{T:TypeId}{n:Nat}{row:List AV}{bx':List (List AV)}[hz:Zer P T row](hs:SnocAt bx row n bx')(hR:R (.bp n 0) ⟨bx',tk⟩):AStep P ⟨d, .alloc T,ty,pos,af,gd⟩ ev ⟨bx,tk⟩ R:=eY (h:=⟨bx,tk⟩) hs hR
theorem G7{T:TypeId}{s y:Operand}{T' sz bytes g:Nat}{rows new:List (List AV)}{tok:Option Nat}{tk':List Cj}[hE:Elm P T T' sz bytes](hs:ev s=some (.sl sz rows (some g)))(hy:ev y=some (.sl sz new tok))(hg:tk[g]?=some (T',sz,rows))
    (hsm:rows.length+new.length<=1000000) (hset:SetAt tk g [(T',sz,rows++new)] tk') (hR:R (.sl sz (rows++new) (some g)) ⟨bx,tk'⟩):AStep P ⟨d, .call {callee:= .builtin .append,args:=#[s,y],argTypes:=#[T,T]},ty,pos,af,gd⟩ ev ⟨bx,tk⟩ R:=f8 (h:=⟨bx,tk⟩) hs hy hg hsm hset hR
theorem N0{T:TypeId}{s y:Operand}{T' sz bytes n:Nat}{new:List (List AV)}{tok:Option Nat}{tk':List Cj}[hE:Elm P T T' sz bytes](hs:ev s=some (.v (.slice none 0 0)))(hy:ev y=some (.sl sz new tok))
    (hsm:new.length<=1000000) (hset:SnocAt tk (T',sz,new) n tk') (hR:R (.sl sz new (some n)) ⟨bx,tk'⟩):AStep P ⟨d, .call {callee:= .builtin .append,args:=#[s,y],argTypes:=#[T,T]},ty,pos,af,gd⟩ ev ⟨bx,tk⟩ R:=f9 (h:=⟨bx,tk⟩) hs hy hsm hset hR
theorem Wp{T:TypeId}{len E sz bytes n:Nat}{l:List (Nat×Operand)}{rows:List (List AV)}{tk':List Cj}[hE:Elm P T E sz bytes](hd:DenseA sz ev 0 l rows)(hl:Nat.beq l.length len=true)(hsm:Nat.ble len 1000=true)(hpos:Nat.blt 0 len=true)(hsz:Nat.ble sz 100=true)
    (hset:SnocAt tk (E,sz,rows) n tk') (hR:R (.sl sz rows (some n)) ⟨bx,tk'⟩):AStep P ⟨d, .buildSlice T len l.toArray,ty,pos,af,gd⟩ ev ⟨bx,tk⟩ R:=fA (h:=⟨bx,tk⟩) hd hl hsm hpos hsz hset hR
theorem TP{T:TypeId}{x y:Operand}{E sz bytes n:Nat}{c:Int}{tk':List Cj}[hE:Elm P T E sz bytes](hx:ev x=some (.v (.int .i64 0)))(hy:ev y=some (.v (.int .i64 c)))(hc:0<=c/\c<=1000000)
    (hset:SnocAt tk (E,sz,[]) n tk') (hR:R (.sl sz [] (some n)) ⟨bx,tk'⟩):AStep P ⟨d, .makeSlice T x y,ty,pos,af,gd⟩ ev ⟨bx,tk⟩ R:=fB (h:=⟨bx,tk⟩) hx hy hc hset hR
theorem TQ{f:FuncId}{l:List Operand}{ys:List AV}{F:Option Nat->AV}{t:Cj}{n:Nat}{tk':List Cj}[Fun P f](hfo:ev (.func f)=some (.fn f []))(ha:Args ev l ys)(hc:RN P f ys F t)(hF:∀k,Kw k (F (some 0))=F (some k))(hs:SnocAt tk t n tk')(hR:R (F (some n)) ⟨bx,tk'⟩):
    AStep P ⟨d, .call {callee:= .value (.func f),args:=l.toArray,argTypes:=ats},ty,pos,af,gd⟩ ev ⟨bx,tk⟩ R:=fJ (h:=⟨bx,tk⟩) hfo ha hc hF hs hR
end
theorem enter{P:Program}{f:FuncId}{fn:Func}{c:Code}{rs:List ResultVar}{xs:List AV}{bx:List (List AV)}{R:AV->List (List AV)->List Cj->Prop}{nn ni:Nat}(hf:P.funcs[f]?=some fn)(hb:fn.body=some c)(hfr:fn.results=rs.toArray)(hN:fn.ntmps=nn)(hle:Nat.ble xs.length nn=true)(hni:bx.length=ni)(n:Nat)(hn:Nat.ble ni n=true)
    (h:By P ⟨nn,ni⟩ c (Mw P rs n R) ⟨look (OR 0 xs),⟨bx,[]⟩⟩):ACall P f xs bx R:=fF (N:=⟨nn,ni⟩) hf hb hfr hN hle hni n hn h
def H6(k:IntKind)(a b:Int):Int:=k.wrap ((BitVec.ofInt k.bits a &&& BitVec.ofInt k.bits b).toNat)
def RR(k:IntKind)(a b:Int):Int:=k.wrap ((BitVec.ofInt k.bits a ||| BitVec.ofInt k.bits b).toNat)
def Nc(k:IntKind)(a y:Int):Int:=a.fdiv (2 ^ min y.toNat k.bits)
def RS(k:IntKind)(a y:Int):Int:=k.wrap (a * 2 ^ min y.toNat k.bits)
section
variable {P:Program}{ev:Operand->Option AV}{h:AH}{R:AV->AH->Prop}{d:Option Tmp}{ty:TypeId}{pos:String}{af:Array Edge}{gd:Option (Nat×Bool)}{ats:Array TypeId}
theorem Wq{T yT:TypeId}{x y:Operand}{k:IntKind}{a b:Int}(hx:ev x=some (.v (.int k a)))(hy:ev y=some (.v (.int k b)))(hR:R (.v (.int k (H6 k a b))) h):AStep P ⟨d, .binOp .and T x y yT,ty,pos,af,gd⟩ ev h R:=
 Fb hx hy (fun w=>by simp[eqGuard,binOp,Op.intBits,H6]) hR
theorem Wr{T yT:TypeId}{x y:Operand}{k:IntKind}{a b:Int}(hx:ev x=some (.v (.int k a)))(hy:ev y=some (.v (.int k b)))(hR:R (.v (.int k (RR k a b))) h):AStep P ⟨d, .binOp .or T x y yT,ty,pos,af,gd⟩ ev h R:=
 Fb hx hy (fun w=>by simp[eqGuard,binOp,Op.intBits,RR]) hR
theorem Ws{T yT:TypeId}{x y:Operand}{k k':IntKind}{a b:Int}(hx:ev x=some (.v (.int k a)))(hy:ev y=some (.v (.int k' b)))(hb:0<=b)(hR:R (.v (.int k (Nc k a b))) h):AStep P ⟨d, .binOp .shr T x y yT,ty,pos,af,gd⟩ ev h R:=
 Fb hx hy (fun w=>by
  have:¬b<0:=by omega
  simp[eqGuard,binOp,Op.shift,Nc,this]) hR
theorem Wt{T yT:TypeId}{x y:Operand}{k k':IntKind}{a b:Int}(hx:ev x=some (.v (.int k a)))(hy:ev y=some (.v (.int k' b)))(hb:0<=b)(hR:R (.v (.int k (RS k a b))) h):AStep P ⟨d, .binOp .shl T x y yT,ty,pos,af,gd⟩ ev h R:=
 Fb hx hy (fun w=>by
  have:¬b<0:=by omega
  simp[eqGuard,binOp,Op.shift,RS,this]) hR
theorem TR{S T:TypeId}{x:Operand}{k k':IntKind}{ds:TypeDesc}{a:Int}(hx:ev x=some (.v (.int k a)))(hS:P.underlying S=some ds)(hT:P.underlying T=some (.int k'))(hR:R (.v (.int k' (k'.wrap a))) h):AStep P ⟨d, .convert S T x,ty,pos,af,gd⟩ ev h R:=
 De (fun _ G w ec _ he=>⟨.int k' (k'.wrap a),by
  have h1:=he x (by simp[Op.operands]) _ hx;simp only[rep]at h1
  simp[execOp,h1,convert,run_underlying hS,run_underlying hT,Conv.intToInt],by simp only[rep]⟩) hR
theorem RT{T yT:TypeId}{x y:Operand}{a b:Bool}(hu:P.underlying T=some .bool)(hx:ev x=some (.v (.bool a)))(hy:ev y=some (.v (.bool b)))(hR:R (.v (.bool (a==b))) h):AStep P ⟨d, .binOp .eql T x y yT,ty,pos,af,gd⟩ ev h R:=
 Fb hx hy (fun w=>by simp[eqGuard,binOp,run_equal_bool w T a b hu]) hR
theorem RU{T yT:TypeId}{x y:Operand}{a b:Bool}(hu:P.underlying T=some .bool)(hx:ev x=some (.v (.bool a)))(hy:ev y=some (.v (.bool b)))(hR:R (.v (.bool (!(a==b)))) h):AStep P ⟨d, .binOp .neq T x y yT,ty,pos,af,gd⟩ ev h R:=
 Fb hx hy (fun w=>by simp[eqGuard,binOp,run_equal_bool w T a b hu]) hR
inductive AllV:List AV->List Value->Prop
 |nil:AllV [] []
 |cons (u:Value) (xs:List AV) (us:List Value):AllV xs us->AllV (.v u::xs) (u::us)
theorem AllV.eq{xs:List AV}{us:List Value}(ha:AllV xs us){G:Gh}{w:World}:∀{ys:List Value},AN G w xs ys->ys=us:=by
 induction ha with
 |nil=>intro ys hy;simpa only[AN]using hy
 |cons u xs us _ ih=>
   intro ys hy;simp only[AN]at hy;obtain⟨z,zs,rfl,h1,h2⟩:=hy;simp only[rep]at h1;rw[h1,ih h2]
theorem Jk{op:BinOp}{T yT:TypeId}{x y:Operand}{xs ys:List AV}{us vs:List Value}{z:Value}(hx:ev x=some (.agg xs))(hy:ev y=some (.agg ys))(ha:AllV xs us)(hb:AllV ys vs)(hz:∀w,(binOp op T (.agg us.toArray) (.agg vs.toArray)).run P w= .ok z w)(hg:P.eqGuardType P.depth T=false)(hR:R (.v z) h):AStep P ⟨d, .binOp op T x y yT,ty,pos,af,gd⟩ ev h R:=
 De (fun _ G w ec _ he=>by
  have h1:=he x (by simp[Op.operands]) _ hx;have h2:=he y (by simp[Op.operands]) _ hy;simp only[rep]at h1 h2;obtain⟨us',e1,e2⟩:=h1;obtain⟨vs',e3,e4⟩:=h2;have e5:=ha.eq e2;have e6:=hb.eq e4;subst e5;subst e6;refine⟨z,?_,by simp only[rep]⟩
  have hgd:(eqGuard op T x y (.agg us'.toArray) (.agg vs'.toArray)).run P w= .ok () w:=by
   unfold eqGuard;cases op<;>simp[hg]
  simp only[execOp];rw[e1,e3]
  simp only[Sem.run_bind,hgd,Result.andThen_ok,hz w,Sem.run_pure]) hR
def Wu(P:Program)(T:Nat):Option (Nat×Nat):=
 match P.underlying T with
 |some (.array n e)=>(P.info? e).map fun i=>(n,i.size)
 |_=>none
theorem CX{T:TypeId}{x ix:Operand}{j o len sz n:Nat}{k:IntKind}{i:Int}(hT:Wu P T=some (len,sz))(hx:ev x=some (.bp j o))(hi:ev ix=some (.v (.int k i)))(hn:i=(n:Int))(hlt:Nat.blt n len=true)(hR:R (.bp j (o+n * sz)) h):AStep P ⟨d, .indexAddr T x ix,ty,pos,af,gd⟩ ev h R:=by
 refine De (fun _ G w ec _ he=>?_) hR;have h1:=he x (by simp[Op.operands]) _ hx;have h2:=he ix (by simp[Op.operands]) _ hi;simp only[rep]at h1 h2;obtain⟨b,h3,h4⟩:=h1;unfold Wu at hT
 cases hu:P.underlying T with
 |none=>simp[hu]at hT
 |some dsc=>
   cases dsc<;>try (simp[hu]at hT;done)
   case array m e=>
    cases hinf:P.info? e with
    |none=>simp[hu,hinf]at hT
    |some inf=>
      simp[hu,hinf]at hT;obtain⟨rfl,rfl⟩:=hT;have hlt':n<m:=Bl hlt;subst hn;refine⟨.pointer (some ⟨b,o+n * inf.size,none⟩),?_,by simp only[rep];exact⟨b,h3,rfl⟩⟩;simp[execOp,h2,h4,Instr.indexAt,Instr.sureAddr,asIntOf,run_underlying hu,hlt',sizeOf,typeInfo,hinf,Addr.add_mid]
end
mutual
def KO(i:Nat):AV->AV
 | .v x=> .v x
 | .agg cs=> .agg (Nd i cs)
 | .tup cs=> .tup (Nd i cs)
 | .sl sz rows _=> .sl sz rows none
 | .fp row=> .fp row
 | .bp j o=>match Nat.beq j i with
   |true=> .bp 0 o
   |false=> .any
 | .bs j o sz n cap=>match Nat.beq j i with
   |true=> .bs 0 o sz n cap
   |false=> .any
 | .fn f caps=> .fn f (Nd i caps)
 | .any=> .any
def Nd(i:Nat):List AV->List AV
 |[]=>[]
 |x::xs=>KO i x::Nd i xs
end
section
variable {G:Gh}{w:World}{i b:Nat}(hb:G.bx[i]?=some b)
include hb
mutual
theorem Wv:∀(x:AV) (v:Value),rep G w x v->rep ⟨G.St,[b],[]⟩ w (KO i x) v
 | .v _,_,h=>by simpa only[rep,KO]using h
 | .agg cs,_,h=>by
   simp only[rep,KO]at h ⊢;obtain⟨ys,h1,h2⟩:=h;exact⟨ys,h1,RV cs ys h2⟩
 | .tup cs,_,h=>by
   simp only[rep,KO]at h ⊢;obtain⟨ys,h1,h2⟩:=h;exact⟨ys,h1,RV cs ys h2⟩
 | .sl sz rows none,_,h=>by simpa only[rep,KO]using h
 | .sl sz rows (some g),_,h=>by simp only[rep,KO]at h ⊢;exact h.1
 | .fp _,_,h=>by simpa only[rep,KO]using h
 | .bp j o,v,h=>by
   simp only[rep]at h;obtain⟨b',h1,h2⟩:=h;simp only[KO];split
   ·rename_i e;have e':j=i:=Nat.eq_of_beq_eq_true e;subst e';rw[hb]at h1;injection h1 with h1;subst h1;simp only[rep];exact⟨b,rfl,h2⟩
   simp only[rep]
 | .bs j o sz n cap,v,h=>by
   simp only[rep]at h;obtain⟨b',h1,h2⟩:=h;simp only[KO];split
   ·rename_i e;have e':j=i:=Nat.eq_of_beq_eq_true e;subst e';rw[hb]at h1;injection h1 with h1;subst h1;simp only[rep];exact⟨b,rfl,h2⟩
   simp only[rep]
 | .fn f caps,_,h=>by
   simp only[rep,KO]at h ⊢;obtain⟨ys,h1,h2⟩:=h;exact⟨ys,h1,RV caps ys h2⟩
 | .any,_,_=>by simp only[rep,KO]
theorem RV:∀(xs:List AV) (vs:List Value),AN G w xs vs->AN ⟨G.St,[b],[]⟩ w (Nd i xs) vs
 |[],_,h=>by have _:=hb;simpa only[AN,Nd]using h
 |x::xs,_,h=>by
   simp only[AN,Nd]at h ⊢;obtain⟨z,zs,h1,h2,h3⟩:=h;exact⟨z,zs,h1,Wv x z h2,RV xs zs h3⟩
end
end
inductive ArgsB(i:Nat)(ev:Operand->Option AV):List Operand->List AV->Prop
 |nil:ArgsB i ev [] []
 |cons (o:Operand) (x y:AV) (l:List Operand) (ys:List AV):ev o=some x->KO i x=y->ArgsB i ev l ys->ArgsB i ev (o::l) (y::ys)
theorem ArgsB.rep{i b:Nat}{ev:Operand->Option AV}{l:List Operand}{ys:List AV}(h:ArgsB i ev l ys){G:Gh}{w:World}{ec:Operand->Value}(hb:G.bx[i]?=some b)(he:∀x∈l,∀av,ev x=some av->rep G w av (ec x)):AN ⟨G.St,[b],[]⟩ w ys (l.map ec):=by
 induction h with
 |nil=>simp only[List.map_nil,AN]
 |cons o x y l ys h1 h2 _ ih=>
   simp only[List.map_cons,AN];subst h2;exact⟨_,_,rfl,Wv hb _ _ (he o (by simp) _ h1),ih fun x hx=>he x (by simp[hx])⟩
theorem fQ{E:Env}{G:Gh}{h:AH}{w:World}(hr:HRel E G h w){i b:Nat}{row:List AV}(hb:G.bx[i]?=some b)(hrow:h.bx[i]?=some row)(hcl:Af 0 0 row=true):HRel ⟨w,[b],G.St⟩ ⟨G.St,[b],[]⟩ ⟨[row],[]⟩ w:=by
 have hm:=Aj hb;refine⟨fun _ _ h=>h,⟨rfl,rfl,rfl,As _,fun _ _ _=>rfl⟩,hr.stlt,fun _ _ h=> .inl h,rfl,by simp,fun b' hb'=>by simp at hb';subst hb';exact hr.bxst _ hm,fun b' hb'=> .inr hb',?_,rfl,by simp,by simp,by simp⟩;intro j b' row' hj hrow'
 cases j with
 |succ j=>simp at hj
 |zero=>
   simp at hj hrow';subst hj;subst hrow';obtain⟨us,T,h1,h2,h3⟩:=hr.box i b row hb hrow;refine⟨us,T,h1,?_,h3⟩;have:=Mu 0 0 _ _ hcl h2;refine Fs (PY G.St [b] [] w) _ _ ?_
   simpa using this
theorem fR{E:Env}{G:Gh}{h:AH}{w w':World}(hr:HRel E G h w){i b:Nat}{row':List AV}{Gc:Gh}(hb:G.bx[i]?=some b)(hc:HRel ⟨w,[b],G.St⟩ Gc ⟨[row'],[]⟩ w')(he:Ext ⟨G.St,[b],[]⟩ w Gc w')(hcl:Af 0 0 row'=true):
    HRel E ⟨Gc.St,G.bx,G.tk⟩ ⟨h.bx.set i row',h.tk⟩ w'/\Ext G w ⟨Gc.St,G.bx,G.tk⟩ w':=by
 have hm:=Aj hb;have hblk:∀k,k<w.heap.size->k≠b->w'.heap[k]?=w.heap[k]?:=fun k hk hne=>hc.kept.block k hk (by simpa using hne);have hsz:w.heap.size<=w'.heap.size:=hc.kept.size;have hext:Ext G w ⟨Gc.St,G.bx,G.tk⟩ w':=⟨fun b o hs=>he.st b o hs,fun _ _ h=>h,fun g n u hg=>⟨n,u,hg,As _,fun _=>rfl⟩⟩;have hstc:∀b o,Gc.St b o->b<w.heap.size->G.St b o:=fun b o hs hb=>(hc.stnew b o hs).resolve_right (by simp only;omega)
 have hcb:Gc.bx=[b]:=by
  have h1:=hc.inpre 0 b rfl;have h2:=hc.bxlen
  match hg:Gc.bx,h2 with
  |[c],_=>rw[hg]at h1;simp at h1;rw[h1]
 refine⟨⟨hr.inpre,?_,hc.stlt,?_,by simp[hr.bxlen],hr.bxnd,?_,hr.bxown,?_,hr.tklen,?_,hr.tkbx,hr.tknd⟩,hext⟩
 ·have k:=hr.kept;have k':=hc.kept;refine⟨k'.os.trans k.os,k'.tape.trans k.tape,k'.output.trans k.output,Nat.le_trans k.size hsz,fun j hj hn=>(hblk j (Nat.lt_of_lt_of_le hj k.size) (fun e=>?_)).trans (k.block j hj hn)⟩;subst e;rcases hr.bxown j hm with e|e
  ·omega
  exact hn e
 ·intro b' o hs;rcases hc.stnew b' o hs with h1|h1
  ·exact hr.stnew b' o h1
  exact .inr (Nat.le_trans hr.kept.size h1)
 ·intro b' hb' o hs;exact hr.bxst b' hb' o (hstc b' o hs (hr.boxlt hb'))
 ·intro j b' row hj hrow;have hmj:=Aj hj;by_cases hji:j=i
  ·subst hji;rw[hb]at hj;injection hj with hj;subst hj;have hlt:j<h.bx.length:=by rw[<-hr.bxlen];exact(AZ.1 hb).1
   simp only at hrow;rw[List.getElem?_set_self hlt]at hrow;injection hrow with hrow;subst hrow;obtain⟨us,T,h1,h2,h3⟩:=hc.box 0 b row' (by rw[hcb];rfl) rfl;refine⟨us,T,h1,?_,h3⟩;have:=Mu 0 0 _ _ hcl h2;refine Fs (PY Gc.St G.bx G.tk w') _ _ ?_
   simpa using this
  simp only at hrow;rw[List.getElem?_set_ne (Ne.symm hji)]at hrow;obtain⟨us,T,h1,h2,h3⟩:=hr.box j b' row hj hrow
  have hne:b'≠b:=by
   intro e;subst e;obtain⟨l1,e1⟩:=AZ.1 hb;obtain⟨l2,e2⟩:=AZ.1 hj;exact hji ((List.getElem_inj hr.bxnd).1 (e2.trans e1.symm))
  exact⟨us,T,(hblk b' (hr.boxlt hmj) hne).trans h1,Fs hext _ _ h2,h3⟩
 intro g n u T sz rows hg ht;obtain⟨k1,⟨xs,k2⟩,k3⟩:=hr.tok g n u T sz rows hg ht;refine⟨k1,⟨xs,World.ownsRow.kept k2 (w':=w') (row:=some b) ⟨hc.kept.os,hc.kept.tape,hc.kept.output,hsz,fun k hk hne=>hblk k hk (fun e=>hne (by rw[e]))⟩ (.inr fun e=>hr.tkbx g n u hg b e hm)⟩,fun b' hb' o ho hs=>?_⟩;exact k3 b' hb' o ho (hstc b' o hs (hr.toklt hg hb').2)
section
variable {P:Program}{ev:Operand->Option AV}{bx:List (List AV)}{tk:List Cj}{R:AV->AH->Prop}{d:Option Tmp}{ty:TypeId}{pos:String}{af:Array Edge}{gd:Option (Nat×Bool)}{ats:Array TypeId}
theorem TS{f:FuncId}{l:List Operand}{ys:List AV}{row:List AV}{R0:AV->List AV->Prop}(i:Nat)[Fun P f](hfo:ev (.func f)=some (.fn f []))(ha:ArgsB i ev l ys)(hrow:bx[i]?=some row)(hcl:Af 0 0 row=true)(hc:RO P f ys row R0)
    (hR:∀r row',R0 r row'->Af 0 0 row'=true/\Aa 0 0 r=true/\∃bx',SetAt bx i [row'] bx'/\R r ⟨bx',tk⟩):AStep P ⟨d, .call {callee:= .value (.func f),args:=l.toArray,argTypes:=ats},ty,pos,af,gd⟩ ev ⟨bx,tk⟩ R:=by
 intro E G w ec hr he;obtain⟨cs,k1,k2⟩:=My (he (.func f) (by simp[Op.operands,Call.operands]) _ hfo);simp only[AN]at k2;subst k2;have hlt:i<G.bx.length:=by rw[hr.bxlen];exact(AZ.1 hrow).1
 have hb:G.bx[i]?=some G.bx[i]:=B7 hlt;generalize G.bx[i]=b at hb;refine Mx k1 ?_;rw[List.append_nil];refine Calls.mono (hc w G.St [b] _ (fQ hr hb hrow hcl) (ha.rep hb fun x hx av hav=>he x (by simp[Op.operands,Call.operands,hx]) av hav)) ?_;intro e w' h3
 cases e with
 |returned v=>
   obtain⟨r,bx',tk',Gc,⟨row',rfl,rfl,hR0⟩,h1,h2,h3⟩:=h3;obtain⟨q1,q2,bx2,q3,q4⟩:=hR r row' hR0;obtain⟨m1,m2⟩:=fR hr hb h1 h2 q1;obtain⟨_,e⟩:=SetAt.one q3;subst e;refine⟨r,_,_,q4,m1,m2,?_⟩;have:=OQ 0 0 _ _ q2 h3;refine MH (PY Gc.St G.bx G.tk w') _ _ ?_
   simpa using this
 |panicked c=>exact h3.elim
 |outgrown=>exact h3.elim
theorem fS{f:FuncId}{l:List Operand}{ys:List AV}{row:List AV}{n:Nat}{bx':List (List AV)}[Fun P f](hfo:ev (.func f)=some (.fn f []))(ha:Args ev l ys)(hcl:Am 0 0 [row]=true)(hc:ACall P f ys [] (fun r b t=>r= .bp 0 0/\b=[row]/\t=[]))(hs:SnocAt bx row n bx')(hR:R (.bp n 0) ⟨bx',tk⟩):
    AStep P ⟨d, .call {callee:= .value (.func f),args:=l.toArray,argTypes:=ats},ty,pos,af,gd⟩ ev ⟨bx,tk⟩ R:=by
 intro E G w ec hr he;obtain⟨cs,k1,k2⟩:=My (he (.func f) (by simp[Op.operands,Call.operands]) _ hfo);simp only[AN]at k2;subst k2;refine Mx k1 ?_;rw[List.append_nil];refine Calls.mono (hc w G.St [] _ (RM hr) (ha.rep fun x hx av hav=>he x (by simp[Op.operands,Call.operands,hx]) av hav)) ?_;intro e w' h3
 cases e with
 |returned v=>
   obtain⟨r,bx1,tk1,Gc,⟨rfl,rfl,rfl⟩,h1,h2,h3⟩:=h3;obtain⟨m1,m2⟩:=TN hr h1 h2 hcl;obtain⟨e1,e2⟩:=hs.eq;subst e1;subst e2;refine⟨_,_,_,hR,by simpa using m1,m2,?_⟩;simp only[rep]at h3 ⊢;obtain⟨b,q1,q2⟩:=h3;refine⟨b,?_,q2⟩;have:=hr.bxlen;simp only at this;rw[<-this,Er (As _),Nat.sub_self];exact q1
 |panicked c=>exact h3.elim
 |outgrown=>exact h3.elim
end
end
section
mutual
def KP(bx:List (List AV)):AV->AV
 | .v x=> .v x
 | .agg cs=> .agg (Nf bx cs)
 | .tup cs=> .tup (Nf bx cs)
 | .sl sz rows _=> .sl sz rows none
 | .fp row=> .fp row
 | .bs _ _ _ _ _=> .any
 | .bp j o=>match bx[j]? with
   |some row=> .fp (FZ (row.drop o))
   |none=> .any
 | .fn f caps=> .fn f (Nf bx caps)
 | .any=> .any
def Nf(bx:List (List AV)):List AV->List AV
 |[]=>[]
 |x::xs=>KP bx x::Nf bx xs
end
def Lr(G:Gh)(b o:Nat):Prop:=G.St b o\/b∈G.bx
theorem Ww:∀(xs:List AV) (n:Nat),FZ (xs.drop n)=(FZ xs).drop n
 |[],n=>by simp[FZ]
 |x::xs,n=>by
   cases n with
   |zero=>rfl
   |succ n=>simp only[List.drop_succ_cons,FZ];exact Ww xs n
theorem TT{St:Nat->Nat->Prop}{w:World}{b:Nat}(hst:∀o,St b o):∀{xs:List AV} {us:List Value} {off:Nat},Bc St w xs us->(∀u∈us,u.oneCell'=true)->(∀j u,us[j]?=some u->w.cell? ⟨b,off+j,none⟩=some u)->Dd St w b xs off
 |[],_,_,_,_,_=>by simp only[Dd]
 |x::xs,_,off,h,h1,h2=>by
   simp only[Bc]at h;obtain⟨z,zs,rfl,h3,h4⟩:=h;simp only[Dd];refine⟨⟨hst off,z,by simpa using h2 0 z rfl,h1 z (by simp),h3⟩,TT hst h4 (fun u hu=>h1 u (by simp[hu])) fun j u hj=>?_⟩;have:=h2 (j+1) u (by simpa using hj)
   rwa [show off+(j+1)=off+1+j by omega]at this
section
variable {E:Env}{G:Gh}{h:AH}{w:World}(hr:HRel E G h w)
include hr
theorem RW:∀b o,G.St b o->Lr G b o/\w.cell? ⟨b,o,none⟩=w.cell? ⟨b,o,none⟩:=have _:=hr;fun _ _ h=>⟨.inl h,rfl⟩
theorem fT{j b o:Nat}{row:List AV}(hb:G.bx[j]?=some b)(hrow:h.bx[j]?=some row):Dd (Lr G) w b (FZ (row.drop o)) o:=by
 obtain⟨us,T,h1,h2,h3⟩:=hr.box j b row hb hrow;have h4:Bc (Lr G) w (FZ row) us:=NT (RW hr) _ _ (Mo _ _ h2)
 have h5:Dd (Lr G) w b (FZ row) 0:=TT (fun _=> .inr (Aj hb)) h4 h3 fun j u hj=>by
  simp only[World.cell?,h1]
  simpa using hj
 have:=OG h5 o;rw[Ww]
 simpa using this
mutual
theorem Wx:∀(x:AV) (v:Value),rep G w x v->rep ⟨Lr G,[],[]⟩ w (KP h.bx x) v
 | .v _,_,k=>by simpa only[rep,KP]using k
 | .agg cs,_,k=>by
   simp only[rep,KP]at k ⊢;obtain⟨ys,h1,h2⟩:=k;exact⟨ys,h1,RX cs ys h2⟩
 | .tup cs,_,k=>by
   simp only[rep,KP]at k ⊢;obtain⟨ys,h1,h2⟩:=k;exact⟨ys,h1,RX cs ys h2⟩
 | .sl sz rows none,_,k=>by simp only[rep,KP]at k ⊢;exact JS (RW hr) _ _ k
 | .sl sz rows (some g),_,k=>by simp only[rep,KP]at k ⊢;exact JS (RW hr) _ _ k.1
 | .fp row,_,k=>by
   simp only[rep,KP]at k ⊢;obtain⟨b,off,h1,h2⟩:=k;exact⟨b,off,h1,NU (RW hr) _ _ _ h2⟩
 | .bs _ _ _ _ _,_,_=>by simp only[rep,KP]
 | .bp j o,v,k=>by
   simp only[rep]at k;obtain⟨b,h1,h2⟩:=k;simp only[KP];have hlt:j<h.bx.length:=by rw[<-hr.bxlen];exact(AZ.1 h1).1
   rw[B7 hlt];simp only[rep];exact⟨b,o,h2,fT hr h1 (B7 hlt)⟩
 | .fn f caps,_,k=>by
   simp only[rep,KP]at k ⊢;obtain⟨ys,h1,h2⟩:=k;exact⟨ys,h1,RX caps ys h2⟩
 | .any,_,_=>by simp only[rep,KP]
theorem RX:∀(xs:List AV) (vs:List Value),AN G w xs vs->AN ⟨Lr G,[],[]⟩ w (Nf h.bx xs) vs
 |[],_,k=>by have _:=hr;simpa only[AN,Nf]using k
 |x::xs,_,k=>by
   simp only[AN,Nf]at k ⊢;obtain⟨z,zs,h1,h2,h3⟩:=k;exact⟨z,zs,h1,Wx x z h2,RX xs zs h3⟩
end
theorem fU:HRel ⟨w,[],Lr G⟩ ⟨Lr G,[],[]⟩ ⟨[],[]⟩ w:=by
 refine⟨by simp,⟨rfl,rfl,rfl,As _,fun _ _ _=>rfl⟩,?_,fun _ _ h=> .inl h,rfl,by simp,by simp,by simp,by simp,rfl,by simp,by simp,by simp⟩;rintro b o (hs|hs)
 ·exact hr.stlt b o hs
 exact hr.boxlt hs
end
inductive ArgsL(bx:List (List AV))(ev:Operand->Option AV):List Operand->List AV->Prop
 |nil:ArgsL bx ev [] []
 |cons (o:Operand) (x y:AV) (l:List Operand) (ys:List AV):ev o=some x->KP bx x=y->ArgsL bx ev l ys->ArgsL bx ev (o::l) (y::ys)
theorem ArgsL.rep{E:Env}{G:Gh}{h:AH}{w:World}(hr:HRel E G h w){ev:Operand->Option AV}{l:List Operand}{ys:List AV}(ha:ArgsL h.bx ev l ys){ec:Operand->Value}(he:∀x∈l,∀av,ev x=some av->rep G w av (ec x)):AN ⟨Lr G,[],[]⟩ w ys (l.map ec):=by
 induction ha with
 |nil=>simp only[List.map_nil,AN]
 |cons o x y l ys h1 h2 _ ih=>
   simp only[List.map_cons,AN];subst h2;exact⟨_,_,rfl,Wx hr _ _ (he o (by simp) _ h1),ih fun x hx=>he x (by simp[hx])⟩
mutual
def Kx:AV->Bool
 | .v _=>true
 | .agg cs=>PZ cs
 | .tup cs=>PZ cs
 |_=>false
def PZ:List AV->Bool
 |[]=>true
 |x::xs=>Kx x&&PZ xs
end
mutual
theorem TU{G G':Gh}{w w':World}:∀(x:AV) (v:Value),Kx x=true->rep G w x v->rep G' w' x v
 | .v _,_,_,h=>by simpa only[rep]using h
 | .agg cs,_,hp,h=>by
   simp only[Kx]at hp;simp only[rep]at h ⊢;obtain⟨ys,h1,h2⟩:=h;exact⟨ys,h1,TV cs ys hp h2⟩
 | .tup cs,_,hp,h=>by
   simp only[Kx]at hp;simp only[rep]at h ⊢;obtain⟨ys,h1,h2⟩:=h;exact⟨ys,h1,TV cs ys hp h2⟩
 | .sl _ _ _,_,hp,_=>by simp[Kx]at hp
 | .fp _,_,hp,_=>by simp[Kx]at hp
 | .bp _ _,_,hp,_=>by simp[Kx]at hp
 | .bs _ _ _ _ _,_,hp,_=>by simp[Kx]at hp
 | .fn _ _,_,hp,_=>by simp[Kx]at hp
 | .any,_,hp,_=>by simp[Kx]at hp
theorem TV{G G':Gh}{w w':World}:∀(xs:List AV) (vs:List Value),PZ xs=true->AN G w xs vs->AN G' w' xs vs
 |[],_,_,h=>by simpa only[AN]using h
 |x::xs,_,hp,h=>by
   simp only[PZ,Bool.and_eq_true]at hp;simp only[AN]at h ⊢;obtain⟨z,zs,h1,h2,h3⟩:=h;exact⟨z,zs,h1,TU x z hp.1 h2,TV xs zs hp.2 h3⟩
end
section
variable {P:Program}{ev:Operand->Option AV}{bx:List (List AV)}{tk:List Cj}{R:AV->AH->Prop}{d:Option Tmp}{ty:TypeId}{pos:String}{af:Array Edge}{gd:Option (Nat×Bool)}{ats:Array TypeId}
theorem TW{f:FuncId}{l:List Operand}{ys:List AV}{R0:AV->Prop}[Fun P f](hfo:ev (.func f)=some (.fn f []))(ha:ArgsL bx ev l ys)(hc:AFn P f ys R0)(hR:∀r,R0 r->Kx r=true/\R r ⟨bx,tk⟩):AStep P ⟨d, .call {callee:= .value (.func f),args:=l.toArray,argTypes:=ats},ty,pos,af,gd⟩ ev ⟨bx,tk⟩ R:=by
 intro E G w ec hr he;obtain⟨cs,k1,k2⟩:=My (he (.func f) (by simp[Op.operands,Call.operands]) _ hfo);simp only[AN]at k2;subst k2;refine Mx k1 ?_;rw[List.append_nil];refine Calls.mono (hc w (Lr G) [] _ (fU hr) (ArgsL.rep hr ha fun x hx av hav=>he x (by simp[Op.operands,Call.operands,hx]) av hav)) ?_;intro e w' h3
 cases e with
 |returned v=>
   obtain⟨r,bx',tk',Gc,⟨rfl,rfl,hR0⟩,h1,h2,h3⟩:=h3;obtain⟨q1,q2⟩:=hR r hR0;have hk:=h1.kept;obtain⟨m1,m2⟩:=hr.below (w':=w') ⟨hk.os,hk.tape,hk.output,hk.size,fun k hk'=>hk.block k hk' (by simp)⟩;exact⟨r,_,G,q2,m1,m2,TU _ _ q1 h3⟩
 |panicked c=>exact h3.elim
 |outgrown=>exact h3.elim
end
end
section
theorem RY{P:Program}{N:Dim}{Q:Exit->AS->Prop}{s:AS}{x y:Code}(S0:AS)(φ:Prop)(h1:By P N x (KM (fun s'=>φ/\Weak N s' S0) Q) s)(h2:φ->By P N y Q S0):By P N (.seq x y) Q s:=by
 intro E a w hr;refine wp_seq (wp_mono (h1 E a w hr) ?_);rintro e a' w' ⟨s',hq,hr'⟩
 cases e with
 |normal=>exact h2 hq.1 E a' w' (hq.2 E a' w' hr')
 |exit id=>exact⟨s',hq,hr'⟩
 |goto l=>exact⟨s',hq,hr'⟩
 |ret=>exact⟨s',hq,hr'⟩
 |panic c=>exact⟨s',hq,hr'⟩
 |outgrown=>exact⟨s',hq,hr'⟩
def RZ(k:IntKind)(a b:Int):Int:=k.wrap ((BitVec.ofInt k.bits a &&& ~~~ BitVec.ofInt k.bits b).toNat)
theorem Wy{P:Program}{ev:Operand->Option AV}{h:AH}{R:AV->AH->Prop}{d:Option Tmp}{ty:TypeId}{pos:String}{af:Array Edge}{gd:Option (Nat×Bool)}{T yT:TypeId}{x y:Operand}{k:IntKind}{a b:Int}(hx:ev x=some (.v (.int k a)))(hy:ev y=some (.v (.int k b)))(hR:R (.v (.int k (RZ k a b))) h):AStep P ⟨d, .binOp .andNot T x y yT,ty,pos,af,gd⟩ ev h R:=
 Fb hx hy (fun w=>by simp[eqGuard,binOp,Op.intBits,RZ]) hR
theorem Wz{G:Gh}{w:World}:∀{us vs:List Value},AN G w (us.map AV.v) vs->vs=us
 |[],_,h=>by simpa only[List.map_nil,AN]using h
 |u::us,_,h=>by
   simp only[List.map_cons,AN]at h;obtain⟨z,zs,rfl,h1,h2⟩:=h;simp only[rep]at h1;rw[h1,Wz h2]
theorem Ra{P:Program}{f:FuncId}{us:List Value}{z:Value}(h:∀w,Calls P f us.toArray w fun e w'=>e= .returned z/\Below w.heap.size w w'):AFn P f (us.map AV.v) (fun r=>r= .v z):=by
 intro w St bl vs hr hv;obtain rfl:=Wz hv;refine(h w).mono ?_;rintro e w' ⟨rfl,hb⟩;obtain⟨h1,h2⟩:=hr.below hb;exact⟨_,_,_,_,⟨rfl,rfl,rfl⟩,h1,h2,by simp only[rep]⟩
theorem fV{P:Program}{ev:Operand->Option AV}{h:AH}{R:AV->AH->Prop}{d:Option Tmp}{ty:TypeId}{pos:String}{af:Array Edge}{gd:Option (Nat×Bool)}{T yT:TypeId}{x y:Operand}{sz E bytes:Nat}{rows:List (List AV)}{tok:Option Nat}[hE:Elm P T E sz bytes]
    (hx:ev x=some (.sl sz rows tok)) (hy:ev y=some (.v (.slice none 0 0))) (hR:∀b:Bool,(b=true->rows=[])->R (.v (.bool b)) h):AStep P ⟨d, .binOp .eql T x y yT,ty,pos,af,gd⟩ ev h R:=by
 intro En G w ec hr he;have h1:=JT _ _ (he x (by simp[Op.operands]) _ hx);have h2:=he y (by simp[Op.operands]) _ hy;simp only[DW,Ai]at h1;simp only[rep]at h2;obtain⟨_,A,cap,h3,_,_,h4⟩:=h1
 have e:(execOp ec ⟨d, .binOp .eql T x y yT,ty,pos,af,gd⟩).run P w= .ok (.value (.bool A.isNone)) w:=by
  have:=run_equal_slice_nil (P:=P) w T E A rows.length cap (Gl hE.eq).1;simp[execOp,h2,h3,eqGuard,binOp,this]
 rw[e];refine⟨_,h,G,hR A.isNone (fun hb=>?_),hr,Ext.refl G w,by simp only[rep]⟩;rcases h4 with h4|⟨b,off,h4,_⟩
 ·exact h4
 rw[h4]at hb;cases hb
theorem fW{P:Program}{ev:Operand->Option AV}{h:AH}{R:AV->AH->Prop}{d:Option Tmp}{ty:TypeId}{pos:String}{af:Array Edge}{gd:Option (Nat×Bool)}{T:TypeId}{E sz bytes n:Nat}{tk':List (Nat×Nat×List (List AV))}[hE:Elm P T E sz bytes]
    (hset:SnocAt h.tk (E,sz,[]) n tk') (hR:R (.sl sz [] (some n)) ⟨h.bx,tk'⟩):AStep P ⟨d, .buildSlice T 0 #[],ty,pos,af,gd⟩ ev h R:=by
 intro E' G w ec hr he;obtain⟨hu,inf,z,hinf,hz,hzs,hs,hby,hp⟩:=Gl hE.eq
 have c2:(Instr.buildSlice T 0 #[]).run P w= .ok (.slice (some ⟨w.heap.size,0,none⟩) 0 0) (w.alloc (.cells #[] E)):=by
  simp[Instr.buildSlice,run_underlying hu,sizeOf,typeInfo,hinf,Instr.fill,newRow];rw[show Array.map (fun _=>(default:Value)) (Array.range 0)=#[] from Array.eq_empty_of_size_eq_zero (by simp)]
 obtain⟨q1,q2⟩:=hr.below (w':=w.alloc (.cells #[] E)) ((Below.refl _ _).alloc (As _) _);obtain⟨e1,e2⟩:=hset.eq;subst e1;subst e2
 have hown:(w.alloc (.cells #[] E)).ownsRow E'.w0.heap.size E sz (.slice (some ⟨w.heap.size,0,none⟩) 0 0) 0 []:=
  ⟨by simp, .inr ⟨w.heap.size,0,#[],rfl,hr.kept.size,PS _ _,As _,by unfold maxLen;omega,by simp,by simp⟩⟩
 obtain⟨r1,r2⟩:=q1.addTok (T:=E) (sz:=sz) (n:=0) (u:= .slice (some ⟨w.heap.size,0,none⟩) 0 0) (rows:=[]) ⟨rfl,⟨[],hown⟩,fun b hb o ho=>by
     simp[Value.ownBlock]at hb;subst hb;intro hs;have:=hr.stlt _ _ hs
     omega⟩ (fun b hb=>by
     simp[Value.ownBlock]at hb;subst hb
     exact fun hm=>by have:=hr.boxlt hm;omega) (fun g n' u' hg b hb=>by
     simp[Value.ownBlock]at hb;subst hb
     exact fun e=>by have:=(hr.toklt hg e).2;omega)
 have c3:(Instr.buildSlice T 0 ((#[]:Array (Nat×Operand)).map fun x=>(x.1,ec x.2))).run P w= .ok (.slice (some ⟨w.heap.size,0,none⟩) 0 0) (w.alloc (.cells #[] E)):=by rw[Array.map_empty];exact c2
 simp only[execOp,Sem.run_bind,c3,Result.andThen_ok,Sem.run_pure];refine⟨_,_,_,hR,r1,q2.trans r2,?_⟩;simp only[rep,Ai];refine⟨⟨trivial,_,0,rfl,BG _,by unfold maxLen;omega, .inl trivial⟩,0,_,?_,As _,fun _=>rfl⟩;rw[<-hr.tklen];simp
theorem fX{P:Program}{ev:Operand->Option AV}{bx:List (List AV)}{tk:List Cj}{R:AV->AH->Prop}{d:Option Tmp}{ty:TypeId}{pos:String}{af:Array Edge}{gd:Option (Nat×Bool)}{T:TypeId}{E sz bytes n:Nat}{tk':List Cj}[hE:Elm P T E sz bytes]
    (hset:SnocAt tk (E,sz,[]) n tk') (hR:R (.sl sz [] (some n)) ⟨bx,tk'⟩):AStep P ⟨d, .buildSlice T 0 #[],ty,pos,af,gd⟩ ev ⟨bx,tk⟩ R:=fW (h:=⟨bx,tk⟩) hset hR
theorem MM{x y:AV}(h:Lp x=true)(hl:LeA x y):PX x y:=fun G w v hv=>hl _ w v (LP h G w v hv)
theorem JC{P:Program}{ev:Operand->Option AV}{h:AH}{R:AV->AH->Prop}{o:Oper}{x y:AV}(hs:AStep P o ev h fun r h'=>r=x/\h'=h)(hl:LeA x y)(hR:R y h):AStep P o ev h R:=by
 have step:∀{E:Env} {G:Gh} {w w':World} {v:Value},Fits E (fun r h'=>r=x/\h'=h) G w v w'->Fits E R G w v w':=by
  rintro E G w w' v ⟨r,h',G',⟨rfl,rfl⟩,k2,k3,k4⟩;exact⟨_,_,G',hR,k2,k3,hl _ _ _ k4⟩
 intro E G w ec hr he;have hu:=hs E G w ec hr he;revert hu;generalize (execOp ec o).run P w=z;intro hu;unfold OJ at hu ⊢;split at hu
 ·exact step hu
 ·exact step hu
 ·refine Calls.mono hu ?_;intro e w'' h3
  cases e with
  |returned v=>exact step h3
  |panicked c=>exact h3.elim
  |outgrown=>exact h3.elim
 exact hu.elim
theorem X0{w:World}{St:Nat->Nat->Prop}(hst:∀b o,St b o->b<w.heap.size):HRel ⟨w,[],St⟩ ⟨St,[],[]⟩ ⟨[],[]⟩ w:=
 ⟨fun i b h=>by simp at h,⟨rfl,rfl,rfl,As _,fun _ _ _=>rfl⟩,hst,fun _ _ h=> .inl h,rfl,List.nodup_nil,fun b h=>by simp at h,fun b h=>by simp at h,fun i b row h=>by simp at h,rfl,fun g n u T sz rows h=>by simp at h,fun g n u h=>by simp at h,fun g g' n n' u u' h=>by simp at h⟩
theorem fY{P:Program}{f:FuncId}{xs:List AV}{z:Value}(h:AFn P f xs fun r=>r= .v z){w:World}(St:Nat->Nat->Prop)(hst:∀b o,St b o->b<w.heap.size){vs:List Value}(hv:AN ⟨St,[],[]⟩ w xs vs):
    Calls P f vs.toArray w fun e w'=>e= .returned z/\Below w.heap.size w w':=by
 refine Calls.mono (h w St [] vs (X0 hst) hv) ?_;intro e w' h3
 cases e with
 |returned v=>
   obtain⟨r,b,t,G',⟨_,_,rfl⟩,k2,_,k4⟩:=h3;simp only[rep]at k4;subst k4;have k:=k2.kept;exact⟨rfl,⟨k.os,k.tape,k.output,k.size,fun i hi=>k.block i hi (by simp)⟩⟩
 |panicked c=>exact h3.elim
 |outgrown=>exact h3.elim
class BP (b v:Bool) (p:outParam Prop):Prop where
 imp:b=v->p
instance (priority:=low) bp_any(b v:Bool):BP b v (b=v):=⟨fun h=>h⟩
instance bp_t(p:Prop)[Decidable p]:BP (decide p) true p:=⟨of_decide_eq_true⟩
instance bp_f(p:Prop)[Decidable p]:BP (decide p) false (¬p):=⟨of_decide_eq_false⟩
instance bp_nt(b:Bool)(p:Prop)[h:BP b false p]:BP (!b) true p:=⟨fun e=>h.imp (by cases b<;>simp_all)⟩
instance bp_nf(b:Bool)(p:Prop)[h:BP b true p]:BP (!b) false p:=⟨fun e=>h.imp (by cases b<;>simp_all)⟩
theorem bp{b v:Bool}{p:Prop}[h:BP b v p](e:b=v):p:=h.imp e
section
variable {P:Program}{N:Dim}{Q:Exit->AS->Prop}{ops:Array Oper}{rest:List Oper}{l:List (Nat×AV)}{hh:AH}{op:Op}{ty:TypeId}{pos:String}{af:Array Edge}
theorem Ak{d j:Nat}{want t:Bool}(h:AStep P ⟨some d,op,ty,pos,af,some (j,want)⟩ (CD (look l)) hh (fun x h'=>AL P N ops Q rest ⟨look ((d,x)::l),h'⟩))(hd:Nat.blt d N.n=true:=by rfl)(hy:yv ops (look l) j=some (some t):=by rfl)(ht:(t==want)=true:=by first|rfl|exact CM ‹_›|exact CN ‹_›|simp[*]):AL P N ops Q (⟨some d,op,ty,pos,af,some (j,want)⟩::rest) ⟨look l,hh⟩:=fO hd hy ht h
end
section
variable {P:Program}{rs:List ResultVar}{R0:AV->Prop}{s:AS}{xs:List AV}
theorem A4(h:R0 (Ec none (Gm xs)))(h1:ResA P s rs xs:=by repeat (first|exact ResA.nil|(apply ResA.tmp;(focus exact rfl))|(apply ResA.cellN;(focus exact inferInstance);(focus exact rfl);(focus exact rfl);(focus exact rfl))|(apply ResA.cell1;(focus exact inferInstance);(focus exact rfl);(focus exact rfl);(focus exact rfl))))(h3:Aa 0 1 (Ec none (Gm xs))=true:=by rfl):Mw P rs 0 (fun r bx' tk'=>bx'=[]/\tk'=[]/\R0 r) .ret s:=RK none h1 rfl h3 rfl (A6 _) ⟨rfl,rfl,h⟩
end
section
variable {P:Program}{ev:Operand->Option AV}{h:AH}{R:AV->AH->Prop}{d:Option Tmp}{ty:TypeId}{pos:String}{af:Array Edge}{gd:Option (Nat×Bool)}{ats:Array TypeId}
theorem Rb{c a b:Operand}{t:Bool}{av:AV}(hR:R av h)(hc:ev c=some (.v (.bool t)):=by rfl)(ht:t=true:=by first|rfl|assumption|simp[*])(hx:ev a=some av:=by rfl):AStep P ⟨d, .pick c a b,ty,pos,af,gd⟩ ev h R:=eU hc ht hx hR
theorem Rc{c a b:Operand}{t:Bool}{av:AV}(hR:R av h)(hc:ev c=some (.v (.bool t)):=by rfl)(ht:t=false:=by first|rfl|assumption|simp[*])(hx:ev b=some av:=by rfl):AStep P ⟨d, .pick c a b,ty,pos,af,gd⟩ ev h R:=eV hc ht hx hR
theorem AX{f:FuncId}{l:List Operand}{ys:List AV}{R0:AV->Prop}[Fun P f](hc:AFn P f ys R0)(hR:∀r,R0 r->R r h)(hfo:ev (.func f)=some (.fn f []):=by rfl)(ha:Args ev l ys:=by repeat (first|exact Args.nil|refine Args.cons _ _ _ _ _ rfl (LP rfl) ?_|refine Args.cons _ _ _ _ _ rfl (MK _) ?_|refine Args.cons _ _ _ _ _ rfl (Lq _) ?_|refine Args.cons _ _ _ _ _ rfl (MM rfl (by repeat (first|exact A6 _|exact LeA.nil _|exact LeL.refl _|refine LeA.agg ?_|refine LeA.tup ?_|exact LeL.nil|refine LeL.cons ?_ ?_|exact LeA.any _))) ?_)):AStep P ⟨d, .call {callee:= .value (.func f),args:=l.toArray,argTypes:=ats},ty,pos,af,gd⟩ ev h R:=Wl hfo ha hc hR
end
theorem wk{f:Nat->Option AV}{bx:List (List AV)}{tk:List (Nat×Nat×List (List AV))}{l:List (Nat×AV)}{N:Dim}(n m:Nat){bx':List (List AV)}{tk':List (Nat×Nat×List (List AV))}(hn:Nat.ble N.ni n=true:=by rfl)(hb:bx.take n=bx':=by rfl)(ht:tk.take m=tk':=by rfl)(hbp:Am n m bx'=true:=by rfl)(hl:Sub n m f l:=by repeat (first|exact Sub.nil|refine Aw rfl rfl ?_|refine B3 ?_|refine B4 rfl ?_|refine B5 rfl ?_)):Weak N ⟨f,⟨bx,tk⟩⟩ ⟨look l,⟨bx',tk'⟩⟩:=At n m hn hb ht hbp hl
section
variable {P:Program}{N:Dim}{l:List Oper}{Q:Exit->AS->Prop}{S:AH->Prop}{tl fuel:Nat}{listed:Array Bool}{m:List (Nat×AV)}{h:AH}{op:Op}{ty:TypeId}{pos:String}{af:Array Edge}{gd:Option (Nat×Bool)}
theorem Hm{i d:Nat}{x:AV}(hi:l[i]?=some ⟨some d,op,ty,pos,af,gd⟩)(hst:AStep P ⟨some d,op,ty,pos,af,gd⟩ (CD (look m)) h (fun x' h'=>x'=x/\h'=h))(H:AAny P N l.toArray Q (fun h'=>h'=h) tl fuel (listed.setIfInBounds i true) ⟨look ((d,x)::m),h⟩)
    (hd:Nat.blt d N.n=true:=by rfl) (htl:(Lm l.toArray tl listed&& !Nat.ble tl i&&Region.free .any l.toArray listed i&&(Region.ready .any l.toArray listed).contains i)=true:=by kernel_rfl)
    (hw:Cv l.toArray (look m) ⟨some d,op,ty,pos,af,gd⟩=some true:=by first|rfl|exact Ag rfl rfl (CM ‹_›)|exact Ag rfl rfl (CN ‹_›)|exact Ag rfl rfl (by simp[*])):AAny P N l.toArray Q (fun h'=>h'=h) tl (fuel+1) listed ⟨look m,h⟩:=WO hi hd htl hw hst H
end
theorem BD{P:Program}{N:Dim}{Q:Exit->AS->Prop}{s:AS}{x y:Code}(I:AS->Prop)(h1:By P N x (KM (fun s'=>∃s0,I s0/\Weak N s' s0) Q) s)(h2:∀s0,I s0->By P N y Q s0):By P N (.seq x y) Q s:=by
 intro E a w hr;refine wp_seq (wp_mono (h1 E a w hr) ?_);rintro e a' w' ⟨s',hq,hr'⟩
 cases e with
 |normal=>obtain⟨s0,k1,k2⟩:=hq;exact h2 s0 k1 E a' w' (k2 E a' w' hr')
 |exit id=>exact⟨s',hq,hr'⟩
 |goto l=>exact⟨s',hq,hr'⟩
 |ret=>exact⟨s',hq,hr'⟩
 |panic c=>exact⟨s',hq,hr'⟩
 |outgrown=>exact⟨s',hq,hr'⟩
theorem HRel.boxLe{E:Env}{G:Gh}{h:AH}{w:World}(hr:HRel E G h w){i:Nat}{row row':List AV}(hi:h.bx[i]?=some row)(hle:∀us,AN G w row us->AN G w row' us):HRel E G ⟨h.bx.set i row',h.tk⟩ w:=by
 refine⟨hr.inpre,hr.kept,hr.stlt,hr.stnew,by simp[hr.bxlen],hr.bxnd,hr.bxst,hr.bxown,?_,hr.tklen,hr.tok,hr.tkbx,hr.tknd⟩;intro j b row1 hj hrow;have hlt:i<h.bx.length:=(AZ.1 hi).1;by_cases e:i=j
 ·subst e;rw[List.getElem?_set_self hlt]at hrow;injection hrow with hrow;subst hrow;obtain⟨us,T,k1,k2,k3⟩:=hr.box i b row hj hi;exact⟨us,T,k1,hle us k2,k3⟩
 rw[List.getElem?_set_ne e]at hrow;exact hr.box j b row1 hj hrow
theorem X3{G:Gh}{w:World}{x y:AV}(h:∀v,rep G w x v->rep G w y v):∀{row:List AV} {o:Nat} {us:List Value},row[o]?=some x->AN G w row us->AN G w (row.set o y) us
 |[],o,_,hx,_=>by simp at hx
 |z::zs,0,_,hx,hr=>by
   simp at hx;subst hx;simp only[AN,List.set_cons_zero]at hr ⊢;obtain⟨a,as',h1,h2,h3⟩:=hr;exact⟨a,as',h1,h a h2,h3⟩
 |z::zs,o+1,_,hx,hr=>by
   simp only[AN,List.set_cons_succ]at hr ⊢;obtain⟨a,as',h1,h2,h3⟩:=hr;exact⟨a,as',h1,h2,X3 h (by simpa using hx) h3⟩
theorem MN{P:Program}{N:Dim}{Q:Exit->AS->Prop}{c:Code}{f:Nat->Option AV}{bx bx':List (List AV)}{tk tk':List Cj}(i o T sz:Nat){g:Nat}{row row':List AV}(hb:bx[i]?=some row)(ht:row[o]?=some (.v (.slice none 0 0)))(hs:SnocAt tk (T,sz,[]) g tk')
    (hrow:SetAt row o [.sl sz [] (some g)] row') (hbx:SetAt bx i [row'] bx') (h:By P N c Q ⟨f,⟨bx',tk'⟩⟩):By P N c Q ⟨f,⟨bx,tk⟩⟩:=by
 rintro E a w ⟨G,h1,h2,h3⟩;obtain⟨e1,e2⟩:=hs.eq;subst e1;subst e2;have e3:=(SetAt.one hrow).2;have e4:=(SetAt.one hbx).2;subst e3;subst e4;obtain⟨k1,k2,k3⟩:=TH h1 T sz;refine h E a w ⟨_,k1.boxLe (i:=i) hb (fun us hu=>X3 (x:= .v (.slice none 0 0)) (fun v hv=>?_) ht hu),fun t' x hx=>MH k2 _ _ (h2 t' x hx),h3⟩;simp only[rep]at hv;rw[hv];exact k3
def Cc(z:Int):List AV:=[.v (.int .i64 z)]
def EE(l:List Int)(a:Nat):List AV:=[.sl 1 (l.map Cc) none, .v (.int .i64 (a:Int))]
def GenF(P:Program)(f:FuncId)(l:List Int)(a:Nat)(xs:List AV)(c:Nat)(R:AV->Prop):Prop:=RO P f (.bp 0 0::xs) (EE l a) (fun r row'=>∃a',a'<=a+c/\row'=EE l a'/\R r)
theorem GenF.mono{P:Program}{f:FuncId}{l:List Int}{a:Nat}{xs:List AV}{c c':Nat}{R R':AV->Prop}(h:GenF P f l a xs c R)(hc:c<=c')(hR:∀r,R r->R' r):GenF P f l a xs c' R':=
 ACall.mono h fun _ _ _ ⟨row',h1,h2,a',h3,h4,h5⟩=>⟨row',h1,h2,a',by omega,h4,hR _ h5⟩
section
variable {P:Program}{ev:Operand->Option AV}{bx:List (List AV)}{tk:List Cj}{R:AV->AH->Prop}{d:Option Tmp}{ty:TypeId}{pos:String}{af:Array Edge}{gd:Option (Nat×Bool)}{ats:Array TypeId}
theorem B0{f:FuncId}{ops:List Operand}{l:List Int}{a c:Nat}{xs:List AV}{R0:AV->Prop}(i:Nat)[Fun P f](hrow:bx[i]?=some (EE l a):=by rfl)(ha:ArgsB i ev ops (.bp 0 0::xs):=by repeat (first|exact ArgsB.nil|refine ArgsB.cons _ _ _ _ _ rfl rfl ?_))(hc:GenF P f l a xs c R0)
    (hR:∀r a',a'<=a+c->R0 r->Aa 0 0 r=true/\∃bx',SetAt bx i [EE l a'] bx'/\R r ⟨bx',tk⟩) (hfo:ev (.func f)=some (.fn f []):=by rfl):AStep P ⟨d, .call {callee:= .value (.func f),args:=ops.toArray,argTypes:=ats},ty,pos,af,gd⟩ ev ⟨bx,tk⟩ R:=
 TS i hfo ha hrow rfl hc (fun r row' ⟨a',h1,h2,h3⟩=>by
  subst h2
  exact⟨rfl,hR r a' h1 h3⟩)
end
def Rd(p:Int->Bool):List (List AV)->Bool
 |[]=>true
 |[.v (.int .i64 z)]::rs=>p z&&Rd p rs
 |_=>false
def Re(p:ByteArray->Bool):List (List AV)->Bool
 |[]=>true
 |[.v (.string z)]::rs=>p z&&Re p rs
 |_=>false
theorem X4{p:Int->Bool}:∀{rows:List (List AV)},Rd p rows=true->∀{i:Nat},i<rows.length->∃z,rows[i]?=some [.v (.int .i64 z)]/\p z=true
 |[],_,i,hi=>by simp at hi
 |r::rs,h,i,hi=>by
   unfold Rd at h;split at h
   ·rename_i heq;cases heq
   ·rename_i z rs' heq;injection heq with e1 e2;subst e1;subst e2;simp only[Bool.and_eq_true]at h
    cases i with
    |zero=>exact⟨z,rfl,h.1⟩
    |succ i=>simpa using X4 h.2 (by simpa using hi)
   cases h
theorem X5{p:ByteArray->Bool}:∀{rows:List (List AV)},Re p rows=true->∀{i:Nat},i<rows.length->∃z,rows[i]?=some [.v (.string z)]/\p z=true
 |[],_,i,hi=>by simp at hi
 |r::rs,h,i,hi=>by
   unfold Re at h;split at h
   ·rename_i heq;cases heq
   ·rename_i z rs' heq;injection heq with e1 e2;subst e1;subst e2;simp only[Bool.and_eq_true]at h
    cases i with
    |zero=>exact⟨z,rfl,h.1⟩
    |succ i=>simpa using X5 h.2 (by simpa using hi)
   cases h
section
variable {P:Program}{ev:Operand->Option AV}{h:AH}{R:AV->AH->Prop}{d:Option Tmp}{ty:TypeId}{pos:String}{af:Array Edge}{gd:Option (Nat×Bool)}
theorem EF{T:TypeId}{x ix:Operand}{E sz bytes i off n cap m:Nat}{k:IntKind}{iv:Int}[hE:Elm P T E sz bytes]
    (hx:ev x=some (.bs i off sz n cap)) (hi:ev ix=some (.v (.int k iv))) (hn:iv=(m:Int)) (hlt:m<n) (hR:R (.bp i (off+m * sz)) h):AStep P ⟨d, .indexAddr T x ix,ty,pos,af,gd⟩ ev h R:=by
 refine De (fun _ G w ec _ he=>?_) hR;have h1:=he x (by simp[Op.operands]) _ hx;have h2:=he ix (by simp[Op.operands]) _ hi;simp only[rep]at h1 h2;obtain⟨b,h3,h4,_,_⟩:=h1;obtain⟨hu,inf,z,hinf,_,_,hs,_,_⟩:=Gl hE.eq;subst hn;refine⟨.pointer (some ⟨b,off+m * sz,none⟩),?_,by simp only[rep];exact⟨b,h3,rfl⟩⟩;simp[execOp,h2,h4,Instr.indexAt,asIntOf,run_underlying hu,hlt,sizeOf,typeInfo,hinf,hs,Addr.add_mid]
theorem TX{T:TypeId}{x:Operand}{E sz bytes i off n cap:Nat}[hE:Elm P T E sz bytes](hx:ev x=some (.bs i off sz n cap))(hR:R (.v (.int .i64 (n:Int))) h):AStep P ⟨d, .call {callee:= .builtin .len,args:=#[x],argTypes:=#[T]},ty,pos,af,gd⟩ ev h R:=by
 refine De (fun _ G w ec _ he=>?_) hR;have h1:=he x (by simp[Op.operands,Call.operands]) _ hx;simp only[rep]at h1;obtain⟨b,h3,h4,_,_⟩:=h1;obtain⟨hu,inf,z,hinf,_,_,hs,_,_⟩:=Gl hE.eq;refine⟨.int .i64 (n:Int),?_,by simp only[rep]⟩;simp[execOp,resolve,invoke,builtin,Builtin.len_,run_underlying hu,h4,goInt]
end
theorem SetAt.put1{α:Type}{x:α}:∀{row:List α} {o:Nat},o<row.length->SetAt row o [x] (row.set o x)
 |[],_,h=>by simp at h
 |y::ys,0,_=>SetAt.here y x ys [] ys (SetAt.nil ys 0)
 |y::ys,o+1,h=>SetAt.there y x ys [] (ys.set o x) o (SetAt.put1 (by simpa using h))
theorem TY{α:Type}(x:α):∀(l:List α),SnocAt l x l.length (l++[x])
 |[]=>SnocAt.nil x
 |y::ys=>SnocAt.cons y x ys _ _ (TY x ys)
theorem X6{P:Program}{T:Nat}{zrow:List AV}(hz:Zer P T zrow){inf:TypeInfo}{z:Value}(hi:P.info? T=some inf)(hzr:inf.zero=some z){k:Nat}{u:Value}(hu:u∈Builtin.zeroCells z.cells k):u.oneCell'=true:=by
 obtain⟨zs,h1,_,h2⟩:=hz.eq;obtain⟨i,z',k1,k2,k3⟩:=Qz h1;rw[hi]at k1;injection k1 with k1;subst k1;rw[hzr]at k2;injection k2 with k2;subst k2;rw[k3]at hu;simp only[Builtin.zeroCells,Array.mem_map,Array.mem_range]at hu;obtain⟨i,hi2,rfl⟩:=hu
 have hpos:0<zs.toArray.size:=by
  rcases Nat.eq_zero_or_pos zs.toArray.size with e|e
  ·rw[e]at hi2;simp at hi2
  exact e
 have hlt:i % zs.toArray.size<zs.toArray.size:=Nat.mod_lt _ hpos;rw[getElem!_pos zs.toArray _ hlt];exact List.all_eq_true.1 h2 _ (by simp)
theorem Ng{α:Type}{sz:Nat}:∀{rows:List (List α)},(∀r∈rows,r.length=sz)->rows.flatten.length=rows.length * sz
 |[],_=>by simp
 |r::rs,h=>by
   rw[List.flatten_cons,List.length_append,Ng (fun x hx=>h x (by simp[hx])),h r (by simp),List.length_cons,Nat.add_mul];omega
theorem Rf{α:Type}{sz:Nat}:∀{rows:List (List α)} {q k:Nat},(∀r∈rows,r.length=sz)->k<sz->rows.flatten[q * sz+k]?=(rows[q]?).bind (fun r=>r[k]?)
 |[],_,_,_,_=>by simp
 |r::rs,0,k,h,hk=>by
   have:=h r (by simp);rw[List.flatten_cons,Nat.zero_mul,Nat.zero_add,DD (by omega)];rfl
 |r::rs,q+1,k,h,hk=>by
   have hr:=h r (by simp);rw[List.flatten_cons,Er (by rw[hr,Nat.add_mul];omega),show(q+1) * sz+k - r.length=q * sz+k by rw[hr,Nat.add_mul];omega,Rf (fun x hx=>h x (by simp[hx])) hk];rfl
theorem SetAt.left{α:Type}{l xs l':List α}{n:Nat}(h:SetAt l n xs l')(b:List α):SetAt (l++b) n xs (l'++b):=by
 induction h with
 |nil l n=>exact SetAt.nil _ _
 |here a x l xs l' _ ih=>exact SetAt.here a x _ xs _ ih
 |there a x l xs l' n _ ih=>exact SetAt.there a x _ xs _ n ih
theorem SetAt.right{α:Type}{l xs l':List α}{n:Nat}(h:SetAt l n xs l'):∀(a:List α),xs≠[]->SetAt (a++l) (a.length+n) xs (a++l')
 |[],_=>by simpa using h
 |y::ys,hne=>by
   have:=SetAt.right h ys hne
   cases xs with
   |nil=>exact absurd rfl hne
   |cons x xs=>
     rw[show(y::ys).length+n=(ys.length+n)+1 by simp;omega];exact SetAt.there y x _ xs _ _ this
theorem SetAt.whole{α:Type}:∀{xs l b:List α},xs.length=l.length->SetAt (l++b) 0 xs (xs++b)
 |[],[],b,_=>SetAt.nil _ _
 |[],_::_,_,h=>by simp at h
 |_::_,[],_,h=>by simp at h
 |x::xs,y::ys,b,h=>SetAt.here y x _ xs _ (SetAt.whole (by simpa using h))
theorem fZ{α:Type}{sz:Nat}{rows:List (List α)}{q k:Nat}{r r' cs:List α}(h:∀r∈rows,r.length=sz)(hq:rows[q]?=some r)(hs:SetAt r k cs r')(hne:cs≠[]):SetAt rows.flatten (q * sz+k) cs (rows.set q r').flatten:=by
 obtain⟨hlt,e⟩:=AZ.1 hq
 have e1:rows=rows.take q++r::rows.drop (q+1):=by
  rw[<-e,<-List.drop_eq_getElem_cons hlt,List.take_append_drop]
 have e2:rows.set q r'=rows.take q++r'::rows.drop (q+1):=by rw[List.set_eq_take_append_cons_drop,if_pos hlt]
 have hl:(rows.take q).flatten.length=q * sz:=by
  rw[Ng (sz:=sz) (fun x hx=>h x (List.mem_of_mem_take hx)),List.length_take,Nat.min_eq_left (by omega)]
 have key:=SetAt.right (hs.left (rows.drop (q+1)).flatten) (rows.take q).flatten hne;rw[hl]at key;rw[e2]
 conv=>arg 1;rw[e1]
 simpa using key
theorem TZ{G:Gh}{w:World}:∀{xs:List AV} {us:List Value},xs.length=us.length->(∀(i:Nat) (x:AV),xs[i]?=some x->∃u,us[i]?=some u/\rep G w x u)->AN G w xs us
 |[],[],_,_=>by simp only[AN]
 |[],_::_,h,_=>by simp at h
 |_::_,[],h,_=>by simp at h
 |x::xs,u::us,h,hx=>by
   simp only[AN];obtain⟨u',h1,h2⟩:=hx 0 x rfl;simp at h1;subst h1;exact⟨u,us,rfl,h2,TZ (by simpa using h) fun i y hy=>by simpa using hx (i+1) y (by simpa using hy)⟩
theorem FlatR.rep{G:Gh}{w:World}{sz:Nat}{rows:List (List AV)}{us:List Value}(h:FlatR G.St w sz rows us)(hs:0<sz):AN G w rows.flatten us:=by
 obtain⟨h1,h2,h3,h4⟩:=h;refine TZ (by rw[Ng h2,h1]) fun i x hx=>?_;have hi:i=i / sz * sz+i % sz:=by rw[Nat.mul_comm];exact(Nat.div_add_mod i sz).symm
 have hk:i % sz<sz:=Nat.mod_lt _ hs;rw[hi,Rf h2 hk]at hx
 cases hq:rows[i / sz]? with
 |none=>rw[hq]at hx;simp at hx
 |some r=>
   rw[hq]at hx;obtain⟨u,k1,k2⟩:=h4 (i / sz) r (i % sz) x hq hx;rw[<-hi]at k1;exact⟨u,k1,KL _ _ k2⟩
inductive SrcA(h:AH)(sz:Nat):AV->Nat->List AV->Prop
 |sl (rows:List (List AV)) (tok:Option Nat):SrcA h sz (.sl sz rows tok) rows.length rows.flatten
 |bs (i off n cap:Nat) (row:List AV):h.bx[i]?=some row->off+n * sz<=row.length->SrcA h sz (.bs i off sz n cap) n ((row.drop off).take (n * sz))
theorem SrcA.run{h:AH}{sz m:Nat}{y:AV}{cs:List AV}(hs:SrcA h sz y m cs){E:Env}{G:Gh}{w:World}(hr:HRel E G h w){v:Value}(hy:rep G w y v)(hp:0<sz)(hm:0<m):
    ∃ad c us,v= .slice (some ad) m c/\us.length=m * sz/\AN G w cs us/\(∀u∈us,u.oneCell'=true)/\∀j u,us[j]?=some u->w.cell? (ad.add j)=some u:=by
 cases hs with
 |sl rows tok=>
   have k:=JT _ _ hy;simp only[DW]at k;obtain⟨A,cap,us,e1,e2,e3,e4,e5⟩:=OO k;obtain⟨b,off,rfl,e6⟩:=e5 (fun e=>by rw[e]at hm;simp at hm);exact⟨_,cap,us,e1,e4.1,e4.rep hp,e4.2.2.1,fun j u hj=>by rw[Addr.add_mid];exact e6 j u hj⟩
 |bs i off n cap row hb hf=>
   simp only[Go.Proofs.YtbgnigjfkbmceaaGreatDoor.rep]at hy;obtain⟨b,k1,k2,_,_⟩:=hy;obtain⟨us,T,q1,q2,q3⟩:=hr.boxAt k1 hb;have hlen:=Kr q2;refine⟨_,cap,(us.drop off).take (m * sz),k2,by simp;omega,Qw (Qx q2 off) _,fun u hu=>q3 u (List.mem_of_mem_drop (List.mem_of_mem_take hu)),fun j u hj=>?_⟩;rw[Addr.add_mid];simp only[World.cell?,q1];rw[List.getElem?_take]at hj;split at hj
   ·rw[List.getElem?_drop]at hj
    simpa using hj
   cases hj
section
variable {P:Program}{ev:Operand->Option AV}{h:AH}{R:AV->AH->Prop}{d:Option Tmp}{ty:TypeId}{pos:String}{af:Array Edge}{gd:Option (Nat×Bool)}
theorem Rg{G:Gh}{w:World}:∀(us:List Value),AN G w (List.replicate us.length .any) us
 |[]=>by simp only[List.length_nil,List.replicate_zero,AN]
 |u::us=>by simp only[List.length_cons,List.replicate_succ,AN];exact⟨u,us,rfl,by simp only[rep],Rg us⟩
theorem Pa{G:Gh}{w:World}:∀{xs ys:List AV} {us vs:List Value},AN G w xs us->AN G w ys vs->AN G w (xs++ys) (us++vs)
 |[],_,_,_,h,k=>by simp only[AN]at h;subst h;simpa using k
 |x::xs,_,_,_,h,k=>by
   simp only[AN]at h;obtain⟨z,zs,rfl,h1,h2⟩:=h;simp only[List.cons_append,AN];exact⟨z,_,rfl,h1,Pa h2 k⟩
theorem HRel.drew{E:Env}{G:Gh}{w:World}(hr:HRel E G h w):HRel E G h w.drew/\Ext G w G w.drew:=by
 have:=hr.grow (w':=w.drew) ⟨rfl,rfl,rfl,As _,fun _ _=>rfl⟩ (fun _ _=>False) (fun _ _ h=>h.elim)
 simpa using this
theorem OS{T:TypeId}{s y:Operand}{T' sz bytes i off n cap m:Nat}{row cs:List AV}{av:AV}{zrow:List AV}[hE:Elm P T T' sz bytes][hzr:Zer P T' zrow](hs:ev s=some (.bs i off sz n cap))(hy:ev y=some av)(hb:h.bx[i]?=some row)(hfit:off+cap * sz<=row.length)(hsrc:SrcA h sz av m cs)(hm:0<m)(hsm:n+m<=1000000)
    (room:n+m<=cap->∀row' bx',SetAt row (off+n * sz) cs row'->SetAt h.bx i [row'] bx'->R (.bs i off sz (n+m) cap) ⟨bx',h.tk⟩)
    (grow:cap<n+m->∀cap' k bx',n+m<=cap'->SnocAt h.bx ((row.drop off).take (n * sz)++cs++List.replicate ((cap' - (n+m)) * sz) .any) k bx'->R (.bs k 0 sz (n+m) cap') ⟨bx',h.tk⟩):AStep P ⟨d, .call {callee:= .builtin .append,args:=#[s,y],argTypes:=#[T,T]},ty,pos,af,gd⟩ ev h R:=by
 intro E G w ec hr he;have k1:=he s (by simp[Op.operands,Call.operands]) _ hs;have k2:=he y (by simp[Op.operands,Call.operands]) _ hy;obtain⟨hu,inf,z,hinf,hz,hzs,hsz,hbts,hp⟩:=Gl hE.eq;obtain⟨ad,c,us,e1,e2,e3,e4,e5⟩:=hsrc.run hr k2 hp hm;simp only[rep]at k1;obtain⟨b,k3,k4,k5,k6⟩:=k1;obtain⟨vs,Tb,q1,q2,q3⟩:=hr.boxAt k3 hb;have hlen:=Kr q2;have hvl:=Kr e3;have hi:i<h.bx.length:=(AZ.1 hb).1;by_cases hroom:n+m<=cap
 ·have hfit2:off+n * sz+us.length<=vs.length:=by
     have:n * sz+m * sz<=cap * sz:=by rw[<-Nat.add_mul];exact Nat.mul_le_mul_right _ hroom
     omega
  have hrun:=run_append_room_cells (P:=P) w T ty T' inf hu hinf b off n cap ad m c us (by rw[hsz];exact e2) e5 e4 hroom (fun j hj=>by
   have hj2:off+n * sz+j<vs.length:=by omega
   rw[hsz];simp only[World.cell?,q1];simp[hj2]) (fun j hj=>by simp[World.frozen?,q1])
  rw[hsz]at hrun;obtain⟨r1,r2,r3,r4,r5,r6⟩:=Qy b Tb us (off+n * sz) vs w q1;have hpos:0<m * sz:=Nat.mul_pos hm hp;have hcs:cs≠[]:=fun e=>by rw[e,List.length_nil]at hvl;omega
  have hset:∃row',SetAt row (off+n * sz) cs row':=by
   have hrow:∀k,row=row.take k++((row.drop k).take cs.length++row.drop (k+cs.length)):=fun k=>by
    rw[<-List.drop_drop,List.take_append_drop,List.take_append_drop]
   have hl0:(row.take (off+n * sz)).length=off+n * sz:=by rw[List.length_take,Nat.min_eq_left (by omega)]
   have key:=SetAt.right (SetAt.whole (xs:=cs) (l:=(row.drop (off+n * sz)).take cs.length) (b:=row.drop (off+n * sz+cs.length)) (by simp;omega)) (row.take (off+n * sz)) hcs;rw[hl0,Nat.add_zero,<-hrow]at key;exact⟨_,key⟩
  obtain⟨row',hset⟩:=hset;obtain⟨m1,_⟩:=hset.rep q2 e3
  obtain⟨t1,t2⟩:=hr.setBox (w':=w.setCells b (off+n * sz) us) (row:=row') k3 r4 r5 r6 r3 r2 ⟨_,Tb,r1,m1,fun u hu=>by
   rcases PR us vs _ u hu with e|e
   ·exact q3 u e
   exact e4 u e⟩
  simp only[execOp,resolve,invoke,builtin,Sem.run_bind,Sem.run_pure,Result.andThen_ok,List.map_toArray,List.map_cons,List.map_nil,k4,e1,hrun];exact⟨_,_,G,room hroom row' (h.bx.set i row') hset (SetAt.put1 hi),t1,t2,by simp only[rep];exact⟨b,k3,rfl,by omega,k6⟩⟩
 have hold:∀j u,((vs.drop off).take (n * sz))[j]?=some u->w.cell? ((⟨b,off,none⟩:Addr).add j)=some u:=by
  intro j u hj;rw[Addr.add_mid];simp only[World.cell?,q1];rw[List.getElem?_take]at hj;split at hj
  ·rw[List.getElem?_drop]at hj;simpa using hj
  cases hj
 have hnf:n * sz<=cap * sz:=Nat.mul_le_mul_right _ k5;have hol:((vs.drop off).take (n * sz)).length=n * sz:=by simp;omega
 have h63:n+m<=maxLen:=by unfold maxLen;omega
 have hby:=hE.few;have hbb:(n+m) * bytes<=1000000 * 100000:=Nat.mul_le_mul hsm hby;have hrun:=run_append_grow (P:=P) w T ty T' inf z hu hinf hz ⟨b,off,none⟩ n cap ((vs.drop off).take (n * sz)) (by rw[hsz];exact hol) hold ad m c us (by rw[hsz];exact e2) e5 (by omega) (by omega) (growslice_fits (by omega) (by rw[hbts];omega));have hge:=grownCap_ge w (n+m) cap T';have hcm:grownCap w (n+m) cap T'<=maxLen:=grownCap_le_maxLen w (n+m) cap T' h63;generalize hgc:grownCap w (n+m) cap T'=cap' at hrun hge hcm;obtain⟨d1,d2⟩:=hr.drew;obtain⟨zs,hzc⟩:∃zs:List Value,Builtin.zeroCells z.cells (cap' - (n+m))=zs.toArray:=⟨(Builtin.zeroCells z.cells (cap' - (n+m))).toList,by simp⟩
 have hzl:zs.length=(cap' - (n+m)) * sz:=by
  have:=size_zeroCells z.cells (cap' - (n+m));rw[hzc,hzs]at this
  simpa using this
 have hone:∀u∈zs,u.oneCell'=true:=by
  intro u hu;have:u∈Builtin.zeroCells z.cells (cap' - (n+m)):=by rw[hzc];simpa using hu
  exact X6 hzr hinf hz this
 have hrep:AN G w.drew ((row.drop off).take (n * sz)++cs++List.replicate ((cap' - (n+m)) * sz) .any) ((vs.drop off).take (n * sz)++us++zs):=by
  refine Pa (Pa (Fs d2 _ _ (Qw (Qx q2 off) _)) (Fs d2 _ _ e3)) ?_;rw[<-hzl];exact Rg zs
 obtain⟨k,bx',hsn⟩:∃k bx',SnocAt h.bx ((row.drop off).take (n * sz)++cs++List.replicate ((cap' - (n+m)) * sz) .any) k bx':=⟨_,_,TY _ _⟩
 obtain⟨G',s1,s2,s3⟩:=ON (T:=T') d1 hrep (by
  intro u hu;rcases List.mem_append.1 hu with hu|hu
  ·rcases List.mem_append.1 hu with hu|hu
   ·exact q3 u (List.mem_of_mem_drop (List.mem_of_mem_take hu))
   exact e4 u hu
  exact hone u hu) hsn
 rw[hzc]at hrun;have hcells:((vs.drop off).take (n * sz)).toArray++us.toArray++zs.toArray=((vs.drop off).take (n * sz)++us++zs).toArray:=by simp
 rw[hcells]at hrun;simp only[rep]at s3;obtain⟨b',s4,s5⟩:=s3;simp only[execOp,resolve,invoke,builtin,Sem.run_bind,Sem.run_pure,Result.andThen_ok,List.map_toArray,List.map_cons,List.map_nil,k4,e1,hrun];refine⟨_,_,G',grow (by omega) cap' k bx' hge hsn,s1,d2.trans s2,?_⟩;simp only[rep];injection s5 with s5;injection s5 with s5;injection s5 with s5;subst s5;exact⟨_,s4,rfl,hge,hcm⟩
end
def JX(j:Nat):List Nat->Nat->Option Nat
 |[],_=>none
 |i::is,k=>match Nat.beq i j with
   |true=>some k
   |false=>JX j is (k+1)
theorem Ta{j:Nat}:∀{is:List Nat} {k m:Nat},JX j is k=some m->k<=m/\is[m - k]?=some j
 |[],_,_,h=>by cases h
 |i::is,k,m,h=>by
   unfold JX at h;split at h
   ·rename_i e;have:=Nat.eq_of_beq_eq_true e;subst this;injection h with h;subst h;exact⟨As _,by simp⟩
   obtain⟨h1,h2⟩:=Ta h;refine⟨by omega,?_⟩;rw[show m - k=(m - (k+1))+1 by omega,List.getElem?_cons_succ];exact h2
mutual
def Hn(f:Nat->Option Nat):AV->AV
 | .v x=> .v x
 | .agg cs=> .agg (ES f cs)
 | .tup cs=> .tup (ES f cs)
 | .sl sz rows _=> .sl sz rows none
 | .fp row=> .fp row
 | .bp j o=>match f j with
   |some k=> .bp k o
   |none=> .any
 | .bs j o sz n cap=>match f j with
   |some k=> .bs k o sz n cap
   |none=> .any
 | .fn g caps=> .fn g (ES f caps)
 | .any=> .any
def ES(f:Nat->Option Nat):List AV->List AV
 |[]=>[]
 |x::xs=>Hn f x::ES f xs
end
section
variable {G G':Gh}{w:World}{f:Nat->Option Nat}(hst:G'.St=G.St)(hf:∀(j k b:Nat),f j=some k->G.bx[j]?=some b->G'.bx[k]?=some b)
include hst hf
mutual
theorem Tc:∀(x:AV) (v:Value),rep G w x v->rep G' w (Hn f x) v
 | .v _,_,h=>by simpa only[rep,Hn]using h
 | .agg cs,_,h=>by
   simp only[rep,Hn]at h ⊢;obtain⟨ys,h1,h2⟩:=h;exact⟨ys,h1,Nh cs ys h2⟩
 | .tup cs,_,h=>by
   simp only[rep,Hn]at h ⊢;obtain⟨ys,h1,h2⟩:=h;exact⟨ys,h1,Nh cs ys h2⟩
 | .sl sz rows none,_,h=>by simp only[rep,Hn]at h ⊢;rw[hst];exact h
 | .sl sz rows (some g),_,h=>by simp only[rep,Hn]at h ⊢;rw[hst];exact h.1
 | .fp _,_,h=>by simp only[rep,Hn]at h ⊢;rw[hst];exact h
 | .bp j o,v,h=>by
   simp only[rep]at h;obtain⟨b,h1,h2⟩:=h;simp only[Hn];split
   ·rename_i k e;simp only[rep];exact⟨b,hf j k b e h1,h2⟩
   simp only[rep]
 | .bs j o sz n cap,v,h=>by
   simp only[rep]at h;obtain⟨b,h1,h2⟩:=h;simp only[Hn];split
   ·rename_i k e;simp only[rep];exact⟨b,hf j k b e h1,h2⟩
   simp only[rep]
 | .fn g caps,_,h=>by
   simp only[rep,Hn]at h ⊢;obtain⟨ys,h1,h2⟩:=h;exact⟨ys,h1,Nh caps ys h2⟩
 | .any,_,_=>by simp only[rep,Hn]
theorem Nh:∀(xs:List AV) (vs:List Value),AN G w xs vs->AN G' w (ES f xs) vs
 |[],_,h=>by have _:=hst;have _:=hf;simpa only[AN,ES]using h
 |x::xs,_,h=>by
   simp only[AN,ES]at h ⊢;obtain⟨z,zs,h1,h2,h3⟩:=h;exact⟨z,zs,h1,Tc x z h2,Nh xs zs h3⟩
end
end
theorem g7{w w':World}{base:Nat}{e:TypeId}{size:Nat}{v:Value}{n:Nat}{xs:List Value}(h:w.ownsRow base e size v n xs)(hb:∀b,v.ownBlock=some b->w'.heap[b]?=w.heap[b]?):w'.ownsRow base e size v n xs:=by
 refine⟨h.1,?_⟩;rcases h.2 with h1|⟨g,cap,cur,h1,h2,h3,h4⟩
 ·exact .inl h1
 exact .inr ⟨g,cap,cur,h1,h2,(hb g (by rw[h1];rfl)).trans h3,h4⟩
inductive Hand(bx:List (List AV))(f:Nat->Option Nat):List Nat->List (List AV)->Prop
 |nil:Hand bx f [] []
 |cons (i:Nat) (row row':List AV) (is:List Nat) (rows:List (List AV)):bx[i]?=some row->ES f row=row'->Hand bx f is rows->Hand bx f (i::is) (row'::rows)
theorem Hand.get{bx:List (List AV)}{f:Nat->Option Nat}{is:List Nat}{rows:List (List AV)}(h:Hand bx f is rows):is.length=rows.length/\∀(k i:Nat),is[k]?=some i->∃row,bx[i]?=some row/\rows[k]?=some (ES f row):=by
 induction h with
 |nil=>exact⟨rfl,fun k i hk=>by simp at hk⟩
 |cons i row row' is rows h1 h2 _ ih=>
   refine⟨by simp[ih.1],fun k j hk=>?_⟩;subst h2
   cases k with
   |zero=>simp at hk;subst hk;exact⟨row,h1,rfl⟩
   |succ k=>simpa using ih.2 k j (by simpa using hk)
section
variable {E:Env}{G:Gh}{h:AH}{w:World}
theorem g8(hr:HRel E G h w){is:List Nat}{bs:List Nat}{rows:List (List AV)}(hnd:is.Nodup)(hbs:bs.length=is.length/\∀(k i:Nat),is[k]?=some i->∃b,G.bx[i]?=some b/\bs[k]?=some b)(hh:Hand h.bx (fun j=>JX j is 0) is rows):
    HRel ⟨w,bs,G.St⟩ ⟨G.St,bs,[]⟩ ⟨rows,[]⟩ w/\∀(j k b:Nat),JX j is 0=some k->G.bx[j]?=some b->bs[k]?=some b:=by
 have hmap:∀(j k b:Nat),JX j is 0=some k->G.bx[j]?=some b->bs[k]?=some b:=fun j k b hk hb=>by
  obtain⟨_,h1⟩:=Ta hk;rw[Nat.sub_zero]at h1;obtain⟨b',h2,h3⟩:=hbs.2 k j h1;rw[hb]at h2;injection h2 with h2;subst h2;exact h3
 have hmem:∀b∈bs,b∈G.bx:=fun b hb=>by
  obtain⟨k,hk⟩:=List.getElem?_of_mem hb;have hlt:k<is.length:=by rw[<-hbs.1];exact(AZ.1 hk).1
  obtain⟨b',h2,h3⟩:=hbs.2 k is[k] (B7 hlt);rw[hk]at h3;injection h3 with h3;subst h3;exact Aj h2
 refine⟨⟨fun _ _ h=>h,⟨rfl,rfl,rfl,As _,fun _ _ _=>rfl⟩,hr.stlt,fun _ _ h=> .inl h,by rw[hbs.1];exact hh.get.1,?_,fun b hb=>hr.bxst b (hmem b hb),fun b hb=> .inr hb,?_,rfl,by simp,by simp,by simp⟩,hmap⟩
 ·refine List.pairwise_iff_getElem.2 ?_;intro a c ha hc hac e;have ha':a<is.length:=by rw[<-hbs.1];exact ha
  have hc':c<is.length:=by rw[<-hbs.1];exact hc
  obtain⟨b1,p1,p2⟩:=hbs.2 a is[a] (B7 ha');obtain⟨b2,q1,q2⟩:=hbs.2 c is[c] (B7 hc');rw[B7 ha]at p2;rw[B7 hc]at q2;injection p2 with p2;injection q2 with q2;have e':b1=b2:=by rw[<-p2,<-q2];exact e
  obtain⟨l1,e1⟩:=AZ.1 p1;obtain⟨l2,e2⟩:=AZ.1 q1;have h3:is[a]=is[c]:=(List.getElem_inj hr.bxnd).1 (e1.trans (e'.trans e2.symm));have h4:=(List.getElem_inj hnd).1 h3;omega
 intro k b row hk hrow;have hlt:k<is.length:=by rw[<-hbs.1];exact(AZ.1 hk).1
 obtain⟨b',h2,h3⟩:=hbs.2 k is[k] (B7 hlt);obtain⟨row',h4,h5⟩:=hh.get.2 k is[k] (B7 hlt);simp only at hk hrow;rw[hk]at h3;injection h3 with h3;subst h3;rw[hrow]at h5;injection h5 with h5;subst h5;obtain⟨us,T,q1,q2,q3⟩:=hr.box is[k] b row' h2 h4;exact⟨us,T,q1,Nh (G:=G) (G':=⟨G.St,bs,[]⟩) rfl hmap _ _ q2,q3⟩
end
def FM(is:List Nat)(n:Nat)(j:Nat):Option Nat:=
 match is[j]? with
 |some i=>some i
 |none=>some (n+(j - is.length))
structure Back(bx:List (List AV))(is:List Nat)(bc:List (List AV))(bx':List (List AV)):Prop where
 len:bx'.length=bx.length+(bc.length - is.length)
 old:∀(i:Nat) (row:List AV),i∉is->bx[i]?=some row->bx'[i]?=some row
 ins:∀(k i:Nat) (row:List AV),is[k]?=some i->bc[k]?=some row->bx'[i]?=some (ES (FM is bx.length) row)
 new:∀(k:Nat) (row:List AV),bc[is.length+k]?=some row->bx'[bx.length+k]?=some (ES (FM is bx.length) row)
theorem g9{E:Env}{G:Gh}{h:AH}{w w':World}(hr:HRel E G h w){is bs:List Nat}(hbs:bs.length=is.length/\∀(k i:Nat),is[k]?=some i->∃b,G.bx[i]?=some b/\bs[k]?=some b){Gc:Gh}{bc bx':List (List AV)}
    (hc:HRel ⟨w,bs,G.St⟩ Gc ⟨bc,[]⟩ w') (he:Ext ⟨G.St,bs,[]⟩ w Gc w') (hk:Back h.bx is bc bx'):
    HRel E ⟨Gc.St,G.bx++Gc.bx.drop is.length,G.tk⟩ ⟨bx',h.tk⟩ w'/\Ext G w ⟨Gc.St,G.bx++Gc.bx.drop is.length,G.tk⟩ w'/\∀(j k b:Nat),FM is h.bx.length j=some k->Gc.bx[j]?=some b->(G.bx++Gc.bx.drop is.length)[k]?=some b:=by
 have hmem:∀b∈bs,b∈G.bx:=fun b hb=>by
  obtain⟨k,hk⟩:=List.getElem?_of_mem hb;have hlt:k<is.length:=by rw[<-hbs.1];exact(AZ.1 hk).1
  obtain⟨b',h2,h3⟩:=hbs.2 k is[k] (B7 hlt);rw[hk]at h3;injection h3 with h3;subst h3;exact Aj h2
 have hsz:w.heap.size<=w'.heap.size:=hc.kept.size;have hblk:∀k,k<w.heap.size->k∉bs->w'.heap[k]?=w.heap[k]?:=hc.kept.block;have hstc:∀b o,Gc.St b o->b<w.heap.size->G.St b o:=fun b o hs hb=>(hc.stnew b o hs).resolve_right (by simp only;omega);have hpre:∀(k b:Nat),bs[k]?=some b->Gc.bx[k]?=some b:=hc.inpre
 have hlen:is.length<=Gc.bx.length:=by
  rcases Nat.lt_or_ge Gc.bx.length is.length with h1|h1
  ·have h2:Gc.bx.length<bs.length:=by rw[hbs.1];exact h1
   have:=hpre _ _ (B7 h2);simp at this
  exact h1
 have hnew:∀b∈Gc.bx.drop is.length,w.heap.size<=b:=fun b hb=>by
  rcases hc.bxown b (List.mem_of_mem_drop hb)with h1|h1
  ·exact h1
  exfalso;obtain⟨k,hk1⟩:=List.getElem?_of_mem h1;have h2:=hpre k b hk1;obtain⟨m,hm⟩:=List.getElem?_of_mem hb;rw[List.getElem?_drop]at hm;obtain⟨l1,e1⟩:=AZ.1 h2;obtain⟨l2,e2⟩:=AZ.1 hm;have h3:=(List.getElem_inj hc.bxnd).1 (e1.trans e2.symm);have h4:k<bs.length:=(AZ.1 hk1).1;rw[hbs.1]at h4;omega
 have hmap:∀(j k b:Nat),FM is h.bx.length j=some k->Gc.bx[j]?=some b->(G.bx++Gc.bx.drop is.length)[k]?=some b:=by
  intro j k b hj hb;unfold FM at hj;split at hj
  ·rename_i i hi;injection hj with hj;subst hj;obtain⟨b',h2,h3⟩:=hbs.2 j i hi;have h4:=hpre j b' h3;rw[hb]at h4;injection h4 with h4;subst h4;rw[DD (AZ.1 h2).1];exact h2
  rename_i hi;injection hj with hj;subst hj;have hge:is.length<=j:=by simpa using hi
  rw[<-hr.bxlen,Er (by omega),List.getElem?_drop,show is.length+(G.bx.length+(j - is.length) - G.bx.length)=j by omega];exact hb
 have hext:Ext G w ⟨Gc.St,G.bx++Gc.bx.drop is.length,G.tk⟩ w':=⟨fun b o hs=>he.st b o hs,fun i b hb=>by
  show(G.bx++Gc.bx.drop is.length)[i]?=some b
  rw[DD (AZ.1 hb).1];exact hb,fun g n u hg=>⟨n,u,hg,As _,fun _=>rfl⟩⟩
 refine⟨⟨fun i b hb=>hext.bx i b (hr.inpre i b hb),?_,hc.stlt,?_,?_,?_,?_,?_,?_,hr.tklen,?_,?_,hr.tknd⟩,hext,hmap⟩
 ·have k:=hr.kept;have k':=hc.kept;refine⟨k'.os.trans k.os,k'.tape.trans k.tape,k'.output.trans k.output,Nat.le_trans k.size hsz,fun j hj hn=>(hblk j (Nat.lt_of_lt_of_le hj k.size) (fun e=>?_)).trans (k.block j hj hn)⟩;rcases hr.bxown j (hmem j e)with e|e
  ·omega
  exact hn e
 ·intro b' o hs;rcases hc.stnew b' o hs with h1|h1
  ·exact hr.stnew b' o h1
  exact .inr (Nat.le_trans hr.kept.size h1)
 ·have:=hc.bxlen;simp only at this ⊢;rw[List.length_append,List.length_drop,hk.len,hr.bxlen,this]
 ·refine List.nodup_append.2 ⟨hr.bxnd,hc.bxnd.sublist (List.drop_sublist _ _),fun a ha b hb e=>?_⟩;subst e;have:=hr.boxlt ha;have:=hnew a hb;omega
 ·intro b hb o hs;rcases List.mem_append.1 hb with hb|hb
  ·exact hr.bxst b hb o (hstc b o hs (hr.boxlt hb))
  exact hc.bxst b (List.mem_of_mem_drop hb) o hs
 ·intro b hb;rcases List.mem_append.1 hb with hb|hb
  ·exact hr.bxown b hb
  exact .inl (Nat.le_trans hr.kept.size (hnew b hb))
 ·intro i b row hi hrow;simp only at hi hrow;rcases Nat.lt_or_ge i G.bx.length with hlt|hge
  ·rw[DD hlt]at hi;by_cases hin:i∈is
   ·obtain⟨k,hk1⟩:=List.getElem?_of_mem hin;obtain⟨b',h2,h3⟩:=hbs.2 k i hk1;rw[hi]at h2;injection h2 with h2;subst h2;have h4:=hpre k b h3
    have hkl:k<bc.length:=by
     have:=hc.bxlen;simp only at this;rw[<-this];exact(AZ.1 h4).1
    have h5:=hk.ins k i _ hk1 (B7 hkl);rw[hrow]at h5;injection h5 with h5;subst h5;obtain⟨us,T,q1,q2,q3⟩:=hc.box k b _ h4 (B7 hkl);exact⟨us,T,q1,Nh (G:=Gc) (G':=⟨Gc.St,G.bx++Gc.bx.drop is.length,G.tk⟩) rfl hmap _ _ q2,q3⟩
   have hil:i<h.bx.length:=by rw[<-hr.bxlen];exact hlt
   have h5:=hk.old i _ hin (B7 hil);rw[hrow]at h5;injection h5 with h5;subst h5;obtain⟨us,T,q1,q2,q3⟩:=hr.box i b _ hi (B7 hil);have kd:=Aj hi;refine⟨us,T,(hblk b (hr.boxlt kd) (fun e=>hin ?_)).trans q1,Fs hext _ _ q2,q3⟩;obtain⟨k,hk1⟩:=List.getElem?_of_mem e;have hkl:k<is.length:=by rw[<-hbs.1];exact(AZ.1 hk1).1
   obtain⟨b',h2,h3⟩:=hbs.2 k is[k] (B7 hkl);rw[hk1]at h3;injection h3 with h3;subst h3;obtain⟨l1,e1⟩:=AZ.1 hi;obtain⟨l2,e2⟩:=AZ.1 h2;have:=(List.getElem_inj hr.bxnd).1 (e1.trans e2.symm);rw[this];exact List.getElem_mem hkl
  rw[Er hge,List.getElem?_drop]at hi
  have hkl:is.length+(i - G.bx.length)<bc.length:=by
   have:=hc.bxlen;simp only at this;rw[<-this];exact(AZ.1 hi).1
  have h5:=hk.new (i - G.bx.length) _ (B7 hkl);rw[<-hr.bxlen,show G.bx.length+(i - G.bx.length)=i by omega,hrow]at h5;injection h5 with h5;subst h5;obtain⟨us,T,q1,q2,q3⟩:=hc.box _ b _ hi (B7 hkl);have hmap2:∀(j k b:Nat),FM is G.bx.length j=some k->Gc.bx[j]?=some b->(G.bx++Gc.bx.drop is.length)[k]?=some b:=by rw[hr.bxlen];exact hmap
  exact⟨us,T,q1,Nh (G:=Gc) (G':=⟨Gc.St,G.bx++Gc.bx.drop is.length,G.tk⟩) rfl hmap2 _ _ q2,q3⟩
 ·intro g n u T sz rows hg ht;obtain⟨k1,⟨xs,k2⟩,k3⟩:=hr.tok g n u T sz rows hg ht;refine⟨k1,⟨xs,g7 k2 fun b hb=>hblk b (hr.toklt hg hb).2 fun e=>hr.tkbx g n u hg b hb (hmem b e)⟩,fun b' hb' o ho hs=>?_⟩;exact k3 b' hb' o ho (hstc b' o hs (hr.toklt hg hb').2)
 intro g n u hg b hb hm;rcases List.mem_append.1 hm with hm|hm
 ·exact hr.tkbx g n u hg b hb hm
 have:=(hr.toklt hg hb).2;have:=hnew b hm;omega
inductive ArgsM(f:Nat->Option Nat)(ev:Operand->Option AV):List Operand->List AV->Prop
 |nil:ArgsM f ev [] []
 |cons (o:Operand) (x y:AV) (l:List Operand) (ys:List AV):ev o=some x->LeA (Hn f x) y->ArgsM f ev l ys->ArgsM f ev (o::l) (y::ys)
section
variable {P:Program}{ev:Operand->Option AV}{bx:List (List AV)}{tk:List Cj}{R:AV->AH->Prop}{d:Option Tmp}{ty:TypeId}{pos:String}{af:Array Edge}{gd:Option (Nat×Bool)}{ats:Array TypeId}
theorem Bo{f:FuncId}{l:List Operand}{ys:List AV}{rows:List (List AV)}{R0:AV->List (List AV)->List Cj->Prop}(is:List Nat)[Fun P f](hfo:ev (.func f)=some (.fn f []))(ha:ArgsM (fun j=>JX j is 0) ev l ys)(hnd:is.Nodup)(hh:Hand bx (fun j=>JX j is 0) is rows)(hc:ACall P f ys rows R0)
    (hR:∀r bc tc,R0 r bc tc->tc=[]/\∃bx',Back bx is bc bx'/\R (Hn (FM is bx.length) r) ⟨bx',tk⟩):AStep P ⟨d, .call {callee:= .value (.func f),args:=l.toArray,argTypes:=ats},ty,pos,af,gd⟩ ev ⟨bx,tk⟩ R:=by
 intro E G w ec hr he;obtain⟨cs,k1,k2⟩:=My (he (.func f) (by simp[Op.operands,Call.operands]) _ hfo);simp only[AN]at k2;subst k2
 obtain⟨bs,hbs⟩:∃bs:List Nat,bs.length=is.length/\∀(k i:Nat),is[k]?=some i->∃b,G.bx[i]?=some b/\bs[k]?=some b:=by
  refine⟨is.map fun i=>(G.bx[i]?).getD 0,by simp,fun k i hk=>?_⟩;obtain⟨row,h1,_⟩:=hh.get.2 k i hk;have hlt:i<G.bx.length:=by rw[hr.bxlen];exact(AZ.1 h1).1
  exact⟨G.bx[i],B7 hlt,by rw[List.getElem?_map,hk];simp[hlt]⟩
 obtain⟨s1,s2⟩:=g8 hr hnd hbs hh;refine Mx k1 ?_;rw[List.append_nil]
 have hargs:∀{l:List Operand} {ys:List AV},ArgsM (fun j=>JX j is 0) ev l ys->(∀x∈l,∀av,ev x=some av->rep G w av (ec x))->AN ⟨G.St,bs,[]⟩ w ys (l.map ec):=by
  intro l ys h
  induction h with
  |nil=>intro _;simp only[List.map_nil,AN]
  |cons o x y l ys h1 h2 _ ih=>
    intro he;simp only[List.map_cons,AN];exact⟨_,_,rfl,h2 _ _ _ (Tc (G:=G) (G':=⟨G.St,bs,[]⟩) rfl s2 _ _ (he o (by simp) _ h1)),ih fun x hx=>he x (by simp[hx])⟩
 refine Calls.mono (hc w G.St bs _ s1 (hargs ha fun x hx av hav=>he x (by simp[Op.operands,Call.operands,hx]) av hav)) ?_;intro e w' h3
 cases e with
 |returned v=>
   obtain⟨r,bc,tc,Gc,hR0,h1,h2,h3⟩:=h3;obtain⟨rfl,bx',q1,q2⟩:=hR r bc tc hR0;obtain⟨m1,m2,m3⟩:=g9 hr hbs h1 h2 q1;exact⟨_,_,_,q2,m1,m2,Tc (G:=Gc) (G':=⟨Gc.St,G.bx++Gc.bx.drop is.length,G.tk⟩) rfl m3 _ _ h3⟩
 |panicked c=>exact h3.elim
 |outgrown=>exact h3.elim
end
end
end Go.Proofs.YtbgnigjfkbmceaaGreatDoor
