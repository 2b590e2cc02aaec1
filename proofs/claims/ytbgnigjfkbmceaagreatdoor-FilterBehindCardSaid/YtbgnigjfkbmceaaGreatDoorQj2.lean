/- Part 2 of the proof of FilterBehindP. -/
import Derived.WalkKit
import Derived.Laws.StructEq
import Derived.Laws.Pointers
import Derived.Test.YtbgnigjfkbmceaaGreatDoorProg
import Derived.WalkSpells
import Derived.WalkLawsBesides
import Derived.Deep.QuietTactic
import Derived.BigQuiet
import Derived.Lib.Hide
import Derived.Outline
import Derived.Test.YtbgnigjfkbmceaaGreatDoorQj1
open Go.Proofs.Tryz (prog)
set_option maxRecDepth 10000
set_option maxHeartbeats 4000000
set_option linter.unusedVariables false
set_option linter.unusedSimpArgs false
namespace Go.Proofs.YtbgnigjfkbmceaaGreatDoor
open Go.RowKit
section
def MO(sz:Nat):Nat->List AV->List (List AV)
 |0,_=>[]
 |n+1,row=>row.take sz::MO sz n (row.drop sz)
theorem Td(sz:Nat):∀(n:Nat) (row:List AV),(MO sz n row).length=n
 |0,_=>rfl
 |n+1,row=>by simp[MO,Td sz n]
theorem X7{sz:Nat}{sp:List AV}:∀{rows:List (List AV)},(∀r∈rows,r.length=sz)->MO sz rows.length (rows.flatten++sp)=rows
 |[],_=>rfl
 |r::rs,h=>by
   have hr:=h r (by simp);rw[List.length_cons,MO,List.flatten_cons,List.append_assoc,List.take_left' hr,List.drop_left' hr,X7 (fun x hx=>h x (by simp[hx]))]
theorem gA{St:Nat->Nat->Prop}{w:World}{b:Nat}{xs:List AV}{off:Nat}(h:Dd St w b xs off)(k:Nat):Dd St w b (xs.take k) off:=
 OH fun i x hi=>PM h (by
  rw[List.getElem?_take]at hi;split at hi
  ·exact hi
  cases hi)
theorem X8{St:Nat->Nat->Prop}{w:World}{b sz:Nat}:∀{n:Nat} {row:List AV} {off:Nat},Dd St w b row off->n * sz<=row.length->froR St w b sz (MO sz n row) off
 |0,_,_,_,_=>by simp only[MO,froR]
 |n+1,row,off,h,hl=>by
   rw[Nat.add_mul]at hl;simp only[MO,froR];exact⟨⟨by rw[List.length_take];omega,gA h sz⟩,X8 (OG h sz) (by rw[List.length_drop];omega)⟩
mutual
def Fc(g:Nat->Option (List AV)):AV->AV
 | .v x=> .v x
 | .agg cs=> .agg (Ky g cs)
 | .tup cs=> .tup (Ky g cs)
 | .sl sz rows _=> .sl sz rows none
 | .fp row=> .fp row
 | .bp j o=>match g j with
   |some row=> .fp (row.drop o)
   |none=> .any
 | .bs j o sz n _=>match g j with
   |some row=>match Nat.ble (o+n * sz) row.length with
     |true=> .sl sz (MO sz n (row.drop o)) none
     |false=> .any
   |none=> .any
 | .fn f caps=> .fn f (Ky g caps)
 | .any=> .any
def Ky(g:Nat->Option (List AV)):List AV->List AV
 |[]=>[]
 |x::xs=>Fc g x::Ky g xs
end
def Te(G:Gh)(w:World)(S:Nat->Nat->Prop)(g:Nat->Option (List AV)):Prop:=∀(j:Nat) (row:List AV) (b:Nat),g j=some row->G.bx[j]?=some b->Dd S w b row 0
section
variable {G:Gh}{w:World}{S:Nat->Nat->Prop}{g:Nat->Option (List AV)}(hS:∀b o,G.St b o->S b o/\w.cell? ⟨b,o,none⟩=w.cell? ⟨b,o,none⟩)(hg:Te G w S g)
include hS hg
mutual
theorem Rh:∀(x:AV) (v:Value),rep G w x v->Ai S w (Fc g x) v
 | .v _,_,k=>by simpa only[rep,Ai,Fc]using k
 | .agg cs,_,k=>by
   simp only[rep,Ai,Fc]at k ⊢;obtain⟨ys,h1,h2⟩:=k;exact⟨ys,h1,Pb cs ys h2⟩
 | .tup cs,_,k=>by
   simp only[rep,Ai,Fc]at k ⊢;obtain⟨ys,h1,h2⟩:=k;exact⟨ys,h1,Pb cs ys h2⟩
 | .sl sz rows none,_,k=>by simp only[rep,Fc]at k ⊢;exact JS hS _ _ k
 | .sl sz rows (some g),_,k=>by simp only[rep,Fc]at k ⊢;exact JS hS _ _ k.1
 | .fp row,_,k=>by
   simp only[rep,Ai,Fc]at k ⊢;obtain⟨b,off,h1,h2⟩:=k;exact⟨b,off,h1,NU hS _ _ _ h2⟩
 | .bp j o,v,k=>by
   simp only[rep]at k;obtain⟨b,h1,h2⟩:=k;simp only[Fc];split
   ·rename_i row e;simp only[Ai];have:=OG (hg j row b e h1) o;rw[Nat.zero_add]at this;exact⟨b,o,h2,this⟩
   simp only[Ai]
 | .bs j o sz n cap,v,k=>by
   simp only[rep]at k;obtain⟨b,h1,h2,h3,h4⟩:=k;simp only[Fc];split
   ·rename_i row e;split
    ·rename_i hl;have hl':=Bl hl;simp only[Ai];have:=OG (hg j row b e h1) o;rw[Nat.zero_add]at this;refine⟨trivial,some ⟨b,o,none⟩,cap,by rw[Td];exact h2,by rw[Td];exact h3,h4, .inr ⟨b,o,rfl,X8 this (by rw[List.length_drop];omega)⟩⟩
    simp only[Ai]
   simp only[Ai]
 | .fn f caps,_,k=>by
   simp only[rep,Ai,Fc]at k ⊢;obtain⟨ys,h1,h2⟩:=k;exact⟨ys,h1,Pb caps ys h2⟩
 | .any,_,_=>by simp only[Ai,Fc]
theorem Pb:∀(xs:List AV) (vs:List Value),AN G w xs vs->Bc S w (Ky g xs) vs
 |[],_,k=>by have _:=hS;have _:=hg;simpa only[AN,Bc,Ky]using k
 |x::xs,_,k=>by
   simp only[AN,Bc,Ky]at k ⊢;obtain⟨z,zs,h1,h2,h3⟩:=k;exact⟨z,zs,h1,Rh x z h2,Pb xs zs h3⟩
end
end
def Ey(n:Nat)(bx:List (List AV)):Nat->Nat->Option (List AV)
 |0,_=>none
 |k+1,j=>match Nat.blt j n with
   |true=>none
   |false=>(bx[j]?).map (Ky (Ey n bx k))
def Jl(G:Gh)(n:Nat)(b o:Nat):Prop:=G.St b o\/b∈G.bx.drop n
theorem Ni{G:Gh}{w:World}(n:Nat):∀b o,G.St b o->Jl G n b o/\w.cell? ⟨b,o,none⟩=w.cell? ⟨b,o,none⟩:=fun _ _ h=>⟨.inl h,rfl⟩
theorem Ri{E:Env}{G:Gh}{h:AH}{w:World}(hr:HRel E G h w)(n:Nat):∀k,Te G w (Jl G n) (Ey n h.bx k)
 |0=>fun j row b hj _=>by cases hj
 |k+1=>fun j row b hj hb=>by
   unfold Ey at hj;split at hj
   ·cases hj
   rename_i hlt
   have hge:n<=j:=by
    rcases Nat.lt_or_ge j n with h1|h1
    ·exfalso;have:Nat.blt j n=true:=by rw[Nat.blt_eq];exact h1
     rw[this]at hlt;cases hlt
    exact h1
   obtain⟨row0,h1,rfl⟩:=Option.map_eq_some_iff.1 hj;obtain⟨us,T,q1,q2,q3⟩:=hr.box j b row0 hb h1
   have hmem:b∈G.bx.drop n:=by
    refine Aj (i:=j - n) ?_;rw[List.getElem?_drop,show n+(j - n)=j by omega];exact hb
   refine TT (fun o=> .inr hmem) (Pb (Ni n) (Ri hr n k) _ _ q2) q3 fun i u hi=>?_;rw[Nat.zero_add];simp only[World.cell?,q1]
   simpa using hi
mutual
def Ho(n:Nat)(g:Nat->Option (List AV)):AV->AV
 | .v x=> .v x
 | .agg cs=> .agg (KQ n g cs)
 | .tup cs=> .tup (KQ n g cs)
 | .sl sz rows tok=> .sl sz rows tok
 | .fp row=> .fp row
 | .bp j o=>match Nat.blt j n with
   |true=> .bp j o
   |false=>Fc g (.bp j o)
 | .bs j o sz m cap=>match Nat.blt j n with
   |true=> .bs j o sz m cap
   |false=>Fc g (.bs j o sz m cap)
 | .fn f caps=> .fn f (KQ n g caps)
 | .any=> .any
def KQ(n:Nat)(g:Nat->Option (List AV)):List AV->List AV
 |[]=>[]
 |x::xs=>Ho n g x::KQ n g xs
end
section
variable {G:Gh}{w:World}{n:Nat}{g:Nat->Option (List AV)}(hg:Te G w (Jl G n) g)
include hg
mutual
theorem X9:∀(x:AV) (v:Value),rep G w x v->rep ⟨Jl G n,G.bx.take n,G.tk⟩ w (Ho n g x) v
 | .v _,_,k=>by simpa only[rep,Ho]using k
 | .agg cs,_,k=>by
   simp only[rep,Ho]at k ⊢;obtain⟨ys,h1,h2⟩:=k;exact⟨ys,h1,Pc cs ys h2⟩
 | .tup cs,_,k=>by
   simp only[rep,Ho]at k ⊢;obtain⟨ys,h1,h2⟩:=k;exact⟨ys,h1,Pc cs ys h2⟩
 | .sl sz rows none,_,k=>by simp only[rep,Ho]at k ⊢;exact JS (Ni n) _ _ k
 | .sl sz rows (some g),_,k=>by simp only[rep,Ho]at k ⊢;exact⟨JS (Ni n) _ _ k.1,k.2⟩
 | .fp row,_,k=>by
   simp only[rep,Ho]at k ⊢;obtain⟨b,off,h1,h2⟩:=k;exact⟨b,off,h1,NU (Ni n) _ _ _ h2⟩
 | .bp j o,v,k=>by
   simp only[Ho];split
   ·rename_i hlt;simp only[rep]at k ⊢;obtain⟨b,h1,h2⟩:=k;refine⟨b,?_,h2⟩;rw[Nat.blt_eq]at hlt;rw[List.getElem?_take,if_pos hlt];exact h1
   exact KL (G:=⟨Jl G n,G.bx.take n,G.tk⟩) _ _ (Rh (Ni n) hg _ _ k)
 | .bs j o sz m cap,v,k=>by
   simp only[Ho];split
   ·rename_i hlt;simp only[rep]at k ⊢;obtain⟨b,h1,h2⟩:=k;refine⟨b,?_,h2⟩;rw[Nat.blt_eq]at hlt;rw[List.getElem?_take,if_pos hlt];exact h1
   exact KL (G:=⟨Jl G n,G.bx.take n,G.tk⟩) _ _ (Rh (Ni n) hg _ _ k)
 | .fn f caps,_,k=>by
   simp only[rep,Ho]at k ⊢;obtain⟨ys,h1,h2⟩:=k;exact⟨ys,h1,Pc caps ys h2⟩
 | .any,_,_=>by simp only[rep,Ho]
theorem Pc:∀(xs:List AV) (vs:List Value),AN G w xs vs->AN ⟨Jl G n,G.bx.take n,G.tk⟩ w (KQ n g xs) vs
 |[],_,k=>by have _:=hg;simpa only[AN,KQ]using k
 |x::xs,_,k=>by
   simp only[AN,KQ]at k ⊢;obtain⟨z,zs,h1,h2,h3⟩:=k;exact⟨z,zs,h1,X9 x z h2,Pc xs zs h3⟩
end
end
theorem HRel.freeze{E:Env}{G:Gh}{h:AH}{w:World}(hr:HRel E G h w)(n k:Nat)(hn:E.ins.length<=n):HRel E ⟨Jl G n,G.bx.take n,G.tk⟩ ⟨(h.bx.take n).map (KQ n (Ey n h.bx k)),h.tk⟩ w:=by
 have hdis:∀b,b∈G.bx.take n->b∉G.bx.drop n:=fun b h1 h2=>by
  have:=hr.bxnd;rw[<-List.take_append_drop n G.bx]at this;exact(List.nodup_append.1 this).2.2 b h1 b h2 rfl
 refine⟨fun i b hi=>by rw[List.getElem?_take,if_pos (Nat.lt_of_lt_of_le (AZ.1 hi).1 hn)];exact hr.inpre i b hi,hr.kept,?_,?_,by simp[hr.bxlen],List.Nodup.sublist (List.take_sublist n G.bx) hr.bxnd,?_,fun b hb=>hr.bxown b (List.mem_of_mem_take hb),?_,hr.tklen,?_,fun g n' u hg b hb hm=>hr.tkbx g n' u hg b hb (List.mem_of_mem_take hm),hr.tknd⟩
 ·rintro b o (hs|hs)
  ·exact hr.stlt b o hs
  exact hr.boxlt (List.mem_of_mem_drop hs)
 ·rintro b o (hs|hs)
  ·exact hr.stnew b o hs
  rcases hr.bxown b (List.mem_of_mem_drop hs)with h1|h1
  ·exact .inr h1
  exfalso;obtain⟨i,hi⟩:=List.getElem?_of_mem h1;have h2:=hr.inpre i b hi;have h3:i<E.ins.length:=(AZ.1 hi).1;refine hdis b (Aj (i:=i) ?_) hs;rw[List.getElem?_take,if_pos (by omega)];exact h2
 ·rintro b hb o (hs|hs)
  ·exact hr.bxst b (List.mem_of_mem_take hb) o hs
  exact hdis b hb hs
 ·intro i b row hi hrow;simp only at hi hrow;rw[List.getElem?_map]at hrow;obtain⟨row0,h1,rfl⟩:=Option.map_eq_some_iff.1 hrow;rw[List.getElem?_take]at hi h1;split at hi
  ·rename_i hlt;rw[if_pos hlt]at h1;obtain⟨us,T,q1,q2,q3⟩:=hr.box i b row0 hi h1;exact⟨us,T,q1,Pc (Ri hr n k) _ _ q2,q3⟩
  cases hi
 intro g n' u T sz rows hg ht;obtain⟨k1,k2,k3⟩:=hr.tok g n' u T sz rows hg ht;refine⟨k1,k2,fun b hb o ho=>?_⟩;rintro(hs|hs)
 ·exact k3 b hb o ho hs
 exact hr.tkbx g n' u hg b hb (List.mem_of_mem_drop hs)
inductive SubF(n:Nat)(g:Nat->Option (List AV))(f:Nat->Option AV):List (Nat×AV)->Prop
 |nil:SubF n g f []
 |cons (t:Nat) (x y:AV) (l:List (Nat×AV)):f t=some x->LeA (Ho n g x) y->SubF n g f l->SubF n g f ((t,y)::l)
theorem Jm{f:Nat->Option AV}{bx bx':List (List AV)}{tk:List Cj}{l:List (Nat×AV)}{N:Dim}(n k:Nat)(hn:Nat.ble N.ni n=true)(hb:(bx.take n).map (KQ n (Ey n bx k))=bx')(hl:SubF n (Ey n bx k) f l):Weak N ⟨f,⟨bx,tk⟩⟩ ⟨look l,⟨bx',tk⟩⟩:=by
 rintro E a w ⟨G,h1,h2,h3,h4,h5⟩;subst hb;refine⟨_,h1.freeze n k (by rw[h5];exact Bl hn),?_,h3,h4,h5⟩;intro t x hx
 have key:∀{l:List (Nat×AV)},SubF n (Ey n bx k) f l->look l t=some x->rep ⟨Jl G n,G.bx.take n,G.tk⟩ w x (a.tmps.getD t undef):=by
  intro l hl
  induction hl with
  |nil=>intro h;cases h
  |cons t' x' y l e1 e2 _ ih=>
    intro h;rw[<-Mq,Kt]at h;split at h
    ·rename_i e;subst e;injection h with h;subst h;exact e2 _ _ _ (X9 (Ri h1 n k) _ _ (h2 t' x' e1))
    exact ih h
 exact key hl hx
inductive ArgsR(g:Nat->Option (List AV))(ev:Operand->Option AV):List Operand->List AV->Prop
 |nil:ArgsR g ev [] []
 |cons (o:Operand) (x y:AV) (l:List Operand) (ys:List AV):ev o=some x->LeA (Fc g x) y->ArgsR g ev l ys->ArgsR g ev (o::l) (y::ys)
section
variable {P:Program}{ev:Operand->Option AV}{bx:List (List AV)}{tk:List Cj}{R:AV->AH->Prop}{d:Option Tmp}{ty:TypeId}{pos:String}{af:Array Edge}{gd:Option (Nat×Bool)}{ats:Array TypeId}
theorem DX{f:FuncId}{l:List Operand}{ys:List AV}{R0:AV->Prop}(k:Nat)[Fun P f](hfo:ev (.func f)=some (.fn f []))(ha:ArgsR (Ey 0 bx k) ev l ys)(hc:AFn P f ys R0)(hR:∀r,R0 r->Kx r=true/\R r ⟨bx,tk⟩):AStep P ⟨d, .call {callee:= .value (.func f),args:=l.toArray,argTypes:=ats},ty,pos,af,gd⟩ ev ⟨bx,tk⟩ R:=by
 intro E G w ec hr he;obtain⟨cs,k1,k2⟩:=My (he (.func f) (by simp[Op.operands,Call.operands]) _ hfo);simp only[AN]at k2;subst k2;refine Mx k1 ?_;rw[List.append_nil]
 have hst:HRel ⟨w,[],Jl G 0⟩ ⟨Jl G 0,[],[]⟩ ⟨[],[]⟩ w:=by
  refine⟨by simp,⟨rfl,rfl,rfl,As _,fun _ _ _=>rfl⟩,?_,fun _ _ h=> .inl h,rfl,by simp,by simp,by simp,by simp,rfl,by simp,by simp,by simp⟩;rintro b o (hs|hs)
  ·exact hr.stlt b o hs
  exact hr.boxlt (List.mem_of_mem_drop hs)
 have hargs:∀{l:List Operand} {ys:List AV},ArgsR (Ey 0 bx k) ev l ys->(∀x∈l,∀av,ev x=some av->rep G w av (ec x))->AN ⟨Jl G 0,[],[]⟩ w ys (l.map ec):=by
  intro l ys h
  induction h with
  |nil=>intro _;simp only[List.map_nil,AN]
  |cons o x y l ys h1 h2 _ ih=>
    intro he;simp only[List.map_cons,AN];exact⟨_,_,rfl,h2 _ _ _ (KL (G:=⟨Jl G 0,[],[]⟩) _ _ (Rh (Ni 0) (Ri hr 0 k) _ _ (he o (by simp) _ h1))),ih fun x hx=>he x (by simp[hx])⟩
 refine Calls.mono (hc w (Jl G 0) [] _ hst (hargs ha fun x hx av hav=>he x (by simp[Op.operands,Call.operands,hx]) av hav)) ?_;intro e w' h3
 cases e with
 |returned v=>
   obtain⟨r,bx',tk',Gc,⟨rfl,rfl,hR0⟩,h1,h2,h3⟩:=h3;obtain⟨q1,q2⟩:=hR r hR0;have hk:=h1.kept;obtain⟨m1,m2⟩:=hr.below (w':=w') ⟨hk.os,hk.tape,hk.output,hk.size,fun k hk'=>hk.block k hk' (by simp)⟩;exact⟨r,_,G,q2,m1,m2,TU _ _ q1 h3⟩
 |panicked c=>exact h3.elim
 |outgrown=>exact h3.elim
end
end
section
mutual
def JY(f:Nat->Option Nat):AV->AV
 | .v x=> .v x
 | .agg cs=> .agg (Jn f cs)
 | .tup cs=> .tup (Jn f cs)
 | .sl sz rows tok=> .sl sz rows tok
 | .fp row=> .fp row
 | .bp j o=>match f j with
   |some k=> .bp k o
   |none=> .any
 | .bs j o sz n cap=>match f j with
   |some k=> .bs k o sz n cap
   |none=> .any
 | .fn g caps=> .fn g (Jn f caps)
 | .any=> .any
def Jn(f:Nat->Option Nat):List AV->List AV
 |[]=>[]
 |x::xs=>JY f x::Jn f xs
end
section
variable {G:Gh}{w:World}{bs:List Nat}{f:Nat->Option Nat}(hf:∀(j k b:Nat),f j=some k->G.bx[j]?=some b->bs[k]?=some b)
include hf
mutual
theorem XA:∀(x:AV) (v:Value),rep G w x v->rep ⟨G.St,bs,G.tk⟩ w (JY f x) v
 | .v _,_,h=>by simpa only[rep,JY]using h
 | .agg cs,_,h=>by
   simp only[rep,JY]at h ⊢;obtain⟨ys,h1,h2⟩:=h;exact⟨ys,h1,Pd cs ys h2⟩
 | .tup cs,_,h=>by
   simp only[rep,JY]at h ⊢;obtain⟨ys,h1,h2⟩:=h;exact⟨ys,h1,Pd cs ys h2⟩
 | .sl sz rows none,_,h=>by simpa only[rep,JY]using h
 | .sl sz rows (some g),_,h=>by simpa only[rep,JY]using h
 | .fp _,_,h=>by simpa only[rep,JY]using h
 | .bp j o,v,h=>by
   simp only[rep]at h;obtain⟨b,h1,h2⟩:=h;simp only[JY];split
   ·rename_i k e;simp only[rep];exact⟨b,hf j k b e h1,h2⟩
   simp only[rep]
 | .bs j o sz n cap,v,h=>by
   simp only[rep]at h;obtain⟨b,h1,h2⟩:=h;simp only[JY];split
   ·rename_i k e;simp only[rep];exact⟨b,hf j k b e h1,h2⟩
   simp only[rep]
 | .fn g caps,_,h=>by
   simp only[rep,JY]at h ⊢;obtain⟨ys,h1,h2⟩:=h;exact⟨ys,h1,Pd caps ys h2⟩
 | .any,_,_=>by simp only[rep,JY]
theorem Pd:∀(xs:List AV) (vs:List Value),AN G w xs vs->AN ⟨G.St,bs,G.tk⟩ w (Jn f xs) vs
 |[],_,h=>by have _:=hf;simpa only[AN,Jn]using h
 |x::xs,_,h=>by
   simp only[AN,Jn]at h ⊢;obtain⟨z,zs,h1,h2,h3⟩:=h;exact⟨z,zs,h1,XA x z h2,Pd xs zs h3⟩
end
end
inductive HandK(bx:List (List AV))(f:Nat->Option Nat):List Nat->List (List AV)->Prop
 |nil:HandK bx f [] []
 |cons (i:Nat) (row row':List AV) (is:List Nat) (rows:List (List AV)):bx[i]?=some row->Jn f row=row'->HandK bx f is rows->HandK bx f (i::is) (row'::rows)
theorem HandK.get{bx:List (List AV)}{f:Nat->Option Nat}{is:List Nat}{rows:List (List AV)}(h:HandK bx f is rows):is.length=rows.length/\∀(k i:Nat),is[k]?=some i->∃row,bx[i]?=some row/\rows[k]?=some (Jn f row):=by
 induction h with
 |nil=>exact⟨rfl,fun k i hk=>by simp at hk⟩
 |cons i row row' is rows h1 h2 _ ih=>
   refine⟨by simp[ih.1],fun k j hk=>?_⟩;subst h2
   cases k with
   |zero=>simp at hk;subst hk;exact⟨row,h1,rfl⟩
   |succ k=>simpa using ih.2 k j (by simpa using hk)
inductive SubK(g:Nat->Option Nat)(f:Nat->Option AV):List (Nat×AV)->Prop
 |nil:SubK g f []
 |cons (t:Nat) (x y:AV) (l:List (Nat×AV)):f t=some x->LeA (JY g x) y->SubK g f l->SubK g f ((t,y)::l)
theorem JZ{f:Nat->Option AV}{bx rows:List (List AV)}{tk:List Cj}{l:List (Nat×AV)}{N:Dim}(is:List Nat)(hn:∀i,i<N.ni->is[i]?=some i)(hnd:is.Nodup)(hh:HandK bx (fun j=>JX j is 0) is rows)(hl:SubK (fun j=>JX j is 0) f l):Weak N ⟨f,⟨bx,tk⟩⟩ ⟨look l,⟨rows,tk⟩⟩:=by
 rintro E a w ⟨G,hr,h2,h3,h4,h5⟩
 obtain⟨bs,hbs⟩:∃bs:List Nat,bs.length=is.length/\∀(k i:Nat),is[k]?=some i->∃b,G.bx[i]?=some b/\bs[k]?=some b:=by
  refine⟨is.map fun i=>(G.bx[i]?).getD 0,by simp,fun k i hk=>?_⟩;obtain⟨row,h1,_⟩:=hh.get.2 k i hk;have hlt:i<G.bx.length:=by rw[hr.bxlen];exact(AZ.1 h1).1
  exact⟨G.bx[i],B7 hlt,by rw[List.getElem?_map,hk];simp[hlt]⟩
 have hmap:∀(j k b:Nat),JX j is 0=some k->G.bx[j]?=some b->bs[k]?=some b:=fun j k b hk hb=>by
  obtain⟨_,h1⟩:=Ta hk;rw[Nat.sub_zero]at h1;obtain⟨b',h2,h3⟩:=hbs.2 k j h1;rw[hb]at h2;injection h2 with h2;subst h2;exact h3
 have hmem:∀b∈bs,b∈G.bx:=fun b hb=>by
  obtain⟨k,hk⟩:=List.getElem?_of_mem hb;have hlt:k<is.length:=by rw[<-hbs.1];exact(AZ.1 hk).1
  obtain⟨b',h2,h3⟩:=hbs.2 k is[k] (B7 hlt);rw[hk]at h3;injection h3 with h3;subst h3;exact Aj h2
 refine⟨⟨G.St,bs,G.tk⟩,⟨?_,hr.kept,hr.stlt,hr.stnew,by rw[hbs.1];exact hh.get.1,?_,fun b hb=>hr.bxst b (hmem b hb),fun b hb=>hr.bxown b (hmem b hb),?_,hr.tklen,hr.tok,fun g n u hg b hb hm=>hr.tkbx g n u hg b hb (hmem b hm),hr.tknd⟩,?_,h3,h4,h5⟩
 ·intro i b hi;have hlt:i<N.ni:=by rw[<-h5];exact(AZ.1 hi).1
  obtain⟨b',q1,q2⟩:=hbs.2 i i (hn i hlt);have:=hr.inpre i b hi;rw[this]at q1;injection q1 with q1;subst q1;exact q2
 ·refine List.pairwise_iff_getElem.2 ?_;intro a c ha hc hac e;have ha':a<is.length:=by rw[<-hbs.1];exact ha
  have hc':c<is.length:=by rw[<-hbs.1];exact hc
  obtain⟨b1,p1,p2⟩:=hbs.2 a is[a] (B7 ha');obtain⟨b2,q1,q2⟩:=hbs.2 c is[c] (B7 hc');rw[B7 ha]at p2;rw[B7 hc]at q2;injection p2 with p2;injection q2 with q2;have e':b1=b2:=by rw[<-p2,<-q2];exact e
  obtain⟨l1,e1⟩:=AZ.1 p1;obtain⟨l2,e2⟩:=AZ.1 q1;have h3:is[a]=is[c]:=(List.getElem_inj hr.bxnd).1 (e1.trans (e'.trans e2.symm));have h4:=(List.getElem_inj hnd).1 h3;omega
 ·intro k b row hk hrow;have hlt:k<is.length:=by rw[<-hbs.1];exact(AZ.1 hk).1
  obtain⟨b',h2,h3⟩:=hbs.2 k is[k] (B7 hlt);obtain⟨row',h4,h5⟩:=hh.get.2 k is[k] (B7 hlt);simp only at hk hrow;rw[hk]at h3;injection h3 with h3;subst h3;rw[hrow]at h5;injection h5 with h5;subst h5;obtain⟨us,T,q1,q2,q3⟩:=hr.box is[k] b row' h2 h4;exact⟨us,T,q1,Pd hmap _ _ q2,q3⟩
 intro t x hx
 have key:∀{l:List (Nat×AV)},SubK (fun j=>JX j is 0) f l->look l t=some x->rep ⟨G.St,bs,G.tk⟩ w x (a.tmps.getD t undef):=by
  intro l hl
  induction hl with
  |nil=>intro h;cases h
  |cons t' x' y l e1 e2 _ ih=>
    intro h;rw[<-Mq,Kt]at h;split at h
    ·rename_i e;subst e;injection h with h;subst h;exact e2 _ _ _ (XA hmap _ _ (h2 t' x' e1))
    exact ih h
 exact key hl hx
section
variable {P:Program}{ev:Operand->Option AV}{h:AH}{R:AV->AH->Prop}{d:Option Tmp}{ty:TypeId}{pos:String}{af:Array Edge}{gd:Option (Nat×Bool)}
theorem Rj{T:TypeId}{s y:Operand}{T' sz bytes m:Nat}{cs:List AV}{av:AV}{zrow:List AV}[hE:Elm P T T' sz bytes][hzr:Zer P T' zrow](hs:ev s=some (.v (.slice none 0 0)))(hy:ev y=some av)(hsrc:SrcA h sz av m cs)(hm:0<m)(hsm:m<=1000000)
    (grow:∀cap' k bx',m<=cap'->SnocAt h.bx (cs++List.replicate ((cap' - m) * sz) .any) k bx'->R (.bs k 0 sz m cap') ⟨bx',h.tk⟩):AStep P ⟨d, .call {callee:= .builtin .append,args:=#[s,y],argTypes:=#[T,T]},ty,pos,af,gd⟩ ev h R:=by
 intro E G w ec hr he;have k1:=he s (by simp[Op.operands,Call.operands]) _ hs;have k2:=he y (by simp[Op.operands,Call.operands]) _ hy;obtain⟨hu,inf,z,hinf,hz,hzs,hsz,hbts,hp⟩:=Gl hE.eq;obtain⟨ad,c,us,e1,e2,e3,e4,e5⟩:=hsrc.run hr k2 hp hm;simp only[rep]at k1;have hby:=hE.few;have hbb:m * bytes<=1000000 * 100000:=Nat.mul_le_mul hsm hby;have h63:m<=maxLen:=by unfold maxLen;omega
 have hrun:=run_append_nil (P:=P) w T ty T' inf z hu hinf hz ad m c us (by rw[hsz];exact e2) e5 hm (by omega) (by rw[hbts];omega);have hge:=grownCap_ge w m 0 T';have hcm:grownCap w m 0 T'<=maxLen:=grownCap_le_maxLen w m 0 T' h63;generalize hgc:grownCap w m 0 T'=cap' at hrun hge hcm;obtain⟨d1,d2⟩:=hr.drew;obtain⟨zs,hzc⟩:∃zs:List Value,Builtin.zeroCells z.cells (cap' - m)=zs.toArray:=⟨(Builtin.zeroCells z.cells (cap' - m)).toList,by simp⟩
 have hzl:zs.length=(cap' - m) * sz:=by
  have:=size_zeroCells z.cells (cap' - m);rw[hzc,hzs]at this
  simpa using this
 have hone:∀u∈zs,u.oneCell'=true:=by
  intro u hu;have:u∈Builtin.zeroCells z.cells (cap' - m):=by rw[hzc];simpa using hu
  exact X6 hzr hinf hz this
 have hrep:AN G w.drew (cs++List.replicate ((cap' - m) * sz) .any) (us++zs):=by
  refine Pa (Fs d2 _ _ e3) ?_;rw[<-hzl];exact Rg zs
 obtain⟨k,bx',hsn⟩:∃k bx',SnocAt h.bx (cs++List.replicate ((cap' - m) * sz) .any) k bx':=⟨_,_,TY _ _⟩
 obtain⟨G',s1,s2,s3⟩:=ON (T:=T') d1 hrep (by
  intro u hu;rcases List.mem_append.1 hu with hu|hu
  ·exact e4 u hu
  exact hone u hu) hsn
 rw[hzc]at hrun;have hcells:us.toArray++zs.toArray=(us++zs).toArray:=by simp
 rw[hcells]at hrun;simp only[rep]at s3;obtain⟨b',s4,s5⟩:=s3;simp only[execOp,resolve,invoke,builtin,Sem.run_bind,Sem.run_pure,Result.andThen_ok,List.map_toArray,List.map_cons,List.map_nil,k1,e1,hrun];refine⟨_,_,G',grow cap' k bx' hge hsn,s1,d2.trans s2,?_⟩;simp only[rep];injection s5 with s5;injection s5 with s5;injection s5 with s5;subst s5;exact⟨_,s4,rfl,hge,hcm⟩
end
end
section
variable {P:Program}{ev:Operand->Option AV}{h:AH}{R:AV->AH->Prop}{d:Option Tmp}{ty:TypeId}{pos:String}{af:Array Edge}{gd:Option (Nat×Bool)}
theorem gB{T E sz bytes:Nat}(hE:NX P T=some (E,sz,bytes))(hsz:sz<=100){v:Value}{us:List Value}(hv:v.cells=us.toArray)(hl:us.length=sz)(w:World):
    (Instr.buildSlice T 1 #[(0,v)]).run P w= .ok (.slice (some ⟨w.heap.size,0,none⟩) 1 1) (w.alloc (.cells us.toArray E)):=by
 obtain⟨hu,inf,z,hinf,hz,hzs,hs,hby,hp⟩:=Gl hE;refine run_buildSlice w T E 1 _ us.toArray inf z hu hinf hz (by rw[hs];omega) (by rw[hs];omega) ?_;obtain⟨r,h1,h2,h3⟩:=Great.fill_dense hp [v] 0 ((Array.range (1 * inf.size)).map (z.cells[· % z.cells.size]!)) (fun x hx=>by rw[List.mem_singleton.1 hx,hv];simpa using hl) (by simp[hs])
 have e:r=us.toArray:=by
  apply Array.ext_getElem?;intro k;rcases Nat.lt_or_ge k sz with hk|hk
  ·rw[h3,if_pos ⟨by omega,by simp;omega⟩,Nat.div_eq_of_lt hk,Nat.mod_eq_of_lt hk];simp[hv]
  rw[Array.getElem?_eq_none (by rw[h2];simp[hs];omega),Array.getElem?_eq_none (by simp;omega)]
 rw[hs]at h1 ⊢;rw[e]at h1
 simpa using h1
theorem gC{T:TypeId}{x:Operand}{E sz bytes k:Nat}{av:AV}{bx':List (List AV)}[hE:Elm P T E sz bytes](hx:ev x=some av)(h1:JV (Cf av)=true)(hl:Nat.beq (Cf av).length sz=true)(hsz:Nat.ble sz 100=true)(hs:SnocAt h.bx (Cf av) k bx')(hR:R (.bs k 0 sz 1 1) ⟨bx',h.tk⟩):
    AStep P ⟨d, .buildSlice T 1 #[(0,x)],ty,pos,af,gd⟩ ev h R:=by
 intro E' G w ec hr he;obtain⟨vs,k8,k9⟩:=OM (he x (by simp[Op.operands]) _ hx) h1;have hvl:=Kr k9;have hl':=Nat.eq_of_beq_eq_true hl;have hrun:=gB (P:=P) hE.eq (Bl hsz) k8 (by omega) w;obtain⟨G',q1,q2,q3⟩:=ON (T:=E) hr k9 (Ms k9 h1) hs;simp only[rep]at q3;obtain⟨b,q4,q5⟩:=q3;injection q5 with q5;injection q5 with q5;injection q5 with q5;subst q5;have hrun':(Instr.buildSlice T 1 (#[(0,x)].map fun p=>(p.1,ec p.2))).run P w= .ok (.slice (some ⟨w.heap.size,0,none⟩) 1 1) (w.alloc (.cells vs.toArray E)):=by simpa using hrun
 simp only[execOp,Sem.run_bind,hrun',Result.andThen_ok,Sem.run_pure];exact⟨_,_,G',hR,q1,q2,by simp only[rep];exact⟨_,q4,rfl,As _,by unfold maxLen;omega⟩⟩
end
section
variable {P:Program}{N:Dim}{Q:Exit->AS->Prop}{S:AH->Prop}{tl fuel:Nat}{l:List Oper}{listed:Array Bool}{m:List (Nat×AV)}{h:AH}
theorem gD{i j di dj:Nat}{op op':Op}{ty ty':TypeId}{pos pos':String}{af af':Array Edge}{gd gd':Option (Nat×Bool)}(hr:Region.ready .any l.toArray listed=[i,j])
    (hi:l[i]?=some ⟨some di,op,ty,pos,af,gd⟩) (hdi:Nat.blt di N.n=true) (hwi:Cv l.toArray (look m) ⟨some di,op,ty,pos,af,gd⟩=some true)
    (hj:l[j]?=some ⟨some dj,op',ty',pos',af',gd'⟩) (hdj:Nat.blt dj N.n=true) (hwj:Cv l.toArray (look m) ⟨some dj,op',ty',pos',af',gd'⟩=some true)
    (H1:AStep P ⟨some di,op,ty,pos,af,gd⟩ (CD (look m)) h (fun x h'=>(Nat.ble tl i=true\/S h')/\AAny P N l.toArray Q S tl fuel (listed.setIfInBounds i true) ⟨look ((di,x)::m),h'⟩))
    (H2:AStep P ⟨some dj,op',ty',pos',af',gd'⟩ (CD (look m)) h (fun x h'=>(Nat.ble tl j=true\/S h')/\AAny P N l.toArray Q S tl fuel (listed.setIfInBounds j true) ⟨look ((dj,x)::m),h'⟩)):AAny P N l.toArray Q S tl (fuel+1) listed ⟨look m,h⟩:=by
 refine⟨(fun h0=>by rw[hr]at h0;cases h0),fun k hk=>?_⟩;rw[hr]at hk;have hk':k=i\/k=j:=by simpa using hk
 rcases hk' with rfl|rfl
 ·unfold AOp;simp only[Ln hi];exact⟨hdi,true,hwi,fun _=>H1,fun h=>by cases h⟩
 unfold AOp;simp only[Ln hj];exact⟨hdj,true,hwj,fun _=>H2,fun h=>by cases h⟩
end
section
variable {P:Program}{N:Dim}{Q:Exit->AS->Prop}{s:AS}
def AC(P:Program)(N:Dim)(y:Code)(Q:Exit->AS->Prop)(s:AS):Prop:=By P N y Q s
theorem q_{x y:Code}(h:By P N x (KM (AC P N y Q) Q) s):By P N (.seq x y) Q s:=by
 intro E a w hr;refine wp_seq (wp_mono (h E a w hr) ?_);rintro e a' w' ⟨s',hq,hr'⟩
 cases e with
 |normal=>exact hq E a' w' hr'
 |exit id=>exact⟨s',hq,hr'⟩
 |goto l=>exact⟨s',hq,hr'⟩
 |ret=>exact⟨s',hq,hr'⟩
 |panic c=>exact⟨s',hq,hr'⟩
 |outgrown=>exact⟨s',hq,hr'⟩
theorem w_{id:Nat}{l:List Oper}{y:Code}(h:AL P N l.toArray (KM (AC P N y Q) Q) l s):By P N (.seq (.region id l.toArray false) y) Q s:=q_ (Aq h)
theorem t_{y:Code}(h:By P N y Q s):KM (AC P N y Q) Q .normal s:=h
theorem e_{ops:Array Oper}{y:Code}(h:By P N y Q s):AL P N ops (KM (AC P N y Q) Q) [] s:=Bu h
theorem AG{y:Code}(h:By P N y Q s):By P N .skip (KM (AC P N y Q) Q) s:=Ci h
theorem GQ{c:Operand}{x y:Code}{t:Bool}(hc:CD s.sl c=some (.v (.bool t)):=by rfl)(ht:t=true:=by first|rfl|assumption|simp[*])(h:By P N x Q s):By P N (.cond c x y) Q s:=fK hc ht h
theorem Ja{c:Operand}{x y:Code}{t:Bool}(hc:CD s.sl c=some (.v (.bool t)):=by rfl)(ht:t=false:=by first|rfl|assumption|simp[*])(h:By P N y Q s):By P N (.cond c x y) Q s:=fL hc ht h
end
section
variable {P:Program}{N:Dim}{Q:Exit->AS->Prop}{ops:Array Oper}{rest:List Oper}{l:List (Nat×AV)}{hh:AH}{op:Op}{ty:TypeId}{pos:String}{af:Array Edge}
theorem DT{d j:Nat}{want t:Bool}(hd:Nat.blt d N.n=true:=by rfl)(hy:yv ops (look l) j=some (some t):=by rfl)(ht:(t==want)=false:=by first|rfl|exact Wm ‹_›|exact Wn ‹_›|simp[*])(h:AL P N ops Q rest ⟨look ((d, .v undef)::l),hh⟩):AL P N ops Q (⟨some d,op,ty,pos,af,some (j,want)⟩::rest) ⟨look l,hh⟩:=fM hd hy ht h
theorem Jb{d j:Nat}{want:Bool}(hd:Nat.blt d N.n=true:=by rfl)(hy:yv ops (look l) j=some none:=by rfl)(h:AL P N ops Q rest ⟨look ((d, .v undef)::l),hh⟩):AL P N ops Q (⟨some d,op,ty,pos,af,some (j,want)⟩::rest) ⟨look l,hh⟩:=fN hd hy h
end
def KB:List (Nat×List AV)->AH->Prop
 |[],_=>True
 |(i,r)::l,h=>h.bx[i]?=some r/\KB l h
def Tf:List (Nat×List AV)->Nat->Option (List AV)
 |[],_=>none
 |(i,r)::l,j=>match Nat.beq i j with
   |true=>some r
   |false=>Tf l j
theorem kb:∀{l:List (Nat×List AV)} {h:AH} {i:Nat} {row:List AV},KB l h->Tf l i=some row->h.bx[i]?=some row
 |[],_,_,_,_,e=>by cases e
 |(j,r)::l,h,i,row,k,e=>by
   unfold Tf at e;split at e
   ·rename_i hb;have:=Nat.eq_of_beq_eq_true hb;subst this;injection e with e;subst e;exact k.1
   exact kb k.2 e
theorem OT(h:AH):KB [] h:=trivial
theorem OU{l:List (Nat×List AV)}{h:AH}{i:Nat}{r:List AV}(h1:h.bx[i]?=some r)(h2:KB l h):KB ((i,r)::l) h:=⟨h1,h2⟩
def Do(_i:Nat)(B A:Prop):Prop:=B->A
section
variable {P:Program}{N:Dim}{l:List Oper}{Q:Exit->AS->Prop}{S:AH->Prop}{tl fuel:Nat}{listed:Array Bool}{m:List (Nat×AV)}{hh:AH}{op:Op}{ty:TypeId}{pos:String}{af:Array Edge}{gd:Option (Nat×Bool)}
theorem DN{i d:Nat}{x:AV}(hi:l[i]?=some ⟨some d,op,ty,pos,af,gd⟩)(hst:AStep P ⟨some d,op,ty,pos,af,gd⟩ (CD (look m)) hh (fun x' h'=>x'=x/\h'=hh))(hd:Nat.blt d N.n=true:=by rfl)(htl:(Lm l.toArray tl listed&& !Nat.ble tl i&&Region.free .any l.toArray listed i&&(Region.ready .any l.toArray listed).contains i)=true:=by kernel_rfl)
    (hw:Cv l.toArray (look m) ⟨some d,op,ty,pos,af,gd⟩=some true:=by first|rfl|exact Ag rfl rfl (CM ‹_›)|exact Ag rfl rfl (CN ‹_›)|exact Ag rfl rfl (by simp[*])):
    Do i (AAny P N l.toArray Q (fun h'=>h'=hh) tl fuel (listed.setIfInBounds i true) ⟨look ((d,x)::m),hh⟩) (AAny P N l.toArray Q (fun h'=>h'=hh) tl (fuel+1) listed ⟨look m,hh⟩):=fun H=>WO hi hd htl hw hst H
theorem DO{K:List (Nat×List AV)}{i d:Nat}{x:AV}(hi:l[i]?=some ⟨some d,op,ty,pos,af,gd⟩)(hst:∀h,KB K h->AStep P ⟨some d,op,ty,pos,af,gd⟩ (CD (look m)) h (fun x' h'=>x'=x/\h'=h))(hd:Nat.blt d N.n=true:=by rfl)(htl:(Lm l.toArray tl listed&& !Nat.ble tl i&&Region.free .any l.toArray listed i&&(Region.ready .any l.toArray listed).contains i)=true:=by kernel_rfl)
    (hw:Cv l.toArray (look m) ⟨some d,op,ty,pos,af,gd⟩=some true:=by first|rfl|exact Ag rfl rfl (CM ‹_›)|exact Ag rfl rfl (CN ‹_›)|exact Ag rfl rfl (by simp[*])) (hS:KB K hh:=by repeat (first|exact OT _|refine OU rfl ?_)):
    Do i (AAny P N l.toArray Q (KB K) tl fuel (listed.setIfInBounds i true) ⟨look ((d,x)::m),hh⟩) (AAny P N l.toArray Q (KB K) tl (fuel+1) listed ⟨look m,hh⟩):=fun H=>Cw hi hd htl hw hst hS H
theorem CE{K:List (Nat×List AV)}(i:Nat){d:Nat}{x:AV}(hi:l[i]?=some ⟨some d,op,ty,pos,af,gd⟩)(hst:∀h,KB K h->AStep P ⟨some d,op,ty,pos,af,gd⟩ (CD (look m)) h (fun x' h'=>x'=x/\h'=h))(H:AAny P N l.toArray Q (KB K) tl fuel (listed.setIfInBounds i true) ⟨look ((d,x)::m),hh⟩)(hd:Nat.blt d N.n=true:=by rfl)(htl:(Lm l.toArray tl listed&& !Nat.ble tl i&&Region.free .any l.toArray listed i&&(Region.ready .any l.toArray listed).contains i)=true:=by kernel_rfl)
    (hw:Cv l.toArray (look m) ⟨some d,op,ty,pos,af,gd⟩=some true:=by first|rfl|exact Ag rfl rfl (CM ‹_›)|exact Ag rfl rfl (CN ‹_›)|exact Ag rfl rfl (by simp[*])) (hS:KB K hh:=by repeat (first|exact OT _|refine OU rfl ?_)):AAny P N l.toArray Q (KB K) tl (fuel+1) listed ⟨look m,hh⟩:=Cw hi hd htl hw hst hS H
theorem BX(i:Nat){d:Nat}(hi:l[i]?=some ⟨some d,op,ty,pos,af,gd⟩:=by rfl)(hd:Nat.blt d N.n=true:=by rfl)(htl:(Lm l.toArray tl listed&& !Nat.ble tl i&&Region.free .any l.toArray listed i&&(Region.ready .any l.toArray listed).contains i)=true:=by kernel_rfl)
    (hw:Cv l.toArray (look m) ⟨some d,op,ty,pos,af,gd⟩=some false:=by first|rfl|exact T6 rfl rfl (Wm ‹_›)|exact T6 rfl rfl (Wn ‹_›)|exact eT rfl rfl|exact T6 rfl rfl (by simp[*]))
    (hS:S hh:=by first|rfl|(repeat (first|exact OT _|refine OU rfl ?_))) (h:AAny P N l.toArray Q S tl fuel (listed.setIfInBounds i true) ⟨look ((d, .v undef)::m),hh⟩):AAny P N l.toArray Q S tl (fuel+1) listed ⟨look m,hh⟩:=eN hi hd htl hw hS h
theorem c_(i:Nat){d:Nat}(hi:l[i]?=some ⟨some d,op,ty,pos,af,gd⟩)(H:AStep P ⟨some d,op,ty,pos,af,gd⟩ (CD (look m)) hh (fun x h'=>(Nat.ble tl i=true\/S h')/\AAny P N l.toArray Q S tl fuel (listed.setIfInBounds i true) ⟨look ((d,x)::m),h'⟩))(hd:Nat.blt d N.n=true:=by rfl)(hr:Region.ready .any l.toArray listed=[i]:=by kernel_rfl)
    (hw:Cv l.toArray (look m) ⟨some d,op,ty,pos,af,gd⟩=some true:=by first|rfl|exact Ag rfl rfl (CM ‹_›)|exact Ag rfl rfl (CN ‹_›)|exact Ag rfl rfl (by simp[*])):AAny P N l.toArray Q S tl (fuel+1) listed ⟨look m,hh⟩:=eO hi hd hr hw H
theorem H7(i:Nat)(hi:l[i]?=some ⟨none,op,ty,pos,af,gd⟩)(H:AStep P ⟨none,op,ty,pos,af,gd⟩ (CD (look m)) hh (fun _ h'=>(Nat.ble tl i=true\/S h')/\AAny P N l.toArray Q S tl fuel (listed.setIfInBounds i true) ⟨look m,h'⟩))(hr:Region.ready .any l.toArray listed=[i]:=by kernel_rfl)
    (hw:Cv l.toArray (look m) ⟨none,op,ty,pos,af,gd⟩=some true:=by first|rfl|exact Ag rfl rfl (CM ‹_›)|exact Ag rfl rfl (CN ‹_›)|exact Ag rfl rfl (by simp[*])):AAny P N l.toArray Q S tl (fuel+1) listed ⟨look m,hh⟩:=eQ hi hr hw H
theorem Ed(i j:Nat){di dj:Nat}{op':Op}{ty':TypeId}{pos':String}{af':Array Edge}{gd':Option (Nat×Bool)}(hi:l[i]?=some ⟨some di,op,ty,pos,af,gd⟩)(hj:l[j]?=some ⟨some dj,op',ty',pos',af',gd'⟩)
    (H1:AStep P ⟨some di,op,ty,pos,af,gd⟩ (CD (look m)) hh (fun x h'=>(Nat.ble tl i=true\/S h')/\AAny P N l.toArray Q S tl fuel (listed.setIfInBounds i true) ⟨look ((di,x)::m),h'⟩))
    (H2:AStep P ⟨some dj,op',ty',pos',af',gd'⟩ (CD (look m)) hh (fun x h'=>(Nat.ble tl j=true\/S h')/\AAny P N l.toArray Q S tl fuel (listed.setIfInBounds j true) ⟨look ((dj,x)::m),h'⟩))
    (hdi:Nat.blt di N.n=true:=by rfl) (hdj:Nat.blt dj N.n=true:=by rfl) (hr:Region.ready .any l.toArray listed=[i,j]:=by kernel_rfl)
    (hwi:Cv l.toArray (look m) ⟨some di,op,ty,pos,af,gd⟩=some true:=by first|rfl|exact Ag rfl rfl (CM ‹_›)|exact Ag rfl rfl (CN ‹_›)|exact Ag rfl rfl (by simp[*]))
    (hwj:Cv l.toArray (look m) ⟨some dj,op',ty',pos',af',gd'⟩=some true:=by first|rfl|exact Ag rfl rfl (CM ‹_›)|exact Ag rfl rfl (CN ‹_›)|exact Ag rfl rfl (by simp[*])):AAny P N l.toArray Q S tl (fuel+1) listed ⟨look m,hh⟩:=gD hr hi hdi hwi hj hdj hwj H1 H2
theorem o_{i:Nat}{A:Prop}{h':AH}(hS:Nat.ble tl i=true\/S h':=by first|exact .inl rfl|exact .inr rfl|exact .inr (by repeat (first|exact OT _|refine OU rfl ?_)))(h:A):(Nat.ble tl i=true\/S h')/\A:=⟨hS,h⟩
theorem z_(hr:Region.ready .any l.toArray listed=[]:=by kernel_rfl)(h:Q .normal ⟨look m,hh⟩):AAny P N l.toArray Q S tl fuel listed ⟨look m,hh⟩:=eS hr h fuel
theorem E0(tl:Nat){id:Nat}(hm:P.follows .mixedOrders=true:=by kernel_rfl)(h:AAny P N l.toArray Q (fun h'=>h'=hh) tl l.length (Array.replicate l.length false) ⟨look m,hh⟩):By P N (.region id l.toArray true) Q ⟨look m,hh⟩:=eR tl hm h
theorem BJ(K:List (Nat×List AV))(tl:Nat){id:Nat}(hm:P.follows .mixedOrders=true:=by kernel_rfl)(h:AAny P N l.toArray Q (KB K) tl l.length (Array.replicate l.length false) ⟨look m,hh⟩):By P N (.region id l.toArray true) Q ⟨look m,hh⟩:=OK _ tl hm h
end
section
variable {P:Program}{rs:List ResultVar}{n:Nat}{R:AV->List (List AV)->List Cj->Prop}{s:AS}{xs:List AV}{r:AV}
theorem AO(g:Option Nat){tk':List Cj}(h1:ResA P s rs xs:=by repeat (first|exact ResA.nil|(apply ResA.tmp;(focus exact rfl))|(apply ResA.cellN;(focus exact inferInstance);(focus exact rfl);(focus exact rfl);(focus exact rfl))|(apply ResA.cell1;(focus exact inferInstance);(focus exact rfl);(focus exact rfl);(focus exact rfl))))(h2:Mv s.h.tk g=some tk':=by rfl)(h3:Aa n 1 (Ec g (Gm xs))=true:=by rfl)(h4:Am n 0 (s.h.bx.take n)=true:=by rfl)(h5:LeA (Ec g (Gm xs)) r)(h6:R r (s.h.bx.take n) tk'):Mw P rs n R .ret s:=RK g h1 h2 h3 h4 h5 h6
theorem Rk(g:Option Nat){tk':List Cj}(h1:ResA P s rs xs:=by repeat (first|exact ResA.nil|(apply ResA.tmp;(focus exact rfl))|(apply ResA.cellN;(focus exact inferInstance);(focus exact rfl);(focus exact rfl);(focus exact rfl))|(apply ResA.cell1;(focus exact inferInstance);(focus exact rfl);(focus exact rfl);(focus exact rfl))))(h2:Mv s.h.tk g=some tk':=by rfl)(h3:Aa n 1 (Ec g (Gm xs))=true:=by rfl)(h4:Am n 0 (s.h.bx.take n)=true:=by rfl)(h5:LeA (Ec g (Gm xs)) r)(h6:R r (s.h.bx.take n) tk'):Mw P rs n R .normal s:=fE g h1 h2 h3 h4 h5 h6
end
theorem Tg{f:Nat->Option AV}{bx rows:List (List AV)}{tk:List Cj}{l:List (Nat×AV)}{N:Dim}(is:List Nat)(hn:∀i,i<N.ni->is[i]?=some i:=by exact fun i hi=>absurd hi (Nat.not_lt_zero i))(hnd:is.Nodup:=by decide)(hh:HandK bx (fun j=>JX j is 0) is rows:=by repeat (first|exact .nil|refine .cons _ _ _ _ _ rfl rfl ?_))(hl:SubK (fun j=>JX j is 0) f l:=by repeat (first|exact .nil|refine .cons _ _ _ _ rfl (A6 _) ?_)):Weak N ⟨f,⟨bx,tk⟩⟩ ⟨look l,⟨rows,tk⟩⟩:=JZ is hn hnd hh hl
theorem m_{A B:Prop}(k:B->A:=by intro b;first|exact C0 rfl (JB rfl b)|exact Ak (JB rfl b))(h:B):A:=k h
theorem AE(i:Nat){A B:Prop}(k:Do i B A:=by first|exact DN rfl (JB rfl ⟨rfl,rfl⟩)|exact DO rfl (fun _ _=>JB rfl ⟨rfl,rfl⟩))(h:B):A:=k h
theorem a_{A B:Prop}(k:B->A:=by intro b;first|exact C0 rfl (JU rfl b)|exact Ak (JU rfl b))(h:B):A:=k h
theorem B8(i:Nat){A B:Prop}(k:Do i B A:=by first|exact DN rfl (JU rfl ⟨rfl,rfl⟩)|exact DO rfl (fun _ _=>JU rfl ⟨rfl,rfl⟩))(h:B):A:=k h
theorem f_{A B:Prop}(k:B->A:=by intro b;first|exact C0 rfl (H4 rfl b)|exact C0 rfl (Qu rfl b)|exact Ak (H4 rfl b)|exact Ak (Qu rfl b))(h:B):A:=k h
theorem AA(i:Nat){A B:Prop}(k:Do i B A:=by first|exact DN rfl (H4 rfl ⟨rfl,rfl⟩)|exact DN rfl (Qu rfl ⟨rfl,rfl⟩)|exact DO rfl (fun _ _=>H4 rfl ⟨rfl,rfl⟩)|exact DO rfl (fun _ _=>Qu rfl ⟨rfl,rfl⟩))(h:B):A:=k h
theorem l_{A B:Prop}(k:B->A:=by intro b;first|exact C0 rfl (Fa rfl rfl rfl b)|exact C0 rfl (Kv rfl rfl rfl b)|exact C0 rfl (OL rfl rfl b)|exact C0 rfl (Qv rfl rfl b)|exact C0 rfl (KN rfl rfl rfl b)|exact C0 rfl (PQ rfl rfl b)|exact Ak (Fa rfl rfl rfl b)|exact Ak (Kv rfl rfl rfl b)|exact Ak (OL rfl rfl b)|exact Ak (Qv rfl rfl b)|exact Ak (KN rfl rfl rfl b)|exact Ak (PQ rfl rfl b))(h:B):A:=k h
theorem A9(i:Nat){A B:Prop}(k:Do i B A:=by first|exact DN rfl (Fa rfl rfl rfl ⟨rfl,rfl⟩)|exact DN rfl (Kv rfl rfl rfl ⟨rfl,rfl⟩)|exact DN rfl (OL rfl rfl ⟨rfl,rfl⟩)|exact DN rfl (Qv rfl rfl ⟨rfl,rfl⟩)|exact DN rfl (KN rfl rfl rfl ⟨rfl,rfl⟩)|exact DN rfl (PQ rfl rfl ⟨rfl,rfl⟩)|exact DO rfl (fun _ hS=>Fa rfl (kb hS rfl) rfl ⟨rfl,rfl⟩)|exact DO rfl (fun _ hS=>Kv rfl (kb hS rfl) rfl ⟨rfl,rfl⟩)|exact DO rfl (fun _ _=>OL rfl rfl ⟨rfl,rfl⟩)|exact DO rfl (fun _ _=>Qv rfl rfl ⟨rfl,rfl⟩)|exact DO rfl (fun _ hS=>KN rfl (kb hS rfl) rfl ⟨rfl,rfl⟩)|exact DO rfl (fun _ _=>PQ rfl rfl ⟨rfl,rfl⟩))(h:B):A:=k h
theorem s_{A B:Prop}(k:B->A:=by intro b;exact Mz (Es rfl rfl rfl rfl rfl rfl (by repeat constructor) (by repeat constructor) b))(h:B):A:=k h
theorem b_{A B:Prop}(k:B->A:=by intro b;first|exact C0 rfl (RQ rfl rfl (by repeat constructor) b)|exact C0 rfl (Wo rfl rfl (by repeat constructor) b)|exact Ak (RQ rfl rfl (by repeat constructor) b)|exact Ak (Wo rfl rfl (by repeat constructor) b))(h:B):A:=k h
theorem Ck{A B:Prop}(k:B->A:=by intro b;first|exact C0 rfl (Bn (by repeat constructor) b)|exact Ak (Bn (by repeat constructor) b))(h:B):A:=k h
theorem n_{A B:Prop}(k:B->A:=by intro b;first|exact C0 rfl (RF rfl b)|exact C0 rfl (RE (by kernel_rfl) rfl b)|exact C0 rfl (RG rfl b)|exact Ak (RF rfl b)|exact Ak (RE (by kernel_rfl) rfl b)|exact Ak (RG rfl b))(h:B):A:=k h
theorem N1(i:Nat){A B:Prop}(k:Do i B A:=by first|exact DN rfl (RF rfl ⟨rfl,rfl⟩)|exact DN rfl (RE (by kernel_rfl) rfl ⟨rfl,rfl⟩)|exact DN rfl (RG rfl ⟨rfl,rfl⟩)|exact DO rfl (fun _ _=>RF rfl ⟨rfl,rfl⟩)|exact DO rfl (fun _ _=>RE (by kernel_rfl) rfl ⟨rfl,rfl⟩)|exact DO rfl (fun _ _=>RG rfl ⟨rfl,rfl⟩))(h:B):A:=k h
theorem G8{A B:Prop}(k:B->A:=by intro b;first|exact C0 rfl (G7 rfl rfl rfl (by simp<;>omega) (by repeat constructor) b)|exact C0 rfl (N0 rfl rfl (by simp<;>omega) (by repeat constructor) b)|exact Ak (G7 rfl rfl rfl (by simp<;>omega) (by repeat constructor) b)|exact Ak (N0 rfl rfl (by simp<;>omega) (by repeat constructor) b))(h:B):A:=k h
theorem x_{A B:Prop}(k:B->A:=by intro b;first|exact C0 rfl (Qs rfl rfl b)|exact Ak (Qs rfl rfl b))(h:B):A:=k h
theorem B6(i:Nat){A B:Prop}(k:Do i B A:=by first|exact DN rfl (Qs rfl rfl ⟨rfl,rfl⟩)|exact DO rfl (fun _ _=>Qs rfl rfl ⟨rfl,rfl⟩))(h:B):A:=k h
theorem k_{A B:Prop}(k:B->A:=by intro b;first|exact C0 rfl (Lo rfl b)|exact C0 rfl (Qt rfl b)|exact Ak (Lo rfl b)|exact Ak (Qt rfl b))(h:B):A:=k h
theorem BA(i:Nat){A B:Prop}(k:Do i B A:=by first|exact DN rfl (Lo rfl ⟨rfl,rfl⟩)|exact DN rfl (Qt rfl ⟨rfl,rfl⟩)|exact DO rfl (fun _ _=>Lo rfl ⟨rfl,rfl⟩)|exact DO rfl (fun _ _=>Qt rfl ⟨rfl,rfl⟩))(h:B):A:=k h
theorem Bd{A B:Prop}(k:B->A:=by intro b;first|exact C0 rfl (PU (by repeat (first|exact FillA.nil _|(apply FillA.cons;(focus exact rfl);(focus exact rfl);(focus exact rfl);(focus exact rfl);(focus exact rfl);(focus (repeat constructor))))) b)|exact Ak (PU (by repeat (first|exact FillA.nil _|(apply FillA.cons;(focus exact rfl);(focus exact rfl);(focus exact rfl);(focus exact rfl);(focus exact rfl);(focus (repeat constructor))))) b))(h:B):A:=k h
theorem Kz(i:Nat){A B:Prop}(k:Do i B A:=by first|exact DN rfl (PU (by repeat (first|exact FillA.nil _|(apply FillA.cons;(focus exact rfl);(focus exact rfl);(focus exact rfl);(focus exact rfl);(focus exact rfl);(focus (repeat constructor))))) ⟨rfl,rfl⟩)|exact DO rfl (fun _ _=>PU (by repeat (first|exact FillA.nil _|(apply FillA.cons;(focus exact rfl);(focus exact rfl);(focus exact rfl);(focus exact rfl);(focus exact rfl);(focus (repeat constructor))))) ⟨rfl,rfl⟩))(h:B):A:=k h
theorem BT{A B:Prop}(k:B->A:=by intro b;first|exact C0 rfl (PV (by repeat (first|exact DenseA.nil _|(apply DenseA.cons;(focus exact rfl);(focus exact rfl);(focus exact rfl);(focus exact rfl))|(apply DenseA.consE;(focus exact rfl);(focus exact rfl);(focus exact rfl)))) rfl rfl rfl rfl b)|exact Ak (PV (by repeat (first|exact DenseA.nil _|(apply DenseA.cons;(focus exact rfl);(focus exact rfl);(focus exact rfl);(focus exact rfl))|(apply DenseA.consE;(focus exact rfl);(focus exact rfl);(focus exact rfl)))) rfl rfl rfl rfl b))(h:B):A:=k h
theorem KR(i:Nat){A B:Prop}(k:Do i B A:=by first|exact DN rfl (PV (by repeat (first|exact DenseA.nil _|(apply DenseA.cons;(focus exact rfl);(focus exact rfl);(focus exact rfl);(focus exact rfl))|(apply DenseA.consE;(focus exact rfl);(focus exact rfl);(focus exact rfl)))) rfl rfl rfl rfl ⟨rfl,rfl⟩)|exact DO rfl (fun _ _=>PV (by repeat (first|exact DenseA.nil _|(apply DenseA.cons;(focus exact rfl);(focus exact rfl);(focus exact rfl);(focus exact rfl))|(apply DenseA.consE;(focus exact rfl);(focus exact rfl);(focus exact rfl)))) rfl rfl rfl rfl ⟨rfl,rfl⟩))(h:B):A:=k h
theorem Bm{A B:Prop}(k:B->A:=by intro b;first|exact C0 rfl (Rb b)|exact Ak (Rb b))(h:B):A:=k h
theorem Ls(i:Nat){A B:Prop}(k:Do i B A:=by first|exact DN rfl (Rb ⟨rfl,rfl⟩)|exact DO rfl (fun _ _=>Rb ⟨rfl,rfl⟩))(h:B):A:=k h
theorem C3{A B:Prop}(k:B->A:=by intro b;first|exact C0 rfl (Rc b)|exact Ak (Rc b))(h:B):A:=k h
theorem L0(i:Nat){A B:Prop}(k:Do i B A:=by first|exact DN rfl (Rc ⟨rfl,rfl⟩)|exact DO rfl (fun _ _=>Rc ⟨rfl,rfl⟩))(h:B):A:=k h
theorem Th{A B:Prop}(k:B->A:=by intro b;first|exact C0 rfl (WP rfl b)|exact Ak (WP rfl b))(h:B):A:=k h
theorem i_{A B:Prop}(k:B->A:=by intro b;first|exact C0 rfl (DM rfl rfl rfl (by first|assumption|rfl) b)|exact Ak (DM rfl rfl rfl (by first|assumption|rfl) b))(h:B):A:=k h
theorem E1(i:Nat){A B:Prop}(k:Do i B A:=by first|exact DN rfl (DM rfl rfl rfl (by first|assumption|rfl) ⟨rfl,rfl⟩)|exact DO rfl (fun _ _=>DM rfl rfl rfl (by first|assumption|rfl) ⟨rfl,rfl⟩))(h:B):A:=k h
theorem Ti{A B:Prop}(k:B->A:=by intro b;first|exact C0 rfl (TP rfl rfl (by omega) (by repeat constructor) b)|exact Ak (TP rfl rfl (by omega) (by repeat constructor) b))(h:B):A:=k h
theorem D1{A B:Prop}(k:B->A:=by intro b;first|exact C0 rfl (RD rfl b)|exact Ak (RD rfl b))(h:B):A:=k h
theorem gE(i:Nat){A B:Prop}(k:Do i B A:=by first|exact DN rfl (RD rfl ⟨rfl,rfl⟩)|exact DO rfl (fun _ _=>RD rfl ⟨rfl,rfl⟩))(h:B):A:=k h
theorem Ez{A B:Prop}(k:B->A:=by intro b;first|exact C0 rfl (NY rfl rfl (by omega) b)|exact C0 rfl (Hl rfl rfl (by omega) b)|exact C0 rfl (TF rfl rfl b)|exact Ak (NY rfl rfl (by omega) b)|exact Ak (Hl rfl rfl (by omega) b)|exact Ak (TF rfl rfl b))(h:B):A:=k h
theorem LQ{A B:Prop}(k:B->A:=by intro b;first|exact C0 rfl (Mt rfl rfl (by omega) b)|exact C0 rfl (PT rfl rfl b)|exact Ak (Mt rfl rfl (by omega) b)|exact Ak (PT rfl rfl b))(h:B):A:=k h
theorem Tj(i:Nat){A B:Prop}(k:Do i B A:=by first|exact DN rfl (Mt rfl rfl (by omega) ⟨rfl,rfl⟩)|exact DN rfl (PT rfl rfl ⟨rfl,rfl⟩)|exact DO rfl (fun _ _=>Mt rfl rfl (by omega) ⟨rfl,rfl⟩)|exact DO rfl (fun _ _=>PT rfl rfl ⟨rfl,rfl⟩))(h:B):A:=k h
theorem gF{A B:Prop}(k:B->A:=by intro b;first|exact C0 rfl (WV rfl rfl b)|exact Ak (WV rfl rfl b))(h:B):A:=k h
theorem Df{A B:Prop}(k:B->A:=by intro b;first|exact C0 rfl (R3 rfl rfl b)|exact C0 rfl (R9 rfl rfl b)|exact C0 rfl (RT (by kernel_rfl) rfl rfl b)|exact Ak (R3 rfl rfl b)|exact Ak (R9 rfl rfl b)|exact Ak (RT (by kernel_rfl) rfl rfl b))(h:B):A:=k h
theorem KS(i:Nat){A B:Prop}(k:Do i B A:=by first|exact DN rfl (R3 rfl rfl ⟨rfl,rfl⟩)|exact DN rfl (R9 rfl rfl ⟨rfl,rfl⟩)|exact DN rfl (RT (by kernel_rfl) rfl rfl ⟨rfl,rfl⟩)|exact DO rfl (fun _ _=>R3 rfl rfl ⟨rfl,rfl⟩)|exact DO rfl (fun _ _=>R9 rfl rfl ⟨rfl,rfl⟩)|exact DO rfl (fun _ _=>RT (by kernel_rfl) rfl rfl ⟨rfl,rfl⟩))(h:B):A:=k h
theorem Hp{A B:Prop}(k:B->A:=by intro b;first|exact C0 rfl (R4 rfl rfl b)|exact C0 rfl (RA rfl rfl b)|exact C0 rfl (RU (by kernel_rfl) rfl rfl b)|exact Ak (R4 rfl rfl b)|exact Ak (RA rfl rfl b)|exact Ak (RU (by kernel_rfl) rfl rfl b))(h:B):A:=k h
theorem Pe(i:Nat){A B:Prop}(k:Do i B A:=by first|exact DN rfl (R4 rfl rfl ⟨rfl,rfl⟩)|exact DN rfl (RA rfl rfl ⟨rfl,rfl⟩)|exact DN rfl (RU (by kernel_rfl) rfl rfl ⟨rfl,rfl⟩)|exact DO rfl (fun _ _=>R4 rfl rfl ⟨rfl,rfl⟩)|exact DO rfl (fun _ _=>RA rfl rfl ⟨rfl,rfl⟩)|exact DO rfl (fun _ _=>RU (by kernel_rfl) rfl rfl ⟨rfl,rfl⟩))(h:B):A:=k h
theorem Jc{A B:Prop}(k:B->A:=by intro b;first|exact C0 rfl (R5 rfl rfl b)|exact C0 rfl (RB rfl rfl b)|exact Ak (R5 rfl rfl b)|exact Ak (RB rfl rfl b))(h:B):A:=k h
theorem gG(i:Nat){A B:Prop}(k:Do i B A:=by first|exact DN rfl (R5 rfl rfl ⟨rfl,rfl⟩)|exact DN rfl (RB rfl rfl ⟨rfl,rfl⟩)|exact DO rfl (fun _ _=>R5 rfl rfl ⟨rfl,rfl⟩)|exact DO rfl (fun _ _=>RB rfl rfl ⟨rfl,rfl⟩))(h:B):A:=k h
theorem Hq{A B:Prop}(k:B->A:=by intro b;first|exact C0 rfl (R6 rfl rfl b)|exact Ak (R6 rfl rfl b))(h:B):A:=k h
theorem gH(i:Nat){A B:Prop}(k:Do i B A:=by first|exact DN rfl (R6 rfl rfl ⟨rfl,rfl⟩)|exact DO rfl (fun _ _=>R6 rfl rfl ⟨rfl,rfl⟩))(h:B):A:=k h
theorem ET{A B:Prop}(k:B->A:=by intro b;first|exact C0 rfl (R7 rfl rfl b)|exact Ak (R7 rfl rfl b))(h:B):A:=k h
theorem Tk(i:Nat){A B:Prop}(k:Do i B A:=by first|exact DN rfl (R7 rfl rfl ⟨rfl,rfl⟩)|exact DO rfl (fun _ _=>R7 rfl rfl ⟨rfl,rfl⟩))(h:B):A:=k h
theorem Dt{A B:Prop}(k:B->A:=by intro b;first|exact C0 rfl (R8 rfl rfl b)|exact C0 rfl (RC rfl rfl b)|exact Ak (R8 rfl rfl b)|exact Ak (RC rfl rfl b))(h:B):A:=k h
theorem XB(i:Nat){A B:Prop}(k:Do i B A:=by first|exact DN rfl (R8 rfl rfl ⟨rfl,rfl⟩)|exact DN rfl (RC rfl rfl ⟨rfl,rfl⟩)|exact DO rfl (fun _ _=>R8 rfl rfl ⟨rfl,rfl⟩)|exact DO rfl (fun _ _=>RC rfl rfl ⟨rfl,rfl⟩))(h:B):A:=k h
theorem Fd{A B:Prop}(k:B->A:=by intro b;first|exact C0 rfl (Wq rfl rfl b)|exact Ak (Wq rfl rfl b))(h:B):A:=k h
theorem at_{A B:Prop}(k:B->A:=by intro b;first|exact C0 rfl (Wy rfl rfl b)|exact Ak (Wy rfl rfl b))(h:B):A:=k h
theorem gJ{A B:Prop}(k:B->A:=by intro b;first|exact C0 rfl (Wr rfl rfl b)|exact Ak (Wr rfl rfl b))(h:B):A:=k h
theorem Rl{A B:Prop}(k:B->A:=by intro b;first|exact C0 rfl (Ws rfl rfl (by omega) b)|exact Ak (Ws rfl rfl (by omega) b))(h:B):A:=k h
theorem CF{f:Nat->Option AV}{bx:List (List AV)}{tk:List (Nat×Nat×List (List AV))}{l:List (Nat×AV)}{N:Dim}(n m:Nat){bx':List (List AV)}{tk':List (Nat×Nat×List (List AV))}(hbp:Am n m bx'=true)(hn:Nat.ble N.ni n=true:=by rfl)(hb:bx.take n=bx':=by rfl)(ht:tk.take m=tk':=by rfl)(hl:Sub n m f l:=by repeat (first|exact Sub.nil|refine Sub.cons _ _ _ rfl rfl ?_|refine Sub.any _ _ ?_|refine Sub.sl _ _ _ _ _ rfl ?_|refine Sub.slnil _ _ _ rfl ?_)):Weak N ⟨f,⟨bx,tk⟩⟩ ⟨look l,⟨bx',tk'⟩⟩:=At n m hn hb ht hbp hl
theorem E3{P:Program}{ev:Operand->Option AV}{h:AH}{R:AV->AH->Prop}{d:Option Tmp}{ty:TypeId}{pos:String}{af:Array Edge}{gd:Option (Nat×Bool)}{T:TypeId}{l:List (Nat×Operand)}{pl:List (Nat×Nat)}{row cs:List AV}[hp:Plc P T pl][hz:Zer P T row](hR:R (.agg cs) h)(hf:FillA pl ev row l cs:=by repeat (first|exact FillA.nil _|(apply FillA.cons;(focus exact rfl);(focus exact rfl);(focus exact rfl);(focus exact rfl);(focus exact rfl);(focus (repeat constructor))))):AStep P ⟨d, .build T l.toArray,ty,pos,af,gd⟩ ev h R:=PU hf hR
theorem Hr{P:Program}{ev:Operand->Option AV}{h:AH}{R:AV->AH->Prop}{o:Oper}{x y:AV}(hs:AStep P o ev h fun r h'=>r=x/\h'=h)(hR:R y h)(hl:LeA x y:=by repeat (first|exact A6 _|exact LeA.nil _|exact LeL.refl _|refine LeA.agg ?_|refine LeA.tup ?_|exact LeL.nil|refine LeL.cons ?_ ?_|exact LeA.any _)):AStep P o ev h R:=JC hs hl hR
theorem A3{P:Program}{N:Dim}{Q:Exit->AS->Prop}{s:AS}{c:Operand}{x y:Code}{t:Bool}{p q:Prop}[BP t true p][BP t false q](hc:CD s.sl c=some (.v (.bool t)))(ht:t=true->p->By P N x Q s)(hf:t=false->q->By P N y Q s):By P N (.cond c x y) Q s:=Sz hc (fun h=>ht h (bp h)) (fun h=>hf h (bp h))
theorem AF{P:Program}{N:Dim}{Q:Exit->AS->Prop}{ops:Array Oper}{rest:List Oper}{l:List (Nat×AV)}{hh:AH}{o:Oper}{j:Nat}{t:Bool}{p q:Prop}[BP t true p][BP t false q](want:Bool)(hg:o.guard=some (j,want))(hy:yv ops (look l) j=some (some t))(h1:t=true->p->AL P N ops Q (o::rest) ⟨look l,hh⟩)(h2:t=false->q->AL P N ops Q (o::rest) ⟨look l,hh⟩):AL P N ops Q (o::rest) ⟨look l,hh⟩:=fP want hg hy (fun h=>h1 h (bp h)) (fun h=>h2 h (bp h))
theorem B1{n m i:Nat}{r:AV}{bx bx':List (List AV)}{xs:List (List AV)}{Z:List (List AV)->Prop}(h:Z bx')(h1:Aa n m r=true:=by rfl)(hs:SetAt bx i xs bx':=by repeat constructor):Aa n m r=true/\∃b,SetAt bx i xs b/\Z b:=⟨h1,bx',hs,h⟩
theorem gK{P:Program}{N:Dim}{l:List Oper}{Q:Exit->AS->Prop}{S:AH->Prop}{tl fuel:Nat}{listed:Array Bool}{m:List (Nat×AV)}{ty:TypeId}{pos:String}{af:Array Edge}{gd:Option (Nat×Bool)}{bx bx':List (List AV)}{tk:List Cj}{i T sz a o:Nat}{ag:Bool}{x y:Operand}{av:AV}{row row':List AV}[Typ P T sz ag](hi:l[i]?=some ⟨none,.store T x y,ty,pos,af,gd⟩)(hx:CD (look m) x=some (.bp a o))(hy:CD (look m) y=some av)(hb:bx[a]?=some row)(h1:JV (Cf av)=true)(hl:Nat.beq (Cf av).length sz=true)(hpos:Nat.blt 0 sz=true)(hs:SetAt row o (Cf av) row')(hset:SetAt bx a [row'] bx')(hr:Region.ready .any l.toArray listed=[i])(hw:Cv l.toArray (look m) ⟨none,.store T x y,ty,pos,af,gd⟩=some true)(hS:Nat.ble tl i=true\/S ⟨bx',tk⟩):Do i (AAny P N l.toArray Q S tl fuel (listed.setIfInBounds i true) ⟨look m,⟨bx',tk⟩⟩) (AAny P N l.toArray Q S tl (fuel+1) listed ⟨look m,⟨bx,tk⟩⟩):=fun H=>H7 i hi (Es hx hy hb h1 hl hpos hs hset ⟨hS,H⟩) hr hw
theorem Ax(i:Nat){A B:Prop}(k:Do i B A:=by exact gK rfl rfl rfl rfl rfl rfl rfl (by repeat constructor) (by repeat constructor) (by kernel_rfl) (by first|rfl|exact Ag rfl rfl (CM ‹_›)|exact Ag rfl rfl (CN ‹_›)|exact Ag rfl rfl (by simp[*])) (by first|exact .inl rfl|exact .inr rfl|exact .inr (by repeat (first|exact OT _|refine OU rfl ?_))))(h:B):A:=k h
theorem AK{P:Program}{N:Dim}{Q:Exit->AS->Prop}{ops:Array Oper}{rest:List Oper}{l:List (Nat×AV)}{hh:AH}{d:Nat}{ty:TypeId}{pos:String}{af:Array Edge}{f:FuncId}{xs:List Operand}{ys:List AV}{X:AV}{ats:Array TypeId}[Fun P f](hc:AFn P f ys (fun r=>r=X))(h:AL P N ops Q rest ⟨look ((d,X)::l),hh⟩)(hd:Nat.blt d N.n=true:=by rfl)(hfo:CD (look l) (.func f)=some (.fn f []):=by rfl)(ha:Args (CD (look l)) xs ys:=by repeat (first | exact Args.nil | refine Args.cons _ _ _ _ _ rfl (LP rfl) ?_ | refine Args.cons _ _ _ _ _ rfl (MK _) ?_ | refine Args.cons _ _ _ _ _ rfl (Lq _) ?_ | refine Args.cons _ _ _ _ _ rfl (MM rfl (by repeat (first | exact A6 _ | exact LeA.nil _ | exact LeL.refl _ | refine LeA.agg ?_ | refine LeA.tup ?_ | exact LeL.nil | refine LeL.cons ?_ ?_ | exact LeA.any _))) ?_)):AL P N ops Q (⟨some d,.call {callee:=.value (.func f),args:=xs.toArray,argTypes:=ats},ty,pos,af,none⟩::rest) ⟨look l,hh⟩:=C0 hd (AX hc (fun r hr=>by subst hr;exact h) hfo ha)
theorem A7{P:Program}{N:Dim}{Q:Exit->AS->Prop}{ops:Array Oper}{rest:List Oper}{l:List (Nat×AV)}{hh:AH}{d:Nat}{op:Op}{ty:TypeId}{pos:String}{af:Array Edge}(h:AStep P ⟨some d,op,ty,pos,af,none⟩ (CD (look l)) hh (fun x h'=>AL P N ops Q rest ⟨look ((d,x)::l),h'⟩))(hd:Nat.blt d N.n=true:=by rfl):AL P N ops Q (⟨some d,op,ty,pos,af,none⟩::rest) ⟨look l,hh⟩:=C0 hd h
theorem Cx{A:Prop}(h:False:=by first|contradiction|omega):A:=h.elim
structure HsB (B:Prop):Prop where
 h:B
theorem Ay{A B:Prop}(k:HsB B->A:=by intro b;exact a_ (h:=e_ (b.1)))(h:B):A:=k ⟨h⟩
theorem Ac{A B:Prop}(k:HsB B->A:=by intro b;exact f_ (h:=l_ (h:=b.1)))(h:B):A:=k ⟨h⟩
theorem BB{A B:Prop}(k:HsB B->A:=by intro b;exact DT (h:=DT (h:=b.1)))(h:B):A:=k ⟨h⟩
theorem BW{A B:Prop}(k:HsB B->A:=by intro b;exact Ay (h:=BH (b.1)))(h:B):A:=k ⟨h⟩
theorem Ab{A B:Prop}(k:HsB B->A:=by intro b;exact w_ (m_ (h:=b.1)))(h:B):A:=k ⟨h⟩
theorem Hs{A B:Prop}(k:HsB B->A:=by intro b;exact BB (h:=DT (h:=b.1)))(h:B):A:=k ⟨h⟩
theorem FN{A B:Prop}(k:HsB B->A:=by intro b;exact BW (h:=Bp (b.1)))(h:B):A:=k ⟨h⟩
theorem Be{A B:Prop}(k:HsB B->A:=by intro b;exact q_ (Ab (h:=b.1)))(h:B):A:=k ⟨h⟩
theorem B2{A B:Prop}(k:HsB B->A:=by intro b;exact w_ (Ac (h:=b.1)))(h:B):A:=k ⟨h⟩
theorem Et{A B:Prop}(k:HsB B->A:=by intro b;exact Df (h:=Ay (h:=b.1)))(h:B):A:=k ⟨h⟩
theorem Tl{A B:Prop}(k:HsB B->A:=by intro b;exact BW (h:=ML (b.1)))(h:B):A:=k ⟨h⟩
theorem BE{A B:Prop}(k:HsB B->A:=by intro b;exact Tl (h:=Bp (b.1)))(h:B):A:=k ⟨h⟩
theorem GR{A B:Prop}(k:HsB B->A:=by intro b;exact Bd (h:=s_ (h:=b.1)))(h:B):A:=k ⟨h⟩
theorem Bg{A B:Prop}(k:HsB B->A:=by intro b;exact Bm (h:=m_ (h:=b.1)))(h:B):A:=k ⟨h⟩
theorem Lt{A B:Prop}(k:HsB B->A:=by intro b;exact Ck (h:=s_ (h:=b.1)))(h:B):A:=k ⟨h⟩
theorem Bw{A B:Prop}(k:HsB B->A:=by intro b;exact w_ (l_ (h:=b.1)))(h:B):A:=k ⟨h⟩
theorem CO{A B:Prop}(k:HsB B->A:=by intro b;exact BB (h:=BB (h:=b.1)))(h:B):A:=k ⟨h⟩
theorem BZ{A B:Prop}(k:HsB B->A:=by intro b;exact C3 (h:=m_ (h:=b.1)))(h:B):A:=k ⟨h⟩
theorem Du{A B:Prop}(k:HsB B->A:=by intro b;exact Ay (h:=Be (h:=b.1)))(h:B):A:=k ⟨h⟩
theorem BU{A B:Prop}(k:HsB B->A:=by intro b;exact Aq (m_ (h:=b.1)))(h:B):A:=k ⟨h⟩
theorem LR{A B:Prop}(k:HsB B->A:=by intro b;exact x_ (h:=x_ (h:=b.1)))(h:B):A:=k ⟨h⟩
theorem Cy{A B:Prop}(k:HsB B->A:=by intro b;exact f_ (h:=s_ (h:=b.1)))(h:B):A:=k ⟨h⟩
theorem Ft{A B:Prop}(k:HsB B->A:=by intro b;exact m_ (h:=LR (h:=b.1)))(h:B):A:=k ⟨h⟩
theorem Cl{A B:Prop}(k:HsB B->A:=by intro b;exact Ay (h:=Ab (h:=b.1)))(h:B):A:=k ⟨h⟩
theorem Gp{A B:Prop}(k:HsB B->A:=by intro b;exact Jb (h:=Jb (h:=b.1)))(h:B):A:=k ⟨h⟩
theorem Ee{A B:Prop}(k:HsB B->A:=by intro b;exact w_ (b_ (h:=b.1)))(h:B):A:=k ⟨h⟩
theorem Ht{A B:Prop}(k:HsB B->A:=by intro b;exact a_ (h:=Bu (b.1)))(h:B):A:=k ⟨h⟩
theorem BC{A B:Prop}(k:HsB B->A:=by intro b;exact w_ (FN (h:=b.1)))(h:B):A:=k ⟨h⟩
theorem Rm{A B:Prop}(k:HsB B->A:=by intro b;exact BU (h:=Ez (h:=b.1)))(h:B):A:=k ⟨h⟩
theorem Az{A B:Prop}(k:HsB B->A:=by intro b;exact w_ (Et (h:=b.1)))(h:B):A:=k ⟨h⟩
theorem Fe{A B:Prop}(k:HsB B->A:=by intro b;exact Ee (h:=b_ (h:=b.1)))(h:B):A:=k ⟨h⟩
theorem Nj{A B:Prop}(k:HsB B->A:=by intro b;exact Rm (h:=Ht (h:=b.1)))(h:B):A:=k ⟨h⟩
theorem C9{A B:Prop}(k:HsB B->A:=by intro b;exact Bw (h:=l_ (h:=b.1)))(h:B):A:=k ⟨h⟩
theorem Gq{A B:Prop}(k:HsB B->A:=by intro b;exact w_ (GR (h:=b.1)))(h:B):A:=k ⟨h⟩
theorem EU{A B:Prop}(k:HsB B->A:=by intro b;exact Ft (h:=Lt (h:=b.1)))(h:B):A:=k ⟨h⟩
theorem Bj{A B:Prop}(k:HsB B->A:=by intro b;exact Gq (h:=FN (h:=b.1)))(h:B):A:=k ⟨h⟩
theorem G9{A B:Prop}(k:HsB B->A:=by intro b;exact Hs (h:=Bm (h:=b.1)))(h:B):A:=k ⟨h⟩
theorem BR{A B:Prop}(k:HsB B->A:=by intro b;exact w_ (BE (h:=b.1)))(h:B):A:=k ⟨h⟩
theorem E4{A B:Prop}(k:HsB B->A:=by intro b;exact f_ (h:=Ac (h:=b.1)))(h:B):A:=k ⟨h⟩
theorem Co{A B:Prop}(k:HsB B->A:=by intro b;exact Hs (h:=Bg (h:=b.1)))(h:B):A:=k ⟨h⟩
theorem DY{A B:Prop}(k:HsB B->A:=by intro b;exact a_ (h:=FN (h:=b.1)))(h:B):A:=k ⟨h⟩
theorem DE{A B:Prop}(k:HsB B->A:=by intro b;exact Hs (h:=C3 (h:=b.1)))(h:B):A:=k ⟨h⟩
theorem D2{A B:Prop}(k:HsB B->A:=by intro b;exact Ac (h:=Df (h:=b.1)))(h:B):A:=k ⟨h⟩
theorem Fu{A B:Prop}(k:HsB B->A:=by intro b;exact q_ (B2 (h:=b.1)))(h:B):A:=k ⟨h⟩
theorem DZ{A B:Prop}(k:HsB B->A:=by intro b;exact w_ (Ay (h:=b.1)))(h:B):A:=k ⟨h⟩
theorem CG{A B:Prop}(k:HsB B->A:=by intro b;exact Ac (h:=Hp (h:=b.1)))(h:B):A:=k ⟨h⟩
theorem Ff{A B:Prop}(k:HsB B->A:=by intro b;exact Jc (h:=e_ (b.1)))(h:B):A:=k ⟨h⟩
theorem BO{A B:Prop}(k:HsB B->A:=by intro b;exact Df (h:=e_ (b.1)))(h:B):A:=k ⟨h⟩
theorem D3{A B:Prop}(k:HsB B->A:=by intro b;exact Hp (h:=e_ (b.1)))(h:B):A:=k ⟨h⟩
theorem XC{A B:Prop}(k:HsB B->A:=by intro b;exact Bw (h:=s_ (h:=b.1)))(h:B):A:=k ⟨h⟩
theorem Nk{A B:Prop}(k:HsB B->A:=by intro b;exact e_ (GQ (h:=b.1)))(h:B):A:=k ⟨h⟩
theorem Cp{A B:Prop}(k:HsB B->A:=by intro b;exact m_ (h:=m_ (h:=b.1)))(h:B):A:=k ⟨h⟩
theorem CY{A B:Prop}(k:HsB B->A:=by intro b;exact D1 (h:=e_ (b.1)))(h:B):A:=k ⟨h⟩
theorem GS{A B:Prop}(k:HsB B->A:=by intro b;exact Hs (h:=BZ (h:=b.1)))(h:B):A:=k ⟨h⟩
theorem Cq{A B:Prop}(k:HsB B->A:=by intro b;exact C3 (h:=e_ (b.1)))(h:B):A:=k ⟨h⟩
theorem Gr{A B:Prop}(k:HsB B->A:=by intro b;exact Ac (h:=n_ (h:=b.1)))(h:B):A:=k ⟨h⟩
theorem Nl{A B:Prop}(k:HsB B->A:=by intro b;exact EU (h:=Du (h:=b.1)))(h:B):A:=k ⟨h⟩
theorem Rn{A B:Prop}(k:HsB B->A:=by intro b;exact Nj (h:=AT (b.1)))(h:B):A:=k ⟨h⟩
theorem gL{A B:Prop}(k:HsB B->A:=by intro b;exact t_ (Rn (h:=b.1)))(h:B):A:=k ⟨h⟩
theorem FO{A B:Prop}(k:HsB B->A:=by intro b;exact Bz (gL (h:=b.1)))(h:B):A:=k ⟨h⟩
theorem KT{A B:Prop}(k:HsB B->A:=by intro b;exact w_ (BW (h:=b.1)))(h:B):A:=k ⟨h⟩
theorem L3{A B:Prop}(k:HsB B->A:=by intro b;exact Bm (h:=Nk (h:=b.1)))(h:B):A:=k ⟨h⟩
theorem Dv{A B:Prop}(k:HsB B->A:=by intro b;exact Df (h:=m_ (h:=b.1)))(h:B):A:=k ⟨h⟩
theorem Dw{A B:Prop}(k:HsB B->A:=by intro b;exact k_ (h:=E4 (h:=b.1)))(h:B):A:=k ⟨h⟩
theorem Hu{A B:Prop}(k:HsB B->A:=by intro b;exact CO (h:=Gp (h:=b.1)))(h:B):A:=k ⟨h⟩
theorem E5{A B:Prop}(k:HsB B->A:=by intro b;exact Ee (h:=Ck (h:=b.1)))(h:B):A:=k ⟨h⟩
theorem E6{A B:Prop}(k:HsB B->A:=by intro b;exact i_ (h:=l_ (h:=b.1)))(h:B):A:=k ⟨h⟩
theorem CP{A B:Prop}(k:HsB B->A:=by intro b;exact Lt (h:=e_ (b.1)))(h:B):A:=k ⟨h⟩
theorem EG{A B:Prop}(k:HsB B->A:=by intro b;exact Jc (h:=m_ (h:=b.1)))(h:B):A:=k ⟨h⟩
theorem EH{A B:Prop}(k:HsB B->A:=by intro b;exact Be (h:=m_ (h:=b.1)))(h:B):A:=k ⟨h⟩
theorem EJ{A B:Prop}(k:HsB B->A:=by intro b;exact m_ (h:=Df (h:=b.1)))(h:B):A:=k ⟨h⟩
theorem EV{A B:Prop}(k:HsB B->A:=by intro b;exact G9 (h:=Nk (h:=b.1)))(h:B):A:=k ⟨h⟩
theorem FP{A B:Prop}(k:HsB B->A:=by intro b;exact Bu (AT (b.1)))(h:B):A:=k ⟨h⟩
theorem EW{A B:Prop}(k:HsB B->A:=by intro b;exact Ab (h:=BW (h:=b.1)))(h:B):A:=k ⟨h⟩
theorem OV{A B:Prop}(k:HsB B->A:=by intro b;exact DZ (h:=BF (b.1)))(h:B):A:=k ⟨h⟩
theorem Ef{A B:Prop}(k:HsB B->A:=by intro b;exact Fe (h:=Ck (h:=b.1)))(h:B):A:=k ⟨h⟩
theorem Eg{A B:Prop}(k:HsB B->A:=by intro b;exact Bm (h:=BW (h:=b.1)))(h:B):A:=k ⟨h⟩
theorem Eh{A B:Prop}(k:HsB B->A:=by intro b;exact Ab (h:=m_ (h:=b.1)))(h:B):A:=k ⟨h⟩
theorem Pg{A B:Prop}(k:HsB B->A:=by intro b;exact t_ (KT (h:=b.1)))(h:B):A:=k ⟨h⟩
theorem Cg{A B:Prop}(k:HsB B->A:=by intro b;exact Cy (h:=e_ (b.1)))(h:B):A:=k ⟨h⟩
theorem Eu{A B:Prop}(k:HsB B->A:=by intro b;exact Ac (h:=m_ (h:=b.1)))(h:B):A:=k ⟨h⟩
theorem Ew{A B:Prop}(k:HsB B->A:=by intro b;exact Bm (h:=Ay (h:=b.1)))(h:B):A:=k ⟨h⟩
theorem F1{A B:Prop}(k:HsB B->A:=by intro b;exact GQ (h:=BR (h:=b.1)))(h:B):A:=k ⟨h⟩
theorem F6{A B:Prop}(k:HsB B->A:=by intro b;exact D1 (h:=m_ (h:=b.1)))(h:B):A:=k ⟨h⟩
theorem F8{A B:Prop}(k:HsB B->A:=by intro b;exact B2 (h:=m_ (h:=b.1)))(h:B):A:=k ⟨h⟩
theorem F9{A B:Prop}(k:HsB B->A:=by intro b;exact C3 (h:=FP (h:=b.1)))(h:B):A:=k ⟨h⟩
theorem Cz{A B:Prop}(k:HsB B->A:=by intro b;exact q_ (OV (h:=b.1)))(h:B):A:=k ⟨h⟩
theorem D4{A B:Prop}(k:HsB B->A:=by intro b;exact Ht (h:=AT (b.1)))(h:B):A:=k ⟨h⟩
theorem D5{A B:Prop}(k:HsB B->A:=by intro b;exact AG (Be (h:=b.1)))(h:B):A:=k ⟨h⟩
theorem DF{A B:Prop}(k:HsB B->A:=by intro b;exact AG (Fu (h:=b.1)))(h:B):A:=k ⟨h⟩
theorem Fg{A B:Prop}(k:HsB B->A:=by intro b;exact L3 (h:=BC (h:=b.1)))(h:B):A:=k ⟨h⟩
theorem Lu{A B:Prop}(k:HsB B->A:=by intro b;exact Jb (h:=DT (h:=b.1)))(h:B):A:=k ⟨h⟩
theorem XD{A B:Prop}(k:HsB B->A:=by intro b;exact Bd (h:=m_ (h:=b.1)))(h:B):A:=k ⟨h⟩
theorem Fh{A B:Prop}(k:HsB B->A:=by intro b;exact Gq (h:=DY (h:=b.1)))(h:B):A:=k ⟨h⟩
theorem DG{A B:Prop}(k:HsB B->A:=by intro b;exact ML (Bp (b.1)))(h:B):A:=k ⟨h⟩
theorem C1{A B:Prop}(k:HsB B->A:=by intro b;exact Bp (DG (h:=b.1)))(h:B):A:=k ⟨h⟩
theorem Fv{A B:Prop}(k:HsB B->A:=by intro b;exact l_ (h:=l_ (h:=b.1)))(h:B):A:=k ⟨h⟩
theorem Fw{A B:Prop}(k:HsB B->A:=by intro b;exact Hp (h:=m_ (h:=b.1)))(h:B):A:=k ⟨h⟩
theorem Fx{A B:Prop}(k:HsB B->A:=by intro b;exact n_ (h:=ET (h:=b.1)))(h:B):A:=k ⟨h⟩
theorem Fy{A B:Prop}(k:HsB B->A:=by intro b;exact Bw (h:=m_ (h:=b.1)))(h:B):A:=k ⟨h⟩
theorem MP{A B:Prop}(k:HsB B->A:=by intro b;exact XD (h:=s_ (h:=b.1)))(h:B):A:=k ⟨h⟩
theorem GA{A B:Prop}(k:HsB B->A:=by intro b;exact a_ (h:=BE (h:=b.1)))(h:B):A:=k ⟨h⟩
theorem GB{A B:Prop}(k:HsB B->A:=by intro b;exact CO (h:=Bm (h:=b.1)))(h:B):A:=k ⟨h⟩
theorem GC{A B:Prop}(k:HsB B->A:=by intro b;exact Cq (h:=Ja (h:=b.1)))(h:B):A:=k ⟨h⟩
theorem XE{A B:Prop}(k:HsB B->A:=by intro b;exact Ez (h:=m_ (h:=b.1)))(h:B):A:=k ⟨h⟩
theorem GD{A B:Prop}(k:HsB B->A:=by intro b;exact l_ (h:=m_ (h:=b.1)))(h:B):A:=k ⟨h⟩
theorem Dg{A B:Prop}(k:HsB B->A:=by intro b;exact Ci (FO (h:=b.1)))(h:B):A:=k ⟨h⟩
theorem FA{A B:Prop}(k:HsB B->A:=by intro b;exact AG (q_ (b.1)))(h:B):A:=k ⟨h⟩
theorem Bq{A B:Prop}(k:HsB B->A:=by intro b;exact FA (h:=BF (b.1)))(h:B):A:=k ⟨h⟩
theorem GT{A B:Prop}(k:HsB B->A:=by intro b;exact Ay (h:=Fu (h:=b.1)))(h:B):A:=k ⟨h⟩
theorem GU{A B:Prop}(k:HsB B->A:=by intro b;exact n_ (h:=m_ (h:=b.1)))(h:B):A:=k ⟨h⟩
theorem GV{A B:Prop}(k:HsB B->A:=by intro b;exact XE (h:=FP (h:=b.1)))(h:B):A:=k ⟨h⟩
theorem Tm{A B:Prop}(k:HsB B->A:=by intro b;exact Ll (H5 (b.1)))(h:B):A:=k ⟨h⟩
theorem gM{A B:Prop}(k:HsB B->A:=by intro b;exact Tm (h:=H5 (b.1)))(h:B):A:=k ⟨h⟩
theorem LS{A B:Prop}(k:HsB B->A:=by intro b;exact gM (h:=Ku (b.1)))(h:B):A:=k ⟨h⟩
theorem C4{A B:Prop}(k:HsB B->A:=by intro b;exact LS (h:=t_ (b.1)))(h:B):A:=k ⟨h⟩
theorem Ro{A B:Prop}(k:HsB B->A:=by intro b;exact Ay (h:=Ja (h:=b.1)))(h:B):A:=k ⟨h⟩
theorem Tn{A B:Prop}(k:HsB B->A:=by intro b;exact Be (h:=Gr (h:=b.1)))(h:B):A:=k ⟨h⟩
theorem Gs{A B:Prop}(k:HsB B->A:=by intro b;exact Cl (h:=D3 (h:=b.1)))(h:B):A:=k ⟨h⟩
theorem Gt{A B:Prop}(k:HsB B->A:=by intro b;exact BB (h:=GS (h:=b.1)))(h:B):A:=k ⟨h⟩
theorem H8{A B:Prop}(k:HsB B->A:=by intro b;exact B2 (h:=Ac (h:=b.1)))(h:B):A:=k ⟨h⟩
theorem H9{A B:Prop}(k:HsB B->A:=by intro b;exact C3 (h:=BW (h:=b.1)))(h:B):A:=k ⟨h⟩
theorem HG{A B:Prop}(k:HsB B->A:=by intro b;exact Gp (h:=Gp (h:=b.1)))(h:B):A:=k ⟨h⟩
theorem HQ{A B:Prop}(k:HsB B->A:=by intro b;exact Nl (h:=CY (h:=b.1)))(h:B):A:=k ⟨h⟩
theorem HU{A B:Prop}(k:HsB B->A:=by intro b;exact BU (h:=m_ (h:=b.1)))(h:B):A:=k ⟨h⟩
theorem Ha{A B:Prop}(k:HsB B->A:=by intro b;exact BB (h:=Co (h:=b.1)))(h:B):A:=k ⟨h⟩
theorem gN{A B:Prop}(k:HsB B->A:=by intro b;exact XC (h:=e_ (b.1)))(h:B):A:=k ⟨h⟩
theorem EX{A B:Prop}(k:HsB B->A:=by intro b;exact gN (h:=BH (b.1)))(h:B):A:=k ⟨h⟩
theorem Hv{A B:Prop}(k:HsB B->A:=by intro b;exact LS (h:=Pg (h:=b.1)))(h:B):A:=k ⟨h⟩
theorem Hw{A B:Prop}(k:HsB B->A:=by intro b;exact Fe (h:=Ay (h:=b.1)))(h:B):A:=k ⟨h⟩
theorem Hy{A B:Prop}(k:HsB B->A:=by intro b;exact DE (h:=BW (h:=b.1)))(h:B):A:=k ⟨h⟩
theorem Hz{A B:Prop}(k:HsB B->A:=by intro b;exact Tn (h:=Ff (h:=b.1)))(h:B):A:=k ⟨h⟩
theorem J0{A B:Prop}(k:HsB B->A:=by intro b;exact Bm (h:=FP (h:=b.1)))(h:B):A:=k ⟨h⟩
theorem J1{A B:Prop}(k:HsB B->A:=by intro b;exact o_ (h:=z_ (h:=b.1)))(h:B):A:=k ⟨h⟩
theorem J2{A B:Prop}(k:HsB B->A:=by intro b;exact C9 (h:=m_ (h:=b.1)))(h:B):A:=k ⟨h⟩
theorem J3{A B:Prop}(k:HsB B->A:=by intro b;exact k_ (h:=f_ (h:=b.1)))(h:B):A:=k ⟨h⟩
theorem Ei{A B:Prop}(k:HsB B->A:=by intro b;exact AG (Ab (h:=b.1)))(h:B):A:=k ⟨h⟩
theorem JD{A B:Prop}(k:HsB B->A:=by intro b;exact n_ (h:=Ff (h:=b.1)))(h:B):A:=k ⟨h⟩
theorem JE{A B:Prop}(k:HsB B->A:=by intro b;exact Ci (Bz (b.1)))(h:B):A:=k ⟨h⟩
theorem Fi{A B:Prop}(k:HsB B->A:=by intro b;exact JE (h:=Pg (h:=b.1)))(h:B):A:=k ⟨h⟩
theorem Ej{A B:Prop}(k:HsB B->A:=by intro b;exact JE (h:=t_ (b.1)))(h:B):A:=k ⟨h⟩
theorem JF{A B:Prop}(k:HsB B->A:=by intro b;exact C3 (h:=Ro (h:=b.1)))(h:B):A:=k ⟨h⟩
theorem JG{A B:Prop}(k:HsB B->A:=by intro b;exact G9 (h:=FP (h:=b.1)))(h:B):A:=k ⟨h⟩
theorem FB{A B:Prop}(k:HsB B->A:=by intro b;exact w_ (Cl (h:=b.1)))(h:B):A:=k ⟨h⟩
theorem Jd{A B:Prop}(k:HsB B->A:=by intro b;exact Ac (h:=ET (h:=b.1)))(h:B):A:=k ⟨h⟩
theorem Je{A B:Prop}(k:HsB B->A:=by intro b;exact Ac (h:=Ac (h:=b.1)))(h:B):A:=k ⟨h⟩
theorem Jf{A B:Prop}(k:HsB B->A:=by intro b;exact Cy (h:=FP (h:=b.1)))(h:B):A:=k ⟨h⟩
theorem Jo{A B:Prop}(k:HsB B->A:=by intro b;exact CO (h:=BB (h:=b.1)))(h:B):A:=k ⟨h⟩
theorem Jp{A B:Prop}(k:HsB B->A:=by intro b;exact XC (h:=BW (h:=b.1)))(h:B):A:=k ⟨h⟩
theorem Jq{A B:Prop}(k:HsB B->A:=by intro b;exact a_ (h:=Du (h:=b.1)))(h:B):A:=k ⟨h⟩
theorem Jr{A B:Prop}(k:HsB B->A:=by intro b;exact Hu (h:=Lu (h:=b.1)))(h:B):A:=k ⟨h⟩
theorem Js{A B:Prop}(k:HsB B->A:=by intro b;exact Nl (h:=D3 (h:=b.1)))(h:B):A:=k ⟨h⟩
theorem Jt{A B:Prop}(k:HsB B->A:=by intro b;exact MP (h:=FN (h:=b.1)))(h:B):A:=k ⟨h⟩
theorem Ju{A B:Prop}(k:HsB B->A:=by intro b;exact D2 (h:=m_ (h:=b.1)))(h:B):A:=k ⟨h⟩
theorem gO{A B:Prop}(k:HsB B->A:=by intro b;exact w_ (Ff (h:=b.1)))(h:B):A:=k ⟨h⟩
theorem Fz{A B:Prop}(k:HsB B->A:=by intro b;exact gO (h:=q_ (b.1)))(h:B):A:=k ⟨h⟩
theorem GE{A B:Prop}(k:HsB B->A:=by intro b;exact w_ (Du (h:=b.1)))(h:B):A:=k ⟨h⟩
theorem GF{A B:Prop}(k:HsB B->A:=by intro b;exact s_ (h:=e_ (b.1)))(h:B):A:=k ⟨h⟩
theorem CZ{P:Program}{T z:Nat}{a:Bool}(h:NW P T=some (z,a):=by kernel_rfl):Typ P T z a:=⟨h⟩
instance :Typ prog 3 1 false:=CZ
instance :Typ prog 4 1 false:=CZ
instance :Zer prog 4 [.v (.bool false)]:=⟨[.bool false],by kernel_rfl,rfl,rfl⟩
instance :Typ prog 9 1 false:=CZ
instance :Typ prog 22 1 false:=CZ
instance :Elm prog 22 3 1 8:=⟨by kernel_rfl,by decide⟩
instance :Typ prog 26 2 true:=CZ
instance :Zer prog 26 [.v (.int .i64 0), .v (.int .i64 0)]:=⟨[.int .i64 0, .int .i64 0],by kernel_rfl,rfl,rfl⟩
theorem EY{P:Program}{T:Nat}{l:List (Nat×Nat)}(h:Qr P T=some l:=by kernel_rfl):Plc P T l:=⟨h⟩
instance :Plc prog 26 [(0,1),(1,1)]:=EY
theorem Au{P:Program}{T i o z:Nat}(h:Qp P T i=some (o,z):=by kernel_rfl):Fld P T i o z:=⟨h⟩
instance :Fld prog 26 0 0 1:=Au
instance :Fld prog 26 1 1 1:=Au
instance :Typ prog 27 1 false:=CZ
instance :Elm prog 27 291 4 32:=⟨by kernel_rfl,by decide⟩
instance :Typ prog 29 14 true:=CZ
instance :Zer prog 29 [.v (.int .i64 0), .v (.int .i64 0), .v (.int .i64 0), .v (.int .i64 0), .v (.int .i64 0), .v (.int .i64 0), .v (.int .i64 0), .v (.int .i64 0), .v (.int .i64 0), .v (.int .i64 0), .v (.string ⟨#[]⟩), .v (.string ⟨#[]⟩), .v (.slice none 0 0), .v (.bool false)]:=⟨[.int .i64 0, .int .i64 0, .int .i64 0, .int .i64 0, .int .i64 0, .int .i64 0, .int .i64 0, .int .i64 0, .int .i64 0, .int .i64 0, .string ⟨#[]⟩, .string ⟨#[]⟩, .slice none 0 0, .bool false],by kernel_rfl,rfl,rfl⟩
instance :Plc prog 29 [(0,1),(1,1),(2,1),(3,1),(4,1),(5,1),(6,1),(7,1),(8,2),(10,1),(11,1),(12,1),(13,1)]:=EY
instance :Fld prog 29 0 0 1:=Au
instance :Fld prog 29 1 1 1:=Au
instance :Fld prog 29 2 2 1:=Au
instance :Fld prog 29 3 3 1:=Au
instance :Fld prog 29 4 4 1:=Au
instance :Fld prog 29 5 5 1:=Au
instance :Fld prog 29 6 6 1:=Au
instance :Fld prog 29 7 7 1:=Au
instance :Fld prog 29 8 8 2:=Au
instance :Fld prog 29 9 10 1:=Au
instance :Fld prog 29 10 11 1:=Au
instance :Fld prog 29 11 12 1:=Au
instance :Fld prog 29 12 13 1:=Au
instance :Typ prog 30 4 true:=CZ
instance :Zer prog 30 [.v (.int .i64 0), .v (.int .i64 0), .v (.int .i64 0), .v (.int .i64 0)]:=⟨[.int .i64 0, .int .i64 0, .int .i64 0, .int .i64 0],by kernel_rfl,rfl,rfl⟩
instance :Plc prog 30 [(0,1),(1,1),(2,1),(3,1)]:=EY
instance :Typ prog 31 1 false:=CZ
instance :Elm prog 31 9 1 16:=⟨by kernel_rfl,by decide⟩
instance :Typ prog 33 7 true:=CZ
instance :Zer prog 33 [.v (.int .i64 0), .v (.int .i64 0), .v (.int .i64 0), .v (.int .i64 0), .v (.int .i64 0), .v (.slice none 0 0), .v (.slice none 0 0)]:=⟨[.int .i64 0, .int .i64 0, .int .i64 0, .int .i64 0, .int .i64 0, .slice none 0 0, .slice none 0 0],by kernel_rfl,rfl,rfl⟩
instance :Plc prog 33 [(0,1),(1,4),(5,1),(6,1)]:=EY
instance :Fld prog 33 0 0 1:=Au
instance :Fld prog 33 1 1 4:=Au
instance :Fld prog 33 2 5 1:=Au
instance :Fld prog 33 3 6 1:=Au
instance :Typ prog 34 1 false:=CZ
instance :Elm prog 34 121 13 128:=⟨by kernel_rfl,by decide⟩
instance :Typ prog 36 25 true:=CZ
instance :Zer prog 36 [.v (.int .i64 0), .v (.int .i64 0), .v (.int .i64 0), .v (.int .i64 0), .v (.int .i64 0), .v (.int .i64 0), .v (.int .i64 0), .v (.int .i64 0), .v (.int .i64 0), .v (.int .i64 0), .v (.int .i64 0), .v (.string ⟨#[]⟩), .v (.string ⟨#[]⟩), .v (.slice none 0 0), .v (.bool false), .v (.int .i64 0), .v (.int .i64 0), .v (.int .i64 0), .v (.int .i64 0), .v (.int .i64 0), .v (.slice none 0 0), .v (.slice none 0 0), .v (.int .i64 0), .v (.slice none 0 0), .v (.int .i64 0)]:=⟨[.int .i64 0, .int .i64 0, .int .i64 0, .int .i64 0, .int .i64 0, .int .i64 0, .int .i64 0, .int .i64 0, .int .i64 0, .int .i64 0, .int .i64 0, .string ⟨#[]⟩, .string ⟨#[]⟩, .slice none 0 0, .bool false, .int .i64 0, .int .i64 0, .int .i64 0, .int .i64 0, .int .i64 0, .slice none 0 0, .slice none 0 0, .int .i64 0, .slice none 0 0, .int .i64 0],by kernel_rfl,rfl,rfl⟩
instance :Plc prog 36 [(0,1),(1,14),(15,7),(22,1),(23,1),(24,1)]:=EY
instance :Fld prog 36 0 0 1:=Au
instance :Fld prog 36 1 1 14:=Au
instance :Fld prog 36 2 15 7:=Au
instance :Fld prog 36 3 22 1:=Au
instance :Fld prog 36 4 23 1:=Au
instance :Fld prog 36 5 24 1:=Au
instance :Typ prog 37 1 false:=CZ
instance :Elm prog 37 148 2 32:=⟨by kernel_rfl,by decide⟩
instance :Typ prog 39 1 true:=CZ
instance :Zer prog 39 [.v (.slice none 0 0)]:=⟨[.slice none 0 0],by kernel_rfl,rfl,rfl⟩
instance :Plc prog 39 [(0,1)]:=EY
instance :Fld prog 39 0 0 1:=Au
instance :Typ prog 40 1 false:=CZ
instance :Elm prog 40 185 3 24:=⟨by kernel_rfl,by decide⟩
instance :Typ prog 42 2 true:=CZ
instance :Zer prog 42 [.v (.slice none 0 0), .v (.slice none 0 0)]:=⟨[.slice none 0 0, .slice none 0 0],by kernel_rfl,rfl,rfl⟩
instance :Plc prog 42 [(0,1),(1,1)]:=EY
instance :Fld prog 42 0 0 1:=Au
instance :Fld prog 42 1 1 1:=Au
instance :Typ prog 43 1 false:=CZ
instance :Elm prog 43 29 14 144:=⟨by kernel_rfl,by decide⟩
instance :Typ prog 45 3 true:=CZ
instance :Zer prog 45 [.v (.int .i64 0), .v (.int .i64 0), .v (.slice none 0 0)]:=⟨[.int .i64 0, .int .i64 0, .slice none 0 0],by kernel_rfl,rfl,rfl⟩
instance :Plc prog 45 [(0,1),(1,1),(2,1)]:=EY
instance :Fld prog 45 0 0 1:=Au
instance :Fld prog 45 1 1 1:=Au
instance :Fld prog 45 2 2 1:=Au
instance :Typ prog 47 5 true:=CZ
instance :Zer prog 47 [.v (.slice none 0 0), .v (.slice none 0 0), .v (.int .i64 0), .v (.int .i64 0), .v (.slice none 0 0)]:=⟨[.slice none 0 0, .slice none 0 0, .int .i64 0, .int .i64 0, .slice none 0 0],by kernel_rfl,rfl,rfl⟩
instance :Plc prog 47 [(0,2),(2,3)]:=EY
instance :Fld prog 47 0 0 2:=Au
instance :Fld prog 47 1 2 3:=Au
instance :Typ prog 48 1 false:=CZ
instance :Elm prog 48 248 7 64:=⟨by kernel_rfl,by decide⟩
instance :Typ prog 50 5 true:=CZ
instance :Zer prog 50 [.v (.int .i64 0), .v (.int .i64 0), .v (.int .i64 0), .v (.slice none 0 0), .v (.slice none 0 0)]:=⟨[.int .i64 0, .int .i64 0, .int .i64 0, .slice none 0 0, .slice none 0 0],by kernel_rfl,rfl,rfl⟩
instance :Plc prog 50 [(0,1),(1,1),(2,1),(3,1),(4,1)]:=EY
instance :Fld prog 50 0 0 1:=Au
instance :Fld prog 50 1 1 1:=Au
instance :Fld prog 50 2 2 1:=Au
instance :Fld prog 50 3 3 1:=Au
instance :Fld prog 50 4 4 1:=Au
instance :Typ prog 54 1 false:=CZ
instance :Elm prog 54 83 8 96:=⟨by kernel_rfl,by decide⟩
instance :Typ prog 57 1 false:=CZ
instance :Elm prog 57 4 1 1:=⟨by kernel_rfl,by decide⟩
instance :Typ prog 61 1 false:=CZ
instance :Elm prog 61 93 6 56:=⟨by kernel_rfl,by decide⟩
instance :Typ prog 63 2 true:=CZ
instance :Zer prog 63 [.v (.slice none 0 0), .v (.slice none 0 0)]:=⟨[.slice none 0 0, .slice none 0 0],by kernel_rfl,rfl,rfl⟩
instance :Plc prog 63 [(0,1),(1,1)]:=EY
instance :Fld prog 63 0 0 1:=Au
instance :Fld prog 63 1 1 1:=Au
instance :Typ prog 67 3 true:=CZ
instance :Zer prog 67 [.v (.bool false), .v (.int .i64 0), .v (.string ⟨#[]⟩)]:=⟨[.bool false, .int .i64 0, .string ⟨#[]⟩],by kernel_rfl,rfl,rfl⟩
instance :Plc prog 67 [(0,1),(1,1),(2,1)]:=EY
instance :Fld prog 67 0 0 1:=Au
instance :Fld prog 67 1 1 1:=Au
instance :Fld prog 67 2 2 1:=Au
instance :Typ prog 80 1 false:=CZ
instance :Typ prog 81 1 false:=CZ
instance :Elm prog 81 115 5 48:=⟨by kernel_rfl,by decide⟩
instance :Typ prog 83 8 true:=CZ
instance :Zer prog 83 [.v (.int .i64 0), .v (.int .i64 0), .v (.int .u64 0), .v (.slice none 0 0), .v (.int .i64 0), .v (.string ⟨#[]⟩), .v (.int .i64 0), .v (.string ⟨#[]⟩)]:=⟨[.int .i64 0, .int .i64 0, .int .u64 0, .slice none 0 0, .int .i64 0, .string ⟨#[]⟩, .int .i64 0, .string ⟨#[]⟩],by kernel_rfl,rfl,rfl⟩
instance :Plc prog 83 [(0,1),(1,1),(2,1),(3,1),(4,1),(5,1),(6,1),(7,1)]:=EY
instance :Fld prog 83 0 0 1:=Au
instance :Fld prog 83 1 1 1:=Au
instance :Fld prog 83 2 2 1:=Au
instance :Fld prog 83 3 3 1:=Au
instance :Fld prog 83 4 4 1:=Au
instance :Fld prog 83 5 5 1:=Au
instance :Fld prog 83 6 6 1:=Au
instance :Fld prog 83 7 7 1:=Au
instance :Typ prog 93 6 true:=CZ
instance :Zer prog 93 [.v (.int .i64 0), .v (.int .i64 0), .v (.int .i64 0), .v (.string ⟨#[]⟩), .v (.int .i64 0), .v (.int .i64 0)]:=⟨[.int .i64 0, .int .i64 0, .int .i64 0, .string ⟨#[]⟩, .int .i64 0, .int .i64 0],by kernel_rfl,rfl,rfl⟩
instance :Plc prog 93 [(0,1),(1,2),(3,1),(4,2)]:=EY
instance :Fld prog 93 0 0 1:=Au
instance :Fld prog 93 1 1 2:=Au
instance :Fld prog 93 2 3 1:=Au
instance :Fld prog 93 3 4 2:=Au
instance :Zer prog 105 [.v (.slice none 0 0), .v (.int .i64 0)]:=⟨[.slice none 0 0, .int .i64 0],by kernel_rfl,rfl,rfl⟩
instance :Plc prog 105 [(0,1),(1,1)]:=EY
instance :Fld prog 105 0 0 1:=Au
instance :Fld prog 105 1 1 1:=Au
instance :Typ prog 115 5 true:=CZ
instance :Zer prog 115 [.v (.int .i64 0), .v (.int .i64 0), .v (.int .i64 0), .v (.string ⟨#[]⟩), .v (.int .i64 0)]:=⟨[.int .i64 0, .int .i64 0, .int .i64 0, .string ⟨#[]⟩, .int .i64 0],by kernel_rfl,rfl,rfl⟩
instance :Plc prog 115 [(0,1),(1,1),(2,1),(3,1),(4,1)]:=EY
instance :Fld prog 115 0 0 1:=Au
instance :Fld prog 115 1 1 1:=Au
instance :Fld prog 115 2 2 1:=Au
instance :Fld prog 115 3 3 1:=Au
instance :Fld prog 115 4 4 1:=Au
instance :Typ prog 121 13 true:=CZ
instance :Zer prog 121 [.v (.string ⟨#[]⟩), .v (.string ⟨#[]⟩), .v (.int .i64 0), .v (.int .i64 0), .v (.string ⟨#[]⟩), .v (.int .i64 0), .v (.int .i64 0), .v (.int .i64 0), .v (.int .i64 0), .v (.int .i64 0), .v (.int .i64 0), .v (.int .i64 0), .v (.int .i64 0)]:=⟨[.string ⟨#[]⟩, .string ⟨#[]⟩, .int .i64 0, .int .i64 0, .string ⟨#[]⟩, .int .i64 0, .int .i64 0, .int .i64 0, .int .i64 0, .int .i64 0, .int .i64 0, .int .i64 0, .int .i64 0],by kernel_rfl,rfl,rfl⟩
instance :Plc prog 121 [(0,1),(1,1),(2,2),(4,1),(5,2),(7,1),(8,1),(9,1),(10,1),(11,1),(12,1)]:=EY
instance :Fld prog 121 2 2 2:=Au
instance :Fld prog 121 3 4 1:=Au
instance :Fld prog 121 4 5 2:=Au
instance :Fld prog 121 5 7 1:=Au
instance :Fld prog 121 6 8 1:=Au
instance :Fld prog 121 7 9 1:=Au
instance :Fld prog 121 8 10 1:=Au
instance :Fld prog 121 9 11 1:=Au
instance :Fld prog 121 10 12 1:=Au
instance :Typ prog 125 1 false:=CZ
instance :Typ prog 146 1 false:=CZ
instance :Elm prog 146 151 8 88:=⟨by kernel_rfl,by decide⟩
instance :Typ prog 148 2 true:=CZ
instance :Zer prog 148 [.v (.int .i64 0), .v (.slice none 0 0)]:=⟨[.int .i64 0, .slice none 0 0],by kernel_rfl,rfl,rfl⟩
instance :Plc prog 148 [(0,1),(1,1)]:=EY
instance :Fld prog 148 0 0 1:=Au
instance :Fld prog 148 1 1 1:=Au
instance :Typ prog 149 1 false:=CZ
instance :Elm prog 149 234 2 24:=⟨by kernel_rfl,by decide⟩
instance :Typ prog 151 8 true:=CZ
instance :Zer prog 151 [.v (.int .i64 0), .v (.int .i64 0), .v (.int .i64 0), .v (.int .i64 0), .v (.int .i64 0), .v (.int .i64 0), .v (.string ⟨#[]⟩), .v (.slice none 0 0)]:=⟨[.int .i64 0, .int .i64 0, .int .i64 0, .int .i64 0, .int .i64 0, .int .i64 0, .string ⟨#[]⟩, .slice none 0 0],by kernel_rfl,rfl,rfl⟩
instance :Plc prog 151 [(0,1),(1,1),(2,1),(3,1),(4,1),(5,1),(6,1),(7,1)]:=EY
instance :Fld prog 151 0 0 1:=Au
instance :Fld prog 151 1 1 1:=Au
instance :Fld prog 151 2 2 1:=Au
instance :Fld prog 151 3 3 1:=Au
instance :Fld prog 151 4 4 1:=Au
instance :Fld prog 151 5 5 1:=Au
instance :Fld prog 151 6 6 1:=Au
instance :Fld prog 151 7 7 1:=Au
instance :Typ prog 157 1 false:=CZ
instance :Elm prog 157 200 8 72:=⟨by kernel_rfl,by decide⟩
instance :Zer prog 159 [.v (.slice none 0 0), .v (.slice none 0 0), .v (.int .i64 0), .v (.int .i64 0), .v (.slice none 0 0), .v (.int .i64 0), .v (.int .i64 0), .v (.int .i64 0), .v (.int .i64 0), .v (.int .i64 0), .v (.int .i64 0), .v (.int .i64 0), .v (.int .i64 0), .v (.int .i64 0), .v (.int .i64 0), .v (.string ⟨#[]⟩), .v (.string ⟨#[]⟩), .v (.slice none 0 0), .v (.bool false), .v (.int .i64 0), .v (.int .i64 0), .v (.int .i64 0), .v (.int .i64 0), .v (.int .i64 0), .v (.slice none 0 0), .v (.slice none 0 0), .v (.slice none 0 0), .v (.int .i64 0), .v (.int .i64 0), .v (.int .i64 0), .v (.slice none 0 0), .v (.slice none 0 0)]:=⟨[.slice none 0 0, .slice none 0 0, .int .i64 0, .int .i64 0, .slice none 0 0, .int .i64 0, .int .i64 0, .int .i64 0, .int .i64 0, .int .i64 0, .int .i64 0, .int .i64 0, .int .i64 0, .int .i64 0, .int .i64 0, .string ⟨#[]⟩, .string ⟨#[]⟩, .slice none 0 0, .bool false, .int .i64 0, .int .i64 0, .int .i64 0, .int .i64 0, .int .i64 0, .slice none 0 0, .slice none 0 0, .slice none 0 0, .int .i64 0, .int .i64 0, .int .i64 0, .slice none 0 0, .slice none 0 0],by kernel_rfl,rfl,rfl⟩
instance :Plc prog 159 [(0,5),(5,14),(19,7),(26,1),(27,5)]:=EY
instance :Fld prog 159 0 0 5:=Au
instance :Fld prog 159 1 5 14:=Au
instance :Fld prog 159 2 19 7:=Au
instance :Fld prog 159 3 26 1:=Au
instance :Fld prog 159 4 27 5:=Au
instance :Zer prog 176 [.v (.int .i64 0), .v (.int .i64 0), .v (.int .i64 0), .v (.int .i64 0)]:=⟨[.int .i64 0, .int .i64 0, .int .i64 0, .int .i64 0],by kernel_rfl,rfl,rfl⟩
instance :Plc prog 176 [(0,2),(2,2)]:=EY
instance :Typ prog 185 3 true:=CZ
instance :Zer prog 185 [.v (.int .i64 0), .v (.int .i64 0), .v (.int .i64 0)]:=⟨[.int .i64 0, .int .i64 0, .int .i64 0],by kernel_rfl,rfl,rfl⟩
instance :Plc prog 185 [(0,1),(1,2)]:=EY
instance :Fld prog 185 0 0 1:=Au
instance :Fld prog 185 1 1 2:=Au
instance :Typ prog 196 5 true:=CZ
instance :Zer prog 196 [.v (.string ⟨#[]⟩), .v (.int .i64 0), .v (.int .i64 0), .v (.int .i64 0), .v (.int .i64 0)]:=⟨[.string ⟨#[]⟩, .int .i64 0, .int .i64 0, .int .i64 0, .int .i64 0],by kernel_rfl,rfl,rfl⟩
instance :Plc prog 196 [(0,1),(1,1),(2,1),(3,1),(4,1)]:=EY
instance :Fld prog 196 0 0 1:=Au
instance :Fld prog 196 1 1 1:=Au
instance :Fld prog 196 2 2 1:=Au
instance :Fld prog 196 3 3 1:=Au
instance :Fld prog 196 4 4 1:=Au
instance :Typ prog 200 8 true:=CZ
instance :Zer prog 200 [.v (.int .i64 0), .v (.int .i64 0), .v (.string ⟨#[]⟩), .v (.int .i64 0), .v (.int .i64 0), .v (.bool false), .v (.bool false), .v (.string ⟨#[]⟩)]:=⟨[.int .i64 0, .int .i64 0, .string ⟨#[]⟩, .int .i64 0, .int .i64 0, .bool false, .bool false, .string ⟨#[]⟩],by kernel_rfl,rfl,rfl⟩
instance :Plc prog 200 [(0,2),(2,1),(3,2),(5,1),(6,1),(7,1)]:=EY
instance :Fld prog 200 0 0 2:=Au
instance :Fld prog 200 1 2 1:=Au
instance :Fld prog 200 2 3 2:=Au
instance :Fld prog 200 3 5 1:=Au
instance :Fld prog 200 4 6 1:=Au
instance :Fld prog 200 5 7 1:=Au
instance :Typ prog 234 2 true:=CZ
instance :Zer prog 234 [.v (.string ⟨#[]⟩), .v (.int .i64 0)]:=⟨[.string ⟨#[]⟩, .int .i64 0],by kernel_rfl,rfl,rfl⟩
instance :Plc prog 234 [(0,1),(1,1)]:=EY
instance :Fld prog 234 0 0 1:=Au
instance :Fld prog 234 1 1 1:=Au
instance :Elm prog 236 196 5 48:=⟨by kernel_rfl,by decide⟩
instance :Zer prog 248 [.v (.int .i64 0), .v (.int .i64 0), .v (.string ⟨#[]⟩), .v (.int .i64 0), .v (.int .i64 0), .v (.int .i64 0), .v (.int .i64 0)]:=⟨[.int .i64 0, .int .i64 0, .string ⟨#[]⟩, .int .i64 0, .int .i64 0, .int .i64 0, .int .i64 0],by kernel_rfl,rfl,rfl⟩
instance :Plc prog 248 [(0,2),(2,1),(3,2),(5,2)]:=EY
instance :Fld prog 248 3 5 2:=Au
instance :Elm prog 274 125 1 8:=⟨by kernel_rfl,by decide⟩
instance :Typ prog 282 11 true:=CZ
instance :Zer prog 282 [.v (.slice none 0 0), .v (.slice none 0 0), .v (.slice none 0 0), .v (.int .i64 0), .v (.int .i64 0), .v (.int .i64 0), .v (.int .i64 0), .v (.string ⟨#[]⟩), .v (.bool false), .v (.bool false), .v (.int .i64 0)]:=⟨[.slice none 0 0, .slice none 0 0, .slice none 0 0, .int .i64 0, .int .i64 0, .int .i64 0, .int .i64 0, .string ⟨#[]⟩, .bool false, .bool false, .int .i64 0],by kernel_rfl,rfl,rfl⟩
instance :Plc prog 282 [(0,2),(2,1),(3,2),(5,2),(7,1),(8,1),(9,1),(10,1)]:=EY
instance :Fld prog 282 0 0 2:=Au
instance :Fld prog 282 1 2 1:=Au
instance :Fld prog 282 2 3 2:=Au
instance :Fld prog 282 3 5 2:=Au
instance :Fld prog 282 4 7 1:=Au
instance :Fld prog 282 5 8 1:=Au
instance :Fld prog 282 6 9 1:=Au
instance :Fld prog 282 7 10 1:=Au
instance :Typ prog 291 4 true:=CZ
instance :Zer prog 291 [.v (.int .i64 0), .v (.int .i64 0), .v (.int .i64 0), .v (.int .i64 0)]:=⟨[.int .i64 0, .int .i64 0, .int .i64 0, .int .i64 0],by kernel_rfl,rfl,rfl⟩
instance :Plc prog 291 [(0,1),(1,2),(3,1)]:=EY
instance :Fld prog 291 0 0 1:=Au
instance :Fld prog 291 1 1 2:=Au
theorem AM{P:Program}{f:Nat}(h:RL P f=true:=by kernel_rfl):Fun P f:=⟨h⟩
instance :Fun prog 12:=AM
instance :Fun prog 13:=AM
instance :Fun prog 14:=AM
instance :Fun prog 16:=AM
instance :Fun prog 20:=AM
instance :Fun prog 21:=AM
instance :Fun prog 22:=AM
instance :Fun prog 24:=AM
instance :Fun prog 26:=AM
instance :Fun prog 30:=AM
instance :Fun prog 32:=AM
instance :Fun prog 34:=AM
instance :Fun prog 40:=AM
instance :Fun prog 41:=AM
instance :Fun prog 47:=AM
instance :Fun prog 49:=AM
instance :Fun prog 50:=AM
instance :Fun prog 51:=AM
instance :Fun prog 55:=AM
instance :Fun prog 56:=AM
instance :Fun prog 57:=AM
instance :Fun prog 60:=AM
instance :Fun prog 61:=AM
instance :Fun prog 62:=AM
instance :Fun prog 63:=AM
instance :Fun prog 64:=AM
instance :Fun prog 66:=AM
instance :Fun prog 67:=AM
instance :Fun prog 70:=AM
instance :Fun prog 71:=AM
instance :Fun prog 72:=AM
instance :Fun prog 73:=AM
instance :Fun prog 76:=AM
instance :Fun prog 78:=AM
instance :Fun prog 81:=AM
instance :Fun prog 82:=AM
instance :Fun prog 83:=AM
instance :Fun prog 84:=AM
instance :Fun prog 85:=AM
instance :Fun prog 86:=AM
instance :Fun prog 87:=AM
instance :Fun prog 88:=AM
instance :Fun prog 89:=AM
instance :Fun prog 90:=AM
instance :Fun prog 93:=AM
instance :Fun prog 94:=AM
instance :Fun prog 95:=AM
instance :Fun prog 96:=AM
instance :Fun prog 97:=AM
instance :Fun prog 98:=AM
instance :Fun prog 99:=AM
instance :Fun prog 100:=AM
instance :Fun prog 102:=AM
instance :Fun prog 104:=AM
instance :Fun prog 105:=AM
instance :Fun prog 107:=AM
instance :Fun prog 109:=AM
instance :Fun prog 110:=AM
instance :Fun prog 111:=AM
instance :Fun prog 112:=AM
instance :Fun prog 113:=AM
instance :Fun prog 116:=AM
instance :Fun prog 117:=AM
instance :Fun prog 118:=AM
instance :Fun prog 119:=AM
instance :Fun prog 120:=AM
instance :Fun prog 123:=AM
instance :Fun prog 124:=AM
instance :Fun prog 125:=AM
instance :Fun prog 126:=AM
instance :Fun prog 127:=AM
instance :Fun prog 128:=AM
instance :Fun prog 129:=AM
instance :Fun prog 130:=AM
instance :Fun prog 131:=AM
instance :Fun prog 133:=AM
instance :Fun prog 134:=AM
instance :Fun prog 136:=AM
instance :Fun prog 137:=AM
instance :Fun prog 138:=AM
instance :Fun prog 139:=AM
instance :Fun prog 140:=AM
instance :Fun prog 141:=AM
instance :Fun prog 142:=AM
instance :Fun prog 143:=AM
instance :Fun prog 144:=AM
instance :Fun prog 145:=AM
instance :Fun prog 146:=AM
instance :Fun prog 147:=AM
instance :Fun prog 148:=AM
instance :Fun prog 149:=AM
instance :Fun prog 150:=AM
instance :Fun prog 151:=AM
instance :Fun prog 152:=AM
instance :Fun prog 154:=AM
instance :Fun prog 155:=AM
instance :Fun prog 156:=AM
instance :Fun prog 157:=AM
instance :Fun prog 158:=AM
instance :Fun prog 159:=AM
instance :Fun prog 160:=AM
instance :Fun prog 161:=AM
instance :Fun prog 166:=AM
instance :Fun prog 167:=AM
instance :Fun prog 168:=AM
instance :Fun prog 169:=AM
instance :Fun prog 172:=AM
instance :Fun prog 173:=AM
instance :Fun prog 174:=AM
instance :Fun prog 175:=AM
instance :Fun prog 176:=AM
instance :Fun prog 177:=AM
instance :Fun prog 179:=AM
instance :Fun prog 180:=AM
instance :Fun prog 181:=AM
instance :Fun prog 182:=AM
instance :Fun prog 183:=AM
instance :Fun prog 184:=AM
instance :Fun prog 185:=AM
instance :Fun prog 188:=AM
instance :Fun prog 189:=AM
instance :Fun prog 190:=AM
instance :Fun prog 191:=AM
instance :Fun prog 192:=AM
instance :Fun prog 193:=AM
instance :Fun prog 194:=AM
instance :Fun prog 195:=AM
instance :Fun prog 196:=AM
instance :Fun prog 197:=AM
instance :Fun prog 198:=AM
instance :Fun prog 199:=AM
instance :Fun prog 200:=AM
instance :Fun prog 201:=AM
instance :Fun prog 202:=AM
instance :Fun prog 203:=AM
instance :Fun prog 204:=AM
instance :Fun prog 205:=AM
instance :Fun prog 206:=AM
instance :Fun prog 207:=AM
instance :Fun prog 208:=AM
instance :Fun prog 209:=AM
instance :Fun prog 210:=AM
instance :Fun prog 211:=AM
instance :Fun prog 212:=AM
instance :Fun prog 213:=AM
instance :Fun prog 214:=AM
instance :Fun prog 215:=AM
instance :Fun prog 216:=AM
instance :Fun prog 217:=AM
instance :Fun prog 218:=AM
instance :Fun prog 219:=AM
instance :Fun prog 220:=AM
instance :Fun prog 221:=AM
instance :Fun prog 222:=AM
instance :Fun prog 223:=AM
instance :Fun prog 226:=AM
instance :Fun prog 227:=AM
instance :Fun prog 229:=AM
instance :Fun prog 230:=AM
instance :Fun prog 231:=AM
instance :Fun prog 232:=AM
instance :Fun prog 233:=AM
instance :Fun prog 234:=AM
instance :Fun prog 235:=AM
instance :Fun prog 236:=AM
instance :Fun prog 237:=AM
instance :Fun prog 240:=AM
instance :Fun prog 241:=AM
instance :Fun prog 242:=AM
instance :Fun prog 243:=AM
instance :Fun prog 244:=AM
instance :Fun prog 246:=AM
instance :Fun prog 247:=AM
instance :Fun prog 248:=AM
instance :Fun prog 249:=AM
instance :Fun prog 250:=AM
instance :Fun prog 251:=AM
instance :Fun prog 252:=AM
instance :Fun prog 253:=AM
instance :Fun prog 254:=AM
instance :Fun prog 255:=AM
instance :Fun prog 256:=AM
instance :Fun prog 257:=AM
instance :Fun prog 258:=AM
instance :Fun prog 262:=AM
instance :Fun prog 264:=AM
instance :Fun prog 265:=AM
instance :Fun prog 266:=AM
instance :Fun prog 267:=AM
instance :Fun prog 268:=AM
instance :Fun prog 280:=AM
end Go.Proofs.YtbgnigjfkbmceaaGreatDoor
namespace Go.Proofs.YtbgnigjfkbmceaaGreatDoor
abbrev AD:=ByteArray
abbrev A8:=Int×Int
abbrev BQ:=AD×Int
abbrev E7:=Int×A8
abbrev MQ:=A8×AD×A8×A8
structure Nod where
 ino:Int
 kind:Int
 mode:Int
 uid:Int
 gid:Int
 parent:Int
 target:AD
 entries:List BQ
structure Dvc where
 next:Int
 nodes:List Nod
abbrev AR:=List Dvc
structure Spc where
 files:AR
 mounts:List E7
def Nod.zero:Nod:=⟨0,0,0,0,0,0,⟨#[]⟩,[]⟩
def Nm{α:Type}(p:α->Bool)(l:List α):Int:=
 match l.findIdx? p with
 |some i=>(i:Int)
 |none=> -1
def GW{α:Type}(l:List α)(i:Int):Option α:=if i<0 then none else l[i.toNat]?
theorem Nn{α:Type}(l:List α)(k:Nat):GW l (k:Int)=l[k]?:=by
 simp[GW,show¬((k:Int)<0) by omega]
theorem Rp{α:Type}{l:List α}{i:Int}(h:i<0\/(l.length:Int)<=i):GW l i=none:=by
 unfold GW;split
 ·rfl
 rw[List.getElem?_eq_none];omega
theorem gP{α:Type}{l:List α}{i:Int}{x:α}(h:GW l i=some x):0<=i/\i<l.length/\l[i.toNat]?=some x:=by
 unfold GW at h;split at h
 ·cases h
 have:=(AZ.1 h).1;exact⟨by omega,by omega,h⟩
theorem XF{α:Type}{p:α->Bool}{l:List α}{m:Nat}{x:α}(hx:l[m]?=some x)(hp:p x=true)(h:∀j y,j<m->l[j]?=some y->p y=false):l.findIdx? p=some m:=by
 have hl:m<l.length:=(AZ.1 hx).1;rw[List.findIdx?_eq_some_iff_getElem];refine⟨hl,by rw[(AZ.1 hx).2];exact hp,fun j hj=>?_⟩;have:=h j l[j] hj (B7 _);simp[this]
theorem XG{α:Type}{p:α->Bool}{l:List α}{m:Nat}{x:α}(hx:l[m]?=some x)(hp:p x=true)(h:∀j y,j<m->l[j]?=some y->p y=false):Nm p l=m:=by
 unfold Nm;rw[XF hx hp h]
theorem gQ{α:Type}{p:α->Bool}{l:List α}(h:∀j y,j<l.length->l[j]?=some y->p y=false):Nm p l= -1:=by
 unfold Nm;rw[List.findIdx?_eq_none_iff.2];intro x hx;obtain⟨j,hj,rfl⟩:=List.mem_iff_getElem.1 hx;exact h j _ hj (B7 hj)
theorem GX{α:Type}{P:α->Prop}{l:List α}{m:Nat}{x:α}(hx:l[m]?=some x)(h:∀j y,j<m->l[j]?=some y->P y)(hp:P x):∀j y,j<m+1->l[j]?=some y->P y:=by
 intro j y hj hy;by_cases e:j=m
 ·subst e;rw[hx]at hy;cases hy;exact hp
 exact h j y (by omega) hy
def JH(f:AR)(at_:A8):Int:=
 match GW f at_.1 with
 |none=> -1
 |some d=>Nm (fun n:Nod=>n.ino==at_.2) d.nodes
def C5(f:AR)(at_:A8):Option Nod:=
 match GW f at_.1 with
 |none=>none
 |some d=>d.nodes.find? (fun n:Nod=>n.ino==at_.2)
theorem XH{α:Type}{p:α->Bool}{l:List α}:(l.findIdx? p).bind (fun i=>l[i]?)=l.find? p:=by
 cases h:l.findIdx? p with
 |none=>
   rw[List.findIdx?_eq_none_iff]at h;simp only[Option.bind_none];exact(List.find?_eq_none.2 (fun x hx=>by simp[h x hx])).symm
 |some i=>
   obtain⟨hi,hp,hf⟩:=List.findIdx?_eq_some_iff_getElem.1 h;simp only[Option.bind_some,B7 hi];exact(List.find?_eq_some_iff_getElem.2 ⟨hp,i,hi,rfl,fun j hj=>by simpa using hf j hj⟩).symm
theorem MR(f:AR)(at_:A8):(JH f at_= -1/\C5 f at_=none)\/
    ∃(k i:Nat) (d:Dvc) (n:Nod),at_.1=k/\f[k]?=some d/\d.nodes[i]?=some n/\n.ino=at_.2/\JH f at_=i/\C5 f at_=some n:=by
 unfold JH C5
 cases h:GW f at_.1 with
 |none=>exact .inl ⟨rfl,rfl⟩
 |some d=>
   obtain⟨h0,h1,h2⟩:=gP h;simp only[<-XH];unfold Nm
   cases hi:d.nodes.findIdx? (fun n:Nod=>n.ino==at_.2)with
   |none=>exact .inl ⟨rfl,rfl⟩
   |some i=>
     obtain⟨hl,hp,_⟩:=List.findIdx?_eq_some_iff_getElem.1 hi;exact .inr ⟨at_.1.toNat,i,d,d.nodes[i],by omega,h2,B7 hl,by simpa using hp,rfl,by simp⟩
theorem Rq(a b:AD):(a.toList==b.toList)=decide (a=b):=by
 rw[ByteArray.toList_eq,ByteArray.toList_eq,Bool.eq_iff_iff];simp only[beq_iff_eq,decide_eq_true_eq];constructor
 ·intro h
  cases a with
  |mk a=>
    cases b with
    |mk b=>exact congrArg ByteArray.mk (Array.toList_inj.1 h)
 intro h;rw[h]
def MS(c:UInt8):Bool:= !((c.toNat:Int)==0)&& !((c.toNat:Int)==47)
def FC(s:AD):Bool:=
 if s.size<1\/12<s.size then false else if(s.toList==[46])=true then false else if(s.toList==[46,46])=true then false else s.data.toList.all MS
def Np(s:AD):Bool:=s.data.toList.all (fun c=> !((c.toNat:Int)==0))&&decide (1<=s.size)&&decide (s.size<=128)
theorem XJ{p:UInt8->Bool}{s:AD}(h:∀j (hj:j<s.size),p s[j]=true):s.data.toList.all p=true:=by
 rw[List.all_eq_true];intro c hc;obtain⟨j,hj,rfl⟩:=List.mem_iff_getElem.1 hc;exact h j (by simpa using hj)
theorem To{p:UInt8->Bool}{s:AD}{j:Nat}(hj:j<s.size)(h:p s[j]=false):s.data.toList.all p=false:=by
 rw[List.all_eq_false];refine⟨s[j],?_,by simp[h]⟩;have:s[j]=s.data.toList[j]'(by simpa using hj):=rfl;rw[this];exact List.getElem_mem _
theorem XK{p:UInt8->Bool}{s:AD}{m:Nat}(hm:m<s.size)(h:∀j (hj:j<s.size),j<m->p s[j]=true)(hp:p s[m]=true):∀j (hj:j<s.size),j<m+1->p s[j]=true:=by
 intro j hj hlt;by_cases e:j=m
 ·subst e;exact hp
 exact h j hj (by omega)
def AU(f:AR)(at_:A8):Bool:=
 match C5 f at_ with
 |none=>false
 |some n=>n.kind==2
def Cr(f:AR)(dir:A8)(name:AD):Int:=
 match C5 f dir with
 |none=>2
 |some n=>if n.kind=2 then(if FC name then 0 else 22)else 20
def MT(f:AR)(dir:A8):Bool:=
 match C5 f dir with
 |none=>false
 |some n=>decide (12<=n.entries.length)
def N2(f:AR)(dir:A8):Bool:=
 match C5 f dir with
 |none=>true
 |some n=>decide (n.entries.length=0)
def AJ(f:AR)(dir:A8)(name:AD):A8×Int:=
 match C5 f dir with
 |none=>((0,0),2)
 |some n=>if n.kind=2 then
     match n.entries.find? (fun e:BQ=>decide (e.1=name))with
     |none=>((0,0),2)
     |some e=>((dir.1,e.2),0)
   else((0,0),20)
def J4(n:Nod):Bool:=
 if n.kind<1\/3<n.kind\/n.mode<0\/511<n.mode\/n.uid<0\/4294967295<n.uid\/n.gid<0\/4294967295<n.gid then false
 else if n.kind=3 then Np n.target else n.target.toList.isEmpty
end Go.Proofs.YtbgnigjfkbmceaaGreatDoor
namespace Go.Proofs.YtbgnigjfkbmceaaGreatDoor
def J5(a b:AD):Bool:=Op.bytesLess a.toList b.toList
def Jv(name:AD)(ino:Int):Bool->List BQ->List BQ
 |done,[]=>if done then[]else[(name,ino)]
 |done,e::r=>
   (if !done&& !J5 e.1 name then[(name,ino)]else[])++((if e.1=name then[]else[e])++Jv name ino (done|| !J5 e.1 name) r)
def DP(es:List BQ)(name:AD)(ino:Int):List BQ:=Jv name ino (ino==0) es
def Da(ino:Int)(es:List BQ):Nat:=es.countP fun e:BQ=>e.2==ino
def Br(ino:Int)(ns:List Nod):Nat:=Da ino (ns.flatMap fun n=>n.entries)
def L4(f:AR)(at_:A8):Nat:=
 match C5 f at_,GW f at_.1 with
 |some _,some d=>Br at_.2 d.nodes
 |_,_=>0
theorem XL{ino:Int}{es:List BQ}{k:Nat}{e:BQ}(h:es[k]?=some e):Da ino (es.take (k+1))=Da ino (es.take k)+(if e.2==ino then 1 else 0):=by
 unfold Da;rw[List.take_add_one,h,List.countP_append];simp[List.countP_cons]
theorem gR(ino:Int)(es:List BQ):Da ino es<=es.length:=List.countP_le_length
theorem gS{ino:Int}{ns:List Nod}{m:Nat}{n:Nod}(h:ns[m]?=some n):Br ino (ns.take (m+1))=Br ino (ns.take m)+Da ino n.entries:=by
 unfold Br Da;rw[List.take_add_one,h,List.flatMap_append,List.countP_append];simp
def E8(ino:Int)(ns:List Nod):List Nod:=ns.filter fun n=>n.ino != ino
def Rr:Nod:=⟨1,2,493,0,0,1,⟨#[]⟩,[]⟩
def OW:Dvc:=⟨2,[Rr]⟩
def Gu(n:Int):AR×Int:=if n<1\/3<n then([],50)else(List.replicate n.toNat OW,0)
abbrev Fj:=AR×List MQ×Int
def Gv(n:Nod)(next dirIno:Int):Nod:=⟨next,n.kind,n.mode,n.uid,n.gid,if n.kind=2 then dirIno else 0,n.target,[]⟩
section
theorem Bx{α:Type}(enc:α->List AV){l:List α}{k:Nat}(h:(k:Int)<((l.map enc).length:Int)):k<l.length/\∃x,l[k]?=some x/\(l.map enc)[k]?=some (enc x)/\(l.take (k+1)).map enc=(l.take k).map enc++[enc x]:=by
 have hk:k<l.length:=by simpa using h
 refine⟨hk,l[k],B7 hk,by simp[hk],?_⟩;rw[List.take_succ_eq_append_getElem hk,List.map_append];rfl
theorem CA{α:Type}(enc:α->List AV){l:List α}{k:Nat}(hk:k<=l.length)(h:¬(k:Int)<((l.map enc).length:Int)):k=l.length:=by
 simp at h;omega
theorem vb{a b:Bool}(h:a=b):AV.v (.bool a)=AV.v (.bool b):=by rw[h]
theorem vi{k:IntKind}{a b:Int}(h:a=b):AV.v (.int k a)=AV.v (.int k b):=by rw[h]
def AB(x:A8):List AV:=[.v (.int .i64 x.1), .v (.int .i64 x.2)]
def D6(e:BQ):List AV:=[.v (.string e.1), .v (.int .i64 e.2)]
def Al(n:Nod):List AV:=[.v (.int .i64 n.ino), .v (.int .i64 n.kind), .v (.int .i64 n.mode), .v (.int .i64 n.uid), .v (.int .i64 n.gid), .v (.int .i64 n.parent), .v (.string n.target), .sl 2 (n.entries.map D6) none]
def CQ(d:Dvc):List AV:=[.v (.int .i64 d.next), .sl 8 (d.nodes.map Al) none]
def Ap(f:AR):List AV:=[.sl 2 (f.map CQ) none]
structure FlsB(f:AR):Prop where
 few:f.length<=1000
 nodes:∀d∈f,d.nodes.length<=1000
 ents:∀d∈f,∀n∈d.nodes,n.entries.length<=1000
theorem Tp{f:AR}{a:A8}{k:Nat}{d:Dvc}(hk:a.1=(k:Int))(hd:f[k]?=some d):JH f a=Nm (fun n:Nod=>n.ino==a.2) d.nodes:=by
 unfold JH;rw[hk,Nn,hd]
def AY(f:AR)(a:A8):Nod:=(C5 f a).getD Nod.zero
def Dl(f:AR)(a:A8):Bool:=(C5 f a).isSome
theorem L5(f:AR)(a:A8):AU f a=(Dl f a&&decide ((AY f a).kind=2)):=by
 unfold AU Dl AY;cases C5 f a<;>simp[TG]
theorem Ph{f:AR}(hf:FlsB f)(a:A8):(AY f a).entries.length<=1000:=by
 rcases MR f a with⟨-,h⟩|⟨k,i,d,n, -,h1,h2, -, -,h⟩
 ·simp[AY,h,Nod.zero]
 simp only[AY,h,Option.getD_some];exact hf.ents d (Aj h1) n (Aj h2)
section
theorem N3(f:AR)(a:A8)(hf:FlsB f):AFn prog 179 [.agg (Ap f), .agg (AB a)] (fun r=>r= .v (.int .i64 (JH f a))):=by
 refine enter Tryz.func179 rfl rfl rfl rfl rfl 0 rfl ?_;refine Fe (h:=GT (h:=EG (h:=?_)));refine AF false rfl rfl (fun kd ka=>?_) (fun kd ka=>?_)
 ·refine Jo (h:=Fg (h:=?_));refine A4 ?_;exact vi (by unfold JH;rw[Rp (.inl ka)])
 refine Ac (h:=Gr (h:=Dt (h:=Cq (h:=?_))));refine A3 rfl (fun ke kc=>?_) (fun ke kc=>?_)
 ·refine BC (h:=?_);refine A4 ?_;exact vi (by unfold JH;rw[Rp (.inr (by rw[List.length_map]at kc;exact kc))])
 obtain⟨k,hk⟩:=Int.eq_ofNat_of_zero_le (show 0<=a.1 by omega);rw[hk]at kc;obtain⟨-,d,hd,ya, -⟩:=Bx CQ (l:=f) (k:=k) (by omega);have hdn:=hf.nodes d (Aj hd);refine AG (H8 (h:=?_));refine A7 (DM (n:=k) rfl rfl hk ya ?_);refine Ac (h:=Ay (h:=Cz (h:=?_)));refine BL (fun m s=>∃j:Nat,j<=d.nodes.length/\m=d.nodes.length - j/\(∀i y,i<j->d.nodes[i]?=some y->(y.ino==a.2)=false)/\s=⟨look [(3, .bp 1 0),(5, .sl 8 (d.nodes.map Al) none),(6, .v (.int .i64 (j:Int)))],⟨[Ap f,AB a],[]⟩⟩) (d.nodes.length) ((wk 2 0)) (⟨0,by omega,rfl,fun i y hi=>by omega,rfl⟩) ?_;rintro m s ⟨j,hj,rfl,ha,rfl⟩;refine EH (h:=JD (h:=?_));refine A3 rfl (fun kh kf=>?_) (fun kh kf=>?_)
 ·obtain⟨hlt,n,hy,mo, -⟩:=Bx Al kf;refine AG (q_ (BF (q_ (E0 8 (h:=AE 0 (h:=AE 1 (h:=E1 2 (h:=AA 3 (h:=A9 4 (h:=AA 5 (h:=A9 6 (h:=KS 7 (h:=z_ (h:=t_ (?_)))))))))))))));refine A3 rfl (fun kl kg=>?_) (fun kl kg=>?_)
  ·refine Ab (h:=BE (h:=C1 (h:=?_)));refine A4 ?_;exact vi (by rw[Tp hk hd];exact(XG hy (by simpa using kg) ha).symm)
  refine Dg (h:=?_);refine⟨_,_,?_,⟨j+1,by omega,rfl,GX hy ha (by simpa using kg),rfl⟩,(wk 2 0)⟩;omega
 have e:=CA Al hj kf;subst e;refine Hv (h:=?_);refine A4 ?_;exact vi (by rw[Tp hk hd];exact(gQ (fun i y hi hy=>ha i y hi hy)).symm)
theorem G0(f:AR)(a:A8)(hf:FlsB f):AFn prog 123 [.agg (Ap f), .agg (AB a)] (fun r=>r= .tup [.agg (Al (AY f a)), .v (.bool (Dl f a))]):=by
 refine enter Tryz.func123 rfl rfl rfl rfl rfl 0 rfl ?_;refine Ef (h:=Ay (h:=C9 (h:=?_)));refine AK (N3 f a hf) ?_;refine Du (h:=Ff (h:=?_));refine A3 rfl (fun kd ka=>?_) (fun kd ka=>?_)
 ·have e:C5 f a=none:=by
   rcases MR f a with h|⟨k,i,d,n, -, -, -, -,h, -⟩
   ·exact h.2
   exfalso;omega
  refine Bj (h:=?_);refine AO (r:= .tup [.agg (Al (AY f a)), .v (.bool (Dl f a))]) none (h5:=?_) (h6:=⟨rfl,rfl,rfl⟩);rw[show AY f a=Nod.zero by simp[AY,e],show Dl f a=false by simp[Dl,e]];exact(by repeat (first|exact A6 _|exact LeA.nil _|exact LeL.refl _|refine LeA.agg ?_|refine LeA.tup ?_|exact LeL.nil|refine LeL.cons ?_ ?_|exact LeA.any _))
 obtain⟨k,i,d,n,g1,g2,g3,g4,g5,g6⟩:=(MR f a).resolve_left (fun h=>by omega);rw[g5];have hr1:(f.map CQ)[k]?=some (CQ d):=by rw[List.getElem?_map,g2];rfl
 have hr2:(d.nodes.map Al)[i]?=some (Al n):=by rw[List.getElem?_map,g3];rfl
 have hen:=hf.ents d (Aj g2) n (Aj g3);refine AG (H8 (h:=?_));refine A7 (DM (n:=k) rfl rfl g1 hr1 ?_);refine Eu (h:=?_);refine A7 (DM (n:=i) rfl rfl rfl hr2 ?_);refine l_ (h:=CP (h:=B2 (h:=?_)));refine A7 (N0 rfl rfl (by simp;omega) (by repeat constructor) ?_);refine Cg (h:=Jp (h:=?_));refine A4 ?_;rw[show AY f a=n by simp[AY,g6],show Dl f a=true by simp[Dl,g6]];rfl
theorem LT(f:AR)(a:A8)(hf:FlsB f):AFn prog 185 [.agg (Ap f), .agg (AB a)] (fun r=>r= .v (.bool (AU f a))):=by
 refine enter Tryz.func185 rfl rfl rfl rfl rfl 0 rfl ?_;refine Hw (h:=C9 (h:=?_));refine AK (G0 f a hf) ?_;refine EU (h:=Cl (h:=m_ (h:=?_)));refine AF true rfl rfl (fun kd ka=>?_) (fun kd ka=>?_)
 ·refine D2 (h:=Eg (h:=?_));refine A4 ?_;exact vb (by rw[L5];simp[*])
 refine Hy (h:=?_);refine A4 ?_;exact vb (by rw[L5];simp[*])
end
end
end Go.Proofs.YtbgnigjfkbmceaaGreatDoor
namespace Go.Proofs.YtbgnigjfkbmceaaGreatDoor
structure Tst where
 fld:Int
 op:Int
 num:Int
 text:AD
 other:Int
structure Rul where
 list:Int
 action:Int
 calls:Int
 tests:List Tst
 watch:Int
 path:AD
 perm:Int
 key:AD
structure Itm where
 given:AD
 path:AD
 dir:A8
 name:AD
 file:A8
 role:Int
 kind:Int
 mode:Int
 uid:Int
 gid:Int
 perm:Int
structure Ctx where
 phase:Int
 pid:Int
 ppid:Int
 uid:Int
 euid:Int
 gid:Int
 egid:Int
 auid:Int
 ses:Int
 cwd:A8
 comm:AD
 exe:AD
 audited:Bool
 number:Int
 a0:Int
 a1:Int
 a2:Int
 a3:Int
 ext:Int
 items:List Itm
 typ:Int
def Itm.zero:Itm:=⟨⟨#[]⟩,⟨#[]⟩,(0,0),⟨#[]⟩,(0,0),0,0,0,0,0,0⟩
def D7(f:Int):Bool:=decide (1<=f/\f<=8\/f=13\/f=14)
def FQ(list f:Int):Bool:=
 if list=1\/list=4 then D7 f
 else if list=2 then decide (1<=f/\f<=14)
 else if list=3 then decide (1<=f/\f<=21)
 else if list=5 then decide (1<=f/\f<=8\/f=13\/f=14\/f=22)
 else false
def FD(f:Int):Bool:=decide (f=13\/f=14)
def FR(f:Int):Bool:=decide (f=3\/f=4\/f=5\/f=6\/f=7\/f=19\/f=20)
def LU(f:Int):Bool:=decide (17<=f/\f<=21)
def Ba(t:Tst)(list:Int):Int:=
 if FQ list t.fld=false\/t.other≠0/\(FQ list t.other=false\/FR t.fld=false\/FR t.other=false)then 120
 else if t.op<1\/8<t.op\/2<t.op/\(FD t.fld=true\/t.other≠0)then 121
 else if t.other≠0/\(t.num≠0\/t.text.size≠0)then 122
 else if FD t.fld=true/\(t.num≠0\/t.text.size=0\/640<t.text.size)then 122
 else if FD t.fld=false/\t.text.size≠0 then 122
 else 0
def Dx(f:Int)(c:Ctx)(y:Itm):Int:=
 if f=1 then c.pid else if f=2 then c.ppid else if f=3 then c.uid else if f=4 then c.euid else if f=5 then c.gid else if f=6 then c.egid
 else if f=7 then c.auid else if f=8 then c.ses else if f=9 then c.a0 else if f=10 then c.a1 else if f=11 then c.a2 else if f=12 then c.a3
 else if f=15 then c.ext else if f=16 then(if 0<=c.ext then 1 else 0)else if f=17 then y.file.2 else if f=18 then y.file.1
 else if f=19 then y.uid else if f=20 then y.gid else if f=21 then y.kind else c.typ
def C2(f:Int)(c:Ctx):Bool:=
 if 1<=f/\f<=12 then true else if f=22 then decide (c.typ≠0)else if 15<=f/\f<=21 then decide (c.phase=2)else false
def KU(f:Int)(c:Ctx):Bool:=
 if 15<=f/\f<=21 then decide (c.phase=2)else decide (f≠22\/c.typ≠0)
section
def DH(t:Tst):List AV:=[.v (.int .i64 t.fld), .v (.int .i64 t.op), .v (.int .i64 t.num), .v (.string t.text), .v (.int .i64 t.other)]
def AW(r:Rul):List AV:=[.v (.int .i64 r.list), .v (.int .i64 r.action), .v (.int .u64 r.calls), .sl 5 (r.tests.map DH) none, .v (.int .i64 r.watch), .v (.string r.path), .v (.int .i64 r.perm), .v (.string r.key)]
def GG(y:Itm):List AV:=[.v (.string y.given), .v (.string y.path), .v (.int .i64 y.dir.1), .v (.int .i64 y.dir.2), .v (.string y.name), .v (.int .i64 y.file.1), .v (.int .i64 y.file.2), .v (.int .i64 y.role), .v (.int .i64 y.kind), .v (.int .i64 y.mode), .v (.int .i64 y.uid), .v (.int .i64 y.gid), .v (.int .i64 y.perm)]
structure Cxs where
 os:List (List AV)
 ps:List (List AV)
 rs:List (List AV)
def EK(c:Ctx)(k:Cxs):List AV:=[.v (.int .i64 c.phase), .v (.int .i64 c.pid), .v (.int .i64 c.ppid), .v (.int .i64 c.uid), .v (.int .i64 c.euid), .v (.int .i64 c.gid), .v (.int .i64 c.egid), .v (.int .i64 c.auid), .v (.int .i64 c.ses), .v (.int .i64 c.cwd.1), .v (.int .i64 c.cwd.2), .v (.string c.comm), .v (.string c.exe), .sl 4 k.os none, .v (.bool c.audited),
 .v (.int .i64 c.number), .v (.int .i64 c.a0), .v (.int .i64 c.a1), .v (.int .i64 c.a2), .v (.int .i64 c.a3), .sl 1 k.ps none, .sl 1 k.rs none, .v (.int .i64 c.ext), .sl 13 (c.items.map GG) none, .v (.int .i64 c.typ)]
section
theorem Jg(f:Int):AFn prog 221 [.v (.int .i64 f)] (fun r=>r= .v (.bool (FD f))):=by
 refine enter Tryz.func221 rfl rfl rfl rfl rfl 0 rfl ?_;refine FB (h:=Dv (h:=?_));refine AF false rfl rfl (fun kd ka=>?_) (fun kd ka=>?_)
 ·refine BB (h:=Eg (h:=?_));refine A4 ?_;exact vb (by unfold FD;rw[Bool.eq_iff_iff];simp;try omega)
 refine EJ (h:=H9 (h:=?_));refine A4 ?_;exact vb (by unfold FD;rw[Bool.eq_iff_iff];simp;try omega)
theorem N4(f:Int):AFn prog 217 [.v (.int .i64 f)] (fun r=>r= .v (.bool (FD f))):=by
 refine enter Tryz.func217 rfl rfl rfl rfl rfl 0 rfl ?_;refine FB (h:=Dv (h:=?_));refine AF false rfl rfl (fun kd ka=>?_) (fun kd ka=>?_)
 ·refine BB (h:=Eg (h:=?_));refine A4 ?_;exact vb (by unfold FD;rw[Bool.eq_iff_iff];simp;try omega)
 refine EJ (h:=H9 (h:=?_));refine A4 ?_;exact vb (by unfold FD;rw[Bool.eq_iff_iff];simp;try omega)
theorem XM(f:Int):AFn prog 160 [.v (.int .i64 f)] (fun r=>r= .v (.bool (LU f))):=by
 refine enter Tryz.func160 rfl rfl rfl rfl rfl 0 rfl ?_;refine FB (h:=Dt (h:=m_ (h:=?_)));refine AF true rfl rfl (fun kd ka=>?_) (fun kd ka=>?_)
 ·refine m_ (h:=Hq (h:=Eg (h:=?_)));refine A4 ?_;exact vb (by unfold LU;rw[Bool.eq_iff_iff];simp;try omega)
 refine BB (h:=H9 (h:=?_));refine A4 ?_;exact vb (by unfold LU;rw[Bool.eq_iff_iff];simp;try omega)
theorem XN(f:Int):AFn prog 220 [.v (.int .i64 f)] (fun r=>r= .v (.bool (FR f))):=by
 refine enter Tryz.func220 rfl rfl rfl rfl rfl 0 rfl ?_;refine GE (h:=e_ (BF (q_ (Az (h:=?_)))));refine A3 rfl (fun kd ka=>?_) (fun kd ka=>?_)
 ·refine AG (F1 (h:=?_));refine A4 ?_;exact vb (by unfold FR;rw[Bool.eq_iff_iff];simp;try omega)
 refine Az (h:=?_);refine A3 rfl (fun ke kc=>?_) (fun ke kc=>?_)
 ·refine AG (F1 (h:=?_));refine A4 ?_;exact vb (by unfold FR;rw[Bool.eq_iff_iff];simp;try omega)
 refine Az (h:=?_);refine A3 rfl (fun kh kf=>?_) (fun kh kf=>?_)
 ·refine AG (F1 (h:=?_));refine A4 ?_;exact vb (by unfold FR;rw[Bool.eq_iff_iff];simp;try omega)
 refine Az (h:=?_);refine A3 rfl (fun kl kg=>?_) (fun kl kg=>?_)
 ·refine AG (F1 (h:=?_));refine A4 ?_;exact vb (by unfold FR;rw[Bool.eq_iff_iff];simp;try omega)
 refine Az (h:=?_);refine A3 rfl (fun ko kk=>?_) (fun ko kk=>?_)
 ·refine AG (F1 (h:=?_));refine A4 ?_;exact vb (by unfold FR;rw[Bool.eq_iff_iff];simp;try omega)
 refine Az (h:=?_);refine A3 rfl (fun kq km=>?_) (fun kq km=>?_)
 ·refine AG (F1 (h:=?_));refine A4 ?_;exact vb (by unfold FR;rw[Bool.eq_iff_iff];simp;try omega)
 refine Aq (Et (h:=?_));refine A3 rfl (fun ks kp=>?_) (fun ks kp=>?_)
 ·refine BR (h:=?_);refine A4 ?_;exact vb (by unfold FR;rw[Bool.eq_iff_iff];simp;try omega)
 refine Fi (h:=?_);refine A4 ?_;exact vb (by unfold FR;rw[Bool.eq_iff_iff];simp;try omega)
theorem XO(f:Int):AFn prog 216 [.v (.int .i64 f)] (fun r=>r= .v (.bool (FR f))):=by
 refine enter Tryz.func216 rfl rfl rfl rfl rfl 0 rfl ?_;refine GE (h:=e_ (BF (q_ (Az (h:=?_)))));refine A3 rfl (fun kd ka=>?_) (fun kd ka=>?_)
 ·refine AG (F1 (h:=?_));refine A4 ?_;exact vb (by unfold FR;rw[Bool.eq_iff_iff];simp;try omega)
 refine Az (h:=?_);refine A3 rfl (fun ke kc=>?_) (fun ke kc=>?_)
 ·refine AG (F1 (h:=?_));refine A4 ?_;exact vb (by unfold FR;rw[Bool.eq_iff_iff];simp;try omega)
 refine Az (h:=?_);refine A3 rfl (fun kh kf=>?_) (fun kh kf=>?_)
 ·refine AG (F1 (h:=?_));refine A4 ?_;exact vb (by unfold FR;rw[Bool.eq_iff_iff];simp;try omega)
 refine Az (h:=?_);refine A3 rfl (fun kl kg=>?_) (fun kl kg=>?_)
 ·refine AG (F1 (h:=?_));refine A4 ?_;exact vb (by unfold FR;rw[Bool.eq_iff_iff];simp;try omega)
 refine Az (h:=?_);refine A3 rfl (fun ko kk=>?_) (fun ko kk=>?_)
 ·refine AG (F1 (h:=?_));refine A4 ?_;exact vb (by unfold FR;rw[Bool.eq_iff_iff];simp;try omega)
 refine Az (h:=?_);refine A3 rfl (fun kq km=>?_) (fun kq km=>?_)
 ·refine AG (F1 (h:=?_));refine A4 ?_;exact vb (by unfold FR;rw[Bool.eq_iff_iff];simp;try omega)
 refine Aq (Et (h:=?_));refine A3 rfl (fun ks kp=>?_) (fun ks kp=>?_)
 ·refine BR (h:=?_);refine A4 ?_;exact vb (by unfold FR;rw[Bool.eq_iff_iff];simp;try omega)
 refine Fi (h:=?_);refine A4 ?_;exact vb (by unfold FR;rw[Bool.eq_iff_iff];simp;try omega)
theorem XP(list f:Int):AFn prog 219 [.v (.int .i64 list), .v (.int .i64 f)] (fun r=>r= .v (.bool (FQ list f))):=by
 refine enter Tryz.func219 rfl rfl rfl rfl rfl 0 rfl ?_;refine DZ (h:=?_);refine JW (⟨look [(0, .v (.int .i64 list)),(1, .v (.int .i64 f)),(5, .v (.bool (D7 f)))],⟨[],[]⟩⟩) ?_ ?_
 ·refine BU (h:=Dt (h:=m_ (h:=?_)));refine AF true rfl rfl (fun kd ka=>?_) (fun kd ka=>?_)
  ·refine m_ (h:=Hq (h:=Bg (h:=?_)));refine AF false rfl rfl (fun ke kc=>?_) (fun ke kc=>?_)
   ·refine BB (h:=Bg (h:=BB (h:=Bm (h:=D4 (h:=?_)))));exact At 0 0 rfl rfl rfl rfl (by repeat (first|exact Sub.nil|refine Aw rfl rfl ?_|refine B3 ?_|refine B4 rfl ?_|refine B5 rfl ?_|(apply Sub.of;(focus exact rfl);(focus exact LeA.of_eq (vb (by unfold D7;rw[Bool.eq_iff_iff];simp;try omega)));(focus exact rfl))))
   refine EJ (h:=BZ (h:=?_));refine AF false rfl rfl (fun kh kf=>?_) (fun kh kf=>?_)
   ·refine BB (h:=Bm (h:=D4 (h:=?_)));exact At 0 0 rfl rfl rfl rfl (by repeat (first|exact Sub.nil|refine Aw rfl rfl ?_|refine B3 ?_|refine B4 rfl ?_|refine B5 rfl ?_|(apply Sub.of;(focus exact rfl);(focus exact LeA.of_eq (vb (by unfold D7;rw[Bool.eq_iff_iff];simp;try omega)));(focus exact rfl))))
   refine EJ (h:=C3 (h:=D4 (h:=?_)));exact At 0 0 rfl rfl rfl rfl (by repeat (first|exact Sub.nil|refine Aw rfl rfl ?_|refine B3 ?_|refine B4 rfl ?_|refine B5 rfl ?_|(apply Sub.of;(focus exact rfl);(focus exact LeA.of_eq (vb (by unfold D7;rw[Bool.eq_iff_iff];simp;try omega)));(focus exact rfl))))
  refine BB (h:=BZ (h:=EJ (h:=BZ (h:=?_))));refine AF false rfl rfl (fun kl kg=>?_) (fun kl kg=>?_)
  ·refine BB (h:=Bm (h:=D4 (h:=?_)))
   (exfalso;first|contradiction|omega)
  refine EJ (h:=C3 (h:=D4 (h:=?_)));exact At 0 0 rfl rfl rfl rfl (by repeat (first|exact Sub.nil|refine Aw rfl rfl ?_|refine B3 ?_|refine B4 rfl ?_|refine B5 rfl ?_|(apply Sub.of;(focus exact rfl);(focus exact LeA.of_eq (vb (by unfold D7;rw[Bool.eq_iff_iff];simp;try omega)));(focus exact rfl))))
 skip
 refine Be (h:=e_ (BF (q_ (Az (h:=?_)))));refine A3 rfl (fun ko kk=>?_) (fun ko kk=>?_)
 ·refine AG (GQ (h:=Ab (h:=BE (h:=?_))));refine A4 ?_;exact vb (by unfold FQ;unfold D7 at *;simp only[*];(try rw[Bool.eq_iff_iff]);simp at *;try omega)
 refine Aq (Et (h:=?_));refine A3 rfl (fun kq km=>?_) (fun kq km=>?_)
 ·refine Ab (h:=BE (h:=?_));refine A4 ?_;exact vb (by unfold FQ;unfold D7 at *;simp only[*];(try rw[Bool.eq_iff_iff]);simp at *;try omega)
 refine Az (h:=?_);refine A3 rfl (fun ks kp=>?_) (fun ks kp=>?_)
 ·refine Ab (h:=Dt (h:=m_ (h:=?_)));refine AF true rfl rfl (fun kt kr=>?_) (fun kt kr=>?_)
  ·refine m_ (h:=Hq (h:=Bm (h:=BE (h:=?_))));refine A4 ?_;exact vb (by unfold FQ;unfold D7 at *;simp only[*];(try rw[Bool.eq_iff_iff]);simp at *;try omega)
  refine BB (h:=C3 (h:=BE (h:=?_)));refine A4 ?_;exact vb (by unfold FQ;unfold D7 at *;simp only[*];(try rw[Bool.eq_iff_iff]);simp at *;try omega)
 refine Az (h:=?_);refine A3 rfl (fun kv ku=>?_) (fun kv ku=>?_)
 ·refine Ab (h:=Dt (h:=m_ (h:=?_)));refine AF true rfl rfl (fun yf yb=>?_) (fun yf yb=>?_)
  ·refine m_ (h:=Hq (h:=Bm (h:=BE (h:=?_))));refine A4 ?_;exact vb (by unfold FQ;unfold D7 at *;simp only[*];(try rw[Bool.eq_iff_iff]);simp at *;try omega)
  refine BB (h:=C3 (h:=BE (h:=?_)));refine A4 ?_;exact vb (by unfold FQ;unfold D7 at *;simp only[*];(try rw[Bool.eq_iff_iff]);simp at *;try omega)
 refine Az (h:=?_);refine A3 rfl (fun yq yc=>?_) (fun yq yc=>?_)
 ·refine Eh (h:=?_);refine AF false rfl rfl (fun yu yg=>?_) (fun yu yg=>?_)
  ·refine BB (h:=Bm (h:=BE (h:=?_)));refine A4 ?_;exact vb (by unfold FQ;unfold D7 at *;simp only[*];(try rw[Bool.eq_iff_iff]);simp at *;try omega)
  refine EJ (h:=C3 (h:=BE (h:=?_)));refine A4 ?_;exact vb (by unfold FQ;unfold D7 at *;simp only[*];(try rw[Bool.eq_iff_iff]);simp at *;try omega)
 refine Fi (h:=?_);refine A4 ?_;exact vb (by unfold FQ;unfold D7 at *;simp only[*];(try rw[Bool.eq_iff_iff]);simp at *;try omega)
theorem XQ(list f:Int):AFn prog 215 [.v (.int .i64 list), .v (.int .i64 f)] (fun r=>r= .v (.bool (FQ list f))):=by
 refine enter Tryz.func215 rfl rfl rfl rfl rfl 0 rfl ?_;refine GE (h:=EG (h:=?_));refine AF false rfl rfl (fun kd ka=>?_) (fun kd ka=>?_)
 ·refine BB (h:=Fg (h:=?_));refine A4 ?_;exact vb (by unfold FQ D7;(repeat' split)<;>(try rw[Bool.eq_iff_iff])<;>(try simp)<;>(first|omega|(unfold D7 at *;simp only[decide_eq_true_eq,decide_eq_false_iff_not]at *;omega)|skip))
 refine m_ (h:=ET (h:=Cq (h:=?_)));refine A3 rfl (fun ke kc=>?_) (fun ke kc=>?_)
 ·refine BC (h:=?_);refine A4 ?_;exact vb (by unfold FQ D7;(repeat' split)<;>(try rw[Bool.eq_iff_iff])<;>(try simp)<;>(first|omega|(unfold D7 at *;simp only[decide_eq_true_eq,decide_eq_false_iff_not]at *;omega)|skip))
 refine AG (?_);refine JW (⟨look [(0, .v (.int .i64 list)),(1, .v (.int .i64 f)),(5, .v (.bool (D7 f)))],⟨[],[]⟩⟩) ?_ ?_
 ·refine BU (h:=Hq (h:=m_ (h:=?_)));refine AF false rfl rfl (fun kh kf=>?_) (fun kh kf=>?_)
  ·refine BB (h:=Bg (h:=BB (h:=Bm (h:=D4 (h:=?_)))));exact At 0 0 rfl rfl rfl rfl (by repeat (first|exact Sub.nil|refine Aw rfl rfl ?_|refine B3 ?_|refine B4 rfl ?_|refine B5 rfl ?_|(apply Sub.of;(focus exact rfl);(focus exact LeA.of_eq (vb (by unfold D7;rw[Bool.eq_iff_iff];simp;try omega)));(focus exact rfl))))
  refine EJ (h:=BZ (h:=?_));refine AF false rfl rfl (fun kl kg=>?_) (fun kl kg=>?_)
  ·refine BB (h:=Bm (h:=D4 (h:=?_)));exact At 0 0 rfl rfl rfl rfl (by repeat (first|exact Sub.nil|refine Aw rfl rfl ?_|refine B3 ?_|refine B4 rfl ?_|refine B5 rfl ?_|(apply Sub.of;(focus exact rfl);(focus exact LeA.of_eq (vb (by unfold D7;rw[Bool.eq_iff_iff];simp;try omega)));(focus exact rfl))))
  refine EJ (h:=C3 (h:=D4 (h:=?_)));exact At 0 0 rfl rfl rfl rfl (by repeat (first|exact Sub.nil|refine Aw rfl rfl ?_|refine B3 ?_|refine B4 rfl ?_|refine B5 rfl ?_|(apply Sub.of;(focus exact rfl);(focus exact LeA.of_eq (vb (by unfold D7;rw[Bool.eq_iff_iff];simp;try omega)));(focus exact rfl))))
 skip
 refine Be (h:=e_ (BF (q_ (Az (h:=?_)))));refine A3 rfl (fun ko kk=>?_) (fun ko kk=>?_)
 ·refine AG (GQ (h:=Ab (h:=BE (h:=?_))));refine A4 ?_;exact vb (by unfold FQ D7;(repeat' split)<;>(try rw[Bool.eq_iff_iff])<;>(try simp)<;>(first|omega|(unfold D7 at *;simp only[decide_eq_true_eq,decide_eq_false_iff_not]at *;omega)|skip))
 refine Aq (Et (h:=?_));refine A3 rfl (fun kq km=>?_) (fun kq km=>?_)
 ·refine Ab (h:=BE (h:=?_));refine A4 ?_;exact vb (by unfold FQ D7;(repeat' split)<;>(try rw[Bool.eq_iff_iff])<;>(try simp)<;>(first|omega|(unfold D7 at *;simp only[decide_eq_true_eq,decide_eq_false_iff_not]at *;omega)|skip))
 refine Az (h:=?_);refine A3 rfl (fun ks kp=>?_) (fun ks kp=>?_)
 ·refine Ab (h:=Hq (h:=BE (h:=?_)));refine A4 ?_;exact vb (by unfold FQ D7;(repeat' split)<;>(try rw[Bool.eq_iff_iff])<;>(try simp)<;>(first|omega|(unfold D7 at *;simp only[decide_eq_true_eq,decide_eq_false_iff_not]at *;omega)|skip))
 refine Az (h:=?_);refine A3 rfl (fun kt kr=>?_) (fun kt kr=>?_)
 ·refine Ab (h:=Jc (h:=BE (h:=?_)));refine A4 ?_;exact vb (by unfold FQ D7;(repeat' split)<;>(try rw[Bool.eq_iff_iff])<;>(try simp)<;>(first|omega|(unfold D7 at *;simp only[decide_eq_true_eq,decide_eq_false_iff_not]at *;omega)|skip))
 refine Az (h:=?_);refine A3 rfl (fun kv ku=>?_) (fun kv ku=>?_)
 ·refine Eh (h:=?_);refine AF false rfl rfl (fun yf yb=>?_) (fun yf yb=>?_)
  ·refine BB (h:=Bm (h:=BE (h:=?_)));refine A4 ?_;exact vb (by unfold FQ D7;(repeat' split)<;>(try rw[Bool.eq_iff_iff])<;>(try simp)<;>(first|omega|(unfold D7 at *;simp only[decide_eq_true_eq,decide_eq_false_iff_not]at *;omega)|skip))
  refine EJ (h:=C3 (h:=BE (h:=?_)));refine A4 ?_;exact vb (by unfold FQ D7;(repeat' split)<;>(try rw[Bool.eq_iff_iff])<;>(try simp)<;>(first|omega|(unfold D7 at *;simp only[decide_eq_true_eq,decide_eq_false_iff_not]at *;omega)|skip))
 refine Fi (h:=?_);refine A4 ?_;exact vb (by unfold FQ D7;(repeat' split)<;>(try rw[Bool.eq_iff_iff])<;>(try simp)<;>(first|omega|(unfold D7 at *;simp only[decide_eq_true_eq,decide_eq_false_iff_not]at *;omega)|skip))
end
def L6(op a b:Int):Bool:=
 if op=1 then decide (a=b)else if op=2 then !decide (a=b)else if op=3 then decide (a<b)else if op=4 then decide (a<=b)else if op=5 then decide (b<a)
 else if op=6 then decide (b<=a)else if op=7 then !decide (H6 .i64 a b=0)else decide (H6 .i64 a b=b)
section
theorem XR(op a b:Int)(h1:1<=op)(h2:op<=8):AFn prog 223 [.v (.int .i64 op), .v (.int .i64 a), .v (.int .i64 b)] (fun r=>r= .v (.bool (L6 op a b))):=by
 refine enter Tryz.func223 rfl rfl rfl rfl rfl 0 rfl ?_;refine GE (h:=e_ (BF (Az (h:=?_))));refine A3 rfl (fun kd ka=>?_) (fun kd ka=>?_)
 ·refine Ab (h:=EJ (h:=BE (h:=?_)));refine A4 ?_;exact vb (by unfold L6;simp[*])
 refine Az (h:=?_);refine A3 rfl (fun ke kc=>?_) (fun ke kc=>?_)
 ·refine Eh (h:=Hp (h:=BE (h:=?_)));refine A4 ?_;exact vb (by unfold L6;simp[*])
 refine Az (h:=?_);refine A3 rfl (fun kh kf=>?_) (fun kh kf=>?_)
 ·refine Eh (h:=Jc (h:=BE (h:=?_)));refine A4 ?_;exact vb (by unfold L6;simp[*])
 refine Az (h:=?_);refine A3 rfl (fun kl kg=>?_) (fun kl kg=>?_)
 ·refine Eh (h:=Hq (h:=BE (h:=?_)));refine A4 ?_;exact vb (by unfold L6;simp[*])
 refine Az (h:=?_);refine A3 rfl (fun ko kk=>?_) (fun ko kk=>?_)
 ·refine Eh (h:=ET (h:=BE (h:=?_)));refine A4 ?_;exact vb (by unfold L6;simp[*])
 refine Az (h:=?_);refine A3 rfl (fun kq km=>?_) (fun kq km=>?_)
 ·refine Eh (h:=Dt (h:=BE (h:=?_)));refine A4 ?_;exact vb (by unfold L6;simp[*])
 refine Az (h:=?_);refine A3 rfl (fun ks kp=>?_) (fun ks kp=>?_)
 ·refine Eh (h:=Fd (h:=Hp (h:=BE (h:=?_))));refine A4 ?_;exact vb (by unfold L6;simp[*])
 refine Az (h:=?_);refine A3 rfl (fun kt kr=>?_) (fun kt kr=>?_)
 ·refine Eh (h:=Fd (h:=EJ (h:=BE (h:=?_))));refine A4 ?_;exact vb (by unfold L6;simp[*])
 refine Fi (h:=?_);refine A4 ?_
 (exfalso;first|contradiction|omega)
theorem gT(f:Int)(c:Ctx)(k:Cxs)(y:Itm)(h1:15<=f)(h2:f<=21):AFn prog 254 [.v (.int .i64 f), .agg (EK c k), .agg (GG y)] (fun r=>r= .tup [.v (.int .i64 (Dx f c y)), .v (.bool true)]):=by
 refine enter Tryz.func254 rfl rfl rfl rfl rfl 0 rfl ?_;refine Fe (h:=Jq (h:=e_ (BF (Az (h:=?_)))));refine A3 rfl (fun kd ka=>?_) (fun kd ka=>?_)
 ·refine B2 (h:=GA (h:=?_));refine A4 ?_;exact congrArg (fun z=>AV.tup [.v (.int .i64 z), .v (.bool true)]) (by unfold Dx;simp[*])
 refine Az (h:=?_);refine A3 rfl (fun ke kc=>?_) (fun ke kc=>?_)
 ·refine Fu (h:=Dt (h:=e_ (?_)));refine A3 rfl (fun kh kf=>?_) (fun kh kf=>?_)
  ·refine w_ (DY (h:=DG (h:=?_)));refine A4 ?_;exact congrArg (fun z=>AV.tup [.v (.int .i64 z), .v (.bool true)]) (by unfold Dx;simp[*])
  refine AG (w_ (GA (h:=?_)));refine A4 ?_;exact congrArg (fun z=>AV.tup [.v (.int .i64 z), .v (.bool true)]) (by unfold Dx;simp[*])
 refine Az (h:=?_);refine A3 rfl (fun kl kg=>?_) (fun kl kg=>?_)
 ·refine w_ (E4 (h:=GA (h:=?_)));refine A4 ?_;exact congrArg (fun z=>AV.tup [.v (.int .i64 z), .v (.bool true)]) (by unfold Dx;simp[*])
 refine Az (h:=?_);refine A3 rfl (fun ko kk=>?_) (fun ko kk=>?_)
 ·refine w_ (E4 (h:=GA (h:=?_)));refine A4 ?_;exact congrArg (fun z=>AV.tup [.v (.int .i64 z), .v (.bool true)]) (by unfold Dx;simp[*])
 refine Az (h:=?_);refine A3 rfl (fun kq km=>?_) (fun kq km=>?_)
 ·refine B2 (h:=GA (h:=?_));refine A4 ?_;exact congrArg (fun z=>AV.tup [.v (.int .i64 z), .v (.bool true)]) (by unfold Dx;simp[*])
 refine Az (h:=?_);refine A3 rfl (fun ks kp=>?_) (fun ks kp=>?_)
 ·refine B2 (h:=GA (h:=?_));refine A4 ?_;exact congrArg (fun z=>AV.tup [.v (.int .i64 z), .v (.bool true)]) (by unfold Dx;simp[*])
 refine Az (h:=?_);refine A3 rfl (fun kt kr=>?_) (fun kt kr=>?_)
 ·refine B2 (h:=GA (h:=?_));refine A4 ?_;exact congrArg (fun z=>AV.tup [.v (.int .i64 z), .v (.bool true)]) (by unfold Dx;simp[*])
 refine Ej (h:=w_ (a_ (h:=BW (h:=?_))));refine A4 ?_
 (exfalso;first|contradiction|omega)
def NumP(f:Int)(c:Ctx)(y:Itm)(r:AV):Prop:=∃n,r= .tup [.v (.int .i64 n), .v (.bool (C2 f c))]/\(C2 f c=true->n=Dx f c y)
theorem NumP.mk{f n:Int}{c:Ctx}{y:Itm}{b:Bool}(hb:b=C2 f c)(hn:C2 f c=true->n=Dx f c y):NumP f c y (.tup [.v (.int .i64 n), .v (.bool b)]):=⟨n,by rw[hb],hn⟩
theorem XS(f:Int)(c:Ctx)(k:Cxs)(y:Itm)(h1:1<=f)(h2:f<=22)(ht:FD f=false):AFn prog 222 [.v (.int .i64 f), .agg (EK c k), .agg (GG y)] (NumP f c y):=by
 simp only[FD,decide_eq_false_iff_not]at ht;refine enter Tryz.func222 rfl rfl rfl rfl rfl 0 rfl ?_;refine Fe (h:=Jq (h:=e_ (BF (Az (h:=?_)))));refine A3 rfl (fun kd ka=>?_) (fun kd ka=>?_)
 ·refine w_ (E4 (h:=GA (h:=?_)));refine A4 ?_;exact NumP.mk (by unfold C2;(repeat' split)<;>(first|omega|(simp[*];done)|(simp;omega)|(simp at *;omega))) (fun hq=>by first|(unfold Dx;simp[*];done)|(unfold C2 at hq;simp[*]at hq;omega)|(unfold C2 at hq;simp[*]at hq))
 refine Az (h:=?_);refine A3 rfl (fun ke kc=>?_) (fun ke kc=>?_)
 ·refine w_ (E4 (h:=GA (h:=?_)));refine A4 ?_;exact NumP.mk (by unfold C2;(repeat' split)<;>(first|omega|(simp[*];done)|(simp;omega)|(simp at *;omega))) (fun hq=>by first|(unfold Dx;simp[*];done)|(unfold C2 at hq;simp[*]at hq;omega)|(unfold C2 at hq;simp[*]at hq))
 refine Az (h:=?_);refine A3 rfl (fun kh kf=>?_) (fun kh kf=>?_)
 ·refine w_ (E4 (h:=GA (h:=?_)));refine A4 ?_;exact NumP.mk (by unfold C2;(repeat' split)<;>(first|omega|(simp[*];done)|(simp;omega)|(simp at *;omega))) (fun hq=>by first|(unfold Dx;simp[*];done)|(unfold C2 at hq;simp[*]at hq;omega)|(unfold C2 at hq;simp[*]at hq))
 refine Az (h:=?_);refine A3 rfl (fun kl kg=>?_) (fun kl kg=>?_)
 ·refine w_ (E4 (h:=GA (h:=?_)));refine A4 ?_;exact NumP.mk (by unfold C2;(repeat' split)<;>(first|omega|(simp[*];done)|(simp;omega)|(simp at *;omega))) (fun hq=>by first|(unfold Dx;simp[*];done)|(unfold C2 at hq;simp[*]at hq;omega)|(unfold C2 at hq;simp[*]at hq))
 refine Az (h:=?_);refine A3 rfl (fun ko kk=>?_) (fun ko kk=>?_)
 ·refine w_ (E4 (h:=GA (h:=?_)));refine A4 ?_;exact NumP.mk (by unfold C2;(repeat' split)<;>(first|omega|(simp[*];done)|(simp;omega)|(simp at *;omega))) (fun hq=>by first|(unfold Dx;simp[*];done)|(unfold C2 at hq;simp[*]at hq;omega)|(unfold C2 at hq;simp[*]at hq))
 refine Az (h:=?_);refine A3 rfl (fun kq km=>?_) (fun kq km=>?_)
 ·refine w_ (E4 (h:=GA (h:=?_)));refine A4 ?_;exact NumP.mk (by unfold C2;(repeat' split)<;>(first|omega|(simp[*];done)|(simp;omega)|(simp at *;omega))) (fun hq=>by first|(unfold Dx;simp[*];done)|(unfold C2 at hq;simp[*]at hq;omega)|(unfold C2 at hq;simp[*]at hq))
 refine Az (h:=?_);refine A3 rfl (fun ks kp=>?_) (fun ks kp=>?_)
 ·refine w_ (E4 (h:=GA (h:=?_)));refine A4 ?_;exact NumP.mk (by unfold C2;(repeat' split)<;>(first|omega|(simp[*];done)|(simp;omega)|(simp at *;omega))) (fun hq=>by first|(unfold Dx;simp[*];done)|(unfold C2 at hq;simp[*]at hq;omega)|(unfold C2 at hq;simp[*]at hq))
 refine Az (h:=?_);refine A3 rfl (fun kt kr=>?_) (fun kt kr=>?_)
 ·refine w_ (E4 (h:=GA (h:=?_)));refine A4 ?_;exact NumP.mk (by unfold C2;(repeat' split)<;>(first|omega|(simp[*];done)|(simp;omega)|(simp at *;omega))) (fun hq=>by first|(unfold Dx;simp[*];done)|(unfold C2 at hq;simp[*]at hq;omega)|(unfold C2 at hq;simp[*]at hq))
 refine q_ (Az (h:=?_));refine A3 rfl (fun kv ku=>?_) (fun kv ku=>?_)
 ·refine AG (GQ (h:=Ab (h:=LQ (h:=f_ (h:=f_ (h:=?_))))));refine A7 (CX (n:=0) (len:=4) (sz:=1) (by kernel_rfl) rfl rfl (by omega) rfl ?_);refine l_ (h:=GA (h:=?_));refine A4 ?_;exact NumP.mk (by unfold C2;(repeat' split)<;>(first|omega|(simp[*];done)|(simp;omega)|(simp at *;omega))) (fun hq=>by first|(unfold Dx;simp[*];done)|(unfold C2 at hq;simp[*]at hq;omega)|(unfold C2 at hq;simp[*]at hq))
 refine Az (h:=?_);refine A3 rfl (fun yf yb=>?_) (fun yf yb=>?_)
 ·refine AG (GQ (h:=Ab (h:=LQ (h:=f_ (h:=f_ (h:=?_))))));refine A7 (CX (n:=1) (len:=4) (sz:=1) (by kernel_rfl) rfl rfl (by omega) rfl ?_);refine l_ (h:=GA (h:=?_));refine A4 ?_;exact NumP.mk (by unfold C2;(repeat' split)<;>(first|omega|(simp[*];done)|(simp;omega)|(simp at *;omega))) (fun hq=>by first|(unfold Dx;simp[*];done)|(unfold C2 at hq;simp[*]at hq;omega)|(unfold C2 at hq;simp[*]at hq))
 refine Az (h:=?_);refine A3 rfl (fun yq yc=>?_) (fun yq yc=>?_)
 ·refine AG (GQ (h:=Ab (h:=LQ (h:=f_ (h:=f_ (h:=?_))))));refine A7 (CX (n:=2) (len:=4) (sz:=1) (by kernel_rfl) rfl rfl (by omega) rfl ?_);refine l_ (h:=GA (h:=?_));refine A4 ?_;exact NumP.mk (by unfold C2;(repeat' split)<;>(first|omega|(simp[*];done)|(simp;omega)|(simp at *;omega))) (fun hq=>by first|(unfold Dx;simp[*];done)|(unfold C2 at hq;simp[*]at hq;omega)|(unfold C2 at hq;simp[*]at hq))
 refine Aq (Et (h:=?_));refine A3 rfl (fun yu yg=>?_) (fun yu yg=>?_)
 ·refine Ab (h:=LQ (h:=f_ (h:=f_ (h:=?_))));refine A7 (CX (n:=3) (len:=4) (sz:=1) (by kernel_rfl) rfl rfl (by omega) rfl ?_);refine l_ (h:=GA (h:=?_));refine A4 ?_;exact NumP.mk (by unfold C2;(repeat' split)<;>(first|omega|(simp[*];done)|(simp;omega)|(simp at *;omega))) (fun hq=>by first|(unfold Dx;simp[*];done)|(unfold C2 at hq;simp[*]at hq;omega)|(unfold C2 at hq;simp[*]at hq))
 refine Az (h:=?_);refine A3 rfl (fun yy yr=>?_) (fun yy yr=>?_)
 ·refine q_ (E0 7 (h:=AA 0 (h:=A9 1 (h:=AA 2 (h:=A9 3 (h:=Pe 4 (h:=B8 5 (h:=B8 6 (h:=z_ (h:=t_ (BH (ML (Bp (?_))))))))))))));refine A4 ?_;exact NumP.mk (by unfold C2;(repeat' split)<;>(first|omega|(simp[*];done)|(simp;omega)|(simp at *;omega))) (fun hq=>by first|(unfold Dx;simp[*];done)|(unfold C2 at hq;simp[*]at hq;omega)|(unfold C2 at hq;simp[*]at hq))
 refine Ej (h:=Fu (h:=D3 (h:=?_)));refine A3 rfl (fun ff fc=>?_) (fun ff fc=>?_)
 ·refine w_ (DY (h:=?_));refine A4 ?_;exact NumP.mk (by unfold C2;(repeat' split)<;>(first|omega|(simp[*];done)|(simp;omega)|(simp at *;omega))) (fun hq=>by first|(unfold Dx;simp[*];done)|(unfold C2 at hq;simp[*]at hq;omega)|(unfold C2 at hq;simp[*]at hq))
 refine Ei (h:=Fv (h:=?_));refine AK (gT f c k y (by omega) (by omega)) ?_;refine LR (h:=a_ (h:=BW (h:=?_)));refine A4 ?_;exact NumP.mk (by unfold C2;(repeat' split)<;>(first|omega|(simp[*];done)|(simp;omega)|(simp at *;omega))) (fun hq=>by first|(unfold Dx;simp[*];done)|(unfold C2 at hq;simp[*]at hq;omega)|(unfold C2 at hq;simp[*]at hq))
end
theorem XT(s:AD):s=⟨#[]⟩↔s.size=0:=by
 constructor
 ·intro h;rw[h];rfl
 intro h
 cases s with
 |mk a=>
   have:a=#[]:=Array.eq_empty_of_size_eq_zero h;rw[this]
section
theorem XU(t:Tst)(list:Int):AFn prog 159 [.agg (DH t), .v (.int .i64 list)] (fun r=>r= .v (.int .i64 (Ba t list))):=by
 have hz:=XT t.text;refine enter Tryz.func159 rfl rfl rfl rfl rfl 0 rfl ?_;refine Ee (h:=Du (h:=Ac (h:=?_)));refine AK (XP _ _) ?_;refine CY (h:=?_);refine A3 rfl (fun kd ka=>?_) (fun kd ka=>?_)
 ·refine BC (h:=?_);refine A4 ?_;exact vi (by unfold Ba;grind)
 refine DF (h:=Fw (h:=?_));refine AF true rfl rfl (fun ke kc=>?_) (fun ke kc=>?_)
 ·refine m_ (h:=Ac (h:=?_));refine Ak (AX (XP _ _) ?_);rintro r rfl;refine F6 (h:=?_);refine AF false rfl rfl (fun kh kf=>?_) (fun kh kf=>?_)
  ·refine CO (h:=Bg (h:=GB (h:=Fg (h:=?_))));refine A4 ?_;exact vi (by unfold Ba;grind)
  refine Ac (h:=?_);refine Ak (AX (XN _) ?_);rintro r rfl;refine D1 (h:=BZ (h:=?_));refine AF false rfl rfl (fun kl kg=>?_) (fun kl kg=>?_)
  ·refine GB (h:=Fg (h:=?_));refine A4 ?_;exact vi (by unfold Ba;grind)
  refine Ac (h:=?_);refine Ak (AX (XN _) ?_);rintro r rfl;refine D1 (h:=C3 (h:=Bm (h:=e_ (?_))));refine A3 rfl (fun ko kk=>?_) (fun ko kk=>?_)
  ·refine BC (h:=?_);refine A4 ?_;exact vi (by unfold Ba;grind)
  refine DF (h:=EG (h:=?_));refine AF false rfl rfl (fun kq km=>?_) (fun kq km=>?_)
  ·refine EV (h:=BC (h:=?_));refine A4 ?_;exact vi (by unfold Ba;grind)
  refine Jd (h:=Cq (h:=?_));refine A3 rfl (fun ks kp=>?_) (fun ks kp=>?_)
  ·refine BC (h:=?_);refine A4 ?_;exact vi (by unfold Ba;grind)
  refine DF (h:=Fw (h:=?_));refine AF true rfl rfl (fun kt kr=>?_) (fun kt kr=>?_)
  ·refine CG (h:=Bg (h:=?_));refine AF true rfl rfl (fun kv ku=>?_) (fun kv ku=>?_)
   ·refine Ac (h:=?_);refine Ak (AX (Jg _) ?_);rintro r rfl;refine m_ (h:=?_);refine AF false rfl rfl (fun yf yb=>?_) (fun yf yb=>?_)
    ·refine G9 (h:=Fg (h:=?_));refine A4 ?_;exact vi (by unfold Ba;grind)
    refine CG (h:=C3 (h:=Fg (h:=?_)));refine A4 ?_;exact vi (by unfold Ba;grind)
   refine Jr (h:=GC (h:=Bq (h:=B2 (h:=Fw (h:=CG (h:=m_ (h:=?_)))))));refine AF false rfl rfl (fun yq yc=>?_) (fun yq yc=>?_)
   ·refine G9 (h:=Ew (h:=F1 (h:=?_)));refine A4 ?_;exact vi (by unfold Ba;grind)
   refine CG (h:=C3 (h:=Ew (h:=?_)));refine A3 rfl (fun yu yg=>?_) (fun yu yg=>?_)
   ·refine BR (h:=?_);refine A4 ?_;exact vi (by unfold Ba;grind)
   refine B2 (h:=?_);refine AK (Jg _) ?_;refine m_ (h:=?_);refine AF true rfl rfl (fun yy yr=>?_) (fun yy yr=>?_)
   ·refine CG (h:=m_ (h:=D2 (h:=BZ (h:=GB (h:=Ew (h:=F1 (h:=?_)))))));refine A4 ?_;exact vi (by unfold Ba;grind)
   refine Hu (h:=Jb (h:=BB (h:=HG (h:=DT (h:=JF (h:=B2 (h:=?_)))))));refine AK (Jg _) ?_;refine F6 (h:=CG (h:=Ew (h:=Ja (h:=Fi (h:=?_)))));refine A4 ?_;exact vi (by unfold Ba;grind)
  refine GS (h:=Jr (h:=GC (h:=Bq (h:=B2 (h:=Fw (h:=?_))))));refine CG (h:=m_ (h:=?_));refine AF false rfl rfl (fun ff fc=>?_) (fun ff fc=>?_)
  ·refine G9 (h:=Ew (h:=F1 (h:=?_)));refine A4 ?_;exact vi (by unfold Ba;grind)
  refine CG (h:=C3 (h:=Ew (h:=?_)));refine A3 rfl (fun fe fx=>?_) (fun fe fx=>?_)
  ·refine BR (h:=?_);refine A4 ?_;exact vi (by unfold Ba;grind)
  refine B2 (h:=?_);refine AK (Jg _) ?_;refine m_ (h:=?_);refine AF true rfl rfl (fun fq od=>?_) (fun fq od=>?_)
  ·refine CG (h:=m_ (h:=D2 (h:=BZ (h:=GB (h:=Ew (h:=F1 (h:=?_)))))));refine A4 ?_;exact vi (by unfold Ba;grind)
  refine Hu (h:=Jb (h:=BB (h:=HG (h:=DT (h:=JF (h:=B2 (h:=?_)))))));refine AK (Jg _) ?_;refine F6 (h:=CG (h:=Ew (h:=Ja (h:=Fi (h:=?_)))));refine A4 ?_;exact vi (by unfold Ba;grind)
 refine Jo (h:=HG (h:=BB (h:=HG (h:=DT (h:=GC (h:=FA (h:=w_ (f_ (h:=?_)))))))));refine l_ (h:=EG (h:=?_));refine AF false rfl rfl (fun fy oe=>?_) (fun fy oe=>?_)
 ·refine EV (h:=BC (h:=?_));refine A4 ?_;exact vi (by unfold Ba;grind)
 refine Jd (h:=Cq (h:=?_));refine A3 rfl (fun ma fr=>?_) (fun ma fr=>?_)
 ·refine BC (h:=?_);refine A4 ?_;exact vi (by unfold Ba;grind)
 refine DF (h:=Fw (h:=?_));refine AF true rfl rfl (fun mu mv=>?_) (fun mu mv=>?_)
 ·refine CG (h:=Bg (h:=?_));refine AF true rfl rfl (fun ob mf=>?_) (fun ob mf=>?_)
  ·refine Ac (h:=?_);refine Ak (AX (Jg _) ?_);rintro r rfl;refine m_ (h:=?_);refine AF false rfl rfl (fun og mw=>?_) (fun og mw=>?_)
   ·refine G9 (h:=Fg (h:=?_));refine A4 ?_;exact vi (by unfold Ba;grind)
   refine CG (h:=C3 (h:=Bm (h:=e_ (Ja (h:=Bq (h:=B2 (h:=Fw (h:=Jr (h:=C3 (h:=?_))))))))));refine Ro (h:=B2 (h:=?_));refine AK (Jg _) ?_;refine m_ (h:=Hu (h:=Jb (h:=BB (h:=HG (h:=DT (h:=JF (h:=B2 (h:=?_))))))));refine AK (Jg _) ?_;refine F6 (h:=CG (h:=Ew (h:=?_)));refine A3 rfl (fun mg my=>?_) (fun mg my=>?_)
   ·refine BR (h:=?_);refine A4 ?_;exact vi (by unfold Ba;grind)
   refine Fi (h:=?_);refine A4 ?_;exact vi (by unfold Ba;grind)
  refine Jr (h:=GC (h:=Bq (h:=B2 (h:=Fw (h:=CO (h:=Jb (h:=?_)))))));refine Gp (h:=DT (h:=JF (h:=B2 (h:=?_))));refine AK (Jg _) ?_;refine m_ (h:=?_);refine AF true rfl rfl (fun po oh=>?_) (fun po oh=>?_)
  ·refine CG (h:=m_ (h:=?_));refine AF false rfl rfl (fun kz pi=>?_) (fun kz pi=>?_)
   ·refine Co (h:=GB (h:=Ew (h:=F1 (h:=?_))));refine A4 ?_;exact vi (by unfold Ba;grind)
   refine D2 (h:=BZ (h:=?_));refine AF false rfl rfl (fun mq pp=>?_) (fun mq pp=>?_)
   ·refine GB (h:=Ew (h:=F1 (h:=?_)));refine A4 ?_;exact vi (by unfold Ba;grind)
   refine Gr (h:=ET (h:=C3 (h:=Ew (h:=?_))));refine A3 rfl (fun ja jb=>?_) (fun ja jb=>?_)
   ·refine BR (h:=?_);refine A4 ?_;exact vi (by unfold Ba;grind)
   refine B2 (h:=?_);refine AK (Jg _) ?_;refine F6 (h:=DE (h:=Ro (h:=Fi (h:=?_))));refine A4 ?_;exact vi (by unfold Ba;grind)
  refine Hu (h:=Jb (h:=BB (h:=HG (h:=DT (h:=JF (h:=B2 (h:=?_)))))));refine AK (Jg _) ?_;refine F6 (h:=CG (h:=Ew (h:=?_)));refine A3 rfl (fun jc jd=>?_) (fun jc jd=>?_)
  ·refine BR (h:=?_);refine A4 ?_;exact vi (by unfold Ba;grind)
  refine Fi (h:=?_);refine A4 ?_;exact vi (by unfold Ba;grind)
 refine GS (h:=Jr (h:=GC (h:=Bq (h:=B2 (h:=Fw (h:=?_))))));refine Jr (h:=JF (h:=B2 (h:=?_)));refine AK (Jg _) ?_;refine m_ (h:=?_);refine AF true rfl rfl (fun je jf=>?_) (fun je jf=>?_)
 ·refine CG (h:=m_ (h:=?_));refine AF false rfl rfl (fun jg jh=>?_) (fun jg jh=>?_)
  ·refine Co (h:=GB (h:=Ew (h:=F1 (h:=?_))));refine A4 ?_;exact vi (by unfold Ba;grind)
  refine D2 (h:=BZ (h:=?_));refine AF false rfl rfl (fun ji jj=>?_) (fun ji jj=>?_)
  ·refine GB (h:=Ew (h:=F1 (h:=?_)));refine A4 ?_;exact vi (by unfold Ba;grind)
  refine Gr (h:=ET (h:=C3 (h:=Ew (h:=?_))));refine A3 rfl (fun jl jm=>?_) (fun jl jm=>?_)
  ·refine BR (h:=?_);refine A4 ?_;exact vi (by unfold Ba;grind)
  refine B2 (h:=?_);refine AK (Jg _) ?_;refine F6 (h:=DE (h:=Ro (h:=Fi (h:=?_))));refine A4 ?_;exact vi (by unfold Ba;grind)
 refine Hu (h:=Jb (h:=BB (h:=HG (h:=DT (h:=JF (h:=B2 (h:=?_)))))));refine AK (Jg _) ?_;refine F6 (h:=CG (h:=Ew (h:=?_)));refine A3 rfl (fun jn jo=>?_) (fun jn jo=>?_)
 ·refine BR (h:=?_);refine A4 ?_;exact vi (by unfold Ba;grind)
 refine Fi (h:=?_);refine A4 ?_;exact vi (by unfold Ba;grind)
theorem gU(t:Tst)(list:Int):AFn prog 155 [.agg (DH t), .v (.int .i64 list)] (fun r=>r= .v (.int .i64 (Ba t list))):=by
 have hz:=XT t.text;have ho:FD t.fld=true->FR t.fld=false:=by unfold FD FR;simp;omega
 refine enter Tryz.func155 rfl rfl rfl rfl rfl 0 rfl ?_;refine Ee (h:=Du (h:=Ac (h:=?_)));refine AK (XQ _ _) ?_;refine F6 (h:=?_);refine AF false rfl rfl (fun kd ka=>?_) (fun kd ka=>?_)
 ·refine Hu (h:=HG (h:=HG (h:=HG (h:=Gp (h:=Lu (h:=Bm (h:=e_ (?_))))))));refine GQ (h:=BC (h:=?_));refine A4 ?_;exact vi (by unfold Ba;grind)
 refine CG (h:=m_ (h:=?_));refine AF true rfl rfl (fun ke kc=>?_) (fun ke kc=>?_)
 ·refine m_ (h:=Ac (h:=?_));refine Ak (AX (XQ _ _) ?_);rintro r rfl;refine F6 (h:=?_);refine AF false rfl rfl (fun kh kf=>?_) (fun kh kf=>?_)
  ·refine CO (h:=Bg (h:=GB (h:=Bm (h:=C3 (h:=Nk (h:=BC (h:=?_)))))));refine A4 ?_;exact vi (by unfold Ba;grind)
  refine Ac (h:=?_);refine Ak (AX (XO _) ?_);rintro r rfl;refine D1 (h:=BZ (h:=?_));refine AF false rfl rfl (fun kl kg=>?_) (fun kl kg=>?_)
  ·refine GB (h:=Bm (h:=C3 (h:=Nk (h:=BC (h:=?_)))));refine A4 ?_;exact vi (by unfold Ba;grind)
  refine Ac (h:=?_);refine Ak (AX (XO _) ?_);rintro r rfl;refine D1 (h:=C3 (h:=Bm (h:=Cq (h:=?_))));refine A3 rfl (fun ko kk=>?_) (fun ko kk=>?_)
  ·refine BC (h:=?_);refine A4 ?_;exact vi (by unfold Ba;grind)
  refine DF (h:=EG (h:=?_));refine AF false rfl rfl (fun kq km=>?_) (fun kq km=>?_)
  ·refine Co (h:=Hu (h:=HG (h:=Gp (h:=DT (h:=L3 (h:=DZ (h:=?_)))))));refine BH (Bp (?_));refine A4 ?_;exact vi (by unfold Ba;grind)
  refine Jd (h:=BZ (h:=?_));refine AF false rfl rfl (fun ks kp=>?_) (fun ks kp=>?_)
  ·refine Hu (h:=HG (h:=Gp (h:=DT (h:=Fg (h:=?_)))));refine A4 ?_;exact vi (by unfold Ba;grind)
  refine Jd (h:=m_ (h:=?_));refine AF true rfl rfl (fun kt kr=>?_) (fun kt kr=>?_)
  ·refine Ac (h:=?_);refine Ak (AX (N4 _) ?_);rintro r rfl;refine m_ (h:=?_);refine AF false rfl rfl (fun kv ku=>?_) (fun kv ku=>?_)
   ·refine G9 (h:=Bm (h:=C3 (h:=Nk (h:=BC (h:=?_)))));refine A4 ?_;exact vi (by unfold Ba;grind)
   refine CG (h:=C3 (h:=Bm (h:=C3 (h:=Nk (h:=BC (h:=?_))))));refine A4 ?_;exact vi (by unfold Ba;grind)
  refine Jr (h:=C3 (h:=GC (h:=DF (h:=Fw (h:=CG (h:=m_ (h:=?_)))))));refine AF false rfl rfl (fun yf yb=>?_) (fun yf yb=>?_)
  ·refine G9 (h:=Fg (h:=?_));refine A4 ?_;exact vi (by unfold Ba;grind)
  refine CG (h:=C3 (h:=Bm (h:=e_ (?_))));refine A3 rfl (fun yq yc=>?_) (fun yq yc=>?_)
  ·refine BC (h:=?_);refine A4 ?_;exact vi (by unfold Ba;grind)
  refine DF (h:=Dv (h:=GS (h:=Hu (h:=Jb (h:=BB (h:=Gp (h:=Jb (h:=?_))))))));refine Lu (h:=BZ (h:=Ac (h:=?_)));refine Ak (AX (N4 _) ?_);rintro r rfl;refine F6 (h:=?_);refine AF true rfl rfl (fun yu yg=>?_) (fun yu yg=>?_)
  ·refine CG (h:=Bm (h:=GC (h:=AG (KT (h:=?_)))));refine A4 ?_;exact vi (by unfold Ba;grind)
  refine DE (h:=GC (h:=AG (KT (h:=?_))));refine A4 ?_;exact vi (by unfold Ba;grind)
 refine Jo (h:=HG (h:=BB (h:=HG (h:=DT (h:=C3 (h:=GC (h:=FA (h:=w_ (?_)))))))));refine Ac (h:=EG (h:=?_));refine AF false rfl rfl (fun yy yr=>?_) (fun yy yr=>?_)
 ·refine Co (h:=Hu (h:=HG (h:=Gp (h:=DT (h:=L3 (h:=DZ (h:=?_)))))));refine BH (Bp (?_));refine A4 ?_;exact vi (by unfold Ba;grind)
 refine Jd (h:=BZ (h:=?_));refine AF false rfl rfl (fun ff fc=>?_) (fun ff fc=>?_)
 ·refine Hu (h:=HG (h:=Gp (h:=DT (h:=Fg (h:=?_)))));refine A4 ?_;exact vi (by unfold Ba;grind)
 refine Jd (h:=m_ (h:=?_));refine AF true rfl rfl (fun fe fx=>?_) (fun fe fx=>?_)
 ·refine Ac (h:=?_);refine Ak (AX (N4 _) ?_);rintro r rfl;refine m_ (h:=?_);refine AF false rfl rfl (fun fq od=>?_) (fun fq od=>?_)
  ·refine G9 (h:=Bm (h:=C3 (h:=Nk (h:=BC (h:=?_)))));refine A4 ?_;exact vi (by unfold Ba;grind)
  refine CG (h:=C3 (h:=Bm (h:=GC (h:=DF (h:=Fw (h:=Jr (h:=C3 (h:=?_))))))));refine e_ (Ja (h:=DF (h:=Dv (h:=Ac (h:=?_)))));refine Ak (AX (N4 _) ?_);rintro r rfl;refine Bg (h:=Hu (h:=Jb (h:=BB (h:=HG (h:=DT (h:=BZ (h:=Ac (h:=?_))))))));refine Ak (AX (N4 _) ?_);rintro r rfl;refine F6 (h:=CG (h:=Bm (h:=Cq (h:=?_))));refine A3 rfl (fun fy oe=>?_) (fun fy oe=>?_)
  ·refine BC (h:=?_);refine A4 ?_;exact vi (by unfold Ba;grind)
  refine AG (KT (h:=?_));refine A4 ?_;exact vi (by unfold Ba;grind)
 refine Jr (h:=C3 (h:=GC (h:=DF (h:=Fw (h:=CO (h:=Jb (h:=?_)))))));refine Gp (h:=DT (h:=GC (h:=DF (h:=Dv (h:=Ac (h:=?_))))));refine Ak (AX (N4 _) ?_);rintro r rfl;refine Bg (h:=?_);refine AF true rfl rfl (fun ma fr=>?_) (fun ma fr=>?_)
 ·refine CG (h:=m_ (h:=?_));refine AF false rfl rfl (fun mu mv=>?_) (fun mu mv=>?_)
  ·refine Co (h:=GB (h:=Bg (h:=BB (h:=Hs (h:=Gp (h:=Lu (h:=L3 (h:=?_))))))));refine BC (h:=?_);refine A4 ?_;exact vi (by unfold Ba;grind)
  refine D2 (h:=BZ (h:=?_));refine AF false rfl rfl (fun ob mf=>?_) (fun ob mf=>?_)
  ·refine GB (h:=Bg (h:=BB (h:=Hs (h:=Gp (h:=Lu (h:=Fg (h:=?_)))))));refine A4 ?_;exact vi (by unfold Ba;grind)
  refine Gr (h:=ET (h:=C3 (h:=Bg (h:=?_))));refine AF false rfl rfl (fun og mw=>?_) (fun og mw=>?_)
  ·refine BB (h:=Hs (h:=Gp (h:=Lu (h:=Fg (h:=?_)))));refine A4 ?_;exact vi (by unfold Ba;grind)
  refine Ac (h:=?_);refine Ak (AX (N4 _) ?_);rintro r rfl;refine F6 (h:=DE (h:=GC (h:=AG (KT (h:=?_)))));refine A4 ?_;exact vi (by unfold Ba;grind)
 refine Hu (h:=Jb (h:=BB (h:=HG (h:=DT (h:=BZ (h:=Ac (h:=?_)))))));refine Ak (AX (N4 _) ?_);rintro r rfl;refine F6 (h:=CG (h:=Bm (h:=Cq (h:=?_))));refine A3 rfl (fun mg my=>?_) (fun mg my=>?_)
 ·refine BC (h:=?_);refine A4 ?_;exact vi (by unfold Ba;grind)
 refine AG (KT (h:=?_));refine A4 ?_;exact vi (by unfold Ba;grind)
def N5(t:Tst)(c:Ctx):Bool:=decide ((if t.fld=14 then c.comm else c.exe)=t.text)==decide (t.op=1)
def OX(t:Tst)(c:Ctx)(y:Itm):Bool:=
 if FD t.fld=true then N5 t c else L6 t.op (Dx t.fld c y) (if t.other=0 then t.num else Dx t.other c y)
def Jw(t:Tst)(c:Ctx)(y:Itm):Bool:=
 if FD t.fld=true then N5 t c else if C2 t.fld c=false then false else if t.other=0 then L6 t.op (Dx t.fld c y) t.num else if C2 t.other c=false then false else L6 t.op (Dx t.fld c y) (Dx t.other c y)
def XV(t:Tst):Prop:=1<=t.fld/\t.fld<=22/\(t.other=0\/1<=t.other/\t.other<=22/\FD t.other=false)/\1<=t.op/\t.op<=8
theorem XW(t:Tst)(c:Ctx)(k:Cxs)(y:Itm)(ht:XV t):AFn prog 161 [.agg (DH t), .agg (EK c k), .agg (GG y)] (fun r=>r= .v (.bool (Jw t c y))):=by
 obtain⟨f1,f2,o1,p1,p2⟩:=ht;refine enter Tryz.func161 rfl rfl rfl rfl rfl 0 rfl ?_;refine Fe (h:=b_ (h:=GT (h:=?_)));refine AK (Jg _) ?_;refine e_ (?_);refine A3 rfl (fun kd ka=>?_) (fun kd ka=>?_)
 ·refine w_ (E4 (h:=GT (h:=BO (h:=?_))));refine A3 rfl (fun ke kc=>?_) (fun ke kc=>?_)
  ·refine Aq (E4 (h:=Cl (h:=D2 (h:=D2 (h:=Df (h:=FN (h:=?_)))))));refine A4 ?_;exact vb (by unfold Jw N5;simp_all)
  refine Ei (h:=D2 (h:=D2 (h:=Df (h:=FN (h:=?_)))));refine A4 ?_;exact vb (by unfold Jw N5;simp_all)
 refine AG (B2 (h:=Fv (h:=?_)));refine A7 (AX (XS t.fld c k y f1 f2 ka) ?_);rintro r ⟨n1,rfl,hn1⟩;refine Ft (h:=Jq (h:=CY (h:=?_)));refine A3 rfl (fun kh kf=>?_) (fun kh kf=>?_)
 ·refine BC (h:=?_);refine A4 ?_;exact vb (by unfold Jw N5;simp_all)
 refine AG (B2 (h:=GT (h:=D3 (h:=?_))));refine A3 rfl (fun kl kg=>?_) (fun kl kg=>?_)
 ·refine B2 (h:=Fv (h:=?_));refine A7 (AX (XS t.other c k y (by omega) (by omega) (o1.resolve_left kg).2.2) ?_);rintro r ⟨n2,rfl,hn2⟩;refine Ft (h:=a_ (h:=Cl (h:=CY (h:=?_))));refine A3 rfl (fun ko kk=>?_) (fun ko kk=>?_)
  ·refine BC (h:=?_);refine A4 ?_;exact vb (by unfold Jw N5;simp_all)
  refine AG (B2 (h:=Cp (h:=?_)));refine AK (XR _ _ _ p1 p2) ?_;refine BW (h:=?_);refine A4 ?_;exact vb (by unfold Jw N5;simp_all)
 refine AG (B2 (h:=Cp (h:=?_)));refine AK (XR _ _ _ p1 p2) ?_;refine BW (h:=?_);refine A4 ?_;exact vb (by unfold Jw N5;simp_all)
end
theorem Lv{α:Type}{p:α->Bool}{l:List α}{j:Nat}{x:α}(hx:l[j]?=some x)(hp:p x=true)(h:∀i y,i<j->l[i]?=some y->p y=false):l.find? p=some x:=by
 have:=XF hx hp h;rw[<-XH,this]
 simpa using hx
theorem Lw{α:Type}{p:α->Bool}{l:List α}(h:∀i y,i<l.length->l[i]?=some y->p y=false):l.find? p=none:=by
 rw[List.find?_eq_none];intro x hx;obtain⟨i,hi,rfl⟩:=List.mem_iff_getElem.1 hx;simp[h i _ hi (B7 hi)]
theorem XX{f:AR}{a:A8}(h:Dl f a=true):C5 f a=some (AY f a):=by
 unfold Dl at h;unfold AY
 cases hn:C5 f a with
 |none=>rw[hn]at h;cases h
 |some n=>rfl
theorem XY{f:AR}{a:A8}(h:Dl f a=false):C5 f a=none:=by
 unfold Dl at h
 cases hn:C5 f a with
 |none=>rfl
 |some n=>rw[hn]at h;cases h
section
theorem LV(f:AR)(a:A8)(name:AD)(hf:FlsB f):AFn prog 134 [.agg (Ap f), .agg (AB a), .v (.string name)] (fun r=>r= .tup [.agg (AB (AJ f a name).1), .v (.int .i64 (AJ f a name).2)]):=by
 have hen:=Ph hf a;refine enter Tryz.func134 rfl rfl rfl rfl rfl 0 rfl ?_;refine Ef (h:=Ay (h:=C9 (h:=?_)));refine AK (G0 f a hf) ?_;refine HQ (h:=?_);refine A3 rfl (fun kd ka=>?_) (fun kd ka=>?_)
 ·have e:=XY ka;refine Bj (h:=?_);refine A4 ?_;rw[show AJ f a name=((0,0),2) by simp[AJ,e]];rfl
 have e:=XX ka;refine DF (h:=D3 (h:=?_));refine A3 rfl (fun ke kc=>?_) (fun ke kc=>?_)
 ·refine Bj (h:=?_);refine A4 ?_;rw[show AJ f a name=((0,0),20) by simp[AJ,e,kc]];rfl
 refine AG (Cz (h:=?_));refine BL (fun m s=>∃j:Nat,j<=(AY f a).entries.length/\m=(AY f a).entries.length - j/\(∀i y,i<j->(AY f a).entries[i]?=some y->decide (y.1=name)=false)/\s=⟨look [(2, .v (.string name)),(4, .bp 1 0),(6, .bp 2 0),(8, .bp 3 0),(10, .v (.int .i64 (j:Int)))],⟨[Ap f,AB a,[.v (.int .i64 0), .v (.int .i64 0)],Al (AY f a)],[]⟩⟩) ((AY f a).entries.length) ((wk 4 0)) (⟨0,by omega,rfl,fun i y hi=>by omega,rfl⟩) ?_;rintro m s ⟨j,hj,rfl,ha,rfl⟩;refine Hz (h:=?_);refine A3 rfl (fun kh kf=>?_) (fun kh kf=>?_)
 ·obtain⟨hlt,x,hy,ya, -⟩:=Bx D6 kf;refine Bq (h:=F8 (h:=i_ (h:=Eu (h:=BO (h:=?_)))));refine A3 rfl (fun kl kg=>?_) (fun kl kg=>?_)
  ·refine q_ (BJ ([(0,Ap f),(1,AB a),(3,Al (AY f a))]) 11 (h:=AA 0 (h:=A9 1 (h:=AA 2 (h:=A9 3 (h:=AE 4 (h:=E1 5 (h:=AA 6 (h:=A9 7 (h:=Kz 8 (h:=?_)))))))))));refine Ax 9 (h:=B8 10 (h:=z_ (h:=t_ (BH (ML (Bp (Bp (ML (Bp (?_))))))))));refine A4 ?_;rw[show AJ f a name=((a.1,x.2),0) by simp only[AJ,e];rw[if_pos (by omega),Lv hy (by simpa using kg) ha]];rfl
  refine Dg (h:=?_);refine⟨_,_,?_,⟨j+1,by omega,rfl,GX hy ha (by simpa using kg),rfl⟩,(wk 4 0)⟩;omega
 have e3:=CA D6 hj kf;subst e3;refine C4 (h:=Gq (h:=BW (h:=?_)));refine A4 ?_;rw[show AJ f a name=((0,0),2) by simp only[AJ,e];rw[if_pos (by omega),Lw ha]];rfl
end
theorem MU{P:Program}{ev:Operand->Option AV}{h:AH}{R:AV->AH->Prop}{d:Option Tmp}{ty:TypeId}{pos:String}{af:Array Edge}{gd:Option (Nat×Bool)}{T:TypeId}{x ix:Operand}{s:ByteArray}{n:Nat}{k:IntKind}{i:Int}(hu:P.underlying T=some .string)
    (hx:ev x=some (.v (.string s))) (hi:ev ix=some (.v (.int k i))) (hn:i=(n:Int)) (hlt:n<s.size) (hR:R (.v (.int .u8 (s[n].toNat:Int))) h):AStep P ⟨d, .index T x ix,ty,pos,af,gd⟩ ev h R:=by
 refine De (fun _ G w ec _ he=>?_) hR;have h1:=he x (by simp[Op.operands]) _ hx;have h2:=he ix (by simp[Op.operands]) _ hi;simp only[rep]at h1 h2;subst hn;refine⟨.int .u8 (s[n].toNat:Int),?_,by simp only[rep]⟩;have e:s[n]?=some s[n]:=getElem?_pos s n hlt;simp[execOp,h1,h2,Instr.index,asIntOf,run_underlying hu,e]
theorem N6(s:AD):FC s=if s.size<1\/12<s.size then false else if s=⟨#[46]⟩then false else if s=⟨#[46,46]⟩then false else s.data.toList.all MS:=by
 unfold FC;have e1:=Rq s ⟨#[46]⟩;have e2:=Rq s ⟨#[46,46]⟩;rw[show(⟨#[46]⟩:ByteArray).toList=[46] by rw[ByteArray.toList_eq]]at e1;rw[show(⟨#[46,46]⟩:ByteArray).toList=[46,46] by rw[ByteArray.toList_eq]]at e2;rw[e1,e2];simp only[decide_eq_true_eq]
theorem gV{c:UInt8}(h1:¬(c.toNat:Int)=0)(h2:¬(c.toNat:Int)=47):MS c=true:=by
 unfold MS;simp;omega
section
theorem Tq(s:AD)(hs:s.size<=100000):AFn prog 136 [.v (.string s)] (fun r=>r= .v (.bool (FC s))):=by
 refine enter Tryz.func136 rfl rfl rfl rfl rfl 0 rfl ?_;refine GE (h:=n_ (h:=EG (h:=?_)));refine AF false rfl rfl (fun kd ka=>?_) (fun kd ka=>?_)
 ·refine Co (h:=BB (h:=Bg (h:=BB (h:=Fg (h:=?_)))));refine A4 ?_;exact vb (by rw[N6,if_pos (by omega)])
 refine m_ (h:=Fx (h:=BZ (h:=?_)));refine AF false rfl rfl (fun ke kc=>?_) (fun ke kc=>?_)
 ·refine BB (h:=Bg (h:=BB (h:=Fg (h:=?_))));refine A4 ?_;exact vb (by rw[N6,if_pos (by omega)])
 refine EJ (h:=BZ (h:=?_));refine AF false rfl rfl (fun kh kf=>?_) (fun kh kf=>?_)
 ·refine BB (h:=Fg (h:=?_));refine A4 ?_;exact vb (by rw[N6,if_neg (by omega),if_pos kf])
 refine EJ (h:=Cq (h:=?_));refine A3 rfl (fun kl kg=>?_) (fun kl kg=>?_)
 ·refine BC (h:=?_);refine A4 ?_;exact vb (by rw[N6,if_neg (by omega),if_neg kf,if_pos kg])
 refine AG (Cz (h:=?_));refine BL (fun m t=>∃j:Nat,j<=s.size/\m=s.size - j/\(∀i (hi:i<s.size),i<j->MS s[i]=true)/\t=⟨look [(0, .v (.string s)),(3, .v (.int .i64 (j:Int)))],⟨[],[]⟩⟩) (s.size) ((wk 0 0)) (⟨0,by omega,rfl,fun i _ hi=>by omega,rfl⟩) ?_;rintro m t ⟨j,hj,rfl,ha,rfl⟩;refine EH (h:=JD (h:=?_));refine A3 rfl (fun ko kk=>?_) (fun ko kk=>?_)
 ·have hlt:j<s.size:=by omega
  refine Bq (h:=Eh (h:=?_));refine A7 (MU (n:=j) Tryz.underlying9 rfl rfl rfl hlt ?_);refine Dv (h:=?_);refine AF false rfl rfl (fun kq km=>?_) (fun kq km=>?_)
  ·refine CO (h:=L3 (h:=BR (h:=C1 (h:=?_))));refine A4 ?_;exact vb (by rw[N6,if_neg (by omega),if_neg kf,if_neg kg,To hlt (by unfold MS;simp[km])])
  refine Cp (h:=?_);refine Ak (MU (n:=j) Tryz.underlying9 rfl rfl rfl hlt ?_);refine Df (h:=Cq (h:=?_));refine A3 rfl (fun ks kp=>?_) (fun ks kp=>?_)
  ·refine BR (h:=C1 (h:=?_));refine A4 ?_;exact vb (by rw[N6,if_neg (by omega),if_neg kf,if_neg kg,To hlt (by unfold MS;simp[kp])])
  refine Dg (h:=?_);refine⟨_,_,?_,⟨j+1,by omega,rfl,XK hlt ha (gV km kp),rfl⟩,(wk 0 0)⟩;omega
 obtain rfl:j=s.size:=by omega
 refine Hv (h:=?_);refine A4 ?_;exact vb (by rw[N6,if_neg (by omega),if_neg kf,if_neg kg,XJ (fun i hi=>ha i hi hi)])
end
theorem gW(f:AR)(a:A8):MT f a=decide (12<=(AY f a).entries.length):=by
 unfold MT AY;cases C5 f a<;>simp[Nod.zero]
theorem gX(f:AR)(a:A8):N2 f a=decide ((AY f a).entries.length=0):=by
 unfold N2 AY;cases C5 f a<;>simp[Nod.zero]
theorem gY{f:AR}{a:A8}{k:Nat}{d:Dvc}{n:Nod}(hk:a.1=(k:Int))(hd:f[k]?=some d)(hn:C5 f a=some n):L4 f a=Br a.2 d.nodes:=by
 unfold L4;rw[hn,hk,Nn,hd]
section
theorem gZ(s:AD)(hs:s.size<=100000):AFn prog 258 [.v (.string s)] (fun r=>r= .v (.bool (Np s))):=by
 refine enter Tryz.func258 rfl rfl rfl rfl rfl 0 rfl ?_;refine DZ (h:=Cz (h:=?_));refine BL (fun m t=>∃j:Nat,j<=s.size/\m=s.size - j/\(∀i (hi:i<s.size),i<j->(!((s[i].toNat:Int)==0))=true)/\t=⟨look [(0, .v (.string s)),(3, .v (.int .i64 (j:Int)))],⟨[],[]⟩⟩) (s.size) ((wk 0 0)) (⟨0,by omega,rfl,fun i _ hi=>by omega,rfl⟩) ?_;rintro m t ⟨j,hj,rfl,ha,rfl⟩;refine EH (h:=JD (h:=?_));refine A3 rfl (fun kd ka=>?_) (fun kd ka=>?_)
 ·have hlt:j<s.size:=by omega
  refine Bq (h:=Eh (h:=?_));refine A7 (MU (n:=j) Tryz.underlying9 rfl rfl rfl hlt ?_);refine BO (h:=?_);refine A3 rfl (fun ke kc=>?_) (fun ke kc=>?_)
  ·refine BR (h:=C1 (h:=?_));refine A4 ?_;exact vb (by unfold Np;rw[To hlt (by simp[kc])];simp)
  refine Dg (h:=?_);refine⟨_,_,?_,⟨j+1,by omega,rfl,XK (p:=fun c=> !((c.toNat:Int)==0)) hlt ha (by simpa using kc),rfl⟩,(wk 0 0)⟩;omega
 obtain rfl:j=s.size:=by omega
 have hal:=XJ (p:=fun c=> !((c.toNat:Int)==0)) (fun i hi=>ha i hi hi);refine C4 (h:=Ab (h:=n_ (h:=Dt (h:=m_ (h:=?_)))));refine AF true rfl rfl (fun kh kf=>?_) (fun kh kf=>?_)
 ·refine m_ (h:=n_ (h:=Hq (h:=Eg (h:=?_))));refine A4 ?_;exact vb (by unfold Np;rw[hal,Bool.eq_iff_iff];simp;omega)
 refine Hy (h:=?_);refine A4 ?_;exact vb (by unfold Np;rw[hal,Bool.eq_iff_iff];simp;omega)
theorem OY(f:AR)(a:A8)(name:AD)(hf:FlsB f)(hs:name.size<=100000):AFn prog 230 [.agg (Ap f), .agg (AB a), .v (.string name)] (fun r=>r= .v (.int .i64 (Cr f a name))):=by
 refine enter Tryz.func230 rfl rfl rfl rfl rfl 0 rfl ?_;refine Hw (h:=C9 (h:=?_));refine AK (G0 f a hf) ?_;refine HQ (h:=?_);refine A3 rfl (fun kd ka=>?_) (fun kd ka=>?_)
 ·have e:=XY ka;refine BC (h:=?_);refine A4 ?_;exact vi (by simp[Cr,e])
 have e:=XX ka;refine DF (h:=D3 (h:=?_));refine A3 rfl (fun ke kc=>?_) (fun ke kc=>?_)
 ·refine BC (h:=?_);refine A4 ?_;exact vi (by simp[Cr,e,kc])
 refine D5 (h:=?_);refine AK (Tq name hs) ?_;refine CY (h:=?_);refine A3 rfl (fun kh kf=>?_) (fun kh kf=>?_)
 ·refine BC (h:=?_);refine A4 ?_;exact vi (by simp only[Cr,e];rw[if_pos (by omega),kf];rfl)
 refine AG (KT (h:=?_));refine A4 ?_;exact vi (by simp only[Cr,e];rw[if_pos (by omega),kf];rfl)
theorem Tr(f:AR)(a:A8)(hf:FlsB f):AFn prog 231 [.agg (Ap f), .agg (AB a)] (fun r=>r= .v (.bool (MT f a))):=by
 refine enter Tryz.func231 rfl rfl rfl rfl rfl 0 rfl ?_;refine Hw (h:=C9 (h:=?_));refine AK (G0 f a hf) ?_;refine EU (h:=Ay (h:=B2 (h:=n_ (h:=Dt (h:=BW (h:=?_))))));refine A4 ?_;exact vb (by rw[gW,Bool.eq_iff_iff];simp;omega)
theorem XZ(f:AR)(a:A8)(hf:FlsB f):AFn prog 235 [.agg (Ap f), .agg (AB a)] (fun r=>r= .v (.bool (N2 f a))):=by
 refine enter Tryz.func235 rfl rfl rfl rfl rfl 0 rfl ?_;refine Hw (h:=C9 (h:=?_));refine AK (G0 f a hf) ?_;refine EU (h:=Ay (h:=B2 (h:=n_ (h:=Df (h:=BW (h:=?_))))));refine A4 ?_;exact vb (by rw[gX,Bool.eq_iff_iff];simp)
theorem Xa(n:Nod)(hs:n.target.size<=100000):AFn prog 237 [.agg (Al n)] (fun r=>r= .v (.bool (J4 n))):=by
 have ee:n.target.toList.isEmpty=decide (n.target=⟨#[]⟩):=by
  rw[<-Rq n.target ⟨#[]⟩,show(⟨#[]⟩:ByteArray).toList=[] by rw[ByteArray.toList_eq]];cases n.target.toList<;>rfl
 refine enter Tryz.func237 rfl rfl rfl rfl rfl 0 rfl ?_;refine Ee (h:=Ay (h:=q_ (?_)));refine JW (⟨look [(1, .bp 0 0),(40, .v (.bool (decide (n.kind<1\/3<n.kind\/n.mode<0\/511<n.mode\/n.uid<0\/4294967295<n.uid\/n.gid<0\/4294967295<n.gid))))],⟨[Al n],[]⟩⟩) ?_ ?_
 ·refine Aq (Ac (h:=EG (h:=?_)));refine AF false rfl rfl (fun kd ka=>?_) (fun kd ka=>?_)
  ·refine Co (h:=Co (h:=Co (h:=Co (h:=G9 (h:=?_)))));refine m_ (h:=Co (h:=JG (h:=?_)));exact At 1 0 rfl rfl rfl rfl (by repeat (first|exact Sub.nil|refine Aw rfl rfl ?_|refine B3 ?_|refine B4 rfl ?_|refine B5 rfl ?_|(apply Sub.of;(focus exact rfl);(focus exact LeA.of_eq (vb (by rw[Bool.eq_iff_iff];simp;try omega)));(focus exact rfl))))
  refine Jd (h:=BZ (h:=?_));refine AF false rfl rfl (fun ke kc=>?_) (fun ke kc=>?_)
  ·refine Co (h:=Co (h:=Co (h:=Co (h:=G9 (h:=?_)))));refine m_ (h:=JG (h:=?_));exact At 1 0 rfl rfl rfl rfl (by repeat (first|exact Sub.nil|refine Aw rfl rfl ?_|refine B3 ?_|refine B4 rfl ?_|refine B5 rfl ?_|(apply Sub.of;(focus exact rfl);(focus exact LeA.of_eq (vb (by rw[Bool.eq_iff_iff];simp;try omega)));(focus exact rfl))))
  refine Ac (h:=Jc (h:=BZ (h:=?_)));refine AF false rfl rfl (fun kh kf=>?_) (fun kh kf=>?_)
  ·refine Co (h:=Co (h:=Co (h:=Co (h:=G9 (h:=?_)))));refine FP (h:=?_);exact At 1 0 rfl rfl rfl rfl (by repeat (first|exact Sub.nil|refine Aw rfl rfl ?_|refine B3 ?_|refine B4 rfl ?_|refine B5 rfl ?_|(apply Sub.of;(focus exact rfl);(focus exact LeA.of_eq (vb (by rw[Bool.eq_iff_iff];simp;try omega)));(focus exact rfl))))
  refine Jd (h:=BZ (h:=?_));refine AF false rfl rfl (fun kl kg=>?_) (fun kl kg=>?_)
  ·refine Co (h:=Co (h:=Co (h:=JG (h:=?_))));exact At 1 0 rfl rfl rfl rfl (by repeat (first|exact Sub.nil|refine Aw rfl rfl ?_|refine B3 ?_|refine B4 rfl ?_|refine B5 rfl ?_|(apply Sub.of;(focus exact rfl);(focus exact LeA.of_eq (vb (by rw[Bool.eq_iff_iff];simp;try omega)));(focus exact rfl))))
  refine Ac (h:=Jc (h:=BZ (h:=?_)));refine AF false rfl rfl (fun ko kk=>?_) (fun ko kk=>?_)
  ·refine Co (h:=Co (h:=JG (h:=?_)));exact At 1 0 rfl rfl rfl rfl (by repeat (first|exact Sub.nil|refine Aw rfl rfl ?_|refine B3 ?_|refine B4 rfl ?_|refine B5 rfl ?_|(apply Sub.of;(focus exact rfl);(focus exact LeA.of_eq (vb (by rw[Bool.eq_iff_iff];simp;try omega)));(focus exact rfl))))
  refine Jd (h:=BZ (h:=?_));refine AF false rfl rfl (fun kq km=>?_) (fun kq km=>?_)
  ·refine Co (h:=JG (h:=?_));exact At 1 0 rfl rfl rfl rfl (by repeat (first|exact Sub.nil|refine Aw rfl rfl ?_|refine B3 ?_|refine B4 rfl ?_|refine B5 rfl ?_|(apply Sub.of;(focus exact rfl);(focus exact LeA.of_eq (vb (by rw[Bool.eq_iff_iff];simp;try omega)));(focus exact rfl))))
  refine Ac (h:=Jc (h:=BZ (h:=?_)));refine AF false rfl rfl (fun ks kp=>?_) (fun ks kp=>?_)
  ·refine JG (h:=?_);exact At 1 0 rfl rfl rfl rfl (by repeat (first|exact Sub.nil|refine Aw rfl rfl ?_|refine B3 ?_|refine B4 rfl ?_|refine B5 rfl ?_|(apply Sub.of;(focus exact rfl);(focus exact LeA.of_eq (vb (by rw[Bool.eq_iff_iff];simp;try omega)));(focus exact rfl))))
  refine Jd (h:=F9 (h:=?_));exact At 1 0 rfl rfl rfl rfl (by repeat (first|exact Sub.nil|refine Aw rfl rfl ?_|refine B3 ?_|refine B4 rfl ?_|refine B5 rfl ?_|(apply Sub.of;(focus exact rfl);(focus exact LeA.of_eq (vb (by rw[Bool.eq_iff_iff];simp;try omega)));(focus exact rfl))))
 skip
 refine A3 rfl (fun kt kr=>?_) (fun kt kr=>?_)
 ·refine BC (h:=?_);refine A4 ?_;exact vb (by rw[J4,if_pos kr])
 refine DF (h:=BO (h:=?_));refine A3 rfl (fun kv ku=>?_) (fun kv ku=>?_)
 ·refine B2 (h:=?_);refine AK (gZ n.target hs) ?_;refine FN (h:=?_);refine A4 ?_;exact vb (by rw[J4,if_neg kr,if_pos ku])
 refine AG (B2 (h:=Df (h:=BW (h:=?_))));refine A4 ?_;exact vb (by rw[J4,if_neg kr,if_neg ku,ee])
theorem hC(f:AR)(a:A8)(hf:FlsB f):AFn prog 257 [.agg (Ap f), .agg (AB a)] (fun r=>r= .v (.int .i64 (L4 f a:Int))):=by
 refine enter Tryz.func257 rfl rfl rfl rfl rfl 0 rfl ?_;refine Hw (h:=q_ (C9 (h:=?_)));refine AK (N3 f a hf) ?_;refine Ff (h:=?_);refine A3 rfl (fun kd ka=>?_) (fun kd ka=>?_)
 ·have e:C5 f a=none:=by
   rcases MR f a with h|⟨k,i,d,n, -, -, -, -,h, -⟩
   ·exact h.2
   exfalso;omega
  refine BC (h:=?_);refine A4 ?_;exact vi (by simp[L4,e])
 obtain⟨k,i,d,n,g1,g2,g3,g4,g5,g6⟩:=(MR f a).resolve_left (fun h=>by omega);have hr1:(f.map CQ)[k]?=some (CQ d):=by rw[List.getElem?_map,g2];rfl
 have hdn:=hf.nodes d (Aj g2);refine AG (DZ (h:=H8 (h:=?_)));refine A7 (DM (n:=k) rfl rfl g1 hr1 ?_);refine Ac (h:=Ay (h:=Cz (h:=?_)));refine BL (fun m s=>∃j c:Nat,j<=d.nodes.length/\m=d.nodes.length - j/\c=Br a.2 (d.nodes.take j)/\c<=1000 * j/\s=⟨look [(3, .bp 1 0),(5, .v (.int .i64 (c:Int))),(6, .sl 8 (d.nodes.map Al) none),(7, .v (.int .i64 (j:Int)))],⟨[Ap f,AB a],[]⟩⟩) (d.nodes.length) ((wk 2 0)) (⟨0,0,by omega,rfl,rfl,by omega,rfl⟩) ?_;rintro m s ⟨j,c,hj,rfl,hcn,hcb,rfl⟩;refine EH (h:=JD (h:=?_));refine A3 rfl (fun ke kc=>?_) (fun ke kc=>?_)
 ·obtain⟨hlt,x,hx,ya, -⟩:=Bx Al kc;have hen:=hf.ents d (Aj g2) x (Aj hx);refine Bq (h:=OV (h:=?_));refine BL (fun m s=>∃i c2:Nat,i<=x.entries.length/\m=x.entries.length - i/\c2=c+Da a.2 (x.entries.take i)/\c2<=c+i/\s=⟨look [(3, .bp 1 0),(5, .v (.int .i64 (c2:Int))),(6, .sl 8 (d.nodes.map Al) none),(7, .v (.int .i64 (j:Int))),(8, .v (.int .i64 (i:Int)))],⟨[Ap f,AB a],[]⟩⟩) (x.entries.length) ((wk 2 0)) (⟨0,c,by omega,rfl,rfl,by omega,rfl⟩) ?_;rintro m s ⟨i,c2,hi,rfl,hc2n,hc2b,rfl⟩;refine Be (h:=Cp (h:=i_ (h:=Gr (h:=Ff (h:=?_)))));refine A3 rfl (fun kh kf=>?_) (fun kh kf=>?_)
  ·obtain⟨hlt3,y,hy,hrow3, -⟩:=Bx D6 kf;refine AG (q_ (BF (q_ (E0 12 (h:=AE 0 (h:=AE 1 (h:=E1 2 (h:=AA 3 (h:=A9 4 (h:=AE 5 (h:=E1 6 (h:=AA 7 (h:=A9 8 (h:=AA 9 (h:=A9 10 (h:=KS 11 (h:=z_ (h:=t_ (?_)))))))))))))))))));refine A3 rfl (fun kl kg=>?_) (fun kl kg=>?_)
   ·refine Nj (h:=FO (h:=?_))
    (refine⟨_,_,?_,⟨i+1,c2+1,by omega,rfl,?_,by omega,rfl⟩,(wk 2 0)⟩<;>first|omega|(rw[XL hy];simp[kg];omega))
   refine Dg (h:=?_);refine⟨_,_,?_,⟨i+1,c2,by omega,rfl,?_,by omega,rfl⟩,(wk 2 0)⟩<;>first|omega|(rw[XL hy];simp[kg];omega)
  have e3:=CA D6 hi kf;subst e3;refine LS (h:=FO (h:=?_));refine⟨_,_,?_,⟨j+1,c2,by omega,rfl,?_,?_,rfl⟩,(wk 2 0)⟩
  ·omega
  ·rw[hc2n,gS hx,List.take_length];omega
  have:=gR a.2 (x.entries.take x.entries.length);simp at this;omega
 have e2:=CA Al hj kc;subst e2;refine C4 (h:=EW (h:=?_));refine A4 ?_;exact vi (by rw[gY g1 g2 g6,hcn,List.take_length])
end
def Dm(m:E7):List AV:=[.v (.int .i64 m.1), .v (.int .i64 m.2.1), .v (.int .i64 m.2.2)]
def AQ(s:Spc):List AV:=[.sl 2 (s.files.map CQ) none, .sl 3 (s.mounts.map Dm) none]
structure SpcB(s:Spc):Prop where
 files:FlsB s.files
 few:s.mounts.length<=1000
def CB(s:Spc)(dev:Int):Option A8:=(s.mounts.find? fun m:E7=>decide (m.1=dev)).map (·.2)
def CH(s:Spc)(a:A8):Option Int:=(s.mounts.find? fun m:E7=>decide (m.2=a)).map (·.1)
def CR(s:Spc)(dev:Int):Bool:=(CB s dev).isSome||decide (dev=0)
section
theorem Ts(op:BinOp)(a b c d:Int)(w:World):(op= .eql\/op= .neq)->(binOp op 26 (.agg #[.int .i64 a, .int .i64 b]) (.agg #[.int .i64 c, .int .i64 d])).run prog w= .ok (.bool (decide ((a,b)=(c,d))==decide (op= .eql))) w:=by
 have u3:=Tryz.underlying3;have a3:=Tryz.isAgg3;have z3:=Tryz.sizeOf3;have hS:prog.underlying 26=some (.struct (prog.fieldsOf 26)):=by kernel_rfl
 have hp:prog.stoodInHeld 26=false:=by kernel_rfl
 have e:∀w,(Op.equalIn 10000 26 (.agg #[.int .i64 a, .int .i64 b]) (.agg #[.int .i64 c, .int .i64 d])).run prog w= .ok (a==c&&b==d) w:=by
  intro w;rw[show(10000:Nat)=9999+1 from rfl,run_equalIn_agg w 9999 26 _ _ hS hp];simp only[Program.fieldsOf,Tryz.underlying26]
  go_simp
  by_cases h1:a=c<;>by_cases h2:b=d<;>simp[h1,h2]
 rintro(rfl|rfl)
 ·rw[run_eql_struct,e];by_cases h1:a=c<;>by_cases h2:b=d<;>simp[h1,h2]
 rw[run_neq_struct,e];by_cases h1:a=c<;>by_cases h2:b=d<;>simp[h1,h2]
theorem OZ(a b c d:Int)(w:World):(binOp .eql 26 (.agg #[.int .i64 a, .int .i64 b]) (.agg #[.int .i64 c, .int .i64 d])).run prog w= .ok (.bool (decide ((a,b)=(c,d)))) w:=by
 rw[Ts .eql a b c d w (.inl rfl)];by_cases h:(a,b)=(c,d)<;>simp[h]
theorem Tt(a b c d:Int)(w:World):(binOp .neq 26 (.agg #[.int .i64 a, .int .i64 b]) (.agg #[.int .i64 c, .int .i64 d])).run prog w= .ok (.bool (!decide ((a,b)=(c,d)))) w:=by
 rw[Ts .neq a b c d w (.inr rfl)];by_cases h:(a,b)=(c,d)<;>simp[h]
theorem Tu(s:Spc)(dev:Int)(hs:SpcB s):AFn prog 180 [.agg (AQ s), .v (.int .i64 dev)] (fun r=>r= .tup [.agg (AB ((CB s dev).getD (0,0))), .v (.bool (CB s dev).isSome)]):=by
 have fa:=hs.few;refine enter Tryz.func180 rfl rfl rfl rfl rfl 0 rfl ?_;refine E5 (h:=Ay (h:=Cz (h:=?_)));refine BL (fun m t=>∃j:Nat,j<=s.mounts.length/\m=s.mounts.length - j/\(∀i y,i<j->s.mounts[i]?=some y->decide (y.1=dev)=false)/\t=⟨look [(1, .v (.int .i64 dev)),(2, .bp 0 0),(4, .bp 1 0),(6, .v (.int .i64 (j:Int)))],⟨[AQ s,[.v (.int .i64 0), .v (.int .i64 0)]],[]⟩⟩) (s.mounts.length) ((wk 2 0)) (⟨0,by omega,rfl,fun i y hi=>by omega,rfl⟩) ?_;rintro m t ⟨j,hj,rfl,ha,rfl⟩;refine Hz (h:=?_);refine A3 rfl (fun kd ka=>?_) (fun kd ka=>?_)
 ·obtain⟨hlt,x,hy,ya, -⟩:=Bx Dm ka;refine Bq (h:=F8 (h:=i_ (h:=Eu (h:=BO (h:=?_)))));refine A3 rfl (fun ke kc=>?_) (fun ke kc=>?_)
  ·refine F8 (h:=i_ (h:=Ac (h:=s_ (h:=BE (h:=C1 (h:=?_))))));refine A4 ?_;rw[show CB s dev=some x.2 by simp only[CB];rw[Lv hy (by simpa using kc) ha];rfl];rfl
  refine Dg (h:=?_);refine⟨_,_,?_,⟨j+1,by omega,rfl,GX hy ha (by simpa using kc),rfl⟩,(wk 2 0)⟩;omega
 have e3:=CA Dm hj ka;subst e3;refine C4 (h:=Gq (h:=BW (h:=?_)));refine A4 ?_;rw[show CB s dev=none by simp only[CB];rw[Lw ha];rfl];rfl
theorem Pi(s:Spc)(dev:Int)(hs:SpcB s):AFn prog 124 [.agg (AQ s), .v (.int .i64 dev)] (fun r=>r= .v (.bool (CR s dev))):=by
 refine enter Tryz.func124 rfl rfl rfl rfl rfl 0 rfl ?_;refine Ee (h:=Ay (h:=Fy (h:=?_)));refine AK (Tu s dev hs) ?_;refine EU (h:=Cl (h:=m_ (h:=?_)));refine AF false rfl rfl (fun kd ka=>?_) (fun kd ka=>?_)
 ·refine BB (h:=Eg (h:=?_));refine A4 ?_;exact vb (by unfold CR;rw[ka];simp)
 refine EJ (h:=H9 (h:=?_));refine A4 ?_;exact vb (by unfold CR;rw[ka];simp)
theorem Xb(s:Spc)(a:A8)(hs:SpcB s):AFn prog 181 [.agg (AQ s), .agg (AB a)] (fun r=>r= .tup [.v (.int .i64 ((CH s a).getD 0)), .v (.bool (CH s a).isSome)]):=by
 have fa:=hs.few;refine enter Tryz.func181 rfl rfl rfl rfl rfl 0 rfl ?_;refine Fe (h:=a_ (h:=Ay (h:=Cz (h:=?_))));refine BL (fun m t=>∃j:Nat,j<=s.mounts.length/\m=s.mounts.length - j/\(∀i y,i<j->s.mounts[i]?=some y->decide (y.2=a)=false)/\t=⟨look [(2, .bp 0 0),(3, .bp 1 0),(6, .v (.int .i64 (j:Int)))],⟨[AQ s,AB a],[]⟩⟩) (s.mounts.length) ((wk 2 0)) (⟨0,by omega,rfl,fun i y hi=>by omega,rfl⟩) ?_;rintro m t ⟨j,hj,rfl,ha,rfl⟩;refine Hz (h:=?_);refine A3 rfl (fun kd ka=>?_) (fun kd ka=>?_)
 ·obtain⟨hlt,x,hy,ya, -⟩:=Bx Dm ka;refine AG (q_ (BF (q_ (E0 8 (h:=AA 0 (h:=A9 1 (h:=AE 2 (h:=E1 3 (h:=AA 4 (h:=A9 5 (h:=A9 6 (h:=?_))))))))))));refine Hm (i:=7) rfl (Jk rfl rfl (by repeat constructor) (by repeat constructor) (fun w=>OZ _ _ _ _ w) (by kernel_rfl) ⟨rfl,rfl⟩) ?_;refine z_ (h:=t_ (?_));refine A3 rfl (fun ke kc=>?_) (fun ke kc=>?_)
  ·refine F8 (h:=i_ (h:=Ac (h:=GA (h:=C1 (h:=?_)))));refine A4 ?_;rw[show CH s a=some x.1 by simp only[CH];rw[Lv hy (decide_eq_true kc) ha];rfl];rfl
  refine Dg (h:=?_);refine⟨_,_,?_,⟨j+1,by omega,rfl,GX hy ha (decide_eq_false kc),rfl⟩,(wk 2 0)⟩;omega
 have e3:=CA Dm hj ka;subst e3;refine C4 (h:=w_ (a_ (h:=BW (h:=?_))));refine A4 ?_;rw[show CH s a=none by simp only[CH];rw[Lw ha];rfl];rfl
theorem Xc(s:Spc)(a:A8)(hs:SpcB s):AFn prog 125 [.agg (AQ s), .agg (AB a)] (fun r=>r= .v (.bool (CH s a).isSome)):=by
 refine enter Tryz.func125 rfl rfl rfl rfl rfl 0 rfl ?_;refine Hw (h:=C9 (h:=?_));refine AK (Xb s a hs) ?_;refine Ft (h:=a_ (h:=Cl (h:=BW (h:=?_))));refine A4 ?_;rfl
theorem Tv(s:Spc)(dev:Int)(hs:SpcB s):AFn prog 229 [.agg (AQ s), .v (.int .i64 dev)] (fun r=>r= .tup [.agg (AB ((CB s dev).getD (0,0))), .v (.bool (CB s dev).isSome)]):=by
 have fa:=hs.few;refine enter Tryz.func229 rfl rfl rfl rfl rfl 0 rfl ?_;refine E5 (h:=GT (h:=GU (h:=e_ (BF (?_)))));refine BL (fun m t=>∃j:Nat,j<=s.mounts.length/\m=s.mounts.length - j/\(∀i y,i<j->s.mounts[i]?=some y->decide (y.1=dev)=false)/\t=⟨look [(1, .v (.int .i64 dev)),(4, .bp 1 0),(9, .sl 3 (s.mounts.map Dm) none),(10, .v (.int .i64 ((s.mounts.map Dm).length:Int))),(11, .v (.int .i64 (j:Int)))],⟨[AQ s,[.v (.int .i64 0), .v (.int .i64 0)]],[]⟩⟩) (s.mounts.length) ((wk 2 0)) (⟨0,by omega,rfl,fun i y hi=>by omega,rfl⟩) ?_;rintro m t ⟨j,hj,rfl,ha,rfl⟩;refine Fz (h:=?_);refine A3 rfl (fun kd ka=>?_) (fun kd ka=>?_)
 ·obtain⟨hlt,x,hy,ya, -⟩:=Bx Dm ka;refine Bq (h:=w_ (E6 (h:=CP (h:=F8 (h:=BO (h:=?_))))));refine A3 rfl (fun ke kc=>?_) (fun ke kc=>?_)
  ·refine B2 (h:=s_ (h:=BE (h:=C1 (h:=?_))));refine A4 ?_;rw[show CB s dev=some x.2 by simp only[CB];rw[Lv hy (by simpa using kc) ha];rfl];rfl
  refine Ej (h:=Aq (GV (h:=?_)));refine⟨_,_,?_,⟨j+1,by omega,rfl,GX hy ha (by simpa using kc),rfl⟩,(wk 2 0)⟩;omega
 have e3:=CA Dm hj ka;subst e3;refine C4 (h:=Gq (h:=BW (h:=?_)));refine A4 ?_;rw[show CB s dev=none by simp only[CB];rw[Lw ha];rfl];rfl
theorem hG(s:Spc)(dev:Int)(hs:SpcB s):AFn prog 187 [.agg (AQ s), .v (.int .i64 dev)] (fun r=>r= .v (.bool (CR s dev))):=by
 refine enter Tryz.func187 rfl rfl rfl rfl rfl 0 rfl ?_;refine Ee (h:=Du (h:=BO (h:=?_)));refine A3 rfl (fun kd ka=>?_) (fun kd ka=>?_)
 ·refine BC (h:=?_);refine A4 ?_;exact vb (by unfold CR;simp[ka])
 refine AG (Fy (h:=?_));refine AK (Tv s dev hs) ?_;refine EU (h:=Cl (h:=BW (h:=?_)));refine A4 ?_;exact vb (by unfold CR;simp[ka])
theorem hH(s:Spc)(a:A8)(hs:SpcB s):AFn prog 280 [.agg (AQ s), .agg (AB a)] (fun r=>r= .tup [.v (.int .i64 ((CH s a).getD 0)), .v (.bool (CH s a).isSome)]):=by
 have fa:=hs.few;refine enter Tryz.func280 rfl rfl rfl rfl rfl 0 rfl ?_;refine Fe (h:=a_ (h:=GT (h:=GU (h:=e_ (BF (?_))))));refine BL (fun m t=>∃j:Nat,j<=s.mounts.length/\m=s.mounts.length - j/\(∀i y,i<j->s.mounts[i]?=some y->decide (y.2=a)=false)/\t=⟨look [(3, .bp 1 0),(9, .sl 3 (s.mounts.map Dm) none),(10, .v (.int .i64 ((s.mounts.map Dm).length:Int))),(11, .v (.int .i64 (j:Int)))],⟨[AQ s,AB a],[]⟩⟩) (s.mounts.length) ((wk 2 0)) (⟨0,by omega,rfl,fun i y hi=>by omega,rfl⟩) ?_;rintro m t ⟨j,hj,rfl,ha,rfl⟩;refine Fz (h:=?_);refine A3 rfl (fun kd ka=>?_) (fun kd ka=>?_)
 ·obtain⟨hlt,x,hy,ya, -⟩:=Bx Dm ka;refine Bq (h:=w_ (E6 (h:=CP (h:=B2 (h:=l_ (h:=?_))))));refine A7 (Jk rfl rfl (by repeat constructor) (by repeat constructor) (fun w=>OZ _ _ _ _ w) (by kernel_rfl) ?_);refine e_ (?_);refine A3 rfl (fun ke kc=>?_) (fun ke kc=>?_)
  ·refine B2 (h:=GA (h:=C1 (h:=?_)));refine A4 ?_;rw[show CH s a=some x.1 by simp only[CH];rw[Lv hy (decide_eq_true kc) ha];rfl];rfl
  refine Ej (h:=Aq (GV (h:=?_)));refine⟨_,_,?_,⟨j+1,by omega,rfl,GX hy ha (decide_eq_false kc),rfl⟩,(wk 2 0)⟩;omega
 have e3:=CA Dm hj ka;subst e3;refine C4 (h:=w_ (a_ (h:=BW (h:=?_))));refine A4 ?_;rw[show CH s a=none by simp only[CH];rw[Lw ha];rfl];rfl
end
def Lx(t:Tst):Nat->Bool
 |0=>false
 |k+1=>Lx t k||decide (Ba t ((k:Int)+1)=0)
def N7(t:Tst):Bool:=Lx t 5
theorem Pj(t:Tst):∀k,Lx t k=true↔∃j:Nat,j<k/\Ba t ((j:Int)+1)=0
 |0=>by simp[Lx]
 |k+1=>by
   simp only[Lx,Bool.or_eq_true,Pj t k,decide_eq_true_eq];constructor
   ·rintro(⟨j,h1,h2⟩|h)
    ·exact⟨j,by omega,h2⟩
    exact⟨k,by omega,h⟩
   rintro⟨j,h1,h2⟩;rcases Nat.lt_or_ge j k with h|h
   ·exact .inl ⟨j,h,h2⟩
   have:j=k:=by omega
   subst this;exact .inr h2
theorem hU{t:Tst}{k:Nat}(hk:k<=5)(h:Lx t k=true):N7 t=true:=by
 obtain⟨j,h1,h2⟩:=(Pj t k).1 h;exact(Pj t 5).2 ⟨j,by omega,h2⟩
theorem hZ{t:Tst}{k:Nat}(hk:k<=5)(h5:5<=k)(h:Lx t k=false):N7 t=false:=by
 obtain rfl:k=5:=by omega
 exact h
theorem Xd{list f:Int}(h:FQ list f=true):1<=f/\f<=22:=by
 unfold FQ D7 at h
 (repeat' split at h)<;>simp at h<;>omega
theorem Xe{f:Int}(h:FR f=true):FD f=false:=by
 unfold FR at h;unfold FD;simp at h ⊢;omega
theorem Xf{t:Tst}(h:N7 t=true):XV t:=by
 obtain⟨j,_,h2⟩:=(Pj t 5).1 h;generalize (j:Int)+1=list at h2;unfold Ba at h2;split at h2
 ·cases h2
 rename_i h3;split at h2
 ·cases h2
 rename_i h4;simp only[not_or,not_and]at h3 h4;have ha:=Xd (by simpa using h3.1);refine⟨ha.1,ha.2,?_,by omega,by omega⟩;by_cases ho:t.other=0
 ·exact .inl ho
 obtain⟨h5,h6,h7⟩:=h3.2 ho;have hb:=Xd (list:=list) (f:=t.other) (by simpa using h5);exact .inr ⟨hb.1,hb.2,Xe (by simpa using h7)⟩
def Oa(y:Itm):Bool:= !decide (y.file=(0,0))
def Nq(t:Tst)(c:Ctx):Bool:=
 if N7 t=false then false else if LU t.fld=false/\LU t.other=false then Jw t c Itm.zero else c.items.any fun y=>Oa y&&Jw t c y
def Rs(t:Tst)(c:Ctx):Bool:=
 if N7 t=false\/KU t.fld c=false\/t.other≠0/\KU t.other c=false then false else if LU t.fld=false/\LU t.other=false then OX t c Itm.zero else c.items.any fun y=>Oa y&&OX t c y
theorem Xg{α:Type}(p:α->Bool)(l:List α)(k:Nat){x:α}(hx:l[k]?=some x):(l.take (k+1)).any p=((l.take k).any p||p x):=by
 obtain⟨hk,e⟩:=AZ.1 hx;rw[List.take_succ_eq_append_getElem hk,List.any_append,e];simp
theorem i4{α:Type}{p:α->Bool}{l:List α}{k:Nat}{x:α}(hx:l[k]?=some x)(h:p x=true):l.any p=true:=
 List.any_eq_true.2 ⟨x,Aj hx,h⟩
section
theorem i5(a b c d:Int)(w:World):(binOp .neq 26 (.agg #[.int .i64 a, .int .i64 b]) (.agg #[.int .i64 c, .int .i64 d])).run prog w= .ok (.bool (!decide ((a,b)=(c,d)))) w:=by
 rw[Ts .neq a b c d w (.inr rfl)];simp
theorem i6(t:Tst)(c:Ctx)(k:Cxs)(hn:c.items.length<=1000):AFn prog 113 [.agg (DH t), .agg (EK c k)] (fun r=>r= .v (.bool (Nq t c))):=by
 refine enter Tryz.func113 rfl rfl rfl rfl rfl 0 rfl ?_;refine Hw (h:=DZ (h:=Cz (h:=?_)));refine BL (fun n s=>∃j:Nat,j<=5/\n=5 - j/\s=⟨look [(2, .bp 0 0),(3, .bp 1 0),(4, .v (.bool false)),(5, .v (.bool (Lx t j))),(6, .v (.int .i64 ((j:Int)+1)))],⟨[DH t,EK c k],[]⟩⟩) (5) ((wk 2 0)) (⟨0,by omega,rfl,rfl⟩) ?_;rintro n s ⟨j,hj,rfl,rfl⟩;refine Be (h:=Hq (h:=e_ (?_)));refine A3 rfl (fun kd ka=>?_) (fun kd ka=>?_)
 ·refine Bq (h:=HU (h:=?_));refine AF false rfl rfl (fun ke kc=>?_) (fun ke kc=>?_)
  ·refine GB (h:=Ht (h:=FO (h:=?_)));refine⟨_,_,?_,⟨j+1,by omega,rfl,rfl⟩,At 2 0 rfl rfl rfl rfl (by repeat (first|exact Sub.nil|refine Aw rfl rfl ?_|refine B3 ?_|refine B4 rfl ?_|refine B5 rfl ?_|(apply Sub.of;(focus exact rfl);(focus exact LeA.of_eq (vb (by simp[Lx, *])));(focus exact rfl))))⟩;omega
  refine GD (h:=?_);refine Ak (AX (XU _ _) ?_);rintro r rfl;refine Df (h:=C3 (h:=Ht (h:=FO (h:=?_))));refine⟨_,_,?_,⟨j+1,by omega,rfl,rfl⟩,At 2 0 rfl rfl rfl rfl (by repeat (first|exact Sub.nil|refine Aw rfl rfl ?_|refine B3 ?_|refine B4 rfl ?_|refine B5 rfl ?_|(apply Sub.of;(focus exact rfl);(focus exact LeA.of_eq (vb (by simp[Lx, *])));(focus exact rfl))))⟩;omega
 refine C4 (h:=Be (h:=CY (h:=?_)));refine A3 rfl (fun kh kf=>?_) (fun kh kf=>?_)
 ·have hs:=hZ hj (by omega) kf;refine BC (h:=?_);refine A4 ?_;exact vb (by simp[Nq,hs])
 have hs:=hU hj kf;have ht:=Xf hs;refine FA (h:=?_);refine JW (⟨look [(2, .bp 0 0),(3, .bp 1 0),(4, .v (.bool false)),(31, .v (.bool (!LU t.fld&& !LU t.other)))],⟨[DH t,EK c k],[]⟩⟩) ?_ ?_
 ·refine Aq (Ac (h:=?_));refine AK (XM _) ?_;refine F6 (h:=?_);refine AF true rfl rfl (fun kl kg=>?_) (fun kl kg=>?_)
  ·refine Ac (h:=?_);refine Ak (AX (XM _) ?_);rintro r rfl;refine D1 (h:=J0 (h:=?_));exact At 2 0 rfl rfl rfl rfl (by repeat (first|exact Sub.nil|refine Aw rfl rfl ?_|refine B3 ?_|refine B4 rfl ?_|refine B5 rfl ?_|(apply Sub.of;(focus exact rfl);(focus exact LeA.of_eq (vb (by simp[*])));(focus exact rfl))))
  refine CO (h:=F9 (h:=?_));exact At 2 0 rfl rfl rfl rfl (by repeat (first|exact Sub.nil|refine Aw rfl rfl ?_|refine B3 ?_|refine B4 rfl ?_|refine B5 rfl ?_|(apply Sub.of;(focus exact rfl);(focus exact LeA.of_eq (vb (by simp[*])));(focus exact rfl))))
 skip
 refine A3 rfl (fun ko kk=>?_) (fun ko kk=>?_)
 ·simp at kk;refine C9 (h:=Bd (h:=?_));refine AK (XW t c k Itm.zero ht) ?_;refine FN (h:=?_);refine A4 ?_;exact vb (by simp[Nq,hs,kk])
 have hi:¬(LU t.fld=false/\LU t.other=false):=by simpa using kk
 refine DF (h:=GU (h:=e_ (BF (?_))));refine BL (fun n s=>∃j:Nat,j<=c.items.length/\n=c.items.length - j/\(c.items.take j).any (fun y=>Oa y&&Jw t c y)=false/\s=⟨look [(2, .bp 0 0),(3, .bp 1 0),(37, .sl 13 (c.items.map GG) none),(38, .v (.int .i64 ((c.items.map GG).length:Int))),(39, .v (.int .i64 (j:Int)))],⟨[DH t,EK c k],[]⟩⟩) (c.items.length) ((wk 2 0)) (⟨0,by omega,rfl,rfl,rfl⟩) ?_;rintro n s ⟨j,hj,rfl,ha,rfl⟩;refine Fz (h:=?_);refine A3 rfl (fun kq km=>?_) (fun kq km=>?_)
 ·obtain⟨hlt,y,hy,ya, -⟩:=Bx GG km;refine Bq (h:=w_ (E6 (h:=CP (h:=B2 (h:=Bd (h:=?_))))));refine A7 (Jk rfl rfl (by repeat constructor) (by repeat constructor) (fun w=>i5 _ _ _ _ w) (by kernel_rfl) ?_);refine m_ (h:=?_);refine AF true rfl rfl (fun ks kp=>?_) (fun ks kp=>?_)
  ·refine Fv (h:=l_ (h:=?_));refine Ak (AX (XW t c k y ht) ?_);rintro r rfl;refine Bm (h:=e_ (?_));refine A3 rfl (fun kt kr=>?_) (fun kt kr=>?_)
   ·refine BR (h:=C1 (h:=?_));refine A4 ?_;exact vb (by rw[Nq,if_neg (by simp[hs]),if_neg hi,i4 hy (by simp[Oa, *])])
   refine Ej (h:=Aq (GV (h:=?_)));refine⟨_,_,?_,⟨j+1,by omega,rfl,(by rw[Xg _ _ _ hy,ha];simp[Oa, *]),rfl⟩,(wk 2 0)⟩;omega
  refine CO (h:=GC (h:=Ej (h:=Aq (GV (h:=?_)))));refine⟨_,_,?_,⟨j+1,by omega,rfl,(by rw[Xg _ _ _ hy,ha];simp[Oa, *]),rfl⟩,(wk 2 0)⟩;omega
 have e:=CA GG hj km;subst e;rw[List.take_length]at ha;refine Hv (h:=?_);refine A4 ?_;exact vb (by rw[Nq,if_neg (by simp[hs]),if_neg hi,ha])
end
theorem i7{t:Tst}(h:N7 t=true)(h2:t.other≠0):FD t.fld=false:=by
 obtain⟨j,_,h3⟩:=(Pj t 5).1 h;unfold Ba at h3;split at h3
 ·cases h3
 rename_i h4;simp only[not_or,not_and]at h4;exact Xe (by simpa using(h4.2 h2).2.1)
theorem Xh{f:Int}{c:Ctx}(h1:1<=f)(h2:f<=22)(h3:FD f=false):C2 f c=KU f c:=by
 simp only[FD,decide_eq_false_iff_not]at h3;unfold C2 KU
 (repeat' split)<;>first|omega|(simp;omega)|(simp[*];done)|rfl
theorem i8{f:Int}{c:Ctx}(h:FD f=true):KU f c=true:=by
 simp only[FD,decide_eq_true_eq]at h;unfold KU;rw[if_neg (by omega)];simp;omega
theorem i9{t:Tst}{c:Ctx}(hs:N7 t=true)(y:Itm):Jw t c y=if KU t.fld c=false\/t.other≠0/\KU t.other c=false then false else OX t c y:=by
 obtain⟨f1,f2,o, -, -⟩:=Xf hs;have h2:=i7 hs;by_cases ht:FD t.fld=true
 ·have ho:t.other=0:=Classical.byContradiction fun e=>by simp[h2 e]at ht
  rw[if_neg (by simp[i8 ht,ho])];simp[Jw,OX,ht]
 have ht':FD t.fld=false:=by simpa using ht
 have e1:=Xh (c:=c) f1 f2 ht';by_cases h0:t.other=0
 ·simp only[Jw,OX,ht',e1,h0];cases KU t.fld c<;>simp
 obtain⟨o1,o2,o3⟩:=o.resolve_left h0;have e2:=Xh (c:=c) o1 o2 o3;simp only[Jw,OX,ht',e1,e2,h0];cases KU t.fld c<;>cases KU t.other c<;>simp[h0]
theorem Xi(t:Tst)(c:Ctx):Nq t c=Rs t c:=by
 unfold Nq Rs
 cases hs:N7 t with
 |false=>simp
 |true=>
   simp only[i9 hs];by_cases hq:KU t.fld c=false\/t.other≠0/\KU t.other c=false
   ·simp[hq]
   simp[hq]
theorem iA(x:Int):H6 .u64 x 1=0\/H6 .u64 x 1=1:=by
 have e:((BitVec.ofInt 64 x &&& BitVec.ofInt 64 1).toNat)=(BitVec.ofInt 64 x).toNat % 2:=by
  rw[BitVec.toNat_and];exact Nat.and_one_is_mod _
 unfold H6;show IntKind.u64.wrap ((BitVec.ofInt 64 x &&& BitVec.ofInt 64 1).toNat)=0\/IntKind.u64.wrap ((BitVec.ofInt 64 x &&& BitVec.ofInt 64 1).toNat)=1;rw[e];rcases Nat.mod_two_eq_zero_or_one (BitVec.ofInt 64 x).toNat with h|h<;>rw[h]
 ·exact .inl rfl
 exact .inr rfl
def Nr(m n:Int):Bool:=if 0<=n/\n<32 then decide (H6 .u64 (Nc .u64 m n) 1=1)else false
def Ob(r:Rul)(hit:Bool)(c:Ctx):Bool:=(decide (r.calls=0)||Nr r.calls c.number)&&r.tests.all (fun t=>Rs t c)&&(decide (r.watch=0)||hit)
theorem iB{α:Type}(p:α->Bool)(l:List α)(k:Nat){x:α}(hx:l[k]?=some x):(l.take (k+1)).all p=((l.take k).all p&&p x):=by
 obtain⟨hk,e⟩:=AZ.1 hx;rw[List.take_succ_eq_append_getElem hk,List.all_append,e];simp
theorem iC{α:Type}{p:α->Bool}{l:List α}{k:Nat}{x:α}(hx:l[k]?=some x)(h:p x=false):l.all p=false:=by
 cases e:l.all p with
 |false=>rfl
 |true=>rw[List.all_eq_true]at e;rw[e x (Aj hx)]at h;cases h
theorem iD{p:Prop}[Decidable p]{b:Bool}(h:(decide (¬p)&& !b)=false):(decide p||b)=true:=by
 by_cases h0:p<;>cases b<;>simp_all
section
theorem iE(m n:Int):AFn prog 112 [.v (.int .u64 m), .v (.int .i64 n)] (fun r=>r= .v (.bool (Nr m n))):=by
 have hb:=iA (Nc .u64 m n);refine enter Tryz.func112 rfl rfl rfl rfl rfl 0 rfl ?_;refine FB (h:=Dt (h:=m_ (h:=?_)));refine AF true rfl rfl (fun kd ka=>?_) (fun kd ka=>?_)
 ·refine m_ (h:=Jc (h:=Bg (h:=?_)));refine AF true rfl rfl (fun ke kc=>?_) (fun ke kc=>?_)
  ·refine Cp (h:=Rl (h:=Fd (h:=Hp (h:=Eg (h:=?_)))));refine A4 ?_;exact vb (by unfold Nr;grind)
  refine BB (h:=Hy (h:=?_));refine A4 ?_;exact vb (by unfold Nr;grind)
 refine BB (h:=BZ (h:=BB (h:=Hy (h:=?_))));refine A4 ?_;exact vb (by unfold Nr;grind)
theorem Xj(r:Rul)(hit:Bool)(c:Ctx)(k:Cxs)(hn:c.items.length<=1000)(hl:r.tests.length<=1000):AFn prog 64 [.agg (AW r), .v (.bool hit), .agg (EK c k)] (fun x=>x= .v (.bool (Ob r hit c))):=by
 refine enter Tryz.func64 rfl rfl rfl rfl rfl 0 rfl ?_;refine Hw (h:=q_ (?_));refine JW (⟨look [(1, .v (.bool hit)),(3, .bp 0 0),(5, .bp 1 0),(20, .v (.bool (decide (r.calls≠0)&& !Nr r.calls c.number)))],⟨[AW r,EK c k],[]⟩⟩) ?_ ?_
 ·refine Aq (CG (h:=m_ (h:=?_)));refine AF true rfl rfl (fun kd ka=>?_) (fun kd ka=>?_)
  ·refine Ac (h:=E4 (h:=?_));refine Ak (AX (iE _ _) ?_);rintro r rfl;refine D1 (h:=J0 (h:=?_));exact At 2 0 rfl rfl rfl rfl (by repeat (first|exact Sub.nil|refine Aw rfl rfl ?_|refine B3 ?_|refine B4 rfl ?_|refine B5 rfl ?_|(apply Sub.of;(focus exact rfl);(focus exact LeA.of_eq (vb (by simp[*])));(focus exact rfl))))
  refine CO (h:=DE (h:=FP (h:=?_)));exact At 2 0 rfl rfl rfl rfl (by repeat (first|exact Sub.nil|refine Aw rfl rfl ?_|refine B3 ?_|refine B4 rfl ?_|refine B5 rfl ?_|(apply Sub.of;(focus exact rfl);(focus exact LeA.of_eq (vb (by simp[*])));(focus exact rfl))))
 skip
 refine A3 rfl (fun ke kc=>?_) (fun ke kc=>?_)
 ·have hq:r.calls≠0/\Nr r.calls c.number=false:=by simpa using kc
  refine BC (h:=?_);refine A4 ?_;exact vb (by simp[Ob,hq])
 have hq:=iD kc;refine DF (h:=GU (h:=e_ (BF (?_))));refine BL (fun n s=>∃j:Nat,j<=r.tests.length/\n=r.tests.length - j/\(r.tests.take j).all (fun t=>Rs t c)=true/\s=⟨look [(1, .v (.bool hit)),(3, .bp 0 0),(5, .bp 1 0),(22, .sl 5 (r.tests.map DH) none),(23, .v (.int .i64 ((r.tests.map DH).length:Int))),(24, .v (.int .i64 (j:Int)))],⟨[AW r,EK c k],[]⟩⟩) (r.tests.length) ((wk 2 0)) (⟨0,by omega,rfl,rfl,rfl⟩) ?_;rintro n s ⟨j,hj,rfl,ha,rfl⟩;refine Fz (h:=?_);refine A3 rfl (fun kh kf=>?_) (fun kh kf=>?_)
 ·obtain⟨hlt,t,hy,ya, -⟩:=Bx DH kf;refine Bq (h:=w_ (E6 (h:=CP (h:=C9 (h:=?_)))));refine AK (i6 t c k hn) ?_;refine CY (h:=?_);refine A3 rfl (fun kl kg=>?_) (fun kl kg=>?_)
  ·refine BR (h:=C1 (h:=?_));refine A4 ?_;exact vb (by rw[Ob,iC hy (by rw[<-Xi];simpa using kg)];simp)
  refine Ej (h:=Aq (GV (h:=?_)));refine⟨_,_,?_,⟨j+1,by omega,rfl,(by rw[iB _ _ _ hy,ha,<-Xi];simp[*]),rfl⟩,(wk 2 0)⟩;omega
 have e:=CA DH hj kf;subst e;rw[List.take_length]at ha;refine C4 (h:=B2 (h:=Dv (h:=?_)));refine AF false rfl rfl (fun ko kk=>?_) (fun ko kk=>?_)
 ·refine DT (h:=Eg (h:=?_));refine A4 ?_;exact vb (by rw[Ob,hq,ha];simp[kk])
 refine m_ (h:=H9 (h:=?_));refine A4 ?_;exact vb (by rw[Ob,hq,ha];simp[*])
end
def DQ{α:Type}(p:Nat->α->Bool):List α->Nat->Int
 |[],_=> -1
 |x::xs,i=>if p i x=true then(i:Int)else DQ p xs (i+1)
theorem Oc{α:Type}{p:Nat->α->Bool}{l:List α}{j:Nat}{x:α}(hx:l[j]?=some x):DQ p (l.drop j) j=if p j x=true then(j:Int)else DQ p (l.drop (j+1)) (j+1):=by
 obtain⟨hk,e⟩:=AZ.1 hx;rw[List.drop_eq_getElem_cons hk,DQ,e]
theorem Tw{α:Type}{p:Nat->α->Bool}{l:List α}:DQ p (l.drop l.length) l.length= -1:=by
 simp[DQ]
def Jy(b:Bool):List AV:=[.v (.bool b)]
def Od(hits:List Bool)(i:Nat):Bool:=(hits[i]?).getD false
theorem iF{hits:List Bool}{i:Nat}{b:Bool}(h:hits[i]?=some b):Od hits i=b:=by simp[Od,h]
theorem iG{hits:List Bool}{i:Nat}(h:¬(i:Int)<((hits.map Jy).length:Int)):Od hits i=false:=by
 have:hits.length<=i:=by simp at h;omega
 simp[Od,this]
def Ly(list:Int)(hits:List Bool)(c:Ctx)(i:Nat)(r:Rul):Bool:=decide (r.list=list)&&Ob r (Od hits i) c
section
theorem Xk(l:List Rul)(hl:l.length<=1000)(p:Nat->Rul->Bool)(f:FuncId)(caps:List AV)[Fun prog f](hcl:LO caps=true)(hbl:Aa 0 0 (.fn f caps)=true)
    (hp:∀i r,l[i]?=some r->AFn prog f ([.v (.int .i64 (i:Int)), .agg (AW r)]++caps) (fun x=>x= .v (.bool (p i r)))):AFn prog 62 [.sl 8 (l.map AW) none, .fn f caps] (fun x=>x= .v (.int .i64 (DQ p l 0))):=by
 refine enter Tryz.func62 rfl rfl rfl rfl rfl 0 rfl ?_;refine GE (h:=GU (h:=e_ (BF (?_))));refine BL (fun n s=>∃j:Nat,j<=l.length/\n=l.length - j/\DQ p (l.drop j) j=DQ p l 0/\s=⟨look [(1, .fn f caps),(7, .sl 8 (l.map AW) none),(8, .v (.int .i64 ((l.map AW).length:Int))),(9, .v (.int .i64 (j:Int)))],⟨[],[]⟩⟩) (l.length) (At 0 0 rfl rfl rfl rfl (by repeat (first|exact Sub.nil|refine Aw rfl rfl ?_|refine Sub.cons _ _ _ rfl hbl ?_|refine B3 ?_|refine B4 rfl ?_|refine B5 rfl ?_))) (⟨0,by omega,rfl,rfl,rfl⟩) ?_;rintro n s ⟨j,hj,rfl,ha,rfl⟩;refine Fz (h:=?_);refine A3 rfl (fun kd ka=>?_) (fun kd ka=>?_)
 ·obtain⟨hlt,r,hy,ya, -⟩:=Bx AW ka;refine Bq (h:=Ab (h:=E6 (h:=Ck (h:=a_ (h:=GF (h:=Eh (h:=l_ (h:=?_))))))));refine A7 (TO (cy:=[]) rfl (by repeat (first|exact Args.nil|refine Args.cons _ _ _ _ _ rfl (LP rfl) ?_|refine Args.cons _ _ _ _ _ rfl (MK _) ?_|refine Args.cons _ _ _ _ _ rfl (Lq _) ?_|refine Args.cons _ _ _ _ _ rfl (MM rfl (by repeat (first|exact A6 _|exact LeA.nil _|exact LeL.refl _|refine LeA.agg ?_|refine LeA.tup ?_|exact LeL.nil|refine LeL.cons ?_ ?_|exact LeA.any _))) ?_)) hcl rfl (hp j r hy) ?_);rintro x rfl;refine e_ (?_);refine A3 rfl (fun ke kc=>?_) (fun ke kc=>?_)
  ·refine Ab (h:=BE (h:=C1 (h:=?_)));refine A4 ?_;exact vi (by rw[<-ha,Oc hy,if_pos kc])
  refine Ej (h:=Aq (GV (h:=?_)));refine⟨_,_,?_,⟨j+1,by omega,rfl,(by rw[<-ha,Oc hy];simp[*]),rfl⟩,At 0 0 rfl rfl rfl rfl (by repeat (first|exact Sub.nil|refine Aw rfl rfl ?_|refine Sub.cons _ _ _ rfl hbl ?_|refine B3 ?_|refine B4 rfl ?_|refine B5 rfl ?_))⟩;omega
 have e:=CA AW hj ka;subst e;refine Hv (h:=?_);refine A4 ?_;exact vi (by rw[<-ha,Tw])
theorem iH(i:Nat)(r:Rul)(list:Int)(fv:List Bool)(c:Ctx)(k:Cxs)(hn:c.items.length<=1000)(hl:r.tests.length<=1000):AFn prog 63 [.v (.int .i64 (i:Int)), .agg (AW r), .fp [.v (.int .i64 list)], .fp [.sl 1 (fv.map Jy) none], .fp (EK c k)] (fun x=>x= .v (.bool (Ly list fv c i r))):=by
 refine enter Tryz.func63 rfl rfl rfl rfl rfl 0 rfl ?_;refine w_ (b_ (h:=a_ (h:=e_ (q_ (E0 20 (h:=AA 0 (h:=A9 1 (h:=A9 2 (h:=KS 3 (h:=AE 4 (h:=?_)))))))))));refine MJ (j:=4) rfl (fun kd=>?_) (fun kd=>?_)
 ·have ka:=bp kd;refine A9 5 (h:=AE 6 (h:=A9 7 (h:=N1 8 (h:=gG 9 (h:=AE 10 (h:=?_))))));refine MJ (j:=10) rfl (fun ke=>?_) (fun ke=>?_)
  ·have kc:=bp ke;obtain⟨hlt,b,hy,ya, -⟩:=Bx Jy kc;refine A9 11 (h:=AE 12 (h:=E1 13 (h:=A9 14 (h:=Ls 15 (h:=A9 16 (h:=?_))))));refine c_ 17 rfl (AX (Xj r b c k hn hl) ?_);rintro r rfl;refine o_ (h:=Ls 18 (h:=B8 19 (h:=z_ (h:=t_ (BH (?_))))));refine A4 ?_;exact vb (by simp[Ly,ka,iF hy])
  have kc:=bp ke;refine BX 11 (h:=BX 12 (h:=BX 13 (h:=BX 14 (h:=L0 15 (h:=A9 16 (h:=?_))))));refine c_ 17 rfl (AX (Xj r false c k hn hl) ?_);rintro r rfl;refine o_ (h:=Ls 18 (h:=B8 19 (h:=z_ (h:=t_ (BH (?_))))));refine A4 ?_;exact vb (by simp[Ly,ka,iG kc])
 have ka:=bp kd;refine BX 5 (h:=BX 6 (h:=BX 7 (h:=BX 8 (h:=BX 9 (h:=BX 10 (h:=BX 11 (h:=BX 12 (h:=BX 13 (h:=BX 14 (h:=BX 15 (h:=BX 16 (h:=BX 17 (h:=L0 18 (h:=B8 19 (h:=z_ (h:=t_ (BH (?_))))))))))))))))));refine A4 ?_;exact vb (by simp[Ly,ka])
theorem Tx(l:List Rul)(list:Int)(fv:List Bool)(c:Ctx)(k:Cxs)(hl:l.length<=1000)(hn:c.items.length<=1000)(ht:∀r∈l,r.tests.length<=1000):AFn prog 16 [.sl 8 (l.map AW) none, .v (.int .i64 list), .sl 1 (fv.map Jy) none, .agg (EK c k)] (fun x=>x= .v (.int .i64 (DQ (Ly list fv c) l 0))):=by
 refine enter Tryz.func16 rfl rfl rfl rfl rfl 0 rfl ?_;refine Fe (h:=b_ (h:=Cl (h:=Th (h:=?_))));refine A7 (TW rfl (by repeat (first|exact ArgsL.nil|refine ArgsL.cons _ _ _ _ _ rfl rfl ?_)) (Xk l hl (Ly list fv c) 63 [.fp [.v (.int .i64 list)], .fp [.sl 1 (fv.map Jy) none], .fp (EK c k)] rfl rfl fun i r hi=>iH i r list fv c k hn (ht r (Aj hi))) ?_);rintro x rfl;refine⟨rfl,?_⟩;refine BW (h:=?_);refine A4 ?_;rfl
end
def LW(s:Spc)(a:A8):A8:=match CH s a with
 |some d=>(d,1)
 |none=>a
def Dh(s:Spc):Nat->A8->A8
 |0,a=>a
 |n+1,a=>Dh s n (LW s a)
theorem Xl{s:Spc}{a:A8}(h:(CH s a).isSome=true):LW s a=((CH s a).getD 0,1):=by
 unfold LW
 cases hc:CH s a with
 |none=>rw[hc]at h;cases h
 |some d=>rfl
theorem Ty{s:Spc}{a:A8}(h:(CH s a).isSome=false):LW s a=a:=by
 unfold LW
 cases hc:CH s a with
 |none=>rfl
 |some d=>rw[hc]at h;cases h
theorem Tz{s:Spc}{a:A8}(h:(CH s a).isSome=false):∀n,Dh s n a=a
 |0=>rfl
 |n+1=>by rw[Dh,Ty h,Tz h n]
section
theorem iJ(s:Spc)(a:A8)(hs:SpcB s):AFn prog 193 [.agg (AQ s), .agg (AB a)] (fun r=>r= .agg (AB (Dh s (s.mounts.length+1) a))):=by
 have fa:=hs.few;have hml:(s.mounts.map Dm).length=s.mounts.length:=by simp
 refine enter Tryz.func193 rfl rfl rfl rfl rfl 0 rfl ?_;refine Ef (h:=e_ (Cz (h:=?_)));refine BL (fun m t=>∃(j:Nat) (b:A8),j<=s.mounts.length+1/\m=s.mounts.length+1 - j/\Dh s (s.mounts.length+1 - j) b=Dh s (s.mounts.length+1) a/\t=⟨look [(2, .bp 0 0),(3, .bp 1 0),(4, .bp 2 0),(5, .v (.int .i64 (j:Int)))],⟨[AQ s,AB b,[.v (.int .i64 0), .v (.int .i64 0)]],[]⟩⟩) (s.mounts.length+1) ((wk 3 0)) (⟨0,a,by omega,rfl,rfl,rfl⟩) ?_;rintro m t ⟨j,b,hj,rfl,hit,rfl⟩;refine Tn (h:=Hq (h:=e_ (?_)));refine A3 rfl (fun kd ka=>?_) (fun kd ka=>?_)
 ·obtain⟨k,hk⟩:∃k,s.mounts.length+1 - j=k+1:=⟨s.mounts.length - j,by omega⟩;rw[hk]at hit;refine Bq (h:=C9 (h:=?_));refine AK (Xb s b hs) ?_;refine Ft (h:=a_ (h:=Cl (h:=e_ (?_))));refine A3 rfl (fun ke kc=>?_) (fun ke kc=>?_)
  ·rw[Dh,Xl kc]at hit;refine BU (h:=GR (h:=Bu (FO (h:=?_))))
   (refine⟨_,_,?_,⟨j+1,((CH s b).getD 0,1),by omega,rfl,(by rw[show s.mounts.length+1 - (j+1)=k by omega];exact hit),rfl⟩,(wk 3 0)⟩;omega)
  rw[Dh,Ty kc]at hit;refine Dg (h:=?_);refine⟨_,_,?_,⟨j+1,b,by omega,rfl,(by rw[show s.mounts.length+1 - (j+1)=k by omega];exact hit),rfl⟩,(wk 3 0)⟩;omega
 have ej:s.mounts.length+1 - j=0:=by omega
 rw[ej]at hit;refine C4 (h:=EX (h:=?_));refine A4 ?_;rw[<-hit];rfl
theorem U0(s:Spc)(a:A8)(hs:SpcB s):AFn prog 264 [.agg (AQ s), .agg (AB a)] (fun r=>r= .agg (AB (Dh s s.mounts.length a))):=by
 have fa:=hs.few;have hml:(s.mounts.map Dm).length=s.mounts.length:=by simp
 refine enter Tryz.func264 rfl rfl rfl rfl rfl 0 rfl ?_;refine Ef (h:=e_ (Fu (h:=GU (h:=e_ (BF (?_))))));refine BL (fun m t=>∃(j:Nat) (b:A8),j<=s.mounts.length/\m=s.mounts.length - j/\Dh s (s.mounts.length - j) b=Dh s s.mounts.length a/\t=⟨look [(2, .bp 0 0),(3, .bp 1 0),(4, .bp 2 0),(9, .v (.int .i64 ((s.mounts.map Dm).length:Int))),(10, .v (.int .i64 (j:Int)))],⟨[AQ s,AB b,[.v (.int .i64 0), .v (.int .i64 0)]],[]⟩⟩) (s.mounts.length) ((wk 3 0)) (⟨0,a,by omega,rfl,rfl,rfl⟩) ?_;rintro m t ⟨j,b,hj,rfl,hit,rfl⟩;refine Fz (h:=?_);refine A3 rfl (fun kd ka=>?_) (fun kd ka=>?_)
 ·obtain⟨k,hk⟩:∃k,s.mounts.length - j=k+1:=⟨s.mounts.length - j - 1,by omega⟩;rw[hk]at hit;refine Bq (h:=C9 (h:=?_));refine AK (hH s b hs) ?_;refine Ft (h:=Jq (h:=CY (h:=?_)));refine A3 rfl (fun ke kc=>?_) (fun ke kc=>?_)
  ·rw[Tz kc]at hit;refine Ll (H5 (PO rfl (H5 (H5 (Ku (t_ (w_ (l_ (h:=s_ (h:=e_ (BH (?_))))))))))));refine A4 ?_;rw[<-hit];rfl
  rw[Dh,Xl kc]at hit;refine AG (BU (h:=GR (h:=Bu (Bz (t_ (Aq (GV (h:=?_))))))));refine⟨_,_,?_,⟨j+1,((CH s b).getD 0,1),by omega,rfl,(by rw[show s.mounts.length - (j+1)=k by omega];exact hit),rfl⟩,(wk 3 0)⟩;omega
 have ej:s.mounts.length - j=0:=by omega
 rw[ej]at hit;refine C4 (h:=EX (h:=?_));refine A4 ?_;rw[<-hit];rfl
end
theorem Xm{f:AR}{a:A8}{k:Nat}{d:Dvc}(hk:a.1=(k:Int))(hd:f[k]?=some d):C5 f a=d.nodes.find? (fun n:Nod=>n.ino==a.2):=by
 unfold C5;rw[hk,Nn,hd]
def iK(f:AR)(a:A8)(r:AV):Prop:=(C5 f a=none/\r= .v (.pointer none))\/∃n,C5 f a=some n/\r= .fp (Al n)
section
theorem U4(f:AR)(a:A8)(hf:FlsB f):AFn prog 226 [.agg (Ap f), .agg (AB a)] (iK f a):=by
 refine enter Tryz.func226 rfl rfl rfl rfl rfl 0 rfl ?_;refine Fe (h:=GT (h:=EG (h:=?_)));refine AF false rfl rfl (fun kd ka=>?_) (fun kd ka=>?_)
 ·refine Jo (h:=Fg (h:=?_));refine A4 ?_;exact .inl ⟨by unfold C5;rw[Rp (.inl ka)],rfl⟩
 refine Ac (h:=Gr (h:=Dt (h:=Cq (h:=?_))));refine A3 rfl (fun ke kc=>?_) (fun ke kc=>?_)
 ·refine BC (h:=?_);refine A4 ?_;exact .inl ⟨by unfold C5;rw[Rp (.inr (by rw[List.length_map]at kc;exact kc))],rfl⟩
 obtain⟨k,hk⟩:=Int.eq_ofNat_of_zero_le (show 0<=a.1 by omega);rw[hk]at kc;obtain⟨-,d,hd,ya, -⟩:=Bx CQ (l:=f) (k:=k) (by omega);have hdn:=hf.nodes d (Aj hd);refine AG (H8 (h:=?_));refine A7 (DM (n:=k) rfl rfl hk ya ?_);refine Ac (h:=Du (h:=GU (h:=e_ (BF (?_)))));refine BL (fun m s=>∃j:Nat,j<=d.nodes.length/\m=d.nodes.length - j/\(∀i y,i<j->d.nodes[i]?=some y->(y.ino==a.2)=false)/\s=⟨look [(3, .bp 1 0),(5, .sl 8 (d.nodes.map Al) none),(26, .v (.int .i64 ((d.nodes.map Al).length:Int))),(27, .v (.int .i64 (j:Int)))],⟨[Ap f,AB a],[]⟩⟩) (d.nodes.length) ((wk 2 0)) (⟨0,by omega,rfl,fun i y hi=>by omega,rfl⟩) ?_;rintro m s ⟨j,hj,rfl,ha,rfl⟩;refine Fz (h:=?_);refine A3 rfl (fun kh kf=>?_) (fun kh kf=>?_)
 ·obtain⟨hlt,n,hy,mo, -⟩:=Bx Al kf;refine AG (q_ (BF (w_ (m_ (h:=a_ (h:=e_ (q_ (E0 8 (h:=AE 0 (h:=AE 1 (h:=E1 2 (h:=AA 3 (h:=A9 4 (h:=AA 5 (h:=A9 6 (h:=KS 7 (h:=z_ (h:=t_ (?_)))))))))))))))))));refine A3 rfl (fun kl kg=>?_) (fun kl kg=>?_)
  ·refine Eh (h:=i_ (h:=BE (h:=C1 (h:=?_))));refine A4 ?_;exact .inr ⟨n,by rw[Xm hk hd];exact Lv hy (by simpa using kg) ha,rfl⟩
  refine Ej (h:=Aq (GV (h:=?_)));refine⟨_,_,?_,⟨j+1,by omega,rfl,GX hy ha (by simpa using kg),rfl⟩,(wk 2 0)⟩;omega
 have e:=CA Al hj kf;subst e;refine Hv (h:=?_);refine A4 ?_;exact .inl ⟨by rw[Xm hk hd];exact Lw (fun i y hi hy=>ha i y hi hy),rfl⟩
theorem iL(e:BQ):AFn prog 256 [.agg (D6 e)] (fun r=>r= .agg (D6 e)):=by
 refine enter Tryz.func256 rfl rfl rfl rfl rfl 0 rfl ?_;refine E5 (h:=e_ (EX (h:=?_)));refine A4 ?_;rfl
end
section
theorem iM(es:List BQ)(hes:es.length<=1000):AFn prog 255 [.sl 2 (es.map D6) none, .fn 256 []] (fun r=>r= .sl 2 (es.map D6) none):=by
 have hml:(es.map D6).length=es.length:=by simp
 refine enter Tryz.func255 rfl rfl rfl rfl rfl 0 rfl ?_;refine GE (h:=n_ (h:=BO (h:=?_)));refine A3 rfl (fun kd ka=>?_) (fun kd ka=>?_)
 ·refine BC (h:=?_);refine AO (r:= .sl 2 (es.map D6) none) none (h5:=?_) (h6:=⟨rfl,rfl,rfl⟩);rw[show es=[] from ER (by omega)];exact LeA.nil _
 refine Ei (h:=n_ (h:=Ti (h:=Du (h:=GU (h:=e_ (BF (?_)))))));refine BL (fun m s=>∃j:Nat,j<=es.length/\m=es.length - j/\s=⟨look [(1, .fn 256 []),(5, .sl 2 ((es.take j).map D6) (some 0)),(14, .sl 2 (es.map D6) none),(15, .v (.int .i64 ((es.map D6).length:Int))),(16, .v (.int .i64 (j:Int)))],⟨[],[(234,2,(es.take j).map D6)]⟩⟩) (es.length) ((wk 0 1)) (⟨0,by omega,rfl,rfl⟩) ?_;rintro m s ⟨j,hj,rfl,rfl⟩;refine Fz (h:=?_);refine A3 rfl (fun ke kc=>?_) (fun ke kc=>?_)
 ·obtain⟨hlt,x,hy,ya,e⟩:=Bx D6 kc;refine Bq (h:=w_ (E6 (h:=CP (h:=HU (h:=l_ (h:=?_))))));refine A7 (TO (cy:=[]) (ys:=[.agg (D6 x)]) rfl (by repeat (first|exact Args.nil|refine Args.cons _ _ _ _ _ rfl (LP rfl) ?_|refine Args.cons _ _ _ _ _ rfl (MK _) ?_|refine Args.cons _ _ _ _ _ rfl (Lq _) ?_|refine Args.cons _ _ _ _ _ rfl (MM rfl (by repeat (first|exact A6 _|exact LeA.nil _|exact LeL.refl _|refine LeA.agg ?_|refine LeA.tup ?_|exact LeL.nil|refine LeL.cons ?_ ?_|exact LeA.any _))) ?_)) rfl rfl (iL x) ?_);rintro r rfl;refine BT (h:=?_);refine A7 (G7 rfl rfl rfl (by simp;omega) (by repeat constructor) ?_);refine Ht (h:=Bz (t_ (Aq (GV (h:=?_)))));refine⟨_,_,?_,⟨j+1,by omega,rfl,rfl⟩,(by rw[e];exact(wk 0 1))⟩;omega
 have e:=CA D6 hj kc;subst e;rw[List.take_length];refine C4 (h:=EW (h:=?_));refine A4 ?_;rfl
theorem iN(n:Nod)(hn:n.entries.length<=1000):AFn prog 227 [.agg (Al n)] (fun r=>r= .agg (Al n)):=by
 refine enter Tryz.func227 rfl rfl rfl rfl rfl 0 rfl ?_;refine E5 (h:=e_ (B2 (h:=?_)));refine AK (iM n.entries hn) ?_;refine Cg (h:=EX (h:=?_));refine A4 ?_;rfl
end
section
variable {P:Program}{ev:Operand->Option AV}{h:AH}{R:AV->AH->Prop}{d:Option Tmp}{ty:TypeId}{pos:String}{af:Array Edge}{gd:Option (Nat×Bool)}
theorem U5{T yT:TypeId}{x y:Operand}(hp:P.underlying T=some (.pointer (P.pointee T)))(hx:ev x=some (.v (.pointer none)))(hy:ev y=some (.v (.pointer none)))(hR:R (.v (.bool true)) h):AStep P ⟨d, .binOp .eql T x y yT,ty,pos,af,gd⟩ ev h R:=
 Fb hx hy (fun w=>by simp[eqGuard,run_eql_pointer_nil (P:=P) (w:=w) T none hp]) hR
theorem U6{T yT:TypeId}{x y:Operand}{row:List AV}(hp:P.underlying T=some (.pointer (P.pointee T)))(hx:ev x=some (.fp row))(hy:ev y=some (.v (.pointer none)))(hR:R (.v (.bool false)) h):AStep P ⟨d, .binOp .eql T x y yT,ty,pos,af,gd⟩ ev h R:=by
 refine De (fun _ G w ec _ he=>?_) hR;have h1:=he x (by simp[Op.operands]) _ hx;have h2:=he y (by simp[Op.operands]) _ hy;simp only[rep]at h1 h2;obtain⟨b,off,h3,_⟩:=h1;refine⟨.bool false,?_,by simp only[rep]⟩;simp[execOp,h2,h3,eqGuard,run_eql_pointer_nil (P:=P) (w:=w) T (some ⟨b,off,none⟩) hp]
end
section
theorem Lz(f:AR)(a:A8)(hf:FlsB f):AFn prog 169 [.agg (Ap f), .agg (AB a)] (fun r=>r= .tup [.agg (Al (AY f a)), .v (.bool (Dl f a))]):=by
 have hen:=Ph hf a;refine enter Tryz.func169 rfl rfl rfl rfl rfl 0 rfl ?_;refine Ef (h:=Ay (h:=C9 (h:=?_)));refine A7 (AX (U4 f a hf) ?_);rintro r (⟨e,rfl⟩|⟨n,e,rfl⟩)
 ·refine Du (h:=?_);refine A7 (U5 (by kernel_rfl) rfl rfl ?_);refine e_ (?_);refine A3 rfl (fun kd ka=>?_) (fun kd ka=>?_)
  ·refine Bj (h:=?_);refine AO (r:= .tup [.agg (Al (AY f a)), .v (.bool (Dl f a))]) none (h5:=?_) (h6:=⟨rfl,rfl,rfl⟩);rw[show AY f a=Nod.zero by simp[AY,e],show Dl f a=false by simp[Dl,e]];exact(by repeat (first|exact A6 _|exact LeA.nil _|exact LeL.refl _|refine LeA.agg ?_|refine LeA.tup ?_|exact LeL.nil|refine LeL.cons ?_ ?_|exact LeA.any _))
  exact Cx
 skip
 refine Du (h:=?_);refine A7 (U6 (by kernel_rfl) rfl rfl ?_);refine e_ (?_);refine A3 rfl (fun ke kc=>?_) (fun ke kc=>?_)
 ·exact Cx
 refine Ei (h:=k_ (h:=l_ (h:=?_)));refine AK (iN n (by simpa[AY,e]using hen)) ?_;refine s_ (h:=BW (h:=?_));refine A4 ?_;rw[show AY f a=n by simp[AY,e],show Dl f a=true by simp[Dl,e]];rfl
end
section
theorem iO(s:Spc)(a:A8)(hs:SpcB s):AFn prog 281 [.agg (AQ s), .agg (AB a)] (fun r=>r= .v (.bool (AU s.files a))):=by
 refine enter Tryz.func281 rfl rfl rfl rfl rfl 0 rfl ?_;refine Hw (h:=B2 (h:=l_ (h:=?_)));refine AK (Lz s.files a hs.files) ?_;refine EU (h:=Cl (h:=m_ (h:=?_)));refine AF true rfl rfl (fun kd ka=>?_) (fun kd ka=>?_)
 ·refine D2 (h:=Eg (h:=?_));refine A4 ?_;exact vb (by rw[L5];simp[*])
 refine Hy (h:=?_);refine A4 ?_;exact vb (by rw[L5];simp[*])
end
def FE(c:MQ):List AV:=[.v (.int .i64 c.1.1), .v (.int .i64 c.1.2), .v (.string c.2.1), .v (.int .i64 c.2.2.1.1), .v (.int .i64 c.2.2.1.2), .v (.int .i64 c.2.2.2.1), .v (.int .i64 c.2.2.2.2)]
section
theorem Ns(d:A8)(name:AD)(o n:A8):AFn prog 233 [.agg (AB d), .v (.string name), .agg (AB o), .agg (AB n)] (fun r=>r= .sl 7 [FE (d,name,o,n)] none):=by
 refine enter Tryz.func233 rfl rfl rfl rfl rfl 0 rfl ?_;refine Fe (h:=b_ (h:=Ay (h:=Fy (h:=Fv (h:=Bd (h:=BT (h:=BW (h:=?_))))))));refine A4 ?_;rfl
theorem Xn{n:Int}(h:n<1\/3<n):Gu n=([],50):=by unfold Gu;rw[if_pos h]
theorem iP{k:Nat}(h1:¬(k:Int)<1)(h2:¬3<(k:Int)):Gu (k:Int)=(List.replicate k OW,0):=by unfold Gu;rw[if_neg (by omega)];simp
theorem iQ(n:Int):AFn prog 110 [.v (.int .i64 n)] (fun r=>r= .tup [.agg (Ap (Gu n).1), .v (.int .i64 (Gu n).2)]):=by
 refine enter Tryz.func110 rfl rfl rfl rfl rfl 0 rfl ?_;refine w_ (Ck (h:=Du (h:=EG (h:=?_))));refine AF false rfl rfl (fun kd ka=>?_) (fun kd ka=>?_)
 ·refine BB (h:=L3 (h:=Bj (h:=?_)));refine AO (r:= .tup [.agg (Ap (Gu n).1), .v (.int .i64 (Gu n).2)]) none (h5:=?_) (h6:=⟨rfl,rfl,rfl⟩);rw[Xn (by omega)];exact(by repeat (first|exact A6 _|exact LeA.nil _|exact LeL.refl _|refine LeA.agg ?_|refine LeA.tup ?_|exact LeL.nil|refine LeL.cons ?_ ?_|exact LeA.any _))
 refine m_ (h:=ET (h:=Cq (h:=?_)));refine A3 rfl (fun ke kc=>?_) (fun ke kc=>?_)
 ·refine Bj (h:=?_);refine AO (r:= .tup [.agg (Ap (Gu n).1), .v (.int .i64 (Gu n).2)]) none (h5:=?_) (h6:=⟨rfl,rfl,rfl⟩);rw[Xn (by omega)];exact(by repeat (first|exact A6 _|exact LeA.nil _|exact LeL.refl _|refine LeA.agg ?_|refine LeA.tup ?_|exact LeL.nil|refine LeL.cons ?_ ?_|exact LeA.any _))
 obtain⟨k,rfl⟩:=Int.eq_ofNat_of_zero_le (show 0<=n by omega);refine AG (w_ (Ck (h:=e_ (Cz (h:=?_)))));refine MN 1 0 148 2 rfl rfl (by repeat constructor) (by repeat constructor) (by repeat constructor) ?_;refine BL (fun m s=>∃j:Nat,j<=k/\m=k - j/\s=⟨look [(0, .v (.int .i64 (k:Int))),(2, .bp 0 0),(4, .bp 1 0),(5, .v (.int .i64 (j:Int)))],⟨[[.v (.slice none 0 0)],[.sl 2 ((List.replicate j OW).map CQ) (some 0)]],[(148,2,(List.replicate j OW).map CQ)]⟩⟩) (k) ((wk 2 1)) (⟨0,by omega,rfl,rfl⟩) ?_;rintro m s ⟨j,hj,rfl,rfl⟩;refine EH (h:=Ff (h:=?_));refine A3 rfl (fun kh kf=>?_) (fun kh kf=>?_)
 ·refine Bq (h:=Aq (Ac (h:=?_)));refine A7 (Hr (y:= .agg (Al Rr)) (E3 ⟨rfl,rfl⟩) ?_);refine BT (h:=Bd (h:=BT (h:=?_)));refine A7 (G7 rfl rfl rfl (by simp;omega) (by repeat constructor) ?_);refine Cy (h:=Bu (FO (h:=?_)));refine⟨_,_,?_,⟨j+1,by omega,rfl,rfl⟩,(by rw[List.replicate_succ',List.map_append];exact(wk 2 1))⟩;omega
 obtain rfl:j=k:=by omega
 refine C4 (h:=Jp (h:=?_));refine A4 ?_;rw[iP ka kc];rfl
end
def M0(f:AR)(top:A8):Nat->A8->Bool
 |0,_=>false
 |n+1,a=>if a.1≠top.1 then false else if a=top then true else M0 f top n (a.1,(AY f a).parent)
section
theorem iR(f:AR)(a top:A8)(hf:FlsB f):AFn prog 236 [.agg (Ap f), .agg (AB a), .agg (AB top)] (fun r=>r= .v (.bool (M0 f top 17 a))):=by
 refine enter Tryz.func236 rfl rfl rfl rfl rfl 0 rfl ?_;refine Fe (h:=b_ (h:=Ay (h:=Cz (h:=?_))));refine BL (fun m s=>∃(j:Nat) (b:A8),j<=17/\m=17 - j/\M0 f top (17 - j) b=M0 f top 17 a/\s=⟨look [(3, .bp 0 0),(4, .bp 1 0),(5, .bp 2 0),(7, .v (.int .i64 (j:Int)))],⟨[Ap f,AB b,AB top],[]⟩⟩) (17) ((wk 3 0)) (⟨0,a,by omega,rfl,rfl,rfl⟩) ?_;rintro m s ⟨j,b,hj,rfl,hit,rfl⟩;refine Be (h:=Hq (h:=m_ (h:=?_)));refine AF true rfl rfl (fun kd ka=>?_) (fun kd ka=>?_)
 ·obtain⟨k,hk⟩:∃k,17 - j=k+1:=⟨16 - j,by omega⟩;rw[hk,M0]at hit;refine Ac (h:=D2 (h:=Bm (h:=e_ (?_))));refine A3 rfl (fun ke kc=>?_) (fun ke kc=>?_)
  ·rw[if_neg (by simpa using kc)]at hit;refine Bq (h:=q_ (C9 (h:=?_)));refine A7 (Jk rfl rfl (by repeat constructor) (by repeat constructor) (fun w=>OZ _ _ _ _ w) (by kernel_rfl) ?_);refine e_ (?_);refine A3 rfl (fun kh kf=>?_) (fun kh kf=>?_)
   ·rw[if_pos (show b=top from kf)]at hit;refine BC (h:=DG (h:=C1 (h:=?_)));refine A4 ?_;exact vb hit
   rw[if_neg (show¬b=top from kf)]at hit;refine AG (C9 (h:=?_));refine AK (G0 f b hf) ?_;refine EU (h:=Ay (h:=Aq (Ac (h:=Cy (h:=Bu (FO (h:=?_)))))));refine⟨_,_,?_,⟨j+1,(b.1,(AY f b).parent),by omega,rfl,(by rw[show 17 - (j+1)=k by omega];exact hit),rfl⟩,(wk 3 0)⟩;omega
  rw[if_pos kc]at hit;refine Hv (h:=?_);refine A4 ?_;exact vb hit
 have ej:17 - j=0:=by omega
 rw[ej,M0]at hit;refine BB (h:=DE (h:=e_ (Ja (h:=Hv (h:=?_)))));refine A4 ?_;exact vb hit
end
theorem Nt{α:Type}{p:α->Bool}{l:List α}{j:Nat}{x:α}(hx:l[j]?=some x)(hp:p x=true):l.any p=true:=List.any_eq_true.2 ⟨x,Aj hx,hp⟩
theorem Oe{α:Type}{p:α->Bool}{l:List α}(h:∀i y,i<l.length->l[i]?=some y->p y=false):l.any p=false:=by
 rw[List.any_eq_false];intro x hx;obtain⟨i,hi,rfl⟩:=List.mem_iff_getElem.1 hx;simp[h i _ hi (B7 hi)]
theorem SetAt.det{α:Type}{l xs a b:List α}{n:Nat}(h:SetAt l n xs a):SetAt l n xs b->a=b:=by
 induction h generalizing b with
 |nil l n=>intro k;cases k;rfl
 |here a x l xs l' _ ih=>intro k;cases k with|here _ _ _ _ _ k=>rw[ih k]
 |there a x l xs l' n _ ih=>intro k;cases k with|there _ _ _ _ _ _ k=>rw[ih k]
def Cm(sz cap:Nat)(rows:List (List AV)):List AV:=rows.flatten++List.replicate ((cap - rows.length) * sz) .any
theorem U7{sz cap:Nat}{rows:List (List AV)}(h:∀r∈rows,r.length=sz)(hc:rows.length<=cap):(Cm sz cap rows).length=cap * sz:=by
 unfold Cm;rw[List.length_append,Ng h,List.length_replicate,<-Nat.add_mul]
 congr 1
 omega
theorem Xo{sz cap:Nat}{rows:List (List AV)}(h:∀r∈rows,r.length=sz):((Cm sz cap rows).drop 0).take (rows.length * sz)=rows.flatten:=by
 unfold Cm;rw[List.drop_zero,List.take_left' (Ng h)]
theorem Xp{sz cap:Nat}{rows:List (List AV)}{r row':List AV}(h:∀x∈rows,x.length=sz)(hr:r.length=sz)(hp:0<sz)(hc:rows.length+1<=cap)(hs:SetAt (Cm sz cap rows) (0+rows.length * sz) r row'):row'=Cm sz cap (rows++[r]):=by
 refine hs.det ?_;unfold Cm
 have e:List.replicate ((cap - rows.length) * sz) AV.any=List.replicate sz AV.any++List.replicate ((cap - (rows++[r]).length) * sz) AV.any:=by
  rw[List.replicate_append_replicate]
  congr 1
  rw[show(rows++[r]).length=rows.length+1 by simp,show cap - rows.length=(cap - (rows.length+1))+1 by omega,Nat.add_mul];omega
 rw[e,Nat.zero_add,List.flatten_append,List.append_assoc];have key:=SetAt.right (SetAt.whole (xs:=r) (l:=List.replicate sz AV.any) (b:=List.replicate ((cap - (rows++[r]).length) * sz) AV.any) (by simp[hr])) rows.flatten (fun e=>by rw[e]at hr;simp at hr;omega);rw[Ng h,Nat.add_zero]at key
 simpa using key
theorem Xq{sz cap:Nat}{rows:List (List AV)}{r:List AV}(h:∀x∈rows,x.length=sz){cap0 n:Nat}(hn:n=rows.length):((Cm sz cap0 rows).drop 0).take (n * sz)++r++List.replicate ((cap - (n+1)) * sz) .any=Cm sz cap (rows++[r]):=by
 subst hn;rw[Xo h];unfold Cm;simp
def L7(d:Dvc)(j cap1:Nat):List AV:=[.v (.int .i64 d.next), .bs j 0 8 d.nodes.length cap1]
theorem Xr(l:List Dvc):∀r∈l.map CQ,r.length=2:=by
 intro r hr;obtain⟨d,_,rfl⟩:=List.mem_map.1 hr;rfl
theorem N8(l:List Nod):∀r∈l.map Al,r.length=8:=by
 intro r hr;obtain⟨d,_,rfl⟩:=List.mem_map.1 hr;rfl
end
end Go.Proofs.YtbgnigjfkbmceaaGreatDoor
namespace Go.Proofs.YtbgnigjfkbmceaaGreatDoor.Old
open Go.RowKit
def U8(D:Nat->Prop)(w w':World):Prop:=∀b,D b->w'.heap[b]?=w.heap[b]?
def Old(w:World):Nat->Prop:=fun b=>b<w.heap.size
def U9(w w':World):Nat->Prop:=fun b=>w.heap.size<=b/\b<w'.heap.size
def few:Nat:=65536
theorem Rt{B:Nat}{a w:World}(h:Below B a w)(n:Nat):Below B a (w.drewN n):=⟨h.os,h.tape,h.output,h.size,h.block⟩
theorem Ru{w w':World}(h:Below w.heap.size w w'):U8 (Old w) w w':=fun b hb=>h.block b hb
theorem Pk{w w':World}(h:Below w.heap.size w w')(g:Option Nat):w.grownBy w' g:=⟨h.os,h.tape,h.output,h.size,fun k hk _=>h.block k hk⟩
def RowL{α:Type}(sz:Nat)(cell:α->Nat->Value)(w:World)(D:Nat->Prop)(A:Option Addr)(xs:List α):Prop:=
 0<xs.length->∃b off,A=some ⟨b,off,none⟩/\D b/\∀i x j,xs[i]?=some x->j<sz->w.cell? ⟨b,off+i * sz+j,none⟩=some (cell x j)
def ListR{α:Type}(sz:Nat)(cell:α->Nat->Value)(w:World)(D:Nat->Prop)(v:Value)(xs:List α):Prop:=
 ∃A c,v= .slice A xs.length c/\xs.length<=c/\xs.length<=few/\RowL sz cell w D A xs
section
variable {α:Type}{sz:Nat}{cell:α->Nat->Value}{w w':World}{D D':Nat->Prop}{A:Option Addr}{v:Value}{xs:List α}
theorem RowL.keep(h:RowL sz cell w D A xs)(hs:U8 D w w'):RowL sz cell w' D A xs:=by
 intro hn;obtain⟨b,off,rfl,hb,hc⟩:=h hn;exact⟨b,off,rfl,hb,fun i x j hi hj=>(World.cell?_of_block (w:=w) (a:=⟨b,off+i * sz+j,none⟩) (hs b hb)).trans (hc i x j hi hj)⟩
theorem ListR.keep(h:ListR sz cell w D v xs)(hs:U8 D w w'):ListR sz cell w' D v xs:=by
 obtain⟨A,c,rfl,h1,h2,h3⟩:=h;exact⟨A,c,rfl,h1,h2,h3.keep hs⟩
theorem ListR.nil_:ListR sz cell w D (.slice none 0 0) []:=⟨none,0,rfl,As _,BG _,fun h=>absurd h (by simp)⟩
end
def entCell(e:BQ):Nat->Value
 |0=> .string e.1
 |_=> .int .i64 e.2
def nodCell(n:Nod×Value):Nat->Value
 |0=> .int .i64 n.1.ino
 |1=> .int .i64 n.1.kind
 |2=> .int .i64 n.1.mode
 |3=> .int .i64 n.1.uid
 |4=> .int .i64 n.1.gid
 |5=> .int .i64 n.1.parent
 |6=> .string n.1.target
 |_=>n.2
def dvcCell(d:Dvc×Value):Nat->Value
 |0=> .int .i64 d.1.next
 |_=>d.2
def Pl(s:AD):Nat->Value
 |_=> .string s
abbrev EntsR:=ListR 2 entCell
abbrev Xs:=ListR 1 Pl
def FF(at_:A8):Value:= .agg #[.int .i64 at_.1, .int .i64 at_.2]
def NodsR(w:World)(D:Nat->Prop)(v:Value)(ns:List Nod):Prop:=
 ∃xs:List (Nod×Value),xs.map (·.1)=ns/\ListR 8 nodCell w D v xs/\∀x∈xs,EntsR w D x.2 x.1.entries
def iS(w:World)(D:Nat->Prop)(v:Value)(f:AR):Prop:=
 ∃xs:List (Dvc×Value),xs.map (·.1)=f/\ListR 2 dvcCell w D v xs/\∀x∈xs,NodsR w D x.2 x.1.nodes
def FlsR(w:World)(D:Nat->Prop)(v:Value)(f:AR):Prop:=∃d,v= .agg #[d]/\iS w D d f
theorem Nu{a b:Bool}(h:a=b):Ending.returned (.bool a)= .returned (.bool b):=by rw[h]
theorem iT{α β:Type}{g:α->β}{xs:List α}{ys:List β}(h:xs.map g=ys):xs.length=ys.length:=by
 subst h;simp
theorem N9{w:World}{g:Nat}{cs:Array Value}{t:TypeId}{fz:Nat×Nat}(h:w.heap[g]?=some (.cells cs t fz))(i:Nat):w.cell? ⟨g,i,none⟩=cs[i]?:=by
 simp[World.cell?,h]
theorem UA{w:World}{g:Nat}{cs:Array Value}{t:TypeId}(h:w.heap[g]?=some (.cells cs t (0,0)))(i:Nat):w.frozen? ⟨g,i,none⟩=false:=by
 simp[World.frozen?,h]
theorem Pm{w w':World}{b:Nat}{row:Option Nat}{o:Obj}(h:w.heap[b]?=some o)(hg:w.grownBy w' row)(hne:some b≠row):w'.heap[b]?=some o:=by
 have hb:b<w.heap.size:=by
  rcases Nat.lt_or_ge b w.heap.size with hlt|hge
  ·exact hlt
  rw[Array.getElem?_eq_none hge]at h;cases h
 exact(hg.block b hb hne).trans h
theorem Db{w:World}{b:Nat}{o:Obj}(h:w.heap[b]?=some o)(o':Obj):(w.alloc o').heap[b]?=some o:=by
 have hb:b<w.heap.size:=by
  rcases Nat.lt_or_ge b w.heap.size with hlt|hge
  ·exact hlt
  rw[Array.getElem?_eq_none hge]at h;cases h
 exact(Below.heap_alloc w o' b hb).trans h
theorem CS{w:World}{g:Nat}{cs:Array Value}{t:TypeId}(h:w.heap[g]?=some (.cells cs t (0,0))):(∀i,w.cell? ⟨g,i,none⟩=cs[i]?)/\(∀i,w.frozen? ⟨g,i,none⟩=false):=
 ⟨fun i=>N9 h i,fun i=>UA h i⟩
theorem Of{w:World}{b:Nat}{cs:Array Value}{t:TypeId}{fz:Nat×Nat}(h:w.heap[b]?=some (.cells cs t fz))(i:Nat)(u:Value):(w.setCell ⟨b,i,none⟩ u).heap[b]?=some (.cells (cs.setIfInBounds i u) t fz):=by
 simp[World.setCell,Array.getElem?_modify,h]
theorem Nv{w:World}{b:Nat}{o:Obj}(h:w.heap[b]?=some o){p:Addr}(hp:b≠p.block)(u:Value):(w.setCell p u).heap[b]?=some o:=(Below.heap_setCell w p u b hp).trans h
theorem BY{w w':World}{b B:Nat}{o:Obj}(h:w.heap[b]?=some o)(hg:Below B w w')(hb:b<B):w'.heap[b]?=some o:=(hg.block b hb).trans h
theorem Jz(w:World)(o1:Obj):Below w.heap.size w (w.alloc o1):=by
 exact(Below.refl _ w).alloc (As _) _
theorem Pn(w:World)(o1:Obj):(w.alloc o1).heap.size=w.heap.size+1:=by simp
theorem MV(w:World)(o1:Obj):(w.alloc o1).heap[w.heap.size]?=some o1:=(by have:=heap_alloc_new w o1;simpa using this)
theorem iU{w w1:World}{o1:Obj}(h:Below (w.alloc o1).heap.size (w.alloc o1) w1):Below w.heap.size w w1/\w.heap.size+1<=w1.heap.size/\w1.heap[w.heap.size]?=some o1:=by
 have hs:=h.size;rw[Pn]at hs;exact⟨(Jz w o1).trans (h.mono (by simp<;>omega)),hs,BY (MV w o1) h (by simp)⟩
theorem M1(w:World)(o1 o2:Obj):Below w.heap.size w ((w.alloc o1).alloc o2):=by
 exact(Jz w o1).alloc (by simp<;>omega) _
theorem Xt(w:World)(o1 o2:Obj):((w.alloc o1).alloc o2).heap.size=w.heap.size+2:=by simp
theorem MW(w:World)(o1 o2:Obj):((w.alloc o1).alloc o2).heap[w.heap.size]?=some o1:=Db (MV w o1) _
theorem MX(w:World)(o1 o2:Obj):((w.alloc o1).alloc o2).heap[w.heap.size+1]?=some o2:=(by have:=heap_alloc_new (w.alloc o1) o2;simpa using this)
theorem Po(w:World)(o1 o2 o3:Obj):Below w.heap.size w (((w.alloc o1).alloc o2).alloc o3):=by
 exact(M1 w o1 o2).alloc (by simp<;>omega) _
theorem Pp(w:World)(o1 o2 o3:Obj):(((w.alloc o1).alloc o2).alloc o3).heap[w.heap.size]?=some o1:=Db (MW w o1 o2) _
theorem Pq(w:World)(o1 o2 o3:Obj):(((w.alloc o1).alloc o2).alloc o3).heap[w.heap.size+1]?=some o2:=Db (MX w o1 o2) _
theorem Pr(w:World)(o1 o2 o3:Obj):(((w.alloc o1).alloc o2).alloc o3).heap[w.heap.size+1+1]?=some o3:=(by have:=heap_alloc_new ((w.alloc o1).alloc o2) o3;simpa using this)
theorem UB(w:World)(o1 o2 o3 o4:Obj):Below w.heap.size w ((((w.alloc o1).alloc o2).alloc o3).alloc o4):=by
 exact(Po w o1 o2 o3).alloc (by simp<;>omega) _
theorem Xu(w:World)(o1 o2 o3 o4:Obj):((((w.alloc o1).alloc o2).alloc o3).alloc o4).heap[w.heap.size]?=some o1:=Db (Pp w o1 o2 o3) _
theorem UC(w:World)(o1 o2 o3 o4:Obj):((((w.alloc o1).alloc o2).alloc o3).alloc o4).heap[w.heap.size+1]?=some o2:=Db (Pq w o1 o2 o3) _
theorem Xv(w:World)(o1 o2 o3 o4:Obj):((((w.alloc o1).alloc o2).alloc o3).alloc o4).heap[w.heap.size+1+1]?=some o3:=Db (Pr w o1 o2 o3) _
theorem UD(w:World)(o1 o2 o3 o4:Obj):((((w.alloc o1).alloc o2).alloc o3).alloc o4).heap[w.heap.size+1+1+1]?=some o4:=(by have:=heap_alloc_new (((w.alloc o1).alloc o2).alloc o3) o4;simpa using this)
end Go.Proofs.YtbgnigjfkbmceaaGreatDoor.Old
