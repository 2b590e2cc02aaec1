/-
  Part 3 of the proof of WatchReplacedP: what the statement's proof uses of the texts in wip/tpl.
-/
import Derived.Laws.StructEq
import Derived.Laws.Cover3
import Derived.ArgAppend
import Derived.Test.YtobclmbkdhbnpaaGreatDoorQa2
set_option maxRecDepth 10000
set_option maxHeartbeats 4000000
set_option linter.unusedVariables false
set_option linter.unusedSimpArgs false
namespace Go.Proofs.YtobclmbkdhbnpaaGreatDoor
open Go.RowKit
section
def GJ(k:IntKind)(a b:Int):Int:=k.wrap ((BitVec.ofInt k.bits a &&& BitVec.ofInt k.bits b).toNat)
def NL(k:IntKind)(a y:Int):Int:=a.fdiv (2 ^ min y.toNat k.bits)
section
variable {P:Program}{ev:Operand→Option AV}{h:AH}{R:AV→AH→Prop}{d:Option Tmp}{ty:TypeId}{pos:String}{af:Array Edge}{gd:Option (Nat×Bool)}{ats:Array TypeId}
theorem SB{T yT:TypeId}{x y:Operand}{k:IntKind}{a b:Int}(hx:ev x=some (.v (.int k a)))(hy:ev y=some (.v (.int k b)))(hR:R (.v (.int k (GJ k a b))) h):AStep P ⟨d, .binOp .and T x y yT,ty,pos,af,gd⟩ ev h R:=
 Dz hx hy (fun w=>by simp[eqGuard,binOp,Op.intBits,GJ]) hR
theorem SC{T yT:TypeId}{x y:Operand}{k k':IntKind}{a b:Int}(hx:ev x=some (.v (.int k a)))(hy:ev y=some (.v (.int k' b)))(hb:0≤b)(hR:R (.v (.int k (NL k a b))) h):AStep P ⟨d, .binOp .shr T x y yT,ty,pos,af,gd⟩ ev h R:=
 Dz hx hy (fun w=>by
  have:¬b<0:=by omega
  simp[eqGuard,binOp,Op.shift,NL,this]) hR
theorem NM{T yT:TypeId}{x y:Operand}{a b:Bool}(hu:P.underlying T=some .bool)(hx:ev x=some (.v (.bool a)))(hy:ev y=some (.v (.bool b)))(hR:R (.v (.bool (a==b))) h):AStep P ⟨d, .binOp .eql T x y yT,ty,pos,af,gd⟩ ev h R:=
 Dz hx hy (fun w=>by simp[eqGuard,binOp,run_equal_bool w T a b hu]) hR
theorem NN{T yT:TypeId}{x y:Operand}{a b:Bool}(hu:P.underlying T=some .bool)(hx:ev x=some (.v (.bool a)))(hy:ev y=some (.v (.bool b)))(hR:R (.v (.bool (!(a==b)))) h):AStep P ⟨d, .binOp .neq T x y yT,ty,pos,af,gd⟩ ev h R:=
 Dz hx hy (fun w=>by simp[eqGuard,binOp,run_equal_bool w T a b hu]) hR
inductive AllV:List AV→List Value→Prop
 |nil:AllV [] []
 |cons (u:Value) (xs:List AV) (us:List Value):AllV xs us→AllV (.v u::xs) (u::us)
theorem AllV.eq{xs:List AV}{us:List Value}(ha:AllV xs us){G:Gh}{w:World}:∀{ys:List Value},AY G w xs ys→ys=us:=by
 induction ha with
 |nil=>intro ys hy;simpa only[AY]using hy
 |cons u xs us _ ih=>
   intro ys hy;simp only[AY]at hy;obtain⟨z,zs,rfl,h1,h2⟩:=hy;simp only[rep]at h1;rw[h1,ih h2]
theorem Er{op:BinOp}{T yT:TypeId}{x y:Operand}{xs ys:List AV}{us vs:List Value}{z:Value}(hx:ev x=some (.agg xs))(hy:ev y=some (.agg ys))(ha:AllV xs us)(hb:AllV ys vs)(hz:∀w,(binOp op T (.agg us.toArray) (.agg vs.toArray)).run P w= .ok z w)(hg:P.eqGuardType P.depth T=false)(hR:R (.v z) h):AStep P ⟨d, .binOp op T x y yT,ty,pos,af,gd⟩ ev h R:=
 Cv (fun _ G w ec _ he=>by
  have h1:=he x (by simp[Op.operands]) _ hx;have h2:=he y (by simp[Op.operands]) _ hy;simp only[rep]at h1 h2;obtain⟨us',e1,e2⟩:=h1;obtain⟨vs',e3,e4⟩:=h2;have e5:=ha.eq e2;have e6:=hb.eq e4;subst e5;subst e6;refine⟨z,?_,by simp only[rep]⟩
  have hgd:(eqGuard op T x y (.agg us'.toArray) (.agg vs'.toArray)).run P w= .ok () w:=by
   unfold eqGuard;cases op<;>simp[hg]
  simp only[execOp];rw[e1,e3]
  simp only[Sem.run_bind,hgd,Result.andThen_ok,hz w,Sem.run_pure]) hR
def SD(P:Program)(T:Nat):Option (Nat×Nat):=
 match P.underlying T with
 |some (.array n e)=>(P.info? e).map fun i=>(n,i.size)
 |_=>none
theorem ER{T:TypeId}{x ix:Operand}{j o len sz n:Nat}{k:IntKind}{i:Int}(hT:SD P T=some (len,sz))(hx:ev x=some (.bp j o))(hi:ev ix=some (.v (.int k i)))(hn:i=(n:Int))(hlt:Nat.blt n len=true)(hR:R (.bp j (o+n * sz)) h):AStep P ⟨d, .indexAddr T x ix,ty,pos,af,gd⟩ ev h R:=by
 refine Cv (fun _ G w ec _ he=>?_) hR;have h1:=he x (by simp[Op.operands]) _ hx;have h2:=he ix (by simp[Op.operands]) _ hi;simp only[rep]at h1 h2;obtain⟨b,h3,h4⟩:=h1;unfold SD at hT
 cases hu:P.underlying T with
 |none=>simp[hu]at hT
 |some dsc=>
   cases dsc<;>try (simp[hu]at hT;done)
   case array m e=>
    cases hinf:P.info? e with
    |none=>simp[hu,hinf]at hT
    |some inf=>
      simp[hu,hinf]at hT;obtain⟨rfl,rfl⟩:=hT;have hlt':n<m:=B6 hlt;subst hn;refine⟨.pointer (some ⟨b,o+n * inf.size,none⟩),?_,by simp only[rep];exact⟨b,h3,rfl⟩⟩;simp[execOp,h2,h4,Instr.indexAt,Instr.sureAddr,asIntOf,run_underlying hu,hlt',sizeOf,typeInfo,hinf,Addr.add_mid]
end
mutual
def Fe(i:Nat):AV→AV
 | .v x=> .v x
 | .agg cs=> .agg (Jo i cs)
 | .tup cs=> .tup (Jo i cs)
 | .sl sz rows _=> .sl sz rows none
 | .fp row=> .fp row
 | .bp j o=>match Nat.beq j i with
   |true=> .bp 0 o
   |false=> .any
 | .bs j o sz n cap=>match Nat.beq j i with
   |true=> .bs 0 o sz n cap
   |false=> .any
 | .fn f caps=> .fn f (Jo i caps)
 | .any=> .any
def Jo(i:Nat):List AV→List AV
 |[]=>[]
 |x::xs=>Fe i x::Jo i xs
end
section
variable {G:Gh}{w:World}{i b:Nat}(hb:G.bx[i]?=some b)
include hb
mutual
theorem SE:∀(x:AV) (v:Value),rep G w x v→rep ⟨G.St,[b],[]⟩ w (Fe i x) v
 | .v _,_,h=>by simpa only[rep,Fe]using h
 | .agg cs,_,h=>by
   simp only[rep,Fe]at h ⊢;obtain⟨ys,h1,h2⟩:=h;exact⟨ys,h1,NO cs ys h2⟩
 | .tup cs,_,h=>by
   simp only[rep,Fe]at h ⊢;obtain⟨ys,h1,h2⟩:=h;exact⟨ys,h1,NO cs ys h2⟩
 | .sl sz rows none,_,h=>by simpa only[rep,Fe]using h
 | .sl sz rows (some g),_,h=>by simp only[rep,Fe]at h ⊢;exact h.1
 | .fp _,_,h=>by simpa only[rep,Fe]using h
 | .bp j o,v,h=>by
   simp only[rep]at h;obtain⟨b',h1,h2⟩:=h;simp only[Fe];split
   ·rename_i e;have e':j=i:=Nat.eq_of_beq_eq_true e;subst e';rw[hb]at h1;injection h1 with h1;subst h1;simp only[rep];exact⟨b,rfl,h2⟩
   simp only[rep]
 | .bs j o sz n cap,v,h=>by
   simp only[rep]at h;obtain⟨b',h1,h2⟩:=h;simp only[Fe];split
   ·rename_i e;have e':j=i:=Nat.eq_of_beq_eq_true e;subst e';rw[hb]at h1;injection h1 with h1;subst h1;simp only[rep];exact⟨b,rfl,h2⟩
   simp only[rep]
 | .fn f caps,_,h=>by
   simp only[rep,Fe]at h ⊢;obtain⟨ys,h1,h2⟩:=h;exact⟨ys,h1,NO caps ys h2⟩
 | .any,_,_=>by simp only[rep,Fe]
theorem NO:∀(xs:List AV) (vs:List Value),AY G w xs vs→AY ⟨G.St,[b],[]⟩ w (Jo i xs) vs
 |[],_,h=>by have _:=hb;simpa only[AY,Jo]using h
 |x::xs,_,h=>by
   simp only[AY,Jo]at h ⊢;obtain⟨z,zs,h1,h2,h3⟩:=h;exact⟨z,zs,h1,SE x z h2,NO xs zs h3⟩
end
end
inductive ArgsB(i:Nat)(ev:Operand→Option AV):List Operand→List AV→Prop
 |nil:ArgsB i ev [] []
 |cons (o:Operand) (x y:AV) (l:List Operand) (ys:List AV):ev o=some x→Fe i x=y→ArgsB i ev l ys→ArgsB i ev (o::l) (y::ys)
theorem ArgsB.rep{i b:Nat}{ev:Operand→Option AV}{l:List Operand}{ys:List AV}(h:ArgsB i ev l ys){G:Gh}{w:World}{ec:Operand→Value}(hb:G.bx[i]?=some b)(he:∀x∈l,∀av,ev x=some av→rep G w av (ec x)):AY ⟨G.St,[b],[]⟩ w ys (l.map ec):=by
 induction h with
 |nil=>simp only[List.map_nil,AY]
 |cons o x y l ys h1 h2 _ ih=>
   simp only[List.map_cons,AY];subst h2;exact⟨_,_,rfl,SE hb _ _ (he o (by simp) _ h1),ih fun x hx=>he x (by simp[hx])⟩
theorem Ws{E:Env}{G:Gh}{h:AH}{w:World}(hr:HRel E G h w){i b:Nat}{row:List AV}(hb:G.bx[i]?=some b)(hrow:h.bx[i]?=some row)(hcl:Aq 0 0 row=true):HRel ⟨w,[b],G.St⟩ ⟨G.St,[b],[]⟩ ⟨[row],[]⟩ w:=by
 have hm:=Aj hb;refine⟨fun _ _ h=>h,⟨rfl,rfl,rfl,Av _,fun _ _ _=>rfl⟩,hr.stlt,fun _ _ h=> .inl h,rfl,by simp,fun b' hb'=>by simp at hb';subst hb';exact hr.bxst _ hm,fun b' hb'=> .inr hb',?_,rfl,by simp,by simp,by simp⟩;intro j b' row' hj hrow'
 cases j with
 |succ j=>simp at hj
 |zero=>
   simp at hj hrow';subst hj;subst hrow';obtain⟨us,T,h1,h2,h3⟩:=hr.box i b row hb hrow;refine⟨us,T,h1,?_,h3⟩;have:=JB 0 0 _ _ hcl h2;refine Dq (Lb G.St [b] [] w) _ _ ?_
   simpa using this
theorem Wt{E:Env}{G:Gh}{h:AH}{w w':World}(hr:HRel E G h w){i b:Nat}{row':List AV}{Gc:Gh}(hb:G.bx[i]?=some b)(hc:HRel ⟨w,[b],G.St⟩ Gc ⟨[row'],[]⟩ w')(he:Ext ⟨G.St,[b],[]⟩ w Gc w')(hcl:Aq 0 0 row'=true):
    HRel E ⟨Gc.St,G.bx,G.tk⟩ ⟨h.bx.set i row',h.tk⟩ w'∧Ext G w ⟨Gc.St,G.bx,G.tk⟩ w':=by
 have hm:=Aj hb;have hblk:∀k,k<w.heap.size→k≠b→w'.heap[k]?=w.heap[k]?:=fun k hk hne=>hc.kept.block k hk (by simpa using hne);have hsz:w.heap.size≤w'.heap.size:=hc.kept.size;have hext:Ext G w ⟨Gc.St,G.bx,G.tk⟩ w':=⟨fun b o hs=>he.st b o hs,fun _ _ h=>h,fun g n u hg=>⟨n,u,hg,Av _,fun _=>rfl⟩⟩;have hstc:∀b o,Gc.St b o→b<w.heap.size→G.St b o:=fun b o hs hb=>(hc.stnew b o hs).resolve_right (by simp only;omega)
 have hcb:Gc.bx=[b]:=by
  have h1:=hc.inpre 0 b rfl;have h2:=hc.bxlen
  match hg:Gc.bx,h2 with
  |[c],_=>rw[hg]at h1;simp at h1;rw[h1]
 refine⟨⟨hr.inpre,?_,hc.stlt,?_,by simp[hr.bxlen],hr.bxnd,?_,hr.bxown,?_,hr.tklen,?_,hr.tkbx,hr.tknd⟩,hext⟩
 ·have k:=hr.kept;have k':=hc.kept;refine⟨k'.os.trans k.os,k'.tape.trans k.tape,k'.output.trans k.output,Nat.le_trans k.size hsz,fun j hj hn=>(hblk j (Nat.lt_of_lt_of_le hj k.size) (fun e=>?_)).trans (k.block j hj hn)⟩;subst e;rcases hr.bxown j hm with e|e
  ·omega
  exact hn e
 ·intro b' o hs;rcases hc.stnew b' o hs with h1|h1
  ·exact hr.stnew b' o h1
  exact .inr (Nat.le_trans hr.kept.size h1)
 ·intro b' hb' o hs;exact hr.bxst b' hb' o (hstc b' o hs (hr.boxlt hb'))
 ·intro j b' row hj hrow;have hmj:=Aj hj;by_cases hji:j=i
  ·subst hji;rw[hb]at hj;injection hj with hj;subst hj;have hlt:j<h.bx.length:=by rw[←hr.bxlen];exact(Ai.1 hb).1
   simp only at hrow;rw[List.getElem?_set_self hlt]at hrow;injection hrow with hrow;subst hrow;obtain⟨us,T,h1,h2,h3⟩:=hc.box 0 b row' (by rw[hcb];rfl) rfl;refine⟨us,T,h1,?_,h3⟩;have:=JB 0 0 _ _ hcl h2;refine Dq (Lb Gc.St G.bx G.tk w') _ _ ?_
   simpa using this
  simp only at hrow;rw[List.getElem?_set_ne (Ne.symm hji)]at hrow;obtain⟨us,T,h1,h2,h3⟩:=hr.box j b' row hj hrow
  have hne:b'≠b:=by
   intro e;subst e;obtain⟨l1,e1⟩:=Ai.1 hb;obtain⟨l2,e2⟩:=Ai.1 hj;exact hji ((List.getElem_inj hr.bxnd).1 (e2.trans e1.symm))
  exact⟨us,T,(hblk b' (hr.boxlt hmj) hne).trans h1,Dq hext _ _ h2,h3⟩
 intro g n u T sz rows hg ht;obtain⟨k1,⟨xs,k2⟩,k3⟩:=hr.tok g n u T sz rows hg ht;refine⟨k1,⟨xs,World.ownsRow.kept k2 (w':=w') (row:=some b) ⟨hc.kept.os,hc.kept.tape,hc.kept.output,hsz,fun k hk hne=>hblk k hk (fun e=>hne (by rw[e]))⟩ (.inr fun e=>hr.tkbx g n u hg b e hm)⟩,fun b' hb' o ho hs=>?_⟩;exact k3 b' hb' o ho (hstc b' o hs (hr.toklt hg hb').2)
section
variable {P:Program}{ev:Operand→Option AV}{bx:List (List AV)}{tk:List Cb}{R:AV→AH→Prop}{d:Option Tmp}{ty:TypeId}{pos:String}{af:Array Edge}{gd:Option (Nat×Bool)}{ats:Array TypeId}
theorem PG{f:FuncId}{l:List Operand}{ys:List AV}{row:List AV}{R0:AV→List AV→Prop}(i:Nat)[Fun P f](hfo:ev (.func f)=some (.fn f []))(ha:ArgsB i ev l ys)(hrow:bx[i]?=some row)(hcl:Aq 0 0 row=true)(hc:NJ P f ys row R0)
    (hR:∀r row',R0 r row'→Aq 0 0 row'=true∧Ap 0 0 r=true∧∃bx',SetAt bx i [row'] bx'∧R r ⟨bx',tk⟩):AStep P ⟨d, .call {callee:= .value (.func f),args:=l.toArray,argTypes:=ats},ty,pos,af,gd⟩ ev ⟨bx,tk⟩ R:=by
 intro E G w ec hr he;obtain⟨cs,k1,k2⟩:=Jn (he (.func f) (by simp[Op.operands,Call.operands]) _ hfo);simp only[AY]at k2;subst k2;have hlt:i<G.bx.length:=by rw[hr.bxlen];exact(Ai.1 hrow).1
 have hb:G.bx[i]?=some G.bx[i]:=BM hlt;generalize G.bx[i]=b at hb;refine Jm k1 ?_;rw[List.append_nil];refine Calls.mono (hc w G.St [b] _ (Ws hr hb hrow hcl) (ha.rep hb fun x hx av hav=>he x (by simp[Op.operands,Call.operands,hx]) av hav)) ?_;intro e w' h3
 cases e with
 |returned v=>
   obtain⟨r,bx',tk',Gc,⟨row',rfl,rfl,hR0⟩,h1,h2,h3⟩:=h3;obtain⟨q1,q2,bx2,q3,q4⟩:=hR r row' hR0;obtain⟨m1,m2⟩:=Wt hr hb h1 h2 q1;obtain⟨_,e⟩:=SetAt.one q3;subst e;refine⟨r,_,_,q4,m1,m2,?_⟩;have:=KY 0 0 _ _ q2 h3;refine Hc (Lb Gc.St G.bx G.tk w') _ _ ?_
   simpa using this
 |panicked c=>exact h3.elim
 |outgrown=>exact h3.elim
theorem Wu{f:FuncId}{l:List Operand}{ys:List AV}{row:List AV}{n:Nat}{bx':List (List AV)}[Fun P f](hfo:ev (.func f)=some (.fn f []))(ha:Args ev l ys)(hcl:At 0 0 [row]=true)(hc:ACall P f ys [] (fun r b t=>r= .bp 0 0∧b=[row]∧t=[]))(hs:SnocAt bx row n bx')(hR:R (.bp n 0) ⟨bx',tk⟩):
    AStep P ⟨d, .call {callee:= .value (.func f),args:=l.toArray,argTypes:=ats},ty,pos,af,gd⟩ ev ⟨bx,tk⟩ R:=by
 intro E G w ec hr he;obtain⟨cs,k1,k2⟩:=Jn (he (.func f) (by simp[Op.operands,Call.operands]) _ hfo);simp only[AY]at k2;subst k2;refine Jm k1 ?_;rw[List.append_nil];refine Calls.mono (hc w G.St [] _ (NH hr) (ha.rep fun x hx av hav=>he x (by simp[Op.operands,Call.operands,hx]) av hav)) ?_;intro e w' h3
 cases e with
 |returned v=>
   obtain⟨r,bx1,tk1,Gc,⟨rfl,rfl,rfl⟩,h1,h2,h3⟩:=h3;obtain⟨m1,m2⟩:=PB hr h1 h2 hcl;obtain⟨e1,e2⟩:=hs.eq;subst e1;subst e2;refine⟨_,_,_,hR,by simpa using m1,m2,?_⟩;simp only[rep]at h3 ⊢;obtain⟨b,q1,q2⟩:=h3;refine⟨b,?_,q2⟩;have:=hr.bxlen;simp only at this;rw[←this,DP (Av _),Nat.sub_self];exact q1
 |panicked c=>exact h3.elim
 |outgrown=>exact h3.elim
end
end
theorem SF{St:Nat→Nat→Prop}{w:World}{b:Nat}(hst:∀o,St b o):∀{xs:List AV} {us:List Value} {off:Nat},Bc St w xs us→(∀u∈us,u.oneCell'=true)→(∀j u,us[j]?=some u→w.cell? ⟨b,off+j,none⟩=some u)→Cu St w b xs off
 |[],_,_,_,_,_=>by simp only[Cu]
 |x::xs,_,off,h,h1,h2=>by
   simp only[Bc]at h;obtain⟨z,zs,rfl,h3,h4⟩:=h;simp only[Cu];refine⟨⟨hst off,z,by simpa using h2 0 z rfl,h1 z (by simp),h3⟩,SF hst h4 (fun u hu=>h1 u (by simp[hu])) fun j u hj=>?_⟩;have:=h2 (j+1) u (by simpa using hj)
   rwa [show off+(j+1)=off+1+j by omega]at this
mutual
def GK:AV→Bool
 | .v _=>true
 | .agg cs=>Le cs
 | .tup cs=>Le cs
 |_=>false
def Le:List AV→Bool
 |[]=>true
 |x::xs=>GK x&&Le xs
end
mutual
theorem SG{G G':Gh}{w w':World}:∀(x:AV) (v:Value),GK x=true→rep G w x v→rep G' w' x v
 | .v _,_,_,h=>by simpa only[rep]using h
 | .agg cs,_,hp,h=>by
   simp only[GK]at hp;simp only[rep]at h ⊢;obtain⟨ys,h1,h2⟩:=h;exact⟨ys,h1,PH cs ys hp h2⟩
 | .tup cs,_,hp,h=>by
   simp only[GK]at hp;simp only[rep]at h ⊢;obtain⟨ys,h1,h2⟩:=h;exact⟨ys,h1,PH cs ys hp h2⟩
 | .sl _ _ _,_,hp,_=>by simp[GK]at hp
 | .fp _,_,hp,_=>by simp[GK]at hp
 | .bp _ _,_,hp,_=>by simp[GK]at hp
 | .bs _ _ _ _ _,_,hp,_=>by simp[GK]at hp
 | .fn _ _,_,hp,_=>by simp[GK]at hp
 | .any,_,hp,_=>by simp[GK]at hp
theorem PH{G G':Gh}{w w':World}:∀(xs:List AV) (vs:List Value),Le xs=true→AY G w xs vs→AY G' w' xs vs
 |[],_,_,h=>by simpa only[AY]using h
 |x::xs,_,hp,h=>by
   simp only[Le,Bool.and_eq_true]at hp;simp only[AY]at h ⊢;obtain⟨z,zs,h1,h2,h3⟩:=h;exact⟨z,zs,h1,SG x z hp.1 h2,PH xs zs hp.2 h3⟩
end
def SH(k:IntKind)(a b:Int):Int:=k.wrap ((BitVec.ofInt k.bits a &&& ~~~ BitVec.ofInt k.bits b).toNat)
theorem SJ{P:Program}{ev:Operand→Option AV}{h:AH}{R:AV→AH→Prop}{d:Option Tmp}{ty:TypeId}{pos:String}{af:Array Edge}{gd:Option (Nat×Bool)}{T yT:TypeId}{x y:Operand}{k:IntKind}{a b:Int}(hx:ev x=some (.v (.int k a)))(hy:ev y=some (.v (.int k b)))(hR:R (.v (.int k (SH k a b))) h):AStep P ⟨d, .binOp .andNot T x y yT,ty,pos,af,gd⟩ ev h R:=
 Dz hx hy (fun w=>by simp[eqGuard,binOp,Op.intBits,SH]) hR
theorem SK{G:Gh}{w:World}:∀{us vs:List Value},AY G w (us.map AV.v) vs→vs=us
 |[],_,h=>by simpa only[List.map_nil,AY]using h
 |u::us,_,h=>by
   simp only[List.map_cons,AY]at h;obtain⟨z,zs,rfl,h1,h2⟩:=h;simp only[rep]at h1;rw[h1,SK h2]
theorem NP{P:Program}{f:FuncId}{us:List Value}{z:Value}(h:∀w,Calls P f us.toArray w fun e w'=>e= .returned z∧Below w.heap.size w w'):AFn P f (us.map AV.v) (fun r=>r= .v z):=by
 intro w St bl vs hr hv;obtain rfl:=SK hv;refine(h w).mono ?_;rintro e w' ⟨rfl,hb⟩;obtain⟨h1,h2⟩:=hr.below hb;exact⟨_,_,_,_,⟨rfl,rfl,rfl⟩,h1,h2,by simp only[rep]⟩
theorem NQ{x y:AV}(h:Gs x=true)(hl:LeA x y):LZ x y:=fun G w v hv=>hl _ w v (Lc h G w v hv)
theorem F0{P:Program}{ev:Operand→Option AV}{h:AH}{R:AV→AH→Prop}{o:Oper}{x y:AV}(hs:AStep P o ev h fun r h'=>r=x∧h'=h)(hl:LeA x y)(hR:R y h):AStep P o ev h R:=by
 have step:∀{E:Env} {G:Gh} {w w':World} {v:Value},Fits E (fun r h'=>r=x∧h'=h) G w v w'→Fits E R G w v w':=by
  rintro E G w w' v ⟨r,h',G',⟨rfl,rfl⟩,k2,k3,k4⟩;exact⟨_,_,G',hR,k2,k3,hl _ _ _ k4⟩
 intro E G w ec hr he;have hu:=hs E G w ec hr he;revert hu;generalize (execOp ec o).run P w=z;intro hu;unfold KS at hu ⊢;split at hu
 ·exact step hu
 ·exact step hu
 ·refine Calls.mono hu ?_;intro e w'' h3
  cases e with
  |returned v=>exact step h3
  |panicked c=>exact h3.elim
  |outgrown=>exact h3.elim
 exact hu.elim
theorem SL{w:World}{St:Nat→Nat→Prop}(hst:∀b o,St b o→b<w.heap.size):HRel ⟨w,[],St⟩ ⟨St,[],[]⟩ ⟨[],[]⟩ w:=
 ⟨fun i b h=>by simp at h,⟨rfl,rfl,rfl,Av _,fun _ _ _=>rfl⟩,hst,fun _ _ h=> .inl h,rfl,List.nodup_nil,fun b h=>by simp at h,fun b h=>by simp at h,fun i b row h=>by simp at h,rfl,fun g n u T sz rows h=>by simp at h,fun g n u h=>by simp at h,fun g g' n n' u u' h=>by simp at h⟩
theorem Wv{P:Program}{f:FuncId}{xs:List AV}{z:Value}(h:AFn P f xs fun r=>r= .v z){w:World}(St:Nat→Nat→Prop)(hst:∀b o,St b o→b<w.heap.size){vs:List Value}(hv:AY ⟨St,[],[]⟩ w xs vs):
    Calls P f vs.toArray w fun e w'=>e= .returned z∧Below w.heap.size w w':=by
 refine Calls.mono (h w St [] vs (SL hst) hv) ?_;intro e w' h3
 cases e with
 |returned v=>
   obtain⟨r,b,t,G',⟨_,_,rfl⟩,k2,_,k4⟩:=h3;simp only[rep]at k4;subst k4;have k:=k2.kept;exact⟨rfl,⟨k.os,k.tape,k.output,k.size,fun i hi=>k.block i hi (by simp)⟩⟩
 |panicked c=>exact h3.elim
 |outgrown=>exact h3.elim
class BP (b v:Bool) (p:outParam Prop):Prop where
 imp:b=v→p
instance (priority:=low) bp_any(b v:Bool):BP b v (b=v):=⟨fun h=>h⟩
instance bp_t(p:Prop)[Decidable p]:BP (decide p) true p:=⟨of_decide_eq_true⟩
instance bp_f(p:Prop)[Decidable p]:BP (decide p) false (¬p):=⟨of_decide_eq_false⟩
instance bp_nt(b:Bool)(p:Prop)[h:BP b false p]:BP (!b) true p:=⟨fun e=>h.imp (by cases b<;>simp_all)⟩
instance bp_nf(b:Bool)(p:Prop)[h:BP b true p]:BP (!b) false p:=⟨fun e=>h.imp (by cases b<;>simp_all)⟩
theorem bp{b v:Bool}{p:Prop}[h:BP b v p](e:b=v):p:=h.imp e
section
variable {P:Program}{N:Dim}{Q:Exit→AS→Prop}{ops:Array Oper}{rest:List Oper}{l:List (Nat×AV)}{hh:AH}{op:Op}{ty:TypeId}{pos:String}{af:Array Edge}
theorem Aw{d j:Nat}{want t:Bool}(h:AStep P ⟨some d,op,ty,pos,af,some (j,want)⟩ (CA (look l)) hh (fun x h'=>AL P N ops Q rest ⟨look ((d,x)::l),h'⟩))(hd:Nat.blt d N.n=true:=by rfl)(hy:yv ops (look l) j=some (some t):=by rfl)(ht:(t==want)=true:=by first|rfl|exact BG ‹_›|exact BH ‹_›|simp[*]):AL P N ops Q (⟨some d,op,ty,pos,af,some (j,want)⟩::rest) ⟨look l,hh⟩:=Wq hd hy ht h
end
section
variable {P:Program}{rs:List ResultVar}{R0:AV→Prop}{s:AS}{xs:List AV}
theorem AA(h:R0 (DF none (EK xs)))(h1:ResA P s rs xs:=by repeat (first|exact ResA.nil|(apply ResA.tmp;(focus exact rfl))|(apply ResA.cellN;(focus exact inferInstance);(focus exact rfl);(focus exact rfl);(focus exact rfl))|(apply ResA.cell1;(focus exact inferInstance);(focus exact rfl);(focus exact rfl);(focus exact rfl))))(h3:Ap 0 1 (DF none (EK xs))=true:=by rfl):JE P rs 0 (fun r bx' tk'=>bx'=[]∧tk'=[]∧R0 r) .ret s:=P9 none h1 rfl h3 rfl (AM _) ⟨rfl,rfl,h⟩
end
section
variable {P:Program}{ev:Operand→Option AV}{h:AH}{R:AV→AH→Prop}{d:Option Tmp}{ty:TypeId}{pos:String}{af:Array Edge}{gd:Option (Nat×Bool)}{ats:Array TypeId}
theorem NR{c a b:Operand}{t:Bool}{av:AV}(hR:R av h)(hc:ev c=some (.v (.bool t)):=by rfl)(ht:t=true:=by first|rfl|assumption|simp[*])(hx:ev a=some av:=by rfl):AStep P ⟨d, .pick c a b,ty,pos,af,gd⟩ ev h R:=WP hc ht hx hR
theorem NT{c a b:Operand}{t:Bool}{av:AV}(hR:R av h)(hc:ev c=some (.v (.bool t)):=by rfl)(ht:t=false:=by first|rfl|assumption|simp[*])(hx:ev b=some av:=by rfl):AStep P ⟨d, .pick c a b,ty,pos,af,gd⟩ ev h R:=WQ hc ht hx hR
theorem AK{f:FuncId}{l:List Operand}{ys:List AV}{R0:AV→Prop}[Fun P f](hc:AFn P f ys R0)(hR:∀r,R0 r→R r h)(hfo:ev (.func f)=some (.fn f []):=by rfl)(ha:Args ev l ys:=by repeat (first|exact Args.nil|refine Args.cons _ _ _ _ _ rfl (Lc rfl) ?_|refine Args.cons _ _ _ _ _ rfl (NG _) ?_|refine Args.cons _ _ _ _ _ rfl (La _) ?_|refine Args.cons _ _ _ _ _ rfl (NQ rfl (by repeat (first|exact AM _|exact LeA.nil _|exact LeL.refl _|refine LeA.agg ?_|refine LeA.tup ?_|exact LeL.nil|refine LeL.cons ?_ ?_|exact LeA.any _))) ?_)):AStep P ⟨d, .call {callee:= .value (.func f),args:=l.toArray,argTypes:=ats},ty,pos,af,gd⟩ ev h R:=Wi hfo ha hc hR
end
theorem wk{f:Nat→Option AV}{bx:List (List AV)}{tk:List (Nat×Nat×List (List AV))}{l:List (Nat×AV)}{N:Dim}(n m:Nat){bx':List (List AV)}{tk':List (Nat×Nat×List (List AV))}(hn:Nat.ble N.ni n=true:=by rfl)(hb:bx.take n=bx':=by rfl)(ht:tk.take m=tk':=by rfl)(hbp:At n m bx'=true:=by rfl)(hl:Sub n m f l:=by repeat (first|exact Sub.nil|refine B9 rfl rfl ?_|refine BC ?_|refine BD rfl ?_|refine BE rfl ?_)):Weak N ⟨f,⟨bx,tk⟩⟩ ⟨look l,⟨bx',tk'⟩⟩:=B7 n m hn hb ht hbp hl
section
variable {P:Program}{N:Dim}{l:List Oper}{Q:Exit→AS→Prop}{S:AH→Prop}{tl fuel:Nat}{listed:Array Bool}{m:List (Nat×AV)}{h:AH}{op:Op}{ty:TypeId}{pos:String}{af:Array Edge}{gd:Option (Nat×Bool)}
theorem F1{i d:Nat}{x:AV}(hi:l[i]?=some ⟨some d,op,ty,pos,af,gd⟩)(hst:AStep P ⟨some d,op,ty,pos,af,gd⟩ (CA (look m)) h (fun x' h'=>x'=x∧h'=h))(H:AAny P N l.toArray Q (fun h'=>h'=h) tl fuel (listed.setIfInBounds i true) ⟨look ((d,x)::m),h⟩)
    (hd:Nat.blt d N.n=true:=by rfl) (htl:(Gj l.toArray tl listed&& !Nat.ble tl i&&Region.free .any l.toArray listed i&&(Region.ready .any l.toArray listed).contains i)=true:=by kernel_rfl)
    (hw:CP l.toArray (look m) ⟨some d,op,ty,pos,af,gd⟩=some true:=by first|rfl|exact AO rfl rfl (BG ‹_›)|exact AO rfl rfl (BH ‹_›)|exact AO rfl rfl (by simp[*])):AAny P N l.toArray Q (fun h'=>h'=h) tl (fuel+1) listed ⟨look m,h⟩:=Rk hi hd htl hw hst H
end
theorem BY{P:Program}{N:Dim}{Q:Exit→AS→Prop}{s:AS}{x y:Code}(I:AS→Prop)(h1:Bz P N x (G0 (fun s'=>∃s0,I s0∧Weak N s' s0) Q) s)(h2:∀s0,I s0→Bz P N y Q s0):Bz P N (.seq x y) Q s:=by
 intro E a w hr;refine wp_seq (wp_mono (h1 E a w hr) ?_);rintro e a' w' ⟨s',hq,hr'⟩
 cases e with
 |normal=>obtain⟨s0,k1,k2⟩:=hq;exact h2 s0 k1 E a' w' (k2 E a' w' hr')
 |exit id=>exact⟨s',hq,hr'⟩
 |goto l=>exact⟨s',hq,hr'⟩
 |ret=>exact⟨s',hq,hr'⟩
 |panic c=>exact⟨s',hq,hr'⟩
 |outgrown=>exact⟨s',hq,hr'⟩
theorem HRel.boxLe{E:Env}{G:Gh}{h:AH}{w:World}(hr:HRel E G h w){i:Nat}{row row':List AV}(hi:h.bx[i]?=some row)(hle:∀us,AY G w row us→AY G w row' us):HRel E G ⟨h.bx.set i row',h.tk⟩ w:=by
 refine⟨hr.inpre,hr.kept,hr.stlt,hr.stnew,by simp[hr.bxlen],hr.bxnd,hr.bxst,hr.bxown,?_,hr.tklen,hr.tok,hr.tkbx,hr.tknd⟩;intro j b row1 hj hrow;have hlt:i<h.bx.length:=(Ai.1 hi).1;by_cases e:i=j
 ·subst e;rw[List.getElem?_set_self hlt]at hrow;injection hrow with hrow;subst hrow;obtain⟨us,T,k1,k2,k3⟩:=hr.box i b row hj hi;exact⟨us,T,k1,hle us k2,k3⟩
 rw[List.getElem?_set_ne e]at hrow;exact hr.box j b row1 hj hrow
theorem SM{G:Gh}{w:World}{x y:AV}(h:∀v,rep G w x v→rep G w y v):∀{row:List AV} {o:Nat} {us:List Value},row[o]?=some x→AY G w row us→AY G w (row.set o y) us
 |[],o,_,hx,_=>by simp at hx
 |z::zs,0,_,hx,hr=>by
   simp at hx;subst hx;simp only[AY,List.set_cons_zero]at hr ⊢;obtain⟨a,as',h1,h2,h3⟩:=hr;exact⟨a,as',h1,h a h2,h3⟩
 |z::zs,o+1,_,hx,hr=>by
   simp only[AY,List.set_cons_succ]at hr ⊢;obtain⟨a,as',h1,h2,h3⟩:=hr;exact⟨a,as',h1,h2,SM h (by simpa using hx) h3⟩
theorem PJ{P:Program}{N:Dim}{Q:Exit→AS→Prop}{c:Code}{f:Nat→Option AV}{bx bx':List (List AV)}{tk tk':List Cb}(i o T sz:Nat){g:Nat}{row row':List AV}(hb:bx[i]?=some row)(ht:row[o]?=some (.v (.slice none 0 0)))(hs:SnocAt tk (T,sz,[]) g tk')
    (hrow:SetAt row o [.sl sz [] (some g)] row') (hbx:SetAt bx i [row'] bx') (h:Bz P N c Q ⟨f,⟨bx',tk'⟩⟩):Bz P N c Q ⟨f,⟨bx,tk⟩⟩:=by
 rintro E a w ⟨G,h1,h2,h3⟩;obtain⟨e1,e2⟩:=hs.eq;subst e1;subst e2;have e3:=(SetAt.one hrow).2;have e4:=(SetAt.one hbx).2;subst e3;subst e4;obtain⟨k1,k2,k3⟩:=P5 h1 T sz;refine h E a w ⟨_,k1.boxLe (i:=i) hb (fun us hu=>SM (x:= .v (.slice none 0 0)) (fun v hv=>?_) ht hu),fun t' x hx=>Hc k2 _ _ (h2 t' x hx),h3⟩;simp only[rep]at hv;rw[hv];exact k3
def CB(z:Int):List AV:=[.v (.int .i64 z)]
def ES(l:List Int)(a:Nat):List AV:=[.sl 1 (l.map CB) none, .v (.int .i64 (a:Int))]
def FF(P:Program)(f:FuncId)(l:List Int)(a:Nat)(xs:List AV)(c:Nat)(R:AV→Prop):Prop:=NJ P f (.bp 0 0::xs) (ES l a) (fun r row'=>∃a',a'≤a+c∧row'=ES l a'∧R r)
section
variable {P:Program}{ev:Operand→Option AV}{bx:List (List AV)}{tk:List Cb}{R:AV→AH→Prop}{d:Option Tmp}{ty:TypeId}{pos:String}{af:Array Edge}{gd:Option (Nat×Bool)}{ats:Array TypeId}
theorem Bf{f:FuncId}{ops:List Operand}{l:List Int}{a c:Nat}{xs:List AV}{R0:AV→Prop}(i:Nat)[Fun P f](hrow:bx[i]?=some (ES l a):=by rfl)(ha:ArgsB i ev ops (.bp 0 0::xs):=by repeat (first|exact ArgsB.nil|refine ArgsB.cons _ _ _ _ _ rfl rfl ?_))(hc:FF P f l a xs c R0)
    (hR:∀r a',a'≤a+c→R0 r→Ap 0 0 r=true∧∃bx',SetAt bx i [ES l a'] bx'∧R r ⟨bx',tk⟩) (hfo:ev (.func f)=some (.fn f []):=by rfl):AStep P ⟨d, .call {callee:= .value (.func f),args:=ops.toArray,argTypes:=ats},ty,pos,af,gd⟩ ev ⟨bx,tk⟩ R:=
 PG i hfo ha hrow rfl hc (fun r row' ⟨a',h1,h2,h3⟩=>by
  subst h2
  exact⟨rfl,hR r a' h1 h3⟩)
end
def NU(p:Int→Bool):List (List AV)→Bool
 |[]=>true
 |[.v (.int .i64 z)]::rs=>p z&&NU p rs
 |_=>false
def NV(p:ByteArray→Bool):List (List AV)→Bool
 |[]=>true
 |[.v (.string z)]::rs=>p z&&NV p rs
 |_=>false
theorem SN{p:Int→Bool}:∀{rows:List (List AV)},NU p rows=true→∀{i:Nat},i<rows.length→∃z,rows[i]?=some [.v (.int .i64 z)]∧p z=true
 |[],_,i,hi=>by simp at hi
 |r::rs,h,i,hi=>by
   unfold NU at h;split at h
   ·rename_i heq;cases heq
   ·rename_i z rs' heq;injection heq with e1 e2;subst e1;subst e2;simp only[Bool.and_eq_true]at h
    cases i with
    |zero=>exact⟨z,rfl,h.1⟩
    |succ i=>simpa using SN h.2 (by simpa using hi)
   cases h
theorem SO{p:ByteArray→Bool}:∀{rows:List (List AV)},NV p rows=true→∀{i:Nat},i<rows.length→∃z,rows[i]?=some [.v (.string z)]∧p z=true
 |[],_,i,hi=>by simp at hi
 |r::rs,h,i,hi=>by
   unfold NV at h;split at h
   ·rename_i heq;cases heq
   ·rename_i z rs' heq;injection heq with e1 e2;subst e1;subst e2;simp only[Bool.and_eq_true]at h
    cases i with
    |zero=>exact⟨z,rfl,h.1⟩
    |succ i=>simpa using SO h.2 (by simpa using hi)
   cases h
section
variable {P:Program}{ev:Operand→Option AV}{h:AH}{R:AV→AH→Prop}{d:Option Tmp}{ty:TypeId}{pos:String}{af:Array Edge}{gd:Option (Nat×Bool)}
theorem DG{T:TypeId}{x ix:Operand}{E sz bytes i off n cap m:Nat}{k:IntKind}{iv:Int}[hE:Elm P T E sz bytes]
    (hx:ev x=some (.bs i off sz n cap)) (hi:ev ix=some (.v (.int k iv))) (hn:iv=(m:Int)) (hlt:m<n) (hR:R (.bp i (off+m * sz)) h):AStep P ⟨d, .indexAddr T x ix,ty,pos,af,gd⟩ ev h R:=by
 refine Cv (fun _ G w ec _ he=>?_) hR;have h1:=he x (by simp[Op.operands]) _ hx;have h2:=he ix (by simp[Op.operands]) _ hi;simp only[rep]at h1 h2;obtain⟨b,h3,h4,_,_⟩:=h1;obtain⟨hu,inf,z,hinf,_,_,hs,_,_⟩:=Ey hE.eq;subst hn;refine⟨.pointer (some ⟨b,off+m * sz,none⟩),?_,by simp only[rep];exact⟨b,h3,rfl⟩⟩;simp[execOp,h2,h4,Instr.indexAt,asIntOf,run_underlying hu,hlt,sizeOf,typeInfo,hinf,hs,Addr.add_mid]
theorem PK{T:TypeId}{x:Operand}{E sz bytes i off n cap:Nat}[hE:Elm P T E sz bytes](hx:ev x=some (.bs i off sz n cap))(hR:R (.v (.int .i64 (n:Int))) h):AStep P ⟨d, .call {callee:= .builtin .len,args:=#[x],argTypes:=#[T]},ty,pos,af,gd⟩ ev h R:=by
 refine Cv (fun _ G w ec _ he=>?_) hR;have h1:=he x (by simp[Op.operands,Call.operands]) _ hx;simp only[rep]at h1;obtain⟨b,h3,h4,_,_⟩:=h1;obtain⟨hu,inf,z,hinf,_,_,hs,_,_⟩:=Ey hE.eq;refine⟨.int .i64 (n:Int),?_,by simp only[rep]⟩;simp[execOp,resolve,invoke,builtin,Builtin.len_,run_underlying hu,h4,goInt]
end
theorem SetAt.put1{α:Type}{x:α}:∀{row:List α} {o:Nat},o<row.length→SetAt row o [x] (row.set o x)
 |[],_,h=>by simp at h
 |y::ys,0,_=>SetAt.here y x ys [] ys (SetAt.nil ys 0)
 |y::ys,o+1,h=>SetAt.there y x ys [] (ys.set o x) o (SetAt.put1 (by simpa using h))
theorem PL{α:Type}(x:α):∀(l:List α),SnocAt l x l.length (l++[x])
 |[]=>SnocAt.nil x
 |y::ys=>SnocAt.cons y x ys _ _ (PL x ys)
theorem SP{P:Program}{T:Nat}{zrow:List AV}(hz:Zer P T zrow){inf:TypeInfo}{z:Value}(hi:P.info? T=some inf)(hzr:inf.zero=some z){k:Nat}{u:Value}(hu:u∈Builtin.zeroCells z.cells k):u.oneCell'=true:=by
 obtain⟨zs,h1,_,h2⟩:=hz.eq;obtain⟨i,z',k1,k2,k3⟩:=P0 h1;rw[hi]at k1;injection k1 with k1;subst k1;rw[hzr]at k2;injection k2 with k2;subst k2;rw[k3]at hu;simp only[Builtin.zeroCells,Array.mem_map,Array.mem_range]at hu;obtain⟨i,hi2,rfl⟩:=hu
 have hpos:0<zs.toArray.size:=by
  rcases Nat.eq_zero_or_pos zs.toArray.size with e|e
  ·rw[e]at hi2;simp at hi2
  exact e
 have hlt:i % zs.toArray.size<zs.toArray.size:=Nat.mod_lt _ hpos;rw[getElem!_pos zs.toArray _ hlt];exact List.all_eq_true.1 h2 _ (by simp)
theorem Jp{α:Type}{sz:Nat}:∀{rows:List (List α)},(∀r∈rows,r.length=sz)→rows.flatten.length=rows.length * sz
 |[],_=>by simp
 |r::rs,h=>by
   rw[List.flatten_cons,List.length_append,Jp (fun x hx=>h x (by simp[hx])),h r (by simp),List.length_cons,Nat.add_mul];omega
theorem NW{α:Type}{sz:Nat}:∀{rows:List (List α)} {q k:Nat},(∀r∈rows,r.length=sz)→k<sz→rows.flatten[q * sz+k]?=(rows[q]?).bind (fun r=>r[k]?)
 |[],_,_,_,_=>by simp
 |r::rs,0,k,h,hk=>by
   have:=h r (by simp);rw[List.flatten_cons,Nat.zero_mul,Nat.zero_add,Ca (by omega)];rfl
 |r::rs,q+1,k,h,hk=>by
   have hr:=h r (by simp);rw[List.flatten_cons,DP (by rw[hr,Nat.add_mul];omega),show(q+1) * sz+k - r.length=q * sz+k by rw[hr,Nat.add_mul];omega,NW (fun x hx=>h x (by simp[hx])) hk];rfl
theorem SetAt.left{α:Type}{l xs l':List α}{n:Nat}(h:SetAt l n xs l')(b:List α):SetAt (l++b) n xs (l'++b):=by
 induction h with
 |nil l n=>exact SetAt.nil _ _
 |here a x l xs l' _ ih=>exact SetAt.here a x _ xs _ ih
 |there a x l xs l' n _ ih=>exact SetAt.there a x _ xs _ n ih
theorem SetAt.right{α:Type}{l xs l':List α}{n:Nat}(h:SetAt l n xs l'):∀(a:List α),xs≠[]→SetAt (a++l) (a.length+n) xs (a++l')
 |[],_=>by simpa using h
 |y::ys,hne=>by
   have:=SetAt.right h ys hne
   cases xs with
   |nil=>exact absurd rfl hne
   |cons x xs=>
     rw[show(y::ys).length+n=(ys.length+n)+1 by simp;omega];exact SetAt.there y x _ xs _ _ this
theorem SetAt.whole{α:Type}:∀{xs l b:List α},xs.length=l.length→SetAt (l++b) 0 xs (xs++b)
 |[],[],b,_=>SetAt.nil _ _
 |[],_::_,_,h=>by simp at h
 |_::_,[],_,h=>by simp at h
 |x::xs,y::ys,b,h=>SetAt.here y x _ xs _ (SetAt.whole (by simpa using h))
theorem Ww{α:Type}{sz:Nat}{rows:List (List α)}{q k:Nat}{r r' cs:List α}(h:∀r∈rows,r.length=sz)(hq:rows[q]?=some r)(hs:SetAt r k cs r')(hne:cs≠[]):SetAt rows.flatten (q * sz+k) cs (rows.set q r').flatten:=by
 obtain⟨hlt,e⟩:=Ai.1 hq
 have e1:rows=rows.take q++r::rows.drop (q+1):=by
  rw[←e,←List.drop_eq_getElem_cons hlt,List.take_append_drop]
 have e2:rows.set q r'=rows.take q++r'::rows.drop (q+1):=by rw[List.set_eq_take_append_cons_drop,if_pos hlt]
 have hl:(rows.take q).flatten.length=q * sz:=by
  rw[Jp (sz:=sz) (fun x hx=>h x (List.mem_of_mem_take hx)),List.length_take,Nat.min_eq_left (by omega)]
 have key:=SetAt.right (hs.left (rows.drop (q+1)).flatten) (rows.take q).flatten hne;rw[hl]at key;rw[e2]
 conv=>arg 1;rw[e1]
 simpa using key
theorem PM{G:Gh}{w:World}:∀{xs:List AV} {us:List Value},xs.length=us.length→(∀(i:Nat) (x:AV),xs[i]?=some x→∃u,us[i]?=some u∧rep G w x u)→AY G w xs us
 |[],[],_,_=>by simp only[AY]
 |[],_::_,h,_=>by simp at h
 |_::_,[],h,_=>by simp at h
 |x::xs,u::us,h,hx=>by
   simp only[AY];obtain⟨u',h1,h2⟩:=hx 0 x rfl;simp at h1;subst h1;exact⟨u,us,rfl,h2,PM (by simpa using h) fun i y hy=>by simpa using hx (i+1) y (by simpa using hy)⟩
theorem FlatR.rep{G:Gh}{w:World}{sz:Nat}{rows:List (List AV)}{us:List Value}(h:FlatR G.St w sz rows us)(hs:0<sz):AY G w rows.flatten us:=by
 obtain⟨h1,h2,h3,h4⟩:=h;refine PM (by rw[Jp h2,h1]) fun i x hx=>?_;have hi:i=i / sz * sz+i % sz:=by rw[Nat.mul_comm];exact(Nat.div_add_mod i sz).symm
 have hk:i % sz<sz:=Nat.mod_lt _ hs;rw[hi,NW h2 hk]at hx
 cases hq:rows[i / sz]? with
 |none=>rw[hq]at hx;simp at hx
 |some r=>
   rw[hq]at hx;obtain⟨u,k1,k2⟩:=h4 (i / sz) r (i % sz) x hq hx;rw[←hi]at k1;exact⟨u,k1,Fc _ _ k2⟩
inductive SrcA(h:AH)(sz:Nat):AV→Nat→List AV→Prop
 |sl (rows:List (List AV)) (tok:Option Nat):SrcA h sz (.sl sz rows tok) rows.length rows.flatten
 |bs (i off n cap:Nat) (row:List AV):h.bx[i]?=some row→off+n * sz≤row.length→SrcA h sz (.bs i off sz n cap) n ((row.drop off).take (n * sz))
theorem SrcA.run{h:AH}{sz m:Nat}{y:AV}{cs:List AV}(hs:SrcA h sz y m cs){E:Env}{G:Gh}{w:World}(hr:HRel E G h w){v:Value}(hy:rep G w y v)(hp:0<sz)(hm:0<m):
    ∃ad c us,v= .slice (some ad) m c∧us.length=m * sz∧AY G w cs us∧(∀u∈us,u.oneCell'=true)∧∀j u,us[j]?=some u→w.cell? (ad.add j)=some u:=by
 cases hs with
 |sl rows tok=>
   have k:=FD _ _ hy;simp only[Cl]at k;obtain⟨A,cap,us,e1,e2,e3,e4,e5⟩:=KW k;obtain⟨b,off,rfl,e6⟩:=e5 (fun e=>by rw[e]at hm;simp at hm);exact⟨_,cap,us,e1,e4.1,e4.rep hp,e4.2.2.1,fun j u hj=>by rw[Addr.add_mid];exact e6 j u hj⟩
 |bs i off n cap row hb hf=>
   simp only[Go.Proofs.YtobclmbkdhbnpaaGreatDoor.rep]at hy;obtain⟨b,k1,k2,_,_⟩:=hy;obtain⟨us,T,q1,q2,q3⟩:=hr.boxAt k1 hb;have hlen:=Fx q2;refine⟨_,cap,(us.drop off).take (m * sz),k2,by simp;omega,Mw (Mx q2 off) _,fun u hu=>q3 u (List.mem_of_mem_drop (List.mem_of_mem_take hu)),fun j u hj=>?_⟩;rw[Addr.add_mid];simp only[World.cell?,q1];rw[List.getElem?_take]at hj;split at hj
   ·rw[List.getElem?_drop]at hj
    simpa using hj
   cases hj
section
variable {P:Program}{ev:Operand→Option AV}{h:AH}{R:AV→AH→Prop}{d:Option Tmp}{ty:TypeId}{pos:String}{af:Array Edge}{gd:Option (Nat×Bool)}
theorem NX{G:Gh}{w:World}:∀(us:List Value),AY G w (List.replicate us.length .any) us
 |[]=>by simp only[List.length_nil,List.replicate_zero,AY]
 |u::us=>by simp only[List.length_cons,List.replicate_succ,AY];exact⟨u,us,rfl,by simp only[rep],NX us⟩
theorem Lf{G:Gh}{w:World}:∀{xs ys:List AV} {us vs:List Value},AY G w xs us→AY G w ys vs→AY G w (xs++ys) (us++vs)
 |[],_,_,_,h,k=>by simp only[AY]at h;subst h;simpa using k
 |x::xs,_,_,_,h,k=>by
   simp only[AY]at h;obtain⟨z,zs,rfl,h1,h2⟩:=h;simp only[List.cons_append,AY];exact⟨z,_,rfl,h1,Lf h2 k⟩
theorem HRel.drew{E:Env}{G:Gh}{w:World}(hr:HRel E G h w):HRel E G h w.drew∧Ext G w G w.drew:=by
 have:=hr.grow (w':=w.drew) ⟨rfl,rfl,rfl,Av _,fun _ _=>rfl⟩ (fun _ _=>False) (fun _ _ h=>h.elim)
 simpa using this
theorem Lg{T:TypeId}{s y:Operand}{T' sz bytes i off n cap m:Nat}{row cs:List AV}{av:AV}{zrow:List AV}[hE:Elm P T T' sz bytes][hzr:Zer P T' zrow](hs:ev s=some (.bs i off sz n cap))(hy:ev y=some av)(hb:h.bx[i]?=some row)(hfit:off+cap * sz≤row.length)(hsrc:SrcA h sz av m cs)(hm:0<m)(hsm:n+m≤1000000)
    (room:n+m≤cap→∀row' bx',SetAt row (off+n * sz) cs row'→SetAt h.bx i [row'] bx'→R (.bs i off sz (n+m) cap) ⟨bx',h.tk⟩)
    (grow:cap<n+m→∀cap' k bx',n+m≤cap'→SnocAt h.bx ((row.drop off).take (n * sz)++cs++List.replicate ((cap' - (n+m)) * sz) .any) k bx'→R (.bs k 0 sz (n+m) cap') ⟨bx',h.tk⟩):AStep P ⟨d, .call {callee:= .builtin .append,args:=#[s,y],argTypes:=#[T,T]},ty,pos,af,gd⟩ ev h R:=by
 intro E G w ec hr he;have k1:=he s (by simp[Op.operands,Call.operands]) _ hs;have k2:=he y (by simp[Op.operands,Call.operands]) _ hy;obtain⟨hu,inf,z,hinf,hz,hzs,hsz,hbts,hp⟩:=Ey hE.eq;obtain⟨ad,c,us,e1,e2,e3,e4,e5⟩:=hsrc.run hr k2 hp hm;simp only[rep]at k1;obtain⟨b,k3,k4,k5,k6⟩:=k1;obtain⟨vs,Tb,q1,q2,q3⟩:=hr.boxAt k3 hb;have hlen:=Fx q2;have hvl:=Fx e3;have hi:i<h.bx.length:=(Ai.1 hb).1;by_cases hroom:n+m≤cap
 ·have hfit2:off+n * sz+us.length≤vs.length:=by
     have:n * sz+m * sz≤cap * sz:=by rw[←Nat.add_mul];exact Nat.mul_le_mul_right _ hroom
     omega
  have hrun:=run_append_room_cells (P:=P) w T ty T' inf hu hinf b off n cap ad m c us (by rw[hsz];exact e2) e5 e4 hroom (fun j hj=>by
   have hj2:off+n * sz+j<vs.length:=by omega
   rw[hsz];simp only[World.cell?,q1];simp[hj2]) (fun j hj=>by simp[World.frozen?,q1])
  rw[hsz]at hrun;obtain⟨r1,r2,r3,r4,r5,r6⟩:=My b Tb us (off+n * sz) vs w q1;have hpos:0<m * sz:=Nat.mul_pos hm hp;have hcs:cs≠[]:=fun e=>by rw[e,List.length_nil]at hvl;omega
  have hset:∃row',SetAt row (off+n * sz) cs row':=by
   have hrow:∀k,row=row.take k++((row.drop k).take cs.length++row.drop (k+cs.length)):=fun k=>by
    rw[←List.drop_drop,List.take_append_drop,List.take_append_drop]
   have hl0:(row.take (off+n * sz)).length=off+n * sz:=by rw[List.length_take,Nat.min_eq_left (by omega)]
   have key:=SetAt.right (SetAt.whole (xs:=cs) (l:=(row.drop (off+n * sz)).take cs.length) (b:=row.drop (off+n * sz+cs.length)) (by simp;omega)) (row.take (off+n * sz)) hcs;rw[hl0,Nat.add_zero,←hrow]at key;exact⟨_,key⟩
  obtain⟨row',hset⟩:=hset;obtain⟨m1,_⟩:=hset.rep q2 e3
  obtain⟨t1,t2⟩:=hr.setBox (w':=w.setCells b (off+n * sz) us) (row:=row') k3 r4 r5 r6 r3 r2 ⟨_,Tb,r1,m1,fun u hu=>by
   rcases LT us vs _ u hu with e|e
   ·exact q3 u e
   exact e4 u e⟩
  simp only[execOp,resolve,invoke,builtin,Sem.run_bind,Sem.run_pure,Result.andThen_ok,List.map_toArray,List.map_cons,List.map_nil,k4,e1,hrun];exact⟨_,_,G,room hroom row' (h.bx.set i row') hset (SetAt.put1 hi),t1,t2,by simp only[rep];exact⟨b,k3,rfl,by omega,k6⟩⟩
 have hold:∀j u,((vs.drop off).take (n * sz))[j]?=some u→w.cell? ((⟨b,off,none⟩:Addr).add j)=some u:=by
  intro j u hj;rw[Addr.add_mid];simp only[World.cell?,q1];rw[List.getElem?_take]at hj;split at hj
  ·rw[List.getElem?_drop]at hj;simpa using hj
  cases hj
 have hnf:n * sz≤cap * sz:=Nat.mul_le_mul_right _ k5;have hol:((vs.drop off).take (n * sz)).length=n * sz:=by simp;omega
 have h63:n+m≤maxLen:=by unfold maxLen;omega
 have hby:=hE.few;have hbb:(n+m) * bytes≤1000000 * 100000:=Nat.mul_le_mul hsm hby;have hrun:=run_append_grow (P:=P) w T ty T' inf z hu hinf hz ⟨b,off,none⟩ n cap ((vs.drop off).take (n * sz)) (by rw[hsz];exact hol) hold ad m c us (by rw[hsz];exact e2) e5 (by omega) (by omega) (growslice_fits (by omega) (by rw[hbts];omega));have hge:=grownCap_ge w (n+m) cap T';have hcm:grownCap w (n+m) cap T'≤maxLen:=grownCap_le_maxLen w (n+m) cap T' h63;generalize hgc:grownCap w (n+m) cap T'=cap' at hrun hge hcm;obtain⟨d1,d2⟩:=hr.drew;obtain⟨zs,hzc⟩:∃zs:List Value,Builtin.zeroCells z.cells (cap' - (n+m))=zs.toArray:=⟨(Builtin.zeroCells z.cells (cap' - (n+m))).toList,by simp⟩
 have hzl:zs.length=(cap' - (n+m)) * sz:=by
  have:=size_zeroCells z.cells (cap' - (n+m));rw[hzc,hzs]at this
  simpa using this
 have hone:∀u∈zs,u.oneCell'=true:=by
  intro u hu;have:u∈Builtin.zeroCells z.cells (cap' - (n+m)):=by rw[hzc];simpa using hu
  exact SP hzr hinf hz this
 have hrep:AY G w.drew ((row.drop off).take (n * sz)++cs++List.replicate ((cap' - (n+m)) * sz) .any) ((vs.drop off).take (n * sz)++us++zs):=by
  refine Lf (Lf (Dq d2 _ _ (Mw (Mx q2 off) _)) (Dq d2 _ _ e3)) ?_;rw[←hzl];exact NX zs
 obtain⟨k,bx',hsn⟩:∃k bx',SnocAt h.bx ((row.drop off).take (n * sz)++cs++List.replicate ((cap' - (n+m)) * sz) .any) k bx':=⟨_,_,PL _ _⟩
 obtain⟨G',s1,s2,s3⟩:=LU (T:=T') d1 hrep (by
  intro u hu;rcases List.mem_append.1 hu with hu|hu
  ·rcases List.mem_append.1 hu with hu|hu
   ·exact q3 u (List.mem_of_mem_drop (List.mem_of_mem_take hu))
   exact e4 u hu
  exact hone u hu) hsn
 rw[hzc]at hrun;have hcells:((vs.drop off).take (n * sz)).toArray++us.toArray++zs.toArray=((vs.drop off).take (n * sz)++us++zs).toArray:=by simp
 rw[hcells]at hrun;simp only[rep]at s3;obtain⟨b',s4,s5⟩:=s3;simp only[execOp,resolve,invoke,builtin,Sem.run_bind,Sem.run_pure,Result.andThen_ok,List.map_toArray,List.map_cons,List.map_nil,k4,e1,hrun];refine⟨_,_,G',grow (by omega) cap' k bx' hge hsn,s1,d2.trans s2,?_⟩;simp only[rep];injection s5 with s5;injection s5 with s5;injection s5 with s5;subst s5;exact⟨_,s4,rfl,hge,hcm⟩
end
def Ff(j:Nat):List Nat→Nat→Option Nat
 |[],_=>none
 |i::is,k=>match Nat.beq i j with
   |true=>some k
   |false=>Ff j is (k+1)
theorem PN{j:Nat}:∀{is:List Nat} {k m:Nat},Ff j is k=some m→k≤m∧is[m - k]?=some j
 |[],_,_,h=>by cases h
 |i::is,k,m,h=>by
   unfold Ff at h;split at h
   ·rename_i e;have:=Nat.eq_of_beq_eq_true e;subst this;injection h with h;subst h;exact⟨Av _,by simp⟩
   obtain⟨h1,h2⟩:=PN h;refine⟨by omega,?_⟩;rw[show m - k=(m - (k+1))+1 by omega,List.getElem?_cons_succ];exact h2
mutual
def Eg(f:Nat→Option Nat):AV→AV
 | .v x=> .v x
 | .agg cs=> .agg (DH f cs)
 | .tup cs=> .tup (DH f cs)
 | .sl sz rows _=> .sl sz rows none
 | .fp row=> .fp row
 | .bp j o=>match f j with
   |some k=> .bp k o
   |none=> .any
 | .bs j o sz n cap=>match f j with
   |some k=> .bs k o sz n cap
   |none=> .any
 | .fn g caps=> .fn g (DH f caps)
 | .any=> .any
def DH(f:Nat→Option Nat):List AV→List AV
 |[]=>[]
 |x::xs=>Eg f x::DH f xs
end
section
variable {G G':Gh}{w:World}{f:Nat→Option Nat}(hst:G'.St=G.St)(hf:∀(j k b:Nat),f j=some k→G.bx[j]?=some b→G'.bx[k]?=some b)
include hst hf
mutual
theorem PO:∀(x:AV) (v:Value),rep G w x v→rep G' w (Eg f x) v
 | .v _,_,h=>by simpa only[rep,Eg]using h
 | .agg cs,_,h=>by
   simp only[rep,Eg]at h ⊢;obtain⟨ys,h1,h2⟩:=h;exact⟨ys,h1,Jq cs ys h2⟩
 | .tup cs,_,h=>by
   simp only[rep,Eg]at h ⊢;obtain⟨ys,h1,h2⟩:=h;exact⟨ys,h1,Jq cs ys h2⟩
 | .sl sz rows none,_,h=>by simp only[rep,Eg]at h ⊢;rw[hst];exact h
 | .sl sz rows (some g),_,h=>by simp only[rep,Eg]at h ⊢;rw[hst];exact h.1
 | .fp _,_,h=>by simp only[rep,Eg]at h ⊢;rw[hst];exact h
 | .bp j o,v,h=>by
   simp only[rep]at h;obtain⟨b,h1,h2⟩:=h;simp only[Eg];split
   ·rename_i k e;simp only[rep];exact⟨b,hf j k b e h1,h2⟩
   simp only[rep]
 | .bs j o sz n cap,v,h=>by
   simp only[rep]at h;obtain⟨b,h1,h2⟩:=h;simp only[Eg];split
   ·rename_i k e;simp only[rep];exact⟨b,hf j k b e h1,h2⟩
   simp only[rep]
 | .fn g caps,_,h=>by
   simp only[rep,Eg]at h ⊢;obtain⟨ys,h1,h2⟩:=h;exact⟨ys,h1,Jq caps ys h2⟩
 | .any,_,_=>by simp only[rep,Eg]
theorem Jq:∀(xs:List AV) (vs:List Value),AY G w xs vs→AY G' w (DH f xs) vs
 |[],_,h=>by have _:=hst;have _:=hf;simpa only[AY,DH]using h
 |x::xs,_,h=>by
   simp only[AY,DH]at h ⊢;obtain⟨z,zs,h1,h2,h3⟩:=h;exact⟨z,zs,h1,PO x z h2,Jq xs zs h3⟩
end
end
theorem Wx{w w':World}{base:Nat}{e:TypeId}{size:Nat}{v:Value}{n:Nat}{xs:List Value}(h:w.ownsRow base e size v n xs)(hb:∀b,v.ownBlock=some b→w'.heap[b]?=w.heap[b]?):w'.ownsRow base e size v n xs:=by
 refine⟨h.1,?_⟩;rcases h.2 with h1|⟨g,cap,cur,h1,h2,h3,h4⟩
 ·exact .inl h1
 exact .inr ⟨g,cap,cur,h1,h2,(hb g (by rw[h1];rfl)).trans h3,h4⟩
inductive Hand(bx:List (List AV))(f:Nat→Option Nat):List Nat→List (List AV)→Prop
 |nil:Hand bx f [] []
 |cons (i:Nat) (row row':List AV) (is:List Nat) (rows:List (List AV)):bx[i]?=some row→DH f row=row'→Hand bx f is rows→Hand bx f (i::is) (row'::rows)
theorem Hand.get{bx:List (List AV)}{f:Nat→Option Nat}{is:List Nat}{rows:List (List AV)}(h:Hand bx f is rows):is.length=rows.length∧∀(k i:Nat),is[k]?=some i→∃row,bx[i]?=some row∧rows[k]?=some (DH f row):=by
 induction h with
 |nil=>exact⟨rfl,fun k i hk=>by simp at hk⟩
 |cons i row row' is rows h1 h2 _ ih=>
   refine⟨by simp[ih.1],fun k j hk=>?_⟩;subst h2
   cases k with
   |zero=>simp at hk;subst hk;exact⟨row,h1,rfl⟩
   |succ k=>simpa using ih.2 k j (by simpa using hk)
section
variable {E:Env}{G:Gh}{h:AH}{w:World}
theorem Wy(hr:HRel E G h w){is:List Nat}{bs:List Nat}{rows:List (List AV)}(hnd:is.Nodup)(hbs:bs.length=is.length∧∀(k i:Nat),is[k]?=some i→∃b,G.bx[i]?=some b∧bs[k]?=some b)(hh:Hand h.bx (fun j=>Ff j is 0) is rows):
    HRel ⟨w,bs,G.St⟩ ⟨G.St,bs,[]⟩ ⟨rows,[]⟩ w∧∀(j k b:Nat),Ff j is 0=some k→G.bx[j]?=some b→bs[k]?=some b:=by
 have hmap:∀(j k b:Nat),Ff j is 0=some k→G.bx[j]?=some b→bs[k]?=some b:=fun j k b hk hb=>by
  obtain⟨_,h1⟩:=PN hk;rw[Nat.sub_zero]at h1;obtain⟨b',h2,h3⟩:=hbs.2 k j h1;rw[hb]at h2;injection h2 with h2;subst h2;exact h3
 have hmem:∀b∈bs,b∈G.bx:=fun b hb=>by
  obtain⟨k,hk⟩:=List.getElem?_of_mem hb;have hlt:k<is.length:=by rw[←hbs.1];exact(Ai.1 hk).1
  obtain⟨b',h2,h3⟩:=hbs.2 k is[k] (BM hlt);rw[hk]at h3;injection h3 with h3;subst h3;exact Aj h2
 refine⟨⟨fun _ _ h=>h,⟨rfl,rfl,rfl,Av _,fun _ _ _=>rfl⟩,hr.stlt,fun _ _ h=> .inl h,by rw[hbs.1];exact hh.get.1,?_,fun b hb=>hr.bxst b (hmem b hb),fun b hb=> .inr hb,?_,rfl,by simp,by simp,by simp⟩,hmap⟩
 ·refine List.pairwise_iff_getElem.2 ?_;intro a c ha hc hac e;have ha':a<is.length:=by rw[←hbs.1];exact ha
  have hc':c<is.length:=by rw[←hbs.1];exact hc
  obtain⟨b1,p1,p2⟩:=hbs.2 a is[a] (BM ha');obtain⟨b2,q1,q2⟩:=hbs.2 c is[c] (BM hc');rw[BM ha]at p2;rw[BM hc]at q2;injection p2 with p2;injection q2 with q2;have e':b1=b2:=by rw[←p2,←q2];exact e
  obtain⟨l1,e1⟩:=Ai.1 p1;obtain⟨l2,e2⟩:=Ai.1 q1;have h3:is[a]=is[c]:=(List.getElem_inj hr.bxnd).1 (e1.trans (e'.trans e2.symm));have h4:=(List.getElem_inj hnd).1 h3;omega
 intro k b row hk hrow;have hlt:k<is.length:=by rw[←hbs.1];exact(Ai.1 hk).1
 obtain⟨b',h2,h3⟩:=hbs.2 k is[k] (BM hlt);obtain⟨row',h4,h5⟩:=hh.get.2 k is[k] (BM hlt);simp only at hk hrow;rw[hk]at h3;injection h3 with h3;subst h3;rw[hrow]at h5;injection h5 with h5;subst h5;obtain⟨us,T,q1,q2,q3⟩:=hr.box is[k] b row' h2 h4;exact⟨us,T,q1,Jq (G:=G) (G':=⟨G.St,bs,[]⟩) rfl hmap _ _ q2,q3⟩
end
def E0(is:List Nat)(n:Nat)(j:Nat):Option Nat:=
 match is[j]? with
 |some i=>some i
 |none=>some (n+(j - is.length))
structure Back(bx:List (List AV))(is:List Nat)(bc:List (List AV))(bx':List (List AV)):Prop where
 len:bx'.length=bx.length+(bc.length - is.length)
 old:∀(i:Nat) (row:List AV),i∉is→bx[i]?=some row→bx'[i]?=some row
 ins:∀(k i:Nat) (row:List AV),is[k]?=some i→bc[k]?=some row→bx'[i]?=some (DH (E0 is bx.length) row)
 new:∀(k:Nat) (row:List AV),bc[is.length+k]?=some row→bx'[bx.length+k]?=some (DH (E0 is bx.length) row)
theorem Wz{E:Env}{G:Gh}{h:AH}{w w':World}(hr:HRel E G h w){is bs:List Nat}(hbs:bs.length=is.length∧∀(k i:Nat),is[k]?=some i→∃b,G.bx[i]?=some b∧bs[k]?=some b){Gc:Gh}{bc bx':List (List AV)}
    (hc:HRel ⟨w,bs,G.St⟩ Gc ⟨bc,[]⟩ w') (he:Ext ⟨G.St,bs,[]⟩ w Gc w') (hk:Back h.bx is bc bx'):
    HRel E ⟨Gc.St,G.bx++Gc.bx.drop is.length,G.tk⟩ ⟨bx',h.tk⟩ w'∧Ext G w ⟨Gc.St,G.bx++Gc.bx.drop is.length,G.tk⟩ w'∧∀(j k b:Nat),E0 is h.bx.length j=some k→Gc.bx[j]?=some b→(G.bx++Gc.bx.drop is.length)[k]?=some b:=by
 have hmem:∀b∈bs,b∈G.bx:=fun b hb=>by
  obtain⟨k,hk⟩:=List.getElem?_of_mem hb;have hlt:k<is.length:=by rw[←hbs.1];exact(Ai.1 hk).1
  obtain⟨b',h2,h3⟩:=hbs.2 k is[k] (BM hlt);rw[hk]at h3;injection h3 with h3;subst h3;exact Aj h2
 have hsz:w.heap.size≤w'.heap.size:=hc.kept.size;have hblk:∀k,k<w.heap.size→k∉bs→w'.heap[k]?=w.heap[k]?:=hc.kept.block;have hstc:∀b o,Gc.St b o→b<w.heap.size→G.St b o:=fun b o hs hb=>(hc.stnew b o hs).resolve_right (by simp only;omega);have hpre:∀(k b:Nat),bs[k]?=some b→Gc.bx[k]?=some b:=hc.inpre
 have hlen:is.length≤Gc.bx.length:=by
  rcases Nat.lt_or_ge Gc.bx.length is.length with h1|h1
  ·have h2:Gc.bx.length<bs.length:=by rw[hbs.1];exact h1
   have:=hpre _ _ (BM h2);simp at this
  exact h1
 have hnew:∀b∈Gc.bx.drop is.length,w.heap.size≤b:=fun b hb=>by
  rcases hc.bxown b (List.mem_of_mem_drop hb)with h1|h1
  ·exact h1
  exfalso;obtain⟨k,hk1⟩:=List.getElem?_of_mem h1;have h2:=hpre k b hk1;obtain⟨m,hm⟩:=List.getElem?_of_mem hb;rw[List.getElem?_drop]at hm;obtain⟨l1,e1⟩:=Ai.1 h2;obtain⟨l2,e2⟩:=Ai.1 hm;have h3:=(List.getElem_inj hc.bxnd).1 (e1.trans e2.symm);have h4:k<bs.length:=(Ai.1 hk1).1;rw[hbs.1]at h4;omega
 have hmap:∀(j k b:Nat),E0 is h.bx.length j=some k→Gc.bx[j]?=some b→(G.bx++Gc.bx.drop is.length)[k]?=some b:=by
  intro j k b hj hb;unfold E0 at hj;split at hj
  ·rename_i i hi;injection hj with hj;subst hj;obtain⟨b',h2,h3⟩:=hbs.2 j i hi;have h4:=hpre j b' h3;rw[hb]at h4;injection h4 with h4;subst h4;rw[Ca (Ai.1 h2).1];exact h2
  rename_i hi;injection hj with hj;subst hj;have hge:is.length≤j:=by simpa using hi
  rw[←hr.bxlen,DP (by omega),List.getElem?_drop,show is.length+(G.bx.length+(j - is.length) - G.bx.length)=j by omega];exact hb
 have hext:Ext G w ⟨Gc.St,G.bx++Gc.bx.drop is.length,G.tk⟩ w':=⟨fun b o hs=>he.st b o hs,fun i b hb=>by
  show(G.bx++Gc.bx.drop is.length)[i]?=some b
  rw[Ca (Ai.1 hb).1];exact hb,fun g n u hg=>⟨n,u,hg,Av _,fun _=>rfl⟩⟩
 refine⟨⟨fun i b hb=>hext.bx i b (hr.inpre i b hb),?_,hc.stlt,?_,?_,?_,?_,?_,?_,hr.tklen,?_,?_,hr.tknd⟩,hext,hmap⟩
 ·have k:=hr.kept;have k':=hc.kept;refine⟨k'.os.trans k.os,k'.tape.trans k.tape,k'.output.trans k.output,Nat.le_trans k.size hsz,fun j hj hn=>(hblk j (Nat.lt_of_lt_of_le hj k.size) (fun e=>?_)).trans (k.block j hj hn)⟩;rcases hr.bxown j (hmem j e)with e|e
  ·omega
  exact hn e
 ·intro b' o hs;rcases hc.stnew b' o hs with h1|h1
  ·exact hr.stnew b' o h1
  exact .inr (Nat.le_trans hr.kept.size h1)
 ·have:=hc.bxlen;simp only at this ⊢;rw[List.length_append,List.length_drop,hk.len,hr.bxlen,this]
 ·refine List.nodup_append.2 ⟨hr.bxnd,hc.bxnd.sublist (List.drop_sublist _ _),fun a ha b hb e=>?_⟩;subst e;have:=hr.boxlt ha;have:=hnew a hb;omega
 ·intro b hb o hs;rcases List.mem_append.1 hb with hb|hb
  ·exact hr.bxst b hb o (hstc b o hs (hr.boxlt hb))
  exact hc.bxst b (List.mem_of_mem_drop hb) o hs
 ·intro b hb;rcases List.mem_append.1 hb with hb|hb
  ·exact hr.bxown b hb
  exact .inl (Nat.le_trans hr.kept.size (hnew b hb))
 ·intro i b row hi hrow;simp only at hi hrow;rcases Nat.lt_or_ge i G.bx.length with hlt|hge
  ·rw[Ca hlt]at hi;by_cases hin:i∈is
   ·obtain⟨k,hk1⟩:=List.getElem?_of_mem hin;obtain⟨b',h2,h3⟩:=hbs.2 k i hk1;rw[hi]at h2;injection h2 with h2;subst h2;have h4:=hpre k b h3
    have hkl:k<bc.length:=by
     have:=hc.bxlen;simp only at this;rw[←this];exact(Ai.1 h4).1
    have h5:=hk.ins k i _ hk1 (BM hkl);rw[hrow]at h5;injection h5 with h5;subst h5;obtain⟨us,T,q1,q2,q3⟩:=hc.box k b _ h4 (BM hkl);exact⟨us,T,q1,Jq (G:=Gc) (G':=⟨Gc.St,G.bx++Gc.bx.drop is.length,G.tk⟩) rfl hmap _ _ q2,q3⟩
   have hil:i<h.bx.length:=by rw[←hr.bxlen];exact hlt
   have h5:=hk.old i _ hin (BM hil);rw[hrow]at h5;injection h5 with h5;subst h5;obtain⟨us,T,q1,q2,q3⟩:=hr.box i b _ hi (BM hil);have hb1:=Aj hi;refine⟨us,T,(hblk b (hr.boxlt hb1) (fun e=>hin ?_)).trans q1,Dq hext _ _ q2,q3⟩;obtain⟨k,hk1⟩:=List.getElem?_of_mem e;have hkl:k<is.length:=by rw[←hbs.1];exact(Ai.1 hk1).1
   obtain⟨b',h2,h3⟩:=hbs.2 k is[k] (BM hkl);rw[hk1]at h3;injection h3 with h3;subst h3;obtain⟨l1,e1⟩:=Ai.1 hi;obtain⟨l2,e2⟩:=Ai.1 h2;have:=(List.getElem_inj hr.bxnd).1 (e1.trans e2.symm);rw[this];exact List.getElem_mem hkl
  rw[DP hge,List.getElem?_drop]at hi
  have hkl:is.length+(i - G.bx.length)<bc.length:=by
   have:=hc.bxlen;simp only at this;rw[←this];exact(Ai.1 hi).1
  have h5:=hk.new (i - G.bx.length) _ (BM hkl);rw[←hr.bxlen,show G.bx.length+(i - G.bx.length)=i by omega,hrow]at h5;injection h5 with h5;subst h5;obtain⟨us,T,q1,q2,q3⟩:=hc.box _ b _ hi (BM hkl);have hmap2:∀(j k b:Nat),E0 is G.bx.length j=some k→Gc.bx[j]?=some b→(G.bx++Gc.bx.drop is.length)[k]?=some b:=by rw[hr.bxlen];exact hmap
  exact⟨us,T,q1,Jq (G:=Gc) (G':=⟨Gc.St,G.bx++Gc.bx.drop is.length,G.tk⟩) rfl hmap2 _ _ q2,q3⟩
 ·intro g n u T sz rows hg ht;obtain⟨k1,⟨xs,k2⟩,k3⟩:=hr.tok g n u T sz rows hg ht;refine⟨k1,⟨xs,Wx k2 fun b hb=>hblk b (hr.toklt hg hb).2 fun e=>hr.tkbx g n u hg b hb (hmem b e)⟩,fun b' hb' o ho hs=>?_⟩;exact k3 b' hb' o ho (hstc b' o hs (hr.toklt hg hb').2)
 intro g n u hg b hb hm;rcases List.mem_append.1 hm with hm|hm
 ·exact hr.tkbx g n u hg b hb hm
 have:=(hr.toklt hg hb).2;have:=hnew b hm;omega
inductive ArgsM(f:Nat→Option Nat)(ev:Operand→Option AV):List Operand→List AV→Prop
 |nil:ArgsM f ev [] []
 |cons (o:Operand) (x y:AV) (l:List Operand) (ys:List AV):ev o=some x→LeA (Eg f x) y→ArgsM f ev l ys→ArgsM f ev (o::l) (y::ys)
section
variable {P:Program}{ev:Operand→Option AV}{bx:List (List AV)}{tk:List Cb}{R:AV→AH→Prop}{d:Option Tmp}{ty:TypeId}{pos:String}{af:Array Edge}{gd:Option (Nat×Bool)}{ats:Array TypeId}
theorem DJ{f:FuncId}{l:List Operand}{ys:List AV}{rows:List (List AV)}{R0:AV→List (List AV)→List Cb→Prop}(is:List Nat)[Fun P f](hfo:ev (.func f)=some (.fn f []))(ha:ArgsM (fun j=>Ff j is 0) ev l ys)(hnd:is.Nodup)(hh:Hand bx (fun j=>Ff j is 0) is rows)(hc:ACall P f ys rows R0)
    (hR:∀r bc tc,R0 r bc tc→tc=[]∧∃bx',Back bx is bc bx'∧R (Eg (E0 is bx.length) r) ⟨bx',tk⟩):AStep P ⟨d, .call {callee:= .value (.func f),args:=l.toArray,argTypes:=ats},ty,pos,af,gd⟩ ev ⟨bx,tk⟩ R:=by
 intro E G w ec hr he;obtain⟨cs,k1,k2⟩:=Jn (he (.func f) (by simp[Op.operands,Call.operands]) _ hfo);simp only[AY]at k2;subst k2
 obtain⟨bs,hbs⟩:∃bs:List Nat,bs.length=is.length∧∀(k i:Nat),is[k]?=some i→∃b,G.bx[i]?=some b∧bs[k]?=some b:=by
  refine⟨is.map fun i=>(G.bx[i]?).getD 0,by simp,fun k i hk=>?_⟩;obtain⟨row,h1,_⟩:=hh.get.2 k i hk;have hlt:i<G.bx.length:=by rw[hr.bxlen];exact(Ai.1 h1).1
  exact⟨G.bx[i],BM hlt,by rw[List.getElem?_map,hk];simp[hlt]⟩
 obtain⟨s1,s2⟩:=Wy hr hnd hbs hh;refine Jm k1 ?_;rw[List.append_nil]
 have hargs:∀{l:List Operand} {ys:List AV},ArgsM (fun j=>Ff j is 0) ev l ys→(∀x∈l,∀av,ev x=some av→rep G w av (ec x))→AY ⟨G.St,bs,[]⟩ w ys (l.map ec):=by
  intro l ys h
  induction h with
  |nil=>intro _;simp only[List.map_nil,AY]
  |cons o x y l ys h1 h2 _ ih=>
    intro he;simp only[List.map_cons,AY];exact⟨_,_,rfl,h2 _ _ _ (PO (G:=G) (G':=⟨G.St,bs,[]⟩) rfl s2 _ _ (he o (by simp) _ h1)),ih fun x hx=>he x (by simp[hx])⟩
 refine Calls.mono (hc w G.St bs _ s1 (hargs ha fun x hx av hav=>he x (by simp[Op.operands,Call.operands,hx]) av hav)) ?_;intro e w' h3
 cases e with
 |returned v=>
   obtain⟨r,bc,tc,Gc,hR0,h1,h2,h3⟩:=h3;obtain⟨rfl,bx',q1,q2⟩:=hR r bc tc hR0;obtain⟨m1,m2,m3⟩:=Wz hr hbs h1 h2 q1;exact⟨_,_,_,q2,m1,m2,PO (G:=Gc) (G':=⟨Gc.St,G.bx++Gc.bx.drop is.length,G.tk⟩) rfl m3 _ _ h3⟩
 |panicked c=>exact h3.elim
 |outgrown=>exact h3.elim
end
def He(sz:Nat):Nat→List AV→List (List AV)
 |0,_=>[]
 |n+1,row=>row.take sz::He sz n (row.drop sz)
theorem PP(sz:Nat):∀(n:Nat) (row:List AV),(He sz n row).length=n
 |0,_=>rfl
 |n+1,row=>by simp[He,PP sz n]
theorem SQ{sz:Nat}{sp:List AV}:∀{rows:List (List AV)},(∀r∈rows,r.length=sz)→He sz rows.length (rows.flatten++sp)=rows
 |[],_=>rfl
 |r::rs,h=>by
   have hr:=h r (by simp);rw[List.length_cons,He,List.flatten_cons,List.append_assoc,List.take_left' hr,List.drop_left' hr,SQ (fun x hx=>h x (by simp[hx]))]
theorem X0{St:Nat→Nat→Prop}{w:World}{b:Nat}{xs:List AV}{off:Nat}(h:Cu St w b xs off)(k:Nat):Cu St w b (xs.take k) off:=
 KR fun i x hi=>LO h (by
  rw[List.getElem?_take]at hi;split at hi
  ·exact hi
  cases hi)
theorem SR{St:Nat→Nat→Prop}{w:World}{b sz:Nat}:∀{n:Nat} {row:List AV} {off:Nat},Cu St w b row off→n * sz≤row.length→froR St w b sz (He sz n row) off
 |0,_,_,_,_=>by simp only[He,froR]
 |n+1,row,off,h,hl=>by
   rw[Nat.add_mul]at hl;simp only[He,froR];exact⟨⟨by rw[List.length_take];omega,X0 h sz⟩,SR (LP h sz) (by rw[List.length_drop];omega)⟩
mutual
def Dj(g:Nat→Option (List AV)):AV→AV
 | .v x=> .v x
 | .agg cs=> .agg (G5 g cs)
 | .tup cs=> .tup (G5 g cs)
 | .sl sz rows _=> .sl sz rows none
 | .fp row=> .fp row
 | .bp j o=>match g j with
   |some row=> .fp (row.drop o)
   |none=> .any
 | .bs j o sz n _=>match g j with
   |some row=>match Nat.ble (o+n * sz) row.length with
     |true=> .sl sz (He sz n (row.drop o)) none
     |false=> .any
   |none=> .any
 | .fn f caps=> .fn f (G5 g caps)
 | .any=> .any
def G5(g:Nat→Option (List AV)):List AV→List AV
 |[]=>[]
 |x::xs=>Dj g x::G5 g xs
end
def PQ(G:Gh)(w:World)(S:Nat→Nat→Prop)(g:Nat→Option (List AV)):Prop:=∀(j:Nat) (row:List AV) (b:Nat),g j=some row→G.bx[j]?=some b→Cu S w b row 0
section
variable {G:Gh}{w:World}{S:Nat→Nat→Prop}{g:Nat→Option (List AV)}(hS:∀b o,G.St b o→S b o∧w.cell? ⟨b,o,none⟩=w.cell? ⟨b,o,none⟩)(hg:PQ G w S g)
include hS hg
mutual
theorem NY:∀(x:AV) (v:Value),rep G w x v→Ak S w (Dj g x) v
 | .v _,_,k=>by simpa only[rep,Ak,Dj]using k
 | .agg cs,_,k=>by
   simp only[rep,Ak,Dj]at k ⊢;obtain⟨ys,h1,h2⟩:=k;exact⟨ys,h1,Lh cs ys h2⟩
 | .tup cs,_,k=>by
   simp only[rep,Ak,Dj]at k ⊢;obtain⟨ys,h1,h2⟩:=k;exact⟨ys,h1,Lh cs ys h2⟩
 | .sl sz rows none,_,k=>by simp only[rep,Dj]at k ⊢;exact Fw hS _ _ k
 | .sl sz rows (some g),_,k=>by simp only[rep,Dj]at k ⊢;exact Fw hS _ _ k.1
 | .fp row,_,k=>by
   simp only[rep,Ak,Dj]at k ⊢;obtain⟨b,off,h1,h2⟩:=k;exact⟨b,off,h1,KQ hS _ _ _ h2⟩
 | .bp j o,v,k=>by
   simp only[rep]at k;obtain⟨b,h1,h2⟩:=k;simp only[Dj];split
   ·rename_i row e;simp only[Ak];have:=LP (hg j row b e h1) o;rw[Nat.zero_add]at this;exact⟨b,o,h2,this⟩
   simp only[Ak]
 | .bs j o sz n cap,v,k=>by
   simp only[rep]at k;obtain⟨b,h1,h2,h3,h4⟩:=k;simp only[Dj];split
   ·rename_i row e;split
    ·rename_i hl;have hl':=B6 hl;simp only[Ak];have:=LP (hg j row b e h1) o;rw[Nat.zero_add]at this;refine⟨trivial,some ⟨b,o,none⟩,cap,by rw[PP];exact h2,by rw[PP];exact h3,h4, .inr ⟨b,o,rfl,SR this (by rw[List.length_drop];omega)⟩⟩
    simp only[Ak]
   simp only[Ak]
 | .fn f caps,_,k=>by
   simp only[rep,Ak,Dj]at k ⊢;obtain⟨ys,h1,h2⟩:=k;exact⟨ys,h1,Lh caps ys h2⟩
 | .any,_,_=>by simp only[Ak,Dj]
theorem Lh:∀(xs:List AV) (vs:List Value),AY G w xs vs→Bc S w (G5 g xs) vs
 |[],_,k=>by have _:=hS;have _:=hg;simpa only[AY,Bc,G5]using k
 |x::xs,_,k=>by
   simp only[AY,Bc,G5]at k ⊢;obtain⟨z,zs,h1,h2,h3⟩:=k;exact⟨z,zs,h1,NY x z h2,Lh xs zs h3⟩
end
end
def DV(n:Nat)(bx:List (List AV)):Nat→Nat→Option (List AV)
 |0,_=>none
 |k+1,j=>match Nat.blt j n with
   |true=>none
   |false=>(bx[j]?).map (G5 (DV n bx k))
def FG(G:Gh)(n:Nat)(b o:Nat):Prop:=G.St b o∨b∈G.bx.drop n
theorem Jr{G:Gh}{w:World}(n:Nat):∀b o,G.St b o→FG G n b o∧w.cell? ⟨b,o,none⟩=w.cell? ⟨b,o,none⟩:=fun _ _ h=>⟨.inl h,rfl⟩
theorem NZ{E:Env}{G:Gh}{h:AH}{w:World}(hr:HRel E G h w)(n:Nat):∀k,PQ G w (FG G n) (DV n h.bx k)
 |0=>fun j row b hj _=>by cases hj
 |k+1=>fun j row b hj hb=>by
   unfold DV at hj;split at hj
   ·cases hj
   rename_i hlt
   have hge:n≤j:=by
    rcases Nat.lt_or_ge j n with h1|h1
    ·exfalso;have:Nat.blt j n=true:=by rw[Nat.blt_eq];exact h1
     rw[this]at hlt;cases hlt
    exact h1
   obtain⟨row0,h1,rfl⟩:=Option.map_eq_some_iff.1 hj;obtain⟨us,T,q1,q2,q3⟩:=hr.box j b row0 hb h1
   have hmem:b∈G.bx.drop n:=by
    refine Aj (i:=j - n) ?_;rw[List.getElem?_drop,show n+(j - n)=j by omega];exact hb
   refine SF (fun o=> .inr hmem) (Lh (Jr n) (NZ hr n k) _ _ q2) q3 fun i u hi=>?_;rw[Nat.zero_add];simp only[World.cell?,q1]
   simpa using hi
mutual
def Eh(n:Nat)(g:Nat→Option (List AV)):AV→AV
 | .v x=> .v x
 | .agg cs=> .agg (Fg n g cs)
 | .tup cs=> .tup (Fg n g cs)
 | .sl sz rows tok=> .sl sz rows tok
 | .fp row=> .fp row
 | .bp j o=>match Nat.blt j n with
   |true=> .bp j o
   |false=>Dj g (.bp j o)
 | .bs j o sz m cap=>match Nat.blt j n with
   |true=> .bs j o sz m cap
   |false=>Dj g (.bs j o sz m cap)
 | .fn f caps=> .fn f (Fg n g caps)
 | .any=> .any
def Fg(n:Nat)(g:Nat→Option (List AV)):List AV→List AV
 |[]=>[]
 |x::xs=>Eh n g x::Fg n g xs
end
section
variable {G:Gh}{w:World}{n:Nat}{g:Nat→Option (List AV)}(hg:PQ G w (FG G n) g)
include hg
mutual
theorem SS:∀(x:AV) (v:Value),rep G w x v→rep ⟨FG G n,G.bx.take n,G.tk⟩ w (Eh n g x) v
 | .v _,_,k=>by simpa only[rep,Eh]using k
 | .agg cs,_,k=>by
   simp only[rep,Eh]at k ⊢;obtain⟨ys,h1,h2⟩:=k;exact⟨ys,h1,Li cs ys h2⟩
 | .tup cs,_,k=>by
   simp only[rep,Eh]at k ⊢;obtain⟨ys,h1,h2⟩:=k;exact⟨ys,h1,Li cs ys h2⟩
 | .sl sz rows none,_,k=>by simp only[rep,Eh]at k ⊢;exact Fw (Jr n) _ _ k
 | .sl sz rows (some g),_,k=>by simp only[rep,Eh]at k ⊢;exact⟨Fw (Jr n) _ _ k.1,k.2⟩
 | .fp row,_,k=>by
   simp only[rep,Eh]at k ⊢;obtain⟨b,off,h1,h2⟩:=k;exact⟨b,off,h1,KQ (Jr n) _ _ _ h2⟩
 | .bp j o,v,k=>by
   simp only[Eh];split
   ·rename_i hlt;simp only[rep]at k ⊢;obtain⟨b,h1,h2⟩:=k;refine⟨b,?_,h2⟩;rw[Nat.blt_eq]at hlt;rw[List.getElem?_take,if_pos hlt];exact h1
   exact Fc (G:=⟨FG G n,G.bx.take n,G.tk⟩) _ _ (NY (Jr n) hg _ _ k)
 | .bs j o sz m cap,v,k=>by
   simp only[Eh];split
   ·rename_i hlt;simp only[rep]at k ⊢;obtain⟨b,h1,h2⟩:=k;refine⟨b,?_,h2⟩;rw[Nat.blt_eq]at hlt;rw[List.getElem?_take,if_pos hlt];exact h1
   exact Fc (G:=⟨FG G n,G.bx.take n,G.tk⟩) _ _ (NY (Jr n) hg _ _ k)
 | .fn f caps,_,k=>by
   simp only[rep,Eh]at k ⊢;obtain⟨ys,h1,h2⟩:=k;exact⟨ys,h1,Li caps ys h2⟩
 | .any,_,_=>by simp only[rep,Eh]
theorem Li:∀(xs:List AV) (vs:List Value),AY G w xs vs→AY ⟨FG G n,G.bx.take n,G.tk⟩ w (Fg n g xs) vs
 |[],_,k=>by have _:=hg;simpa only[AY,Fg]using k
 |x::xs,_,k=>by
   simp only[AY,Fg]at k ⊢;obtain⟨z,zs,h1,h2,h3⟩:=k;exact⟨z,zs,h1,SS x z h2,Li xs zs h3⟩
end
end
theorem HRel.freeze{E:Env}{G:Gh}{h:AH}{w:World}(hr:HRel E G h w)(n k:Nat)(hn:E.ins.length≤n):HRel E ⟨FG G n,G.bx.take n,G.tk⟩ ⟨(h.bx.take n).map (Fg n (DV n h.bx k)),h.tk⟩ w:=by
 have hdis:∀b,b∈G.bx.take n→b∉G.bx.drop n:=fun b h1 h2=>by
  have:=hr.bxnd;rw[←List.take_append_drop n G.bx]at this;exact(List.nodup_append.1 this).2.2 b h1 b h2 rfl
 refine⟨fun i b hi=>by rw[List.getElem?_take,if_pos (Nat.lt_of_lt_of_le (Ai.1 hi).1 hn)];exact hr.inpre i b hi,hr.kept,?_,?_,by simp[hr.bxlen],List.Nodup.sublist (List.take_sublist n G.bx) hr.bxnd,?_,fun b hb=>hr.bxown b (List.mem_of_mem_take hb),?_,hr.tklen,?_,fun g n' u hg b hb hm=>hr.tkbx g n' u hg b hb (List.mem_of_mem_take hm),hr.tknd⟩
 ·rintro b o (hs|hs)
  ·exact hr.stlt b o hs
  exact hr.boxlt (List.mem_of_mem_drop hs)
 ·rintro b o (hs|hs)
  ·exact hr.stnew b o hs
  rcases hr.bxown b (List.mem_of_mem_drop hs)with h1|h1
  ·exact .inr h1
  exfalso;obtain⟨i,hi⟩:=List.getElem?_of_mem h1;have h2:=hr.inpre i b hi;have h3:i<E.ins.length:=(Ai.1 hi).1;refine hdis b (Aj (i:=i) ?_) hs;rw[List.getElem?_take,if_pos (by omega)];exact h2
 ·rintro b hb o (hs|hs)
  ·exact hr.bxst b (List.mem_of_mem_take hb) o hs
  exact hdis b hb hs
 ·intro i b row hi hrow;simp only at hi hrow;rw[List.getElem?_map]at hrow;obtain⟨row0,h1,rfl⟩:=Option.map_eq_some_iff.1 hrow;rw[List.getElem?_take]at hi h1;split at hi
  ·rename_i hlt;rw[if_pos hlt]at h1;obtain⟨us,T,q1,q2,q3⟩:=hr.box i b row0 hi h1;exact⟨us,T,q1,Li (NZ hr n k) _ _ q2,q3⟩
  cases hi
 intro g n' u T sz rows hg ht;obtain⟨k1,k2,k3⟩:=hr.tok g n' u T sz rows hg ht;refine⟨k1,k2,fun b hb o ho=>?_⟩;rintro(hs|hs)
 ·exact k3 b hb o ho hs
 exact hr.tkbx g n' u hg b hb (List.mem_of_mem_drop hs)
inductive SubF(n:Nat)(g:Nat→Option (List AV))(f:Nat→Option AV):List (Nat×AV)→Prop
 |nil:SubF n g f []
 |cons (t:Nat) (x y:AV) (l:List (Nat×AV)):f t=some x→LeA (Eh n g x) y→SubF n g f l→SubF n g f ((t,y)::l)
theorem F3{f:Nat→Option AV}{bx bx':List (List AV)}{tk:List Cb}{l:List (Nat×AV)}{N:Dim}(n k:Nat)(hn:Nat.ble N.ni n=true)(hb:(bx.take n).map (Fg n (DV n bx k))=bx')(hl:SubF n (DV n bx k) f l):Weak N ⟨f,⟨bx,tk⟩⟩ ⟨look l,⟨bx',tk⟩⟩:=by
 rintro E a w ⟨G,h1,h2,h3,h4,h5⟩;subst hb;refine⟨_,h1.freeze n k (by rw[h5];exact B6 hn),?_,h3,h4,h5⟩;intro t x hx
 have key:∀{l:List (Nat×AV)},SubF n (DV n bx k) f l→look l t=some x→rep ⟨FG G n,G.bx.take n,G.tk⟩ w x (a.tmps.getD t undef):=by
  intro l hl
  induction hl with
  |nil=>intro h;cases h
  |cons t' x' y l e1 e2 _ ih=>
    intro h;rw[←J6,Fz]at h;split at h
    ·rename_i e;subst e;injection h with h;subst h;exact e2 _ _ _ (SS (NZ h1 n k) _ _ (h2 t' x' e1))
    exact ih h
 exact key hl hx
inductive ArgsR(g:Nat→Option (List AV))(ev:Operand→Option AV):List Operand→List AV→Prop
 |nil:ArgsR g ev [] []
 |cons (o:Operand) (x y:AV) (l:List Operand) (ys:List AV):ev o=some x→LeA (Dj g x) y→ArgsR g ev l ys→ArgsR g ev (o::l) (y::ys)
section
variable {P:Program}{ev:Operand→Option AV}{bx:List (List AV)}{tk:List Cb}{R:AV→AH→Prop}{d:Option Tmp}{ty:TypeId}{pos:String}{af:Array Edge}{gd:Option (Nat×Bool)}{ats:Array TypeId}
theorem ET{f:FuncId}{l:List Operand}{ys:List AV}{R0:AV→Prop}(k:Nat)[Fun P f](hfo:ev (.func f)=some (.fn f []))(ha:ArgsR (DV 0 bx k) ev l ys)(hc:AFn P f ys R0)(hR:∀r,R0 r→GK r=true∧R r ⟨bx,tk⟩):AStep P ⟨d, .call {callee:= .value (.func f),args:=l.toArray,argTypes:=ats},ty,pos,af,gd⟩ ev ⟨bx,tk⟩ R:=by
 intro E G w ec hr he;obtain⟨cs,k1,k2⟩:=Jn (he (.func f) (by simp[Op.operands,Call.operands]) _ hfo);simp only[AY]at k2;subst k2;refine Jm k1 ?_;rw[List.append_nil]
 have hst:HRel ⟨w,[],FG G 0⟩ ⟨FG G 0,[],[]⟩ ⟨[],[]⟩ w:=by
  refine⟨by simp,⟨rfl,rfl,rfl,Av _,fun _ _ _=>rfl⟩,?_,fun _ _ h=> .inl h,rfl,by simp,by simp,by simp,by simp,rfl,by simp,by simp,by simp⟩;rintro b o (hs|hs)
  ·exact hr.stlt b o hs
  exact hr.boxlt (List.mem_of_mem_drop hs)
 have hargs:∀{l:List Operand} {ys:List AV},ArgsR (DV 0 bx k) ev l ys→(∀x∈l,∀av,ev x=some av→rep G w av (ec x))→AY ⟨FG G 0,[],[]⟩ w ys (l.map ec):=by
  intro l ys h
  induction h with
  |nil=>intro _;simp only[List.map_nil,AY]
  |cons o x y l ys h1 h2 _ ih=>
    intro he;simp only[List.map_cons,AY];exact⟨_,_,rfl,h2 _ _ _ (Fc (G:=⟨FG G 0,[],[]⟩) _ _ (NY (Jr 0) (NZ hr 0 k) _ _ (he o (by simp) _ h1))),ih fun x hx=>he x (by simp[hx])⟩
 refine Calls.mono (hc w (FG G 0) [] _ hst (hargs ha fun x hx av hav=>he x (by simp[Op.operands,Call.operands,hx]) av hav)) ?_;intro e w' h3
 cases e with
 |returned v=>
   obtain⟨r,bx',tk',Gc,⟨rfl,rfl,hR0⟩,h1,h2,h3⟩:=h3;obtain⟨q1,q2⟩:=hR r hR0;have hk:=h1.kept;obtain⟨m1,m2⟩:=hr.below (w':=w') ⟨hk.os,hk.tape,hk.output,hk.size,fun k hk'=>hk.block k hk' (by simp)⟩;exact⟨r,_,G,q2,m1,m2,SG _ _ q1 h3⟩
 |panicked c=>exact h3.elim
 |outgrown=>exact h3.elim
end
mutual
def F4(f:Nat→Option Nat):AV→AV
 | .v x=> .v x
 | .agg cs=> .agg (FH f cs)
 | .tup cs=> .tup (FH f cs)
 | .sl sz rows tok=> .sl sz rows tok
 | .fp row=> .fp row
 | .bp j o=>match f j with
   |some k=> .bp k o
   |none=> .any
 | .bs j o sz n cap=>match f j with
   |some k=> .bs k o sz n cap
   |none=> .any
 | .fn g caps=> .fn g (FH f caps)
 | .any=> .any
def FH(f:Nat→Option Nat):List AV→List AV
 |[]=>[]
 |x::xs=>F4 f x::FH f xs
end
section
variable {G:Gh}{w:World}{bs:List Nat}{f:Nat→Option Nat}(hf:∀(j k b:Nat),f j=some k→G.bx[j]?=some b→bs[k]?=some b)
include hf
mutual
theorem ST:∀(x:AV) (v:Value),rep G w x v→rep ⟨G.St,bs,G.tk⟩ w (F4 f x) v
 | .v _,_,h=>by simpa only[rep,F4]using h
 | .agg cs,_,h=>by
   simp only[rep,F4]at h ⊢;obtain⟨ys,h1,h2⟩:=h;exact⟨ys,h1,Lj cs ys h2⟩
 | .tup cs,_,h=>by
   simp only[rep,F4]at h ⊢;obtain⟨ys,h1,h2⟩:=h;exact⟨ys,h1,Lj cs ys h2⟩
 | .sl sz rows none,_,h=>by simpa only[rep,F4]using h
 | .sl sz rows (some g),_,h=>by simpa only[rep,F4]using h
 | .fp _,_,h=>by simpa only[rep,F4]using h
 | .bp j o,v,h=>by
   simp only[rep]at h;obtain⟨b,h1,h2⟩:=h;simp only[F4];split
   ·rename_i k e;simp only[rep];exact⟨b,hf j k b e h1,h2⟩
   simp only[rep]
 | .bs j o sz n cap,v,h=>by
   simp only[rep]at h;obtain⟨b,h1,h2⟩:=h;simp only[F4];split
   ·rename_i k e;simp only[rep];exact⟨b,hf j k b e h1,h2⟩
   simp only[rep]
 | .fn g caps,_,h=>by
   simp only[rep,F4]at h ⊢;obtain⟨ys,h1,h2⟩:=h;exact⟨ys,h1,Lj caps ys h2⟩
 | .any,_,_=>by simp only[rep,F4]
theorem Lj:∀(xs:List AV) (vs:List Value),AY G w xs vs→AY ⟨G.St,bs,G.tk⟩ w (FH f xs) vs
 |[],_,h=>by have _:=hf;simpa only[AY,FH]using h
 |x::xs,_,h=>by
   simp only[AY,FH]at h ⊢;obtain⟨z,zs,h1,h2,h3⟩:=h;exact⟨z,zs,h1,ST x z h2,Lj xs zs h3⟩
end
end
inductive HandK(bx:List (List AV))(f:Nat→Option Nat):List Nat→List (List AV)→Prop
 |nil:HandK bx f [] []
 |cons (i:Nat) (row row':List AV) (is:List Nat) (rows:List (List AV)):bx[i]?=some row→FH f row=row'→HandK bx f is rows→HandK bx f (i::is) (row'::rows)
theorem HandK.get{bx:List (List AV)}{f:Nat→Option Nat}{is:List Nat}{rows:List (List AV)}(h:HandK bx f is rows):is.length=rows.length∧∀(k i:Nat),is[k]?=some i→∃row,bx[i]?=some row∧rows[k]?=some (FH f row):=by
 induction h with
 |nil=>exact⟨rfl,fun k i hk=>by simp at hk⟩
 |cons i row row' is rows h1 h2 _ ih=>
   refine⟨by simp[ih.1],fun k j hk=>?_⟩;subst h2
   cases k with
   |zero=>simp at hk;subst hk;exact⟨row,h1,rfl⟩
   |succ k=>simpa using ih.2 k j (by simpa using hk)
inductive SubK(g:Nat→Option Nat)(f:Nat→Option AV):List (Nat×AV)→Prop
 |nil:SubK g f []
 |cons (t:Nat) (x y:AV) (l:List (Nat×AV)):f t=some x→LeA (F4 g x) y→SubK g f l→SubK g f ((t,y)::l)
theorem EU{f:Nat→Option AV}{bx rows:List (List AV)}{tk:List Cb}{l:List (Nat×AV)}{N:Dim}(is:List Nat)(hn:∀i,i<N.ni→is[i]?=some i)(hnd:is.Nodup)(hh:HandK bx (fun j=>Ff j is 0) is rows)(hl:SubK (fun j=>Ff j is 0) f l):Weak N ⟨f,⟨bx,tk⟩⟩ ⟨look l,⟨rows,tk⟩⟩:=by
 rintro E a w ⟨G,hr,h2,h3,h4,h5⟩
 obtain⟨bs,hbs⟩:∃bs:List Nat,bs.length=is.length∧∀(k i:Nat),is[k]?=some i→∃b,G.bx[i]?=some b∧bs[k]?=some b:=by
  refine⟨is.map fun i=>(G.bx[i]?).getD 0,by simp,fun k i hk=>?_⟩;obtain⟨row,h1,_⟩:=hh.get.2 k i hk;have hlt:i<G.bx.length:=by rw[hr.bxlen];exact(Ai.1 h1).1
  exact⟨G.bx[i],BM hlt,by rw[List.getElem?_map,hk];simp[hlt]⟩
 have hmap:∀(j k b:Nat),Ff j is 0=some k→G.bx[j]?=some b→bs[k]?=some b:=fun j k b hk hb=>by
  obtain⟨_,h1⟩:=PN hk;rw[Nat.sub_zero]at h1;obtain⟨b',h2,h3⟩:=hbs.2 k j h1;rw[hb]at h2;injection h2 with h2;subst h2;exact h3
 have hmem:∀b∈bs,b∈G.bx:=fun b hb=>by
  obtain⟨k,hk⟩:=List.getElem?_of_mem hb;have hlt:k<is.length:=by rw[←hbs.1];exact(Ai.1 hk).1
  obtain⟨b',h2,h3⟩:=hbs.2 k is[k] (BM hlt);rw[hk]at h3;injection h3 with h3;subst h3;exact Aj h2
 refine⟨⟨G.St,bs,G.tk⟩,⟨?_,hr.kept,hr.stlt,hr.stnew,by rw[hbs.1];exact hh.get.1,?_,fun b hb=>hr.bxst b (hmem b hb),fun b hb=>hr.bxown b (hmem b hb),?_,hr.tklen,hr.tok,fun g n u hg b hb hm=>hr.tkbx g n u hg b hb (hmem b hm),hr.tknd⟩,?_,h3,h4,h5⟩
 ·intro i b hi;have hlt:i<N.ni:=by rw[←h5];exact(Ai.1 hi).1
  obtain⟨b',q1,q2⟩:=hbs.2 i i (hn i hlt);have:=hr.inpre i b hi;rw[this]at q1;injection q1 with q1;subst q1;exact q2
 ·refine List.pairwise_iff_getElem.2 ?_;intro a c ha hc hac e;have ha':a<is.length:=by rw[←hbs.1];exact ha
  have hc':c<is.length:=by rw[←hbs.1];exact hc
  obtain⟨b1,p1,p2⟩:=hbs.2 a is[a] (BM ha');obtain⟨b2,q1,q2⟩:=hbs.2 c is[c] (BM hc');rw[BM ha]at p2;rw[BM hc]at q2;injection p2 with p2;injection q2 with q2;have e':b1=b2:=by rw[←p2,←q2];exact e
  obtain⟨l1,e1⟩:=Ai.1 p1;obtain⟨l2,e2⟩:=Ai.1 q1;have h3:is[a]=is[c]:=(List.getElem_inj hr.bxnd).1 (e1.trans (e'.trans e2.symm));have h4:=(List.getElem_inj hnd).1 h3;omega
 ·intro k b row hk hrow;have hlt:k<is.length:=by rw[←hbs.1];exact(Ai.1 hk).1
  obtain⟨b',h2,h3⟩:=hbs.2 k is[k] (BM hlt);obtain⟨row',h4,h5⟩:=hh.get.2 k is[k] (BM hlt);simp only at hk hrow;rw[hk]at h3;injection h3 with h3;subst h3;rw[hrow]at h5;injection h5 with h5;subst h5;obtain⟨us,T,q1,q2,q3⟩:=hr.box is[k] b row' h2 h4;exact⟨us,T,q1,Lj hmap _ _ q2,q3⟩
 intro t x hx
 have key:∀{l:List (Nat×AV)},SubK (fun j=>Ff j is 0) f l→look l t=some x→rep ⟨G.St,bs,G.tk⟩ w x (a.tmps.getD t undef):=by
  intro l hl
  induction hl with
  |nil=>intro h;cases h
  |cons t' x' y l e1 e2 _ ih=>
    intro h;rw[←J6,Fz]at h;split at h
    ·rename_i e;subst e;injection h with h;subst h;exact e2 _ _ _ (ST hmap _ _ (h2 t' x' e1))
    exact ih h
 exact key hl hx
section
variable {P:Program}{ev:Operand→Option AV}{h:AH}{R:AV→AH→Prop}{d:Option Tmp}{ty:TypeId}{pos:String}{af:Array Edge}{gd:Option (Nat×Bool)}
theorem Na{T:TypeId}{s y:Operand}{T' sz bytes m:Nat}{cs:List AV}{av:AV}{zrow:List AV}[hE:Elm P T T' sz bytes][hzr:Zer P T' zrow](hs:ev s=some (.v (.slice none 0 0)))(hy:ev y=some av)(hsrc:SrcA h sz av m cs)(hm:0<m)(hsm:m≤1000000)
    (grow:∀cap' k bx',m≤cap'→SnocAt h.bx (cs++List.replicate ((cap' - m) * sz) .any) k bx'→R (.bs k 0 sz m cap') ⟨bx',h.tk⟩):AStep P ⟨d, .call {callee:= .builtin .append,args:=#[s,y],argTypes:=#[T,T]},ty,pos,af,gd⟩ ev h R:=by
 intro E G w ec hr he;have k1:=he s (by simp[Op.operands,Call.operands]) _ hs;have k2:=he y (by simp[Op.operands,Call.operands]) _ hy;obtain⟨hu,inf,z,hinf,hz,hzs,hsz,hbts,hp⟩:=Ey hE.eq;obtain⟨ad,c,us,e1,e2,e3,e4,e5⟩:=hsrc.run hr k2 hp hm;simp only[rep]at k1;have hby:=hE.few;have hbb:m * bytes≤1000000 * 100000:=Nat.mul_le_mul hsm hby;have h63:m≤maxLen:=by unfold maxLen;omega
 have hrun:=run_append_nil (P:=P) w T ty T' inf z hu hinf hz ad m c us (by rw[hsz];exact e2) e5 hm (by omega) (by rw[hbts];omega);have hge:=grownCap_ge w m 0 T';have hcm:grownCap w m 0 T'≤maxLen:=grownCap_le_maxLen w m 0 T' h63;generalize hgc:grownCap w m 0 T'=cap' at hrun hge hcm;obtain⟨d1,d2⟩:=hr.drew;obtain⟨zs,hzc⟩:∃zs:List Value,Builtin.zeroCells z.cells (cap' - m)=zs.toArray:=⟨(Builtin.zeroCells z.cells (cap' - m)).toList,by simp⟩
 have hzl:zs.length=(cap' - m) * sz:=by
  have:=size_zeroCells z.cells (cap' - m);rw[hzc,hzs]at this
  simpa using this
 have hone:∀u∈zs,u.oneCell'=true:=by
  intro u hu;have:u∈Builtin.zeroCells z.cells (cap' - m):=by rw[hzc];simpa using hu
  exact SP hzr hinf hz this
 have hrep:AY G w.drew (cs++List.replicate ((cap' - m) * sz) .any) (us++zs):=by
  refine Lf (Dq d2 _ _ e3) ?_;rw[←hzl];exact NX zs
 obtain⟨k,bx',hsn⟩:∃k bx',SnocAt h.bx (cs++List.replicate ((cap' - m) * sz) .any) k bx':=⟨_,_,PL _ _⟩
 obtain⟨G',s1,s2,s3⟩:=LU (T:=T') d1 hrep (by
  intro u hu;rcases List.mem_append.1 hu with hu|hu
  ·exact e4 u hu
  exact hone u hu) hsn
 rw[hzc]at hrun;have hcells:us.toArray++zs.toArray=(us++zs).toArray:=by simp
 rw[hcells]at hrun;simp only[rep]at s3;obtain⟨b',s4,s5⟩:=s3;simp only[execOp,resolve,invoke,builtin,Sem.run_bind,Sem.run_pure,Result.andThen_ok,List.map_toArray,List.map_cons,List.map_nil,k1,e1,hrun];refine⟨_,_,G',grow cap' k bx' hge hsn,s1,d2.trans s2,?_⟩;simp only[rep];injection s5 with s5;injection s5 with s5;injection s5 with s5;subst s5;exact⟨_,s4,rfl,hge,hcm⟩
end
section
variable {P:Program}{ev:Operand→Option AV}{h:AH}{R:AV→AH→Prop}{d:Option Tmp}{ty:TypeId}{pos:String}{af:Array Edge}{gd:Option (Nat×Bool)}
theorem X3{T E sz bytes:Nat}(hE:Jh P T=some (E,sz,bytes))(hsz:sz≤100){v:Value}{us:List Value}(hv:v.cells=us.toArray)(hl:us.length=sz)(w:World):
    (Instr.buildSlice T 1 #[(0,v)]).run P w= .ok (.slice (some ⟨w.heap.size,0,none⟩) 1 1) (w.alloc (.cells us.toArray E)):=by
 obtain⟨hu,inf,z,hinf,hz,hzs,hs,hby,hp⟩:=Ey hE;refine run_buildSlice w T E 1 _ us.toArray inf z hu hinf hz (by rw[hs];omega) (by rw[hs];omega) ?_;obtain⟨r,h1,h2,h3⟩:=Great.fill_dense hp [v] 0 ((Array.range (1 * inf.size)).map (z.cells[· % z.cells.size]!)) (fun x hx=>by rw[List.mem_singleton.1 hx,hv];simpa using hl) (by simp[hs])
 have e:r=us.toArray:=by
  apply Array.ext_getElem?;intro k;rcases Nat.lt_or_ge k sz with hk|hk
  ·rw[h3,if_pos ⟨by omega,by simp;omega⟩,Nat.div_eq_of_lt hk,Nat.mod_eq_of_lt hk];simp[hv]
  rw[Array.getElem?_eq_none (by rw[h2];simp[hs];omega),Array.getElem?_eq_none (by simp;omega)]
 rw[hs]at h1 ⊢;rw[e]at h1
 simpa using h1
theorem X4{T:TypeId}{x:Operand}{E sz bytes k:Nat}{av:AV}{bx':List (List AV)}[hE:Elm P T E sz bytes](hx:ev x=some av)(h1:FE (CT av)=true)(hl:Nat.beq (CT av).length sz=true)(hsz:Nat.ble sz 100=true)(hs:SnocAt h.bx (CT av) k bx')(hR:R (.bs k 0 sz 1 1) ⟨bx',h.tk⟩):
    AStep P ⟨d, .buildSlice T 1 #[(0,x)],ty,pos,af,gd⟩ ev h R:=by
 intro E' G w ec hr he;obtain⟨vs,k8,k9⟩:=KV (he x (by simp[Op.operands]) _ hx) h1;have hvl:=Fx k9;have hl':=Nat.eq_of_beq_eq_true hl;have hrun:=X3 (P:=P) hE.eq (B6 hsz) k8 (by omega) w;obtain⟨G',q1,q2,q3⟩:=LU (T:=E) hr k9 (J9 k9 h1) hs;simp only[rep]at q3;obtain⟨b,q4,q5⟩:=q3;injection q5 with q5;injection q5 with q5;injection q5 with q5;subst q5;have hrun':(Instr.buildSlice T 1 (#[(0,x)].map fun p=>(p.1,ec p.2))).run P w= .ok (.slice (some ⟨w.heap.size,0,none⟩) 1 1) (w.alloc (.cells vs.toArray E)):=by simpa using hrun
 simp only[execOp,Sem.run_bind,hrun',Result.andThen_ok,Sem.run_pure];exact⟨_,_,G',hR,q1,q2,by simp only[rep];exact⟨_,q4,rfl,Av _,by unfold maxLen;omega⟩⟩
end
section
variable {P:Program}{N:Dim}{Q:Exit→AS→Prop}{S:AH→Prop}{tl fuel:Nat}{l:List Oper}{listed:Array Bool}{m:List (Nat×AV)}{h:AH}
theorem X5{i j di dj:Nat}{op op':Op}{ty ty':TypeId}{pos pos':String}{af af':Array Edge}{gd gd':Option (Nat×Bool)}(hr:Region.ready .any l.toArray listed=[i,j])
    (hi:l[i]?=some ⟨some di,op,ty,pos,af,gd⟩) (hdi:Nat.blt di N.n=true) (hwi:CP l.toArray (look m) ⟨some di,op,ty,pos,af,gd⟩=some true)
    (hj:l[j]?=some ⟨some dj,op',ty',pos',af',gd'⟩) (hdj:Nat.blt dj N.n=true) (hwj:CP l.toArray (look m) ⟨some dj,op',ty',pos',af',gd'⟩=some true)
    (H1:AStep P ⟨some di,op,ty,pos,af,gd⟩ (CA (look m)) h (fun x h'=>(Nat.ble tl i=true∨S h')∧AAny P N l.toArray Q S tl fuel (listed.setIfInBounds i true) ⟨look ((di,x)::m),h'⟩))
    (H2:AStep P ⟨some dj,op',ty',pos',af',gd'⟩ (CA (look m)) h (fun x h'=>(Nat.ble tl j=true∨S h')∧AAny P N l.toArray Q S tl fuel (listed.setIfInBounds j true) ⟨look ((dj,x)::m),h'⟩)):AAny P N l.toArray Q S tl (fuel+1) listed ⟨look m,h⟩:=by
 refine⟨(fun h0=>by rw[hr]at h0;cases h0),fun k hk=>?_⟩;rw[hr]at hk;have hk':k=i∨k=j:=by simpa using hk
 rcases hk' with rfl|rfl
 ·unfold AOp;simp only[Gk hi];exact⟨hdi,true,hwi,fun _=>H1,fun h=>by cases h⟩
 unfold AOp;simp only[Gk hj];exact⟨hdj,true,hwj,fun _=>H2,fun h=>by cases h⟩
end
end Go.Proofs.YtobclmbkdhbnpaaGreatDoor
