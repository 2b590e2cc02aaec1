/-
  Part 6 of the proof of WatchNamesP: what the statement's proof uses of the texts in wip/tpl.
-/
import Derived.Lib.Strings
import Derived.Lib.IndexLaws
import Derived.Lib.LastIndexByte
import Derived.Lib.IndexAny
import Derived.Lib.Hide
import Derived.Test.YtobclmbkdhbnpaaGreatDoorProg
import Derived.WalkKit
import Derived.WalkSpells
import Derived.WalkLawsBesides
import Derived.Deep.QuietTactic
import Derived.BigQuiet
import Derived.Outline
import Derived.RangeFuncNested
import Derived.RangeFuncBound
import Derived.RangeFuncCalls
import Derived.RangeFuncLeaves
import Derived.Shelf.Abstract
import Derived.Shelf.RegionOpen
import Derived.OwnWalkIn
import Derived.TacticsInMore
import Derived.LoopNIn
import Derived.LoopIn
import Derived.WalkMore
import Derived.Test.YtobclmbkdhbnpaaGreatDoorQb5
open Go.Proofs.Tryz (prog)
set_option maxRecDepth 10000
set_option maxHeartbeats 4000000
set_option linter.unusedVariables false
set_option linter.unusedSimpArgs false
namespace Go.Proofs.YtobclmbkdhbnpaaGreatDoor
open Go.RowKit
theorem Kv(f:Nat→Option Nat):∀xs:List AV,Cs f xs=xs.map (EG f)
 |[]=>rfl
 |x::xs=>by simp[Cs,Kv f xs]
theorem ML(f:Nat→Option Nat):∀xs:List AV,El f xs=xs.map (Ea f)
 |[]=>rfl
 |x::xs=>by simp[El,ML f xs]
theorem Kw(g:Nat→Option (List AV)):∀xs:List AV,FO g xs=xs.map (DO g)
 |[]=>rfl
 |x::xs=>by simp[FO,Kw g xs]
theorem Kx(F:AV→AV)(h:F .any= .any)(sz cap:Nat)(rows:List (List AV)):(C3 sz cap rows).map F=C3 sz cap (rows.map (·.map F)):=by
 simp[C3,h,List.map_flatten]
theorem OG{n m:Nat}{xs:List AV}:Ac n m xs=true↔∀x∈xs,Af n m x=true:=by
 induction xs with
 |nil=>simp[Ac]
 |cons x xs ih=>simp[Ac,ih]
theorem OH{n m sz cap:Nat}{rows:List (List AV)}(h:∀r∈rows,Ac n m r=true):Ac n m (C3 sz cap rows)=true:=by
 rw[OG];intro x hx;unfold C3 at hx;rcases List.mem_append.1 hx with hx|hx
 ·obtain⟨r,hr,hx⟩:=List.mem_flatten.1 hx;exact OG.1 (h r hr) x hx
 rw[(List.mem_replicate.1 hx).2];rfl
def DB(f:AR)(K:Nat)(d:Dvc)(j cap cap1:Nat):List AV:=C3 2 cap (ET f K d j cap1)
def NB(ns:List Nod)(cap1:Nat):List AV:=C3 8 cap1 (ns.map AW)
theorem Bg{n m:Nat}{f:AR}{K:Nat}{d:Dvc}{j cap cap1:Nat}(hj:j<n):Ac n m (DB f K d j cap cap1)=true:=by
 refine OH fun r hr=>?_;rcases List.mem_or_eq_of_mem_set hr with h|h
 ·obtain⟨d',_,rfl⟩:=List.mem_map.1 h;rfl
 rw[h];simp[FR,Ac,Af,hj]
theorem Bh{n m:Nat}{ns:List Nod}{cap1:Nat}:Ac n m (NB ns cap1)=true:=by
 refine OH fun r hr=>?_;obtain⟨d',_,rfl⟩:=List.mem_map.1 hr;rfl
section
variable {F:AV→AV}(hany:F .any= .any)(hv:∀x,F (.v x)= .v x)(hs:∀sz rows,F (.sl sz rows none)= .sl sz rows none)
include hany hv hs
theorem OJ(ns:List Nod)(cap1:Nat):(NB ns cap1).map F=NB ns cap1:=by
 unfold NB;rw[Kx F hany,List.map_map]
 congr 1
 apply List.map_congr_left;intro n _;simp[AW,hv,hs]
theorem RD(f:AR):(f.map Bp).map (·.map F)=f.map Bp:=by
 have _:=hany;rw[List.map_map];apply List.map_congr_left;intro n _;simp[Bp,hv,hs]
theorem RE(f:AR)(K:Nat)(d:Dvc){j j':Nat}(cap cap1:Nat)(hb:F (.bs j 0 8 d.nodes.length cap1)= .bs j' 0 8 d.nodes.length cap1):(DB f K d j cap cap1).map F=DB f K d j' cap cap1:=by
 unfold DB ET;rw[Kx F hany,List.map_set,RD hany hv hs];simp[FR,hv,hb]
theorem WF{f:AR}{K:Nat}{d:Dvc}{j cap cap1:Nat}(hK:f[K]?=some d)(hb:F (.bs j 0 8 d.nodes.length cap1)= .sl 8 (d.nodes.map AW) none):(DB f K d j cap cap1).map F=C3 2 cap (f.map Bp):=by
 unfold DB ET;rw[Kx F hany,List.map_set,RD hany hv hs];have e:(FR d j cap1).map F=Bp d:=by simp[FR,hv,hb,Bp]
 rw[e]
 congr 1
 apply List.ext_getElem?;intro i;rw[List.getElem?_set];split
 ·rename_i e1;subst e1;obtain⟨h1,h2⟩:=Ag.1 hK;simp[h1,h2]
 rfl
end
theorem Fd{g:Nat→Option Nat}{j j':Nat}(h:g j=some j')(f:AR)(K:Nat)(d:Dvc)(cap cap1:Nat):Cs g (DB f K d j cap cap1)=DB f K d j' cap cap1:=by
 rw[Kv];exact RE rfl (fun _=>rfl) (fun _ _=>rfl) f K d cap cap1 (by simp[EG,h])
theorem FS(g:Nat→Option Nat)(ns:List Nod)(cap1:Nat):Cs g (NB ns cap1)=NB ns cap1:=by
 rw[Kv];exact OJ rfl (fun _=>rfl) (fun _ _=>rfl) ns cap1
theorem HQ{g:Nat→Option Nat}{j j':Nat}(h:g j=some j')(f:AR)(K:Nat)(d:Dvc)(cap cap1:Nat):El g (DB f K d j cap cap1)=DB f K d j' cap cap1:=by
 rw[ML];exact RE rfl (fun _=>rfl) (fun _ _=>rfl) f K d cap cap1 (by simp[Ea,h])
theorem Fe(g:Nat→Option Nat)(ns:List Nod)(cap1:Nat):El g (NB ns cap1)=NB ns cap1:=by
 rw[ML];exact OJ rfl (fun _=>rfl) (fun _ _=>rfl) ns cap1
theorem WG(g:Nat→Option (List AV))(ns:List Nod)(cap1:Nat):FO g (NB ns cap1)=NB ns cap1:=by
 rw[Kw];exact OJ rfl (fun _=>rfl) (fun _ _=>rfl) ns cap1
theorem Ky{ns:List Nod}{cap1:Nat}(h:ns.length≤cap1):(NB ns cap1).length=cap1 * 8:=O4 (H9 _) (by simpa using h)
theorem OK{g:Nat→Option (List AV)}{j sz n cap0 cap:Nat}{rows:List (List AV)}(hg:g j=some (C3 sz cap rows))(hr:∀r∈rows,r.length=sz)(hn:n=rows.length)(hc:rows.length≤cap):DO g (.bs j 0 sz n cap0)= .sl sz rows none:=by
 subst hn;have hl:=O4 hr hc
 have hb:Nat.ble (0+rows.length * sz) (C3 sz cap rows).length=true:=by
  rw[hl,Nat.ble_eq];have:=Nat.mul_le_mul_right sz hc;omega
 simp only[DO,hg,hb,List.drop_zero];unfold C3;rw[QY hr]
theorem WH{n:Nat}{bx:List (List AV)}{k j:Nat}{ns:List Nod}{cap1:Nat}(hn:n≤j)(hj:bx[j]?=some (NB ns cap1)):D7 n bx (k+1) j=some (NB ns cap1):=by
 have:Nat.blt j n=false:=by rw[←Bool.not_eq_true,Nat.blt_eq];omega
 simp only[D7,this,hj,Option.map_some,WG]
theorem WJ{n:Nat}{bx:List (List AV)}{k i j:Nat}{f:AR}{K:Nat}{d:Dvc}{cap cap1:Nat}(hK:f[K]?=some d)(hc1:d.nodes.length≤cap1)(hni:n≤i)(hnj:n≤j)(hi:bx[i]?=some (DB f K d j cap cap1))(hj:bx[j]?=some (NB d.nodes cap1)):
    D7 n bx (k+2) i=some (C3 2 cap (f.map Bp)):=by
 have:Nat.blt i n=false:=by rw[←Bool.not_eq_true,Nat.blt_eq];omega
 rw[show k+2=(k+1)+1 from rfl,D7];simp only[this,hi,Option.map_some,Kw];rw[WF rfl (fun _=>rfl) (fun _ _=>rfl) hK];exact OK (WH hnj hj) (H9 _) (by simp) (by simpa using hc1)
theorem J5{n:Nat}{bx:List (List AV)}{k i j:Nat}{f:AR}{K:Nat}{d:Dvc}{cap cap0 cap1:Nat}(hK:f[K]?=some d)(hc:f.length≤cap)(hc1:d.nodes.length≤cap1)(hni:n≤i)(hnj:n≤j)(hi:bx[i]?=some (DB f K d j cap cap1))(hj:bx[j]?=some (NB d.nodes cap1)):
    DO (D7 n bx (k+2)) (.agg [.bs i 0 2 f.length cap0])= .agg (Am f):=by
 show AV.agg [DO _ _]=_;unfold Am;rw[OK (WJ hK hc1 hni hnj hi hj) (Qv _) (by simp) (by simpa using hc)]
theorem Kz{sz cap:Nat}{rows:List (List AV)}{q k:Nat}{r:List AV}{x:AV}(hr:∀r∈rows,r.length=sz)(hq:rows[q]?=some r)(hx:r[k]?=some x):(C3 sz cap rows)[0+q * sz+k]?=some x:=by
 have hk:k<sz:=by rw[←hr r (Au hq)];exact(Ag.1 hx).1
 have e:=M3 hr hk (q:=q);rw[hq]at e;simp only[Option.bind_some]at e;rw[hx]at e;unfold C3;rw[Nat.zero_add,CO (Ag.1 e).1];exact e
theorem WK{sz cap:Nat}{rows:List (List AV)}{q:Nat}{r:List AV}(hr:∀r∈rows,r.length=sz)(hq:rows[q]?=some r):((C3 sz cap rows).drop (0+q * sz)).take sz=r:=by
 have hrl:=hr r (Au hq);apply List.ext_getElem?;intro k;rw[List.getElem?_take];split
 ·rename_i hk;rw[List.getElem?_drop];have hx:r[k]?=some r[k]:=BG (by omega);rw[Kz hr hq hx,hx]
 rw[List.getElem?_eq_none (by omega)]
theorem OL{sz cap:Nat}{rows:List (List AV)}{q k:Nat}{r r' cs:List AV}(hr:∀r∈rows,r.length=sz)(hq:rows[q]?=some r)(hs:SetAt r k cs r')(hne:cs≠[]):SetAt (C3 sz cap rows) (0+q * sz+k) cs (C3 sz cap (rows.set q r')):=by
 unfold C3;rw[Nat.zero_add,List.length_set];exact(V3 hr hq hs hne).left _
theorem OM{f:AR}{K:Nat}{d:Dvc}{j cap1:Nat}(hK:K<f.length):(ET f K d j cap1)[K]?=some (FR d j cap1):=by
 unfold ET;rw[List.getElem?_set_self (by simpa using hK)]
theorem Ge{f:AR}{K:Nat}{d:Dvc}{j cap cap1:Nat}(hK:K<f.length):(DB f K d j cap cap1)[0+K * 2+1]?=some (.bs j 0 8 d.nodes.length cap1):=Kz (MJ _ _ _ _ _) (OM hK) rfl
theorem WM{f:AR}{K:Nat}{d:Dvc}{j cap cap1:Nat}(hK:K<f.length):(DB f K d j cap cap1)[0+K * 2+0]?=some (.v (.int .i64 d.next)):=Kz (MJ _ _ _ _ _) (OM hK) rfl
theorem Gf{ns:List Nod}{cap1 i:Nat}{n:Nod}(h:ns[i]?=some n):((NB ns cap1).drop (0+i * 8)).take 8=AW n:=WK (H9 _) (by rw[List.getElem?_map,h];rfl)
theorem RF{ns:List Nod}{cap1 i k:Nat}{n:Nod}{x:AV}(h:ns[i]?=some n)(hx:(AW n)[k]?=some x):(NB ns cap1)[0+i * 8+k]?=some x:=Kz (H9 _) (by rw[List.getElem?_map,h];rfl) hx
theorem RG{ns:List Nod}{cap1 i k:Nat}{n n':Nod}{cs:List AV}(h:ns[i]?=some n)(hs:SetAt (AW n) k cs (AW n'))(hne:cs≠[]):SetAt (NB ns cap1) (0+i * 8+k) cs (NB (ns.set i n') cap1):=by
 have key:=OL (cap:=cap1) (H9 ns) (by rw[List.getElem?_map,h];rfl) hs hne;rw[←List.map_set]at key;exact key
theorem ON{f:AR}{K:Nat}{d d':Dvc}{j j' cap cap1 cap1' k:Nat}{cs:List AV}(hK:K<f.length)(hs:SetAt (FR d j cap1) k cs (FR d' j' cap1'))(hne:cs≠[]):SetAt (DB f K d j cap cap1) (0+K * 2+k) cs (DB f K d' j' cap cap1'):=by
 have key:=OL (cap:=cap) (MJ f K d j cap1) (OM hK) hs hne;unfold ET at key;rw[List.set_set]at key;exact key
theorem OO(f:AR)(K:Nat)(d d':Dvc)(j cap cap1:Nat):DB (f.set K d') K d j cap cap1=DB f K d j cap cap1:=by
 unfold DB ET;rw[List.map_set,List.set_set]
theorem LeA.tok(sz:Nat)(rows:List (List AV))(g:Option Nat):LeA (.sl sz rows g) (.sl sz rows none):=fun G w v h=>by
 cases g with
 |none=>exact h
 |some g=>simp only[rep]at h ⊢;exact h.1
section
variable {P:Program}{ev:Operand→Option AV}{h:AH}{R:AV→AH→Prop}{d:Option Tmp}{ty:TypeId}{pos:String}{af:Array Edge}{gd:Option (Nat×Bool)}
theorem Cv{T:TypeId}{x:Operand}{sz i o:Nat}{row cs:List AV}[ht:Typ P T sz true](hx:ev x=some (.bp i o))(hb:h.bx[i]?=some row)(hr:o+sz≤row.length)(he:(row.drop o).take sz=cs)(hR:R (.agg cs) h):AStep P ⟨d, .load T x,ty,pos,af,gd⟩ ev h R:=by
 subst he;exact EZ hx hb (by rw[Nat.ble_eq];exact hr) hR
end
end Go.Proofs.YtobclmbkdhbnpaaGreatDoor
namespace Go.Proofs.YtobclmbkdhbnpaaGreatDoor
structure Itm where
 given:AB
 path:AB
 dir:A6
 name:AB
 file:A6
 role:Int
 kind:Int
 mode:Int
 uid:Int
 gid:Int
 perm:Int
end Go.Proofs.YtobclmbkdhbnpaaGreatDoor
namespace Go.Proofs.YtobclmbkdhbnpaaGreatDoor
abbrev Bs:=List UInt8
def F7(l:Bs):Bool:=decide (l≠[]∧l.length≤12∧l≠[46]∧l≠[46,46]∧(0:UInt8)∉l∧(47:UInt8)∉l)
theorem OP{l:Bs}:F7 l=true↔l≠[]∧l.length≤12∧l≠[46]∧l≠[46,46]∧(0:UInt8)∉l∧(47:UInt8)∉l:=decide_eq_true_iff
def C6:Bs→List Bs
 |[]=>[[]]
 |c::t=>if c=47 then[]::C6 t else match C6 t with
   |[]=>[[c]]
   |h::r=>(c::h)::r
def ne_(p:Bs):Bool:=decide (p≠[])
def CF(l:Bs):List Bs:=(C6 l).filter ne_
def G8(ps:List Bs):Bs:=ps.flatMap fun p=>47::p
theorem OQ(l:Bs):C6 l≠[]:=by
 cases l with
 |nil=>simp[C6]
 |cons c t=>
   unfold C6;split
   ·simp
   split<;>simp
theorem OR(c:UInt8)(t:Bs):C6 (c::t)=if c=47 then[]::C6 t else match C6 t with
    |[]=>[[c]]
    |h::r=>(c::h)::r:=rfl
theorem RH(u t:Bs):C6 (u++47::t)=C6 u++C6 t:=by
 induction u with
 |nil=>simp[C6]
 |cons c u ih=>
   rw[List.cons_append,OR,OR,ih];by_cases hc:c=47
   ·simp[hc]
   rw[if_neg hc,if_neg hc]
   cases h:C6 u with
   |nil=>exact absurd h (OQ u)
   |cons a r=>simp
theorem OS{l:Bs}(h:(47:UInt8)∉l):C6 l=[l]:=by
 induction l with
 |nil=>rfl
 |cons c t ih=>
   simp only[List.mem_cons,not_or]at h;unfold C6;rw[if_neg (fun e=>h.1 e.symm),ih h.2]
theorem WN{a:Bs}(h:(47:UInt8)∉a)(b:Bs):C6 (a++47::b)=a::C6 b:=by
 rw[RH,OS h];rfl
theorem HU(p:Bs)(ps:List Bs):G8 (p::ps)=47::(p++G8 ps):=by simp[G8]
theorem RJ(l:Bs):G8 (C6 l)=47::l:=by
 induction l with
 |nil=>simp[C6,G8]
 |cons c t ih=>
   unfold C6;by_cases hc:c=47
   ·rw[if_pos hc,HU,ih,hc];rfl
   rw[if_neg hc]
   cases h:C6 t with
   |nil=>exact absurd h (OQ t)
   |cons a r=>
     rw[h]at ih;rw[HU]at ih ⊢;simp only[List.cons.injEq,true_and]at ih;simp[ih]
theorem Ji:CF []=[]:=by simp[CF,C6,ne_]
theorem MM(u t:Bs):CF (u++47::t)=CF u++CF t:=by simp[CF,RH]
def one_(p:Bs):List Bs:=if p=[]then[]else[p]
theorem MN{l:Bs}(h:(47:UInt8)∉l):CF l=one_ l:=by
 unfold CF one_;rw[OS h];by_cases e:l=[]<;>simp[e,ne_]
theorem WO{a:Bs}(h:(47:UInt8)∉a)(b:Bs):CF (a++47::b)=one_ a++CF b:=by rw[MM,MN h]
def OT(u:Bs):Prop:=u=[]∨∃u',u=u'++[47]
theorem RK{u p:Bs}(hu:OT u)(hp:(47:UInt8)∉p):CF (u++p)=CF u++one_ p:=by
 rcases hu with rfl|⟨u',rfl⟩
 ·simp[Ji,MN hp]
 have e:u'++[47]++p=u'++47::p:=by simp
 rw[e,MM,MM,Ji,MN hp];simp
theorem WP{u p:Bs}(hu:OT u)(hp:(47:UInt8)∉p):CF (u++p++[47])=CF u++one_ p:=by
 rw[MM,RK hu hp,Ji,List.append_nil]
def F8(l:Bs):Bool:=decide (l=[47])||(decide (l.head?=some 47)&&(C6 l.tail).all F7)
end Go.Proofs.YtobclmbkdhbnpaaGreatDoor
namespace Go.Proofs.YtobclmbkdhbnpaaGreatDoor
def D1(xs:List AB):List Bs:=xs.map fun x=>x.data.toList
theorem OU(x:UInt8):((x.toNat:Int)==47)=decide (x=47):=by
 rw[Bool.eq_iff_iff,beq_iff_eq,decide_eq_true_iff];constructor
 ·intro h;apply UInt8.toNat_inj.1;have:(47:UInt8).toNat=47:=rfl;omega
 rintro rfl;rfl
def Dg(l:Bs)(f k:Nat)(bs:List Bs):Prop:=(k≤l.length∧f≤k∧OT (l.take f)∧(47:UInt8)∉(l.drop f).take (k - f)∧bs=CF (l.take f))∨(k=l.length+1∧bs=CF l)
theorem WQ{l:Bs}{f k:Nat}{bs:List Bs}{x:UInt8}(h:Dg l f k bs)(hx:l[k]?=some x)(hne:x≠47):Dg l f (k+1) bs:=by
 have hk:=(Ag.1 hx).1;rcases h with⟨h1,h2,h3,h4,h5⟩|⟨h1,h2⟩
 ·refine .inl ⟨hk,by omega,h3,?_,h5⟩;rw[show k+1 - f=(k - f)+1 by omega,List.take_add_one];have:(l.drop f)[k - f]?=some x:=by rw[List.getElem?_drop,show f+(k - f)=k by omega];exact hx
  rw[this];simp only[Option.toList_some,List.mem_append,List.mem_singleton,not_or];exact⟨h4,fun e=>hne e.symm⟩
 omega
theorem RL{l:Bs}{f k:Nat}(h:f≤k):l.take k=l.take f++(l.drop f).take (k - f):=by
 rw[show k=f+(k - f) by omega,List.take_add];simp
theorem WR{l:Bs}{f k:Nat}{bs:List Bs}(h:Dg l f k bs)(hx:l[k]?=some 47):Dg l (k+1) (k+1) (bs++one_ ((l.drop f).take (k - f))):=by
 have hk:=(Ag.1 hx).1;rcases h with⟨h1,h2,h3,h4,h5⟩|⟨h1,h2⟩
 ·have e:l.take (k+1)=l.take f++(l.drop f).take (k - f)++[47]:=by rw[List.take_add_one,hx,RL h2];rfl
  refine .inl ⟨hk,Av _, .inr ⟨_,e⟩,by simp,?_⟩;rw[e,WP h3 h4,h5]
 omega
theorem WS{l:Bs}{f:Nat}{bs:List Bs}(h:Dg l f l.length bs):Dg l (l.length+1) (l.length+1) (bs++one_ ((l.drop f).take (l.length - f))):=by
 rcases h with⟨h1,h2,h3,h4,h5⟩|⟨h1,h2⟩
 ·refine .inr ⟨rfl,?_⟩;have e:=RL (l:=l) h2;rw[List.take_length]at e;have h6:=RK h3 h4;rw[←e]at h6;rw[h5];exact h6.symm
 omega
theorem WT(l:Bs):Dg l 0 0 []:= .inl ⟨BC _,Av _, .inl rfl,by simp,by simp[Ji]⟩
theorem MO{l:Bs}{f k:Nat}{bs:List Bs}(h:Dg l f k bs)(hk:l.length<k):bs=CF l:=by
 rcases h with⟨h1,_⟩|⟨_,h2⟩
 ·omega
 exact h2
theorem WU{p:Bs}(h:p≠[]):one_ p=[p]:=if_neg h
theorem WV(s:ByteArray){f k:Nat}(h:f<k)(hk:k≤s.size):(s.data.toList.drop f).take (k - f)≠[]:=by
 intro e;have:=congrArg List.length e;rw[Lib.size_eq]at hk;simp at this;simp at hk;omega
theorem WW(s:ByteArray)(h:0<s.size):decide (s.data.toList.head?=some 47)=(((s[0]'h).toNat:Int)==47):=by
 rw[OU];have:s.data.toList.head?=some (s[0]'h):=by rw[List.head?_eq_getElem?];exact Lib.data_getElem? s 0 h
 rw[this];simp
theorem WX(s:ByteArray)(h:0<s.size):decide (s.data.toList.getLast?=some 47)=(((s[s.size - 1]'(by omega)).toNat:Int)==47):=by
 rw[OU];have:s.data.toList.getLast?=some (s[s.size - 1]'(by omega)):=by rw[List.getLast?_eq_getElem?,←Lib.size_eq];exact Lib.data_getElem? s _ (by omega)
 rw[this];simp
theorem WY{s:ByteArray}{a k a' k':Nat}{ss:List AB}(h:Dg s.data.toList a' k' (D1 ss++one_ ((s.data.toList.drop a).take (k - a))))(ho:one_ ((s.data.toList.drop a).take (k - a))=[(s.data.toList.drop a).take (k - a)]):Dg s.data.toList a' k' (D1 (ss++[s.extract a k])):=by
 rw[ho]at h
 have:D1 (ss++[s.extract a k])=D1 ss++[(s.data.toList.drop a).take (k - a)]:=by
  rw[←Lib.extract_data];simp[D1]
 rw[this];exact h
theorem WZ{s:ByteArray}{a k a' k':Nat}{bs:List Bs}(h:Dg s.data.toList a' k' (bs++one_ ((s.data.toList.drop a).take (k - a))))(ho:k≤a):Dg s.data.toList a' k' bs:=by
 rw[show k - a=0 by omega]at h
 simpa[one_]using h
theorem RM(s:ByteArray):s.toList=s.data.toList:=Lib.toList_data s
theorem Wa(s:ByteArray):(s.toList==[46])=decide (s.data.toList=[46]):=by rw[RM,Bool.eq_iff_iff];simp
theorem Wc(s:ByteArray):(s.toList==[46,46])=decide (s.data.toList=[46,46]):=by rw[RM,Bool.eq_iff_iff];simp
theorem RN(s:AB):Da s=F7 s.data.toList:=by
 have hs:=Lib.size_eq s;rw[Bool.eq_iff_iff,OP];unfold Da;by_cases h1:s.size<1∨12<s.size
 ·rw[if_pos h1];constructor
  ·intro h;cases h
  rintro⟨h2,h3,_⟩;have:0<s.data.toList.length:=List.length_pos_iff.2 h2;omega
 rw[if_neg h1,Wa,Wc];have hne:s.data.toList≠[]:=by intro e;rw[e]at hs;change s.size=0 at hs;omega
 by_cases h2:s.data.toList=[46]
 ·rw[if_pos (decide_eq_true h2)];constructor
  ·intro h;cases h
  exact fun h=>absurd h2 h.2.2.1
 rw[if_neg (by simpa using h2)];by_cases h3:s.data.toList=[46,46]
 ·rw[if_pos (decide_eq_true h3)];constructor
  ·intro h;cases h
  exact fun h=>absurd h3 h.2.2.2.1
 rw[if_neg (by simpa using h3),List.all_eq_true]
 have hb:∀c:UInt8,GV c=true↔c≠0∧c≠47:=by
  intro c;unfold GV;rw[Bool.and_eq_true,OU]
  have:((c.toNat:Int)==0)=decide (c=0):=by
   rw[Bool.eq_iff_iff,beq_iff_eq,decide_eq_true_iff];constructor
   ·intro h;apply UInt8.toNat_inj.1;have:(0:UInt8).toNat=0:=rfl;omega
   rintro rfl;rfl
  rw[this];simp
 constructor
 ·intro h;exact⟨hne,by omega,h2,h3,fun h0=>((hb _).1 (h _ h0)).1 rfl,fun h0=>((hb _).1 (h _ h0)).2 rfl⟩
 rintro⟨_,_,_,_,h0,h47⟩ c hc;exact(hb c).2 ⟨fun e=>h0 (e ▸ hc),fun e=>h47 (e ▸ hc)⟩
theorem Wd(ps:List Bs)(p:Bs→Bool):(G8 (ps.filter p)).length≤(G8 ps).length:=by
 induction ps with
 |nil=>simp
 |cons q ps ih=>
   rw[List.filter_cons];split
   ·rw[HU,HU];simp;omega
   rw[HU];simp;omega
theorem We(l:Bs):(G8 (CF l)).length≤l.length+1:=by
 have:=Wd (C6 l) ne_;rw[RJ]at this
 simpa[CF]using this
end Go.Proofs.YtobclmbkdhbnpaaGreatDoor
namespace Go.Proofs.YtobclmbkdhbnpaaGreatDoor
open Go.RowKit
section
def Old(w:World):Nat→Prop:=fun b=>b<w.heap.size
def O6(w w':World):Nat→Prop:=fun b=>w.heap.size≤b∧b<w'.heap.size
def few:Nat:=65536
theorem MF{B:Nat}{a w:World}(h:Below B a w)(n:Nat):Below B a (w.drewN n):=⟨h.os,h.tape,h.output,h.size,h.block⟩
theorem Kl{w w':World}(h:Below w.heap.size w w')(g:Option Nat):w.grownBy w' g:=⟨h.os,h.tape,h.output,h.size,fun k hk _=>h.block k hk⟩
def RowL{α:Type}(sz:Nat)(cell:α→Nat→Value)(w:World)(D:Nat→Prop)(A:Option Addr)(xs:List α):Prop:=
 0<xs.length→∃b off,A=some ⟨b,off,none⟩∧D b∧∀i x j,xs[i]?=some x→j<sz→w.cell? ⟨b,off+i * sz+j,none⟩=some (cell x j)
def ListR{α:Type}(sz:Nat)(cell:α→Nat→Value)(w:World)(D:Nat→Prop)(v:Value)(xs:List α):Prop:=
 ∃A c,v= .slice A xs.length c∧xs.length≤c∧xs.length≤few∧RowL sz cell w D A xs
section
variable {α:Type}{sz:Nat}{cell:α→Nat→Value}{w w':World}{D D':Nat→Prop}{A:Option Addr}{v:Value}{xs:List α}
theorem ListR.nil_:ListR sz cell w D (.slice none 0 0) []:=⟨none,0,rfl,Av _,BC _,fun h=>absurd h (by simp)⟩
end
def Km(s:AB):Nat→Value
 |_=> .string s
abbrev Qw:=ListR 1 Km
def D9(at_:A6):Value:= .agg #[.int .i64 at_.1, .int .i64 at_.2]
theorem J0{a b:Bool}(h:a=b):Ending.returned (.bool a)= .returned (.bool b):=by rw[h]
theorem HG{w:World}{g:Nat}{cs:Array Value}{t:TypeId}{fz:Nat×Nat}(h:w.heap[g]?=some (.cells cs t fz))(i:Nat):w.cell? ⟨g,i,none⟩=cs[i]?:=by
 simp[World.cell?,h]
theorem O7{w:World}{g:Nat}{cs:Array Value}{t:TypeId}(h:w.heap[g]?=some (.cells cs t (0,0)))(i:Nat):w.frozen? ⟨g,i,none⟩=false:=by
 simp[World.frozen?,h]
theorem CM{w:World}{b:Nat}{o:Obj}(h:w.heap[b]?=some o)(o':Obj):(w.alloc o').heap[b]?=some o:=by
 have hb:b<w.heap.size:=by
  rcases Nat.lt_or_ge b w.heap.size with hlt|hge
  ·exact hlt
  rw[Array.getElem?_eq_none hge]at h;cases h
 exact(Below.heap_alloc w o' b hb).trans h
theorem Bq{w:World}{g:Nat}{cs:Array Value}{t:TypeId}(h:w.heap[g]?=some (.cells cs t (0,0))):(∀i,w.cell? ⟨g,i,none⟩=cs[i]?)∧(∀i,w.frozen? ⟨g,i,none⟩=false):=
 ⟨fun i=>HG h i,fun i=>O7 h i⟩
theorem Jh{w:World}{b:Nat}{cs:Array Value}{t:TypeId}{fz:Nat×Nat}(h:w.heap[b]?=some (.cells cs t fz))(i:Nat)(u:Value):(w.setCell ⟨b,i,none⟩ u).heap[b]?=some (.cells (cs.setIfInBounds i u) t fz):=by
 simp[World.setCell,Array.getElem?_modify,h]
theorem J1{w:World}{b:Nat}{o:Obj}(h:w.heap[b]?=some o){p:Addr}(hp:b≠p.block)(u:Value):(w.setCell p u).heap[b]?=some o:=(Below.heap_setCell w p u b hp).trans h
theorem BJ{w w':World}{b B:Nat}{o:Obj}(h:w.heap[b]?=some o)(hg:Below B w w')(hb:b<B):w'.heap[b]?=some o:=(hg.block b hb).trans h
theorem Ep(w:World)(o1:Obj):Below w.heap.size w (w.alloc o1):=by
 exact(Below.refl _ w).alloc (Av _) _
theorem Ko(w:World)(o1:Obj):(w.alloc o1).heap.size=w.heap.size+1:=by simp
theorem GZ(w:World)(o1:Obj):(w.alloc o1).heap[w.heap.size]?=some o1:=(by have:=heap_alloc_new w o1;simpa using this)
theorem G7(w:World)(o1 o2:Obj):Below w.heap.size w ((w.alloc o1).alloc o2):=by
 exact(Ep w o1).alloc (by simp<;>omega) _
theorem Qx(w:World)(o1 o2:Obj):((w.alloc o1).alloc o2).heap.size=w.heap.size+2:=by simp
theorem Ga(w:World)(o1 o2:Obj):((w.alloc o1).alloc o2).heap[w.heap.size]?=some o1:=CM (GZ w o1) _
theorem Gb(w:World)(o1 o2:Obj):((w.alloc o1).alloc o2).heap[w.heap.size+1]?=some o2:=(by have:=heap_alloc_new (w.alloc o1) o2;simpa using this)
theorem Kq(w:World)(o1 o2 o3:Obj):Below w.heap.size w (((w.alloc o1).alloc o2).alloc o3):=by
 exact(G7 w o1 o2).alloc (by simp<;>omega) _
theorem Kr(w:World)(o1 o2 o3:Obj):(((w.alloc o1).alloc o2).alloc o3).heap[w.heap.size]?=some o1:=CM (Ga w o1 o2) _
theorem Ks(w:World)(o1 o2 o3:Obj):(((w.alloc o1).alloc o2).alloc o3).heap[w.heap.size+1]?=some o2:=CM (Gb w o1 o2) _
theorem Kt(w:World)(o1 o2 o3:Obj):(((w.alloc o1).alloc o2).alloc o3).heap[w.heap.size+1+1]?=some o3:=(by have:=heap_alloc_new ((w.alloc o1).alloc o2) o3;simpa using this)
theorem O8(w:World)(o1 o2 o3 o4:Obj):Below w.heap.size w ((((w.alloc o1).alloc o2).alloc o3).alloc o4):=by
 exact(Kq w o1 o2 o3).alloc (by simp<;>omega) _
theorem Qy(w:World)(o1 o2 o3 o4:Obj):((((w.alloc o1).alloc o2).alloc o3).alloc o4).heap[w.heap.size]?=some o1:=CM (Kr w o1 o2 o3) _
theorem O9(w:World)(o1 o2 o3 o4:Obj):((((w.alloc o1).alloc o2).alloc o3).alloc o4).heap[w.heap.size+1]?=some o2:=CM (Ks w o1 o2 o3) _
theorem Qz(w:World)(o1 o2 o3 o4:Obj):((((w.alloc o1).alloc o2).alloc o3).alloc o4).heap[w.heap.size+1+1]?=some o3:=CM (Kt w o1 o2 o3) _
theorem OA(w:World)(o1 o2 o3 o4:Obj):((((w.alloc o1).alloc o2).alloc o3).alloc o4).heap[w.heap.size+1+1+1]?=some o4:=(by have:=heap_alloc_new (((w.alloc o1).alloc o2).alloc o3) o4;simpa using this)
structure Moves(own:Nat→Prop)(B:Nat)(X Y:World):Prop where
 os:Y.os=X.os
 tape:Y.tape=X.tape
 output:Y.output=X.output
 size:X.heap.size≤Y.heap.size
 block:∀k,k<X.heap.size→¬own k→(k<B∨∃o:Obj,X.heap[k]?=some o∧o.isCells=true)→Y.heap[k]?=X.heap[k]?
section
variable {own:Nat→Prop}{B:Nat}{X Y Z:World}
theorem Moves.mono(h:Moves own B X Y){B':Nat}(hB:B'≤B):Moves own B' X Y:=
 ⟨h.os,h.tape,h.output,h.size,fun i hi ho hb=>h.block i hi ho (by
  rcases hb with hb|hb
  ·exact .inl (Nat.lt_of_lt_of_le hb hB)
  exact .inr hb)⟩
theorem Moves.below(h:Below X.heap.size X Y):Moves own B X Y:=⟨h.os,h.tape,h.output,h.size,fun i hi _ _=>h.block i hi⟩
theorem Moves.grown{g:Nat}(h:X.grownBy Y (some g))(hg:own g):Moves own B X Y:=
 ⟨h.os,h.tape,h.output,h.size,fun i hi ho _=>h.block i hi (fun e=>ho (by injection e with e;rw[e];exact hg))⟩
theorem Moves.set_(X:World){b:Nat}(hb:own b)(v:Value):Moves own B X (X.setCell ⟨b,0,none⟩ v):=Moves.grown (grownBy_setCell' X b v) hb
theorem Moves.put_{l:Nat}{o:Obj}(o':Obj)(hl:X.heap[l]?=some o)(ho:o.isCells=false)(hB:B≤l):Moves own B X (X.putObj l o'):=
 have h:=grownBy_putObj' X l o'
 ⟨h.os,h.tape,h.output,h.size,fun i hi _ hb=>h.block i hi (fun e=>by
  injection e with e;subst e;rcases hb with hb|⟨o2,h1,h2⟩
  ·omega
  rw[hl]at h1;injection h1 with h1;subst h1;rw[ho]at h2;cases h2)⟩
theorem Moves.boxed(h:Moves own B X Y){b:Nat}{t:TypeId}{v:Value}(hb:Boxed X b t v)(hn:¬own b):Boxed Y b t v:=
 (h.block b hb.lt hn (.inr ⟨_,hb,rfl⟩)).trans hb
theorem Moves.under(h:Moves own B X Y){n₀:Nat}{w:World}(hb:Below n₀ w X)(hn:n₀≤w.heap.size)(ho:∀b,own b→n₀≤b)(hB:n₀≤B):Below n₀ w Y:=
 ⟨h.os.trans hb.os,h.tape.trans hb.tape,h.output.trans hb.output,Nat.le_trans hb.size h.size,fun i hi=>by
  refine(h.block i (by have:=hb.size;omega) (fun e=>?_) (.inl (by omega))).trans (hb.block i hi);have:=ho i e
  omega⟩
end
theorem J6{B:Nat}{X Y:World}(h:Below X.heap.size X Y):KeepsFrom B X Y:=⟨h.size,fun k _ _ hk _=>(h.block k (Array.getElem?_eq_some_iff.1 hk).1).trans hk⟩
theorem L0{B:Nat}{X Y:World}(h:KeepsFrom B X Y){b:Nat}(hb:b<B)(v:Value):KeepsFrom B X (Y.setCell ⟨b,0,none⟩ v):=
 h.trans (KeepsFrom.of_grownBy (grownBy_setCell' Y b v) (fun j e=>by cases e;exact hb))
theorem Gg{W:World}{b D:Nat}{t:TypeId}{v:Value}(h:Boxed W b t v)(hne:b≠D)(o:Obj):Boxed (W.putObj D o) b t v:=h.kept (grownBy_putObj' W D o) (fun e=>hne (by injection e))
theorem J7{B:Nat}{w W:World}(h:Below B w W){D:Nat}(hD:B≤D)(o:Obj):Below B w (W.putObj D o):=
 have g:=grownBy_putObj' W D o
 ⟨g.os.trans h.os,g.tape.trans h.tape,g.output.trans h.output,Nat.le_trans h.size g.size,fun k hk=>(World.putObj_heap_other (by omega)).trans (h.block k hk)⟩
theorem Db{P:Program}{n m f:Nat}{args:Array Value}{w:World}{R:Ending→World→Prop}(h:CallsIn Fence.wide m P f args w R):
    Fence.wide.fn f∧(Fence.wide.depth.isSome=true→1≤n)∧CallsIn Fence.wide m P f args w R:=⟨trivial,(fun h=>by cases h),h⟩
def SeqW{α:Type}(F:Fence)(n:Nat)(P:Program)(g:Nat)(lb:Array Value)(encs:α→Array Value)(own:Nat→Prop)(Kp:World→World→Prop)(Pf:List α→Prop)(S Sp:List α→Prop)(w:World):Prop:=
 ∀(l:Nat) (J Jx:List α→World→Prop) (W:World),Below w.heap.size w W→
  (∀s X Y,J s X→Moves own W.heap.size X Y→J s Y)→(∀s X Y,Jx s X→Moves own W.heap.size X Y→Jx s Y)→
  (∀pre x W1,J pre W1→Pf (pre++[x])→YieldAt F (n - 1) P l (encs x) W1 fun e W'=>
    (e= .returned (.bool true)∧J (pre++[x]) W'∧Kp W1 W')∨(e= .returned (.bool false)∧Jx (pre++[x]) W'))→
  J [] W→
  CallsIn F n P g (#[.func (.yield l) #[] #[]]++lb) W fun e W'=>(∃v,e= .returned v)∧((∃xs,S xs∧J xs W')∨(∃pre,Sp pre∧Jx pre W'))
variable {F:Fence}{n:Nat}{P:Program}
theorem RO{α:Type}{g:Operand}{ps:Array Tmp}{assign body:Code}{Q:Exit→Act→World→Prop}{a:Act}{w:World}
    (hro:F.round=none) (h1:1≤n) {gf:Nat} {lb:Array Value} (hg:a.eval g= .func (.func gf) #[] lb) (hFg:F.fn gf) (eg:∀args w,(callFunc gf args).run P w= .ok (.enter gf args) w)
    {encs:α→Array Value} {own:Nat→Prop} {Kp:World→World→Prop} {Pf:List α→Prop} {S Sp:List α→Prop} {w0:World} (hseq:SeqW F (n - 1) P gf lb encs own Kp Pf S Sp w0)
    (hown:∀b,own b→b<w.heap.size) (hKt:∀{A B C:World},Kp A B→Kp B C→Kp A C) (hKb:∀(W:World) (l:Nat) (o o':Obj),w.heap.size≤l→W.heap[l]?=some o→o.isCells=false→Kp W (W.putObj l o'))
    (hb0:Below w0.heap.size w0 w) (hps:∀x,(encs x).size=ps.size)
    (I:List α→World→Prop) (Ix:Code→List α→World→Prop) (hI:∀s X Y,I s X→Moves own w.heap.size X Y→I s Y) (hIx:∀c s X Y,Ix c s X→Moves own w.heap.size X Y→Ix c s Y) (h0:I [] w) (a₁:α→Act)
    (hassign:∀(l:Nat) (x:α) (W:World) (K:Act→World→Prop),K (a₁ x) W→
      assign.wpIn (F.inRound l) (n - 1 - 1) P (Exit.then K (fun _ _ _=>False)) {tmps:=(ps.zip (encs x)).foldl (fun t (p,v)=>t.setIfInBounds p v) a.tmps,defers:=[]} W)
    (hbody:∀(l:Nat) (pre:List α) (x:α) (W:World),I pre W→Pf (pre++[x])→w.heap.size+2≤W.heap.size→body.wpIn (F.inRound l) (n - 1 - 1) P (ownPostG w.heap.size Kp I Ix (pre++[x]) W) (a₁ x) W)
    (hdone:∀(D:Nat) (xs:List α) (W:World),w.heap.size≤D→S xs→I xs W→W.heap[D]?=some (.deferred (some []))→Q .normal {a with defers:={target:= .collected D,args:=#[]}::a.defers} W)
    (hstop:∀(D:Nat) (c:Code) (pre:List α) (W:World),w.heap.size≤D→Sp pre→Ix c pre W→W.heap[D]?=some (.deferred (some []))→c.wpIn F n P Q {a with defers:={target:= .collected D,args:=#[]}::a.defers} W):
    (Code.rangeFunc g ps assign body).wpIn F n P Q a w:=by
 refine wpIn_rangeFunc ?_;intro fn hfn;rw[hro];obtain⟨rec,hrec⟩:∃rec:LoopState→Option Code→Loop,rec=fun st pe=>{state:=st,pending:=pe,fn,tmps:=a.tmps,params:=ps,assign,body,defers:=w.heap.size}:=⟨_,rfl⟩;obtain⟨W1,hW1⟩:∃W1,(w.alloc (.deferred (some []))).alloc (.loop (rec .ready none))=W1:=⟨_,rfl⟩;have hbw:Below w.heap.size w W1:=by rw[←hW1];exact G7 w _ _
 have hsz:W1.heap.size=w.heap.size+2:=by rw[←hW1];simp
 have hL1:W1.heap[w.heap.size+1]?=some (.loop (rec .ready none)):=by rw[←hW1];exact Gb _ _ _
 have hK1:W1.heap[w.heap.size]?=some (.deferred (some [])):=by rw[←hW1];exact Ga _ _ _
 have hn0:¬own w.heap.size:=fun h=>by have:=hown _ h;omega
 have hn1:¬own (w.heap.size+1):=fun h=>by have:=hown _ h;omega
 refine⟨w.heap.size+1,[{target:= .collected w.heap.size,args:=#[]}],W1,{target:= .fn (.func gf) lb,args:=#[.func (.yield (w.heap.size+1)) #[] #[]]},W1,gf,
  #[.func (.yield (w.heap.size+1)) #[] #[]]++lb,W1,?_,?_,?_,?_,fun _=>h1,?_⟩
 ·rw[←hW1,hrec];exact run_enterLoop_outer _ _ _ _ _
 ·simp only[resolve,hg];simp[go_sem]
 ·intro f' hf';simp[Target.leads]at hf';subst hf';exact hFg
 ·simp[invoke,go_sem,eg]
 have lt_of:∀{W:World} {k:Nat} {o:Obj},W.heap[k]?=some o→k<W.heap.size:=fun h=>(Array.getElem?_eq_some_iff.1 h).1;have keep:∀{X Y:World} {k:Nat} {o:Obj},Moves own W1.heap.size X Y→X.heap[k]?=some o→k<W1.heap.size→¬own k→Y.heap[k]?=some o:=fun hm hx hk hn=>(hm.block _ (lt_of hx) hn (.inl hk)).trans hx
 refine(hseq (w.heap.size+1)
  (fun pre W=>I pre W∧W.heap[w.heap.size+1]?=some (.loop (rec .ready none))∧W.heap[w.heap.size]?=some (.deferred (some [])))
  (fun pre W=>∃c,Ix c pre W∧W.heap[w.heap.size+1]?=some (.loop (rec .done (some c)))∧W.heap[w.heap.size]?=some (.deferred (some [])))
  W1 (hb0.trans (hbw.mono hb0.size))
  (fun s X Y hs hm=>⟨hI s X Y hs.1 (hm.mono (by omega)),keep hm hs.2.1 (by omega) hn1,keep hm hs.2.2 (by omega) hn0⟩)
  (fun s X Y hs hm=>by
    obtain⟨c,hc,hl,hk⟩:=hs
    exact⟨c,hIx c s X Y hc (hm.mono (by omega)),keep hm hl (by omega) hn1,keep hm hk (by omega) hn0⟩)
  ?_ ⟨hI _ _ _ h0 (.below hbw),hL1,hK1⟩).mono ?_
 ·rintro pre x W ⟨hi,hl,hk⟩ hpf;have hlt:w.heap.size+1<W.heap.size:=lt_of hl;have hy:=run_yield (P:=P) (args:=encs x) hl (by rw[hrec];exact hps x);rw[hrec]at hy;refine⟨fn,_,assign,body,hy,roundIn_of_wpIn hfn (hassign _ x W _ ⟨_,run_beginRound hl (by rw[hrec]),?_⟩)⟩;have hl2:(W.putObj (w.heap.size+1) (.loop {rec .ready none with state:= .busy})).heap[w.heap.size+1]?=some (.loop {rec .ready none with state:= .busy}):=World.putObj_heap_same hlt;have hk2:(W.putObj (w.heap.size+1) (.loop {rec .ready none with state:= .busy})).heap[w.heap.size]?=some (.deferred (some [])):=(World.putObj_heap_other (by omega)).trans hk;have hw2:Kp W (W.putObj (w.heap.size+1) (.loop {rec .ready none with state:= .busy})):=hKb _ _ _ _ (by omega) hl rfl;refine wpIn_mono (hbody _ pre x _ (hI _ _ _ hi (.put_ _ hl rfl (by omega))) hpf (lt_of hl2)) ?_
  have fin:∀(jump:Option Code) (W3:World),KeepsFrom w.heap.size (W.putObj (w.heap.size+1) (.loop {rec .ready none with state:= .busy})) W3→
      (Instr.endRound (w.heap.size+1) jump).run P W3= .ok (.bool jump.isNone) (W3.putObj (w.heap.size+1) (.loop (rec (if jump.isNone then .ready else .done) jump)))∧
      W3.heap[w.heap.size+1]?=some (.loop {rec .ready none with state:= .busy})∧
      (W3.putObj (w.heap.size+1) (.loop (rec (if jump.isNone then .ready else .done) jump))).heap[w.heap.size+1]?=some (.loop (rec (if jump.isNone then .ready else .done) jump))∧
      (W3.putObj (w.heap.size+1) (.loop (rec (if jump.isNone then .ready else .done) jump))).heap[w.heap.size]?=some (.deferred (some [])):=fun jump W3 hk3=>by
   have hl3:=hk3.same _ _ (by omega) hl2 rfl;have:=run_endRound (P:=P) jump hl3;rw[hrec]at this ⊢;exact⟨this,by rw[hrec]at hl3;exact hl3,World.putObj_heap_same (lt_of hl3),(World.putObj_heap_other (by omega)).trans (hk3.same _ _ (Av _) hk2 rfl)⟩
  rintro e a3 W3 hp
  cases e with
  |normal=>
    obtain⟨hk3,hkp3,hi3⟩:=hp;obtain⟨hr,hl3,hl4,hk4⟩:=fin none W3 hk3;exact⟨_,_,hr, .inl ⟨rfl,⟨hI _ _ _ hi3 (.put_ _ hl3 rfl (by omega)),hl4,hk4⟩,hKt (hKt hw2 hkp3) (hKb _ _ _ _ (by omega) hl3 rfl)⟩⟩
  |ret=>
    obtain⟨hk3,hi3⟩:=hp;obtain⟨hr,hl3,hl4,hk4⟩:=fin (some .ret) W3 hk3;exact⟨_,_,hr, .inr ⟨rfl, .ret,hIx _ _ _ _ hi3 (.put_ _ hl3 rfl (by omega)),hl4,hk4⟩⟩
  |exit id=>
    obtain⟨hk3,hi3⟩:=hp;obtain⟨hr,hl3,hl4,hk4⟩:=fin (some (.exit id)) W3 hk3;exact⟨_,_,hr, .inr ⟨rfl, .exit id,hIx _ _ _ _ hi3 (.put_ _ hl3 rfl (by omega)),hl4,hk4⟩⟩
  |goto t=>
    obtain⟨hk3,hi3⟩:=hp;obtain⟨hr,hl3,hl4,hk4⟩:=fin (some (.goto t)) W3 hk3;exact⟨_,_,hr, .inr ⟨rfl, .goto t,hIx _ _ _ _ hi3 (.put_ _ hl3 rfl (by omega)),hl4,hk4⟩⟩
  |panic ch=>exact hp.elim
  |outgrown=>exact hp.elim
 rintro e W2 ⟨⟨v,rfl⟩,(⟨xs,hS,hi,hl,hk⟩|⟨pre,hSp,c,hi,hl,hk⟩)⟩
 ·exact⟨none,_,by have:=run_endLoop (P:=P) hl (by rw[hrec];simp);rw[hrec]at this;exact this,hdone _ xs _ (Av _) hS (hI _ _ _ hi (.put_ _ hl rfl (by omega))) ((World.putObj_heap_other (by omega)).trans hk)⟩
 exact⟨some c,_,by have:=run_endLoop (P:=P) hl (by rw[hrec];simp);rw[hrec]at this;exact this,hstop _ c pre _ (Av _) hSp (hIx _ _ _ _ hi (.put_ _ hl rfl (by omega))) ((World.putObj_heap_other (by omega)).trans hk)⟩
end
theorem L3{P:Program}{f:FuncId}{xs:List AV}{R:AV}(h:AFn P f xs fun r=>r=R){w:World}{N:Nat}{vs:List Value}(hN:N≤w.heap.size)(hv:BX (fun b _=>b<N) w xs vs):
    Calls P f vs.toArray w fun e w'=>∃(v:Value) (G':Gh),e= .returned v∧rep G' w' R v∧Below w.heap.size w w':=by
 refine Calls.mono (h w (fun b _=>b<N) [] vs (QU (fun b o hb=>Nat.lt_of_lt_of_le hb hN)) (Hm _ _ hv)) ?_;intro e w' h3
 cases e with
 |returned v=>
   obtain⟨r,b,t,G',⟨_,_,rfl⟩,k2,_,k4⟩:=h3;have k:=k2.kept;exact⟨v,G',rfl,k4,⟨k.os,k.tape,k.output,k.size,fun i hi=>k.block i hi (by simp)⟩⟩
 |panicked c=>exact h3.elim
 |outgrown=>exact h3.elim
def SpcIn(s:Spc)(N:Nat)(w:World)(ds ms:Value):Prop:=N≤w.heap.size∧BX (fun b _=>b<N) w (As s) [ds,ms]
theorem SpcIn.keep{s:Spc}{N:Nat}{w w':World}{ds ms:Value}(h:SpcIn s N w ds ms)(hs:w.heap.size≤w'.heap.size)(hb:∀b,b<N→w'.heap[b]?=w.heap[b]?):SpcIn s N w' ds ms:=
 ⟨Nat.le_trans h.1 hs,JR (fun b o hN=>⟨hN,World.cell?_of_block (w:=w) (a:=⟨b,o,none⟩) (hb b hN)⟩) _ _ h.2⟩
theorem SpcIn.below{s:Spc}{N B:Nat}{w w':World}{ds ms:Value}(h:SpcIn s N w ds ms)(hb:Below B w w')(hN:N≤B):SpcIn s N w' ds ms:=
 h.keep hb.size fun b hbN=>hb.block b (Nat.lt_of_lt_of_le hbN hN)
section
variable {s:Spc}{N:Nat}{w:World}{ds ms:Value}(h:SpcIn s N w ds ms)(hs:SpcB s)
include h hs
theorem Wf(a:A6):Calls prog 72 #[.agg #[ds],D9 a] w fun e w'=>
    (∃(A:Option Addr) (m c:Nat),e= .returned (.tuple #[.agg #[.int .i64 (AU s.files a).ino, .int .i64 (AU s.files a).kind, .int .i64 (AU s.files a).mode, .int .i64 (AU s.files a).uid, .int .i64 (AU s.files a).gid, .int .i64 (AU s.files a).parent, .string (AU s.files a).target, .slice A m c], .bool (Cd s.files a)]))∧Below w.heap.size w w':=by
 have h2:=h.2;simp only[As,BX]at h2;obtain⟨z,zs,e1,h3,_⟩:=h2;obtain⟨rfl,rfl⟩:=List.cons.inj e1;refine(L3 (G5 s.files a hs.files) (vs:=[.agg #[ds],D9 a]) h.1 ?_).mono ?_
 ·simp only[BX,AZ,Am,A7,D9];exact⟨_,_,rfl,⟨[ds],rfl,ds,[],rfl,by simpa only[AZ]using h3,rfl⟩,_,_,rfl,⟨[.int .i64 a.1, .int .i64 a.2],rfl,_,_,rfl,rfl,_,_,rfl,rfl,rfl⟩,rfl⟩
 rintro e w' ⟨v,G',rfl,hr,hb⟩;refine⟨?_,hb⟩;simp only[rep,AP,AW,AZ]at hr;obtain⟨ys,rfl,z1,zs1,rfl,⟨ys2,rfl,_,_,rfl,rfl,_,_,rfl,rfl,_,_,rfl,rfl,_,_,rfl,rfl,_,_,rfl,rfl,_,_,rfl,rfl,_,_,rfl,rfl,_,_,rfl,⟨_,A,c,rfl,_⟩,rfl⟩,_,_,rfl,rfl,rfl⟩:=hr;exact⟨A,_,c,rfl⟩
theorem RP(xs:List AV)(vs:List Value)(hx:BX (fun b _=>b<N) w xs vs):BX (fun b _=>b<N) w (.agg (As s)::xs) (.agg #[ds,ms]::vs):=by
 have _:=hs;simp only[BX];refine⟨_,_,rfl,?_,hx⟩;simp only[AZ];exact⟨[ds,ms],rfl,h.2⟩
theorem RQ(a:A6):BX (fun b _=>b<N) w [.agg (As s), .agg (A7 a)] [.agg #[ds,ms],D9 a]:=by
 refine RP h hs _ _ ?_;simp only[BX,AZ,A7,D9];exact⟨_,_,rfl,⟨[.int .i64 a.1, .int .i64 a.2],rfl,_,_,rfl,rfl,_,_,rfl,rfl,rfl⟩,rfl⟩
theorem RR(d:Int):BX (fun b _=>b<N) w [.agg (As s), .v (.int .i64 d)] [.agg #[ds,ms], .int .i64 d]:=by
 refine RP h hs _ _ ?_;simp only[BX,AZ];exact⟨_,_,rfl,rfl,rfl⟩
theorem Wg(d:Int):Calls prog 110 #[.agg #[ds,ms], .int .i64 d] w fun e w'=>
    e= .returned (.tuple #[D9 ((Bk s d).getD (0,0)), .bool (Bk s d).isSome])∧Below w.heap.size w w':=by
 refine(L3 (Nx s d hs) (vs:=[.agg #[ds,ms], .int .i64 d]) h.1 (RR h hs d)).mono ?_;rintro e w' ⟨v,G',rfl,hr,hb⟩;refine⟨?_,hb⟩;simp only[rep,AP,A7]at hr;obtain⟨ys,rfl,z1,zs1,rfl,⟨ys2,rfl,_,_,rfl,rfl,_,_,rfl,rfl,rfl⟩,_,_,rfl,rfl,rfl⟩:=hr;rfl
theorem Wh(a:A6):Calls prog 161 #[.agg #[ds,ms],D9 a] w fun e w'=>e= .returned (.bool (Al s.files a))∧Below w.heap.size w w':=by
 refine(L3 (VZ s a hs) (vs:=[.agg #[ds,ms],D9 a]) h.1 (RQ h hs a)).mono ?_;rintro e w' ⟨v,G',rfl,hr,hb⟩;simp only[rep]at hr;exact⟨by rw[hr],hb⟩
theorem Wi(d:Int):Calls prog 70 #[.agg #[ds,ms], .int .i64 d] w fun e w'=>e= .returned (.bool (Bz s d))∧Below w.heap.size w w':=by
 refine(L3 (Qo s d hs) (vs:=[.agg #[ds,ms], .int .i64 d]) h.1 (RR h hs d)).mono ?_;rintro e w' ⟨v,G',rfl,hr,hb⟩;simp only[rep]at hr;exact⟨by rw[hr],hb⟩
end
theorem SpcIn.devs{s:Spc}{N:Nat}{w:World}{ds ms:Value}(h:SpcIn s N w ds ms):∃A cap,ds= .slice A s.files.length cap∧s.files.length≤cap∧cap≤maxLen∧
    (0<s.files.length→∃b off,A=some ⟨b,off,none⟩∧b<N∧∀i d,s.files[i]?=some d→w.cell? ⟨b,off+i * 2,none⟩=some (.int .i64 d.next)∧∃A2 cap2,w.cell? ⟨b,off+i * 2+1,none⟩=some (.slice A2 d.nodes.length cap2)):=by
 have h2:=h.2;simp only[As,BX]at h2;obtain⟨z,zs,e1,h3,_⟩:=h2;obtain⟨rfl,rfl⟩:=List.cons.inj e1;simp only[AZ,List.length_map]at h3;obtain⟨_,A,cap,rfl,h4,h5,h6⟩:=h3;refine⟨A,cap,rfl,h4,h5,fun hpos=>?_⟩;rcases h6 with h6|⟨b,off,rfl,h6⟩
 ·simp at h6;rw[h6]at hpos;simp at hpos
 refine⟨b,off,rfl,?_,?_⟩
 ·obtain⟨_,h8⟩:=Hn h6 (i:=0) (r:=Bp (s.files[0]'hpos)) (by simp[hpos]);simp only[Bp,CZ]at h8;exact h8.1.1
 intro i d hd;obtain⟨_,h8⟩:=Hn h6 (i:=i) (r:=Bp d) (by simp[hd]);simp only[Bp,CZ,AZ,List.length_map]at h8;obtain⟨⟨_,u,h9,_,rfl⟩,⟨_,u2,h10,_,_,A2,cap2,rfl,_⟩,_⟩:=h8;exact⟨h9,A2,cap2,h10⟩
theorem RS(ds ms:Value)(a:A6)(w:World):
    Calls prog 73 #[.agg #[ds,ms],D9 a] w fun e w'=>
     e= .returned (.func (.func 115) #[] #[.pointer (some ⟨w.heap.size,0,none⟩), .pointer (some ⟨w.heap.size+1,0,none⟩)])∧
     w'=(w.alloc (.cells #[ds,ms] 30)).alloc (.cells #[.int .i64 a.1, .int .i64 a.2] 33):=by
 unfold D9
 go_enter Tryz.func73,Tryz.ntmps73
 go_wp2
 go_ret
 exact⟨by simp,rfl⟩
end Go.Proofs.YtobclmbkdhbnpaaGreatDoor
namespace Go.Proofs.YtobclmbkdhbnpaaGreatDoor
open Go.RowKit Go.Shelf
attribute [local go_sem] Oper.semAt_some
theorem Wj{n:Nat}{P:Program}{c:Code}{Q:Exit→Act→World→Prop}{a:Act}{w:World}(h:c.wpIn Fence.wide n P (Exit.noGoto Q) a w):(Code.scope c).wpIn Fence.wide n P Q a w:=
 wpIn_wide.2 (wp_scope_straight (wpIn_wide.1 h))
theorem Moves.setc{own:Nat→Prop}{B:Nat}(X:World){p:Addr}(hb:own p.block)(v:Value):Moves own B X (X.setCell p v):=
 have h:Below 0 X (X.setCell p v):=(Below.refl 0 X).setCell (BC _) v
 ⟨h.os,h.tape,h.output,h.size,fun k _ hk _=>Below.heap_setCell X p v k fun e=>hk (by rw[e];exact hb)⟩
def Dr(s:Spc)(a:A6):Option A6:=
 if(AU s.files a).ino≠1 then some (a.1,(AU s.files a).parent)
 else if a.1=0 then none else Bk s a.1
def B8(s:Spc):Nat→A6→List A6
 |0,_=>[]
 |k+1,a=>if Al s.files a then a::(match Dr s a with
   |none=>[]
   |some b=>B8 s k b)else[]
def BM(f:AR):Nat:=(f.map fun d=>d.nodes.length).sum
def KeepC(N sb db:Nat)(X Y:World):Prop:=X.heap.size≤Y.heap.size∧Y.heap[sb]?=X.heap[sb]?∧Y.heap[db]?=X.heap[db]?∧(∀b,b<N→Y.heap[b]?=X.heap[b]?)∧
 ∀(b:Nat) (cs:Array Value),X.heap[b]?=some (.cells cs 65)→Y.heap[b]?=some (.cells cs 65)
theorem KeepC.trans{N sb db:Nat}{X Y Z:World}(h:KeepC N sb db X Y)(k:KeepC N sb db Y Z):KeepC N sb db X Z:=
 ⟨Nat.le_trans h.1 k.1,k.2.1.trans h.2.1,k.2.2.1.trans h.2.2.1,fun b hb=>(k.2.2.2.1 b hb).trans (h.2.2.2.1 b hb),fun b cs hb=>k.2.2.2.2 b cs (h.2.2.2.2 b cs hb)⟩
theorem RT{N sb db B:Nat}(hN:N≤B)(hs:sb<B)(hd:db<B)(W:World)(l:Nat)(o o':Obj)(hl:B≤l)(ho:W.heap[l]?=some o)(hc:o.isCells=false):KeepC N sb db W (W.putObj l o'):=
 ⟨(grownBy_putObj' W l o').size,World.putObj_heap_other (by omega),World.putObj_heap_other (by omega),fun b hb=>World.putObj_heap_other (by omega),fun b cs hb=>by
  refine(World.putObj_heap_other fun e=>?_).trans hb;subst e;rw[ho]at hb;injection hb with hb;subst hb
  cases hc⟩
theorem L4{N sb db:Nat}{X Y:World}(h:Below X.heap.size X Y)(hN:N≤X.heap.size)(hs:sb<X.heap.size)(hd:db<X.heap.size):KeepC N sb db X Y:=
 ⟨h.size,h.block _ hs,h.block _ hd,fun b hb=>h.block _ (by omega),fun b cs hb=>(h.block _ (Array.getElem?_eq_some_iff.1 hb).1).trans hb⟩
theorem RU{f:AR}(hf:FlsB f)(j:Nat):BM (f.take j)≤1000000:=by
 have:∀(l:AR),(∀d∈l,d.nodes.length≤1000)→BM l≤l.length * 1000:=by
  intro l
  induction l with
  |nil=>intro _;simp[BM]
  |cons d l ih=>
    intro h;have h1:=ih fun d hd=>h d (List.mem_cons_of_mem _ hd);have h2:=h d (List.mem_cons_self ..);simp only[BM,List.map_cons,List.sum_cons,List.length_cons]at h1 ⊢;omega
 have h1:=this (f.take j) fun d hd=>hf.nodes d (List.mem_of_mem_take hd);have h2:=hf.few;have h3:(f.take j).length≤f.length:=by simp;omega
 have:(f.take j).length * 1000≤1000 * 1000:=Nat.mul_le_mul_right _ (by omega);omega
theorem Wl{f:AR}{j:Nat}{d:Dvc}(h:f[j]?=some d):BM (f.take (j+1))=BM (f.take j)+d.nodes.length:=by
 rw[List.take_add_one,h];simp[BM]
set_option maxRecDepth 100000 in
set_option maxHeartbeats 2000000 in
theorem RV(n:Nat)(s:Spc)(hs:SpcB s)(a0:A6)(N sb db:Nat)(ds ms:Value)(w:World)(h0:w.heap[sb]?=some (.cells #[ds,ms] 30))(h1:w.heap[db]?=some (.cells #[.int .i64 a0.1, .int .i64 a0.2] 33))
    (hS:SpcIn s N w ds ms) (hNs:N≤sb) (hNd:N≤db) (hne:sb≠db):
    SeqW Fence.wide n prog 115 #[.pointer (some ⟨sb,0,none⟩), .pointer (some ⟨db,0,none⟩)] (fun x:A6=>#[D9 x]) (fun b=>b=db) (KeepC N sb db) (fun xs=>xs<+:B8 s (BM s.files) a0)
     (fun xs=>xs=B8 s (BM s.files) a0) (fun pre=>pre<+:B8 s (BM s.files) a0) w:=fun l J Jx W hW hJ hJx hY hst=>by
 have lt_of:∀{W:World} {k:Nat} {o:Obj},W.heap[k]?=some o→k<W.heap.size:=fun h=>(Array.getElem?_eq_some_iff.1 h).1;have k0:W.heap[sb]?=some (.cells #[ds,ms] 30):=BJ h0 hW (lt_of h0);have k1:W.heap[db]?=some (.cells #[.int .i64 a0.1, .int .i64 a0.2] 33):=BJ h1 hW (lt_of h1);have kS:SpcIn s N W ds ms:=hS.below hW hS.1;obtain⟨A,cap,rfl,hcap,hcm,hdev⟩:=kS.devs;obtain⟨c0,f0⟩:=Bq k0;obtain⟨c1,f1⟩:=Bq k1;have hfew:=hs.files.few;have HD:=Lib.hid hdev;have HW:=Lib.hid hW;have HJ:=Lib.hid hJ;have HJx:=Lib.hid hJx;have HY:=Lib.hid hY;clear hdev hS hW hJ hJx hY h0 h1;refine callsIn_of_wp Tryz.func115 rfl trivial ?_ rfl;simp only[Tryz.ntmps115,List.size_toArray,List.length_cons,List.length_nil,Nat.reduceAdd,Nat.reduceSub,Array.replicate_succ,Array.replicate_zero,List.push_toArray,List.append_toArray,List.nil_append,List.cons_append]
 gi_wp2
 refine Wj ?_
 gi_wp2
 gi_loopw [4,14] (fun t i wr=>∃j:Nat,j≤s.files.length∧i= .int .i64 j∧t= .int .i64 (BM (s.files.take j))∧Below W.heap.size W wr) (fun _ i _=>s.files.length - (intOf i).toNat)
 case atStart=>exact⟨0,BC _,rfl,rfl,Below.refl _ _⟩
 case round=>
  obtain⟨j,hj,rfl,rfl,hb⟩:=hrel;have hNW:=kS.1;by_cases hlt:j<s.files.length
  ·obtain⟨b,off,rfl,hbN,hrow⟩:=HD.out (by omega);obtain⟨r1,A2,cap2,r2⟩:=hrow j _ (BG hlt);have r1':=(World.cell?_of_block (w:=W) (w':=wr) (a:=⟨b,off+j * 2,none⟩) (hb.block b (by omega))).trans r1;have r2':=(World.cell?_of_block (w:=W) (w':=wr) (a:=⟨b,off+j * 2+1,none⟩) (hb.block b (by omega))).trans r2;have hM:=RU hs.files j;have hL:=hs.files.nodes _ (List.getElem_mem hlt);have HE:=Lib.hid (Wl (BG hlt));generalize (s.files[j]).nodes.length=L at *;generalize (s.files[j]).next=nx at *;generalize BM (s.files.take j)=M at *;clear hrow r1 r2 hs
   gi_wp2
   go_roundw
   case rel=>exact⟨j+1,by omega,by go_num,by rw[HE.out];go_num,hb.alloc hb.size _⟩
   case measure=>simp[intOf];omega
  have ej:j=s.files.length:=by omega
  subst ej;have hM:=RU hs.files s.files.length;rw[List.take_length]at hM;rw[List.take_length];have k0':=BJ k0 hb (lt_of k0);have k1':=BJ k1 hb (lt_of k1);have kS':=kS.below hb hNW;have hJ0:J [] wr:=HJ.out _ _ _ hst (Moves.below hb)
  gi_wp2
  refine wpIn_label ?_
  gi_wp2
  clear c0 f0 c1 f1 k0 k1 kS hst;obtain⟨M,hM0⟩:∃M,BM s.files=M:=⟨_,rfl⟩;rw[hM0]at hM ⊢;have HM:=Lib.hid hM0;clear hM0
  gi_loopw [25] (fun i wr=>∃(j:Nat) (pre:List A6) (cur:A6),j≤M∧i= .int .i64 j∧J pre wr∧wr.heap[sb]?=some (.cells #[.slice A s.files.length cap,ms] 30)∧
   wr.heap[db]?=some (.cells #[.int .i64 cur.1, .int .i64 cur.2] 33)∧SpcIn s N wr (.slice A s.files.length cap) ms∧Hid (pre++B8 s (M - j) cur=B8 s M a0)) (fun i _=>M - (intOf i).toNat)
  case atStart=>exact⟨0,[],a0,BC _,rfl,hJ0,k0',k1',kS',rfl⟩
  case round=>
   obtain⟨j,pre,cur,hj,rfl,hJp,m0,m1,mS,hch⟩:=hrel;clear k0' k1' kS' hJ0;obtain⟨c0,f0⟩:=Bq m0;obtain⟨c1,f1⟩:=Bq m1;by_cases hlt:j<M
   ·have HC:Hid (B8 s (M - j) cur=if Al s.files cur then cur::(match Dr s cur with
       |none=>[]
       |some b=>B8 s (M - (j+1)) b)else[]):=by
       rw[show M - j=(M - (j+1))+1 by omega];exact Lib.hid rfl
    gi_wp2_with fail
    refine Db ((callsIn_wide.2 (Wf mS hs cur)).mono ?_);rintro e w1 ⟨⟨eA,em,ec,rfl⟩,hb1⟩;have HB1:=Lib.hid hb1;have HD1:=Lib.hid (Fb s.files cur);obtain⟨nd,hnd⟩:∃nd,AU s.files cur=nd:=⟨_,rfl⟩;have HN:=Lib.hid hnd;obtain⟨hg,hhg⟩:∃hg,Cd s.files cur=hg:=⟨_,rfl⟩;have HH:=Lib.hid hhg;have n0:=BJ m0 hb1 (lt_of m0);have n1:=BJ m1 hb1 (lt_of m1);have nS:=mS.below hb1 mS.1;have hz:=hb1.size;clear c0 f0 c1 f1;obtain⟨c0,f0⟩:=Bq n0;obtain⟨c1,f1⟩:=Bq n1;rw[hnd,hhg];clear hb1 hnd hhg
    cases hg with
    |false=>
      have HE:Hid (B8 s (M - j) cur=[]):=Lib.hid (by rw[HC.out,HD1.out,HH.out];simp)
      gi_wp2
      refine⟨fun _ h=>(by cases h),?_⟩
      gi_wp2
      rw[Exit.noGoto_ret];refine bodyPost_ret (results_none rfl _ _ _) rfl ?_;exact⟨⟨_,rfl⟩, .inl ⟨pre,by rw[HM.out,←hch.out,HE.out];simp,HJ.out _ _ _ hJp (Moves.below (HB1.out.alloc hz _))⟩⟩
    |true=>
      by_cases hk:nd.kind=2
      ·have HE:Hid (B8 s (M - j) cur=cur::(match Dr s cur with
          |none=>[]
          |some b=>B8 s (M - (j+1)) b)):=Lib.hid (by rw[HC.out,HD1.out,HH.out,HN.out];simp[hk])
       obtain⟨W2,hW2⟩:∃W2,w1.alloc (.cells #[.int .i64 nd.ino, .int .i64 2, .int .i64 nd.mode, .int .i64 nd.uid, .int .i64 nd.gid, .int .i64 nd.parent, .string nd.target, .slice eA em ec] 65)=W2:=⟨_,rfl⟩;have hB2:Below wr.heap.size wr W2:=by rw[←hW2];exact HB1.out.alloc hz _
       have hJ2:J pre W2:=HJ.out _ _ _ hJp (Moves.below hB2);have q7:W2.heap[w1.heap.size]?=some (.cells #[.int .i64 nd.ino, .int .i64 2, .int .i64 nd.mode, .int .i64 nd.uid, .int .i64 nd.gid, .int .i64 nd.parent, .string nd.target, .slice eA em ec] 65):=by rw[←hW2];exact GZ _ _
       have q0:=BJ m0 hB2 (lt_of m0);have q1:=BJ m1 hB2 (lt_of m1);have qS:=mS.below hB2 mS.1;obtain⟨fn,tmps,assign,body,hy,hR⟩:=HY.out pre cur W2 hJ2 (by rw[HM.out,←hch.out,HE.out];exact⟨_,by rw[List.append_assoc];rfl⟩);rw[←hW2]at hy;unfold D9 at hy;have HH2:=Lib.hid hW2;clear hW2
       gi_wp2
       refine⟨(fun h=>by cases h),?_⟩;rw[HH2.out];refine hR.mono ?_;rintro e W3 (⟨rfl,hJ3,hk3⟩|⟨rfl,hJx3⟩)
       ·obtain⟨z0,z1,z2,z3,z4⟩:=hk3;have r0:=z1.trans q0;have r1:=z2.trans q1;have r7:=z4 _ _ q7;have rS:=qS.keep z0 z3;clear hy hR c0 f0 c1 f1 q0 q1 q7 qS;obtain⟨c0,f0⟩:=Bq r0;obtain⟨c1,f1⟩:=Bq r1;obtain⟨c7,f7⟩:=Bq r7;by_cases hi:nd.ino=1
        ·gi_wp2_with fail
         refine Db ((callsIn_wide.2 (Wg rS hs cur.1)).mono ?_);rintro e w4 ⟨rfl,hb4⟩;have HP:=Lib.hid (show Dr s cur=if cur.1=0 then none else Bk s cur.1 by unfold Dr;rw[HN.out,if_neg (by simp[hi])]);obtain⟨pl,hpl⟩:∃pl,Bk s cur.1=pl:=⟨_,rfl⟩;rw[hpl];have HPL:=Lib.hid hpl;have s0:=BJ r0 hb4 (lt_of r0);have s1:=BJ r1 hb4 (lt_of r1);have sS:=rS.below hb4 rS.1;have sz:=hb4.size;have sJ:=HJ.out _ _ _ hJ3 (Moves.below hb4);clear c0 f0 c1 f1 c7 f7 hb4 hpl r0 r1 r7 rS;obtain⟨c0,f0⟩:=Bq s0;obtain⟨c1,f1⟩:=Bq s1;unfold D9
         cases pl with
         |none=>
           have HS:Hid (Dr s cur=none):=Lib.hid (by rw[HP.out,HPL.out];split<;>rfl)
           gi_wp2
           rw[Exit.noGoto_ret];refine bodyPost_ret (results_none rfl _ _ _) rfl ?_;exact⟨⟨_,rfl⟩, .inl ⟨pre++[cur],by rw[HM.out,←hch.out,HE.out,HS.out],HJ.out _ _ _ sJ (Moves.below ((Below.refl _ _).alloc (Av _) _))⟩⟩
         |some on=>
           by_cases hd:cur.1=0
           ·have HS:Hid (Dr s cur=none):=Lib.hid (by rw[HP.out,if_pos hd])
            gi_wp2
            rw[Exit.noGoto_ret];refine bodyPost_ret (results_none rfl _ _ _) rfl ?_;exact⟨⟨_,rfl⟩, .inl ⟨pre++[cur],by rw[HM.out,←hch.out,HE.out,HS.out],HJ.out _ _ _ sJ (Moves.below ((Below.refl _ _).alloc (Av _) _))⟩⟩
           have HS:Hid (Dr s cur=some on):=Lib.hid (by rw[HP.out,if_neg hd,HPL.out])
           gi_wp2
           have t1:=CM (Jh (Jh s1 0 (.int .i64 on.1)) 1 (.int .i64 on.2)) (.cells #[.int .i64 on.1, .int .i64 on.2] 33);have t0:=CM (J1 (J1 s0 (p:=⟨db,0,none⟩) hne (.int .i64 on.1)) (p:=⟨db,1,none⟩) hne (.int .i64 on.2)) (.cells #[.int .i64 on.1, .int .i64 on.2] 33)
           have hb5:Below N w4 (((w4.setCell ⟨db,0,none⟩ (.int .i64 on.1)).setCell ⟨db,1,none⟩ (.int .i64 on.2)).alloc (.cells #[.int .i64 on.1, .int .i64 on.2] 33)):=
            (((Below.refl _ _).setCell hNd _).setCell hNd _).alloc (by simpa using sS.1) _
           refine⟨⟨j+1,pre++[cur],on,by omega,by go_num,?_,t0,by simpa using t1,sS.below hb5 (Av _),Lib.hid ?_⟩,by simp[intOf];omega⟩
           ·exact HJ.out _ _ _ (HJ.out _ _ _ (HJ.out _ _ _ sJ (Moves.setc (own:=fun b=>b=db) (p:=⟨db,0,none⟩) _ rfl _)) (Moves.setc (own:=fun b=>b=db) (p:=⟨db,1,none⟩) _ rfl _)) (Moves.below ((Below.refl _ _).alloc (Av _) _))
           rw[←hch.out,HE.out,HS.out];simp
        have HS:Hid (Dr s cur=some (cur.1,nd.parent)):=Lib.hid (by unfold Dr;rw[HN.out,if_pos hi])
        gi_wp2
        have m1':=Jh r1 1 (.int .i64 nd.parent);have m0':=J1 r0 (p:=⟨db,1,none⟩) hne (.int .i64 nd.parent);have hb4:Below N W3 (W3.setCell ⟨db,1,none⟩ (.int .i64 nd.parent)):=(Below.refl _ _).setCell hNd _;refine⟨⟨j+1,pre++[cur],(cur.1,nd.parent),by omega,by go_num,HJ.out _ _ _ hJ3 (Moves.setc (own:=fun b=>b=db) (p:=⟨db,1,none⟩) _ rfl _),m0',by simpa using m1',rS.below hb4 (Av _),Lib.hid ?_⟩,by simp[intOf];omega⟩;rw[←hch.out,HE.out,HS.out];simp
       clear hy hR
       gi_wp2
       rw[Exit.noGoto_ret];refine bodyPost_ret (results_none rfl _ _ _) rfl ?_;exact⟨⟨_,rfl⟩, .inr ⟨pre++[cur],by rw[HM.out,←hch.out,HE.out];exact⟨_,by rw[List.append_assoc];rfl⟩,hJx3⟩⟩
      have HE:Hid (B8 s (M - j) cur=[]):=Lib.hid (by rw[HC.out,HD1.out,HH.out,HN.out];simp[hk])
      gi_wp2
      refine⟨fun _ h=>(by cases h),?_⟩
      gi_wp2
      rw[Exit.noGoto_ret];refine bodyPost_ret (results_none rfl _ _ _) rfl ?_;exact⟨⟨_,rfl⟩, .inl ⟨pre,by rw[HM.out,←hch.out,HE.out];simp,HJ.out _ _ _ hJp (Moves.below (HB1.out.alloc hz _))⟩⟩
   have HC:Hid (B8 s (M - j) cur=[]):=by rw[show M - j=0 by omega];exact Lib.hid rfl
   gi_wp2
   rw[Exit.noGoto_normal]
   go_end0
   exact⟨⟨_,rfl⟩, .inl ⟨pre,by rw[HM.out,←hch.out,HC.out];simp,hJp⟩⟩
end Go.Proofs.YtobclmbkdhbnpaaGreatDoor
namespace Go.Proofs.YtobclmbkdhbnpaaGreatDoor
open Go.RowKit
theorem DF{es:List B6}{j:Nat}{e:B6}(h:es[j]?=some e)(name:AB)(ino:Int)(dn:Bool):Eo name ino dn (es.drop j)=(if !dn&& !EK e.1 name then[(name,ino)]else[])++((if e.1=name then[]else[e])++Eo name ino (dn|| !EK e.1 name) (es.drop (j+1))):=by
 obtain⟨hj,rfl⟩:=Ag.1 h;rw[List.drop_eq_getElem_cons hj];rfl
section
theorem MP(f:AR)(q:Nat)(d:Dvc)(n:Nod)(i:Nat)(a:A6)(name:AB)(ino:Int)(cap cap1:Nat)(hf:FlsB f)(hq:f[q]?=some d)(ha:a.1=(q:Int))(hi:ER f a=(i:Int))(hn:d.nodes[i]?=some n)(hcap:f.length≤cap)(hcap1:d.nodes.length≤cap1):
    ACall prog 37 [.agg [.bs 0 0 2 f.length cap], .agg (A7 a), .v (.string name), .v (.int .i64 ino)] [DB f q d 1 cap cap1,NB d.nodes cap1] (fun r b t=>t=[]∧r= .tup []∧b=[DB f q d 1 cap cap1,NB (d.nodes.set i {n with entries:=CE n.entries name ino}) cap1]):=by
 have hql:=(Ag.1 hq).1;have hil:=(Ag.1 hn).1;have hen:=hf.ents d (Au hq) n (Au hn);have hN0:0+i * 8+8≤(NB d.nodes cap1).length:=by rw[Ky hcap1];omega
 have hD0:(DB f q d 1 cap cap1)[0+q * 2+1]?=some (.bs 1 0 8 d.nodes.length cap1):=Ge hql;have hset:SetAt (NB d.nodes cap1) (0+i * 8+7) [.sl 2 ((CE n.entries name ino).map CA) none] (NB (d.nodes.set i {n with entries:=CE n.entries name ino}) cap1):=RG hn (by repeat constructor) (by simp);refine enter Tryz.func37 rfl rfl rfl rfl rfl 2 rfl ?_;refine w_ (b_ (h:=b_ (h:=e_ (?_))));refine BR (fun t=>t=⟨look [(2, .v (.string name)),(3, .v (.int .i64 ino)),(4, .bp 2 0),(5, .bp 3 0),(8, .bp 4 0)],⟨[DB f q d 1 cap cap1,NB d.nodes cap1,[.bs 0 0 2 f.length cap],A7 a,AW n],[]⟩⟩) ?_ ?_
 ·skip
  refine Bo ([(0,DB f q d 1 cap cap1),(1,NB d.nodes cap1),(2,[.bs 0 0 2 f.length cap]),(3,A7 a)]) 13 (h:=AJ 0 (h:=?_))
  first|refine AF 1 (h:=?_)|refine B5 1 rfl (fun _ hS=>Bd (row:=DB f q d 1 cap cap1) rfl (kb hS rfl) hD0 ⟨rfl,rfl⟩) ?_|refine B5 1 rfl (fun _ hS=>Cv (row:=NB d.nodes cap1) rfl (kb hS rfl) hN0 (Gf hn) ⟨rfl,rfl⟩) ?_
  refine AJ 2 (h:=?_)
  first|refine AF 3 (h:=?_)|refine B5 3 rfl (fun _ hS=>Bd (row:=DB f q d 1 cap cap1) rfl (kb hS rfl) hD0 ⟨rfl,rfl⟩) ?_|refine B5 3 rfl (fun _ hS=>Cv (row:=NB d.nodes cap1) rfl (kb hS rfl) hN0 (Gf hn) ⟨rfl,rfl⟩) ?_
  refine B5 4 rfl (fun _ hS=>D6 (m:=q) rfl rfl ha hql ⟨rfl,rfl⟩) ?_;refine AJ 5 (h:=?_)
  first|refine AF 6 (h:=?_)|refine B5 6 rfl (fun _ hS=>Bd (row:=DB f q d 1 cap cap1) rfl (kb hS rfl) hD0 ⟨rfl,rfl⟩) ?_|refine B5 6 rfl (fun _ hS=>Cv (row:=NB d.nodes cap1) rfl (kb hS rfl) hN0 (Gf hn) ⟨rfl,rfl⟩) ?_
  first|refine AF 7 (h:=?_)|refine B5 7 rfl (fun _ hS=>Bd (row:=DB f q d 1 cap cap1) rfl (kb hS rfl) hD0 ⟨rfl,rfl⟩) ?_|refine B5 7 rfl (fun _ hS=>Cv (row:=NB d.nodes cap1) rfl (kb hS rfl) hN0 (Gf hn) ⟨rfl,rfl⟩) ?_
  first|refine AF 8 (h:=?_)|refine B5 8 rfl (fun _ hS=>Bd (row:=DB f q d 1 cap cap1) rfl (kb hS rfl) hD0 ⟨rfl,rfl⟩) ?_|refine B5 8 rfl (fun _ hS=>Cv (row:=NB d.nodes cap1) rfl (kb hS rfl) hN0 (Gf hn) ⟨rfl,rfl⟩) ?_
  refine Fa 9 12 rfl rfl ?_ ?_
  ·refine EJ 2 rfl (.cons _ _ _ _ _ rfl (LeA.of_eq (J5 hq hcap hcap1 (BC _) (BC _) rfl rfl)) (.cons _ _ _ _ _ rfl (AM _) .nil)) (Hz f a hf) ?_;rintro r rfl;refine⟨rfl,?_⟩;refine o_ (h:=?_);refine B5 10 rfl (fun _ hS=>D6 (m:=i) rfl rfl hi hil ⟨rfl,rfl⟩) ?_
   first|refine AF 11 (h:=?_)|refine B5 11 rfl (fun _ hS=>Bd (row:=DB f q d 1 cap cap1) rfl (kb hS rfl) hD0 ⟨rfl,rfl⟩) ?_|refine B5 11 rfl (fun _ hS=>Cv (row:=NB d.nodes cap1) rfl (kb hS rfl) hN0 (Gf hn) ⟨rfl,rfl⟩) ?_
   refine c_ 12 rfl (Cn (by repeat constructor) ?_);refine o_ (h:=?_);refine BA 13 rfl (B1 rfl rfl rfl rfl rfl rfl (by repeat constructor) (by repeat constructor) ?_);refine o_ (h:=z_ (h:=?_));refine AG ?_;exact⟨_,rfl,BT 5 0 (by simp[Ai,Ac,Af,Bg,Bh,A7,AW])⟩
  refine Cn (by repeat constructor) ?_;refine o_ (h:=?_);refine c_ 9 rfl (EJ 2 rfl (.cons _ _ _ _ _ rfl (LeA.of_eq (J5 hq hcap hcap1 (BC _) (BC _) rfl rfl)) (.cons _ _ _ _ _ rfl (AM _) .nil)) (Hz f a hf) ?_);rintro r rfl;refine⟨rfl,?_⟩;refine o_ (h:=?_);refine B5 10 rfl (fun _ hS=>D6 (m:=i) rfl rfl hi hil ⟨rfl,rfl⟩) ?_
  first|refine AF 11 (h:=?_)|refine B5 11 rfl (fun _ hS=>Bd (row:=DB f q d 1 cap cap1) rfl (kb hS rfl) hD0 ⟨rfl,rfl⟩) ?_|refine B5 11 rfl (fun _ hS=>Cv (row:=NB d.nodes cap1) rfl (kb hS rfl) hN0 (Gf hn) ⟨rfl,rfl⟩) ?_
  refine BA 13 rfl (B1 rfl rfl rfl rfl rfl rfl (by repeat constructor) (by repeat constructor) ?_);refine o_ (h:=z_ (h:=?_));refine AG ?_;exact⟨_,rfl,BT 5 0 (by simp[Ai,Ac,Af,Bg,Bh,A7,AW])⟩
 rintro t rfl;refine w_ (a_ (h:=e_ (w_ (m_ (h:=Ah (h:=a_ (h:=e_ (q_ (w_ (a_ (h:=e_ (Ap (?_)))))))))))));refine Q9 9 88 2 rfl (by repeat constructor) ?_;refine By (fun m t=>∃(j:Nat) (acc:List B6) (dn:Bool),j≤n.entries.length∧m=n.entries.length - j∧acc++Eo name ino dn (n.entries.drop j)=CE n.entries name ino∧acc.length≤2 * j∧t=⟨look [(2, .v (.string name)),(3, .v (.int .i64 ino)),(4, .bp 2 0),(5, .bp 3 0),(8, .bp 4 0),(9, .sl 2 (acc.map CA) (some 0)),(10, .v (.bool dn)),(11, .v (.int .i64 (j:Int)))],⟨[DB f q d 1 cap cap1,NB d.nodes cap1,[.bs 0 0 2 f.length cap],A7 a,AW n],[(88,2,acc.map CA)]⟩⟩) (n.entries.length) (BT 5 1 (by simp[Ai,Ac,Af,Bg,Bh,A7,AW])) (⟨0,[],_,BC _,rfl,rfl,by simp,rfl⟩) ?_;rintro m t ⟨j,acc,dn,hj,rfl,hacc,hal,rfl⟩;refine q_ (w_ (m_ (h:=f_ (h:=l_ (h:=n_ (h:=BQ (h:=e_ (?_))))))));refine AA rfl (fun hb1=>?_) (fun hb1=>?_)
 ·have hc1:=bp hb1;obtain⟨hlt,e,hy,hrow, -⟩:=Cp CA hc1;refine AO (q_ (Ap (q_ (w_ (m_ (h:=Bt (h:=m_ (h:=?_))))))));refine Aw true rfl rfl (fun hb2=>?_) (fun hb2=>?_)
  ·have hc2:=bp hb2;have hdn:=hc2;refine f_ (h:=l_ (h:=m_ (h:=i_ (h:=f_ (h:=l_ (h:=m_ (h:=Fz (h:=AY (h:=e_ (?_))))))))));refine AA rfl (fun hb3=>?_) (fun hb3=>?_)
   ·have hc3:=bp hb3;have hsl:EK e.1 name=false:=hc3;refine w_ (m_ (h:=m_ (h:=m_ (h:=Aa (h:=CR (h:=GT (h:=a_ (h:=e_ (AX (a_ (h:=e_ (w_ (f_ (h:=l_ (h:=m_ (h:=i_ (h:=f_ (h:=l_ (h:=m_ (h:=Bf (h:=e_ (?_))))))))))))))))))))));refine AA rfl (fun hb4=>?_) (fun hb4=>?_)
    ·have hc4:=bp hb4;have hnm:¬e.1=name:=hc4;refine AX (m_ (h:=f_ (h:=l_ (h:=m_ (h:=i_ (h:=l_ (h:=CR (h:=GT (h:=a_ (h:=AT (Ay (t_ (AX (m_ (h:=BB (h:=a_ (h:=AT (?_))))))))))))))))));refine AG ?_
     first|(exact⟨n.entries.length - (j+1),_,by omega,⟨j+1,acc++[(name,ino)]++[e],true,by omega,rfl,(by rw[←hacc,DF hy];first|(simp only[hsl,hdn];simp[hnm];done)|(simp only[hdn];simp[hnm];done)),(by(try simp);omega),rfl⟩,(by(try simp only[List.map_append,List.map_cons,List.map_nil]);exact BT 5 1 (by simp[Ai,Ac,Af,Bg,Bh,A7,AW]))⟩)|(exact⟨n.entries.length - (j+1),_,by omega,⟨j+1,acc++[(name,ino)],true,by omega,rfl,(by rw[←hacc,DF hy];first|(simp only[hsl,hdn];simp[hnm];done)|(simp only[hdn];simp[hnm];done)),(by(try simp);omega),rfl⟩,(by(try simp only[List.map_append,List.map_cons,List.map_nil]);exact BT 5 1 (by simp[Ai,Ac,Af,Bg,Bh,A7,AW]))⟩)|(exact⟨n.entries.length - (j+1),_,by omega,⟨j+1,acc++[e],dn,by omega,rfl,(by rw[←hacc,DF hy];first|(simp only[hsl,hdn];simp[hnm];done)|(simp only[hdn];simp[hnm];done)),(by(try simp);omega),rfl⟩,(by(try simp only[List.map_append,List.map_cons,List.map_nil]);exact BT 5 1 (by simp[Ai,Ac,Af,Bg,Bh,A7,AW]))⟩)|(exact⟨n.entries.length - (j+1),_,by omega,⟨j+1,acc,dn,by omega,rfl,(by rw[←hacc,DF hy];first|(simp only[hsl,hdn];simp[hnm];done)|(simp only[hdn];simp[hnm];done)),(by(try simp);omega),rfl⟩,(by(try simp only[List.map_append,List.map_cons,List.map_nil]);exact BT 5 1 (by simp[Ai,Ac,Af,Bg,Bh,A7,AW]))⟩)
    have hc4:=bp hb4;have hnm:e.1=name:=hc4;refine BH (Ay (t_ (AX (m_ (h:=BB (h:=a_ (h:=AT (?_))))))));refine AG ?_
    first|(exact⟨n.entries.length - (j+1),_,by omega,⟨j+1,acc++[(name,ino)]++[e],true,by omega,rfl,(by rw[←hacc,DF hy];first|(simp only[hsl,hdn];simp[hnm];done)|(simp only[hdn];simp[hnm];done)),(by(try simp);omega),rfl⟩,(by(try simp only[List.map_append,List.map_cons,List.map_nil]);exact BT 5 1 (by simp[Ai,Ac,Af,Bg,Bh,A7,AW]))⟩)|(exact⟨n.entries.length - (j+1),_,by omega,⟨j+1,acc++[(name,ino)],true,by omega,rfl,(by rw[←hacc,DF hy];first|(simp only[hsl,hdn];simp[hnm];done)|(simp only[hdn];simp[hnm];done)),(by(try simp);omega),rfl⟩,(by(try simp only[List.map_append,List.map_cons,List.map_nil]);exact BT 5 1 (by simp[Ai,Ac,Af,Bg,Bh,A7,AW]))⟩)|(exact⟨n.entries.length - (j+1),_,by omega,⟨j+1,acc++[e],dn,by omega,rfl,(by rw[←hacc,DF hy];first|(simp only[hsl,hdn];simp[hnm];done)|(simp only[hdn];simp[hnm];done)),(by(try simp);omega),rfl⟩,(by(try simp only[List.map_append,List.map_cons,List.map_nil]);exact BT 5 1 (by simp[Ai,Ac,Af,Bg,Bh,A7,AW]))⟩)|(exact⟨n.entries.length - (j+1),_,by omega,⟨j+1,acc,dn,by omega,rfl,(by rw[←hacc,DF hy];first|(simp only[hsl,hdn];simp[hnm];done)|(simp only[hdn];simp[hnm];done)),(by(try simp);omega),rfl⟩,(by(try simp only[List.map_append,List.map_cons,List.map_nil]);exact BT 5 1 (by simp[Ai,Ac,Af,Bg,Bh,A7,AW]))⟩)
   have hc3:=bp hb3;have hsl:EK e.1 name=true:=hc3;refine AO (w_ (f_ (h:=l_ (h:=m_ (h:=i_ (h:=f_ (h:=l_ (h:=m_ (h:=Bf (h:=e_ (?_)))))))))));refine AA rfl (fun hb5=>?_) (fun hb5=>?_)
   ·have hc5:=bp hb5;have hnm:¬e.1=name:=hc5;refine AX (m_ (h:=f_ (h:=l_ (h:=m_ (h:=i_ (h:=l_ (h:=CR (h:=GT (h:=a_ (h:=AT (Ay (t_ (AX (m_ (h:=BB (h:=a_ (h:=AT (?_))))))))))))))))));refine AG ?_
    first|(exact⟨n.entries.length - (j+1),_,by omega,⟨j+1,acc++[(name,ino)]++[e],true,by omega,rfl,(by rw[←hacc,DF hy];first|(simp only[hsl,hdn];simp[hnm];done)|(simp only[hdn];simp[hnm];done)),(by(try simp);omega),rfl⟩,(by(try simp only[List.map_append,List.map_cons,List.map_nil]);exact BT 5 1 (by simp[Ai,Ac,Af,Bg,Bh,A7,AW]))⟩)|(exact⟨n.entries.length - (j+1),_,by omega,⟨j+1,acc++[(name,ino)],true,by omega,rfl,(by rw[←hacc,DF hy];first|(simp only[hsl,hdn];simp[hnm];done)|(simp only[hdn];simp[hnm];done)),(by(try simp);omega),rfl⟩,(by(try simp only[List.map_append,List.map_cons,List.map_nil]);exact BT 5 1 (by simp[Ai,Ac,Af,Bg,Bh,A7,AW]))⟩)|(exact⟨n.entries.length - (j+1),_,by omega,⟨j+1,acc++[e],dn,by omega,rfl,(by rw[←hacc,DF hy];first|(simp only[hsl,hdn];simp[hnm];done)|(simp only[hdn];simp[hnm];done)),(by(try simp);omega),rfl⟩,(by(try simp only[List.map_append,List.map_cons,List.map_nil]);exact BT 5 1 (by simp[Ai,Ac,Af,Bg,Bh,A7,AW]))⟩)|(exact⟨n.entries.length - (j+1),_,by omega,⟨j+1,acc,dn,by omega,rfl,(by rw[←hacc,DF hy];first|(simp only[hsl,hdn];simp[hnm];done)|(simp only[hdn];simp[hnm];done)),(by(try simp);omega),rfl⟩,(by(try simp only[List.map_append,List.map_cons,List.map_nil]);exact BT 5 1 (by simp[Ai,Ac,Af,Bg,Bh,A7,AW]))⟩)
   have hc5:=bp hb5;have hnm:e.1=name:=hc5;refine BH (Ay (t_ (AX (m_ (h:=BB (h:=a_ (h:=AT (?_))))))));refine AG ?_
   first|(exact⟨n.entries.length - (j+1),_,by omega,⟨j+1,acc++[(name,ino)]++[e],true,by omega,rfl,(by rw[←hacc,DF hy];first|(simp only[hsl,hdn];simp[hnm];done)|(simp only[hdn];simp[hnm];done)),(by(try simp);omega),rfl⟩,(by(try simp only[List.map_append,List.map_cons,List.map_nil]);exact BT 5 1 (by simp[Ai,Ac,Af,Bg,Bh,A7,AW]))⟩)|(exact⟨n.entries.length - (j+1),_,by omega,⟨j+1,acc++[(name,ino)],true,by omega,rfl,(by rw[←hacc,DF hy];first|(simp only[hsl,hdn];simp[hnm];done)|(simp only[hdn];simp[hnm];done)),(by(try simp);omega),rfl⟩,(by(try simp only[List.map_append,List.map_cons,List.map_nil]);exact BT 5 1 (by simp[Ai,Ac,Af,Bg,Bh,A7,AW]))⟩)|(exact⟨n.entries.length - (j+1),_,by omega,⟨j+1,acc++[e],dn,by omega,rfl,(by rw[←hacc,DF hy];first|(simp only[hsl,hdn];simp[hnm];done)|(simp only[hdn];simp[hnm];done)),(by(try simp);omega),rfl⟩,(by(try simp only[List.map_append,List.map_cons,List.map_nil]);exact BT 5 1 (by simp[Ai,Ac,Af,Bg,Bh,A7,AW]))⟩)|(exact⟨n.entries.length - (j+1),_,by omega,⟨j+1,acc,dn,by omega,rfl,(by rw[←hacc,DF hy];first|(simp only[hsl,hdn];simp[hnm];done)|(simp only[hdn];simp[hnm];done)),(by(try simp);omega),rfl⟩,(by(try simp only[List.map_append,List.map_cons,List.map_nil]);exact BT 5 1 (by simp[Ai,Ac,Af,Bg,Bh,A7,AW]))⟩)
  have hc2:=bp hb2;have hdn:=hc2;refine A3 (h:=A3 (h:=A3 (h:=A3 (h:=A3 (h:=A3 (h:=A3 (h:=A3 (h:=Aj (h:=e_ (F6 (h:=AO (w_ (f_ (h:=l_ (h:=m_ (h:=i_ (h:=f_ (h:=l_ (h:=m_ (h:=Bf (h:=e_ (?_))))))))))))))))))))));refine AA rfl (fun hb6=>?_) (fun hb6=>?_)
  ·have hc6:=bp hb6;have hnm:¬e.1=name:=hc6;refine AX (m_ (h:=f_ (h:=l_ (h:=m_ (h:=i_ (h:=l_ (h:=CR (h:=GT (h:=a_ (h:=AT (Ay (t_ (AX (m_ (h:=BB (h:=a_ (h:=AT (?_))))))))))))))))));refine AG ?_
   first|(exact⟨n.entries.length - (j+1),_,by omega,⟨j+1,acc++[(name,ino)]++[e],true,by omega,rfl,(by rw[←hacc,DF hy];first|(simp only[hsl,hdn];simp[hnm];done)|(simp only[hdn];simp[hnm];done)),(by(try simp);omega),rfl⟩,(by(try simp only[List.map_append,List.map_cons,List.map_nil]);exact BT 5 1 (by simp[Ai,Ac,Af,Bg,Bh,A7,AW]))⟩)|(exact⟨n.entries.length - (j+1),_,by omega,⟨j+1,acc++[(name,ino)],true,by omega,rfl,(by rw[←hacc,DF hy];first|(simp only[hsl,hdn];simp[hnm];done)|(simp only[hdn];simp[hnm];done)),(by(try simp);omega),rfl⟩,(by(try simp only[List.map_append,List.map_cons,List.map_nil]);exact BT 5 1 (by simp[Ai,Ac,Af,Bg,Bh,A7,AW]))⟩)|(exact⟨n.entries.length - (j+1),_,by omega,⟨j+1,acc++[e],dn,by omega,rfl,(by rw[←hacc,DF hy];first|(simp only[hsl,hdn];simp[hnm];done)|(simp only[hdn];simp[hnm];done)),(by(try simp);omega),rfl⟩,(by(try simp only[List.map_append,List.map_cons,List.map_nil]);exact BT 5 1 (by simp[Ai,Ac,Af,Bg,Bh,A7,AW]))⟩)|(exact⟨n.entries.length - (j+1),_,by omega,⟨j+1,acc,dn,by omega,rfl,(by rw[←hacc,DF hy];first|(simp only[hsl,hdn];simp[hnm];done)|(simp only[hdn];simp[hnm];done)),(by(try simp);omega),rfl⟩,(by(try simp only[List.map_append,List.map_cons,List.map_nil]);exact BT 5 1 (by simp[Ai,Ac,Af,Bg,Bh,A7,AW]))⟩)
  have hc6:=bp hb6;have hnm:e.1=name:=hc6;refine BH (Ay (t_ (AX (m_ (h:=BB (h:=a_ (h:=AT (?_))))))));refine AG ?_
  first|(exact⟨n.entries.length - (j+1),_,by omega,⟨j+1,acc++[(name,ino)]++[e],true,by omega,rfl,(by rw[←hacc,DF hy];first|(simp only[hsl,hdn];simp[hnm];done)|(simp only[hdn];simp[hnm];done)),(by(try simp);omega),rfl⟩,(by(try simp only[List.map_append,List.map_cons,List.map_nil]);exact BT 5 1 (by simp[Ai,Ac,Af,Bg,Bh,A7,AW]))⟩)|(exact⟨n.entries.length - (j+1),_,by omega,⟨j+1,acc++[(name,ino)],true,by omega,rfl,(by rw[←hacc,DF hy];first|(simp only[hsl,hdn];simp[hnm];done)|(simp only[hdn];simp[hnm];done)),(by(try simp);omega),rfl⟩,(by(try simp only[List.map_append,List.map_cons,List.map_nil]);exact BT 5 1 (by simp[Ai,Ac,Af,Bg,Bh,A7,AW]))⟩)|(exact⟨n.entries.length - (j+1),_,by omega,⟨j+1,acc++[e],dn,by omega,rfl,(by rw[←hacc,DF hy];first|(simp only[hsl,hdn];simp[hnm];done)|(simp only[hdn];simp[hnm];done)),(by(try simp);omega),rfl⟩,(by(try simp only[List.map_append,List.map_cons,List.map_nil]);exact BT 5 1 (by simp[Ai,Ac,Af,Bg,Bh,A7,AW]))⟩)|(exact⟨n.entries.length - (j+1),_,by omega,⟨j+1,acc,dn,by omega,rfl,(by rw[←hacc,DF hy];first|(simp only[hsl,hdn];simp[hnm];done)|(simp only[hdn];simp[hnm];done)),(by(try simp);omega),rfl⟩,(by(try simp only[List.map_append,List.map_cons,List.map_nil]);exact BT 5 1 (by simp[Ai,Ac,Af,Bg,Bh,A7,AW]))⟩)
 have hc1:=bp hb1;have e:=D0 CA hj hc1;subst e;rw[List.drop_length]at hacc;refine Ba (Ao (Ao (Bb (t_ (q_ (w_ (m_ (h:=Bt (h:=e_ (?_))))))))));refine AA rfl (fun hb7=>?_) (fun hb7=>?_)
 ·have hc7:=bp hb7;have hdn:dn=false:=hc7;have ea:acc++[(name,ino)]=CE n.entries name ino:=by rw[←hacc,hdn];rfl
  refine AX (m_ (h:=m_ (h:=m_ (h:=Aa (h:=CR (h:=GT (h:=a_ (h:=e_ (Bo ([(0,DB f q d 1 cap cap1),(2,[.bs 0 0 2 f.length cap]),(3,A7 a),(4,AW n)]) 14 (h:=AJ 0 (h:=?_)))))))))))
  first|refine AF 1 (h:=?_)|refine B5 1 rfl (fun _ hS=>Bd (row:=DB f q d 1 cap cap1) rfl (kb hS rfl) hD0 ⟨rfl,rfl⟩) ?_
  refine AJ 2 (h:=?_)
  first|refine AF 3 (h:=?_)|refine B5 3 rfl (fun _ hS=>Bd (row:=DB f q d 1 cap cap1) rfl (kb hS rfl) hD0 ⟨rfl,rfl⟩) ?_
  refine B5 4 rfl (fun _ hS=>D6 (m:=q) rfl rfl ha hql ⟨rfl,rfl⟩) ?_;refine AJ 5 (h:=?_)
  first|refine AF 6 (h:=?_)|refine B5 6 rfl (fun _ hS=>Bd (row:=DB f q d 1 cap cap1) rfl (kb hS rfl) hD0 ⟨rfl,rfl⟩) ?_
  first|refine AF 7 (h:=?_)|refine B5 7 rfl (fun _ hS=>Bd (row:=DB f q d 1 cap cap1) rfl (kb hS rfl) hD0 ⟨rfl,rfl⟩) ?_
  first|refine AF 8 (h:=?_)|refine B5 8 rfl (fun _ hS=>Bd (row:=DB f q d 1 cap cap1) rfl (kb hS rfl) hD0 ⟨rfl,rfl⟩) ?_
  refine B5 10 rfl (fun _ hS=>F1 (y:= .sl 2 ((CE n.entries name ino).map CA) none) (EP rfl ⟨rfl,rfl⟩) (by rw[←ea];(try simp only[List.map_append,List.map_cons,List.map_nil]);exact LeA.tok _ _ _) ⟨rfl,rfl⟩) ?_;refine c_ 9 rfl (EJ 2 rfl (.cons _ _ _ _ _ rfl (LeA.of_eq (J5 hq hcap hcap1 (BC _) (BC _) rfl rfl)) (.cons _ _ _ _ _ rfl (AM _) .nil)) (Hz f a hf) ?_);rintro r rfl;refine⟨rfl,?_⟩;refine o_ (h:=?_);refine B5 11 rfl (fun _ hS=>D6 (m:=i) rfl rfl hi hil ⟨rfl,rfl⟩) ?_;refine AJ 12 (h:=?_);refine BA 13 rfl (B1 rfl rfl rfl rfl rfl rfl hset (by repeat constructor) ?_);refine o_ (h:=z_ (h:=?_));refine M8 (r:= .tup []) none (h4:=(by simp[Ai,Bg,Bh])) (h5:=(AM _)) (h6:=⟨rfl,rfl,rfl⟩)
 have hc7:=bp hb7;have hdn:dn=true:=hc7;have ea:acc=CE n.entries name ino:=by rw[←hacc,hdn];simp[Eo]
 refine AO (Bo ([(0,DB f q d 1 cap cap1),(2,[.bs 0 0 2 f.length cap]),(3,A7 a),(4,AW n)]) 14 (h:=AJ 0 (h:=?_)))
 first|refine AF 1 (h:=?_)|refine B5 1 rfl (fun _ hS=>Bd (row:=DB f q d 1 cap cap1) rfl (kb hS rfl) hD0 ⟨rfl,rfl⟩) ?_
 refine AJ 2 (h:=?_)
 first|refine AF 3 (h:=?_)|refine B5 3 rfl (fun _ hS=>Bd (row:=DB f q d 1 cap cap1) rfl (kb hS rfl) hD0 ⟨rfl,rfl⟩) ?_
 refine B5 4 rfl (fun _ hS=>D6 (m:=q) rfl rfl ha hql ⟨rfl,rfl⟩) ?_;refine AJ 5 (h:=?_)
 first|refine AF 6 (h:=?_)|refine B5 6 rfl (fun _ hS=>Bd (row:=DB f q d 1 cap cap1) rfl (kb hS rfl) hD0 ⟨rfl,rfl⟩) ?_
 first|refine AF 7 (h:=?_)|refine B5 7 rfl (fun _ hS=>Bd (row:=DB f q d 1 cap cap1) rfl (kb hS rfl) hD0 ⟨rfl,rfl⟩) ?_
 first|refine AF 8 (h:=?_)|refine B5 8 rfl (fun _ hS=>Bd (row:=DB f q d 1 cap cap1) rfl (kb hS rfl) hD0 ⟨rfl,rfl⟩) ?_
 refine B5 10 rfl (fun _ hS=>F1 (y:= .sl 2 ((CE n.entries name ino).map CA) none) (EP rfl ⟨rfl,rfl⟩) (by rw[←ea];(try simp only[List.map_append,List.map_cons,List.map_nil]);exact LeA.tok _ _ _) ⟨rfl,rfl⟩) ?_;refine c_ 9 rfl (EJ 2 rfl (.cons _ _ _ _ _ rfl (LeA.of_eq (J5 hq hcap hcap1 (BC _) (BC _) rfl rfl)) (.cons _ _ _ _ _ rfl (AM _) .nil)) (Hz f a hf) ?_);rintro r rfl;refine⟨rfl,?_⟩;refine o_ (h:=?_);refine B5 11 rfl (fun _ hS=>D6 (m:=i) rfl rfl hi hil ⟨rfl,rfl⟩) ?_;refine AJ 12 (h:=?_);refine BA 13 rfl (B1 rfl rfl rfl rfl rfl rfl hset (by repeat constructor) ?_);refine o_ (h:=z_ (h:=?_));refine M8 (r:= .tup []) none (h4:=(by simp[Ai,Bg,Bh])) (h5:=(AM _)) (h6:=⟨rfl,rfl,rfl⟩)
end
theorem Ha{h:AH}{sz:Nat}{r:List AV}{tok:Option Nat}:SrcA h sz (.sl sz [r] tok) 1 r:=by
 have:=SrcA.sl (h:=h) (sz:=sz) [r] tok
 simpa using this
theorem Wm(n:Nod)(cap:Nat):AW n++List.replicate ((cap - 1) * 8) .any=NB [n] cap:=by
 unfold NB C3;simp
theorem RW(acc:List Nod)(n:Nod)(cap0 cap:Nat):((NB acc cap0).drop 0).take (acc.length * 8)++AW n++List.replicate ((cap - (acc.length+1)) * 8) .any=NB (acc++[n]) cap:=by
 unfold NB;rw[Qu (H9 acc) (by simp),List.map_append];rfl
theorem RX{acc:List Nod}{n:Nod}{cap:Nat}{row:List AV}(hs:SetAt (NB acc cap) (0+acc.length * 8) (AW n) row)(hc:acc.length+1≤cap):row=NB (acc++[n]) cap:=by
 have key:=Qt (rows:=acc.map AW) (sz:=8) (cap:=cap) (r:=AW n) (row':=row) (H9 acc) rfl (by omega) (by simpa using hc) (by rw[List.length_map];exact hs);rw[key];unfold NB;rw[List.map_append];rfl
theorem L5{is:List Nat}:∀i,i<2→(0::1::is)[i]?=some i:=by
 intro i hi
 match i,hi with
 |0,_=>rfl
 |1,_=>rfl
theorem RY{ns:List Nod}{j:Nat}{n:Nod}(h:ns[j]?=some n)(ino:Int):Ct ino (ns.take (j+1))=Ct ino (ns.take j)++(if n.ino=ino then[]else[n]):=by
 unfold Ct;rw[List.take_add_one,h,List.filter_append];by_cases e:n.ino=ino<;>simp[e]
section
theorem Wn(f:AR)(q:Nat)(d:Dvc)(a:A6)(cap cap1:Nat)(hf:FlsB f)(hq:f[q]?=some d)(ha:a.1=(q:Int))(hcap:f.length≤cap)(hcap1:d.nodes.length≤cap1)(hne:0<(Ct a.2 d.nodes).length):
    ACall prog 38 [.agg [.bs 0 0 2 f.length cap], .agg (A7 a)] [DB f q d 1 cap cap1,NB d.nodes cap1] (fun r b t=>t=[]∧r= .tup []∧((0<FQ f a∧b=[DB f q d 1 cap cap1,NB d.nodes cap1,[.bs 0 0 2 f.length cap],A7 a])∨(FQ f a=0∧∃cap2,(Ct a.2 d.nodes).length≤cap2∧b=[DB f q {d with nodes:=Ct a.2 d.nodes} 4 cap cap2,NB d.nodes cap1,[.bs 0 0 2 f.length cap],A7 a,NB (Ct a.2 d.nodes) cap2]))):=by
 have hql:=(Ag.1 hq).1;have hdn:=hf.nodes d (Au hq);have hD0:(DB f q d 1 cap cap1)[0+q * 2+1]?=some (.bs 1 0 8 d.nodes.length cap1):=Ge hql;have hset:∀(acc:List Nod) (cap2:Nat),SetAt (DB f q d 1 cap cap1) (0+q * 2+1) [.bs 4 0 8 acc.length cap2] (DB f q {d with nodes:=acc} 4 cap cap2):=fun acc cap2=>ON hql (by repeat constructor) (by simp);refine enter Tryz.func38 rfl rfl rfl rfl rfl 5 rfl ?_;refine w_ (b_ (h:=b_ (h:=e_ (q_ (w_ (l_ (h:=l_ (h:=?_))))))));refine A8 rfl (EJ 2 rfl (.cons _ _ _ _ _ rfl (LeA.of_eq (J5 hq hcap hcap1 (BC _) (BC _) rfl rfl)) (.cons _ _ _ _ _ rfl (AM _) .nil)) (VQ f a hf) ?_);rintro r rfl;refine⟨rfl,?_⟩;refine Co (h:=e_ (?_));refine AA rfl (fun hb1=>?_) (fun hb1=>?_)
 ·have hc1:=bp hb1;have hl:0<FQ f a:=by omega
  refine A4 (A9 (?_));refine BS (r:= .tup []) none (h4:=(by simp[Ai,Ac,Af,Bg,Bh,A7])) (h5:=(AM _)) (h6:=⟨rfl,rfl, .inl ⟨hl,rfl⟩⟩)
 have hc1:=bp hb1;have hl:FQ f a=0:=by omega
 refine AO (w_ (a_ (h:=e_ (w_ (f_ (h:=?_))))));refine A8 rfl (Bd rfl rfl rfl ?_);refine f_ (h:=l_ (h:=?_));refine A8 rfl (D6 (m:=q) rfl rfl ha hql ?_);refine f_ (h:=?_);refine A8 rfl (Bd rfl rfl hD0 ?_);refine a_ (h:=e_ (q_ (w_ (a_ (h:=e_ (Ap (?_)))))));refine By (fun m t=>∃(j:Nat) (acc:List Nod),j≤d.nodes.length∧m=d.nodes.length - j∧Ct a.2 (d.nodes.take j)=acc∧acc.length≤j∧((acc=[]∧t=⟨look [(2, .bp 2 0),(3, .bp 3 0),(4, .v (.slice none 0 0)),(5, .bs 1 0 8 d.nodes.length cap1),(6, .v (.int .i64 (j:Int)))],⟨[DB f q d 1 cap cap1,NB d.nodes cap1,[.bs 0 0 2 f.length cap],A7 a],[]⟩⟩)∨(∃cap2,acc.length≤cap2∧t=⟨look [(2, .bp 2 0),(3, .bp 3 0),(4, .bs 4 0 8 acc.length cap2),(5, .bs 1 0 8 d.nodes.length cap1),(6, .v (.int .i64 (j:Int)))],⟨[DB f q d 1 cap cap1,NB d.nodes cap1,[.bs 0 0 2 f.length cap],A7 a,NB acc cap2],[]⟩⟩))) (d.nodes.length) (BT 4 0 (by simp[Ai,Ac,Af,Bg,Bh,A7,AW])) (⟨0,[],BC _,rfl,rfl,Av _, .inl ⟨rfl,rfl⟩⟩) ?_;rintro m t ⟨j,acc,hj,rfl,hacc,hal,⟨rfl,rfl⟩|⟨cap2,hcp,rfl⟩⟩
 ·skip
  refine q_ (w_ (m_ (h:=m_ (h:=?_))));refine A8 rfl (Nh rfl ?_);refine BQ (h:=e_ (?_));refine AA rfl (fun hb2=>?_) (fun hb2=>?_)
  ·have hc2:=bp hb2;have hlt:j<d.nodes.length:=by omega
   obtain⟨n,hy⟩:∃n,d.nodes[j]?=some n:=⟨_,BG hlt⟩;have hk:=RY hy a.2;refine AO (q_ (Ap (q_ (Dp 8 (h:=AQ 0 (h:=AQ 1 (h:=?_)))))));refine F3 (i:=2) rfl (D6 (m:=j) rfl rfl rfl hlt ⟨rfl,rfl⟩) ?_;refine AJ 3 (h:=?_);refine F3 (i:=4) rfl (Bd rfl rfl (RF hy rfl) ⟨rfl,rfl⟩) ?_;refine AJ 5 (h:=AF 6 (h:=MA 7 (h:=z_ (h:=t_ (?_)))));refine AA rfl (fun hb3=>?_) (fun hb3=>?_)
   ·have hc3:=bp hb3;rw[if_neg hc3]at hk;refine AX (m_ (h:=m_ (h:=m_ (h:=?_))));refine A8 rfl (D6 (m:=j) rfl rfl rfl hlt ?_);refine A8 rfl (Cv rfl rfl (by rw[Ky hcap1];omega) (Gf hy) ?_);refine CR (h:=?_);refine A8 rfl (M7 rfl rfl Ha (by omega) (by omega) ?_);rintro cap2 k bx2 hcp hs;rw[show CC (.agg (AW n))++List.replicate ((cap2 - 1) * 8) AV.any=NB [n] cap2 from Wm n cap2]at hs;obtain⟨rfl,rfl⟩:k=4∧bx2=[_,_,_,_,_]:=hs.eq;refine a_ (h:=AT (Ay (t_ (AX (m_ (h:=BB (h:=a_ (h:=AT (?_)))))))));refine AG ?_
    first|exact⟨d.nodes.length - (j+1),_,by omega,⟨j+1,[n],by omega,rfl,(by rw[hk,hacc];rfl),by simp, .inr ⟨cap2,hcp,rfl⟩⟩,B4 5 0 rfl rfl rfl (by simp[Ai,Ac,Af,Bg,Bh,A7,AW]) ((by repeat (first|exact Sub.nil|refine B9 rfl rfl ?_|refine BD ?_|refine BE rfl ?_|refine BF rfl ?_)))⟩|exact⟨d.nodes.length - (j+1),_,by omega,⟨j+1,[],by omega,rfl,(by rw[hk,hacc]),by simp, .inl ⟨rfl,rfl⟩⟩,B4 4 0 rfl rfl rfl (by simp[Ai,Ac,Af,Bg,Bh,A7,AW]) ((by repeat (first|exact Sub.nil|refine B9 rfl rfl ?_|refine BD ?_|refine BE rfl ?_|refine BF rfl ?_)))⟩
   have hc3:=bp hb3;rw[if_pos hc3,List.append_nil]at hk;refine BH (Ay (t_ (AX (m_ (h:=BB (h:=a_ (h:=AT (?_))))))));refine AG ?_
   first|exact⟨d.nodes.length - (j+1),_,by omega,⟨j+1,[n],by omega,rfl,(by rw[hk,hacc];rfl),by simp, .inr ⟨cap2,hcp,rfl⟩⟩,B4 5 0 rfl rfl rfl (by simp[Ai,Ac,Af,Bg,Bh,A7,AW]) ((by repeat (first|exact Sub.nil|refine B9 rfl rfl ?_|refine BD ?_|refine BE rfl ?_|refine BF rfl ?_)))⟩|exact⟨d.nodes.length - (j+1),_,by omega,⟨j+1,[],by omega,rfl,(by rw[hk,hacc]),by simp, .inl ⟨rfl,rfl⟩⟩,B4 4 0 rfl rfl rfl (by simp[Ai,Ac,Af,Bg,Bh,A7,AW]) ((by repeat (first|exact Sub.nil|refine B9 rfl rfl ?_|refine BD ?_|refine BE rfl ?_|refine BF rfl ?_)))⟩
  have hc2:=bp hb2;exfalso;obtain rfl:j=d.nodes.length:=by omega
  rw[List.take_length]at hacc;rw[hacc]at hne;exact absurd hne (by simp)
 skip
 refine q_ (w_ (m_ (h:=m_ (h:=?_))));refine A8 rfl (Nh rfl ?_);refine BQ (h:=e_ (?_));refine AA rfl (fun hb4=>?_) (fun hb4=>?_)
 ·have hc4:=bp hb4;have hlt:j<d.nodes.length:=by omega
  obtain⟨n,hy⟩:∃n,d.nodes[j]?=some n:=⟨_,BG hlt⟩;have hk:=RY hy a.2;refine AO (q_ (Ap (q_ (Dp 8 (h:=AQ 0 (h:=AQ 1 (h:=?_)))))));refine F3 (i:=2) rfl (D6 (m:=j) rfl rfl rfl hlt ⟨rfl,rfl⟩) ?_;refine AJ 3 (h:=?_);refine F3 (i:=4) rfl (Bd rfl rfl (RF hy rfl) ⟨rfl,rfl⟩) ?_;refine AJ 5 (h:=AF 6 (h:=MA 7 (h:=z_ (h:=t_ (?_)))));refine AA rfl (fun hb5=>?_) (fun hb5=>?_)
  ·have hc5:=bp hb5;rw[if_neg hc5]at hk;refine AX (m_ (h:=m_ (h:=m_ (h:=?_))));refine A8 rfl (D6 (m:=j) rfl rfl rfl hlt ?_);refine A8 rfl (Cv rfl rfl (by rw[Ky hcap1];omega) (Gf hy) ?_);refine CR (h:=?_);refine A8 rfl (Ka rfl rfl rfl (by rw[Ky hcp];omega) Ha (by omega) (by omega) ?_ ?_)
   ·rintro hg row2 bx2 hs hb;obtain rfl:=RX hs hg;obtain rfl:bx2=[_,_,_,_,_]:=hb.one.2;refine a_ (h:=AT (Ay (t_ (AX (m_ (h:=BB (h:=a_ (h:=AT (?_)))))))));refine AG ?_
    first|exact⟨d.nodes.length - (j+1),_,by omega,⟨j+1,acc++[n],by omega,rfl,(by rw[hk,hacc]),by simp;omega, .inr ⟨cap2,by simpa using hg,by rw[List.length_append];rfl⟩⟩,B4 5 0 rfl rfl rfl (by simp[Ai,Ac,Af,Bg,Bh,A7,AW]) ((by repeat (first|exact Sub.nil|refine B9 rfl rfl ?_|refine BD ?_|refine BE rfl ?_|refine BF rfl ?_)))⟩|exact⟨d.nodes.length - (j+1),_,by omega,⟨j+1,acc++[n],by omega,rfl,(by rw[hk,hacc]),by simp;omega, .inr ⟨cap3,by simpa using hcp3,by rw[List.length_append];rfl⟩⟩,E7 [0,1,2,3,5] L5 (by decide) (.cons _ _ _ _ _ rfl (HQ (by rfl) _ _ _ _ _) (.cons _ _ _ _ _ rfl (Fe _ _ _) (.cons _ _ _ _ _ rfl rfl (.cons _ _ _ _ _ rfl rfl (.cons _ _ _ _ _ rfl (Fe _ _ _) .nil))))) (by repeat (first|exact SubK.nil|refine SubK.cons _ _ _ _ rfl (AM _) ?_))⟩|exact⟨d.nodes.length - (j+1),_,by omega,⟨j+1,acc,by omega,rfl,(by rw[hk,hacc]),by omega, .inr ⟨cap2,hcp,rfl⟩⟩,B4 5 0 rfl rfl rfl (by simp[Ai,Ac,Af,Bg,Bh,A7,AW]) ((by repeat (first|exact Sub.nil|refine B9 rfl rfl ?_|refine BD ?_|refine BE rfl ?_|refine BF rfl ?_)))⟩
   rintro hg cap3 k bx2 hcp3 hs;rw[show((NB acc cap2).drop 0).take (acc.length * 8)++CC (.agg (AW n))++List.replicate ((cap3 - (acc.length+1)) * 8) AV.any=NB (acc++[n]) cap3 from RW acc n cap2 cap3]at hs;obtain⟨rfl,rfl⟩:k=5∧bx2=[_,_,_,_,_,_]:=hs.eq;refine a_ (h:=AT (Ay (t_ (AX (m_ (h:=BB (h:=a_ (h:=AT (?_)))))))));refine AG ?_
   first|exact⟨d.nodes.length - (j+1),_,by omega,⟨j+1,acc++[n],by omega,rfl,(by rw[hk,hacc]),by simp;omega, .inr ⟨cap2,by simpa using hg,by rw[List.length_append];rfl⟩⟩,B4 5 0 rfl rfl rfl (by simp[Ai,Ac,Af,Bg,Bh,A7,AW]) ((by repeat (first|exact Sub.nil|refine B9 rfl rfl ?_|refine BD ?_|refine BE rfl ?_|refine BF rfl ?_)))⟩|exact⟨d.nodes.length - (j+1),_,by omega,⟨j+1,acc++[n],by omega,rfl,(by rw[hk,hacc]),by simp;omega, .inr ⟨cap3,by simpa using hcp3,by rw[List.length_append];rfl⟩⟩,E7 [0,1,2,3,5] L5 (by decide) (.cons _ _ _ _ _ rfl (HQ (by rfl) _ _ _ _ _) (.cons _ _ _ _ _ rfl (Fe _ _ _) (.cons _ _ _ _ _ rfl rfl (.cons _ _ _ _ _ rfl rfl (.cons _ _ _ _ _ rfl (Fe _ _ _) .nil))))) (by repeat (first|exact SubK.nil|refine SubK.cons _ _ _ _ rfl (AM _) ?_))⟩|exact⟨d.nodes.length - (j+1),_,by omega,⟨j+1,acc,by omega,rfl,(by rw[hk,hacc]),by omega, .inr ⟨cap2,hcp,rfl⟩⟩,B4 5 0 rfl rfl rfl (by simp[Ai,Ac,Af,Bg,Bh,A7,AW]) ((by repeat (first|exact Sub.nil|refine B9 rfl rfl ?_|refine BD ?_|refine BE rfl ?_|refine BF rfl ?_)))⟩
  have hc5:=bp hb5;rw[if_pos hc5,List.append_nil]at hk;refine BH (Ay (t_ (AX (m_ (h:=BB (h:=a_ (h:=AT (?_))))))));refine AG ?_
  first|exact⟨d.nodes.length - (j+1),_,by omega,⟨j+1,acc++[n],by omega,rfl,(by rw[hk,hacc]),by simp;omega, .inr ⟨cap2,by simpa using hg,by rw[List.length_append];rfl⟩⟩,B4 5 0 rfl rfl rfl (by simp[Ai,Ac,Af,Bg,Bh,A7,AW]) ((by repeat (first|exact Sub.nil|refine B9 rfl rfl ?_|refine BD ?_|refine BE rfl ?_|refine BF rfl ?_)))⟩|exact⟨d.nodes.length - (j+1),_,by omega,⟨j+1,acc++[n],by omega,rfl,(by rw[hk,hacc]),by simp;omega, .inr ⟨cap3,by simpa using hcp3,by rw[List.length_append];rfl⟩⟩,E7 [0,1,2,3,5] L5 (by decide) (.cons _ _ _ _ _ rfl (HQ (by rfl) _ _ _ _ _) (.cons _ _ _ _ _ rfl (Fe _ _ _) (.cons _ _ _ _ _ rfl rfl (.cons _ _ _ _ _ rfl rfl (.cons _ _ _ _ _ rfl (Fe _ _ _) .nil))))) (by repeat (first|exact SubK.nil|refine SubK.cons _ _ _ _ rfl (AM _) ?_))⟩|exact⟨d.nodes.length - (j+1),_,by omega,⟨j+1,acc,by omega,rfl,(by rw[hk,hacc]),by omega, .inr ⟨cap2,hcp,rfl⟩⟩,B4 5 0 rfl rfl rfl (by simp[Ai,Ac,Af,Bg,Bh,A7,AW]) ((by repeat (first|exact Sub.nil|refine B9 rfl rfl ?_|refine BD ?_|refine BE rfl ?_|refine BF rfl ?_)))⟩
 have hc4:=bp hb4;obtain rfl:j=d.nodes.length:=by omega
 rw[List.take_length]at hacc;refine Ba (Ao (Ao (Bb (t_ (AX (f_ (h:=?_)))))));refine A8 rfl (Bd rfl rfl rfl ?_);refine f_ (h:=l_ (h:=m_ (h:=?_)));refine A8 rfl (D6 (m:=q) rfl rfl ha hql ?_);refine f_ (h:=?_);refine KX (B1 rfl rfl rfl rfl rfl rfl (hset _ _) (by repeat constructor) ?_);refine AT (?_);refine M8 (r:= .tup []) none (h4:=(by simp[Ai,Ac,Af,Bg,Bh,A7])) (h5:=(AM _)) (h6:=⟨rfl,rfl, .inr ⟨hl,cap2,by rw[hacc];exact hcp,by rw[hacc];rfl⟩⟩)
end
end Go.Proofs.YtobclmbkdhbnpaaGreatDoor
