/-
  Part 9 of the proof of WatchReplacedP: what the statement's proof uses of the texts in wip/tpl.
-/
import Derived.Test.YtobclmbkdhbnpaaGreatDoorProg
import Derived.WalkKit
import Derived.WalkSpells
import Derived.WalkLawsBesides
import Derived.Deep.QuietTactic
import Derived.BigQuiet
import Derived.Lib.Hide
import Derived.Outline
import Derived.Lib.Strings
import Derived.Lib.IndexLaws
import Derived.Lib.LastIndexByte
import Derived.Lib.IndexAny
import Derived.Test.YtobclmbkdhbnpaaGreatDoorShelf
import Derived.Laws.RangeAny
import Derived.Deep.LoopGhost
import Derived.Lib.OthersKept
import Derived.Test.YtobclmbkdhbnpaaGreatDoorQa8
open Go.Proofs.Tryz (prog)
set_option maxRecDepth 10000
set_option maxHeartbeats 4000000
set_option linter.unusedVariables false
set_option linter.unusedSimpArgs false
namespace Go.Proofs.YtobclmbkdhbnpaaGreatDoor
open Go.RowKit
def Old(w:World):Nat→Prop:=fun b=>b<w.heap.size
def Pi(w w':World):Nat→Prop:=fun b=>w.heap.size≤b∧b<w'.heap.size
def few:Nat:=65536
theorem Nl{B:Nat}{a w:World}(h:Below B a w)(n:Nat):Below B a (w.drewN n):=⟨h.os,h.tape,h.output,h.size,h.block⟩
theorem Lt{w w':World}(h:Below w.heap.size w w')(g:Option Nat):w.grownBy w' g:=⟨h.os,h.tape,h.output,h.size,fun k hk _=>h.block k hk⟩
def RowL{α:Type}(sz:Nat)(cell:α→Nat→Value)(w:World)(D:Nat→Prop)(A:Option Addr)(xs:List α):Prop:=
 0<xs.length→∃b off,A=some ⟨b,off,none⟩∧D b∧∀i x j,xs[i]?=some x→j<sz→w.cell? ⟨b,off+i * sz+j,none⟩=some (cell x j)
def ListR{α:Type}(sz:Nat)(cell:α→Nat→Value)(w:World)(D:Nat→Prop)(v:Value)(xs:List α):Prop:=
 ∃A c,v= .slice A xs.length c∧xs.length≤c∧xs.length≤few∧RowL sz cell w D A xs
section
variable {α:Type}{sz:Nat}{cell:α→Nat→Value}{w w':World}{D D':Nat→Prop}{A:Option Addr}{v:Value}{xs:List α}
theorem ListR.nil_:ListR sz cell w D (.slice none 0 0) []:=⟨none,0,rfl,Av _,BJ _,fun h=>absurd h (by simp)⟩
end
def Lu(s:AE):Nat→Value
 |_=> .string s
abbrev Sr:=ListR 1 Lu
def DW(at_:A9):Value:= .agg #[.int .i64 at_.1, .int .i64 at_.2]
theorem Jv{a b:Bool}(h:a=b):Ending.returned (.bool a)= .returned (.bool b):=by rw[h]
theorem JM{w:World}{g:Nat}{cs:Array Value}{t:TypeId}{fz:Nat×Nat}(h:w.heap[g]?=some (.cells cs t fz))(i:Nat):w.cell? ⟨g,i,none⟩=cs[i]?:=by
 simp[World.cell?,h]
theorem Pj{w:World}{g:Nat}{cs:Array Value}{t:TypeId}(h:w.heap[g]?=some (.cells cs t (0,0)))(i:Nat):w.frozen? ⟨g,i,none⟩=false:=by
 simp[World.frozen?,h]
theorem Cj{w:World}{b:Nat}{o:Obj}(h:w.heap[b]?=some o)(o':Obj):(w.alloc o').heap[b]?=some o:=by
 have hb:b<w.heap.size:=by
  rcases Nat.lt_or_ge b w.heap.size with hlt|hge
  ·exact hlt
  rw[Array.getElem?_eq_none hge]at h;cases h
 exact(Below.heap_alloc w o' b hb).trans h
theorem C0{w:World}{g:Nat}{cs:Array Value}{t:TypeId}(h:w.heap[g]?=some (.cells cs t (0,0))):(∀i,w.cell? ⟨g,i,none⟩=cs[i]?)∧(∀i,w.frozen? ⟨g,i,none⟩=false):=
 ⟨fun i=>JM h i,fun i=>Pj h i⟩
theorem Kh{w:World}{b:Nat}{cs:Array Value}{t:TypeId}{fz:Nat×Nat}(h:w.heap[b]?=some (.cells cs t fz))(i:Nat)(u:Value):(w.setCell ⟨b,i,none⟩ u).heap[b]?=some (.cells (cs.setIfInBounds i u) t fz):=by
 simp[World.setCell,Array.getElem?_modify,h]
theorem Jw{w:World}{b:Nat}{o:Obj}(h:w.heap[b]?=some o){p:Addr}(hp:b≠p.block)(u:Value):(w.setCell p u).heap[b]?=some o:=(Below.heap_setCell w p u b hp).trans h
theorem Ba{w w':World}{b B:Nat}{o:Obj}(h:w.heap[b]?=some o)(hg:Below B w w')(hb:b<B):w'.heap[b]?=some o:=(hg.block b hb).trans h
theorem FM(w:World)(o1:Obj):Below w.heap.size w (w.alloc o1):=by
 exact(Below.refl _ w).alloc (Av _) _
theorem Lw(w:World)(o1:Obj):(w.alloc o1).heap.size=w.heap.size+1:=by simp
theorem Hl(w:World)(o1:Obj):(w.alloc o1).heap[w.heap.size]?=some o1:=(by have:=heap_alloc_new w o1;simpa using this)
theorem Gy(w:World)(o1 o2:Obj):Below w.heap.size w ((w.alloc o1).alloc o2):=by
 exact(FM w o1).alloc (by simp<;>omega) _
theorem Ss(w:World)(o1 o2:Obj):((w.alloc o1).alloc o2).heap.size=w.heap.size+2:=by simp
theorem Hm(w:World)(o1 o2:Obj):((w.alloc o1).alloc o2).heap[w.heap.size]?=some o1:=Cj (Hl w o1) _
theorem Hn(w:World)(o1 o2:Obj):((w.alloc o1).alloc o2).heap[w.heap.size+1]?=some o2:=(by have:=heap_alloc_new (w.alloc o1) o2;simpa using this)
theorem Lx(w:World)(o1 o2 o3:Obj):Below w.heap.size w (((w.alloc o1).alloc o2).alloc o3):=by
 exact(Gy w o1 o2).alloc (by simp<;>omega) _
theorem Ly(w:World)(o1 o2 o3:Obj):(((w.alloc o1).alloc o2).alloc o3).heap[w.heap.size]?=some o1:=Cj (Hm w o1 o2) _
theorem Lz(w:World)(o1 o2 o3:Obj):(((w.alloc o1).alloc o2).alloc o3).heap[w.heap.size+1]?=some o2:=Cj (Hn w o1 o2) _
theorem M0(w:World)(o1 o2 o3:Obj):(((w.alloc o1).alloc o2).alloc o3).heap[w.heap.size+1+1]?=some o3:=(by have:=heap_alloc_new ((w.alloc o1).alloc o2) o3;simpa using this)
theorem Pk(w:World)(o1 o2 o3 o4:Obj):Below w.heap.size w ((((w.alloc o1).alloc o2).alloc o3).alloc o4):=by
 exact(Lx w o1 o2 o3).alloc (by simp<;>omega) _
theorem Su(w:World)(o1 o2 o3 o4:Obj):((((w.alloc o1).alloc o2).alloc o3).alloc o4).heap[w.heap.size]?=some o1:=Cj (Ly w o1 o2 o3) _
theorem Pl(w:World)(o1 o2 o3 o4:Obj):((((w.alloc o1).alloc o2).alloc o3).alloc o4).heap[w.heap.size+1]?=some o2:=Cj (Lz w o1 o2 o3) _
theorem Sv(w:World)(o1 o2 o3 o4:Obj):((((w.alloc o1).alloc o2).alloc o3).alloc o4).heap[w.heap.size+1+1]?=some o3:=Cj (M0 w o1 o2 o3) _
theorem Pm(w:World)(o1 o2 o3 o4:Obj):((((w.alloc o1).alloc o2).alloc o3).alloc o4).heap[w.heap.size+1+1+1]?=some o4:=(by have:=heap_alloc_new (((w.alloc o1).alloc o2).alloc o3) o4;simpa using this)
end Go.Proofs.YtobclmbkdhbnpaaGreatDoor
namespace Go.Proofs.YtobclmbkdhbnpaaGreatDoor
abbrev Bs:=List UInt8
def E3(l:Bs):Bool:=decide (l≠[]∧l.length≤12∧l≠[46]∧l≠[46,46]∧(0:UInt8)∉l∧(47:UInt8)∉l)
theorem MQ{l:Bs}:E3 l=true↔l≠[]∧l.length≤12∧l≠[46]∧l≠[46,46]∧(0:UInt8)∉l∧(47:UInt8)∉l:=decide_eq_true_iff
def C8:Bs→List Bs
 |[]=>[[]]
 |c::t=>if c=47 then[]::C8 t else match C8 t with
   |[]=>[[c]]
   |h::r=>(c::h)::r
def ne_(p:Bs):Bool:=decide (p≠[])
def By(l:Bs):List Bs:=(C8 l).filter ne_
def D6(ps:List Bs):Bs:=ps.flatMap fun p=>47::p
theorem O3(l:Bs):C8 l≠[]:=by
 cases l with
 |nil=>simp[C8]
 |cons c t=>
   unfold C8;split
   ·simp
   split<;>simp
theorem QO(c:UInt8)(t:Bs):C8 (c::t)=if c=47 then[]::C8 t else match C8 t with
    |[]=>[[c]]
    |h::r=>(c::h)::r:=rfl
theorem Th(u t:Bs):C8 (u++47::t)=C8 u++C8 t:=by
 induction u with
 |nil=>simp[C8]
 |cons c u ih=>
   rw[List.cons_append,QO,QO,ih];by_cases hc:c=47
   ·simp[hc]
   rw[if_neg hc,if_neg hc]
   cases h:C8 u with
   |nil=>exact absurd h (O3 u)
   |cons a r=>simp
theorem O4{l:Bs}(h:(47:UInt8)∉l):C8 l=[l]:=by
 induction l with
 |nil=>rfl
 |cons c t ih=>
   simp only[List.mem_cons,not_or]at h;unfold C8;rw[if_neg (fun e=>h.1 e.symm),ih h.2]
theorem Ti{a:Bs}(h:(47:UInt8)∉a)(b:Bs):C8 (a++47::b)=a::C8 b:=by
 rw[Th,O4 h];rfl
theorem GC(p:Bs)(ps:List Bs):D6 (p::ps)=47::(p++D6 ps):=by simp[D6]
theorem QP(ps qs:List Bs):D6 (ps++qs)=D6 ps++D6 qs:=by simp[D6]
theorem Tj:∀(ps:List Bs) (p:Bs),(47:UInt8)∉p→(∀q∈ps,(47:UInt8)∉q)→C8 (p++D6 ps)=p::ps:=by
 intro ps
 induction ps with
 |nil=>intro p hp _;simp[D6,O4 hp]
 |cons q ps ih=>
   intro p hp hq;rw[GC,Ti hp,ih q (hq q (by simp)) fun x hx=>hq x (by simp[hx])]
theorem QQ(l:Bs):D6 (C8 l)=47::l:=by
 induction l with
 |nil=>simp[C8,D6]
 |cons c t ih=>
   unfold C8;by_cases hc:c=47
   ·rw[if_pos hc,GC,ih,hc];rfl
   rw[if_neg hc]
   cases h:C8 t with
   |nil=>exact absurd h (O3 t)
   |cons a r=>
     rw[h]at ih;rw[GC]at ih ⊢;simp only[List.cons.injEq,true_and]at ih;simp[ih]
theorem JT:By []=[]:=by simp[By,C8,ne_]
theorem MR(u t:Bs):By (u++47::t)=By u++By t:=by simp[By,Th]
def one_(p:Bs):List Bs:=if p=[]then[]else[p]
theorem O5{l:Bs}(h:(47:UInt8)∉l):By l=one_ l:=by
 unfold By one_;rw[O4 h];by_cases e:l=[]<;>simp[e,ne_]
theorem Ye{a:Bs}(h:(47:UInt8)∉a)(b:Bs):By (a++47::b)=one_ a++By b:=by rw[MR,O5 h]
def QR(u:Bs):Prop:=u=[]∨∃u',u=u'++[47]
theorem Tk{u p:Bs}(hu:QR u)(hp:(47:UInt8)∉p):By (u++p)=By u++one_ p:=by
 rcases hu with rfl|⟨u',rfl⟩
 ·simp[JT,O5 hp]
 have e:u'++[47]++p=u'++47::p:=by simp
 rw[e,MR,MR,JT,O5 hp];simp
theorem Yf{u p:Bs}(hu:QR u)(hp:(47:UInt8)∉p):By (u++p++[47])=By u++one_ p:=by
 rw[MR,Tk hu hp,JT,List.append_nil]
def Dp(l:Bs):Bool:=decide (l=[47])||(decide (l.head?=some 47)&&(C8 l.tail).all E3)
def MS(l:Bs):Bool:=(By l).all E3&&(decide (l=[47])||(decide (By l≠[])&&decide (l=D6 (By l))))
theorem O6{p:Bs}(h:E3 p=true):(47:UInt8)∉p:=(MQ.1 h).2.2.2.2.2
theorem Yg{p:Bs}(h:E3 p=true):p≠[]:=(MQ.1 h).1
theorem Yh(l:Bs):Dp l=true↔l=[47]∨∃ps,ps≠[]∧(∀p∈ps,E3 p=true)∧l=D6 ps:=by
 unfold Dp;rw[Bool.or_eq_true,Bool.and_eq_true,decide_eq_true_iff,decide_eq_true_iff];constructor
 ·rintro(h|⟨h,ha⟩)
  ·exact .inl h
  cases l with
  |nil=>simp at h
  |cons c t=>
    simp at h;subst h;exact .inr ⟨C8 t,O3 t,by simpa using ha,(QQ t).symm⟩
 rintro(h|⟨ps,hne,hn,rfl⟩)
 ·exact .inl h
 cases ps with
 |nil=>exact absurd rfl hne
 |cons p ps=>
   right;rw[GC];refine⟨rfl,?_⟩;show(C8 (p++D6 ps)).all E3=true;rw[Tj ps p (O6 (hn p (by simp))) fun q hq=>O6 (hn q (by simp[hq]))]
   simpa using hn
theorem Yi{ps:List Bs}(hn:∀p∈ps,E3 p=true):By (D6 ps)=ps:=by
 cases ps with
 |nil=>simp[D6,JT]
 |cons p ps=>
   rw[GC];have:=MR [] (p++D6 ps);rw[List.nil_append]at this;rw[this,JT,List.nil_append];unfold By;rw[Tj ps p (O6 (hn p (by simp))) fun q hq=>O6 (hn q (by simp[hq]))];rw[List.filter_eq_self];intro a ha
   simpa[ne_]using Yg (hn a ha)
theorem Yj:By [47]=[]:=by simp[By,C8,ne_]
theorem QS(l:Bs):MS l=Dp l:=by
 rw[Bool.eq_iff_iff,Yh];unfold MS;rw[Bool.and_eq_true,Bool.or_eq_true,Bool.and_eq_true,decide_eq_true_iff,decide_eq_true_iff,decide_eq_true_iff,List.all_eq_true];constructor
 ·rintro⟨ha,h|⟨h1,h2⟩⟩
  ·exact .inl h
  exact .inr ⟨_,h1,ha,h2⟩
 rintro(rfl|⟨ps,h1,h2,rfl⟩)
 ·exact⟨by simp[Yj], .inl rfl⟩
 rw[Yi h2];exact⟨h2, .inr ⟨h1,rfl⟩⟩
end Go.Proofs.YtobclmbkdhbnpaaGreatDoor
namespace Go.Proofs.YtobclmbkdhbnpaaGreatDoor
open Go.RowKit
theorem GD(s:ByteArray):s.toList=s.data.toList:=Lib.toList_data s
theorem Tl{a b:ByteArray}(h:a.data.toList=b.data.toList):a=b:=by
 cases a;cases b;simp at h;simp[h]
theorem Yk{a b:ByteArray}:a.data.toList=b.data.toList↔a=b:=⟨Tl,fun h=>by rw[h]⟩
theorem Yl(a b:ByteArray):(a.toList==b.toList)=decide (a=b):=by
 rw[GD,GD,Bool.eq_iff_iff,beq_iff_eq,decide_eq_true_iff];exact Yk
theorem Tm(s:ByteArray):s.toList.isEmpty=decide (s.size=0):=by
 rw[GD,Lib.size_eq,Bool.eq_iff_iff,List.isEmpty_iff,decide_eq_true_iff,List.length_eq_zero_iff]
set_option maxRecDepth 100000 in
set_option maxHeartbeats 400000 in
theorem QT(s:ByteArray)(w:World):
    Calls prog 170 #[.string s, .string ⟨#[47]⟩] w fun e w'=>e= .returned (.int .i64 (Lib.indexByte s.data.toList 47))∧w=w':=by
 by_cases h:s=⟨#[47]⟩
 ·subst h
  go_enter Tryz.func170,Tryz.ntmps170
  go_wp2
  go_ret
  exact⟨rfl,rfl⟩
 have h1:([47]==s.toList)=false:=by
  have:=Yl ⟨#[47]⟩ s;rw[decide_eq_false (fun e=>h e.symm),GD ⟨#[47]⟩]at this;exact this
 go_enter Tryz.func170,Tryz.ntmps170
 go_wp2_with (go_at_call 177;refine(Tryz.stringslite_IndexByte _ _ _).mono ?_;rintro e w' ⟨rfl,rfl⟩)
 go_ret
 exact⟨rfl,rfl⟩
theorem Ym(s:ByteArray)(w:World):
    Calls prog 155 #[.string s, .string ⟨#[47]⟩] w fun e w'=>e= .returned (.int .i64 (Lib.indexByte s.data.toList 47))∧w=w':=by
 go_enter Tryz.func155,Tryz.ntmps155
 go_wp2_with (go_at_call 170;refine(QT _ _).mono ?_;rintro e w' ⟨rfl,rfl⟩)
 go_ret
 exact⟨rfl,rfl⟩
theorem QU{l:Bs}(h:(47:UInt8)∈l):∃i:Nat,Lib.indexByte l 47=i∧i<l.length∧l=l.take i++47::l.drop (i+1)∧(47:UInt8)∉l.take i:=by
 have hge:=Lib.indexByte_ge l 47;by_cases hm:Lib.indexByte l 47= -1
 ·have:=Lib.indexByte_none hm;obtain⟨k,hk⟩:=List.mem_iff_getElem?.1 h;exact absurd hk (this k)
 obtain⟨i,hi⟩:=Int.eq_ofNat_of_zero_le (show 0≤Lib.indexByte l 47 by omega);obtain⟨h1,h2⟩:=Lib.indexByte_some hi;have hlt:i<l.length:=(Ai.1 h1).1;refine⟨i,hi,hlt,?_,?_⟩
 ·have h3:l[i]=47:=(Ai.1 h1).2;rw[←h3,List.getElem_cons_drop,List.take_append_drop]
 intro hmem;obtain⟨k,hk⟩:=List.mem_iff_getElem?.1 hmem;rw[List.getElem?_take]at hk;split at hk
 ·exact h2 k (by assumption) hk
 cases hk
theorem Tn{l:Bs}(h:(47:UInt8)∉l):Lib.indexByte l 47= -1:=by
 have hge:=Lib.indexByte_ge l 47;by_cases hm:Lib.indexByte l 47= -1
 ·exact hm
 obtain⟨i,hi⟩:=Int.eq_ofNat_of_zero_le (show 0≤Lib.indexByte l 47 by omega);obtain⟨h1,_⟩:=Lib.indexByte_some hi;exact absurd (Aj h1) h
theorem Yn(r:Int)(h0:128≤r)(h1:Lib.validRune r=true):
    (∃a b:UInt8,Utf8.encode r=⟨#[a,b]⟩∧128≤b.toNat)∨(∃a b c:UInt8,Utf8.encode r=⟨#[a,b,c]⟩)∨(∃a b c d:UInt8,Utf8.encode r=⟨#[a,b,c,d]⟩):=by
 have hv:Utf8.valid r=true:=by
  have:=of_decide_eq_true h1;unfold Utf8.valid;simp only[Bool.or_eq_true,Bool.and_eq_true,decide_eq_true_iff];omega
 unfold Utf8.encode;simp only[hv,if_true];have hn:¬r.toNat<128:=by omega
 rw[if_neg hn];by_cases h2:r.toNat<2048
 ·rw[if_pos h2];refine .inl ⟨_,_,rfl,?_⟩;simp only[UInt8.toNat_ofNat'];omega
 rw[if_neg h2];by_cases h3:r.toNat<65536
 ·rw[if_pos h3];exact .inr (.inl ⟨_,_,_,rfl⟩)
 rw[if_neg h3];exact .inr (.inr ⟨_,_,_,_,rfl⟩)
set_option maxRecDepth 1000000 in
set_option maxHeartbeats 2000000 in
theorem Yo(r:Int)(w:World)(h0:128≤r)(h1:r≤2147483647)(h2:r≠65533)(hv:Lib.validRune r=false):
    Calls prog 171 #[.string ⟨#[0,47]⟩, .int .i32 r] w fun e w'=>e= .returned (.int .i64 (-1))∧w=w':=by
 have h2':(r==65533)=false:=by simpa using h2
 go_enter Tryz.func171,Tryz.ntmps171
 go_wp2_with (go_at_call 182;refine(Tryz.utf8_ValidRune _ _).mono ?_;rintro e w' ⟨rfl,rfl⟩;rw[hv])
 go_ret
 exact⟨rfl,rfl⟩
set_option maxRecDepth 1000000 in
set_option maxHeartbeats 2000000 in
theorem Yp(r:Int)(w:World)(h0:128≤r)(h1:r≤2147483647)(h2:r≠65533)(hv:Lib.validRune r=true):
    Calls prog 171 #[.string ⟨#[0,47]⟩, .int .i32 r] w fun e w'=>e= .returned (.int .i64 (-1))∧Below w.heap.size w w':=by
 have h2':(r==65533)=false:=by simpa using h2
 have hlt:decide (r<128)=false:=by simpa using h0
 rcases Yn r h0 hv with⟨a,b,he,hb⟩|⟨a,b,c,he⟩|⟨a,b,c,d,he⟩
 ·have hne:((((⟨#[0,47]⟩:ByteArray)[1]'(by decide)).toNat:Int) != (((⟨#[a,b]⟩:ByteArray)[1]'(by show 1<2;decide)).toNat:Int))=true:=by
     show((47:Int) != (b.toNat:Int))=true;rw[bne_iff_ne];omega
  go_enter Tryz.func171,Tryz.ntmps171
  go_wp2_with (go_at_call 182;refine(Tryz.utf8_ValidRune _ _).mono ?_;rintro e w' ⟨rfl,rfl⟩;rw[hv])
  go_step3
  go_wp2
  refine wp_loop_rounds 1 ?_;rw[rounds_succ]
  go_wp2
  go_step3
  go_wp2
  go_quiet (fail)
  have hb:=Nl (Below.refl w'.heap.size w') nq;generalize w'.drewN nq=wq at *
  go_wp2
  go_quiet ((go_at_call 181;exact Calls.quiet_of_same (Tryz.strings_IndexByte _ _ _)))
  go_wp2
  rw[Exit.noGoto_ret]
  go_wp2
  rw[Exit.noGoto_ret]
  go_wp2
  go_ret
  exact⟨rfl,Nl hb _⟩
 ·go_enter Tryz.func171,Tryz.ntmps171
  go_wp2_with (go_at_call 182;refine(Tryz.utf8_ValidRune _ _).mono ?_;rintro e w' ⟨rfl,rfl⟩;rw[hv])
  go_step3
  go_wp2
  refine wp_loop_rounds 1 ?_;rw[rounds_succ]
  go_wp2
  rw[Exit.noGoto_ret]
  go_wp2
  go_ret
  exact⟨rfl,Below.refl _ _⟩
 go_enter Tryz.func171,Tryz.ntmps171
 go_wp2_with (go_at_call 182;refine(Tryz.utf8_ValidRune _ _).mono ?_;rintro e w' ⟨rfl,rfl⟩;rw[hv])
 go_step3
 go_wp2
 refine wp_loop_rounds 1 ?_;rw[rounds_succ]
 go_wp2
 rw[Exit.noGoto_ret]
 go_wp2
 go_ret
 exact⟨rfl,Below.refl _ _⟩
theorem Yq(i:Nat)(hi:i<2):((⟨#[0,47]⟩:ByteArray)[i]'hi).toNat<128:=by
 match i,hi with
 |0,_=>show(0:UInt8).toNat<128;decide
 |1,_=>show(47:UInt8).toNat<128;decide
set_option maxRecDepth 1000000 in
set_option maxHeartbeats 2000000 in
theorem Yr(w:World):
    Calls prog 171 #[.string ⟨#[0,47]⟩, .int .i32 65533] w fun e w'=>e= .returned (.int .i64 (-1))∧Below w.heap.size w w':=by
 go_enter Tryz.func171,Tryz.ntmps171
 go_wp2
 go_loopg [5,6] 2 (fun g _ _ wx=>∃i:Nat,i+g=2∧wx=w.iter ⟨#[0,47]⟩ i)
 case atStart=>exact⟨0,by omega,rfl⟩
 case round=>
  obtain⟨i,hig,rfl⟩:=hrel
  cases gk with
  |zero=>
    obtain rfl:i=2:=by omega
    have hnx:=run_next_end (P:=prog) w ⟨#[0,47]⟩ 2
    go_wp2
    go_ret
    exact⟨rfl,(Below.refl _ _).alloc (Av _) _⟩
  |succ g=>
    have hi:i<2:=by omega
    have hx:=Yq i hi;have hnx:=fun ty=>run_next_ascii (P:=prog) w ⟨#[0,47]⟩ i ty hi hx;generalize ((⟨#[0,47]⟩:ByteArray)[i]'hi)=x at *;have hne:((x.toNat:Int)==65533)=false:=beq_eq_false_iff_ne.2 (by omega)
    go_wp2
    go_roundg g
    case measure=>omega
    case rel=>exact⟨i+1,by omega,rfl⟩
theorem To(s:ByteArray)(i:Nat)(h:i<s.size)(ha:128≤(s[i]'h).toNat):
    1≤(Utf8.decode s i).2∧i+(Utf8.decode s i).2≤s.size∧∀k,k<(Utf8.decode s i).2→128≤(s.get! (i+k)).toNat:=by
 have hn:¬(s[i]'h).toNat<128:=by omega
 have h0:s.get! (i+0)=s[i]'h:=get_at s i h;have g0:128≤(s.get! (i+0)).toNat:=by rw[h0];exact ha
 have c1:∀k,(decide (i+k<s.size)&&(s.get! (i+k)).toNat / 64==2)=true→i+k<s.size∧128≤(s.get! (i+k)).toNat:=by
  intro k hk;simp only[Bool.and_eq_true,decide_eq_true_iff,beq_iff_eq]at hk;exact⟨hk.1,by omega⟩
 have one:1≤1∧i+1≤s.size∧∀k,k<1→128≤(s.get! (i+k)).toNat:=by
  refine⟨Av _,h,fun k hk=>?_⟩;obtain rfl:k=0:=by omega
  exact g0
 unfold Utf8.decode;simp only[h0,hn,if_false];split
 ·rename_i hc;rw[Bool.and_eq_true]at hc;obtain⟨a1,b1⟩:=c1 1 hc.2;split
  ·refine⟨by simp,a1,fun k hk=>?_⟩;have:k=0∨k=1:=by simp at hk;omega
   rcases this with rfl|rfl
   ·exact g0
   exact b1
  exact one
 split
 ·rename_i hc;rw[Bool.and_eq_true,Bool.and_eq_true]at hc;obtain⟨a1,b1⟩:=c1 1 hc.1.2;obtain⟨a2,b2⟩:=c1 2 hc.2;split
  ·refine⟨by simp,a2,fun k hk=>?_⟩;have:k=0∨k=1∨k=2:=by simp at hk;omega
   rcases this with rfl|rfl|rfl
   ·exact g0
   ·exact b1
   exact b2
  exact one
 split
 ·rename_i hc;rw[Bool.and_eq_true,Bool.and_eq_true,Bool.and_eq_true]at hc;obtain⟨a1,b1⟩:=c1 1 hc.1.1.2;obtain⟨a2,b2⟩:=c1 2 hc.1.2;obtain⟨a3,b3⟩:=c1 3 hc.2;split
  ·refine⟨by simp,a3,fun k hk=>?_⟩;have:k=0∨k=1∨k=2∨k=3:=by simp at hk;omega
   rcases this with rfl|rfl|rfl|rfl
   ·exact g0
   ·exact b1
   ·exact b2
   exact b3
  exact one
 exact one
theorem Ys(s:ByteArray)(j:Nat)(hj:j<s.size):s.data.toList[j]?=some (s.get! j):=by
 have:=get_at s j hj;rw[Nat.add_zero]at this;rw[this];exact Lib.data_getElem? s j hj
theorem Yt{s:ByteArray}{i:Nat}(h:i<s.size)(ha:128≤(s[i]'h).toNat)(hno:Lib.NoAny s.data.toList [0,47] i):Lib.NoAny s.data.toList [0,47] (i+(Utf8.decode s i).2):=by
 obtain⟨_,h2,h3⟩:=To s i h ha;intro j b hj hb;by_cases hlt:j<i
 ·exact hno j b hlt hb
 have:=h3 (j - i) (by omega);rw[show i+(j - i)=j by omega]at this;rw[Ys s j (by omega)]at hb;injection hb with hb;rw[hb]at this;have h0:b≠0:=by rintro rfl;simp at this
 have h47:b≠47:=by
  rintro rfl;have:(47:UInt8).toNat=47:=rfl;omega
 simp[h0,h47]
theorem Yu(r:Int)(w:World)(h0:128≤r)(h1:r≤2147483647):
    Calls prog 171 #[.string ⟨#[0,47]⟩, .int .i32 r] w fun e w'=>e= .returned (.int .i64 (-1))∧Below w.heap.size w w':=by
 by_cases h2:r=65533
 ·subst h2;exact Yr w
 cases hv:Lib.validRune r with
 |true=>exact Yp r w h0 h1 h2 hv
 |false=>exact(Yo r w h0 h1 h2 hv).mono fun e w' h=>⟨h.1,by rw[←h.2];exact Below.refl _ _⟩
def Tp(s:ByteArray)(w:World)(e:Ending)(w':World):Prop:=∃v:Int,e= .returned (.int .i64 v)∧Below w.heap.size w w'∧((0≤v)↔((0:UInt8)∈s.data.toList∨(47:UInt8)∈s.data.toList))
theorem Yv{s:ByteArray}(h:Lib.NoAny s.data.toList [0,47] s.size):¬((0:UInt8)∈s.data.toList∨(47:UInt8)∈s.data.toList):=by
 rintro(h'|h')
 ·obtain⟨j,hj⟩:=List.mem_iff_getElem?.1 h';have:=h j 0 (by rw[Lib.size_eq];exact(Ai.1 hj).1) hj;simp at this
 obtain⟨j,hj⟩:=List.mem_iff_getElem?.1 h';have:=h j 47 (by rw[Lib.size_eq];exact(Ai.1 hj).1) hj;simp at this
theorem Yw{s:ByteArray}{i:Nat}{x:UInt8}(hx:s.data.toList[i]?=some x)(h:[0,47].contains x=true):((0:UInt8)∈s.data.toList∨(47:UInt8)∈s.data.toList):=by
 have hm:=Aj hx;simp at h;rcases h with rfl|rfl
 ·exact .inl hm
 exact .inr hm
set_option maxRecDepth 1000000 in
set_option maxHeartbeats 4000000 in
theorem Yx(s:ByteArray)(w:World)(h8:s.size≤8):Calls prog 156 #[.string s, .string ⟨#[0,47]⟩] w (Tp s w):=by
 have h8z:decide ((8:Int)<(s.size:Int))=false:=decide_eq_false (by omega)
 go_enter Tryz.func156,Tryz.ntmps156
 go_wp2_with (go_at_call 172;refine(Tryz.strings_shouldUseASCIISet _ _).mono ?_;rintro e w' ⟨rfl,hw⟩;rw[hw,h8z])
 clear hw
 go_loopg [9,10] s.size (fun g _ _ wx=>∃i:Nat,s.size≤i+g∧i≤s.size∧wx.heap[w.heap.size]?=some (.stringIter s i)∧Below w.heap.size w wx∧Hid (Lib.NoAny s.data.toList [0,47] i))
 case atStart=>exact⟨0,by omega,by omega,World.iter_heap w s 0,(Below.refl _ _).alloc (Av _) _,Lib.hid (Lib.NoAny.zero _ _)⟩
 case round=>
  obtain⟨i,hg,hi,hit,hbel,hno⟩:=hrel;have hks:=hbel.size;by_cases hlt:i<s.size
  ·obtain⟨g,rfl⟩:∃g,gk=g+1:=⟨gk - 1,by omega⟩;by_cases hx:(s[i]'hlt).toNat<128
   ·have hnx:=fun ty=>Lib.run_next_ascii_at (P:=prog) wr w.heap.size s i ty hit hlt hx;have hxl:s.data.toList[i]?=some (s[i]'hlt):=Lib.data_getElem? s i hlt;generalize (s[i]'hlt)=x at *;have Hx:=Lib.hid hxl;have hit':=Lib.iterAt_heap wr w.heap.size s i (i+1) hit;have hbel':=Lib.below_iterAt hbel (Av _) s (i+1);generalize wr.iterAt w.heap.size s (i+1)=w1 at *;have hcon:=Lib.contains_iff_indexByte [0,47] x;have hback:((x.toNat:Int)).toNat.toUInt8=x:=by simp
    have HI:=Lib.hid hit';clear hxl hit hit';cases hin:[0,47].contains x
    ·rw[hin]at hcon;have hneg:¬((0:Int)≤Lib.indexByte [0,47] x):=of_decide_eq_false hcon.symm;clear hcon
     go_wp2_with (go_at_call 171;refine(Tryz.strings_IndexRune_ascii _ _ _ (by omega) (by omega)).mono ?_;rintro e w' ⟨rfl,hw⟩;rw[hw,hback])
     go_roundg g
     case measure=>omega
     case rel=>exact⟨i+1,by omega,by omega,HI.out,hbel',Lib.hid (hno.out.succ Hx.out hin)⟩
    rw[hin]at hcon;have hpos:(0:Int)≤Lib.indexByte [0,47] x:=of_decide_eq_true hcon.symm;clear hcon
    go_wp2_with (go_at_call 171;refine(Tryz.strings_IndexRune_ascii _ _ _ (by omega) (by omega)).mono ?_;rintro e w' ⟨rfl,hw⟩;rw[hw,hback])
    go_ret
    exact⟨_,rfl,hbel',⟨fun _=>Yw Hx.out hin,fun _=>by omega⟩⟩
   have hx':128≤(s[i]'hlt).toNat:=by omega
   obtain⟨p1,p2,_⟩:=To s i hlt hx';have HN:=Lib.hid (Yt hlt hx' hno.out);have q1:=(decode_high s i hlt hx').1;have q2:=decode_le s i;have hnx:=fun ty=>Lib.run_next_any_at (P:=prog) wr w.heap.size s i ty hit hlt;generalize Utf8.decode s i=d at *;obtain⟨d1,d2⟩:=d;simp only at *;have hit':=Lib.iterAt_heap wr w.heap.size s i (i+d2) hit;have hbel':=Lib.below_iterAt hbel (Av _) s (i+d2);have hsz:=Lib.iterAt_size wr w.heap.size s (i+d2);generalize wr.iterAt w.heap.size s (i+d2)=w1 at *;have hk1:w.heap.size<w1.heap.size:=(Array.getElem?_eq_some_iff.1 hit').1;have HI:=Lib.hid hit';clear hit hit' hsz
   go_wp2_with fail
   refine(Yu _ _ (by omega) (by omega)).mono ?_;rintro e w2 ⟨rfl,hb2⟩
   go_wp2
   go_roundg g
   case measure=>omega
   case rel=>exact⟨i+d2,by omega,by omega,(hb2.block _ hk1).trans HI.out,hbel'.trans (hb2.mono (by omega)),HN⟩
  obtain rfl:i=s.size:=by omega
  have hnx:=fun ty=>Lib.run_next_end_at (P:=prog) wr w.heap.size s s.size ty hit hlt
  go_wp2
  go_ret
  exact⟨_,rfl,hbel,⟨fun h=>absurd h (by decide),fun h=>absurd h (Yv hno.out)⟩⟩
theorem Yy(s:ByteArray):(0≤Lib.indexAny s.data.toList [0,47])↔((0:UInt8)∈s.data.toList∨(47:UInt8)∈s.data.toList):=by
 generalize s.data.toList=l
 induction l with
 |nil=>simp[Lib.indexAny]
 |cons b l ih=>
   have hge:=Lib.indexAny_ge [0,47] l;unfold Lib.indexAny;by_cases hb:[0,47].contains b=true
   ·rw[if_pos hb];simp only[List.contains_cons,List.contains_nil,Bool.or_false,Bool.or_eq_true,beq_iff_eq]at hb;rcases hb with rfl|rfl<;>simp
   rw[if_neg hb];have h0:(0:UInt8)≠b:=by rintro rfl;simp at hb
   have h47:(47:UInt8)≠b:=by rintro rfl;simp at hb
   simp only[List.mem_cons,h0,h47,false_or];rw[←ih];split
   ·rename_i h;have:Lib.indexAny l [0,47]= -1:=by simpa using h
    rw[this]
   rename_i h;have:Lib.indexAny l [0,47]≠ -1:=by simpa using h
   constructor<;>intro h'<;>omega
theorem Yz(s:ByteArray)(w:World)(hs:s.size≤1000000):Calls prog 156 #[.string s, .string ⟨#[0,47]⟩] w (Tp s w):=by
 by_cases h8:s.size≤8
 ·exact Yx s w h8
 refine(Tryz.strings_IndexAny_long (fun w=>by kernel_rfl) s ⟨#[0,47]⟩ w (by decide) (by omega) (by omega) (by decide) ?_).mono ?_
 ·intro j b hj;have:b∈[0,47]:=Aj hj;simp at this;rcases this with rfl|rfl<;>decide
 rintro e w' ⟨rfl,rfl⟩;exact⟨_,rfl,Gy _ _ _,Yy s⟩
def QV(s:ByteArray):Bool:=decide ((0:UInt8)∈s.data.toList∨(47:UInt8)∈s.data.toList)
theorem Z0(s:ByteArray)(w:World)(hs:s.size≤1000000):
    Calls prog 118 #[.string s, .string ⟨#[0,47]⟩] w fun e w'=>e= .returned (.bool (QV s))∧Below w.heap.size w w':=by
 go_enter Tryz.func118,Tryz.ntmps118
 go_wp2_with fail
 refine(Yz s w hs).mono ?_;rintro e w' ⟨v,rfl,hb,hv⟩;have HV:=Lib.hid hv;clear hv
 go_wp2
 go_ret
 exact⟨Jv (decide_eq_decide.2 HV.out),hb⟩
theorem Tq(s:ByteArray):(s.toList==[46])=decide (s.data.toList=[46]):=by rw[GD,Bool.eq_iff_iff];simp
theorem Tr(s:ByteArray):(s.toList==[46,46])=decide (s.data.toList=[46,46]):=by rw[GD,Bool.eq_iff_iff];simp
set_option maxHeartbeats 1000000 in
theorem Ts(s:ByteArray)(w:World):
    Calls prog 77 #[.string s] w fun e w'=>e= .returned (.bool (E3 s.data.toList))∧Below w.heap.size w w':=by
 have hsz:=Lib.size_eq s;by_cases h0:s.size=0
 ·have he:s.toList.isEmpty=true:=by rw[Tm];simp[h0]
  have he':s.toList=[]:=List.isEmpty_iff.1 he
  have HF:Hid (E3 s.data.toList=false):=Lib.hid (by
   rw[←GD,he'];rfl)
  clear hsz
  go_enter Tryz.func77,Tryz.ntmps77
  go_wp2
  go_ret
  exact⟨Jv HF.out.symm,Below.refl _ _⟩
 have he:s.toList.isEmpty=false:=by rw[Tm];simp[h0]
 have hne:s.data.toList≠[]:=by intro e;rw[e]at hsz;exact h0 hsz
 by_cases h12:s.size≤12
 ·have hle:decide ((s.size:Int)≤12)=true:=decide_eq_true (by omega);by_cases h1:s.data.toList=[46]
  ·have e1:(s.toList==[46])=true:=by rw[Tq];simp[h1]
   have e1':(s.toList != [46])=false:=by simp[bne,e1]
   have HF:Hid (E3 s.data.toList=false):=Lib.hid (by rw[h1];rfl);clear hsz hne h1
   go_enter Tryz.func77,Tryz.ntmps77
   go_wp2
   go_ret
   exact⟨Jv HF.out.symm,Below.refl _ _⟩
  have e1:(s.toList==[46])=false:=by rw[Tq];simp[h1]
  have e1':(s.toList != [46])=true:=by simp[bne,e1]
  by_cases h2:s.data.toList=[46,46]
  ·have e2:(s.toList==[46,46])=true:=by rw[Tr];simp[h2]
   have e2':(s.toList != [46,46])=false:=by simp[bne,e2]
   have HF:Hid (E3 s.data.toList=false):=Lib.hid (by rw[h2];rfl);clear hsz hne h1 h2
   go_enter Tryz.func77,Tryz.ntmps77
   go_wp2
   go_ret
   exact⟨Jv HF.out.symm,Below.refl _ _⟩
  have e2:(s.toList==[46,46])=false:=by rw[Tr];simp[h2]
  have e2':(s.toList != [46,46])=true:=by simp[bne,e2]
  have HF:Hid (E3 s.data.toList= !QV s):=Lib.hid (by
   unfold QV;rw[Bool.eq_iff_iff,MQ];simp only[Bool.not_eq_true',decide_eq_false_iff_not,not_or]
   exact⟨fun h=>h.2.2.2.2,fun h=>⟨hne,by omega,h1,h2,h⟩⟩)
  clear hsz hne h1 h2
  go_enter Tryz.func77,Tryz.ntmps77
  go_wp2_with fail
  refine(Z0 s _ (by omega)).mono ?_;rintro e w' ⟨rfl,hb⟩
  go_wp2
  go_ret
  exact⟨Jv HF.out.symm,hb⟩
 have hle:decide ((s.size:Int)≤12)=false:=decide_eq_false (by omega);have HF:Hid (E3 s.data.toList=false):=Lib.hid (decide_eq_false (fun h=>by have:=h.2.1;omega));clear hsz hne
 go_enter Tryz.func77,Tryz.ntmps77
 go_wp2
 go_ret
 exact⟨Jv HF.out.symm,Below.refl _ _⟩
end Go.Proofs.YtobclmbkdhbnpaaGreatDoor
namespace Go.Proofs.YtobclmbkdhbnpaaGreatDoor
def CC(xs:List AE):List Bs:=xs.map fun x=>x.data.toList
theorem QW(x:UInt8):((x.toNat:Int)==47)=decide (x=47):=by
 rw[Bool.eq_iff_iff,beq_iff_eq,decide_eq_true_iff];constructor
 ·intro h;apply UInt8.toNat_inj.1;have:(47:UInt8).toNat=47:=rfl;omega
 rintro rfl;rfl
def E4(l:Bs)(f k:Nat)(bs:List Bs):Prop:=(k≤l.length∧f≤k∧QR (l.take f)∧(47:UInt8)∉(l.drop f).take (k - f)∧bs=By (l.take f))∨(k=l.length+1∧bs=By l)
theorem Z1{l:Bs}{f k:Nat}{bs:List Bs}{x:UInt8}(h:E4 l f k bs)(hx:l[k]?=some x)(hne:x≠47):E4 l f (k+1) bs:=by
 have hk:=(Ai.1 hx).1;rcases h with⟨h1,h2,h3,h4,h5⟩|⟨h1,h2⟩
 ·refine .inl ⟨hk,by omega,h3,?_,h5⟩;rw[show k+1 - f=(k - f)+1 by omega,List.take_add_one];have:(l.drop f)[k - f]?=some x:=by rw[List.getElem?_drop,show f+(k - f)=k by omega];exact hx
  rw[this];simp only[Option.toList_some,List.mem_append,List.mem_singleton,not_or];exact⟨h4,fun e=>hne e.symm⟩
 omega
theorem Tt{l:Bs}{f k:Nat}(h:f≤k):l.take k=l.take f++(l.drop f).take (k - f):=by
 rw[show k=f+(k - f) by omega,List.take_add];simp
theorem Z2{l:Bs}{f k:Nat}{bs:List Bs}(h:E4 l f k bs)(hx:l[k]?=some 47):E4 l (k+1) (k+1) (bs++one_ ((l.drop f).take (k - f))):=by
 have hk:=(Ai.1 hx).1;rcases h with⟨h1,h2,h3,h4,h5⟩|⟨h1,h2⟩
 ·have e:l.take (k+1)=l.take f++(l.drop f).take (k - f)++[47]:=by rw[List.take_add_one,hx,Tt h2];rfl
  refine .inl ⟨hk,Av _, .inr ⟨_,e⟩,by simp,?_⟩;rw[e,Yf h3 h4,h5]
 omega
theorem Z3{l:Bs}{f:Nat}{bs:List Bs}(h:E4 l f l.length bs):E4 l (l.length+1) (l.length+1) (bs++one_ ((l.drop f).take (l.length - f))):=by
 rcases h with⟨h1,h2,h3,h4,h5⟩|⟨h1,h2⟩
 ·refine .inr ⟨rfl,?_⟩;have e:=Tt (l:=l) h2;rw[List.take_length]at e;have h6:=Tk h3 h4;rw[←e]at h6;rw[h5];exact h6.symm
 omega
theorem Z4(l:Bs):E4 l 0 0 []:= .inl ⟨BJ _,Av _, .inl rfl,by simp,by simp[JT]⟩
theorem O7{l:Bs}{f k:Nat}{bs:List Bs}(h:E4 l f k bs)(hk:l.length<k):bs=By l:=by
 rcases h with⟨h1,_⟩|⟨_,h2⟩
 ·omega
 exact h2
theorem Z5{p:Bs}(h:p≠[]):one_ p=[p]:=if_neg h
theorem Z6(s:ByteArray){f k:Nat}(h:f<k)(hk:k≤s.size):(s.data.toList.drop f).take (k - f)≠[]:=by
 intro e;have:=congrArg List.length e;rw[Lib.size_eq]at hk;simp at this;simp at hk;omega
theorem Z7(s:ByteArray)(h:0<s.size):decide (s.data.toList.head?=some 47)=(((s[0]'h).toNat:Int)==47):=by
 rw[QW];have:s.data.toList.head?=some (s[0]'h):=by rw[List.head?_eq_getElem?];exact Lib.data_getElem? s 0 h
 rw[this];simp
theorem Z8(s:ByteArray)(h:0<s.size):decide (s.data.toList.getLast?=some 47)=(((s[s.size - 1]'(by omega)).toNat:Int)==47):=by
 rw[QW];have:s.data.toList.getLast?=some (s[s.size - 1]'(by omega)):=by rw[List.getLast?_eq_getElem?,←Lib.size_eq];exact Lib.data_getElem? s _ (by omega)
 rw[this];simp
theorem Z9{s:ByteArray}{a k a' k':Nat}{ss:List AE}(h:E4 s.data.toList a' k' (CC ss++one_ ((s.data.toList.drop a).take (k - a))))(ho:one_ ((s.data.toList.drop a).take (k - a))=[(s.data.toList.drop a).take (k - a)]):E4 s.data.toList a' k' (CC (ss++[s.extract a k])):=by
 rw[ho]at h
 have:CC (ss++[s.extract a k])=CC ss++[(s.data.toList.drop a).take (k - a)]:=by
  rw[←Lib.extract_data];simp[CC]
 rw[this];exact h
theorem ZA{s:ByteArray}{a k a' k':Nat}{bs:List Bs}(h:E4 s.data.toList a' k' (bs++one_ ((s.data.toList.drop a).take (k - a))))(ho:k≤a):E4 s.data.toList a' k' bs:=by
 rw[show k - a=0 by omega]at h
 simpa[one_]using h
theorem Tu(s:ByteArray):s.toList=s.data.toList:=Lib.toList_data s
theorem ZB(s:ByteArray):(s.toList==[46])=decide (s.data.toList=[46]):=by rw[Tu,Bool.eq_iff_iff];simp
theorem ZC(s:ByteArray):(s.toList==[46,46])=decide (s.data.toList=[46,46]):=by rw[Tu,Bool.eq_iff_iff];simp
theorem O8(s:AE):D4 s=E3 s.data.toList:=by
 have hs:=Lib.size_eq s;rw[Bool.eq_iff_iff,MQ];unfold D4;by_cases h1:s.size<1∨12<s.size
 ·rw[if_pos h1];constructor
  ·intro h;cases h
  rintro⟨h2,h3,_⟩;have:0<s.data.toList.length:=List.length_pos_iff.2 h2;omega
 rw[if_neg h1,ZB,ZC];have hne:s.data.toList≠[]:=by intro e;rw[e]at hs;change s.size=0 at hs;omega
 by_cases h2:s.data.toList=[46]
 ·rw[if_pos (decide_eq_true h2)];constructor
  ·intro h;cases h
  exact fun h=>absurd h2 h.2.2.1
 rw[if_neg (by simpa using h2)];by_cases h3:s.data.toList=[46,46]
 ·rw[if_pos (decide_eq_true h3)];constructor
  ·intro h;cases h
  exact fun h=>absurd h3 h.2.2.2.1
 rw[if_neg (by simpa using h3),List.all_eq_true]
 have hb:∀c:UInt8,Hh c=true↔c≠0∧c≠47:=by
  intro c;unfold Hh;rw[Bool.and_eq_true,QW]
  have:((c.toNat:Int)==0)=decide (c=0):=by
   rw[Bool.eq_iff_iff,beq_iff_eq,decide_eq_true_iff];constructor
   ·intro h;apply UInt8.toNat_inj.1;have:(0:UInt8).toNat=0:=rfl;omega
   rintro rfl;rfl
  rw[this];simp
 constructor
 ·intro h;exact⟨hne,by omega,h2,h3,fun h0=>((hb _).1 (h _ h0)).1 rfl,fun h0=>((hb _).1 (h _ h0)).2 rfl⟩
 rintro⟨_,_,_,_,h0,h47⟩ c hc;exact(hb c).2 ⟨fun e=>h0 (e ▸ hc),fun e=>h47 (e ▸ hc)⟩
theorem ZD(ps:List Bs)(p:Bs→Bool):(D6 (ps.filter p)).length≤(D6 ps).length:=by
 induction ps with
 |nil=>simp
 |cons q ps ih=>
   rw[List.filter_cons];split
   ·rw[GC,GC];simp;omega
   rw[GC];simp;omega
theorem ZE(ps:List Bs)(k:Nat):(D6 (ps.take k)).length≤(D6 ps).length:=by
 conv=>rhs;rw[←List.take_append_drop k ps,QP]
 simp
theorem QX(l:Bs):(D6 (By l)).length≤l.length+1:=by
 have:=ZD (C8 l) ne_;rw[QQ]at this
 simpa[By]using this
theorem ZF{l p:Bs}(h:p∈By l):p.length≤l.length:=by
 have h1:=QX l;obtain⟨a,b,e⟩:=List.append_of_mem h;rw[e,QP,GC]at h1;simp at h1;omega
end Go.Proofs.YtobclmbkdhbnpaaGreatDoor
namespace Go.Proofs.YtobclmbkdhbnpaaGreatDoor
open Go.RowKit
theorem ZG(s:AE):AFn prog 77 [.v (.string s)] (fun r=>r= .v (.bool (D4 s))):=by
 rw[O8];exact NP (us:=[.string s]) fun w=>Ts s w
def GW(R:Spc×Int):AV:= .tup [.agg (Ar R.1), .v (.int .i64 R.2)]
def JU:Spc:=⟨[],[]⟩
theorem JV(e:Int):LeA (.tup [.agg [.v (.slice none 0 0), .v (.slice none 0 0)], .v (.int .i64 e)]) (GW (JU,e)):=(by repeat (first|exact AM _|exact LeA.nil _|exact LeL.refl _|refine LeA.agg ?_|refine LeA.tup ?_|exact LeL.nil|refine LeL.cons ?_ ?_|exact LeA.any _))
def DD(s:Spc)(dev:Int)(a:A9):Spc×Int:=
 if dev<1∨(s.files.length:Int)≤dev then(JU,22)else if Cc s.files a=false then(JU,2)else if(AZ s.files a).kind≠2 then(JU,20)else if C4 s a.1=false∨a.1=dev then(JU,22)else
 if C4 s dev=true∨(C3 s a).isSome=true then(JU,16)else(⟨s.files,s.mounts++[(dev,a)]⟩,0)
def ZH(s:Spc)(dev:Int):Spc×Int:=
 if dev=0∨C4 s dev=false then(JU,22)else if(s.mounts.any fun m=>decide (m.2.1=dev))=true then(JU,16)else(⟨s.files,s.mounts.filter fun m=>decide (m.1≠dev)⟩,0)
section
theorem ZJ(s:Spc)(hs:SpcB s):PC prog 55 [.agg (Ar s)] (fun g=> .agg [.sl 2 (s.files.map Be) none, .sl 3 (s.mounts.map Co) g]) (108,3,s.mounts.map Co):=by
 have hfew:=hs.few;refine enter Tryz.func55 rfl rfl rfl rfl rfl 0 rfl ?_;refine w_ (b_ (h:=Af (h:=e_ (q_ (Bi ([(0,Ar s)]) 8 (h:=AQ 0 (h:=?_)))))))
 first|refine AF 1 (h:=?_)|refine B4 1 rfl (fun _ hS=>Cp (row:=Ar s) rfl (kb hS rfl) (B6 rfl) rfl ⟨rfl,rfl⟩) ?_
 refine AQ 3 (h:=?_)
 first|refine AF 4 (h:=?_)|refine B4 4 rfl (fun _ hS=>Cp (row:=Ar s) rfl (kb hS rfl) (B6 rfl) rfl ⟨rfl,rfl⟩) ?_
 refine c_ 2 rfl (AK (QJ s.files hs.files) ?_);rintro r rfl;refine o_ (h:=?_)
 first|refine c_ 5 rfl (Eo rfl rfl rfl (by simp;omega) (by repeat constructor) ?_)|refine c_ 5 rfl (Ep rfl rfl (by simp;omega) (by repeat constructor) ?_)
 refine o_ (h:=Fh 6 (h:=?_));refine B8 7 rfl (B3 rfl rfl rfl rfl rfl rfl (by repeat constructor) (by repeat constructor) ?_);refine o_ (h:=z_ (h:=t_ (A6 (?_))));refine B0 (some 0) (h5:=(AM _)) (h6:=⟨rfl,rfl,rfl⟩)
theorem O9(s:Spc)(dev:Int)(a:A9)(hs:SpcB s):AFn prog 24 [.agg (Ar s), .v (.int .i64 dev), .agg (AB a)] (fun r=>r=GW (DD s dev a)):=by
 have hfew:=hs.few;refine enter Tryz.func24 rfl rfl rfl rfl rfl 0 rfl ?_;refine w_ (b_ (h:=b_ (h:=Af (h:=a_ (h:=e_ (q_ (w_ (m_ (h:=BO (h:=m_ (h:=?_)))))))))));refine As false rfl rfl (fun hb1=>?_) (fun hb1=>?_)
 ·have hc1:=bp hb1;refine A3 (h:=A3 (h:=A3 (h:=A3 (h:=A3 (h:=A3 (h:=AU (h:=e_ (BQ (h:=w_ (Aa (h:=s_ (h:=a_ (h:=e_ (A6 (A4 (?_))))))))))))))));refine B0 (r:=GW (DD s dev a)) none (h5:=?_) (h6:=⟨rfl,rfl,rfl⟩);rw[DD,if_pos (.inl hc1)];exact JV _
 have hc1:=bp hb1;refine m_ (h:=f_ (h:=f_ (h:=l_ (h:=n_ (h:=G6 (h:=Ah (h:=e_ (?_))))))));refine A8 rfl (fun hb2=>?_) (fun hb2=>?_)
 ·have hc2:=bp hb2;refine w_ (Aa (h:=s_ (h:=a_ (h:=e_ (A6 (A4 (?_)))))));refine B0 (r:=GW (DD s dev a)) none (h5:=?_) (h6:=⟨rfl,rfl,rfl⟩);rw[DD,if_pos (.inr (by rw[List.length_map]at hc2;omega))];exact JV _
 have hc2:=bp hb2;refine AN (w_ (f_ (h:=l_ (h:=l_ (h:=?_)))));refine A7 rfl (AK (Dm s.files a hs.files) ?_);rintro r rfl;refine m_ (h:=x_ (h:=x_ (h:=Af (h:=s_ (h:=a_ (h:=e_ (q_ (w_ (m_ (h:=BZ (h:=e_ (?_))))))))))));refine A8 rfl (fun hb3=>?_) (fun hb3=>?_)
 ·have hc3:=bp hb3;refine w_ (Aa (h:=s_ (h:=a_ (h:=e_ (A6 (A4 (?_)))))));refine B0 (r:=GW (DD s dev a)) none (h5:=?_) (h6:=⟨rfl,rfl,rfl⟩);rw[DD,if_neg (by rw[List.length_map]at hc2;omega),if_pos hc3];exact JV _
 have hc3:=bp hb3;refine AN (q_ (w_ (f_ (h:=l_ (h:=BX (h:=e_ (?_)))))));refine A8 rfl (fun hb4=>?_) (fun hb4=>?_)
 ·have hc4:=bp hb4;refine w_ (Aa (h:=s_ (h:=a_ (h:=e_ (A6 (A4 (?_)))))));refine B0 (r:=GW (DD s dev a)) none (h5:=?_) (h6:=⟨rfl,rfl,rfl⟩);rw[DD,if_neg (by rw[List.length_map]at hc2;omega),if_neg (by simp[hc3]),if_pos hc4];exact JV _
 have hc4:=bp hb4;refine AN (q_ (w_ (l_ (h:=f_ (h:=l_ (h:=?_))))));refine A7 rfl (AK (Ls s a.1 hs) ?_);rintro r rfl;refine BZ (h:=m_ (h:=?_));refine As false rfl rfl (fun hb5=>?_) (fun hb5=>?_)
 ·have hc5:=bp hb5;refine A3 (h:=A3 (h:=A3 (h:=A3 (h:=AU (h:=e_ (BQ (h:=w_ (Aa (h:=s_ (h:=a_ (h:=e_ (A6 (A4 (?_))))))))))))));refine B0 (r:=GW (DD s dev a)) none (h5:=?_) (h6:=⟨rfl,rfl,rfl⟩);rw[DD,if_neg (by rw[List.length_map]at hc2;omega),if_neg (by simp[hc3]),if_neg (by simp[hc4]),if_pos (.inl hc5)];exact JV _
 have hc5:=bp hb5;refine f_ (h:=l_ (h:=m_ (h:=Ac (h:=Ah (h:=e_ (?_))))));refine A8 rfl (fun hb6=>?_) (fun hb6=>?_)
 ·have hc6:=bp hb6;refine w_ (Aa (h:=s_ (h:=a_ (h:=e_ (A6 (A4 (?_)))))));refine B0 (r:=GW (DD s dev a)) none (h5:=?_) (h6:=⟨rfl,rfl,rfl⟩);rw[DD,if_neg (by rw[List.length_map]at hc2;omega),if_neg (by simp[hc3]),if_neg (by simp[hc4]),if_pos (.inr hc6)];exact JV _
 have hc6:=bp hb6;refine AN (q_ (w_ (l_ (h:=m_ (h:=?_)))));refine A7 rfl (AK (Ls s dev hs) ?_);rintro r rfl;refine m_ (h:=?_);refine As false rfl rfl (fun hb7=>?_) (fun hb7=>?_)
 ·have hc7:=bp hb7;refine A3 (h:=A3 (h:=A3 (h:=AU (h:=e_ (BQ (h:=w_ (Aa (h:=s_ (h:=a_ (h:=e_ (A6 (A4 (?_)))))))))))));refine B0 (r:=GW (DD s dev a)) none (h5:=?_) (h6:=⟨rfl,rfl,rfl⟩);rw[DD,if_neg (by rw[List.length_map]at hc2;omega),if_neg (by simp[hc3]),if_neg (by simp[hc4]),if_neg (by simp[hc5,hc6]),if_pos (.inl hc7)];exact JV _
 have hc7:=bp hb7;refine l_ (h:=l_ (h:=?_));refine Aw (AK (PZ s a hs) ?_);rintro r rfl;refine Ah (h:=e_ (?_));refine A8 rfl (fun hb8=>?_) (fun hb8=>?_)
 ·have hc8:=bp hb8;refine w_ (Aa (h:=s_ (h:=a_ (h:=e_ (A6 (A4 (?_)))))));refine B0 (r:=GW (DD s dev a)) none (h5:=?_) (h6:=⟨rfl,rfl,rfl⟩);rw[DD,if_neg (by rw[List.length_map]at hc2;omega),if_neg (by simp[hc3]),if_neg (by simp[hc4]),if_neg (by simp[hc5,hc6]),if_pos (.inr hc8)];exact JV _
 have hc8:=bp hb8;refine AN (w_ (l_ (h:=?_)));refine A7 rfl (Wr rfl (by repeat (first|exact Args.nil|refine Args.cons _ _ _ _ _ rfl (Lc rfl) ?_|refine Args.cons _ _ _ _ _ rfl (NG _) ?_|refine Args.cons _ _ _ _ _ rfl (La _) ?_|refine Args.cons _ _ _ _ _ rfl (NQ rfl (by repeat (first|exact AM _|exact LeA.nil _|exact LeL.refl _|refine LeA.agg ?_|refine LeA.tup ?_|exact LeL.nil|refine LeL.cons ?_ ?_|exact LeA.any _))) ?_)) (ZJ s hs) (fun _=>rfl) (by repeat constructor) ?_);refine Af (h:=s_ (h:=e_ (w_ (f_ (h:=l_ (h:=m_ (h:=l_ (h:=Aa (h:=C2 (h:=?_))))))))))
 first|refine A7 rfl (Eo rfl rfl rfl (by simp;omega) (by repeat constructor) ?_)|refine A7 rfl (Ep rfl rfl (by simp;omega) (by repeat constructor) ?_)
 refine f_ (h:=s_ (h:=e_ (w_ (l_ (h:=s_ (h:=a_ (h:=e_ (A6 (?_)))))))));refine AA ?_;rw[DD,if_neg (by rw[List.length_map]at hc2;omega),if_neg (by simp[hc3]),if_neg (by simp[hc4]),if_neg (by simp[hc5,hc6]),if_neg (by simp[hc7,hc8])];simp only[GW,Ar,List.map_append];rfl
end
theorem Tv(z:Int){n:Int}(h:1≤n): -n<z.tmod n∧z.tmod n<n:=⟨Int.lt_tmod_of_pos z (by omega),Int.tmod_lt_of_pos z (by omega)⟩
theorem GE(a b:ByteArray):(a++b).size=a.size+b.size:=ByteArray.size_append
section
theorem ZK(l:List Int):ACall prog 5 [.sl 1 (l.map CB) none] [] (fun r b t=>r= .bp 0 0∧b=[ES l 0]∧t=[]):=by
 refine enter Tryz.func5 rfl rfl rfl rfl rfl 1 rfl ?_;refine w_ (a_ (h:=e_ (w_ (m_ (h:=Aa (h:=b_ (h:=a_ (h:=e_ (A6 (?_))))))))));refine B0 none (h5:=(AM _)) (h6:=⟨rfl,rfl,rfl⟩)
theorem Gn(l:List Int)(a:Nat)(n:Int)(ha:a≤1000000000000)(hn:n≤1000000000000):FF prog 23 l a [.v (.int .i64 n)] 1 (fun r=>∃k:Int,r= .v (.int .i64 k)∧0≤k∧(1≤n→k<n)∧(n<1→k=0)):=by
 refine enter Tryz.func23 rfl rfl rfl rfl rfl 1 rfl ?_;refine w_ (a_ (h:=e_ (q_ (w_ (m_ (h:=BO (h:=e_ (?_))))))));refine A8 rfl (fun hb1=>?_) (fun hb1=>?_)
 ·have hc1:=bp hb1;refine w_ (a_ (h:=e_ (A6 (A4 (?_)))));refine B0 none (h5:=(AM _)) (h6:=⟨_,rfl,rfl,a,by omega,rfl,0,rfl,by omega,by omega,by omega⟩)
 have hc1:=bp hb1;refine AN (w_ (m_ (h:=k_ (h:=f_ (h:=l_ (h:=B2 (h:=k_ (h:=f_ (h:=s_ (h:=e_ (w_ (m_ (h:=k_ (h:=f_ (h:=l_ (h:=X7 (h:=a_ (h:=e_ (q_ (q_ (Dk 10 (h:=AP 0 (h:=BW 1 (h:=?_))))))))))))))))))))))));refine AQ 2 (h:=AF 3 (h:=AP 4 (h:=BW 5 (h:=AQ 6 (h:=AF 7 (h:=JF 8 (h:=X8 9 (h:=z_ (h:=t_ (?_))))))))));refine A8 rfl (fun hb2=>?_) (fun hb2=>?_)
 ·have hc2:=bp hb2;have hlt:a<l.length:=by simp at hc2;omega
  obtain⟨z,hz⟩:∃z,(l.map CB)[a]?=some (CB z):=⟨l[a],by simp[hlt]⟩;have tz:=Tv z (n:=n) (by omega);refine Dk 12 (h:=AP 0 (h:=BW 1 (h:=AQ 2 (h:=AF 3 (h:=AP 4 (h:=BW 5 (h:=AQ 6 (h:=AF 7 (h:=Ln 8 (h:=?_))))))))));refine F1 (i:=9) rfl (CM (n:=a) rfl rfl (by omega) hz ⟨rfl,rfl⟩) ?_;refine AF 10 (h:=BN 11 (h:=z_ (h:=t_ (w_ (m_ (h:=m_ (h:=?_)))))));refine A7 rfl (Rr rfl rfl (by omega) ?_);refine a_ (h:=e_ (q_ (w_ (m_ (h:=BO (h:=e_ (?_)))))));refine A8 rfl (fun hb3=>?_) (fun hb3=>?_)
  ·have hc3:=bp hb3;refine AX (m_ (h:=m_ (h:=?_)));refine A7 rfl (Ji rfl rfl (by omega) ?_);refine a_ (h:=e_ (w_ (m_ (h:=a_ (h:=e_ (A6 (?_)))))));refine B0 none (h5:=(AM _)) (h6:=⟨_,rfl,rfl,a+1,by omega,rfl,_,rfl,by omega,by omega,by omega⟩)
  have hc3:=bp hb3;refine AN (w_ (m_ (h:=a_ (h:=e_ (A6 (?_))))));refine B0 none (h5:=(AM _)) (h6:=⟨_,rfl,rfl,a+1,by omega,rfl,_,rfl,by omega,by omega,by omega⟩)
 have hc2:=bp hb2;have tz:=Tv (IntKind.i64.wrap (((a:Int)+1) * 7)) (n:=n) (by omega);refine AN (w_ (m_ (h:=m_ (h:=?_))));refine A7 rfl (Rr rfl rfl (by omega) ?_);refine a_ (h:=e_ (q_ (w_ (m_ (h:=BO (h:=e_ (?_)))))));refine A8 rfl (fun hb4=>?_) (fun hb4=>?_)
 ·have hc4:=bp hb4;refine AX (m_ (h:=m_ (h:=?_)));refine A7 rfl (Ji rfl rfl (by omega) ?_);refine a_ (h:=e_ (w_ (m_ (h:=a_ (h:=e_ (A6 (?_)))))));refine B0 none (h5:=(AM _)) (h6:=⟨_,rfl,rfl,a+1,by omega,rfl,_,rfl,by omega,by omega,by omega⟩)
 have hc4:=bp hb4;refine AN (w_ (m_ (h:=a_ (h:=e_ (A6 (?_))))));refine B0 none (h5:=(AM _)) (h6:=⟨_,rfl,rfl,a+1,by omega,rfl,_,rfl,by omega,by omega,by omega⟩)
theorem H4(l:List Int)(a:Nat)(lo hi:Int)(ha:a≤1000000000000)(h1: -1000000≤lo)(h2:lo≤hi)(h3:hi≤1000000):FF prog 25 l a [.v (.int .i64 lo), .v (.int .i64 hi)] 1 (fun r=>∃k:Int,r= .v (.int .i64 k)∧lo≤k∧k≤hi):=by
 refine enter Tryz.func25 rfl rfl rfl rfl rfl 1 rfl ?_;refine w_ (a_ (h:=e_ (w_ (m_ (h:=m_ (h:=m_ (h:=m_ (h:=PS (h:=B2 (h:=?_))))))))));refine A7 rfl (Bf 0 (hc:=Gn l a (hi - lo+1) ha (by omega)) (hR:=?_));rintro r a1 ha1 ⟨k,rfl,k1,k2,k3⟩;refine⟨rfl,_,(by repeat constructor),?_⟩;refine B2 (h:=a_ (h:=e_ (A6 (?_))));refine B0 none (h5:=(AM _)) (h6:=⟨_,rfl,rfl,a1,by omega,rfl,_,rfl,by omega,by omega⟩)
theorem KA(l:List Int)(a:Nat)(rows:List (List AV))(p:Int→Bool)(ha:a≤1000000000000)(h0:Nat.blt 0 rows.length=true)(h1:Nat.ble rows.length 1000=true)(hp:NU p rows=true):FF prog 56 l a [.sl 1 rows none] 1 (fun r=>∃z:Int,r= .v (.int .i64 z)∧p z=true):=by
 have h0':0<rows.length:=B6 h0;have h1':rows.length≤1000:=B6 h1;refine enter Tryz.func56 rfl rfl rfl rfl rfl 1 rfl ?_;refine w_ (a_ (h:=e_ (w_ (m_ (h:=m_ (h:=m_ (h:=n_ (h:=?_))))))));refine A7 rfl (Bf 0 (hc:=Gn l a rows.length ha (by omega)) (hR:=?_));rintro r a1 ha1 ⟨k,rfl,k1,k2,k3⟩;refine⟨rfl,_,(by repeat constructor),?_⟩;obtain⟨m,rfl⟩:=Int.eq_ofNat_of_zero_le k1;obtain⟨z,hz,pz⟩:=SN hp (i:=m) (by omega);refine A7 rfl (CM (n:=m) rfl rfl rfl hz ?_);refine l_ (h:=a_ (h:=e_ (A6 (?_))));refine B0 none (h5:=(AM _)) (h6:=⟨_,rfl,rfl,a1,by omega,rfl,z,rfl,pz⟩)
theorem MT(l:List Int)(a:Nat)(rows:List (List AV))(p:ByteArray→Bool)(ha:a≤1000000000000)(h0:Nat.blt 0 rows.length=true)(h1:Nat.ble rows.length 1000=true)(hp:NV p rows=true):FF prog 28 l a [.sl 1 rows none] 1 (fun r=>∃z:ByteArray,r= .v (.string z)∧p z=true):=by
 have h0':0<rows.length:=B6 h0;have h1':rows.length≤1000:=B6 h1;refine enter Tryz.func28 rfl rfl rfl rfl rfl 1 rfl ?_;refine w_ (a_ (h:=e_ (w_ (m_ (h:=m_ (h:=m_ (h:=n_ (h:=?_))))))));refine A7 rfl (Bf 0 (hc:=Gn l a rows.length ha (by omega)) (hR:=?_));rintro r a1 ha1 ⟨k,rfl,k1,k2,k3⟩;refine⟨rfl,_,(by repeat constructor),?_⟩;obtain⟨m,rfl⟩:=Int.eq_ofNat_of_zero_le k1;obtain⟨z,hz,pz⟩:=SO hp (i:=m) (by omega);refine A7 rfl (CM (n:=m) rfl rfl rfl hz ?_);refine l_ (h:=a_ (h:=e_ (A6 (?_))));refine B0 none (h5:=(AM _)) (h6:=⟨_,rfl,rfl,a1,by omega,rfl,z,rfl,pz⟩)
theorem MU(l:List Int)(a:Nat)(ha:a≤100000000000):FF prog 9 l a [] 2 (fun r=>∃s:ByteArray,r= .v (.string s)∧s.size≤13):=by
 refine enter Tryz.func9 rfl rfl rfl rfl rfl 1 rfl ?_;refine w_ (a_ (h:=e_ (q_ (w_ (m_ (h:=?_))))));refine A7 rfl (Bf 0 (hc:=Gn l _ (20) (by omega) (by omega)) (hR:=?_));rintro r a1 ha1 ⟨k1,rfl,p1,q1,o1⟩;refine⟨rfl,_,(by repeat constructor),?_⟩;refine Ac (h:=e_ (?_));refine A8 rfl (fun hb1=>?_) (fun hb1=>?_)
 ·have hc1:=bp hb1;refine w_ (m_ (h:=C2 (h:=?_)));refine A7 rfl (Bf 0 (hc:=MT l _ _ (fun s=>decide (s.size≤13)) (by omega) (by rfl) (by rfl) (by rfl)) (hR:=?_));rintro r a2 ha2 ⟨k2,rfl,p2⟩;refine⟨rfl,_,(by repeat constructor),?_⟩;refine a_ (h:=e_ (A6 (A4 (?_))));refine B0 none (h5:=(AM _)) (h6:=⟨_,rfl,rfl,_,?_,rfl,_,rfl,of_decide_eq_true ‹_›⟩)<;>omega
 have hc1:=bp hb1;refine AN (w_ (m_ (h:=C2 (h:=?_))));refine A7 rfl (Bf 0 (hc:=MT l _ _ (fun s=>decide (s.size≤13)) (by omega) (by rfl) (by rfl) (by rfl)) (hR:=?_));rintro r a3 ha3 ⟨k3,rfl,p3⟩;refine⟨rfl,_,(by repeat constructor),?_⟩;refine a_ (h:=e_ (A6 (?_)));refine B0 none (h5:=(AM _)) (h6:=⟨_,rfl,rfl,_,?_,rfl,_,rfl,of_decide_eq_true ‹_›⟩)<;>omega
theorem Tw(l:List Int)(a:Nat)(ha:a≤50000000000):FF prog 127 l a [] 20 (fun r=>∃s:ByteArray,r= .v (.string s)∧s.size≤58):=by
 have e1:(⟨#[47]⟩:ByteArray).size=1:=rfl;have e0:(⟨#[]⟩:ByteArray).size=0:=rfl;refine enter Tryz.func127 rfl rfl rfl rfl rfl 1 rfl ?_;refine w_ (a_ (h:=e_ (w_ (a_ (h:=e_ (?_))))));refine BY (fun s=>∃(b:Nat) (t:ByteArray),b≤a+1∧t.size≤1∧s=⟨look [(0, .bp 0 0),(3, .v (.string t))],⟨[ES l b],[]⟩⟩) ?_ ?_
 ·skip
  refine w_ (m_ (h:=?_));refine A7 rfl (Bf 0 (hc:=Gn l _ (6) (by omega) (by omega)) (hR:=?_));rintro r a1 ha1 ⟨k1,rfl,p1,q1,o1⟩;refine⟨rfl,_,(by repeat constructor),?_⟩;refine CS (h:=e_ (?_));refine A8 rfl (fun hb1=>?_) (fun hb1=>?_)
  ·have hc1:=bp hb1;refine AX (a_ (h:=AW (?_)));refine AJ ?_;refine⟨_,⟨_,_,?_,?_,rfl⟩,(wk 1 0)⟩<;>first|omega|exact B6 rfl
  have hc1:=bp hb1;refine BA (?_);refine AJ ?_;refine⟨_,⟨_,_,?_,?_,rfl⟩,(wk 1 0)⟩<;>first|omega|exact B6 rfl
 rintro s ⟨b,t0,hb,ht0,rfl⟩;refine w_ (m_ (h:=C2 (h:=?_)));refine A7 rfl (Bf 0 (hc:=KA l _ _ (fun z=>decide (0≤z∧z≤4)) (by omega) (by rfl) (by rfl) (by rfl)) (hR:=?_));rintro r a2 ha2 ⟨k2,rfl,p2⟩;refine⟨rfl,_,(by repeat constructor),?_⟩;obtain⟨hz1,hz2⟩:=of_decide_eq_true p2;obtain⟨m,rfl⟩:=Int.eq_ofNat_of_zero_le hz1;refine a_ (h:=e_ (q_ (w_ (a_ (h:=e_ (Ao (?_)))))));refine Bm (fun n s=>∃(j b1:Nat) (t:ByteArray),j≤m∧n=m - j∧b1≤b+1+4 * j∧t.size≤1+14 * j∧s=⟨look [(0, .bp 0 0),(3, .v (.string t)),(4, .v (.int .i64 (m:Int))),(5, .v (.int .i64 (j:Int)))],⟨[ES l b1],[]⟩⟩) (m) ((wk 1 0)) (⟨0,_,t0,by omega,rfl,by omega,by omega,rfl⟩) ?_;rintro n s ⟨j,b1,t,hj,rfl,hb1,ht,rfl⟩;refine q_ (w_ (m_ (h:=m_ (h:=BO (h:=e_ (?_))))));refine A8 rfl (fun hb2=>?_) (fun hb2=>?_)
 ·have hc2:=bp hb2;refine AN (?_);refine BY (fun s=>∃(b3:Nat) (t1:ByteArray),b3≤b1+4∧t1.size≤1+14 * (j+1)∧s=⟨look [(0, .bp 0 0),(3, .v (.string t1)),(4, .v (.int .i64 (m:Int))),(5, .v (.int .i64 (j:Int)))],⟨[ES l b3],[]⟩⟩) ?_ ?_
  ·skip
   refine Ao (q_ (w_ (m_ (h:=CS (h:=e_ (?_))))));refine A8 rfl (fun hb3=>?_) (fun hb3=>?_)
   ·have hc3:=bp hb3;refine AX (m_ (h:=?_));refine A7 rfl (Ef rfl rfl (by(try simp only[GE]);omega) ?_);refine a_ (h:=e_ (w_ (m_ (h:=?_))));refine A7 rfl (Bf 0 (hc:=Gn l _ (8) (by omega) (by omega)) (hR:=?_));rintro r a3 ha3 ⟨k3,rfl,p3,q3,o3⟩;refine⟨rfl,_,(by repeat constructor),?_⟩;refine Ac (h:=e_ (?_));refine A8 rfl (fun hb4=>?_) (fun hb4=>?_)
    ·have hc4:=bp hb4;refine AX (m_ (h:=m_ (h:=C2 (h:=?_))));refine A7 rfl (Bf 0 (hc:=MT l _ _ (fun s=>decide (s.size≤13)) (by omega) (by rfl) (by rfl) (by rfl)) (hR:=?_));rintro r a4 ha4 ⟨k4,rfl,p4⟩;refine⟨rfl,_,(by repeat constructor),?_⟩;have hw:=of_decide_eq_true p4;refine A7 rfl (Ef rfl rfl (by(try simp only[GE]);omega) ?_);refine a_ (h:=AW (Au (?_)));refine AJ ?_;refine⟨_,⟨_,_,?_,?_,rfl⟩,(wk 1 0)⟩<;>(try simp only[GE])<;>omega
    have hc4:=bp hb4;refine AX (m_ (h:=m_ (h:=?_)));refine A7 rfl (Bf 0 (hc:=MU l _ (by omega)) (hR:=?_));rintro r a5 ha5 ⟨k5,rfl,hw⟩;refine⟨rfl,_,(by repeat constructor),?_⟩;refine A7 rfl (Ef rfl rfl (by(try simp only[GE]);omega) ?_);refine a_ (h:=AW (Au (?_)));refine AJ ?_;refine⟨_,⟨_,_,?_,?_,rfl⟩,(wk 1 0)⟩<;>(try simp only[GE])<;>omega
   have hc3:=bp hb3;refine AN (w_ (m_ (h:=?_)));refine A7 rfl (Bf 0 (hc:=Gn l _ (8) (by omega) (by omega)) (hR:=?_));rintro r a6 ha6 ⟨k6,rfl,p6,q6,o6⟩;refine⟨rfl,_,(by repeat constructor),?_⟩;refine Ac (h:=e_ (?_));refine A8 rfl (fun hb5=>?_) (fun hb5=>?_)
   ·have hc5:=bp hb5;refine AX (m_ (h:=m_ (h:=C2 (h:=?_))));refine A7 rfl (Bf 0 (hc:=MT l _ _ (fun s=>decide (s.size≤13)) (by omega) (by rfl) (by rfl) (by rfl)) (hR:=?_));rintro r a7 ha7 ⟨k7,rfl,p7⟩;refine⟨rfl,_,(by repeat constructor),?_⟩;have hw:=of_decide_eq_true p7;refine A7 rfl (Ef rfl rfl (by(try simp only[GE]);omega) ?_);refine a_ (h:=AW (Au (?_)));refine AJ ?_;refine⟨_,⟨_,_,?_,?_,rfl⟩,(wk 1 0)⟩<;>(try simp only[GE])<;>omega
   have hc5:=bp hb5;refine AX (m_ (h:=m_ (h:=?_)));refine A7 rfl (Bf 0 (hc:=MU l _ (by omega)) (hR:=?_));rintro r a8 ha8 ⟨k8,rfl,hw⟩;refine⟨rfl,_,(by repeat constructor),?_⟩;refine A7 rfl (Ef rfl rfl (by(try simp only[GE]);omega) ?_);refine a_ (h:=AW (Au (?_)));refine AJ ?_;refine⟨_,⟨_,_,?_,?_,rfl⟩,(wk 1 0)⟩<;>(try simp only[GE])<;>omega
  rintro s ⟨b3,t1,hb3,ht1,rfl⟩;refine AX (m_ (h:=B2 (h:=a_ (h:=AW (?_)))));refine AJ ?_;refine⟨_,_,?_,⟨j+1,_,_,by omega,rfl,?_,?_,rfl⟩,(wk 1 0)⟩<;>omega
 have hc2:=bp hb2;refine BU (Am (Am (BV (t_ (q_ (w_ (m_ (h:=?_))))))));refine A7 rfl (Bf 0 (hc:=Gn l _ (8) (by omega) (by omega)) (hR:=?_));rintro r a9 ha9 ⟨k9,rfl,p9,q9,o9⟩;refine⟨rfl,_,(by repeat constructor),?_⟩;refine Ac (h:=e_ (?_));refine A8 rfl (fun hb6=>?_) (fun hb6=>?_)
 ·have hc6:=bp hb6;refine AX (m_ (h:=?_));refine A7 rfl (Ef rfl rfl (by(try simp only[GE]);omega) ?_);refine a_ (h:=e_ (w_ (m_ (h:=a_ (h:=e_ (A6 (?_)))))));refine B0 none (h5:=(AM _)) (h6:=⟨_,rfl,rfl,_,?_,rfl,_,rfl,?_⟩)<;>(try simp only[GE])<;>omega
 have hc6:=bp hb6;refine AN (w_ (m_ (h:=a_ (h:=e_ (A6 (?_))))));refine B0 none (h5:=(AM _)) (h6:=⟨_,rfl,rfl,_,?_,rfl,_,rfl,?_⟩)<;>(try simp only[GE])<;>omega
end
section
theorem KC(l:List Int)(a:Nat)(f:AT)(ha:a≤100000000000)(hf:FlsB f)(hne:∀d∈f,0<d.nodes.length):FF prog 8 l a [.agg (Al f)] 4 (fun r=>∃x:A9,r= .agg (AB x)):=by
 have hfew:=hf.few;have hml:(f.map Be).length=f.length:=by simp
 refine enter Tryz.func8 rfl rfl rfl rfl rfl 1 rfl ?_;refine w_ (b_ (h:=Af (h:=e_ (w_ (m_ (h:=f_ (h:=l_ (h:=n_ (h:=?_)))))))));refine A7 rfl (Bf 0 (hc:=Gn l _ ((f.map Be).length:Int) (by omega) (by omega)) (hR:=?_));rintro r a1 ha1 ⟨k1,rfl,p1,q1,o1⟩;refine⟨rfl,_,(by repeat constructor),?_⟩;obtain⟨m,rfl⟩:=Int.eq_ofNat_of_zero_le p1;refine a_ (h:=e_ (q_ (w_ (f_ (h:=l_ (h:=n_ (h:=Ac (h:=m_ (h:=?_)))))))));refine As false rfl rfl (fun hb1=>?_) (fun hb1=>?_)
 ·have hc1:=bp hb1;refine A3 (h:=A3 (h:=A3 (h:=AU (h:=e_ (BQ (h:=w_ (m_ (h:=?_))))))));refine A7 rfl (Bf 0 (hc:=H4 l _ (-1) (3) (by omega) (by omega) (by omega) (by omega)) (hR:=?_));rintro r a2 ha2 ⟨k2,rfl,p2,q2⟩;refine⟨rfl,_,(by repeat constructor),?_⟩;refine m_ (h:=?_);refine A7 rfl (Bf 0 (hc:=H4 l _ (-1) (9) (by omega) (by omega) (by omega) (by omega)) (hR:=?_));rintro r a3 ha3 ⟨k3,rfl,p3,q3⟩;refine⟨rfl,_,(by repeat constructor),?_⟩;refine Aa (h:=s_ (h:=e_ (A6 (A4 (?_)))));refine B0 none (h5:=(AM _)) (h6:=⟨_,rfl,rfl,_,?_,rfl,(_,_),rfl⟩)<;>omega
 have hc1:=bp hb1;refine m_ (h:=?_);refine Aw (Bf 0 (hc:=Gn l _ (24) (by omega) (by omega)) (hR:=?_));rintro r a4 ha4 ⟨k4,rfl,p4,q4,o4⟩;refine⟨rfl,_,(by repeat constructor),?_⟩;refine Ac (h:=Ah (h:=e_ (?_)));refine A8 rfl (fun hb2=>?_) (fun hb2=>?_)
 ·have hc2:=bp hb2;refine w_ (m_ (h:=?_));refine A7 rfl (Bf 0 (hc:=H4 l _ (-1) (3) (by omega) (by omega) (by omega) (by omega)) (hR:=?_));rintro r a5 ha5 ⟨k5,rfl,p5,q5⟩;refine⟨rfl,_,(by repeat constructor),?_⟩;refine m_ (h:=?_);refine A7 rfl (Bf 0 (hc:=H4 l _ (-1) (9) (by omega) (by omega) (by omega) (by omega)) (hR:=?_));rintro r a6 ha6 ⟨k6,rfl,p6,q6⟩;refine⟨rfl,_,(by repeat constructor),?_⟩;refine Aa (h:=s_ (h:=e_ (A6 (A4 (?_)))));refine B0 none (h5:=(AM _)) (h6:=⟨_,rfl,rfl,_,?_,rfl,(_,_),rfl⟩)<;>omega
 have hc2:=bp hb2;obtain⟨-,d,hd,hrow, -⟩:=CF Be (l:=f) (k:=m) (by omega);have hdn:=hf.nodes d (Aj hd);have hpos:=hne d (Aj hd);have hdl:(d.nodes.map Ab).length=d.nodes.length:=by simp
 refine AN (w_ (f_ (h:=l_ (h:=m_ (h:=?_)))));refine A7 rfl (CM (n:=m) rfl rfl rfl hrow ?_);refine f_ (h:=l_ (h:=a_ (h:=e_ (w_ (m_ (h:=m_ (h:=m_ (h:=m_ (h:=n_ (h:=?_))))))))));refine A7 rfl (Bf 0 (hc:=Gn l _ ((d.nodes.map Ab).length:Int) (by omega) (by omega)) (hR:=?_));rintro r a7 ha7 ⟨k7,rfl,p7,q7,o7⟩;refine⟨rfl,_,(by repeat constructor),?_⟩;obtain⟨i,rfl⟩:=Int.eq_ofNat_of_zero_le p7;obtain⟨-,n,hn,hrow2, -⟩:=CF Ab (l:=d.nodes) (k:=i) (by omega);refine A7 rfl (CM (n:=i) rfl rfl rfl hrow2 ?_);refine f_ (h:=l_ (h:=Aa (h:=s_ (h:=e_ (A6 (?_))))));refine B0 none (h5:=(AM _)) (h6:=⟨_,rfl,rfl,_,?_,rfl,(_,_),rfl⟩)<;>omega
end
section
theorem ZL(l:List Int)(a:Nat)(ha:a≤10000000000):FF prog 85 l a [] 60 (fun r=>∃n:Nod,n.target.size≤100∧n.entries=[]∧r= .agg (Ab n)):=by
 refine enter Tryz.func85 rfl rfl rfl rfl rfl 1 rfl ?_;refine w_ (Af (h:=e_ (w_ (m_ (h:=C2 (h:=?_))))));refine A7 rfl (Bf 0 (hc:=KA l _ _ (fun _=>true) (by omega) (by rfl) (by rfl) (by rfl)) (hR:=?_));rintro r a1 ha1 ⟨k1,rfl,p1⟩;refine⟨rfl,_,(by repeat constructor),?_⟩;refine m_ (h:=C2 (h:=?_));refine A7 rfl (Bf 0 (hc:=KA l _ _ (fun _=>true) (by omega) (by rfl) (by rfl) (by rfl)) (hR:=?_));rintro r a2 ha2 ⟨k2,rfl,p2⟩;refine⟨rfl,_,(by repeat constructor),?_⟩;refine m_ (h:=C2 (h:=?_));refine A7 rfl (Bf 0 (hc:=KA l _ _ (fun _=>true) (by omega) (by rfl) (by rfl) (by rfl)) (hR:=?_));rintro r a3 ha3 ⟨k3,rfl,p3⟩;refine⟨rfl,_,(by repeat constructor),?_⟩;refine m_ (h:=C2 (h:=?_));refine A7 rfl (Bf 0 (hc:=KA l _ _ (fun _=>true) (by omega) (by rfl) (by rfl) (by rfl)) (hR:=?_));rintro r a4 ha4 ⟨k4,rfl,p4⟩;refine⟨rfl,_,(by repeat constructor),?_⟩;refine Aa (h:=Af (h:=s_ (h:=e_ (?_))));refine BY (fun s=>∃(b:Nat) (ki mo ui gi:Int) (ta:ByteArray),b≤a+24∧ta.size≤100∧s=⟨look [(0, .bp 0 0),(2, .bp 1 0),(3, .bp 2 0)],⟨[ES l b,[.v (.int .i64 0), .v (.int .i64 0), .v (.int .i64 0), .v (.int .i64 0), .v (.int .i64 0), .v (.int .i64 0), .v (.string ⟨#[]⟩), .v (.slice none 0 0)],[.v (.int .i64 0), .v (.int .i64 ki), .v (.int .i64 mo), .v (.int .i64 ui), .v (.int .i64 gi), .v (.int .i64 0), .v (.string ta), .v (.slice none 0 0)]],[]⟩⟩) ?_ ?_
 ·skip
  refine w_ (f_ (h:=l_ (h:=Ac (h:=e_ (?_)))));refine A8 rfl (fun hb1=>?_) (fun hb1=>?_)
  ·have hc1:=bp hb1;refine AX (m_ (h:=?_));refine A7 rfl (Bf 0 (hc:=Tw l _ (by omega)) (hR:=?_));rintro r a5 ha5 ⟨k5,rfl,p5⟩;refine⟨rfl,_,(by repeat constructor),?_⟩;refine f_ (h:=s_ (h:=AW (?_)));refine AJ ?_;refine⟨_,⟨_,_,_,_,_,_,?_,?_,rfl⟩,(wk 3 0)⟩<;>first|omega|assumption|exact BJ _
  have hc1:=bp hb1;refine BA (?_);refine AJ ?_;refine⟨_,⟨_,_,_,_,_,_,?_,?_,rfl⟩,(wk 3 0)⟩<;>first|omega|assumption|exact BJ _
 rintro s ⟨b,ki,mo,ui,gi,ta,hb,hta,rfl⟩;refine BY (fun s=>∃(b2:Nat) (mo2:Int) (ta2:ByteArray),b2≤a+50∧ta2.size≤100∧s=⟨look [(2, .bp 1 0),(3, .bp 2 0)],⟨[ES l b2,[.v (.int .i64 0), .v (.int .i64 0), .v (.int .i64 0), .v (.int .i64 0), .v (.int .i64 0), .v (.int .i64 0), .v (.string ⟨#[]⟩), .v (.slice none 0 0)],[.v (.int .i64 0), .v (.int .i64 ki), .v (.int .i64 mo2), .v (.int .i64 ui), .v (.int .i64 gi), .v (.int .i64 0), .v (.string ta2), .v (.slice none 0 0)]],[]⟩⟩) ?_ ?_
 ·skip
  refine w_ (m_ (h:=?_));refine A7 rfl (Bf 0 (hc:=Gn l _ (20) (by omega) (by omega)) (hR:=?_));rintro r a6 ha6 ⟨k6,rfl,p6,q6,o6⟩;refine⟨rfl,_,(by repeat constructor),?_⟩;refine Ac (h:=e_ (?_));refine A8 rfl (fun hb2=>?_) (fun hb2=>?_)
  ·have hc2:=bp hb2;refine AX (m_ (h:=C2 (h:=?_)));refine A7 rfl (Bf 0 (hc:=KA l _ _ (fun _=>true) (by omega) (by rfl) (by rfl) (by rfl)) (hR:=?_));rintro r a7 ha7 ⟨k7,rfl,p7⟩;refine⟨rfl,_,(by repeat constructor),?_⟩;refine m_ (h:=?_);refine A7 rfl (Bf 0 (hc:=Tw l _ (by omega)) (hR:=?_));rintro r a8 ha8 ⟨k8,rfl,p8⟩;refine⟨rfl,_,(by repeat constructor),?_⟩;refine f_ (h:=s_ (h:=f_ (h:=s_ (h:=AW (?_)))));refine AJ ?_;refine⟨_,⟨_,_,_,?_,?_,rfl⟩,(wk 3 0)⟩<;>first|omega|assumption
  have hc2:=bp hb2;refine BA (?_);refine AJ ?_;refine⟨_,⟨_,_,_,?_,?_,rfl⟩,(wk 3 0)⟩<;>first|omega|assumption
 rintro s ⟨b2,mo2,ta2,hb2,hta2,rfl⟩;refine w_ (l_ (h:=s_ (h:=e_ (A6 (?_)))));refine B0 (r:= .agg (Ab ⟨0,ki,mo2,ui,gi,0,ta2,[]⟩)) none (h5:=(by repeat (first|exact AM _|exact LeA.nil _|exact LeL.refl _|refine LeA.agg ?_|refine LeA.tup ?_|exact LeL.nil|refine LeL.cons ?_ ?_|exact LeA.any _))) (h6:=⟨_,rfl,rfl,b2,by omega,rfl,⟨0,ki,mo2,ui,gi,0,ta2,[]⟩,hta2,rfl,rfl⟩)
end
theorem FlsV.ne{f:AT}(h:FlsV f):∀d∈f,0<d.nodes.length:=fun d hd=>by
 obtain⟨r,rest,hr,_⟩:=(h.vd d hd).root;rw[hr];simp
theorem ZM:VD Kb:=by
 refine⟨by decide,by decide,by decide,⟨Nf,[],rfl,rfl,rfl,rfl⟩,List.pairwise_singleton _ _,?_,?_,?_,?_,?_,?_,?_,?_,?_,⟨fun _=>0,?_⟩⟩<;>
  (intro n hn;obtain rfl:n=Nf:=by simpa[Kb]using hn)
 ·decide
 ·decide+kernel
 ·intro h;exact absurd rfl h
 ·decide
 ·exact List.Pairwise.nil
 ·intro e he;cases he
 ·intro h;exact absurd rfl h
 ·intro h;exact absurd rfl h
 ·intro h;exact absurd rfl h
 intro h;exact absurd rfl h
theorem Tx{k:Int}(h1:1≤k)(h2:k≤3):FlsV (EY k).1∧0<(EY k).1.length:=by
 unfold EY;rw[if_neg (by omega)];refine⟨⟨?_,fun d hd=>?_⟩,?_⟩
 ·show(List.replicate _ _).length≤3;rw[List.length_replicate];omega
 ·rw[(List.mem_replicate.1 hd).2];exact ZM
 show 0<(List.replicate _ _).length;rw[List.length_replicate];omega
structure MntOK(f:AT)(ms:List Db)(m:Db):Prop where
 dev1:1≤m.1
 dev2:m.1<(f.length:Int)
 fresh:C4 ⟨f,ms⟩ m.1=false
 dir:Ag f m.2=true
 there:C4 ⟨f,ms⟩ m.2.1=true
 free:(C3 ⟨f,ms⟩ m.2).isSome=false
structure SpcV(s:Spc):Prop where
 files:FlsV s.files
 pos:0<s.files.length
 mnt:∀i m,s.mounts[i]?=some m→MntOK s.files (s.mounts.take i) m
theorem ZN{s:Spc}(h:SpcV s)(dev:Int)(a:A9)(h0:(DD s dev a).2=0):SpcV (DD s dev a).1∧(DD s dev a).1=⟨s.files,s.mounts++[(dev,a)]⟩:=by
 unfold DD at h0 ⊢;split at h0
 ·exact absurd h0 (by decide)
 rename_i c1;split at h0
 ·exact absurd h0 (by decide)
 rename_i c2;split at h0
 ·exact absurd h0 (by decide)
 rename_i c3;split at h0
 ·exact absurd h0 (by decide)
 rename_i c4;split at h0
 ·exact absurd h0 (by decide)
 rename_i c5;rw[if_neg c1,if_neg c2,if_neg c3,if_neg c4,if_neg c5];refine⟨⟨h.files,h.pos,fun i m hi=>?_⟩,rfl⟩;simp only at hi ⊢;rcases Nat.lt_trichotomy i s.mounts.length with hlt|heq|hgt
 ·rw[Ca hlt]at hi;rw[List.take_append_of_le_length (by omega)];exact h.mnt i m hi
 ·subst heq;simp at hi;subst hi;rw[List.take_left' rfl];exact⟨by simp only;omega,by simp only;omega,by simpa using fun h=>c5 (.inl h),by simp only;rw[G7];simp at c2 c3;simp[c2,c3],by simpa using fun h=>c4 (.inl h),Bool.eq_false_iff.2 fun h=>c5 (.inr h)⟩
 rw[List.getElem?_eq_none (by simp;omega)]at hi;cases hi
section
theorem ZO(l:List Int)(a:Nat)(f:AT)(ha:a≤1000000000)(hv:FlsV f):FF prog 54 l a [.agg (Al f)] 80 (fun r=>∃f',r= .agg (Al f')∧FlsV f'∧f'.length=f.length):=by
 have hf:=hv.b;have hne:=hv.ne;refine enter Tryz.func54 rfl rfl rfl rfl rfl 1 rfl ?_;refine w_ (b_ (h:=Af (h:=e_ (w_ (m_ (h:=l_ (h:=?_)))))));refine A7 rfl (Bf 0 (hc:=KC l _ f (by omega) hf hne) (hR:=?_));rintro r a1 ha1 ⟨x1,rfl⟩;refine⟨rfl,_,(by repeat constructor),?_⟩;refine m_ (h:=?_);refine A7 rfl (Bf 0 (hc:=MU l _ (by omega)) (hR:=?_));rintro r a2 ha2 ⟨k2,rfl,p2⟩;refine⟨rfl,_,(by repeat constructor),?_⟩;refine Af (h:=s_ (h:=a_ (h:=e_ (w_ (l_ (h:=Af (h:=s_ (h:=a_ (h:=e_ (?_))))))))));refine BY (fun t=>∃(R1:AT) (e:Int) (b:Nat),b≤a+80∧(e=0→FlsV R1∧R1.length=f.length)∧t=⟨look [(3, .bp 1 0),(4, .bp 2 0),(7, .bp 4 0),(8, .v (.int .i64 e))],⟨[ES l b,Al f,[.v (.slice none 0 0)],AB x1,Al R1],[]⟩⟩) ?_ ?_
 ·skip
  refine w_ (m_ (h:=?_));refine A7 rfl (Bf 0 (hc:=Gn l _ (8) (by omega) (by omega)) (hR:=?_));rintro r a3 ha3 ⟨k3,rfl,p3,q3,o3⟩;refine⟨rfl,_,(by repeat constructor),?_⟩;refine e_ (Ao (w_ (Ac (h:=a_ (h:=e_ (?_))))));refine A8 rfl (fun hb1=>?_) (fun hb1=>?_)
  ·have hc1:=bp hb1;refine Bi ([(1,Al f),(2,[.v (.slice none 0 0)]),(3,AB x1)]) 13 (h:=AF 0 (h:=AF 1 (h:=AP 2 (h:=AP 3 (h:=AF 4 (h:=?_))))));refine c_ 5 rfl (Bf 0 (hc:=KC l _ f (by omega) hf hne) (hR:=?_));rintro r a4 ha4 ⟨x4,rfl⟩;refine⟨rfl,_,(by repeat constructor),?_⟩;refine o_ (h:=?_);refine c_ 6 rfl (AK (YD f x1 k2 x4 hv (by omega)) ?_);rintro r rfl;refine o_ (h:=AP 7 (h:=BK 8 (h:=BK 9 (h:=BK 10 (h:=?_)))));refine B8 11 rfl (B3 rfl rfl rfl rfl rfl rfl (by repeat constructor) (by repeat constructor) ?_);refine o_ (h:=BN 12 (h:=z_ (h:=Au (?_))));refine AJ ?_;refine⟨_,⟨_,_,_,?_,?_,rfl⟩,(wk 5 0)⟩
   ·omega
   first|exact K7 hv _ _ _|exact K8 hv _ _|exact K9 hv _ _|exact GU hv _ _ _ _|exact Kt hv _ _ _ _|exact Hs hv _ _ _
  have hc1:=bp hb1;refine w_ (Ac (h:=a_ (h:=e_ (?_))));refine A8 rfl (fun hb2=>?_) (fun hb2=>?_)
  ·have hc2:=bp hb2;refine AX (l_ (h:=l_ (h:=m_ (h:=?_))));refine A7 rfl (AK (YF f x1 k2 hv (by omega)) ?_);rintro r rfl;refine m_ (h:=x_ (h:=x_ (h:=x_ (h:=s_ (h:=a_ (h:=AW (Au (?_))))))));refine AJ ?_;refine⟨_,⟨_,_,_,?_,?_,rfl⟩,(wk 5 0)⟩
   ·omega
   first|exact K7 hv _ _ _|exact K8 hv _ _|exact K9 hv _ _|exact GU hv _ _ _ _|exact Kt hv _ _ _ _|exact Hs hv _ _ _
  have hc2:=bp hb2;refine w_ (Ac (h:=a_ (h:=e_ (?_))));refine A8 rfl (fun hb3=>?_) (fun hb3=>?_)
  ·have hc3:=bp hb3;refine AX (l_ (h:=l_ (h:=m_ (h:=?_))));refine A7 rfl (AK (YG f x1 k2 hv (by omega)) ?_);rintro r rfl;refine m_ (h:=x_ (h:=x_ (h:=x_ (h:=s_ (h:=a_ (h:=AW (Au (?_))))))));refine AJ ?_;refine⟨_,⟨_,_,_,?_,?_,rfl⟩,(wk 5 0)⟩
   ·omega
   first|exact K7 hv _ _ _|exact K8 hv _ _|exact K9 hv _ _|exact GU hv _ _ _ _|exact Kt hv _ _ _ _|exact Hs hv _ _ _
  have hc3:=bp hb3;refine w_ (Ac (h:=a_ (h:=e_ (?_))));refine A8 rfl (fun hb4=>?_) (fun hb4=>?_)
  ·have hc4:=bp hb4;refine Bi ([(1,Al f),(2,[.v (.slice none 0 0)]),(3,AB x1)]) 15 (h:=AF 0 (h:=AF 1 (h:=AP 2 (h:=AP 3 (h:=AF 4 (h:=AP 6 (h:=?_)))))));refine c_ 5 rfl (Bf 0 (hc:=KC l _ f (by omega) hf hne) (hR:=?_));rintro r a5 ha5 ⟨x5,rfl⟩;refine⟨rfl,_,(by repeat constructor),?_⟩;refine o_ (h:=?_);refine c_ 7 rfl (Bf 0 (hc:=MU l _ (by omega)) (hR:=?_));rintro r a6 ha6 ⟨k6,rfl,p6⟩;refine⟨rfl,_,(by repeat constructor),?_⟩;refine o_ (h:=?_);refine c_ 8 rfl (AK (QM f x1 k2 x5 k6 hv (by omega) (by omega)) ?_);rintro r rfl;refine o_ (h:=AP 9 (h:=BK 10 (h:=BK 11 (h:=BK 12 (h:=?_)))));refine B8 13 rfl (B3 rfl rfl rfl rfl rfl rfl (by repeat constructor) (by repeat constructor) ?_);refine o_ (h:=BN 14 (h:=z_ (h:=Au (?_))));refine AJ ?_;refine⟨_,⟨_,_,_,?_,?_,rfl⟩,(wk 5 0)⟩
   ·omega
   first|exact K7 hv _ _ _|exact K8 hv _ _|exact K9 hv _ _|exact GU hv _ _ _ _|exact Kt hv _ _ _ _|exact Hs hv _ _ _
  have hc4:=bp hb4;refine w_ (Ac (h:=a_ (h:=e_ (?_))));refine A8 rfl (fun hb5=>?_) (fun hb5=>?_)
  ·have hc5:=bp hb5;refine Bi ([(1,Al f),(2,[.v (.slice none 0 0)]),(3,AB x1)]) 12 (h:=AF 0 (h:=AF 1 (h:=AP 2 (h:=AP 4 (h:=?_)))));refine c_ 3 rfl (Bf 0 (hc:=Gn l _ (9) (by omega) (by omega)) (hR:=?_));rintro r a7 ha7 ⟨k7,rfl,p7,q7,o7⟩;refine⟨rfl,_,(by repeat constructor),?_⟩;refine o_ (h:=?_);refine c_ 5 rfl (Bf 0 (hc:=Gn l _ (9) (by omega) (by omega)) (hR:=?_));rintro r a8 ha8 ⟨k8,rfl,p8,q8,o8⟩;refine⟨rfl,_,(by repeat constructor),?_⟩;refine o_ (h:=?_);refine c_ 6 rfl (AK (YK f x1 511 k7 k8 hv) ?_);rintro r rfl;refine o_ (h:=AP 7 (h:=BK 8 (h:=BK 9 (h:=?_))));refine B8 10 rfl (B3 rfl rfl rfl rfl rfl rfl (by repeat constructor) (by repeat constructor) ?_);refine o_ (h:=BN 11 (h:=z_ (h:=Au (?_))));refine AJ ?_;refine⟨_,⟨_,_,_,?_,?_,rfl⟩,(wk 5 0)⟩
   ·omega
   first|exact K7 hv _ _ _|exact K8 hv _ _|exact K9 hv _ _|exact GU hv _ _ _ _|exact Kt hv _ _ _ _|exact Hs hv _ _ _
  have hc5:=bp hb5;refine Bi ([(1,Al f),(2,[.v (.slice none 0 0)]),(3,AB x1)]) 12 (h:=AF 0 (h:=AF 1 (h:=AP 2 (h:=AP 3 (h:=?_)))));refine c_ 4 rfl (Bf 0 (hc:=ZL l _ (by omega)) (hR:=?_));rintro r a9 ha9 ⟨n9,ht9,he9,rfl⟩;refine⟨rfl,_,(by repeat constructor),?_⟩;refine o_ (h:=?_);refine c_ 5 rfl (AK (TX f x1 k2 n9 hv (by omega) (by omega)) ?_);rintro r rfl;refine o_ (h:=AP 6 (h:=BK 7 (h:=BK 8 (h:=BK 9 (h:=?_)))));refine B8 10 rfl (B3 rfl rfl rfl rfl rfl rfl (by repeat constructor) (by repeat constructor) ?_);refine o_ (h:=BN 11 (h:=z_ (h:=Au (?_))));refine AJ ?_;refine⟨_,⟨_,_,_,?_,?_,rfl⟩,(wk 5 0)⟩
  ·omega
  first|exact K7 hv _ _ _|exact K8 hv _ _|exact K9 hv _ _|exact GU hv _ _ _ _|exact Kt hv _ _ _ _|exact Hs hv _ _ _
 rintro t ⟨R1,e,b,hb,hok,rfl⟩;refine q_ (w_ (m_ (h:=BX (h:=e_ (?_)))));refine A8 rfl (fun hb6=>?_) (fun hb6=>?_)
 ·have hc6:=bp hb6;refine w_ (l_ (h:=s_ (h:=e_ (A6 (A4 (?_))))));refine B0 none (h5:=(AM _)) (h6:=⟨_,rfl,rfl,b,hb,rfl,f,rfl,hv,rfl⟩)
 have hc6:=bp hb6;refine AN (w_ (l_ (h:=s_ (h:=e_ (A6 (?_))))));refine B0 none (h5:=(AM _)) (h6:=⟨_,rfl,rfl,b,hb,rfl,R1,rfl,hok (by omega)⟩)
theorem ZP(l:List Int)(a:Nat)(ha:a≤100000000):FF prog 22 l a [] 1000 (fun r=>∃f,r= .agg (Al f)∧FlsV f∧0<f.length):=by
 refine enter Tryz.func22 rfl rfl rfl rfl rfl 1 rfl ?_;refine w_ (Af (h:=e_ (w_ (m_ (h:=?_)))));refine A7 rfl (Bf 0 (hc:=H4 l _ (1) (3) (by omega) (by omega) (by omega) (by omega)) (hR:=?_));rintro r a1 ha1 ⟨k1,rfl,p1,q1⟩;refine⟨rfl,_,(by repeat constructor),?_⟩;refine A7 rfl (AK (Sk k1) ?_);rintro r rfl;refine m_ (h:=x_ (h:=x_ (h:=Af (h:=s_ (h:=a_ (h:=e_ (q_ (w_ (m_ (h:=?_))))))))));refine A7 rfl (Bf 0 (hc:=H4 l _ (2) (12) (by omega) (by omega) (by omega) (by omega)) (hR:=?_));rintro r a2 ha2 ⟨k2,rfl,p2,q2⟩;refine⟨rfl,_,(by repeat constructor),?_⟩;refine a_ (h:=e_ (Ao (?_)));obtain⟨hv0,hp0⟩:=Tx p1 q1;obtain⟨M,rfl⟩:=Int.eq_ofNat_of_zero_le (show 0≤k2 by omega);refine Bm (fun n s=>∃(j b:Nat) (f:AT),j≤M∧n=j∧b+80 * j≤a+2+80 * M∧FlsV f∧0<f.length∧s=⟨look [(0, .bp 0 0),(2, .bp 1 0),(3, .bp 2 0),(5, .v (.int .i64 (j:Int)))],⟨[ES l b,[.v (.slice none 0 0)],Al f],[]⟩⟩) (M) ((wk 3 0)) (⟨M,_,_,Av _,rfl,by omega,hv0,hp0,rfl⟩) ?_;rintro n s ⟨j,b,f,hj,rfl,hb,hv,hp,rfl⟩;refine q_ (w_ (m_ (h:=CS (h:=e_ (?_)))));refine A8 rfl (fun hb1=>?_) (fun hb1=>?_)
 ·have hc1:=bp hb1;refine AN (q_ (Ao (AX (m_ (h:=l_ (h:=?_))))));refine A7 rfl (Bf 0 (hc:=ZO l _ f (by omega) hv) (hR:=?_));rintro r a3 ha3 ⟨f3,rfl,hv3,hl3⟩;refine⟨rfl,_,(by repeat constructor),?_⟩;refine s_ (h:=AW (Au (t_ (AX (m_ (h:=?_))))));refine A7 rfl (Jj rfl rfl (by omega) ?_);refine a_ (h:=AW (?_));refine AJ ?_;refine⟨n - 1,_,by omega,⟨n - 1,_,f3,by omega,rfl,?_,hv3,by omega,rfl⟩,(by rw[show((n - 1:Nat):Int)=(n:Int) - 1 by omega];exact B7 3 0 rfl rfl rfl rfl ((by repeat (first|exact Sub.nil|refine B9 rfl rfl ?_|refine BC ?_|refine BD rfl ?_|refine BE rfl ?_))))⟩;omega
 have hc1:=bp hb1;refine BU (Am (Am (BV (t_ (w_ (l_ (h:=s_ (h:=e_ (A6 (?_))))))))));refine B0 none (h5:=(AM _)) (h6:=⟨_,rfl,rfl,b,by omega,rfl,f,rfl,hv,hp⟩)
end
theorem SpcV.b{s:Spc}(h:SpcV s)(hm:s.mounts.length≤1000):SpcB s:=⟨h.files.b,hm⟩
section
theorem ZQ(l:List Int)(a:Nat)(ha:a≤10000000):FF prog 6 l a [] 1100 (fun r=>∃s,r= .agg (Ar s)∧SpcV s∧s.mounts.length≤3):=by
 refine enter Tryz.func6 rfl rfl rfl rfl rfl 1 rfl ?_;refine w_ (Af (h:=e_ (w_ (m_ (h:=?_)))));refine A7 rfl (Bf 0 (hc:=ZP l _ (by omega)) (hR:=?_));rintro r a1 ha1 ⟨f1,rfl,hv1,hp1⟩;refine⟨rfl,_,(by repeat constructor),?_⟩;refine A7 rfl (FJ (y:= .agg (Ar ⟨f1,[]⟩)) (DK ⟨rfl,rfl⟩) ?_);refine Af (h:=s_ (h:=e_ (q_ (w_ (m_ (h:=?_))))));refine A7 rfl (Bf 0 (hc:=Gn l _ (4) (by omega) (by omega)) (hR:=?_));rintro r a2 ha2 ⟨k2,rfl,p2,q2,o2⟩;refine⟨rfl,_,(by repeat constructor),?_⟩;refine a_ (h:=e_ (Ao (?_)));obtain⟨M,rfl⟩:=Int.eq_ofNat_of_zero_le p2;have hM:M≤3:=by omega
 refine Bm (fun n t=>∃(j b:Nat) (s:Spc),j≤M∧n=j∧b+10 * j≤a+1001+10 * M∧SpcV s∧s.mounts.length+j≤M∧t=⟨look [(0, .bp 0 0),(2, .bp 1 0),(3, .bp 2 0),(4, .v (.int .i64 (j:Int)))],⟨[ES l b,[.v (.slice none 0 0), .v (.slice none 0 0)],Ar s],[]⟩⟩) (M) ((wk 3 0)) (⟨M,_,⟨f1,[]⟩,Av _,rfl,by omega,⟨hv1,hp1,fun i m hi=>by simp at hi⟩,by simp,rfl⟩) ?_;rintro n t ⟨j,b,s,hj,rfl,hb,hv,hm,rfl⟩;have hsb:=hv.b (by omega);refine q_ (w_ (m_ (h:=CS (h:=e_ (?_)))));refine A8 rfl (fun hb1=>?_) (fun hb1=>?_)
 ·have hc1:=bp hb1;refine AN (q_ (Ao (?_)));refine BY (fun t=>∃(dev:Int) (x:A9) (b2:Nat),b2≤b+10∧t=⟨look [(0, .bp 0 0),(2, .bp 1 0),(3, .bp 2 0),(4, .v (.int .i64 (n:Int))),(5, .bp 3 0),(6, .v (.int .i64 (DD s dev x).2))],⟨[ES l b2,[.v (.slice none 0 0), .v (.slice none 0 0)],Ar s,Ar (DD s dev x).1],[]⟩⟩) ?_ ?_
  ·skip
   refine Bi ([(2,Ar s)]) 14 (h:=?_)
   first|refine AF 0 (h:=?_)|refine B4 0 rfl (fun _ hS=>Cp (row:=Ar s) rfl (kb hS rfl) (B6 rfl) rfl ⟨rfl,rfl⟩) ?_
   refine AP 1 (h:=AP 3 (h:=AQ 4 (h:=?_)))
   first|refine AF 5 (h:=?_)|refine B4 5 rfl (fun _ hS=>Cp (row:=Ar s) rfl (kb hS rfl) (B6 rfl) rfl ⟨rfl,rfl⟩) ?_
   refine Es 2 11 rfl rfl ?_ ?_
   ·refine Bf 0 (hc:=H4 l _ (1) (2) (by omega) (by omega) (by omega) (by omega)) (hR:=?_);rintro r a3 ha3 ⟨k3,rfl,p3,q3⟩;refine⟨rfl,_,(by repeat constructor),?_⟩;refine o_ (h:=?_);refine Es 6 11 rfl rfl ?_ ?_
    ·refine Bf 0 (hc:=KC l _ s.files (by omega) hv.files.b hv.files.ne) (hR:=?_);rintro r a4 ha4 ⟨x4,rfl⟩;refine⟨rfl,_,(by repeat constructor),?_⟩;refine o_ (h:=?_);refine Es 7 11 rfl rfl ?_ ?_
     ·refine AK (O9 s _ _ hsb) ?_;rintro r rfl;refine o_ (h:=?_);refine AP 8 (h:=BK 9 (h:=BK 10 (h:=?_)));refine c_ 11 rfl (CW (by repeat constructor) ?_);refine o_ (h:=?_);refine B8 12 rfl (B3 rfl rfl rfl rfl rfl rfl (by repeat constructor) (by repeat constructor) ?_);refine o_ (h:=BN 13 (h:=z_ (h:=?_)));refine AJ ?_;refine⟨_,⟨_,_,_,?_,rfl⟩,(wk 4 0)⟩;omega
     refine CW (by repeat constructor) ?_;refine o_ (h:=?_);refine c_ 7 rfl (AK (O9 s _ _ hsb) ?_);rintro r rfl;refine o_ (h:=AP 8 (h:=BK 9 (h:=BK 10 (h:=?_))));refine B8 12 rfl (B3 rfl rfl rfl rfl rfl rfl (by repeat constructor) (by repeat constructor) ?_);refine o_ (h:=BN 13 (h:=z_ (h:=?_)));refine AJ ?_;refine⟨_,⟨_,_,_,?_,rfl⟩,(wk 4 0)⟩;omega
    refine CW (by repeat constructor) ?_;refine o_ (h:=?_);refine c_ 6 rfl (Bf 0 (hc:=KC l _ s.files (by omega) hv.files.b hv.files.ne) (hR:=?_));rintro r a5 ha5 ⟨x5,rfl⟩;refine⟨rfl,_,(by repeat constructor),?_⟩;refine o_ (h:=?_);refine c_ 7 rfl (AK (O9 s _ _ hsb) ?_);rintro r rfl;refine o_ (h:=AP 8 (h:=BK 9 (h:=BK 10 (h:=?_))));refine B8 12 rfl (B3 rfl rfl rfl rfl rfl rfl (by repeat constructor) (by repeat constructor) ?_);refine o_ (h:=BN 13 (h:=z_ (h:=?_)));refine AJ ?_;refine⟨_,⟨_,_,_,?_,rfl⟩,(wk 4 0)⟩;omega
   refine CW (by repeat constructor) ?_;refine o_ (h:=?_);refine c_ 2 rfl (Bf 0 (hc:=H4 l _ (1) (2) (by omega) (by omega) (by omega) (by omega)) (hR:=?_));rintro r a6 ha6 ⟨k6,rfl,p6,q6⟩;refine⟨rfl,_,(by repeat constructor),?_⟩;refine o_ (h:=?_);refine c_ 6 rfl (Bf 0 (hc:=KC l _ s.files (by omega) hv.files.b hv.files.ne) (hR:=?_));rintro r a7 ha7 ⟨x7,rfl⟩;refine⟨rfl,_,(by repeat constructor),?_⟩;refine o_ (h:=?_);refine c_ 7 rfl (AK (O9 s _ _ hsb) ?_);rintro r rfl;refine o_ (h:=AP 8 (h:=BK 9 (h:=BK 10 (h:=?_))));refine B8 12 rfl (B3 rfl rfl rfl rfl rfl rfl (by repeat constructor) (by repeat constructor) ?_);refine o_ (h:=BN 13 (h:=z_ (h:=?_)));refine AJ ?_;refine⟨_,⟨_,_,_,?_,rfl⟩,(wk 4 0)⟩;omega
  rintro t ⟨dev,x,b2,hb2,rfl⟩;refine w_ (m_ (h:=Ac (h:=e_ (?_))));refine A8 rfl (fun hb2=>?_) (fun hb2=>?_)
  ·have hc2:=bp hb2;obtain⟨hv2,he2⟩:=ZN hv dev x (by omega);have hm2:(DD s dev x).1.mounts.length=s.mounts.length+1:=by rw[he2];simp
   refine AX (l_ (h:=s_ (h:=AW (Au (t_ (AX (m_ (h:=?_))))))));refine A7 rfl (Jj rfl rfl (by omega) ?_);refine a_ (h:=AW (?_));refine AJ ?_
   first|refine⟨n - 1,_,by omega,⟨n - 1,_,(DD s dev x).1,by omega,rfl,?_,hv2,?_,rfl⟩,(by rw[show((n - 1:Nat):Int)=(n:Int) - 1 by omega];exact B7 3 0 rfl rfl rfl rfl ((by repeat (first|exact Sub.nil|refine B9 rfl rfl ?_|refine BC ?_|refine BD rfl ?_|refine BE rfl ?_))))⟩|refine⟨n - 1,_,by omega,⟨n - 1,_,s,by omega,rfl,?_,hv,?_,rfl⟩,(by rw[show((n - 1:Nat):Int)=(n:Int) - 1 by omega];exact B7 3 0 rfl rfl rfl rfl ((by repeat (first|exact Sub.nil|refine B9 rfl rfl ?_|refine BC ?_|refine BD rfl ?_|refine BE rfl ?_))))⟩
   ·omega
   omega
  have hc2:=bp hb2;refine BA (Au (t_ (AX (m_ (h:=?_)))));refine A7 rfl (Jj rfl rfl (by omega) ?_);refine a_ (h:=AW (?_));refine AJ ?_
  first|refine⟨n - 1,_,by omega,⟨n - 1,_,(DD s dev x).1,by omega,rfl,?_,hv2,?_,rfl⟩,(by rw[show((n - 1:Nat):Int)=(n:Int) - 1 by omega];exact B7 3 0 rfl rfl rfl rfl ((by repeat (first|exact Sub.nil|refine B9 rfl rfl ?_|refine BC ?_|refine BD rfl ?_|refine BE rfl ?_))))⟩|refine⟨n - 1,_,by omega,⟨n - 1,_,s,by omega,rfl,?_,hv,?_,rfl⟩,(by rw[show((n - 1:Nat):Int)=(n:Int) - 1 by omega];exact B7 3 0 rfl rfl rfl rfl ((by repeat (first|exact Sub.nil|refine B9 rfl rfl ?_|refine BC ?_|refine BD rfl ?_|refine BE rfl ?_))))⟩
  ·omega
  omega
 have hc1:=bp hb1;refine BU (Am (Am (BV (t_ (w_ (l_ (h:=s_ (h:=e_ (A6 (?_))))))))));refine B0 none (h5:=(AM _)) (h6:=⟨_,rfl,rfl,b,by omega,rfl,s,rfl,hv,by omega⟩)
end
def GX(s:Spc)(i:Nat):Bool:=match s.mounts[i]? with
 |none=>true
 |some m=>if m.1<1 then false else if(s.files.length:Int)≤m.1 then false else if C4 ⟨s.files,s.mounts.take i⟩ m.1=true then false else if Ag s.files m.2=false then false
   else if C4 ⟨s.files,s.mounts.take i⟩ m.2.1=false then false else if(C3 ⟨s.files,s.mounts.take i⟩ m.2).isSome=true then false else true
def DR(v:Bool)(s:Spc):Bool:=v&&(List.range s.mounts.length).all (GX s)
theorem QY{s:Spc}(hs:SpcB s)(i:Nat):SpcB ⟨s.files,s.mounts.take i⟩:=⟨hs.files,Nat.le_trans (by simp;omega) hs.few⟩
theorem ZR(s:Spc)(i:Nat):AV.agg [AV.sl 2 (s.files.map Be) none,AV.sl 3 ((s.mounts.map Co).take i) none]=AV.agg (Ar ⟨s.files,s.mounts.take i⟩):=by
 unfold Ar;rw[List.map_take]
section
theorem ZS(s:Spc)(hs:SpcB s)(ht:FlsT s.files):AFn prog 13 [.agg (Ar s)] (fun r=>r= .v (.bool (DR (JS s.files) s))):=by
 have hfew:=hs.few;have hel:(s.mounts.map Co).length=s.mounts.length:=by simp
 have hfl:(s.files.map Be).length=s.files.length:=by simp
 refine enter Tryz.func13 rfl rfl rfl rfl rfl 0 rfl ?_;refine w_ (b_ (h:=a_ (h:=e_ (q_ (w_ (f_ (h:=l_ (h:=?_))))))));refine A7 rfl (AK (Yd s.files ht) ?_);rintro r rfl;refine BZ (h:=e_ (?_));refine A8 rfl (fun hb1=>?_) (fun hb1=>?_)
 ·have hc1:=bp hb1;refine w_ (a_ (h:=e_ (A6 (A4 (?_)))));refine AA ?_
  first|exact vb (by unfold DR;rw[hc1];rfl)|exact vb (by unfold DR;rw[GB hlt (by unfold GX;simp only[hy];simp_all),Bool.and_false])|exact vb (by unfold DR;rw[FT (fun i hi=>ha i (by omega)),Bool.and_true];exact hc1.symm)
 have hc1:=bp hb1;refine AN (q_ (w_ (a_ (h:=e_ (Ao (?_))))));refine Bm (fun m t=>∃j:Nat,j≤s.mounts.length∧m=s.mounts.length - j∧(∀i,i<j→GX s i=true)∧t=⟨look [(1, .bp 0 0),(3, .v (.int .i64 (j:Int)))],⟨[Ar s],[]⟩⟩) (s.mounts.length) ((wk 1 0)) (⟨0,by omega,rfl,fun i hi=>by omega,rfl⟩) ?_;rintro m t ⟨j,hj,rfl,ha,rfl⟩;refine q_ (w_ (m_ (h:=f_ (h:=l_ (h:=n_ (h:=BO (h:=e_ (?_))))))));refine A8 rfl (fun hb2=>?_) (fun hb2=>?_)
 ·have hc2:=bp hb2;obtain⟨hlt,x,hy,hrow, -⟩:=CF Co hc2;refine AN (q_ (Ao (q_ (Bi ([(0,Ar s)]) 8 (h:=AQ 0 (h:=AF 1 (h:=AQ 2 (h:=AF 3 (h:=AP 4 (h:=?_))))))))));refine B4 5 rfl (fun _ hS=>Rz rfl rfl rfl (by omega) ⟨rfl,rfl⟩) ?_;refine B4 6 rfl (fun _ hS=>F0 (y:= .agg (Ar ⟨s.files,s.mounts.take j⟩)) (DK ⟨rfl,rfl⟩) (by rw[←ZR];exact AM _) ⟨rfl,rfl⟩) ?_;refine c_ 7 rfl (CW (by repeat constructor) ?_);refine o_ (h:=?_);refine B8 8 rfl (B3 rfl rfl rfl rfl rfl rfl (by repeat constructor) (by repeat constructor) ?_);refine o_ (h:=z_ (h:=t_ (w_ (f_ (h:=l_ (h:=m_ (h:=?_)))))));refine A7 rfl (CM (n:=j) rfl rfl rfl hrow ?_);refine l_ (h:=Af (h:=s_ (h:=e_ (w_ (f_ (h:=l_ (h:=BO (h:=m_ (h:=?_)))))))));refine As false rfl rfl (fun hb3=>?_) (fun hb3=>?_)
  ·have hc3:=bp hb3;refine A3 (h:=A3 (h:=A3 (h:=A3 (h:=A3 (h:=A3 (h:=A3 (h:=AU (h:=m_ (h:=A3 (h:=A3 (h:=A3 (h:=A3 (h:=AU (h:=m_ (h:=A3 (h:=A3 (h:=A3 (h:=A3 (h:=A3 (h:=A3 (h:=AU (h:=m_ (h:=A3 (h:=?_))))))))))))))))))))))));refine A3 (h:=A3 (h:=A3 (h:=A3 (h:=A3 (h:=AU (h:=m_ (h:=A3 (h:=A3 (h:=A3 (h:=A3 (h:=AU (h:=e_ (BQ (h:=w_ (a_ (h:=e_ (A6 (AR (A4 (A4 (AR (A4 (?_)))))))))))))))))))))));refine AA ?_
   first|exact vb (by unfold DR;rw[hc1];rfl)|exact vb (by unfold DR;rw[GB hlt (by unfold GX;simp only[hy];simp_all),Bool.and_false])|exact vb (by unfold DR;rw[FT (fun i hi=>ha i (by omega)),Bool.and_true];exact hc1.symm)
  have hc3:=bp hb3;refine f_ (h:=l_ (h:=f_ (h:=f_ (h:=l_ (h:=n_ (h:=G6 (h:=Ah (h:=m_ (h:=?_)))))))));refine As false rfl rfl (fun hb4=>?_) (fun hb4=>?_)
  ·have hc4:=bp hb4;refine A3 (h:=A3 (h:=A3 (h:=A3 (h:=AU (h:=m_ (h:=A3 (h:=A3 (h:=A3 (h:=A3 (h:=A3 (h:=A3 (h:=AU (h:=m_ (h:=A3 (h:=A3 (h:=A3 (h:=A3 (h:=A3 (h:=A3 (h:=AU (h:=m_ (h:=A3 (h:=A3 (h:=?_))))))))))))))))))))))));refine A3 (h:=A3 (h:=AU (h:=e_ (BQ (h:=w_ (a_ (h:=e_ (A6 (AR (A4 (A4 (AR (A4 (?_))))))))))))));refine AA ?_
   first|exact vb (by unfold DR;rw[hc1];rfl)|exact vb (by unfold DR;rw[GB hlt (by unfold GX;simp only[hy];simp_all),Bool.and_false])|exact vb (by unfold DR;rw[FT (fun i hi=>ha i (by omega)),Bool.and_true];exact hc1.symm)
  have hc4:=bp hb4;refine l_ (h:=f_ (h:=l_ (h:=?_)));refine Aw (AK (Ls ⟨s.files,s.mounts.take j⟩ x.1 (QY hs j)) ?_);rintro r rfl;refine Ah (h:=m_ (h:=?_));refine As false rfl rfl (fun hb5=>?_) (fun hb5=>?_)
  ·have hc5:=bp hb5;refine A3 (h:=A3 (h:=A3 (h:=A3 (h:=A3 (h:=A3 (h:=AU (h:=m_ (h:=A3 (h:=A3 (h:=A3 (h:=A3 (h:=A3 (h:=A3 (h:=AU (h:=m_ (h:=A3 (h:=A3 (h:=A3 (h:=A3 (h:=AU (h:=e_ (BQ (h:=w_ (?_))))))))))))))))))))))));refine a_ (h:=e_ (A6 (AR (A4 (A4 (AR (A4 (?_))))))));refine AA ?_
   first|exact vb (by unfold DR;rw[hc1];rfl)|exact vb (by unfold DR;rw[GB hlt (by unfold GX;simp only[hy];simp_all),Bool.and_false])|exact vb (by unfold DR;rw[FT (fun i hi=>ha i (by omega)),Bool.and_true];exact hc1.symm)
  have hc5:=bp hb5;refine f_ (h:=l_ (h:=f_ (h:=l_ (h:=?_))));refine Aw (AK (Fi s.files x.2 hs.files) ?_);rintro r rfl;refine BZ (h:=Ah (h:=m_ (h:=?_)));refine As false rfl rfl (fun hb6=>?_) (fun hb6=>?_)
  ·have hc6:=bp hb6;refine A3 (h:=A3 (h:=A3 (h:=A3 (h:=A3 (h:=A3 (h:=AU (h:=m_ (h:=A3 (h:=A3 (h:=A3 (h:=A3 (h:=AU (h:=e_ (BQ (h:=w_ (a_ (h:=e_ (A6 (AR (A4 (A4 (AR (A4 (?_))))))))))))))))))))))));refine AA ?_
   first|exact vb (by unfold DR;rw[hc1];rfl)|exact vb (by unfold DR;rw[GB hlt (by unfold GX;simp only[hy];simp_all),Bool.and_false])|exact vb (by unfold DR;rw[FT (fun i hi=>ha i (by omega)),Bool.and_true];exact hc1.symm)
  have hc6:=bp hb6;refine l_ (h:=f_ (h:=f_ (h:=l_ (h:=?_))));refine Aw (AK (Ls ⟨s.files,s.mounts.take j⟩ x.2.1 (QY hs j)) ?_);rintro r rfl;refine BZ (h:=Ah (h:=m_ (h:=?_)));refine As false rfl rfl (fun hb7=>?_) (fun hb7=>?_)
  ·have hc7:=bp hb7;refine A3 (h:=A3 (h:=A3 (h:=A3 (h:=AU (h:=e_ (BQ (h:=w_ (a_ (h:=e_ (A6 (AR (A4 (A4 (AR (A4 (?_))))))))))))))));refine AA ?_
   first|exact vb (by unfold DR;rw[hc1];rfl)|exact vb (by unfold DR;rw[GB hlt (by unfold GX;simp only[hy];simp_all),Bool.and_false])|exact vb (by unfold DR;rw[FT (fun i hi=>ha i (by omega)),Bool.and_true];exact hc1.symm)
  have hc7:=bp hb7;refine l_ (h:=f_ (h:=l_ (h:=?_)));refine Aw (AK (PZ ⟨s.files,s.mounts.take j⟩ x.2 (QY hs j)) ?_);rintro r rfl;refine Ah (h:=e_ (?_));refine A8 rfl (fun hb8=>?_) (fun hb8=>?_)
  ·have hc8:=bp hb8;refine w_ (a_ (h:=e_ (A6 (AR (A4 (A4 (AR (A4 (?_)))))))));refine AA ?_
   first|exact vb (by unfold DR;rw[hc1];rfl)|exact vb (by unfold DR;rw[GB hlt (by unfold GX;simp only[hy];simp_all),Bool.and_false])|exact vb (by unfold DR;rw[FT (fun i hi=>ha i (by omega)),Bool.and_true];exact hc1.symm)
  have hc8:=bp hb8;refine BA (Au (t_ (AX (m_ (h:=B2 (h:=a_ (h:=AW (?_))))))));refine AJ ?_;refine⟨_,_,?_,⟨j+1,by omega,rfl,FU ha (by unfold GX;simp only[hy];simp_all),rfl⟩,(wk 1 0)⟩;omega
 have hc2:=bp hb2;refine BU (Am (Am (BV (t_ (w_ (a_ (h:=e_ (A6 (?_)))))))));refine AA ?_
 first|exact vb (by unfold DR;rw[hc1];rfl)|exact vb (by unfold DR;rw[GB hlt (by unfold GX;simp only[hy];simp_all),Bool.and_false])|exact vb (by unfold DR;rw[FT (fun i hi=>ha i (by omega)),Bool.and_true];exact hc1.symm)
end
end Go.Proofs.YtobclmbkdhbnpaaGreatDoor
