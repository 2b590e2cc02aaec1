/-
  Part 12 of the proof of WatchFollowsP: what the statement's proof uses of the texts in wip/tpl.
-/
import Derived.Laws.RangeAny
import Derived.Deep.LoopGhost
import Derived.Lib.OthersKept
import Derived.Lib.IndexLaws
import Derived.Shelf.Abstract
import Derived.Shelf.RegionOpen
import Derived.OwnWalkIn
import Derived.TacticsInMore
import Derived.LoopNIn
import Derived.LoopIn
import Derived.Maps.AppendAt
import Derived.OwnWalk
import Derived.StillTailTactics
import Derived.Test.YtbglbmnhgbgelaaGreatDoorQf11
open Go.Proofs.Tryz (prog)
set_option maxRecDepth 10000
set_option maxHeartbeats 4000000
set_option linter.unusedVariables false
set_option linter.unusedSimpArgs false
namespace Go.Proofs.YtbglbmnhgbgelaaGreatDoor
open Go.RowKit
theorem fN(r:Int)(h0:128≤r)(h1:Lib.validRune r=true):
    (∃a b:UInt8,Utf8.encode r=⟨#[a,b]⟩∧128≤b.toNat)∨(∃a b c:UInt8,Utf8.encode r=⟨#[a,b,c]⟩)∨(∃a b c d:UInt8,Utf8.encode r=⟨#[a,b,c,d]⟩):=by
 have hv:Utf8.valid r=true:=by
  have:=of_decide_eq_true h1;unfold Utf8.valid;simp only[Bool.or_eq_true,Bool.and_eq_true,decide_eq_true_iff];omega
 unfold Utf8.encode;simp only[hv,if_true];have hn:¬r.toNat<128:=by omega
 rw[if_neg hn];by_cases h2:r.toNat<2048
 ·rw[if_pos h2];refine .inl ⟨_,_,rfl,?_⟩;simp only[UInt8.toNat_ofNat'];omega
 rw[if_neg h2];by_cases h3:r.toNat<65536
 ·rw[if_pos h3];exact .inr (.inl ⟨_,_,_,rfl⟩)
 rw[if_neg h3];exact .inr (.inr ⟨_,_,_,_,rfl⟩)
set_option maxRecDepth 1000000 in
set_option maxHeartbeats 2000000 in
theorem fO(r:Int)(w:World)(h0:128≤r)(h1:r≤2147483647)(h2:r≠65533)(hv:Lib.validRune r=false):
    Calls prog 183 #[.string ⟨#[0,47]⟩, .int .i32 r] w fun e w'=>e= .returned (.int .i64 (-1))∧w=w':=by
 have h2':(r==65533)=false:=by simpa using h2
 go_enter Tryz.func183,Tryz.ntmps183
 go_wp2_with (go_at_call 198;refine(Tryz.utf8_ValidRune _ _).mono ?_;rintro e w' ⟨rfl,rfl⟩;rw[hv])
 go_ret
 exact⟨rfl,rfl⟩
set_option maxRecDepth 1000000 in
set_option maxHeartbeats 2000000 in
theorem fP(r:Int)(w:World)(h0:128≤r)(h1:r≤2147483647)(h2:r≠65533)(hv:Lib.validRune r=true):
    Calls prog 183 #[.string ⟨#[0,47]⟩, .int .i32 r] w fun e w'=>e= .returned (.int .i64 (-1))∧Below w.heap.size w w':=by
 have h2':(r==65533)=false:=by simpa using h2
 have hlt:decide (r<128)=false:=by simpa using h0
 rcases fN r h0 hv with⟨a,b,he,hb⟩|⟨a,b,c,he⟩|⟨a,b,c,d,he⟩
 ·have hne:((((⟨#[0,47]⟩:ByteArray)[1]'(by decide)).toNat:Int) != (((⟨#[a,b]⟩:ByteArray)[1]'(by show 1<2;decide)).toNat:Int))=true:=by
     show((47:Int) != (b.toNat:Int))=true;rw[bne_iff_ne];omega
  go_enter Tryz.func183,Tryz.ntmps183
  go_wp2_with (go_at_call 198;refine(Tryz.utf8_ValidRune _ _).mono ?_;rintro e w' ⟨rfl,rfl⟩;rw[hv])
  go_step3
  go_wp2
  refine wp_loop_rounds 1 ?_;rw[rounds_succ]
  go_wp2
  go_step3
  go_wp2
  go_quiet (fail)
  have hb:=OY (Below.refl w'.heap.size w') nq;generalize w'.drewN nq=wq at *
  go_wp2
  go_quiet ((go_at_call 197;exact Calls.quiet_of_same (Tryz.strings_IndexByte _ _ _)))
  go_wp2
  rw[Exit.noGoto_ret]
  go_wp2
  rw[Exit.noGoto_ret]
  go_wp2
  go_ret
  exact⟨rfl,OY hb _⟩
 ·go_enter Tryz.func183,Tryz.ntmps183
  go_wp2_with (go_at_call 198;refine(Tryz.utf8_ValidRune _ _).mono ?_;rintro e w' ⟨rfl,rfl⟩;rw[hv])
  go_step3
  go_wp2
  refine wp_loop_rounds 1 ?_;rw[rounds_succ]
  go_wp2
  rw[Exit.noGoto_ret]
  go_wp2
  go_ret
  exact⟨rfl,Below.refl _ _⟩
 go_enter Tryz.func183,Tryz.ntmps183
 go_wp2_with (go_at_call 198;refine(Tryz.utf8_ValidRune _ _).mono ?_;rintro e w' ⟨rfl,rfl⟩;rw[hv])
 go_step3
 go_wp2
 refine wp_loop_rounds 1 ?_;rw[rounds_succ]
 go_wp2
 rw[Exit.noGoto_ret]
 go_wp2
 go_ret
 exact⟨rfl,Below.refl _ _⟩
theorem fQ(i:Nat)(hi:i<2):((⟨#[0,47]⟩:ByteArray)[i]'hi).toNat<128:=by
 match i,hi with
 |0,_=>show(0:UInt8).toNat<128;decide
 |1,_=>show(47:UInt8).toNat<128;decide
set_option maxRecDepth 1000000 in
set_option maxHeartbeats 2000000 in
theorem fR(w:World):
    Calls prog 183 #[.string ⟨#[0,47]⟩, .int .i32 65533] w fun e w'=>e= .returned (.int .i64 (-1))∧Below w.heap.size w w':=by
 go_enter Tryz.func183,Tryz.ntmps183
 go_wp2
 go_loopg [5,6] 2 (fun g _ _ wx=>∃i:Nat,i+g=2∧wx=w.iter ⟨#[0,47]⟩ i)
 case atStart=>exact⟨0,by omega,rfl⟩
 case round=>
  obtain⟨i,hig,rfl⟩:=hrel
  cases gk with
  |zero=>
    obtain rfl:i=2:=by omega
    have hnx:=run_next_end (P:=prog) w ⟨#[0,47]⟩ 2
    go_wp2
    go_ret
    exact⟨rfl,(Below.refl _ _).alloc (BA _) _⟩
  |succ g=>
    have hi:i<2:=by omega
    have hx:=fQ i hi;have hnx:=fun ty=>run_next_ascii (P:=prog) w ⟨#[0,47]⟩ i ty hi hx;generalize ((⟨#[0,47]⟩:ByteArray)[i]'hi)=x at *;have hne:((x.toNat:Int)==65533)=false:=beq_eq_false_iff_ne.2 (by omega)
    go_wp2
    go_roundg g
    case measure=>omega
    case rel=>exact⟨i+1,by omega,rfl⟩
theorem Vs(s:ByteArray)(i:Nat)(h:i<s.size)(ha:128≤(s[i]'h).toNat):
    1≤(Utf8.decode s i).2∧i+(Utf8.decode s i).2≤s.size∧∀k,k<(Utf8.decode s i).2→128≤(s.get! (i+k)).toNat:=by
 have hn:¬(s[i]'h).toNat<128:=by omega
 have h0:s.get! (i+0)=s[i]'h:=get_at s i h;have g0:128≤(s.get! (i+0)).toNat:=by rw[h0];exact ha
 have c1:∀k,(decide (i+k<s.size)&&(s.get! (i+k)).toNat / 64==2)=true→i+k<s.size∧128≤(s.get! (i+k)).toNat:=by
  intro k hk;simp only[Bool.and_eq_true,decide_eq_true_iff,beq_iff_eq]at hk;exact⟨hk.1,by omega⟩
 have one:1≤1∧i+1≤s.size∧∀k,k<1→128≤(s.get! (i+k)).toNat:=by
  refine⟨BA _,h,fun k hk=>?_⟩;obtain rfl:k=0:=by omega
  exact g0
 unfold Utf8.decode;simp only[h0,hn,if_false];split
 ·rename_i hc;rw[Bool.and_eq_true]at hc;obtain⟨a1,b1⟩:=c1 1 hc.2;split
  ·refine⟨by simp,a1,fun k hk=>?_⟩;have:k=0∨k=1:=by simp at hk;omega
   rcases this with rfl|rfl
   ·exact g0
   exact b1
  exact one
 split
 ·rename_i hc;rw[Bool.and_eq_true,Bool.and_eq_true]at hc;obtain⟨a1,b1⟩:=c1 1 hc.1.2;obtain⟨a2,b2⟩:=c1 2 hc.2;split
  ·refine⟨by simp,a2,fun k hk=>?_⟩;have:k=0∨k=1∨k=2:=by simp at hk;omega
   rcases this with rfl|rfl|rfl
   ·exact g0
   ·exact b1
   exact b2
  exact one
 split
 ·rename_i hc;rw[Bool.and_eq_true,Bool.and_eq_true,Bool.and_eq_true]at hc;obtain⟨a1,b1⟩:=c1 1 hc.1.1.2;obtain⟨a2,b2⟩:=c1 2 hc.1.2;obtain⟨a3,b3⟩:=c1 3 hc.2;split
  ·refine⟨by simp,a3,fun k hk=>?_⟩;have:k=0∨k=1∨k=2∨k=3:=by simp at hk;omega
   rcases this with rfl|rfl|rfl|rfl
   ·exact g0
   ·exact b1
   ·exact b2
   exact b3
  exact one
 exact one
theorem fS(s:ByteArray)(j:Nat)(hj:j<s.size):s.data.toList[j]?=some (s.get! j):=by
 have:=get_at s j hj;rw[Nat.add_zero]at this;rw[this];exact Lib.data_getElem? s j hj
theorem fT{s:ByteArray}{i:Nat}(h:i<s.size)(ha:128≤(s[i]'h).toNat)(hno:Lib.NoAny s.data.toList [0,47] i):Lib.NoAny s.data.toList [0,47] (i+(Utf8.decode s i).2):=by
 obtain⟨_,h2,h3⟩:=Vs s i h ha;intro j b hj hb;by_cases hlt:j<i
 ·exact hno j b hlt hb
 have:=h3 (j - i) (by omega);rw[show i+(j - i)=j by omega]at this;rw[fS s j (by omega)]at hb;injection hb with hb;rw[hb]at this;have h0:b≠0:=by rintro rfl;simp at this
 have h47:b≠47:=by
  rintro rfl;have:(47:UInt8).toNat=47:=rfl;omega
 simp[h0,h47]
theorem fU(r:Int)(w:World)(h0:128≤r)(h1:r≤2147483647):
    Calls prog 183 #[.string ⟨#[0,47]⟩, .int .i32 r] w fun e w'=>e= .returned (.int .i64 (-1))∧Below w.heap.size w w':=by
 by_cases h2:r=65533
 ·subst h2;exact fR w
 cases hv:Lib.validRune r with
 |true=>exact fP r w h0 h1 h2 hv
 |false=>exact(fO r w h0 h1 h2 hv).mono fun e w' h=>⟨h.1,by rw[←h.2];exact Below.refl _ _⟩
def Vt(s:ByteArray)(w:World)(e:Ending)(w':World):Prop:=∃v:Int,e= .returned (.int .i64 v)∧Below w.heap.size w w'∧((0≤v)↔((0:UInt8)∈s.data.toList∨(47:UInt8)∈s.data.toList))
theorem fV{s:ByteArray}(h:Lib.NoAny s.data.toList [0,47] s.size):¬((0:UInt8)∈s.data.toList∨(47:UInt8)∈s.data.toList):=by
 rintro(h'|h')
 ·obtain⟨j,hj⟩:=List.mem_iff_getElem?.1 h';have:=h j 0 (by rw[Lib.size_eq];exact(As.1 hj).1) hj;simp at this
 obtain⟨j,hj⟩:=List.mem_iff_getElem?.1 h';have:=h j 47 (by rw[Lib.size_eq];exact(As.1 hj).1) hj;simp at this
theorem fW{s:ByteArray}{i:Nat}{x:UInt8}(hx:s.data.toList[i]?=some x)(h:[0,47].contains x=true):((0:UInt8)∈s.data.toList∨(47:UInt8)∈s.data.toList):=by
 have hm:=Al hx;simp at h;rcases h with rfl|rfl
 ·exact .inl hm
 exact .inr hm
set_option maxRecDepth 1000000 in
set_option maxHeartbeats 4000000 in
theorem fX(s:ByteArray)(w:World)(h8:s.size≤8):Calls prog 144 #[.string s, .string ⟨#[0,47]⟩] w (Vt s w):=by
 have h8z:decide ((8:Int)<(s.size:Int))=false:=decide_eq_false (by omega)
 go_enter Tryz.func144,Tryz.ntmps144
 go_wp2_with (go_at_call 184;refine(Tryz.strings_shouldUseASCIISet _ _).mono ?_;rintro e w' ⟨rfl,hw⟩;rw[hw,h8z])
 clear hw
 go_loopg [9,10] s.size (fun g _ _ wx=>∃i:Nat,s.size≤i+g∧i≤s.size∧wx.heap[w.heap.size]?=some (.stringIter s i)∧Below w.heap.size w wx∧Hid (Lib.NoAny s.data.toList [0,47] i))
 case atStart=>exact⟨0,by omega,by omega,World.iter_heap w s 0,(Below.refl _ _).alloc (BA _) _,Lib.hid (Lib.NoAny.zero _ _)⟩
 case round=>
  obtain⟨i,hg,hi,hit,hbel,hno⟩:=hrel;have hks:=hbel.size;by_cases hlt:i<s.size
  ·obtain⟨g,rfl⟩:∃g,gk=g+1:=⟨gk - 1,by omega⟩;by_cases hx:(s[i]'hlt).toNat<128
   ·have hnx:=fun ty=>Lib.run_next_ascii_at (P:=prog) wr w.heap.size s i ty hit hlt hx;have hxl:s.data.toList[i]?=some (s[i]'hlt):=Lib.data_getElem? s i hlt;generalize (s[i]'hlt)=x at *;have Hx:=Lib.hid hxl;have hit':=Lib.iterAt_heap wr w.heap.size s i (i+1) hit;have hbel':=Lib.below_iterAt hbel (BA _) s (i+1);generalize wr.iterAt w.heap.size s (i+1)=w1 at *;have hcon:=Lib.contains_iff_indexByte [0,47] x;have hback:((x.toNat:Int)).toNat.toUInt8=x:=by simp
    have HI:=Lib.hid hit';clear hxl hit hit';cases hin:[0,47].contains x
    ·rw[hin]at hcon;have hneg:¬((0:Int)≤Lib.indexByte [0,47] x):=of_decide_eq_false hcon.symm;clear hcon
     go_wp2_with (go_at_call 183;refine(Tryz.strings_IndexRune_ascii _ _ _ (by omega) (by omega)).mono ?_;rintro e w' ⟨rfl,hw⟩;rw[hw,hback])
     go_roundg g
     case measure=>omega
     case rel=>exact⟨i+1,by omega,by omega,HI.out,hbel',Lib.hid (hno.out.succ Hx.out hin)⟩
    rw[hin]at hcon;have hpos:(0:Int)≤Lib.indexByte [0,47] x:=of_decide_eq_true hcon.symm;clear hcon
    go_wp2_with (go_at_call 183;refine(Tryz.strings_IndexRune_ascii _ _ _ (by omega) (by omega)).mono ?_;rintro e w' ⟨rfl,hw⟩;rw[hw,hback])
    go_ret
    exact⟨_,rfl,hbel',⟨fun _=>fW Hx.out hin,fun _=>by omega⟩⟩
   have hx':128≤(s[i]'hlt).toNat:=by omega
   obtain⟨p1,p2,_⟩:=Vs s i hlt hx';have HN:=Lib.hid (fT hlt hx' hno.out);have q1:=(decode_high s i hlt hx').1;have q2:=decode_le s i;have hnx:=fun ty=>Lib.run_next_any_at (P:=prog) wr w.heap.size s i ty hit hlt;generalize Utf8.decode s i=d at *;obtain⟨d1,d2⟩:=d;simp only at *;have hit':=Lib.iterAt_heap wr w.heap.size s i (i+d2) hit;have hbel':=Lib.below_iterAt hbel (BA _) s (i+d2);have hsz:=Lib.iterAt_size wr w.heap.size s (i+d2);generalize wr.iterAt w.heap.size s (i+d2)=w1 at *;have hk1:w.heap.size<w1.heap.size:=(Array.getElem?_eq_some_iff.1 hit').1;have HI:=Lib.hid hit';clear hit hit' hsz
   go_wp2_with fail
   refine(fU _ _ (by omega) (by omega)).mono ?_;rintro e w2 ⟨rfl,hb2⟩
   go_wp2
   go_roundg g
   case measure=>omega
   case rel=>exact⟨i+d2,by omega,by omega,(hb2.block _ hk1).trans HI.out,hbel'.trans (hb2.mono (by omega)),HN⟩
  obtain rfl:i=s.size:=by omega
  have hnx:=fun ty=>Lib.run_next_end_at (P:=prog) wr w.heap.size s s.size ty hit hlt
  go_wp2
  go_ret
  exact⟨_,rfl,hbel,⟨fun h=>absurd h (by decide),fun h=>absurd h (fV hno.out)⟩⟩
theorem fY(s:ByteArray):(0≤Lib.indexAny s.data.toList [0,47])↔((0:UInt8)∈s.data.toList∨(47:UInt8)∈s.data.toList):=by
 generalize s.data.toList=l
 induction l with
 |nil=>simp[Lib.indexAny]
 |cons b l ih=>
   have hge:=Lib.indexAny_ge [0,47] l;unfold Lib.indexAny;by_cases hb:[0,47].contains b=true
   ·rw[if_pos hb];simp only[List.contains_cons,List.contains_nil,Bool.or_false,Bool.or_eq_true,beq_iff_eq]at hb;rcases hb with rfl|rfl<;>simp
   rw[if_neg hb];have h0:(0:UInt8)≠b:=by rintro rfl;simp at hb
   have h47:(47:UInt8)≠b:=by rintro rfl;simp at hb
   simp only[List.mem_cons,h0,h47,false_or];rw[←ih];split
   ·rename_i h;have:Lib.indexAny l [0,47]= -1:=by simpa using h
    rw[this]
   rename_i h;have:Lib.indexAny l [0,47]≠ -1:=by simpa using h
   constructor<;>intro h'<;>omega
theorem fZ(s:ByteArray)(w:World)(hs:s.size≤1000000):Calls prog 144 #[.string s, .string ⟨#[0,47]⟩] w (Vt s w):=by
 by_cases h8:s.size≤8
 ·exact fX s w h8
 refine(Tryz.strings_IndexAny_long (fun w=>by kernel_rfl) s ⟨#[0,47]⟩ w (by decide) (by omega) (by omega) (by decide) ?_).mono ?_
 ·intro j b hj;have:b∈[0,47]:=Al hj;simp at this;rcases this with rfl|rfl<;>decide
 rintro e w' ⟨rfl,rfl⟩;exact⟨_,rfl,JT _ _ _,fY s⟩
def Rq(s:ByteArray):Bool:=decide ((0:UInt8)∈s.data.toList∨(47:UInt8)∈s.data.toList)
theorem g7(s:ByteArray)(w:World)(hs:s.size≤1000000):
    Calls prog 104 #[.string s, .string ⟨#[0,47]⟩] w fun e w'=>e= .returned (.bool (Rq s))∧Below w.heap.size w w':=by
 go_enter Tryz.func104,Tryz.ntmps104
 go_wp2_with fail
 refine(fZ s w hs).mono ?_;rintro e w' ⟨v,rfl,hb,hv⟩;have HV:=Lib.hid hv;clear hv
 go_wp2
 go_ret
 exact⟨Ka (decide_eq_decide.2 HV.out),hb⟩
theorem Vu(s:ByteArray):(s.toList==[46])=decide (s.data.toList=[46]):=by rw[H8,Bool.eq_iff_iff];simp
theorem Vv(s:ByteArray):(s.toList==[46,46])=decide (s.data.toList=[46,46]):=by rw[H8,Bool.eq_iff_iff];simp
set_option maxHeartbeats 1000000 in
theorem Vw(s:ByteArray)(w:World):
    Calls prog 57 #[.string s] w fun e w'=>e= .returned (.bool (EQ s.data.toList))∧Below w.heap.size w w':=by
 have hsz:=Lib.size_eq s;by_cases h0:s.size=0
 ·have he:s.toList.isEmpty=true:=by rw[Vq];simp[h0]
  have he':s.toList=[]:=List.isEmpty_iff.1 he
  have HF:Hid (EQ s.data.toList=false):=Lib.hid (by
   rw[←H8,he'];rfl)
  clear hsz
  go_enter Tryz.func57,Tryz.ntmps57
  go_wp2
  go_ret
  exact⟨Ka HF.out.symm,Below.refl _ _⟩
 have he:s.toList.isEmpty=false:=by rw[Vq];simp[h0]
 have hne:s.data.toList≠[]:=by intro e;rw[e]at hsz;exact h0 hsz
 by_cases h12:s.size≤12
 ·have hle:decide ((s.size:Int)≤12)=true:=decide_eq_true (by omega);by_cases h1:s.data.toList=[46]
  ·have e1:(s.toList==[46])=true:=by rw[Vu];simp[h1]
   have e1':(s.toList != [46])=false:=by simp[bne,e1]
   have HF:Hid (EQ s.data.toList=false):=Lib.hid (by rw[h1];rfl);clear hsz hne h1
   go_enter Tryz.func57,Tryz.ntmps57
   go_wp2
   go_ret
   exact⟨Ka HF.out.symm,Below.refl _ _⟩
  have e1:(s.toList==[46])=false:=by rw[Vu];simp[h1]
  have e1':(s.toList != [46])=true:=by simp[bne,e1]
  by_cases h2:s.data.toList=[46,46]
  ·have e2:(s.toList==[46,46])=true:=by rw[Vv];simp[h2]
   have e2':(s.toList != [46,46])=false:=by simp[bne,e2]
   have HF:Hid (EQ s.data.toList=false):=Lib.hid (by rw[h2];rfl);clear hsz hne h1 h2
   go_enter Tryz.func57,Tryz.ntmps57
   go_wp2
   go_ret
   exact⟨Ka HF.out.symm,Below.refl _ _⟩
  have e2:(s.toList==[46,46])=false:=by rw[Vv];simp[h2]
  have e2':(s.toList != [46,46])=true:=by simp[bne,e2]
  have HF:Hid (EQ s.data.toList= !Rq s):=Lib.hid (by
   unfold Rq;rw[Bool.eq_iff_iff,Mq];simp only[Bool.not_eq_true',decide_eq_false_iff_not,not_or]
   exact⟨fun h=>h.2.2.2.2,fun h=>⟨hne,by omega,h1,h2,h⟩⟩)
  clear hsz hne h1 h2
  go_enter Tryz.func57,Tryz.ntmps57
  go_wp2_with fail
  refine(g7 s _ (by omega)).mono ?_;rintro e w' ⟨rfl,hb⟩
  go_wp2
  go_ret
  exact⟨Ka HF.out.symm,hb⟩
 have hle:decide ((s.size:Int)≤12)=false:=decide_eq_false (by omega);have HF:Hid (EQ s.data.toList=false):=Lib.hid (decide_eq_false (fun h=>by have:=h.2.1;omega));clear hsz hne
 go_enter Tryz.func57,Tryz.ntmps57
 go_wp2
 go_ret
 exact⟨Ka HF.out.symm,Below.refl _ _⟩
theorem g8(s:AD):AFn prog 57 [.v (.string s)] (fun r=>r= .v (.bool (DT s))):=by
 rw[Ok];exact OG (us:=[.string s]) fun w=>Vw s w
end Go.Proofs.YtbglbmnhgbgelaaGreatDoor
namespace Go.Proofs.YtbglbmnhgbgelaaGreatDoor
theorem Vx{i:Int}{n p:Nod}(hne:n≠p)(h1:0<CS i n.entries)(h2:0<CS i p.entries):∀{ns:List Nod},n∈ns→p∈ns→2≤Bg i ns
 |[],hn,_=>by cases hn
 |x::ns,hn,hp=>by
   have pos:∀{m:Nod},m∈ns→0<CS i m.entries→0<Bg i ns:=fun{m} hm h=>by
    have:0<m.entries.countP (fun e:BF=>e.2==i):=h;obtain⟨e,he,hi⟩:=List.countP_pos_iff.1 this;exact LX.2 ⟨m,hm,e,he,by simpa using hi⟩
   rw[K4];rcases List.mem_cons.1 hn with e1|hn'
   ·subst e1;rcases List.mem_cons.1 hp with e2|hp
    ·exact absurd e2.symm hne
    have:=pos hp h2;omega
   rcases List.mem_cons.1 hp with e2|hp
   ·subst e2;have:=pos hn' h1;omega
   have:=Vx hne h1 h2 hn' hp;omega
theorem P5{i:Int}{es:List BF}{e:BF}(he:e∈es)(hi:e.2=i):0<CS i es:=List.countP_pos_iff.2 ⟨e,he,by rw[hi];simp⟩
end Go.Proofs.YtbglbmnhgbgelaaGreatDoor
namespace Go.Proofs.YtbglbmnhgbgelaaGreatDoor
open Go.RowKit
theorem Rr{α:Type}(p:α→Bool):∀(l:List α) (i:Nat) (m:α),(l.filter p)[i]?=some m→∃j:Nat,l[j]?=some m∧(l.filter p).take i=(l.take j).filter p
 |[],i,m,h=>by simp at h
 |x::l,i,m,h=>by
   rw[List.filter_cons]at h ⊢
   cases hx:p x with
   |false=>
     rw[hx]at h;obtain⟨j,h1,h2⟩:=Rr p l i m (by simpa using h);exact⟨j+1,by simpa using h1,by simp[hx,h2]⟩
   |true=>
     rw[hx]at h
     cases i with
     |zero=>exact⟨0,by simpa using h,by simp⟩
     |succ i=>
       obtain⟨j,h1,h2⟩:=Rr p l i m (by simpa using h);exact⟨j+1,by simpa using h1,by simp[hx,h2]⟩
theorem Vy{s:Spc}(hv:SpcV s)(dev:Int)(h0:(Ef s dev).2=0):SpcV (Ef s dev).1∧(Ef s dev).1=⟨s.files,s.mounts.filter fun m:Cs=>decide (m.1≠dev)⟩:=by
 unfold Ef at h0 ⊢;split at h0
 ·exact absurd h0 (by decide)
 rename_i c1;split at h0
 ·exact absurd h0 (by decide)
 rename_i c2;rw[if_neg c1,if_neg c2];refine⟨⟨hv.files,hv.pos,fun i m hi=>?_⟩,rfl⟩;obtain⟨j,h1,h2⟩:=Rr _ s.mounts i m hi;have hm:=hv.mnt j m h1;show MntOK s.files ((s.mounts.filter _).take i) m;rw[h2];refine⟨hm.dev1,hm.dev2,?_,hm.dir,?_,?_⟩
 ·have hf:=hm.fresh;rw[←Bool.not_eq_true]at hf ⊢;exact fun h=>hf (VA h fun x hx=>(List.mem_filter.1 hx).1)
 ·by_cases hz:m.2.1=0
  ·unfold Bm;simp[hz]
  obtain⟨m',hm',e⟩:=RR hm.there hz;rw[←e];refine NF (s:=⟨s.files,(s.mounts.take j).filter fun m:Cs=>decide (m.1≠dev)⟩) (List.mem_filter.2 ⟨hm',decide_eq_true ?_⟩);intro e2;have hany:(s.mounts.any fun m:Cs=>decide (m.2.1=dev))=true:=List.any_eq_true.2 ⟨m,Al h1,decide_eq_true (by rw[←e,e2])⟩;exact c2 hany
 have hf:=hm.free
 cases hc:Bx ⟨s.files,(s.mounts.take j).filter fun m:Cs=>decide (m.1≠dev)⟩ m.2 with
 |none=>rfl
 |some d=>
   exfalso;obtain⟨k,hk⟩:=NH hc;have hmem:=(List.mem_filter.1 (Al hk)).1
   cases hc2:Bx ⟨s.files,s.mounts.take j⟩ m.2 with
   |some d'=>rw[hc2]at hf;cases hf
   |none=>
     unfold Bx at hc2
     cases hq:(s.mounts.take j).find? fun x:Cs=>decide (x.2=m.2)with
     |some y=>rw[hq]at hc2;cases hc2
     |none=>have:=List.find?_eq_none.1 hq _ hmem;simp at this
section
theorem g9(s:Spc)(hs:SpcB s):AFn prog 88 [.agg (Ao s)] (fun r=>r= .agg (Ao s)):=by
 have hfew:=hs.few;refine enter Tryz.func88 rfl rfl rfl rfl rfl 0 rfl ?_;refine w_ (b_ (h:=AZ (h:=e_ (q_ (BO ([(0,Ao s)]) 8 (h:=AG 0 (h:=?_)))))))
 first|refine AM 1 (h:=?_)|refine Bz 1 rfl (fun _ hS=>LT (row:=Ao s) rfl (kb hS rfl) (Be rfl) rfl ⟨rfl,rfl⟩) ?_
 refine AG 3 (h:=?_)
 first|refine AM 4 (h:=?_)|refine Bz 4 rfl (fun _ hS=>LT (row:=Ao s) rfl (kb hS rfl) (Be rfl) rfl ⟨rfl,rfl⟩) ?_
 refine c_ 2 rfl (AK (RE s.files hs.files) ?_);rintro r rfl;refine o_ (h:=?_)
 first|refine c_ 5 rfl (EO rfl rfl rfl (by simp;omega) (by repeat constructor) ?_)|refine c_ 5 rfl (JF rfl rfl (by simp;omega) (by repeat constructor) ?_)
 refine o_ (h:=Hb 6 (h:=?_));refine Aj 7 rfl (Af rfl rfl rfl rfl rfl rfl (by repeat constructor) (by repeat constructor) ?_);refine o_ (h:=z_ (h:=t_ (A4 (?_))));refine Am (r:= .agg (Ao s)) none (h5:=?_) (h6:=⟨rfl,rfl,rfl⟩);exact LeA.agg (LeL.cons (A9 _) (LeL.cons (LeA.tok _ _ _) LeL.nil))
end
end Go.Proofs.YtbglbmnhgbgelaaGreatDoor
namespace Go.Proofs.YtbglbmnhgbgelaaGreatDoor
section
variable {s:Spc}(hv:SpcV s)
include hv
def GU(s:Spc)(a:AA):Prop:=(Bp s a).2=true∧∀i,0<i→GS s (Bb s (Bk s.files) a) i=true
theorem P6{a:AA}(h:AT s.files a=true)(hm:Bm s a.1=true):(Bp s a).2=true:=by rw[Ox hv h hm]
omit hv in
theorem Vz(a:AA)(L:List AA)(i:Nat):GS s (a::L) (i+2)=GS s L (i+1):=by
 unfold GS;have h1:(a::L)[i+2]?=L[i+1]?:=List.getElem?_cons_succ;have h2:(a::L)[i+2 - 1]?=L[i+1 - 1]?:=List.getElem?_cons_succ;rw[h1,h2];simp
omit hv in
theorem W8(a b:AA)(L:List AA):GS s (a::b::L) 1=true↔∀dev,Bx s b=some dev→a=(dev,1):=by
 unfold GS;simp only[List.getElem?_cons_succ,List.getElem?_cons_zero,Nat.sub_self]
 cases Bx s b with
 |none=>simp
 |some dev=>simp
omit hv in
theorem WB{L:List AA}{i:Nat}(h:L.length≤i):GS s L i=true:=by
 unfold GS;rw[List.getElem?_eq_none h]
theorem NV(a:AA):Eg s a=true↔GU s a∧Bx s a=none:=by
 rw[eD hv,Bool.and_eq_true,List.all_eq_true];constructor
 ·rintro⟨h1,h2⟩;obtain⟨t,ht⟩:=Ow hv (Li h1).1;refine⟨⟨h1,fun i hi=>?_⟩,?_⟩
  ·by_cases hl:i<(Bb s (Bk s.files) a).length
   ·exact h2 i (List.mem_range.2 hl)
   exact WB (by omega)
  have h3:=h2 0 (List.mem_range.2 (by rw[ht];simp));rw[ht]at h3;unfold GS at h3;simp only[List.getElem?_cons_zero]at h3
  cases hc:Bx s a with
  |none=>rfl
  |some dev=>rw[hc]at h3;simp at h3
 rintro⟨⟨h1,h2⟩,hc⟩;refine⟨h1,fun i _=>?_⟩;obtain⟨t,ht⟩:=Ow hv (Li h1).1;by_cases h0:i=0
 ·subst h0;rw[ht];unfold GS;simp only[List.getElem?_cons_zero,hc]
 exact h2 i (by omega)
theorem P7{a b:AA}(h:AT s.files a=true)(hm:Bm s a.1=true)(hs:D3 s a=some b):GU s a↔GU s b∧∀dev,Bx s b=some dev→a=(dev,1):=by
 have hb:=NG hv h hs;have hbm:=RT hv hm hs;obtain⟨t,ht⟩:=Ow hv hb;have hc:Bb s (Bk s.files) a=a::Bb s (Bk s.files) b:=by rw[KA hv h,hs]
 unfold GU;rw[hc];constructor
 ·rintro⟨_,h2⟩;refine⟨⟨P6 hv hb hbm,fun i hi=>?_⟩,?_⟩
  ·obtain⟨j,rfl⟩:∃j,i=j+1:=⟨i - 1,by omega⟩;rw[←Vz a];exact h2 _ (by omega)
  have h3:=h2 1 (by omega);rw[ht]at h3;exact(W8 a b t).1 h3
 rintro⟨⟨_,h2⟩,h3⟩;refine⟨P6 hv h hm,fun i hi=>?_⟩;by_cases h1:i=1
 ·subst h1;rw[ht];exact(W8 a b t).2 h3
 obtain⟨j,rfl⟩:∃j,i=j+2:=⟨i - 2,by omega⟩;rw[Vz];exact h2 _ (by omega)
theorem Rs(h:AT s.files (0,1)=true):GU s (0,1):=by
 have hs:D3 s (0,1)=none:=by unfold D3;rw[if_neg (by simp)];exact RU hv
 refine⟨P6 hv h (by unfold Bm;simp),fun i hi=>?_⟩;rw[KA hv h,hs];exact WB (by simp;omega)
theorem WC{a:AA}{dev:Int}(hc:Bx s a=some dev):D3 s (dev,1)=some a∧AT s.files (dev,1)=true∧Bm s dev=true∧dev≠0∧AT s.files a=true:=by
 obtain⟨i,hi⟩:=NH hc;have hm:=hv.mnt i _ hi;have h1:=hm.dev1;have h2:=hm.dev2;simp only at h1 h2
 have hs:D3 s (dev,1)=some a:=by
  unfold D3;rw[if_neg (by simp)];exact VH hv hi
 exact⟨hs,Re hv (by omega) h2,NF (s:=s) (m:=(dev,a)) (Al hi),by omega,hm.dir⟩
theorem gA{a:AA}(h:GU s a):GU s (Hc s a):=by
 unfold Hc
 cases hc:Bx s a with
 |none=>exact h
 |some dev=>
   obtain⟨h1,h2,h3,_⟩:=WC hv hc;refine(P7 hv (a:=(dev,1)) h2 h3 h1).2 ⟨h,fun d hd=>?_⟩;rw[hc]at hd;injection hd with hd;rw[hd]
theorem WD:∀(n:Nat) (a:AA),GU s a→GU s (Cv s n a)
 |0,_,h=>h
 |n+1,a,h=>by rw[Cv];exact WD n _ (gA hv h)
theorem NW{a:AA}(h:GU s a):Eg s (Cv s s.mounts.length a)=true:=(NV hv _).2 ⟨WD hv _ a h,VF hv _ a fun i m _ _=>by omega⟩
theorem gB:∀(k:Nat) (a:AA),GU s a→GU s (Dq s k a):=by
 intro k
 induction k with
 |zero=>intro a h;exact h
 |succ k ih=>
   intro a h;obtain⟨hd,hm⟩:=Li h.1;by_cases h1:a.2=1
   ·cases ho:Bt s a.1 with
    |none=>rw[Rd k hd h1 (by rw[ho];rfl)];exact h
    |some on=>
      have hs:D3 s a=some on:=by unfold D3;rw[if_neg (by simpa using h1)];exact ho
      rw[Rc k hd h1 (by rw[ho];rfl),ho];exact ih on ((P7 hv hd hm hs).1 h).1
   have hs:D3 s a=some (a.1,(Ah s.files a).parent):=if_pos h1;rw[Rb k hd h1];exact((P7 hv hd hm hs).1 h).1
omit hv in
theorem gC{d:Dvc}(hd:VD d){a b m:Nod}(ha:a∈d.nodes)(hb:b∈d.nodes)(hm:m∈d.nodes)(h1:m.ino≠1)(hk:m.kind=2)(hea:∃e∈a.entries,e.2=m.ino)(heb:∃e∈b.entries,e.2=m.ino):a=b:=by
 have hc:=hd.one m hm h1 hk;obtain⟨A,B,hAB,_,_⟩:=UX hd.asc ha;rw[hAB,Qv,K4]at hc;have h2:=UW.2 hea;rw[hAB]at hb;rcases List.mem_append.1 hb with hb|hb
 ·have:=LX.2 ⟨b,hb,heb⟩;omega
 rcases List.mem_cons.1 hb with hb|hb
 ·exact hb.symm
 have:=LX.2 ⟨b,hb,heb⟩;omega
theorem P8{a b:AA}{p:AD}(hl:AB s.files a p=(b,0)):AT s.files a=true∧DT p=true∧b.1=a.1∧b.2≠1∧D1 s.files b=true∧(AT s.files b=true→D3 s b=some a):=by
 unfold AB at hl
 cases hn:Bo s.files a with
 |none=>rw[hn]at hl;simp at hl
 |some n=>
   rw[hn]at hl;simp only at hl;by_cases hk:n.kind=2
   ·rw[if_pos hk]at hl;have hdir:AT s.files a=true:=(J3 hn).2 hk
    cases hf:n.entries.find? fun e:BF=>decide (e.1=p)with
    |none=>rw[hf]at hl;simp at hl
    |some e=>
      rw[hf]at hl;simp only[Prod.mk.injEq,and_true]at hl;subst hl;have he:=List.mem_of_find?_eq_some hf;have hep:=List.find?_some hf;simp only[decide_eq_true_eq]at hep;obtain⟨q,d,n',e1,e2,e3,e4,e5,e6⟩:=Gu (f:=s.files) (a:=a) (by rw[hdir];simp)
      have hn':n'=n:=by
       have:Ah s.files a=n:=by unfold Ah;rw[hn];rfl
       rw[←this];exact e5.symm
      subst hn';have hd:=hv.files.vd d (Al e2);obtain⟨h1,h2,m,hm,hme⟩:=hd.ent n' e3 e he;have hnb:Bo s.files (a.1,e.2)=some m:=by rw[e1];exact RS hv e2 hm hme
      refine⟨hdir,by rw[←hep];exact h1,rfl,h2,by unfold D1;rw[hnb];rfl,fun hdb=>?_⟩;have hmk:m.kind=2:=(J3 hnb).1 hdb;have hm1:m.ino≠1:=by rw[hme];exact h2
      obtain⟨p',hp',hpi,hpe⟩:=hd.par m hm hm1 hmk;have:=gC hd e3 hp' hm hm1 hmk ⟨e,he,hme.symm⟩ hpe;subst this;unfold D3;rw[if_pos h2];unfold Ah;rw[hnb];simp only[Option.getD_some];rw[←hpi,e4]
   rw[if_neg hk]at hl;simp at hl
theorem gD{a b:AA}{p:AD}(hl:AB s.files a p=(b,0))(ha:Eg s a=true)(hb:AT s.files b=true):GU s b:=by
 obtain⟨h1,_,h3,h4,_,h6⟩:=P8 hv hl;obtain⟨h7,h8⟩:=(NV hv a).1 ha;refine(P7 hv hb (by rw[h3];exact(Li h7.1).2) (h6 hb)).2 ⟨h7,fun dev hd=>?_⟩;rw[h8]at hd;cases hd
omit hv in
theorem gE(hv:SpcV s){a:AA}(h:AT s.files a=false)(n:Nat):Cv s n a=a:=by
 refine OW ?_ n
 cases hc:Bx s a with
 |none=>rfl
 |some d=>rw[(WC hv hc).2.2.2.2]at h;cases h
theorem Rt:AT s.files (0,0)=false:=by
 cases hz:AT s.files (0,0)with
 |false=>rfl
 |true=>
   obtain⟨q,d,m,e1,e2,e3,e4,e5,e6⟩:=Gu (f:=s.files) (a:=(0,0)) (by rw[hz];simp);have:=(hv.files.vd d (Al e2)).pos e3;simp only at e4;omega
theorem WE{fl:Bool}{p:AD}{ps:List AD}{a:AA}{lk:Nat}{τ:Lk}(h0:AT s.files (0,1)=true)(ha:AT s.files a=true→Eg s a=true)(h:By s fl p ps a lk= .inr τ):AT s.files τ.file=true→Eg s τ.file=true:=by
 unfold By at h;split at h
 ·cases h
 rename_i hd;have hd:AT s.files a=true:=by simpa using hd
 have hva:=ha hd;have hr:Eg s (DY s)=true:=NW hv (Rs hv h0);split at h
 ·cases h
 split at h
 ·injection h with h;subst h;exact ha
 split at h
 ·injection h with h;subst h;exact fun _=>NW hv (gB hv _ a ((NV hv a).1 hva).1)
 split at h
 ·split at h
  ·cases h
  injection h with h;subst h;intro hz;rw[Rt hv]at hz;cases hz
 rename_i hl;have hl:(AB s.files a p).2=0:=by simpa using hl
 split at h
 ·split at h
  ·cases h
  injection h with h;subst h;simp only;split
  ·exact fun _=>hr
  exact ha
 injection h with h;subst h;simp only;intro hz
 cases hb:AT s.files (AB s.files a p).1 with
 |false=>rw[gE hv hb]at hz;rw[hb]at hz;cases hz
 |true=>exact NW hv (gD hv (p:=p) (by rw[←hl]) hva hb)
theorem gF(h0:AT s.files (0,1)=true){fl:Bool}:∀(k:Nat) (σ:Lk),(AT s.files σ.file=true→Eg s σ.file=true)→(Dx s fl k σ).1=0→AT s.files (Dx s fl k σ).2.file=true→Eg s (Dx s fl k σ).2.file=true:=by
 intro k
 induction k with
 |zero=>intro σ h _ hd;exact h hd
 |succ k ih=>
   intro σ h;unfold Dx
   cases σ.ps with
   |nil=>exact fun _ hd=>h hd
   |cons p ps=>
     simp only
     cases hs:By s fl p ps σ.file σ.links with
     |inl e=>
       intro _ hd;rw[show(e,NL).2.file=((0,0):AA) from rfl,Rt hv]at hd;cases hd
     |inr τ=>exact ih τ (WE hv h0 h hs)
end
end Go.Proofs.YtbglbmnhgbgelaaGreatDoor
namespace Go.Proofs.YtbglbmnhgbgelaaGreatDoor
theorem gG{p:AD}(h:DT p=true):p≠P3∧p≠NK∧p.size≤12∧p≠⟨#[]⟩∧(47:UInt8)∉p.data.toList:=by
 rw[Ok]at h;obtain⟨h1,h2,h3,h4,h5,h6⟩:=Mq.1 h;refine⟨?_,?_,by rw[Lib.size_eq];exact h2,?_,h6⟩<;>(intro e;subst e;first|exact h3 rfl|exact h4 rfl|exact h1 rfl)
theorem gH{p:AD}(h:p.data.toList=[]):p=⟨#[]⟩:=NJ h
theorem gJ{l:Bs}(h1:l≠[])(h2:l.head?≠some 47):C3 l≠[]:=by
 intro h;have h3:DU (CG l)=47::l:=Qn l
 cases hs:CG l with
 |nil=>exact Of l hs
 |cons p ps=>
   rw[hs,Gr]at h3;injection h3 with _ h3
   have h4:p=[]:=by
    unfold C3 at h;rw[hs,List.filter_cons]at h;split at h
    ·cases h
    rename_i hne
    simpa[ne_]using hne
   rw[h4,List.nil_append]at h3
   cases ps with
   |nil=>exact h1 h3.symm
   |cons q ps=>
     rw[Gr]at h3;rw[←h3]at h2;simp at h2
theorem gK{p:AD}(h1:p≠⟨#[]⟩)(h2:Cx p=false):Cq p≠[]:=by
 intro h;unfold Cq at h;rw[List.map_eq_nil_iff]at h;refine gJ (fun e=>h1 (gH e)) ?_ h;unfold Cx at h2
 simpa using h2
end Go.Proofs.YtbglbmnhgbgelaaGreatDoor
namespace Go.Proofs.YtbglbmnhgbgelaaGreatDoor
section
variable {s:Spc}(hv:SpcV s)
include hv
omit hv in
theorem WF{fl:Bool}{p:AD}{ps:List AD}{a:AA}{lk:Nat}{e:Int}(h:By s fl p ps a lk= .inl e):e≠0:=by
 unfold By at h
 repeat' split at h
 all_goals first|(cases h;done)|(injection h with h;subst h;decide)
def P9(s:Spc)(τ:Lk):Prop:=(τ.name=⟨#[]⟩∧τ.dir=τ.file∧τ.ex=true)∨(DT τ.name=true∧AT s.files τ.dir=true∧∀lk,By s false τ.name [] τ.dir lk= .inr ⟨[],τ.dir,τ.name,τ.file,τ.ex,lk⟩)
theorem gL{fl:Bool}{p:AD}{ps:List AD}{a:AA}{lk:Nat}{τ:Lk}(h:By s fl p ps a lk= .inr τ):P9 s τ:=by
 unfold By at h;split at h
 ·cases h
 rename_i c1;split at h
 ·cases h
 rename_i c2;split at h
 ·injection h with h;subst h;exact .inl ⟨rfl,rfl,rfl⟩
 rename_i c3;split at h
 ·injection h with h;subst h;exact .inl ⟨rfl,rfl,rfl⟩
 rename_i c4;split at h
 ·rename_i c5;split at h
  ·cases h
  rename_i c6;injection h with h;subst h;simp only[not_or,Decidable.not_not,Bool.not_eq_false]at c6;refine .inr ⟨c6.2,by simpa using c1,fun lk=>?_⟩;unfold By;simp only[c1,c2,c3,c4,c5,c6.2,if_false,if_true,ne_eq,not_true_eq_false,or_self,Bool.true_eq_false,not_false_eq_true]
 rename_i c5;split at h
 ·split at h
  ·cases h
  injection h with h;subst h;exact .inl ⟨rfl,rfl,rfl⟩
 rename_i c6;injection h with h;subst h;have hl:AB s.files a p=((AB s.files a p).1,0):=Prod.ext rfl (by simpa using c5);refine .inr ⟨(P8 hv hl).2.1,by simpa using c1,fun lk=>?_⟩;unfold By;simp only[c1,c2,c3,c4,c5,if_false,ne_eq,not_true_eq_false,or_self,Bool.false_eq_true,and_false,Bool.true_eq_false,reduceCtorEq]
theorem gM{fl:Bool}:∀(k:Nat) (σ:Lk),P9 s σ→(Dx s fl k σ).1=0→P9 s (Dx s fl k σ).2:=by
 intro k
 induction k with
 |zero=>intro σ h _;exact h
 |succ k ih=>
   intro σ h;unfold Dx
   cases σ.ps with
   |nil=>exact fun _=>h
   |cons p ps=>
     simp only
     cases hs:By s fl p ps σ.file σ.links with
     |inl e=>exact fun c=>absurd c (WF hs)
     |inr τ=>exact ih τ (gL hv hs)
theorem gN{st:AA}{p:AD}{fl:Bool}{x:Fnd}(h:Bc s st p fl=(x,0)):∃τ,P9 s τ∧x=GT s (BN p) τ:=by
 unfold Bc at h;generalize (if Cx p=true then DY s else st)=d at h;split at h
 ·cases h
 split at h
 ·cases h
 split at h
 ·cases h
 split at h
 ·rename_i c;injection h with h1 h2;exact absurd h2 c
 rename_i c;split at h
 ·cases h
 injection h with h1 h2;exact⟨_,gM hv _ _ (.inl ⟨rfl,rfl,rfl⟩) (Decidable.not_not.1 c),h1.symm⟩
end
end Go.Proofs.YtbglbmnhgbgelaaGreatDoor
namespace Go.Proofs.YtbglbmnhgbgelaaGreatDoor
abbrev zz:AD:=⟨#[122,122]⟩
end Go.Proofs.YtbglbmnhgbgelaaGreatDoor
namespace Go.Proofs.YtbglbmnhgbgelaaGreatDoor
structure Wk where
 ps:List AD
 at_:AA
 dir:AA
 name:AD
 missing:Bool
 links:Nat
def EY(s:Spc)(fl:Bool)(p:AD)(ps:List AD)(w:Wk):Int ⊕ Wk:=
 if AT s.files w.at_=false then .inl 20
 else if 12<p.size then .inl 36
 else if p=NK then .inr ⟨ps,Cv s s.mounts.length (Dq s (s.mounts.length+1) w.at_),(0,0),⟨#[]⟩,w.missing,w.links⟩
 else if p=P3 then .inr ⟨ps,w.at_,(0,0),⟨#[]⟩,w.missing,w.links⟩
 else if DT p=false then .inl 2
 else if(AB s.files w.at_ p).2≠0 then(if ps≠[]then .inl 2 else .inr ⟨ps,w.at_,w.at_,p,true,w.links⟩)
 else if(Ah s.files (AB s.files w.at_ p).1).kind=3∧(ps≠[]∨fl=true)then
  (if w.links=8 then .inl 40 else
    .inr ⟨Cq (Ah s.files (AB s.files w.at_ p).1).target++ps,if Cx (Ah s.files (AB s.files w.at_ p).1).target=true then DY s else w.at_,if Cx (Ah s.files (AB s.files w.at_ p).1).target=true then(0,0)else w.dir,if Cx (Ah s.files (AB s.files w.at_ p).1).target=true then⟨#[]⟩else w.name,w.missing,w.links+1⟩)
 else .inr ⟨ps,Cv s s.mounts.length (AB s.files w.at_ p).1,w.at_,p,w.missing,w.links⟩
def GV(s:Spc)(sl:Bool)(w:Wk):Fnd:=
 if w.name=⟨#[]⟩then⟨w.at_,⟨#[]⟩,w.at_, !w.missing,sl,(Bp s w.at_).1⟩
 else⟨w.dir,w.name,if w.missing=true then(0,0)else w.at_, !w.missing,sl,if(Bp s w.dir).2=true then DX (Bp s w.dir).1 w.name else⟨#[]⟩⟩
structure Sim(w:Wk)(σ:Lk):Prop where
 ps:w.ps=σ.ps
 links:w.links=σ.links
 ex:σ.ex= !w.missing
 here:w.missing=false→w.at_=σ.file
 gone:w.missing=true→σ.file=(0,0)∧w.ps=[]∧w.dir=σ.dir∧w.name=σ.name∧w.name≠⟨#[]⟩
 last:w.ps=[]→w.missing=false→(w.name=⟨#[]⟩→σ.name=⟨#[]⟩∧σ.dir=σ.file)∧(w.name≠⟨#[]⟩→w.dir=σ.dir∧w.name=σ.name)
section
variable {s:Spc}(hv:SpcV s)
include hv
theorem gO{a:AA}{p:AD}(h:DT p=false):(AB s.files a p).2≠0:=by
 intro e;have:=(P8 hv (a:=a) (p:=p) (b:=(AB s.files a p).1) (Prod.ext rfl e)).2.1;rw[this]at h;cases h
theorem gP{a b:AA}{p:AD}(hl:AB s.files a p=(b,0))(hk:(Ah s.files b).kind=3):(Ah s.files b).target≠⟨#[]⟩:=by
 have hb:=(P8 hv hl).2.2.2.2.1;obtain⟨q,i,d,m,h1,h2,h3,h4,h5,h6⟩:=K5 hb;rw[h6]at hk ⊢;have hp:=(hv.files.vd d (Al h2)).plain m (Al h3);unfold FL at hp;split at hp
 ·cases hp
 try rw[if_pos hk]at hp
 unfold KX at hp;intro e;rw[e]at hp;revert hp;decide+kernel
theorem gQ(fl:Bool){p:AD}{ps:List AD}{w:Wk}{σ:Lk}(h:Sim w σ)(hm:w.missing=false):(∃e,EY s fl p ps w= .inl e∧By s fl p ps σ.file σ.links= .inl e)∨∃w' τ,EY s fl p ps w= .inr w'∧By s fl p ps σ.file σ.links= .inr τ∧Sim w' τ:=by
 have ha:=h.here hm;have hex:(true:Bool)= !w.missing:=by rw[hm];rfl
 rw[←ha,←h.links];unfold EY By;by_cases c1:AT s.files w.at_=false
 ·simp only[if_pos c1];exact .inl ⟨_,rfl,rfl⟩
 simp only[if_neg c1];by_cases c2:12<p.size
 ·simp only[if_pos c2];exact .inl ⟨_,rfl,rfl⟩
 simp only[if_neg c2];by_cases c3:p=P3
 ·have c4:¬p=NK:=by rw[c3];decide
  simp only[if_pos c3,if_neg c4];exact .inr ⟨_,_,rfl,rfl,rfl,rfl,hex,fun _=>rfl,fun c=>(by rw[hm]at c;cases c),fun _ _=>⟨fun _=>⟨rfl,rfl⟩,fun c=>absurd rfl c⟩⟩
 simp only[if_neg c3];by_cases c4:p=NK
 ·simp only[if_pos c4];exact .inr ⟨_,_,rfl,rfl,rfl,rfl,hex,fun _=>rfl,fun c=>(by rw[hm]at c;cases c),fun _ _=>⟨fun _=>⟨rfl,rfl⟩,fun c=>absurd rfl c⟩⟩
 simp only[if_neg c4];by_cases c5:DT p=false
 ·have c6:=gO hv (a:=w.at_) c5;simp only[if_pos c5,if_pos c6,if_pos (show ps≠[]∨DT p=false from .inr c5)];exact .inl ⟨_,rfl,rfl⟩
 simp only[if_neg c5];have hp0:p≠⟨#[]⟩:=(gG (by simpa using c5)).2.2.2.1;by_cases c6:(AB s.files w.at_ p).2≠0
 ·simp only[if_pos c6];by_cases c7:ps≠[]
  ·simp only[if_pos c7,if_pos (show ps≠[]∨DT p=false from .inl c7)];exact .inl ⟨_,rfl,rfl⟩
  simp only[if_neg c7,if_neg (show¬(ps≠[]∨DT p=false) from fun c=>c.elim c7 c5)];have c8:ps=[]:=Decidable.not_not.1 c7;exact .inr ⟨_,_,rfl,rfl,c8,rfl,rfl,fun c=>(by cases c),fun _=>⟨rfl,c8,rfl,rfl,hp0⟩,fun _ c=>by cases c⟩
 simp only[if_neg c6];by_cases c7:(Ah s.files (AB s.files w.at_ p).1).kind=3∧(ps≠[]∨fl=true)
 ·simp only[if_pos c7];by_cases c8:w.links=8
  ·simp only[if_pos c8];exact .inl ⟨_,rfl,rfl⟩
  simp only[if_neg c8];have ht:=gP hv (a:=w.at_) (p:=p) (b:=(AB s.files w.at_ p).1) (Prod.ext rfl (Decidable.not_not.1 c6)) c7.1;refine .inr ⟨_,_,rfl,rfl,rfl,rfl,hex,fun _=>rfl,fun c=>(by rw[hm]at c;cases c),fun hps _=>?_⟩;by_cases c9:Cx (Ah s.files (AB s.files w.at_ p).1).target=true
  ·simp only[if_pos c9];exact⟨fun _=>⟨trivial,trivial⟩,fun c=>absurd rfl c⟩
  have:=gK ht (by simpa using c9);exact absurd (List.append_eq_nil_iff.1 hps).1 this
 simp only[if_neg c7];exact .inr ⟨_,_,rfl,rfl,rfl,rfl,hex,fun _=>rfl,fun c=>(by rw[hm]at c;cases c),fun _ _=>⟨fun c=>absurd c hp0,fun _=>⟨rfl,rfl⟩⟩⟩
theorem gR{sl:Bool}{w:Wk}{σ:Lk}(h:Sim w σ)(hps:w.ps=[]):GV s sl w=GT s sl σ:=by
 unfold GV GT
 cases hm:w.missing with
 |true=>
   obtain⟨g1,_,g2,g3,g4⟩:=h.gone hm;rw[if_neg g4,h.ex,hm,g1,←g2,←g3];simp only[if_true,g4,if_false]
 |false=>
   have ha:=h.here hm;obtain⟨k1,k2⟩:=h.last hps hm;by_cases c:w.name=⟨#[]⟩
   ·obtain⟨e1,e2⟩:=k1 c;rw[if_pos c,h.ex,hm,e1,e2,←ha];simp only[if_true];by_cases cw:(Bp s w.at_).2=true
    ·rw[if_pos cw]
    rw[if_neg cw];have:Bp s w.at_=(⟨#[]⟩,false):=Lh hv fun c=>cw (P6 hv c.1 c.2);rw[this]
   obtain⟨e1,e2⟩:=k2 c;rw[if_neg c,h.ex,hm,←e1,←e2,←ha];simp only[c,if_false,Bool.false_eq_true]
end
end Go.Proofs.YtbglbmnhgbgelaaGreatDoor
namespace Go.Proofs.YtbglbmnhgbgelaaGreatDoor
open Go.RowKit Go.Shelf
attribute [local go_sem] Oper.semAt_some
theorem gS(s:ByteArray)(w:World):
    Calls prog 90 #[.string s, .string ⟨#[47]⟩] w fun e w'=>
     e= .returned (.func (.func 171) #[] #[.pointer (some ⟨w.heap.size+1,0,none⟩), .pointer (some ⟨w.heap.size,0,none⟩), .pointer (some ⟨w.heap.size+1+1,0,none⟩)])∧
     w'=((w.alloc (.cells #[.string s] 9)).alloc (.cells #[.string ⟨#[47]⟩] 9)).alloc (.cells #[.int .i64 0] 3):=by
 go_enter Tryz.func90,Tryz.ntmps90
 go_wp2
 go_ret
 exact⟨rfl,rfl⟩
def PA(w:World)(b:Nat):Nat:=match w.cell? ⟨b,0,none⟩with
 |some (.string r)=>r.size
 |_=>0
theorem Lr{w:World}{b:Nat}{t:TypeId}{r:ByteArray}(h:Boxed w b t (.string r)):PA w b=r.size:=by simp[PA,h.cell]
def Keep3(a b c:Nat)(X Y:World):Prop:=Y.heap[a]?=X.heap[a]?∧Y.heap[b]?=X.heap[b]?∧Y.heap[c]?=X.heap[c]?
theorem Keep3.trans{a b c:Nat}{X Y Z:World}(h:Keep3 a b c X Y)(k:Keep3 a b c Y Z):Keep3 a b c X Z:=⟨k.1.trans h.1,k.2.1.trans h.2.1,k.2.2.trans h.2.2⟩
theorem gT{a b c N:Nat}(ha:a<N)(hb:b<N)(hc:c<N)(W:World)(l:Nat)(o':Obj)(hl:N≤l):Keep3 a b c W (W.putObj l o'):=
 ⟨World.putObj_heap_other (by omega),World.putObj_heap_other (by omega),World.putObj_heap_other (by omega)⟩
theorem gU{a b c:Nat}{X Y:World}(h:Below X.heap.size X Y)(ha:a<X.heap.size)(hb:b<X.heap.size)(hc:c<X.heap.size):Keep3 a b c X Y:=⟨h.block _ ha,h.block _ hb,h.block _ hc⟩
theorem Ru(s:ByteArray)(i:Nat)(h:i<s.size):(s.extract (i+1) s.size).size<s.size:=by
 rw[ByteArray.size_extract];omega
theorem gV{s:ByteArray}{i:Nat}(hi:Lib.indexByte s.data.toList 47=i):i<s.size∧CG s.data.toList=(s.extract 0 i).data.toList::CG (s.extract (i+1) s.size).data.toList:=by
 have hm:(47:UInt8)∈s.data.toList:=by
  apply Classical.byContradiction;intro h;rw[Vr h]at hi;omega
 obtain⟨j,hj,hlt,hl,hn⟩:=Rp hm;obtain rfl:j=i:=by omega
 refine⟨by rw[Lib.size_eq];exact hlt,?_⟩;rw[Lib.extract_data,Lib.extract_to_end];simp only[List.drop_zero,Nat.sub_zero]
 conv=>lhs;rw[hl]
 exact UD hn _
theorem gW{s:ByteArray}(hi:Lib.indexByte s.data.toList 47<0):CG s.data.toList=[s.data.toList]:=by
 refine Og fun h=>?_;obtain⟨i,hi',_⟩:=Rp h;omega
def Dm(xs:List AD):List Bs:=xs.map fun x=>x.data.toList
set_option maxRecDepth 100000 in
set_option maxHeartbeats 1000000 in
theorem gX(n:Nat)(s:ByteArray)(hs:s.size≤1000000)(b0 b1 b2:Nat)(w:World)(h0:Boxed w b0 9 (.string s))(h1:Boxed w b1 9 (.string ⟨#[47]⟩))(h2:Boxed w b2 3 (.int .i64 0))(h01:b0≠b1)(h02:b0≠b2):
    SeqW Fence.wide n prog 171 #[.pointer (some ⟨b1,0,none⟩), .pointer (some ⟨b0,0,none⟩), .pointer (some ⟨b2,0,none⟩)] (fun x:AD=>#[.string x]) (fun b=>b=b0) (Keep3 b0 b1 b2) (fun xs=>Dm xs<+:CG s.data.toList)
     (fun xs=>Dm xs=CG s.data.toList) (fun pre=>Dm pre<+:CG s.data.toList) w:=fun l J Jx W hW hJ hJx hY hst=>by
 have k0:Boxed W b0 9 (.string s):=Ba h0 hW h0.lt;have k1:Boxed W b1 9 (.string ⟨#[47]⟩):=Ba h1 hW h1.lt;have k2:Boxed W b2 3 (.int .i64 0):=Ba h2 hW h2.lt;refine callsIn_of_wp Tryz.func171 rfl trivial ?_ rfl;simp only[Tryz.ntmps171,List.size_toArray,List.length_cons,List.length_nil,Nat.reduceAdd,Nat.reduceSub,Array.replicate_succ,Array.replicate_zero,List.push_toArray,List.append_toArray,List.nil_append,List.cons_append];have c1:=k1.cell
 gi_wp2
 gi_loopw [7] (fun _ wr=>∃(pre:List AD) (r:ByteArray),Boxed wr b0 9 (.string r)∧Boxed wr b1 9 (.string ⟨#[47]⟩)∧Boxed wr b2 3 (.int .i64 0)∧J pre wr∧Hid (Dm pre++CG r.data.toList=CG s.data.toList)∧r.size≤s.size) (fun _ wr=>PA wr b0)
 case atStart=>exact⟨[],s,k0,k1,k2,hst,rfl,BA _⟩
 case round=>
  obtain⟨pre,r,m0,m1,m2,hj,hpre,hle⟩:=hrel;clear k0 k1 k2 c1 hst;have c0:=m0.cell;have c1:=m1.cell;have c2:=m2.cell;have f0:=m0.frozen
  gi_wp2_with fail
  refine ES ((callsIn_wide.2 (fM _ _)).mono ?_);rintro e w' ⟨rfl,rfl⟩;have hge:=Lib.indexByte_ge r.data.toList 47;by_cases hneg:Lib.indexByte r.data.toList 47<0
  ·have HS:=Lib.hid (gW hneg);obtain⟨fn,tmps,assign,body,hy,hR⟩:=hY pre r wr hj (by rw[←hpre.out,HS.out];simp[Dm])
   gi_wp2
   refine⟨(fun h=>by cases h),hR.mono ?_⟩;rintro e W3 (⟨rfl,hJ3,hk3⟩|⟨rfl,hJx3⟩)
   ·gi_wp2
    go_end0
    exact⟨⟨_,rfl⟩, .inl ⟨pre++[r],by rw[←hpre.out,HS.out];simp[Dm],hJ3⟩⟩
   gi_wp2
   go_end0
   exact⟨⟨_,rfl⟩, .inr ⟨pre++[r],by rw[←hpre.out,HS.out];simp[Dm],hJx3⟩⟩
  obtain⟨i,hi⟩:=Int.eq_ofNat_of_zero_le (show 0≤Lib.indexByte r.data.toList 47 by omega);obtain⟨hlt,hseg⟩:=gV hi;have HS:=Lib.hid hseg;clear hseg hge hneg;rw[hi];clear hi;obtain⟨fn,tmps,assign,body,hy,hR⟩:=hY pre (r.extract 0 i) wr hj (by rw[←hpre.out,HS.out];simp[Dm])
  gi_wp2
  refine⟨(fun h=>by cases h),hR.mono ?_⟩;rintro e W3 (⟨rfl,hJ3,hk3⟩|⟨rfl,hJx3⟩)
  ·have q0:Boxed W3 b0 9 (.string r):=hk3.1.trans m0;have q1:Boxed W3 b1 9 (.string ⟨#[47]⟩):=hk3.2.1.trans m1;have q2:Boxed W3 b2 3 (.int .i64 0):=hk3.2.2.trans m2;clear c0 c1 c2 f0 hy hR;have c0:=q0.cell;have c1:=q1.cell;have c2:=q2.cell;have f0:=q0.frozen
   gi_wp2
   go_roundw
   case rel=>exact⟨pre++[r.extract 0 i],r.extract (i+1) r.size,q0.set _,q1.other (Ne.symm h01) _,q2.other (Ne.symm h02) _,hJ _ _ _ hJ3 (Moves.set_ (own:=fun b=>b=b0) _ rfl _),Lib.hid (by rw[←hpre.out,HS.out];simp[Dm]),Nat.le_trans (Nat.le_of_lt (Ru r i hlt)) hle⟩
   case measure=>rw[Lr (q0.set _),Lr m0];exact Ru r i hlt
  gi_wp2
  refine bodyPost_ret (results_none rfl _ _ _) rfl ?_;exact⟨⟨_,rfl⟩, .inr ⟨pre++[r.extract 0 i],by rw[←hpre.out,HS.out];simp[Dm],hJx3⟩⟩
end Go.Proofs.YtbglbmnhgbgelaaGreatDoor
namespace Go.Proofs.YtbglbmnhgbgelaaGreatDoor
open Go.RowKit Go.Shelf
attribute [local go_sem] Oper.semAt_some
theorem NX(l:Bs):Lib.hasPrefix l [47]=decide (l.head?=some 47):=by
 unfold Lib.hasPrefix
 cases l with
 |nil=>simp
 |cons c t=>
   rw[Bool.eq_iff_iff,List.isPrefixOf_iff_prefix];simp[List.cons_prefix_cons,eq_comm]
theorem gY{l:Bs}(h:l.head?=some 47):Lib.trimPrefix l [47]=l.tail:=by
 unfold Lib.trimPrefix;rw[NX,if_pos (by simp[h])];simp
set_option maxRecDepth 100000 in
set_option maxHeartbeats 1000000 in
theorem WG(s:ByteArray)(w:World)(h:s.data.toList=[47]∨s.data.toList.head?≠some 47):
    Calls prog 51 #[.string s] w fun e w'=>e= .returned (.bool (E5 s.data.toList))∧Below w.heap.size w w':=by
 by_cases h1:s.data.toList=[47]
 ·obtain rfl:s=⟨#[47]⟩:=Vp h1
  go_enter Tryz.func51,Tryz.ntmps51
  go_wp2
  exact bodyPost_ret (v:= .bool true) (by simp[results,Tryz.results51,go_sem]) rfl ⟨rfl,(Below.refl _ _).alloc (BA _) _⟩
 have h2:s.data.toList.head?≠some 47:=h.resolve_left h1;have e1:(s.toList==[47])=false:=by rw[H8,beq_eq_false_iff_ne];exact h1
 have HP:=Lib.hid (NX s.data.toList);have HF:Hid (E5 s.data.toList=false):=Lib.hid (by unfold E5;simp[h1,h2]);have HD:Hid (decide (s.data.toList.head?=some 47)=false):=Lib.hid (decide_eq_false h2);clear h h1 h2
 go_enter Tryz.func51,Tryz.ntmps51
 go_wp2_with fail
 refine(Tryz.strings_CutPrefix _ _ _).mono ?_;rintro e w' ⟨rfl,rfl⟩;rw[HP.out,HD.out]
 go_wp2
 exact bodyPost_ret (v:= .bool false) (by simp[results,Tryz.results51,go_sem]) rfl ⟨by rw[HF.out],(Below.refl _ _).alloc (BA _) _⟩
set_option maxRecDepth 100000 in
set_option maxHeartbeats 1000000 in
theorem gZ(n:Nat)(hn:Hid (1≤n))(s:ByteArray)(w:World)(hs:s.size≤1000000)(h1:s.data.toList≠[47])(h2:s.data.toList.head?=some 47):
    CallsIn Fence.wide n prog 51 #[.string s] w fun e w'=>e= .returned (.bool (E5 s.data.toList))∧Below w.heap.size w w':=by
 have e1:(s.toList==[47])=false:=by rw[H8,beq_eq_false_iff_ne];exact h1
 have HP:=Lib.hid (NX s.data.toList);have HT:=Lib.hid (gY h2);have HF:Hid (E5 s.data.toList=(CG s.data.toList.tail).all EQ):=Lib.hid (by unfold E5;simp[h1,h2]);have HD:Hid (decide (s.data.toList.head?=some 47)=true):=Lib.hid (decide_eq_true h2);clear h1 h2;refine callsIn_of_wp_marks Tryz.func51 rfl trivial ?_ rfl;simp only[Tryz.ntmps51,List.size_toArray,List.length_cons,List.length_nil,Nat.reduceAdd,Nat.reduceSub,Array.replicate_succ,Array.replicate_zero,List.push_toArray,List.append_toArray,List.nil_append,List.cons_append]
 gi_wp2_with fail
 refine ES ((callsIn_wide.2 (Tryz.strings_CutPrefix _ _ _)).mono ?_);rintro e w' ⟨rfl,rfl⟩;obtain⟨r,hr⟩:∃r:ByteArray,r=⟨(Lib.trimPrefix s.data.toList [47]).toArray⟩:=⟨_,rfl⟩;have hrl:r.data.toList=s.data.toList.tail:=by rw[hr,←HT.out]
 have HR:=Lib.hid hrl;have hrs:r.size≤1000000:=by rw[Lib.size_eq,hrl,List.length_tail,←Lib.size_eq];omega
 rw[HP.out,HD.out];rw[show(⟨(Lib.trimPrefix s.data.toList (ByteArray.mk #[47]).data.toList).toArray⟩:ByteArray)=r from hr.symm];clear hrl hr
 gi_wp2_with fail
 refine ES ((callsIn_wide.2 (gS _ _)).mono ?_);rintro e w' ⟨rfl,rfl⟩
 gi_wp2_with fail
 have hR:Boxed (w.alloc (.cells #[.bool false] 4)) w.heap.size 4 (.bool false):=Boxed.new _ _ _;obtain⟨W0,hW0⟩:∃W0,w.alloc (.cells #[.bool false] 4)=W0:=⟨_,rfl⟩;have hz0:W0.heap.size=w.heap.size+1:=by rw[←hW0];simp
 have hB0:Below w.heap.size w W0:=by rw[←hW0];exact Gq _ _
 rw[hW0]at hR ⊢;obtain⟨WL,hWL⟩:∃WL,((W0.alloc (.cells #[.string r] 9)).alloc (.cells #[.string ⟨#[47]⟩] 9)).alloc (.cells #[.int .i64 0] 3)=WL:=⟨_,rfl⟩;have hzL:WL.heap.size=w.heap.size+1+1+1+1:=by rw[←hWL];simp[hz0]
 have hBL:Below W0.heap.size W0 WL:=by rw[←hWL];exact Mf _ _ _ _
 have k0:Boxed WL (w.heap.size+1) 9 (.string r):=by rw[←hWL,←hz0];exact Mg _ _ _ _
 have k1:Boxed WL (w.heap.size+1+1) 9 (.string ⟨#[47]⟩):=by rw[←hWL,←hz0];exact Mh _ _ _ _
 have k2:Boxed WL (w.heap.size+1+1+1) 3 (.int .i64 0):=by rw[←hWL,←hz0];exact Mi _ _ _ _
 have kR:Boxed WL w.heap.size 4 (.bool false):=Ba hR hBL hR.lt;have hBw:Below w.heap.size w WL:=hB0.trans (hBL.mono (by omega));rw[hWL];have HB0:=Lib.hid hz0;have HBL:=Lib.hid hzL;clear hW0 hWL hz0 hR hB0 hBL hzL
 refine UJ rfl hn.out (gf:=171) rfl trivial (enters_of Tryz.func171 (by kernel_rfl) rfl)
  (gX (n - 1) r hrs (w.heap.size+1) (w.heap.size+1+1) (w.heap.size+1+1+1) WL k0 k1 k2 (by omega) (by omega))
  (fun b hb=>by have:=HBL.out;omega) Keep3.trans (fun W l o o' hl _ _=>by have:=HBL.out;exact gT (N:=WL.heap.size) (by omega) (by omega) (by omega) W l o' hl) (Below.refl _ _) (fun _=>rfl)
  (fun pre W=>Boxed W w.heap.size 4 (.bool false)∧(∀p∈Dm pre,EQ p=true)∧Below w.heap.size w W)
  (fun c pre W=>c= .ret∧Boxed W w.heap.size 4 (.bool false)∧(∃p∈Dm pre,EQ p=false)∧Below w.heap.size w W)
  (fun s X Y h hm=>⟨hm.boxed h.1 (by omega),h.2.1,hm.under h.2.2 (BA _) (fun b hb=>by omega) (by have:=HBL.out;omega)⟩)
  (fun c s X Y h hm=>⟨h.1,hm.boxed h.2.1 (by omega),h.2.2.1,hm.under h.2.2.2 (BA _) (fun b hb=>by omega) (by have:=HBL.out;omega)⟩)
  ⟨kR,by simp[Dm],hBw⟩
  (fun x=>{tmps:=#[.string s,undef, .pointer (some ⟨w.heap.size,0,none⟩), .string r, .bool true, .string x, .string s, .bool false, .tuple #[.string r, .bool true], .string s, .tuple #[.string r, .bool true], .string r, .bool true, .bool true, .bool false, .string r,
    .func (.func 171) #[] #[.pointer (some ⟨w.heap.size+1+1,0,none⟩), .pointer (some ⟨w.heap.size+1,0,none⟩), .pointer (some ⟨w.heap.size+1+1+1,0,none⟩)], .string x,undef,undef,undef],defers:=[]}) ?assign ?body ?done ?stop
 case assign=>
  intro l x W K hK
  gi_wp2
  exact hK
 case body=>
  rintro l pre x W ⟨hc,hnm,hbw⟩ _ hsz;have hcell:=hc.cell;have hfz:=hc.frozen;have HN:=Lib.hid hnm;have HZ:=Lib.hid hsz;clear hnm hsz
  gi_wp2_with fail
  refine ES ((CallsIn.inRound l (callsIn_wide.2 (Vw x W))).mono ?_);rintro e W' ⟨rfl,hb'⟩;have hc':Boxed W' w.heap.size 4 (.bool false):=Ba hc hb' hc.lt;have hbw':Below w.heap.size w W':=hbw.trans (hb'.mono hbw.size);clear hcell hfz;have hcell:=hc'.cell;have hfz:=hc'.frozen;have HX:Hid (Dm (pre++[x])=Dm pre++[x.data.toList]):=Lib.hid (by simp[Dm])
  cases hnx:EQ x.data.toList with
  |true=>
    gi_wp2
    have h1:=HBL.out;have h2:=HZ.out;exact⟨Mt hb',gU hb' (by omega) (by omega) (by omega),hc',by rw[HX.out];intro p hp;rcases List.mem_append.1 hp with hp|hp;exact HN.out p hp;simp at hp;rw[hp];exact hnx,hbw'⟩
  |false=>
    gi_wp2
    have h1:=HBL.out;exact⟨Ol (Mt hb') (by omega) _,rfl,hc'.set _,⟨x.data.toList,by rw[HX.out];simp,hnx⟩,hbw'.setCell (BA _) _⟩
 case done=>
  rintro D xs W hD hS ⟨hc,hnm,hbw⟩ hK;have HS:=Lib.hid hS;have HN:=Lib.hid hnm;clear hS hnm;have hcell:=hc.cell;have hfz:=hc.frozen
  gi_wp2
  refine⟨by simp, .inl ⟨_,_,rfl,run_takeDeferred ((KeepsOthers.setCell _ _ _).same D _ hK rfl),?_⟩⟩;have h1:=HBL.out;have hcb:=(Kg (hc.set (.bool true)) (show w.heap.size≠D by omega) (.deferred none)).cell;refine⟨.bool true,by simp[results,Tryz.f51,go_sem,hcb],by rw[HF.out,←HR.out,←HS.out,List.all_eq_true.2 HN.out],Mu (hbw.setCell (p:=⟨w.heap.size,0,none⟩) (BA _) _) (by omega) _⟩
 case stop=>
  rintro D c pre W hD hSp ⟨rfl,hc,hnm,hbw⟩ hK;have HS:=Lib.hid hSp;have HN:=Lib.hid hnm;clear hSp hnm;have hcell:=hc.cell
  gi_wp2
  refine⟨by simp, .inl ⟨_,_,rfl,run_takeDeferred hK,?_⟩⟩;have h1:=HBL.out;have hcb:=(Kg hc (show w.heap.size≠D by omega) (.deferred none)).cell;refine⟨.bool false,by simp[results,Tryz.f51,go_sem,hcb],?_,Mu hbw (by omega) _⟩;obtain⟨p,hp,hpf⟩:=HN.out;rw[HF.out,←HR.out,List.all_eq_false.2 ⟨p,HS.out.subset hp,by simp[hpf]⟩]
theorem hC(s:ByteArray)(w:World)(hs:s.size≤1000000):
    Calls prog 51 #[.string s] w fun e w'=>e= .returned (.bool (E5 s.data.toList))∧Below w.heap.size w w':=by
 by_cases h1:s.data.toList=[47]
 ·exact WG s w (.inl h1)
 by_cases h2:s.data.toList.head?=some 47
 ·exact callsIn_wide.1 (gZ 6 (Lib.hid (by omega)) s w hs h1 h2)
 exact WG s w (.inr h2)
end Go.Proofs.YtbglbmnhgbgelaaGreatDoor
namespace Go.Proofs.YtbglbmnhgbgelaaGreatDoor
open Go.RowKit
def flat{α:Type}(sz:Nat)(cell:α→Nat→Value)(xs:List α):List Value:=xs.flatMap fun x=>(List.range sz).map (cell x)
section
variable {α:Type}{sz:Nat}{cell:α→Nat→Value}
theorem flat_get(xs:List α):∀(i j:Nat) (x:α),xs[i]?=some x→j<sz→(flat sz cell xs)[i * sz+j]?=some (cell x j):=by
 induction xs with
 |nil=>intro i j x h;simp at h
 |cons y ys ih=>
   intro i j x h hj;have e:flat sz cell (y::ys)=(List.range sz).map (cell y)++flat sz cell ys:=by simp[flat]
   rw[e]
   cases i with
   |zero=>
     simp at h;subst h;rw[Cm (by simpa using hj)];simp[hj]
   |succ i=>
     rw[Dj (by simp[Nat.add_mul];omega)];simp only[List.getElem?_cons_succ]at h;have:=ih i j x h hj;rw[←this]
     congr 1
     simp[Nat.add_mul];omega
def OwnL(sz:Nat)(cell:α→Nat→Value)(E:TypeId)(w:World)(base:Nat)(v:Value)(xs:List α):Prop:=
 w.ownsRow base E sz v xs.length (flat sz cell xs)
theorem OwnL.list{E:TypeId}{w:World}{base:Nat}{v:Value}{xs:List α}(h:OwnL sz cell E w base v xs)(hf:xs.length≤few){D:Nat→Prop}(hD:∀b,base≤b→b<w.heap.size→D b):ListR sz cell w D v xs:=by
 rcases h.2 with⟨rfl,hn⟩|⟨g,cap,cur,rfl,hb,hg,hnc,_,hcs,htake⟩
 ·obtain rfl:xs=[]:=Dd hn;exact ListR.nil_
 refine⟨_,_,rfl,hnc,hf,fun _=>⟨g,0,rfl,hD g hb (Array.getElem?_eq_some_iff.1 hg).1,fun i x j hi hj=>?_⟩⟩
 have hlt:i * sz+j<xs.length * sz:=by
  have h1:=(As.1 hi).1;have h2:(i+1) * sz≤xs.length * sz:=Nat.mul_le_mul_right sz h1;rw[Nat.add_mul]at h2;omega
 rw[Nat.zero_add,cell_of_row w g _ cur E (0,0) hg,←flat_get xs i j x hi hj,←htake,List.getElem?_take,if_pos hlt];simp
end
theorem hG(l:Bs):Lib.hasSuffix l [47]=decide (l.getLast?=some 47):=by
 unfold Lib.hasSuffix;rw[Bool.eq_iff_iff,List.isSuffixOf_iff_suffix,decide_eq_true_iff];rcases List.eq_nil_or_concat l with rfl|⟨a,x,rfl⟩
 ·simp
 simp only[List.concat_eq_append,List.getLast?_concat,Option.some.injEq];constructor
 ·rintro⟨t,ht⟩;have:=congrArg List.getLast? ht
  simpa[eq_comm]using this
 rintro rfl;exact⟨a,rfl⟩
theorem WH(l:Bs):(C3 l).length≤l.length+1:=by
 have h1:(C3 l).length≤(CG l).length:=List.length_filter_le _ _
 have h2:(CG l).length≤l.length+1:=by
  clear h1
  induction l with
  |nil=>simp[CG]
  |cons c t ih=>
    rw[Ql];split
    ·simp;omega
    split
    ·simp
    rename_i h;rw[h]at ih;simp at ih ⊢;omega
 omega
theorem hH(xs:List AD):flat 1 Md xs=xs.map Value.string:=by
 induction xs with
 |nil=>rfl
 |cons x xs ih=>
   unfold flat at ih ⊢;rw[List.flatMap_cons,ih];rfl
theorem Tryz.infoStr:(prog.info? 9).map (fun i=>(i.zero,i.size,i.bytes))=some (some (.string ⟨#[]⟩),1,16):=by kernel_rfl
set_option maxHeartbeats 400000 in
theorem hZ(s:ByteArray)(w:World)(i:Nat)(hi:Lib.indexByte s.data.toList 47=i)(hlt:i<s.size)(hmax:s.size≤1000000):
    Calls prog 175 #[.string s, .string ⟨#[47]⟩] w fun e w'=>e= .returned (.tuple #[.string (s.extract 0 i), .string (s.extract (i+1) s.size), .bool true])∧∃n,w'=w.drewN n:=by
 have HI:=Lib.hid hi;clear hi
 have h1:Calls prog 195 #[.string s, .string ⟨#[47]⟩] w fun e w'=>e= .returned (.tuple #[.string (s.extract 0 i), .string (s.extract (i+1) s.size), .bool true])∧∃n,w'=w.drewN n:=by
  go_enter Tryz.func195,Tryz.ntmps195
  go_wp2_with fail
  refine(Ro _ _).mono ?_;rintro e w' ⟨rfl,rfl⟩;rw[HI.out]
  go_wp2_with fail
  go_quiet (fail)
  go_wp2
  go_ret3
  exact⟨rfl,_,rfl⟩
 go_enter Tryz.func175,Tryz.ntmps175
 go_wp2_with fail
 refine h1.mono ?_;rintro e w' ⟨rfl,n,rfl⟩
 go_wp2
 go_ret3
 exact⟨rfl,_,rfl⟩
set_option maxHeartbeats 400000 in
theorem i4(s:ByteArray)(w:World)(hi:Lib.indexByte s.data.toList 47= -1):
    Calls prog 175 #[.string s, .string ⟨#[47]⟩] w fun e w'=>e= .returned (.tuple #[.string s, .string ⟨#[]⟩, .bool false])∧w=w':=by
 have HI:=Lib.hid hi;clear hi
 have h1:Calls prog 195 #[.string s, .string ⟨#[47]⟩] w fun e w'=>e= .returned (.tuple #[.string s, .string ⟨#[]⟩, .bool false])∧w=w':=by
  go_enter Tryz.func195,Tryz.ntmps195
  go_wp2_with fail
  refine(Ro _ _).mono ?_;rintro e w' ⟨rfl,rfl⟩;rw[HI.out]
  go_wp2
  go_ret3
  exact⟨rfl,rfl⟩
 go_enter Tryz.func175,Tryz.ntmps175
 go_wp2_with fail
 refine h1.mono ?_;rintro e w' ⟨rfl,rfl⟩
 go_wp2
 go_ret3
 exact⟨rfl,rfl⟩
end Go.Proofs.YtbglbmnhgbgelaaGreatDoor
namespace Go.Proofs.YtbglbmnhgbgelaaGreatDoor
open Go.RowKit Go.Shelf
attribute [local go_sem] Oper.semAt_some
def i5(s:AD)(w:World)(e:Ending)(w':World):Prop:=∃(p q:AD) (b:Bool) (n:Nat),e= .returned (.tuple #[.string p, .string q, .bool b])∧w'=w.drewN n∧C3 s.data.toList=one_ p.data.toList++C3 q.data.toList∧(0<s.size→q.size<s.size)
theorem i6(s:ByteArray)(w:World)(hmax:s.size≤1000000):Calls prog 175 #[.string s, .string ⟨#[47]⟩] w (i5 s w):=by
 by_cases h:(47:UInt8)∈s.data.toList
 ·obtain⟨i,hi,hlt,hl,hn⟩:=Rp h;have hlt':i<s.size:=by rw[Lib.size_eq];exact hlt
  refine(hZ s w i hi hlt' hmax).mono ?_;rintro e w' ⟨rfl,n,rfl⟩;refine⟨_,_,_,n,rfl,rfl,?_,fun _=>Ru s i hlt'⟩;rw[Lib.extract_data,Lib.extract_to_end];simp only[List.drop_zero,Nat.sub_zero]
  conv=>lhs;rw[hl]
  exact Zh hn _
 refine(i4 s w (Vr h)).mono ?_;rintro e w' ⟨rfl,rfl⟩;refine⟨_,_,_,0,rfl,rfl,?_,fun h=>h⟩;rw[Oh h];simp[K1]
theorem i7(s:ByteArray)(w:World):
    Calls prog 131 #[.string s] w fun e w'=>
     e= .returned (.func (.func 174) #[] #[.pointer (some ⟨w.heap.size,0,none⟩)])∧w'=w.alloc (.cells #[.string s] 9):=by
 go_enter Tryz.func131,Tryz.ntmps131
 go_wp2
 go_ret
 exact⟨rfl,rfl⟩
theorem PB(s:ByteArray):s.toList.isEmpty=decide (s.size=0):=by
 rw[H8,Lib.size_eq,Bool.eq_iff_iff,List.isEmpty_iff,decide_eq_true_iff,List.length_eq_zero_iff]
def i8(a:Nat)(X Y:World):Prop:=Y.heap[a]?=X.heap[a]?
set_option maxRecDepth 100000 in
set_option maxHeartbeats 1000000 in
theorem i9(n:Nat)(s:ByteArray)(hs:s.size≤1000000)(b0:Nat)(w:World)(h0:Boxed w b0 9 (.string s)):
    SeqW Fence.wide n prog 174 #[.pointer (some ⟨b0,0,none⟩)] (fun x:AD=>#[.string x]) (fun b=>b=b0) (i8 b0) (fun xs=>Dm xs<+:C3 s.data.toList)
     (fun xs=>Dm xs=C3 s.data.toList) (fun pre=>Dm pre<+:C3 s.data.toList) w:=fun l J Jx W hW hJ hJx hY hst=>by
 have k0:Boxed W b0 9 (.string s):=Ba h0 hW h0.lt;refine callsIn_of_wp Tryz.func174 rfl trivial ?_ rfl;simp only[Tryz.ntmps174,List.size_toArray,List.length_cons,List.length_nil,Nat.reduceAdd,Nat.reduceSub,Array.replicate_succ,Array.replicate_zero,List.push_toArray,List.append_toArray,List.nil_append,List.cons_append]
 gi_wp2
 gi_loopw [3] (fun _ wr=>∃(pre:List AD) (r:ByteArray),Boxed wr b0 9 (.string r)∧J pre wr∧Hid (Dm pre++C3 r.data.toList=C3 s.data.toList)∧r.size≤s.size) (fun _ wr=>PA wr b0)
 case atStart=>exact⟨[],s,k0,hst,rfl,BA _⟩
 case round=>
  obtain⟨pre,r,m0,hj,hpre,hle⟩:=hrel;clear k0 hst;have c0:=m0.cell;have f0:=m0.frozen;by_cases hr:r.size=0
  ·have he:r.toList.isEmpty=true:=by rw[PB];simp[hr]
   have he':r.toList=[]:=List.isEmpty_iff.1 he;have HP:Hid (C3 r.data.toList=[]):=by rw[←H8,he'];exact Lib.hid K1
   gi_wp2
   go_end0
   exact⟨⟨_,rfl⟩, .inl ⟨pre,by rw[←hpre.out,HP.out];simp,hj⟩⟩
  have he:r.toList.isEmpty=false:=by rw[PB];simp[hr]
  gi_wp2_with fail
  refine ES ((callsIn_wide.2 (i6 _ _ (by omega))).mono ?_);rintro e w' ⟨p,q,b,nd,rfl,rfl,hpq,hq⟩;have hql:=hq (by omega);have HP:=Lib.hid hpq;clear hpq hq;have hj':J pre ((wr.drewN nd).setCell ⟨b0,0,none⟩ (.string q)):=hJ _ _ _ (hJ _ _ _ hj (Moves.below (OY (Below.refl _ _) nd))) (Moves.set_ (own:=fun b=>b=b0) _ rfl _);have m0':Boxed ((wr.drewN nd).setCell ⟨b0,0,none⟩ (.string q)) b0 9 (.string q):=Boxed.set _ (show Boxed (wr.drewN nd) b0 9 (.string r) from m0);by_cases hp:p.size=0
  ·have hpe:p.toList.isEmpty=true:=by rw[PB];simp[hp]
   have hpe':p.toList=[]:=List.isEmpty_iff.1 hpe;have HO:Hid (one_ p.data.toList=[]):=by rw[←H8,hpe'];exact Lib.hid rfl
   gi_wp2
   refine⟨fun _ h=>(by cases h),?_⟩
   gi_wp2
   go_roundw
   case rel=>exact⟨pre,q,m0',hj',Lib.hid (by rw[←hpre.out,HP.out,HO.out];simp),by omega⟩
   case measure=>rw[Lr m0',Lr m0];exact hql
  have HO:Hid (one_ p.data.toList=[p.data.toList]):=Lib.hid (if_neg (fun e=>hp (by rw[Lib.size_eq,e];rfl)));have hpe:p.toList.isEmpty=false:=by rw[PB];simp[hp]
  obtain⟨fn,tmps,assign,body,hy,hR⟩:=hY pre p _ hj' (by rw[←hpre.out,HP.out,HO.out];simp[Dm])
  gi_wp2
  refine⟨(fun h=>by cases h),hR.mono ?_⟩;rintro e W3 (⟨rfl,hJ3,hk3⟩|⟨rfl,hJx3⟩)
  ·have q0:Boxed W3 b0 9 (.string q):=hk3.trans m0';clear c0 f0 hy hR
   gi_wp2
   go_roundw
   case rel=>exact⟨pre++[p],q,q0,hJ3,Lib.hid (by rw[←hpre.out,HP.out,HO.out];simp[Dm]),by omega⟩
   case measure=>rw[Lr q0,Lr m0];exact hql
  gi_wp2
  refine bodyPost_ret (results_none rfl _ _ _) rfl ?_;exact⟨⟨_,rfl⟩, .inr ⟨pre++[p],by rw[←hpre.out,HP.out,HO.out];simp[Dm],hJx3⟩⟩
end Go.Proofs.YtbglbmnhgbgelaaGreatDoor
namespace Go.Proofs.YtbglbmnhgbgelaaGreatDoor
open Go.RowKit Go.Shelf
attribute [local go_sem] Oper.semAt_some
theorem Moves.row{own:Nat→Prop}{B:Nat}{X Y:World}(h:Moves own B X Y){base e size k:Nat}{v:Value}{xs:List Value}(hr:X.ownsRow base e size v k xs)(ho:∀b,own b→b<base):Y.ownsRow base e size v k xs:=by
 refine⟨hr.1,?_⟩;rcases hr.2 with h'|⟨g,cap,cur,hv,hg,hb,r⟩
 ·exact .inl h'
 refine .inr ⟨g,cap,cur,hv,hg,?_,r⟩;exact(h.block g (Array.getElem?_eq_some_iff.1 hb).1 (fun e=>by have:=ho g e;omega) (.inr ⟨_,hb,rfl⟩)).trans hb
theorem iA{W w1:World}{base B:Nat}{t e:TypeId}{size:Nat}{v v':Value}{k m:Nat}{xs ys:List Value}{tmp:Obj}
    (hv:Boxed W B t v) (hrow:W.ownsRow base e size v k xs) (hbase:base≤W.heap.size) (hB:B<base)
    (hown':w1.ownsRow base e size v' m ys) (hgrow:(W.alloc tmp).grownBy w1 v.ownBlock):
    Boxed w1 B t v∧Boxed (w1.setCell ⟨B,0,none⟩ v') B t v'∧(w1.setCell ⟨B,0,none⟩ v').ownsRow base e size v' m ys∧KeepsOthers W (w1.setCell ⟨B,0,none⟩ v')∧
     Below B W (w1.setCell ⟨B,0,none⟩ v')∧∀j,j<base→j≠B→(w1.setCell ⟨B,0,none⟩ v').heap[j]?=W.heap[j]?:=by
 have hne:∀j,j<base→some j≠v.ownBlock:=by
  intro j hj e;have:=World.ownsRow.lt hrow j e.symm;omega
 have hblk:∀j,j<base→w1.heap[j]?=W.heap[j]?:=fun j hj=>(hgrow.block j (by simp;omega) (hne j hj)).trans (Below.heap_alloc W tmp j (by omega));have hv1:Boxed w1 B t v:=(hblk B hB).trans hv;refine⟨hv1,hv1.set v',ownsRow_setCell_below hown' hB v',?_,?_,fun j hj hj'=>(Below.heap_setCell w1 ⟨B,0,none⟩ v' j hj').trans (hblk j hj)⟩
 ·refine((KeepsOthers.alloc W tmp).trans (KeepsOthers.of_grownBy hgrow fun j o ej hj=>?_)).trans (KeepsOthers.setCell _ _ _);rcases(hrow.alloc tmp).2 with⟨rfl,_⟩|⟨g,cap,cur,rfl,_,hgb,_⟩
  ·simp[Value.ownBlock]at ej
  obtain rfl:g=j:=by simpa[Value.ownBlock]using ej
  rw[hgb]at hj;cases hj;rfl
 have hs:=hgrow.size;simp at hs;exact⟨hgrow.os,hgrow.tape,hgrow.output,by simp[World.setCell];omega,fun j hj=>(Below.heap_setCell w1 ⟨B,0,none⟩ v' j (by show j≠B;omega)).trans (hblk j (by omega))⟩
def WJ(l:Bs)(w:World)(e:Ending)(w':World):Prop:=∃(v:Value) (ss:List AD),e= .returned (.tuple #[v, .bool (decide (l.head?=some 47)), .bool (decide (l.getLast?=some 47))])∧Tt w' (QV w w') v ss∧Dm ss=C3 l∧Below w.heap.size w w'∧∃A c,v= .slice A ss.length c∧c≤maxLen
set_option maxRecDepth 100000 in
set_option maxHeartbeats 2000000 in
theorem iB(n:Nat)(hn:Hid (1≤n))(s:ByteArray)(w:World)(hs:s.size≤60000):
    CallsIn Fence.wide n prog 91 #[.string s] w (WJ s.data.toList w):=by
 obtain⟨i0,hi,hz0,hz1,hz2⟩:=info_parts Tryz.infoStr;refine callsIn_of_wp_marks Tryz.func91 rfl trivial ?_ rfl;simp only[Tryz.ntmps91,List.size_toArray,List.length_cons,List.length_nil,Nat.reduceAdd,Nat.reduceSub,Array.replicate_succ,Array.replicate_zero,List.push_toArray,List.append_toArray,List.nil_append,List.cons_append]
 gi_wp2_with fail
 refine ES ((callsIn_wide.2 (i7 _ _)).mono ?_);rintro e w' ⟨rfl,rfl⟩
 gi_wp2_with fail
 obtain⟨WL,hWL⟩:∃WL,(w.alloc (.cells #[.slice none 0 0] 63)).alloc (.cells #[.string s] 9)=WL:=⟨_,rfl⟩;have hzL:WL.heap.size=w.heap.size+1+1:=by rw[←hWL];simp
 have hBw:Below w.heap.size w WL:=by rw[←hWL];exact JT _ _ _
 have kR:Boxed WL w.heap.size 63 (.slice none 0 0):=by rw[←hWL];exact Jy _ _ _
 have k0:Boxed WL (w.heap.size+1) 9 (.string s):=by rw[←hWL];exact Jz _ _ _
 rw[hWL];have HZ:=Lib.hid hzL;clear hWL hzL
 refine UJ rfl hn.out (gf:=174) rfl trivial (enters_of Tryz.func174 (by kernel_rfl) rfl)
  (i9 (n - 1) s (by omega) (w.heap.size+1) WL k0)
  (fun b hb=>by have:=HZ.out;omega) (fun h k=>Eq.trans k h) (fun W l o o' hl _ _=>by have:=HZ.out;exact World.putObj_heap_other (by omega)) (Below.refl _ _) (fun _=>rfl)
  (fun pre W=>∃v,Boxed W w.heap.size 63 v∧W.ownsRow WL.heap.size 9 1 v pre.length (pre.map Value.string)∧Below w.heap.size w W)
  (fun _ _ _=>False)
  (fun s X Y h hm=>by
    obtain⟨v,h1,h2,h3⟩:=h;have:=HZ.out
    exact⟨v,hm.boxed h1 (by omega),hm.row h2 (fun b hb=>by omega),hm.under h3 (BA _) (fun b hb=>by omega) (by omega)⟩)
  (fun _ _ _ _ h _=>h)
  ⟨_,kR,World.ownsRow_nil _ _ _ _,hBw⟩
  (fun x=>{tmps:=#[.string s,undef, .pointer (some ⟨w.heap.size,0,none⟩), .bool false, .bool false, .string x, .string s, .func (.func 174) #[] #[.pointer (some ⟨w.heap.size+1,0,none⟩)], .string x,undef,undef,undef,undef,undef,undef,undef,undef,undef],defers:=[]}) ?assign ?body ?done ?stop
 case assign=>
  intro l x W K hK
  gi_wp2
  exact hK
 case body=>
  rintro l pre x W ⟨v,hc,hrow,hbw⟩ hpf hsz;have hcell:=hc.cell;have HZW:=Lib.hid hsz
  have hpl:pre.length≤1000000:=by
   have h1:=hpf.length_le;have h2:=WH s.data.toList;rw[←Lib.size_eq]at h2;simp[Dm]at h1;omega
  have hmx:pre.length+1≤maxLen:=by unfold maxLen;omega
  clear hsz hpf
  gi_wp2_with (gi_at_builtin;refine wpListIn_append_own _ rfl _ _ 63 rfl WL.heap.size 9 i0 (.string ⟨#[]⟩) 1 16 Tryz.underlying63 hi hz0 hz1 hz2 rfl (by decide) _ _ _ rfl (hrow.alloc _) ⟨W.heap.size,0,none⟩ 1 1 [.string x] rfl rfl (cell_one_new _ _ _) (by simp[Value.oneCell']) (by omega) (by omega) (by have:=HZW.out;simp;omega) ?_;intro v' w1 hown' hgrow _;obtain⟨g',cap',rfl⟩:=ownsRow_succ hown';obtain⟨hv1,hv2,hr2,hk2,hb2,hj2⟩:=iA hc hrow (by have:=HZW.out;omega) (by have:=HZ.out;omega) hown' hgrow;have hc1:=hv1.cell;have hf1:=hv1.frozen)
  have h1:=HZ.out;exact⟨hk2.from _,hj2 _ (by omega) (by omega),⟨_,hv2,by simpa using hr2,hbw.trans hb2⟩⟩
 case done=>
  rintro D xs W hD hS ⟨v,hc,hrow,hbw⟩ hK;have HS:=Lib.hid hS;clear hS
  obtain⟨A,cc,rfl⟩:∃A c,v= .slice A xs.length c:=by
   rcases hrow.2 with⟨rfl,hn⟩|⟨g,cap,cur,rfl,_⟩
   ·exact⟨none,0,by rw[hn]⟩
   exact⟨_,_,rfl⟩
  have hccm:cc≤maxLen:=by
   rcases hrow.2 with⟨h1,_⟩|⟨g,cap,cur,h1,h2,h3,h4,h5,_⟩
   ·injection h1 with _ _ h1;rw[h1];exact BJ _
   injection h1 with _ _ h1;rw[h1];exact h5
  have hcell:=hc.cell;have hfz:=hc.frozen
  gi_wp2_with fail
  refine wpIn_wide.2 ?_;refine wp_region_still_tail 5 (by kernel_rfl) (by kernel_rfl) ?_;simp only[List.take_succ_cons,List.take_zero,List.drop_succ_cons,List.drop_zero]
  still_step
  still_step
  still_call (Tryz.strings_HasPrefix _ _ _)
  still_step
  still_call (Tryz.strings_HasSuffix _ _ _ (by omega))
  refine wpStill_nil ?_;change wpList _ _ _ _ _ W.drew;have hc2:Boxed W.drew w.heap.size 63 (.slice A xs.length cc):=hc;have hr2:W.drew.ownsRow WL.heap.size 9 1 (.slice A xs.length cc) xs.length (xs.map Value.string):=hrow;have hb2:Below w.heap.size w W.drew:=hbw.drew;have hK2:W.drew.heap[D]?=some (.deferred (some [])):=hK;clear hc hrow hbw hK hcell hfz;generalize W.drew=W2 at *;have hcell:=hc2.cell;have hfz:=hc2.frozen
  go_wp2
  gi_wp2
  refine⟨by simp, .inl ⟨_,_,rfl,run_takeDeferred ((KeepsOthers.setCell _ _ _).same D _ hK2 rfl),?_⟩⟩;have h1:=HZ.out;have hcb:=(Kg (hc2.set (.slice A xs.length cc)) (show w.heap.size≠D by omega) (.deferred none)).cell;refine⟨.tuple #[.slice A xs.length cc, .bool (Lib.hasPrefix s.data.toList [47]), .bool (Lib.hasSuffix s.data.toList [47])],by simp[results,Tryz.f91,go_sem,hcb], .slice A xs.length cc,xs,by rw[NX,hG],?_,HS.out,Mu (hb2.setCell (p:=⟨w.heap.size,0,none⟩) (BA _) _) (by omega) _,A,cc,rfl,hccm⟩;have hrow':=ownsRow_putObj (ownsRow_setCell_below hr2 (a:=⟨w.heap.size,0,none⟩) (by show w.heap.size<_;omega) (.slice A xs.length cc)) (.deferred none) ((KeepsOthers.setCell _ _ _).same D _ hK2 rfl) rfl
  have hlen:xs.length≤few:=by
   have h2:=WH s.data.toList;rw[←HS.out,←Lib.size_eq]at h2;simp[Dm]at h2;unfold few;omega
  refine OwnL.list (sz:=1) (cell:=Md) (E:=9) (base:=WL.heap.size) ?_ hlen (fun b hb hlt=>⟨by omega,hlt⟩);unfold OwnL;rw[hH];exact hrow'
 case stop=>
  rintro D c pre W hD hSp h hK;exact h.elim
theorem iC(s:ByteArray)(w:World)(hs:s.size≤60000):Calls prog 91 #[.string s] w (WJ s.data.toList w):=
 callsIn_wide.1 (iB 6 (Lib.hid (by omega)) s w hs)
end Go.Proofs.YtbglbmnhgbgelaaGreatDoor
namespace Go.Proofs.YtbglbmnhgbgelaaGreatDoor
open Go.RowKit
theorem iD{P:Program}{St:Nat→Nat→Prop}{w:World}(hst:∀b o,St b o→b<w.heap.size){T T' sz bytes:Nat}(hE:KJ P T=some (T',sz,bytes))(hby:bytes≤100000){rows new:List (List AV)}{A:Option Addr}{cap:Nat}{y:Value}
    (hs:At St w (.sl sz rows none) (.slice A rows.length cap)) (hy:At St w (.sl sz new none) y) (hsm:rows.length+new.length≤1000000) (rt:TypeId):
    ∃(v':Value) (w':World) (N:Nat→Nat→Prop),(Builtin.append_ #[T,T] rt #[.slice A rows.length rows.length,y]).run P w= .ok v' w'∧Below w.heap.size w w'∧(∀b o,N b o→w.heap.size≤b∧b<w'.heap.size)∧At (fun b o=>St b o∨N b o) w' (.sl sz (rows++new) none) v':=by
 obtain⟨hu,inf,z,hinf,hz,hzs,hsz,hbts,hp⟩:=FU hE;obtain⟨A',cap',vs,e1,e2,e3,e4,e5⟩:=L9 hy;obtain⟨A0,cap0,us,f1,f2,f3,f4,f5⟩:=L9 hs;injection f1 with f1a f1b f1c;subst f1a;by_cases h0:new=[]
 ·subst h0;refine⟨.slice A rows.length rows.length,w,fun _ _=>False,?_,Below.refl _ _,fun _ _ h=>h.elim,?_⟩
  ·rw[e1];rcases A' with _|ad<;>rcases A with _|ad0<;>simp[Builtin.append_,run_underlying hu,sizeOf,typeInfo,hinf,Builtin.lenOf,Builtin.firstCells,storeCells,loadCells,loadCellsFrom]
  rw[List.append_nil]
  have k:At St w (.sl sz rows none) (.slice A rows.length rows.length):=by
   simp only[At]at hs ⊢;obtain⟨_,B,c,h1,h2,h3,h4⟩:=hs;injection h1 with h1 _ _;subst h1;exact⟨trivial,_,_,rfl,BA _,Nat.le_trans h2 h3,h4⟩
  exact GZ (fun b o hb=>⟨.inl hb,rfl⟩) _ _ k
 obtain⟨b,off,q1,q2⟩:=e5 h0;subst q1;rw[e1];have hnl:0<new.length:=List.length_pos_iff.2 h0;have hnews:∀j u,vs[j]?=some u→w.cell? ((⟨b,off,none⟩:Addr).add j)=some u:=fun j u hj=>by rw[Addr.add_mid];exact q2 j u hj
 have hbt:(rows.length+new.length) * bytes≤140737488355328:=by
  have:(rows.length+new.length) * bytes≤1000000 * 100000:=Nat.mul_le_mul hsm hby;omega
 have key:∃v' w',(Builtin.append_ #[T,T] rt #[.slice A rows.length rows.length, .slice (some ⟨b,off,none⟩) new.length cap']).run P w= .ok v' w'∧w'.ownsRow w.heap.size T' sz v' (rows.length+new.length) (us++vs)∧w.grownBy w' none:=by
  by_cases hr0:rows=[]
  ·subst hr0;have hus:us=[]:=Dd (by simpa using f4.1);subst hus;rcases A with _|ad
   ·obtain⟨v',w',r1,r2,r3,r4,r5⟩:=run_append_own_at (P:=P) w w.heap.size T rt T' inf z sz bytes hu hinf hz hsz hbts hzs hp (.slice none 0 0) 0 [] (World.ownsRow_nil w _ _ _) ⟨b,off,none⟩ new.length cap' vs (by rw[e4.1]) hnews e4.2.2.1 (by simp at hsm;unfold maxLen;omega) (by simpa using hbt) (BA _);exact⟨v',w',by simpa using r1,by simpa using r2,by simpa[Value.ownBlock]using r3⟩
   obtain⟨v',w',r1,r2,r3⟩:=run_append_arg_grows (P:=P) w T rt T' inf z sz bytes hu hinf hz hsz hbts hzs hp ad 0 0 [] (by simp) (by simp) ⟨b,off,none⟩ new.length cap' vs (by rw[e4.1]) hnews (by omega) (by simp at hsm;unfold maxLen;omega) (by simpa using hbt);exact⟨v',w',by simpa using r1,by simpa using r2,r3⟩
  obtain⟨b0,off0,p1,p2⟩:=f5 hr0;subst p1;exact run_append_arg_grows (P:=P) w T rt T' inf z sz bytes hu hinf hz hsz hbts hzs hp ⟨b0,off0,none⟩ rows.length rows.length us (by rw[f4.1]) (fun j u hj=>by rw[Addr.add_mid];exact p2 j u hj) ⟨b,off,none⟩ new.length cap' vs (by rw[e4.1]) hnews (by omega) (by unfold maxLen;omega) hbt
 obtain⟨v',w',r1,r2,r3⟩:=key;have hbel:Below w.heap.size w w':=⟨r3.os,r3.tape,r3.output,r3.size,fun k hk=>r3.block k hk (by simp)⟩;have hlt:=World.ownsRow.lt r2;refine⟨v',w',fun b _=>v'.ownBlock=some b,r1,hbel,fun b o hb=>hlt b hb,?_⟩;have hflat:FlatR (fun b o=>St b o∨v'.ownBlock=some b) w' sz (rows++new) (us++vs):=(f4.append e4).mono fun b o hb=>⟨.inl hb,hbel.cell (p:=⟨b,o,none⟩) (hst b o hb)⟩;rcases r2.2 with⟨c1,c2⟩|⟨gb,cp,cur,c1,c2,c3,c4,c5,c6,c7⟩
 ·omega
 subst c1;simp only[At];refine⟨trivial,_,cp,by rw[List.length_append],by rw[List.length_append];exact c4,c5, .inr ⟨gb,0,rfl,hflat.froR fun j u hj=>⟨.inr rfl,?_⟩⟩⟩
 have hj2:j<(rows.length+new.length) * sz:=by
  have:=(As.1 hj).1
  rwa [r2.1]at this
 rw[Nat.zero_add];simp only[World.cell?,c3];rw[←c7,List.getElem?_take,if_pos hj2,Array.getElem?_toList]at hj
 simpa using hj
theorem WK{a:Act}{d n:Nat}(v:Value)(hn:a.tmps.size=n)(hd:d<n):(a.put (some d) v).eval (.tmp d)=v:=by
 show(a.put (some d) v).tmps.getD d undef=v;simp[Act.put,hn,hd]
theorem iE{a:Act}{d t:Nat}(v:Value)(h:d≠t):(a.put (some d) v).eval (.tmp t)=a.eval (.tmp t):=by
 show(a.put (some d) v).tmps.getD t undef=a.tmps.getD t undef;simp[Act.put,Array.getElem?_setIfInBounds_ne h]
theorem iF{P:Program}{N:Dim}{ops:Array Oper}{Q:Exit→AS→Prop}{rest:List Oper}{l:List (Nat×AV)}{hh:AH}{d1 d2 d3:Nat}{ty1 ty2 ty3:TypeId}{pos1 pos2 pos3:String}{af1 af2 af3:Array Edge}{T:TypeId}{x hi mx y:Operand}{T' sz bytes:Nat}{rows new:List (List AV)}{tok tok':Option Nat}[hE:Elm P T T' sz bytes]{i j:Int}
    (h1:Nat.blt d1 N.n=true) (h2:Nat.blt d2 N.n=true) (h3:Nat.blt d3 N.n=true) (hne:Nat.beq d2 d1=false)
    (hx:CE (look l) x=some (.sl sz rows tok)) (hhi:CE (look l) hi=some (.v (.int .i64 i))) (hmx:CE (look l) mx=some (.v (.int .i64 j))) (hi':i=(rows.length:Int)) (hj':j=(rows.length:Int)) (hy:CE (look ((d1, .sl sz rows none)::l)) y=some (.sl sz new tok')) (hsm:rows.length+new.length≤1000000)
    (h:AL P N ops Q rest ⟨look ((d3, .sl sz (rows++new) none)::(d2, .sl sz new tok')::(d1, .sl sz rows none)::l),hh⟩):
    AL P N ops Q (⟨some d1, .slice T x none (some hi) (some mx),ty1,pos1,af1,none⟩::⟨some d2, .move y,ty2,pos2,af2,none⟩::⟨some d3, .call {callee:= .builtin .append,args:=#[.tmp d1, .tmp d2],argTypes:=#[T,T]},ty3,pos3,af3,none⟩::rest) ⟨look l,hh⟩:=by
 obtain⟨hu,inf,z,hinf,hz,hzs,hsz,hbts,hp⟩:=FU hE.eq;intro E a w hr;obtain⟨G,g1,g2,g3,g4,g5⟩:=hr;have kx:=Fn _ _ (g2.ev hx);have ki:=g2.ev hhi;have kj:=g2.ev hmx;simp only[Cy]at kx;simp only[rep]at ki kj;subst hi' hj';obtain⟨A,cap,us,e1,e2,e3,e4,e5⟩:=L9 kx;rw[e1]at kx;refine wpList_plain rfl fun K hK=>?_
 have run1:(execOp a.eval ⟨some d1, .slice T x none (some hi) (some mx),ty1,pos1,af1,none⟩).run P w= .ok (.value (.slice A rows.length rows.length)) w:=by
  have hA:Option.map (fun x:Addr=>x.add 0) A=A:=by cases A with
   |none=>rfl
   |some ad=>cases ad;rfl
  have e0:(if rows.length=0 then A else Option.map (fun x:Addr=>x.add 0) A)=A:=by rw[hA];split<;>rfl
  simp[execOp,e1,ki,kj,Instr.sliceAt,Instr.slice,Instr.sliceBounds,Instr.sliceBound,asIntOf,run_underlying hu,sizeOf,typeInfo,hinf,hsz,e2,hA]
 refine Nj (E:=E) (w:=w) (R:=fun x' h'=>x'= .v (.slice A rows.length rows.length)∧h'=hh) (G:=G) ?_ ?_
 ·rw[run1];exact⟨_,_,G,⟨rfl,rfl⟩,g1,Ext.refl G w,by simp only[rep]⟩
 rintro v1 w1 ⟨x1,h1',G1,⟨rfl,rfl⟩,k1,k2,k3⟩;simp only[rep]at k3;subst k3;have kx1:At G1.St w1 (.sl sz rows none) (.slice A rows.length cap):=GZ k2.st _ _ kx
 have kn1:At G1.St w1 (.sl sz rows none) (.slice A rows.length rows.length):=by
  have:=kx1;simp only[At]at this ⊢;obtain⟨_,B,c,q1,q2,q3,q4⟩:=this;injection q1 with q1 _ _;subst q1;exact⟨trivial,_,_,rfl,BA _,Nat.le_trans q2 q3,q4⟩
 obtain⟨s1,s2,s3⟩:=g2.put (d:=some d1) (x:= .sl sz rows none) k2 g3 h1 (GD _ _ kn1);apply hK;refine wpList_plain rfl fun K2 hK2=>?_;have ky:=s1.ev hy;refine Nj (E:=E) (R:=fun x' h'=>x'= .sl sz new tok'∧h'=h1') (G:=G1) (w:=w1) (r:= .ok (.value ((a.put (some d1) (.slice A rows.length rows.length)).eval y)) w1) ⟨_,_,G1,⟨rfl,rfl⟩,k1,Ext.refl G1 w1,ky⟩ ?_;rintro v2 w2 ⟨x2,h2',G2,⟨rfl,rfl⟩,m1,m2,m3⟩;obtain⟨t1,t2,t3⟩:=s1.put (d:=some d2) (x:= .sl sz new tok') m2 s2 h2 m3;have kn2:At G2.St w2 (.sl sz rows none) (.slice A rows.length rows.length):=GZ m2.st _ _ kn1;have ky2:=Fn _ _ m3;simp only[Cy]at ky2;apply hK2;refine wpList_plain rfl fun K3 hK3=>?_;obtain⟨v',w',Nw,r1,r2,r3,r4⟩:=iD (P:=P) m1.stlt hE.eq hE.few kn2 ky2 hsm ty3;obtain⟨u1,u2⟩:=m1.grow r2 Nw r3;have hd12:d2≠d1:=fun e=>by rw[e,Nat.beq_refl]at hne;cases hne
 have q1:((a.put (some d1) (.slice A rows.length rows.length)).put (some d2) v2).eval (.tmp d1)= .slice A rows.length rows.length:=by
  rw[iE _ hd12];exact WK _ g3 (Be h1)
 have q2:((a.put (some d1) (.slice A rows.length rows.length)).put (some d2) v2).eval (.tmp d2)=v2:=WK _ s2 (Be h2);refine Nj (E:=E) (R:=fun x' h'=>x'= .sl sz (rows++new) none∧h'=h2') (G:=G2) (w:=w2) ?_ ?_
 ·simp only[execOp,resolve,invoke,builtin,Sem.run_bind,Sem.run_pure,Result.andThen_ok,List.map_toArray,List.map_cons,List.map_nil,q1,q2,r1];exact⟨_,_,_,⟨rfl,rfl⟩,u1,u2,GD _ _ r4⟩
 rintro v3 w3 ⟨x3,h3',G3,⟨rfl,rfl⟩,n1,n2,n3⟩;obtain⟨o1,o2,o3⟩:=t1.put (d:=some d3) (x:= .sl sz (rows++new) none) n2 t2 h3 n3;apply hK3;exact h E _ w3 ⟨G3,n1,o1,o2,o3.trans (t3.trans (s3.trans g4)),g5⟩
theorem WM(s:AD)(hs:s.size≤60000):AFn prog 91 [.v (.string s)] (fun r=>r= .tup [.sl 1 ((Cq s).map DF) none, .v (.bool (Cx s)), .v (.bool (BN s))]):=by
 intro w St bl vs hr hv;have hbl:bl=[]:=by have:=hr.bxlen;simpa using this
 subst hbl;simp only[Aa,rep]at hv;obtain⟨z,zs,rfl,rfl,rfl⟩:=hv;refine(iC s w hs).mono ?_;rintro e w' ⟨v,ss,rfl,hv,hp,hB,A,c,rfl,hc⟩;obtain rfl:=Rf (ps:=ss) hp;obtain⟨k1,k2⟩:=hr.grow hB (fun b _=>QV w w' b) (fun b _ hb=>hb);refine⟨_,_,_,_,⟨rfl,rfl,rfl⟩,k1,k2,?_⟩;simp only[rep,Aa];refine⟨_,rfl,_,_,rfl,?_,_,_,rfl,rfl,_,_,rfl,rfl,rfl⟩;obtain⟨A',c',h1,h2,h3,h4⟩:=hv;injection h1 with h1 _ h1c;subst h1 h1c;simp only[At];refine⟨trivial,A,c,by rw[List.length_map],by rw[List.length_map];exact h2,hc,?_⟩;by_cases h0:(Cq s).length=0
 ·exact .inl (by rw[Dd h0];rfl)
 obtain⟨b,off,rfl,hb,hcell⟩:=h4 (by omega);refine .inr ⟨b,off,rfl,MB fun i r hi=>?_⟩;rw[List.getElem?_map]at hi
 cases hy:(Cq s)[i]? with
 |none=>rw[hy]at hi;cases hi
 |some x=>
   rw[hy]at hi;injection hi with hi;subst hi;refine⟨rfl,L4 fun j av hj=>?_⟩
   match j,hj with
   |0,hj=>
     injection hj with hj;subst hj;exact⟨.inr hb, .string x,hcell i x 0 hy (by omega),rfl,by simp only[At]⟩
   |j+1,hj=>simp[DF]at hj
end Go.Proofs.YtbglbmnhgbgelaaGreatDoor
