/-
  Part 13 of the proof of FilterContextsP: what the statement's proof uses of the texts in wip/tpl.
-/
import Derived.Lib.OthersKept
import Derived.Lib.IndexLaws
import Derived.Shelf.Abstract
import Derived.Shelf.RegionOpen
import Derived.OwnWalkIn
import Derived.TacticsInMore
import Derived.LoopNIn
import Derived.LoopIn
import Derived.Maps.AppendAt
import Derived.OwnWalk
import Derived.StillTailTactics
import Derived.Test.YtbgnigjfkbmceaaGreatDoorQb12
open Go.Proofs.Tryz (prog)
set_option maxRecDepth 10000
set_option maxHeartbeats 4000000
set_option linter.unusedVariables false
set_option linter.unusedSimpArgs false
namespace Go.Proofs.YtbgnigjfkbmceaaGreatDoor
open Go.RowKit
theorem U8(s:ByteArray)(i:Nat)(h:i<s.size)(ha:128≤(s[i]'h).toNat):
    1≤(Utf8.decode s i).2∧i+(Utf8.decode s i).2≤s.size∧∀k,k<(Utf8.decode s i).2→128≤(s.get! (i+k)).toNat:=by
 have hn:¬(s[i]'h).toNat<128:=by omega
 have h0:s.get! (i+0)=s[i]'h:=get_at s i h;have g0:128≤(s.get! (i+0)).toNat:=by rw[h0];exact ha
 have c1:∀k,(decide (i+k<s.size)&&(s.get! (i+k)).toNat / 64==2)=true→i+k<s.size∧128≤(s.get! (i+k)).toNat:=by
  intro k hk;simp only[Bool.and_eq_true,decide_eq_true_iff,beq_iff_eq]at hk;exact⟨hk.1,by omega⟩
 have one:1≤1∧i+1≤s.size∧∀k,k<1→128≤(s.get! (i+k)).toNat:=by
  refine⟨B3 _,h,fun k hk=>?_⟩;obtain rfl:k=0:=by omega
  exact g0
 unfold Utf8.decode;simp only[h0,hn,if_false];split
 ·rename_i hc;rw[Bool.and_eq_true]at hc;obtain⟨a1,b1⟩:=c1 1 hc.2;split
  ·refine⟨by simp,a1,fun k hk=>?_⟩;have:k=0∨k=1:=by simp at hk;omega
   rcases this with rfl|rfl
   ·exact g0
   exact b1
  exact one
 split
 ·rename_i hc;rw[Bool.and_eq_true,Bool.and_eq_true]at hc;obtain⟨a1,b1⟩:=c1 1 hc.1.2;obtain⟨a2,b2⟩:=c1 2 hc.2;split
  ·refine⟨by simp,a2,fun k hk=>?_⟩;have:k=0∨k=1∨k=2:=by simp at hk;omega
   rcases this with rfl|rfl|rfl
   ·exact g0
   ·exact b1
   exact b2
  exact one
 split
 ·rename_i hc;rw[Bool.and_eq_true,Bool.and_eq_true,Bool.and_eq_true]at hc;obtain⟨a1,b1⟩:=c1 1 hc.1.1.2;obtain⟨a2,b2⟩:=c1 2 hc.1.2;obtain⟨a3,b3⟩:=c1 3 hc.2;split
  ·refine⟨by simp,a3,fun k hk=>?_⟩;have:k=0∨k=1∨k=2∨k=3:=by simp at hk;omega
   rcases this with rfl|rfl|rfl|rfl
   ·exact g0
   ·exact b1
   ·exact b2
   exact b3
  exact one
 exact one
theorem Zq(s:ByteArray)(j:Nat)(hj:j<s.size):s.data.toList[j]?=some (s.get! j):=by
 have:=get_at s j hj;rw[Nat.add_zero]at this;rw[this];exact Lib.data_getElem? s j hj
theorem Zr{s:ByteArray}{i:Nat}(h:i<s.size)(ha:128≤(s[i]'h).toNat)(hno:Lib.NoAny s.data.toList [0,47] i):Lib.NoAny s.data.toList [0,47] (i+(Utf8.decode s i).2):=by
 obtain⟨_,h2,h3⟩:=U8 s i h ha;intro j b hj hb;by_cases hlt:j<i
 ·exact hno j b hlt hb
 have:=h3 (j - i) (by omega);rw[show i+(j - i)=j by omega]at this;rw[Zq s j (by omega)]at hb;injection hb with hb;rw[hb]at this;have h0:b≠0:=by rintro rfl;simp at this
 have h47:b≠47:=by
  rintro rfl;have:(47:UInt8).toNat=47:=rfl;omega
 simp[h0,h47]
theorem Zs(r:Int)(w:World)(h0:128≤r)(h1:r≤2147483647):
    Calls prog 269 #[.string ⟨#[0,47]⟩, .int .i32 r] w fun e w'=>e= .returned (.int .i64 (-1))∧Below w.heap.size w w':=by
 by_cases h2:r=65533
 ·subst h2;exact Zp w
 cases hv:Lib.validRune r with
 |true=>exact Zn r w h0 h1 h2 hv
 |false=>exact(Zm r w h0 h1 h2 hv).mono fun e w' h=>⟨h.1,by rw[←h.2];exact Below.refl _ _⟩
def U9(s:ByteArray)(w:World)(e:Ending)(w':World):Prop:=∃v:Int,e= .returned (.int .i64 v)∧Below w.heap.size w w'∧((0≤v)↔((0:UInt8)∈s.data.toList∨(47:UInt8)∈s.data.toList))
theorem Zt{s:ByteArray}(h:Lib.NoAny s.data.toList [0,47] s.size):¬((0:UInt8)∈s.data.toList∨(47:UInt8)∈s.data.toList):=by
 rintro(h'|h')
 ·obtain⟨j,hj⟩:=List.mem_iff_getElem?.1 h';have:=h j 0 (by rw[Lib.size_eq];exact(Al.1 hj).1) hj;simp at this
 obtain⟨j,hj⟩:=List.mem_iff_getElem?.1 h';have:=h j 47 (by rw[Lib.size_eq];exact(Al.1 hj).1) hj;simp at this
theorem Zu{s:ByteArray}{i:Nat}{x:UInt8}(hx:s.data.toList[i]?=some x)(h:[0,47].contains x=true):((0:UInt8)∈s.data.toList∨(47:UInt8)∈s.data.toList):=by
 have hm:=B1 hx;simp at h;rcases h with rfl|rfl
 ·exact .inl hm
 exact .inr hm
set_option maxRecDepth 1000000 in
set_option maxHeartbeats 4000000 in
theorem Zv(s:ByteArray)(w:World)(h8:s.size≤8):Calls prog 245 #[.string s, .string ⟨#[0,47]⟩] w (U9 s w):=by
 have h8z:decide ((8:Int)<(s.size:Int))=false:=decide_eq_false (by omega)
 go_enter Tryz.func245,Tryz.ntmps245
 go_wp2_with (go_at_call 270;refine(Tryz.strings_shouldUseASCIISet _ _).mono ?_;rintro e w' ⟨rfl,hw⟩;rw[hw,h8z])
 clear hw
 go_loopg [9,10] s.size (fun g _ _ wx=>∃i:Nat,s.size≤i+g∧i≤s.size∧wx.heap[w.heap.size]?=some (.stringIter s i)∧Below w.heap.size w wx∧Hid (Lib.NoAny s.data.toList [0,47] i))
 case atStart=>exact⟨0,by omega,by omega,World.iter_heap w s 0,(Below.refl _ _).alloc (B3 _) _,Lib.hid (Lib.NoAny.zero _ _)⟩
 case round=>
  obtain⟨i,hg,hi,hit,hbel,hno⟩:=hrel;have hks:=hbel.size;by_cases hlt:i<s.size
  ·obtain⟨g,rfl⟩:∃g,gk=g+1:=⟨gk - 1,by omega⟩;by_cases hx:(s[i]'hlt).toNat<128
   ·have hnx:=fun ty=>Lib.run_next_ascii_at (P:=prog) wr w.heap.size s i ty hit hlt hx;have hxl:s.data.toList[i]?=some (s[i]'hlt):=Lib.data_getElem? s i hlt;generalize (s[i]'hlt)=x at *;have Hx:=Lib.hid hxl;have hit':=Lib.iterAt_heap wr w.heap.size s i (i+1) hit;have hbel':=Lib.below_iterAt hbel (B3 _) s (i+1);generalize wr.iterAt w.heap.size s (i+1)=w1 at *;have hcon:=Lib.contains_iff_indexByte [0,47] x;have hback:((x.toNat:Int)).toNat.toUInt8=x:=by simp
    have HI:=Lib.hid hit';clear hxl hit hit';cases hin:[0,47].contains x
    ·rw[hin]at hcon;have hneg:¬((0:Int)≤Lib.indexByte [0,47] x):=of_decide_eq_false hcon.symm;clear hcon
     go_wp2_with (go_at_call 269;refine(Tryz.strings_IndexRune_ascii _ _ _ (by omega) (by omega)).mono ?_;rintro e w' ⟨rfl,hw⟩;rw[hw,hback])
     go_roundg g
     case measure=>omega
     case rel=>exact⟨i+1,by omega,by omega,HI.out,hbel',Lib.hid (hno.out.succ Hx.out hin)⟩
    rw[hin]at hcon;have hpos:(0:Int)≤Lib.indexByte [0,47] x:=of_decide_eq_true hcon.symm;clear hcon
    go_wp2_with (go_at_call 269;refine(Tryz.strings_IndexRune_ascii _ _ _ (by omega) (by omega)).mono ?_;rintro e w' ⟨rfl,hw⟩;rw[hw,hback])
    go_ret
    exact⟨_,rfl,hbel',⟨fun _=>Zu Hx.out hin,fun _=>by omega⟩⟩
   have hx':128≤(s[i]'hlt).toNat:=by omega
   obtain⟨p1,p2,_⟩:=U8 s i hlt hx';have HN:=Lib.hid (Zr hlt hx' hno.out);have q1:=(decode_high s i hlt hx').1;have q2:=decode_le s i;have hnx:=fun ty=>Lib.run_next_any_at (P:=prog) wr w.heap.size s i ty hit hlt;generalize Utf8.decode s i=d at *;obtain⟨d1,d2⟩:=d;simp only at *;have hit':=Lib.iterAt_heap wr w.heap.size s i (i+d2) hit;have hbel':=Lib.below_iterAt hbel (B3 _) s (i+d2);have hsz:=Lib.iterAt_size wr w.heap.size s (i+d2);generalize wr.iterAt w.heap.size s (i+d2)=w1 at *;have hk1:w.heap.size<w1.heap.size:=(Array.getElem?_eq_some_iff.1 hit').1;have HI:=Lib.hid hit';clear hit hit' hsz
   go_wp2_with fail
   refine(Zs _ _ (by omega) (by omega)).mono ?_;rintro e w2 ⟨rfl,hb2⟩
   go_wp2
   go_roundg g
   case measure=>omega
   case rel=>exact⟨i+d2,by omega,by omega,(hb2.block _ hk1).trans HI.out,hbel'.trans (hb2.mono (by omega)),HN⟩
  obtain rfl:i=s.size:=by omega
  have hnx:=fun ty=>Lib.run_next_end_at (P:=prog) wr w.heap.size s s.size ty hit hlt
  go_wp2
  go_ret
  exact⟨_,rfl,hbel,⟨fun h=>absurd h (by decide),fun h=>absurd h (Zt hno.out)⟩⟩
theorem Zw(s:ByteArray):(0≤Lib.indexAny s.data.toList [0,47])↔((0:UInt8)∈s.data.toList∨(47:UInt8)∈s.data.toList):=by
 generalize s.data.toList=l
 induction l with
 |nil=>simp[Lib.indexAny]
 |cons b l ih=>
   have hge:=Lib.indexAny_ge [0,47] l;unfold Lib.indexAny;by_cases hb:[0,47].contains b=true
   ·rw[if_pos hb];simp only[List.contains_cons,List.contains_nil,Bool.or_false,Bool.or_eq_true,beq_iff_eq]at hb;rcases hb with rfl|rfl<;>simp
   rw[if_neg hb];have h0:(0:UInt8)≠b:=by rintro rfl;simp at hb
   have h47:(47:UInt8)≠b:=by rintro rfl;simp at hb
   simp only[List.mem_cons,h0,h47,false_or];rw[←ih];split
   ·rename_i h;have:Lib.indexAny l [0,47]= -1:=by simpa using h
    rw[this]
   rename_i h;have:Lib.indexAny l [0,47]≠ -1:=by simpa using h
   constructor<;>intro h'<;>omega
theorem Zx(s:ByteArray)(w:World)(hs:s.size≤1000000):Calls prog 245 #[.string s, .string ⟨#[0,47]⟩] w (U9 s w):=by
 by_cases h8:s.size≤8
 ·exact Zv s w h8
 refine(Tryz.strings_IndexAny_long (fun w=>by kernel_rfl) s ⟨#[0,47]⟩ w (by decide) (by omega) (by omega) (by decide) ?_).mono ?_
 ·intro j b hj;have:b∈[0,47]:=B1 hj;simp at this;rcases this with rfl|rfl<;>decide
 rintro e w' ⟨rfl,rfl⟩;exact⟨_,rfl,GO _ _ _,Zw s⟩
def QE(s:ByteArray):Bool:=decide ((0:UInt8)∈s.data.toList∨(47:UInt8)∈s.data.toList)
theorem Zy(s:ByteArray)(w:World)(hs:s.size≤1000000):
    Calls prog 186 #[.string s, .string ⟨#[0,47]⟩] w fun e w'=>e= .returned (.bool (QE s))∧Below w.heap.size w w':=by
 go_enter Tryz.func186,Tryz.ntmps186
 go_wp2_with fail
 refine(Zx s w hs).mono ?_;rintro e w' ⟨v,rfl,hb,hv⟩;have HV:=Lib.hid hv;clear hv
 go_wp2
 go_ret
 exact⟨JU (decide_eq_decide.2 HV.out),hb⟩
theorem UA(s:ByteArray):(s.toList==[46])=decide (s.data.toList=[46]):=by rw[Fm,Bool.eq_iff_iff];simp
theorem UB(s:ByteArray):(s.toList==[46,46])=decide (s.data.toList=[46,46]):=by rw[Fm,Bool.eq_iff_iff];simp
set_option maxHeartbeats 1000000 in
theorem UC(s:ByteArray)(w:World):
    Calls prog 131 #[.string s] w fun e w'=>e= .returned (.bool (Dg s.data.toList))∧Below w.heap.size w w':=by
 have hsz:=Lib.size_eq s;by_cases h0:s.size=0
 ·have he:s.toList.isEmpty=true:=by rw[U6];simp[h0]
  have he':s.toList=[]:=List.isEmpty_iff.1 he
  have HF:Hid (Dg s.data.toList=false):=Lib.hid (by
   rw[←Fm,he'];rfl)
  clear hsz
  go_enter Tryz.func131,Tryz.ntmps131
  go_wp2
  go_ret
  exact⟨JU HF.out.symm,Below.refl _ _⟩
 have he:s.toList.isEmpty=false:=by rw[U6];simp[h0]
 have hne:s.data.toList≠[]:=by intro e;rw[e]at hsz;exact h0 hsz
 by_cases h12:s.size≤12
 ·have hle:decide ((s.size:Int)≤12)=true:=decide_eq_true (by omega);by_cases h1:s.data.toList=[46]
  ·have e1:(s.toList==[46])=true:=by rw[UA];simp[h1]
   have e1':(s.toList != [46])=false:=by simp[bne,e1]
   have HF:Hid (Dg s.data.toList=false):=Lib.hid (by rw[h1];rfl);clear hsz hne h1
   go_enter Tryz.func131,Tryz.ntmps131
   go_wp2
   go_ret
   exact⟨JU HF.out.symm,Below.refl _ _⟩
  have e1:(s.toList==[46])=false:=by rw[UA];simp[h1]
  have e1':(s.toList != [46])=true:=by simp[bne,e1]
  by_cases h2:s.data.toList=[46,46]
  ·have e2:(s.toList==[46,46])=true:=by rw[UB];simp[h2]
   have e2':(s.toList != [46,46])=false:=by simp[bne,e2]
   have HF:Hid (Dg s.data.toList=false):=Lib.hid (by rw[h2];rfl);clear hsz hne h1 h2
   go_enter Tryz.func131,Tryz.ntmps131
   go_wp2
   go_ret
   exact⟨JU HF.out.symm,Below.refl _ _⟩
  have e2:(s.toList==[46,46])=false:=by rw[UB];simp[h2]
  have e2':(s.toList != [46,46])=true:=by simp[bne,e2]
  have HF:Hid (Dg s.data.toList= !QE s):=Lib.hid (by
   unfold QE;rw[Bool.eq_iff_iff,LE];simp only[Bool.not_eq_true',decide_eq_false_iff_not,not_or]
   exact⟨fun h=>h.2.2.2.2,fun h=>⟨hne,by omega,h1,h2,h⟩⟩)
  clear hsz hne h1 h2
  go_enter Tryz.func131,Tryz.ntmps131
  go_wp2_with fail
  refine(Zy s _ (by omega)).mono ?_;rintro e w' ⟨rfl,hb⟩
  go_wp2
  go_ret
  exact⟨JU HF.out.symm,hb⟩
 have hle:decide ((s.size:Int)≤12)=false:=decide_eq_false (by omega);have HF:Hid (Dg s.data.toList=false):=Lib.hid (decide_eq_false (fun h=>by have:=h.2.1;omega));clear hsz hne
 go_enter Tryz.func131,Tryz.ntmps131
 go_wp2
 go_ret
 exact⟨JU HF.out.symm,Below.refl _ _⟩
theorem Zz(s:AM):AFn prog 131 [.v (.string s)] (fun r=>r= .v (.bool (D4 s))):=by
 rw[N2];exact MZ (us:=[.string s]) fun w=>UC s w
end Go.Proofs.YtbgnigjfkbmceaaGreatDoor
namespace Go.Proofs.YtbgnigjfkbmceaaGreatDoor
section
variable {s:Spc}(hv:SpcV s)
include hv
def GW(s:Spc)(a:AG):Prop:=(Bh s a).2=true∧∀i,0<i→FL s (BH s (BQ s.files) a) i=true
theorem NW{a:AG}(h:Ax s.files a=true)(hm:CB s a.1=true):(Bh s a).2=true:=by rw[NK hv h hm]
omit hv in
theorem UD(a:AG)(L:List AG)(i:Nat):FL s (a::L) (i+2)=FL s L (i+1):=by
 unfold FL;have h1:(a::L)[i+2]?=L[i+1]?:=List.getElem?_cons_succ;have h2:(a::L)[i+2 - 1]?=L[i+1 - 1]?:=List.getElem?_cons_succ;rw[h1,h2];simp
omit hv in
theorem UE(a b:AG)(L:List AG):FL s (a::b::L) 1=true↔∀dev,C5 s b=some dev→a=(dev,1):=by
 unfold FL;simp only[List.getElem?_cons_succ,List.getElem?_cons_zero,Nat.sub_self]
 cases C5 s b with
 |none=>simp
 |some dev=>simp
omit hv in
theorem UF{L:List AG}{i:Nat}(h:L.length≤i):FL s L i=true:=by
 unfold FL;rw[List.getElem?_eq_none h]
theorem UG(a:AG):NG s a=true↔GW s a∧C5 s a=none:=by
 rw[ZG hv,Bool.and_eq_true,List.all_eq_true];constructor
 ·rintro⟨h1,h2⟩;obtain⟨t,ht⟩:=NF hv (Q4 h1).1;refine⟨⟨h1,fun i hi=>?_⟩,?_⟩
  ·by_cases hl:i<(BH s (BQ s.files) a).length
   ·exact h2 i (List.mem_range.2 hl)
   exact UF (by omega)
  have h3:=h2 0 (List.mem_range.2 (by rw[ht];simp));rw[ht]at h3;unfold FL at h3;simp only[List.getElem?_cons_zero]at h3
  cases hc:C5 s a with
  |none=>rfl
  |some dev=>rw[hc]at h3;simp at h3
 rintro⟨⟨h1,h2⟩,hc⟩;refine⟨h1,fun i _=>?_⟩;obtain⟨t,ht⟩:=NF hv (Q4 h1).1;by_cases h0:i=0
 ·subst h0;rw[ht];unfold FL;simp only[List.getElem?_cons_zero,hc]
 exact h2 i (by omega)
theorem aA{a b:AG}(h:Ax s.files a=true)(hm:CB s a.1=true)(hs:CQ s a=some b):GW s a↔GW s b∧∀dev,C5 s b=some dev→a=(dev,1):=by
 have hb:=Lf hv h hs;have hbm:=Py hv hm hs;obtain⟨t,ht⟩:=NF hv hb;have hc:BH s (BQ s.files) a=a::BH s (BQ s.files) b:=by rw[J2 hv h,hs]
 unfold GW;rw[hc];constructor
 ·rintro⟨_,h2⟩;refine⟨⟨NW hv hb hbm,fun i hi=>?_⟩,?_⟩
  ·obtain⟨j,rfl⟩:∃j,i=j+1:=⟨i - 1,by omega⟩;rw[←UD a];exact h2 _ (by omega)
  have h3:=h2 1 (by omega);rw[ht]at h3;exact(UE a b t).1 h3
 rintro⟨⟨_,h2⟩,h3⟩;refine⟨NW hv h hm,fun i hi=>?_⟩;by_cases h1:i=1
 ·subst h1;rw[ht];exact(UE a b t).2 h3
 obtain⟨j,rfl⟩:∃j,i=j+2:=⟨i - 2,by omega⟩;rw[UD];exact h2 _ (by omega)
theorem aB(h:Ax s.files (0,1)=true):GW s (0,1):=by
 have hs:CQ s (0,1)=none:=by unfold CQ;rw[if_neg (by simp)];exact Pz hv
 refine⟨NW hv h (by unfold CB;simp),fun i hi=>?_⟩;rw[J2 hv h,hs];exact UF (by simp;omega)
theorem aC{a:AG}{dev:Int}(hc:C5 s a=some dev):CQ s (dev,1)=some a∧Ax s.files (dev,1)=true∧CB s dev=true∧dev≠0∧Ax s.files a=true:=by
 obtain⟨i,hi⟩:=NL hc;have hm:=hv.mnt i _ hi;have h1:=hm.dev1;have h2:=hm.dev2;simp only at h1 h2
 have hs:CQ s (dev,1)=some a:=by
  unfold CQ;rw[if_neg (by simp)];exact Tj hv hi
 exact⟨hs,Ty hv (by omega) h2,NH (s:=s) (m:=(dev,a)) (B1 hi),by omega,hm.dir⟩
theorem aD{a:AG}(h:GW s a):GW s (Ft s a):=by
 unfold Ft
 cases hc:C5 s a with
 |none=>exact h
 |some dev=>
   obtain⟨h1,h2,h3,_⟩:=aC hv hc;refine(aA hv (a:=(dev,1)) h2 h3 h1).2 ⟨h,fun d hd=>?_⟩;rw[hc]at hd;injection hd with hd;rw[hd]
theorem UH:∀(n:Nat) (a:AG),GW s a→GW s (Cd s n a)
 |0,_,h=>h
 |n+1,a,h=>by rw[Cd];exact UH n _ (aD hv h)
theorem aF{a:AG}(h:GW s a):NG s (Cd s s.mounts.length a)=true:=(UG hv _).2 ⟨UH hv _ a h,Th hv _ a fun i m _ _=>by omega⟩
omit hv in
theorem aG{d:Dvc}(hd:VD d){a b m:Nod}(ha:a∈d.nodes)(hb:b∈d.nodes)(hm:m∈d.nodes)(h1:m.ino≠1)(hk:m.kind=2)(hea:∃e∈a.entries,e.2=m.ino)(heb:∃e∈b.entries,e.2=m.ino):a=b:=by
 have hc:=hd.one m hm h1 hk;obtain⟨A,B,hAB,_,_⟩:=Sx hd.asc ha;rw[hAB,PV,K5]at hc;have h2:=Sw.2 hea;rw[hAB]at hb;rcases List.mem_append.1 hb with hb|hb
 ·have:=LO.2 ⟨b,hb,heb⟩;omega
 rcases List.mem_cons.1 hb with hb|hb
 ·exact hb.symm
 have:=LO.2 ⟨b,hb,heb⟩;omega
theorem UJ{a b:AG}{p:AM}(hl:AU s.files a p=(b,0)):Ax s.files a=true∧D4 p=true∧b.1=a.1∧b.2≠1∧Ck s.files b=true∧(Ax s.files b=true→CQ s b=some a):=by
 unfold AU at hl
 cases hn:Bp s.files a with
 |none=>rw[hn]at hl;simp at hl
 |some n=>
   rw[hn]at hl;simp only at hl;by_cases hk:n.kind=2
   ·rw[if_pos hk]at hl;have hdir:Ax s.files a=true:=(Jc hn).2 hk
    cases hf:n.entries.find? fun e:BM=>decide (e.1=p)with
    |none=>rw[hf]at hl;simp at hl
    |some e=>
      rw[hf]at hl;simp only[Prod.mk.injEq,and_true]at hl;subst hl;have he:=List.mem_of_find?_eq_some hf;have hep:=List.find?_some hf;simp only[decide_eq_true_eq]at hep;obtain⟨q,d,n',e1,e2,e3,e4,e5,e6⟩:=Hz (f:=s.files) (a:=a) (by rw[hdir];simp)
      have hn':n'=n:=by
       have:Au s.files a=n:=by unfold Au;rw[hn];rfl
       rw[←this];exact e5.symm
      subst hn';have hd:=hv.files.vd d (B1 e2);obtain⟨h1,h2,m,hm,hme⟩:=hd.ent n' e3 e he;have hnb:Bp s.files (a.1,e.2)=some m:=by rw[e1];exact Px hv e2 hm hme
      refine⟨hdir,by rw[←hep];exact h1,rfl,h2,by unfold Ck;rw[hnb];rfl,fun hdb=>?_⟩;have hmk:m.kind=2:=(Jc hnb).1 hdb;have hm1:m.ino≠1:=by rw[hme];exact h2
      obtain⟨p',hp',hpi,hpe⟩:=hd.par m hm hm1 hmk;have:=aG hd e3 hp' hm hm1 hmk ⟨e,he,hme.symm⟩ hpe;subst this;unfold CQ;rw[if_pos h2];unfold Au;rw[hnb];simp only[Option.getD_some];rw[←hpi,e4]
   rw[if_neg hk]at hl;simp at hl
end
end Go.Proofs.YtbgnigjfkbmceaaGreatDoor
namespace Go.Proofs.YtbgnigjfkbmceaaGreatDoor
theorem aH{p:AM}(h:D4 p=true):p≠NT∧p≠Li∧p.size≤12∧p≠⟨#[]⟩∧(47:UInt8)∉p.data.toList:=by
 rw[N2]at h;obtain⟨h1,h2,h3,h4,h5,h6⟩:=LE.1 h;refine⟨?_,?_,by rw[Lib.size_eq];exact h2,?_,h6⟩<;>(intro e;subst e;first|exact h3 rfl|exact h4 rfl|exact h1 rfl)
theorem aJ{p:AM}(h:p.data.toList=[]):p=⟨#[]⟩:=Lh h
theorem aK{l:Bs}(h1:l≠[])(h2:l.head?≠some 47):Br l≠[]:=by
 intro h;have h3:Co (C0 l)=47::l:=PN l
 cases hs:C0 l with
 |nil=>exact Mx l hs
 |cons p ps=>
   rw[hs,Fg]at h3;injection h3 with _ h3
   have h4:p=[]:=by
    unfold Br at h;rw[hs,List.filter_cons]at h;split at h
    ·cases h
    rename_i hne
    simpa[ne_]using hne
   rw[h4,List.nil_append]at h3
   cases ps with
   |nil=>exact h1 h3.symm
   |cons q ps=>
     rw[Fg]at h3;rw[←h3]at h2;simp at h2
theorem aL{p:AM}(h1:p≠⟨#[]⟩)(h2:Cq p=false):CZ p≠[]:=by
 intro h;unfold CZ at h;rw[List.map_eq_nil_iff]at h;refine aK (fun e=>h1 (aJ e)) ?_ h;unfold Cq at h2
 simpa using h2
end Go.Proofs.YtbgnigjfkbmceaaGreatDoor
namespace Go.Proofs.YtbgnigjfkbmceaaGreatDoor
abbrev zz:AM:=⟨#[122,122]⟩
end Go.Proofs.YtbgnigjfkbmceaaGreatDoor
namespace Go.Proofs.YtbgnigjfkbmceaaGreatDoor
structure Wk where
 ps:List AM
 at_:AG
 dir:AG
 name:AM
 missing:Bool
 links:Nat
def Dj(s:Spc)(fl:Bool)(p:AM)(ps:List AM)(w:Wk):Int ⊕ Wk:=
 if Ax s.files w.at_=false then .inl 20
 else if 12<p.size then .inl 36
 else if p=Li then .inr ⟨ps,Cd s s.mounts.length (DM s (s.mounts.length+1) w.at_),(0,0),⟨#[]⟩,w.missing,w.links⟩
 else if p=NT then .inr ⟨ps,w.at_,(0,0),⟨#[]⟩,w.missing,w.links⟩
 else if D4 p=false then .inl 2
 else if(AU s.files w.at_ p).2≠0 then(if ps≠[]then .inl 2 else .inr ⟨ps,w.at_,w.at_,p,true,w.links⟩)
 else if(Au s.files (AU s.files w.at_ p).1).kind=3∧(ps≠[]∨fl=true)then
  (if w.links=8 then .inl 40 else
    .inr ⟨CZ (Au s.files (AU s.files w.at_ p).1).target++ps,if Cq (Au s.files (AU s.files w.at_ p).1).target=true then Dd s else w.at_,if Cq (Au s.files (AU s.files w.at_ p).1).target=true then(0,0)else w.dir,if Cq (Au s.files (AU s.files w.at_ p).1).target=true then⟨#[]⟩else w.name,w.missing,w.links+1⟩)
 else .inr ⟨ps,Cd s s.mounts.length (AU s.files w.at_ p).1,w.at_,p,w.missing,w.links⟩
def FO(s:Spc)(sl:Bool)(w:Wk):Fnd:=
 if w.name=⟨#[]⟩then⟨w.at_,⟨#[]⟩,w.at_, !w.missing,sl,(Bh s w.at_).1⟩
 else⟨w.dir,w.name,if w.missing=true then(0,0)else w.at_, !w.missing,sl,if(Bh s w.dir).2=true then Cp (Bh s w.dir).1 w.name else⟨#[]⟩⟩
structure Sim(w:Wk)(σ:Lk):Prop where
 ps:w.ps=σ.ps
 links:w.links=σ.links
 ex:σ.ex= !w.missing
 here:w.missing=false→w.at_=σ.file
 gone:w.missing=true→σ.file=(0,0)∧w.ps=[]∧w.dir=σ.dir∧w.name=σ.name∧w.name≠⟨#[]⟩
 last:w.ps=[]→w.missing=false→(w.name=⟨#[]⟩→σ.name=⟨#[]⟩∧σ.dir=σ.file)∧(w.name≠⟨#[]⟩→w.dir=σ.dir∧w.name=σ.name)
section
variable {s:Spc}(hv:SpcV s)
include hv
theorem aM{a:AG}{p:AM}(h:D4 p=false):(AU s.files a p).2≠0:=by
 intro e;have:=(UJ hv (a:=a) (p:=p) (b:=(AU s.files a p).1) (Prod.ext rfl e)).2.1;rw[this]at h;cases h
theorem aO{a b:AG}{p:AM}(hl:AU s.files a p=(b,0))(hk:(Au s.files b).kind=3):(Au s.files b).target≠⟨#[]⟩:=by
 have hb:=(UJ hv hl).2.2.2.2.1;obtain⟨q,i,d,m,h1,h2,h3,h4,h5,h6⟩:=Lb hb;rw[h6]at hk ⊢;have hp:=(hv.files.vd d (B1 h2)).plain m (B1 h3);unfold EF at hp;split at hp
 ·cases hp
 try rw[if_pos hk]at hp
 unfold JQ at hp;intro e;rw[e]at hp;revert hp;decide+kernel
theorem aQ(fl:Bool){p:AM}{ps:List AM}{w:Wk}{σ:Lk}(h:Sim w σ)(hm:w.missing=false):(∃e,Dj s fl p ps w= .inl e∧Cg s fl p ps σ.file σ.links= .inl e)∨∃w' τ,Dj s fl p ps w= .inr w'∧Cg s fl p ps σ.file σ.links= .inr τ∧Sim w' τ:=by
 have ha:=h.here hm;have hex:(true:Bool)= !w.missing:=by rw[hm];rfl
 rw[←ha,←h.links];unfold Dj Cg;by_cases c1:Ax s.files w.at_=false
 ·simp only[if_pos c1];exact .inl ⟨_,rfl,rfl⟩
 simp only[if_neg c1];by_cases c2:12<p.size
 ·simp only[if_pos c2];exact .inl ⟨_,rfl,rfl⟩
 simp only[if_neg c2];by_cases c3:p=NT
 ·have c4:¬p=Li:=by rw[c3];decide
  simp only[if_pos c3,if_neg c4];exact .inr ⟨_,_,rfl,rfl,rfl,rfl,hex,fun _=>rfl,fun c=>(by rw[hm]at c;cases c),fun _ _=>⟨fun _=>⟨rfl,rfl⟩,fun c=>absurd rfl c⟩⟩
 simp only[if_neg c3];by_cases c4:p=Li
 ·simp only[if_pos c4];exact .inr ⟨_,_,rfl,rfl,rfl,rfl,hex,fun _=>rfl,fun c=>(by rw[hm]at c;cases c),fun _ _=>⟨fun _=>⟨rfl,rfl⟩,fun c=>absurd rfl c⟩⟩
 simp only[if_neg c4];by_cases c5:D4 p=false
 ·have c6:=aM hv (a:=w.at_) c5;simp only[if_pos c5,if_pos c6,if_pos (show ps≠[]∨D4 p=false from .inr c5)];exact .inl ⟨_,rfl,rfl⟩
 simp only[if_neg c5];have hp0:p≠⟨#[]⟩:=(aH (by simpa using c5)).2.2.2.1;by_cases c6:(AU s.files w.at_ p).2≠0
 ·simp only[if_pos c6];by_cases c7:ps≠[]
  ·simp only[if_pos c7,if_pos (show ps≠[]∨D4 p=false from .inl c7)];exact .inl ⟨_,rfl,rfl⟩
  simp only[if_neg c7,if_neg (show¬(ps≠[]∨D4 p=false) from fun c=>c.elim c7 c5)];have c8:ps=[]:=Decidable.not_not.1 c7;exact .inr ⟨_,_,rfl,rfl,c8,rfl,rfl,fun c=>(by cases c),fun _=>⟨rfl,c8,rfl,rfl,hp0⟩,fun _ c=>by cases c⟩
 simp only[if_neg c6];by_cases c7:(Au s.files (AU s.files w.at_ p).1).kind=3∧(ps≠[]∨fl=true)
 ·simp only[if_pos c7];by_cases c8:w.links=8
  ·simp only[if_pos c8];exact .inl ⟨_,rfl,rfl⟩
  simp only[if_neg c8];have ht:=aO hv (a:=w.at_) (p:=p) (b:=(AU s.files w.at_ p).1) (Prod.ext rfl (Decidable.not_not.1 c6)) c7.1;refine .inr ⟨_,_,rfl,rfl,rfl,rfl,hex,fun _=>rfl,fun c=>(by rw[hm]at c;cases c),fun hps _=>?_⟩;by_cases c9:Cq (Au s.files (AU s.files w.at_ p).1).target=true
  ·simp only[if_pos c9];exact⟨fun _=>⟨trivial,trivial⟩,fun c=>absurd rfl c⟩
  have:=aL ht (by simpa using c9);exact absurd (List.append_eq_nil_iff.1 hps).1 this
 simp only[if_neg c7];exact .inr ⟨_,_,rfl,rfl,rfl,rfl,hex,fun _=>rfl,fun c=>(by rw[hm]at c;cases c),fun _ _=>⟨fun c=>absurd c hp0,fun _=>⟨rfl,rfl⟩⟩⟩
theorem aR{sl:Bool}{w:Wk}{σ:Lk}(h:Sim w σ)(hps:w.ps=[]):FO s sl w=G4 s sl σ:=by
 unfold FO G4
 cases hm:w.missing with
 |true=>
   obtain⟨g1,_,g2,g3,g4⟩:=h.gone hm;rw[if_neg g4,h.ex,hm,g1,←g2,←g3];simp only[if_true,g4,if_false]
 |false=>
   have ha:=h.here hm;obtain⟨k1,k2⟩:=h.last hps hm;by_cases c:w.name=⟨#[]⟩
   ·obtain⟨e1,e2⟩:=k1 c;rw[if_pos c,h.ex,hm,e1,e2,←ha];simp only[if_true];by_cases cw:(Bh s w.at_).2=true
    ·rw[if_pos cw]
    rw[if_neg cw];have:Bh s w.at_=(⟨#[]⟩,false):=KN hv fun c=>cw (NW hv c.1 c.2);rw[this]
   obtain⟨e1,e2⟩:=k2 c;rw[if_neg c,h.ex,hm,←e1,←e2,←ha];simp only[c,if_false,Bool.false_eq_true]
end
end Go.Proofs.YtbgnigjfkbmceaaGreatDoor
namespace Go.Proofs.YtbgnigjfkbmceaaGreatDoor
open Go.RowKit Go.Shelf
attribute [local go_sem] Oper.semAt_some
theorem aS(s:ByteArray)(w:World):
    Calls prog 239 #[.string s, .string ⟨#[47]⟩] w fun e w'=>
     e= .returned (.func (.func 274) #[] #[.pointer (some ⟨w.heap.size+1,0,none⟩), .pointer (some ⟨w.heap.size,0,none⟩), .pointer (some ⟨w.heap.size+1+1,0,none⟩)])∧
     w'=((w.alloc (.cells #[.string s] 9)).alloc (.cells #[.string ⟨#[47]⟩] 9)).alloc (.cells #[.int .i64 0] 3):=by
 go_enter Tryz.func239,Tryz.ntmps239
 go_wp2
 go_ret
 exact⟨rfl,rfl⟩
def NX(w:World)(b:Nat):Nat:=match w.cell? ⟨b,0,none⟩with
 |some (.string r)=>r.size
 |_=>0
theorem KP{w:World}{b:Nat}{t:TypeId}{r:ByteArray}(h:Boxed w b t (.string r)):NX w b=r.size:=by simp[NX,h.cell]
def Keep3(a b c:Nat)(X Y:World):Prop:=Y.heap[a]?=X.heap[a]?∧Y.heap[b]?=X.heap[b]?∧Y.heap[c]?=X.heap[c]?
theorem Keep3.trans{a b c:Nat}{X Y Z:World}(h:Keep3 a b c X Y)(k:Keep3 a b c Y Z):Keep3 a b c X Z:=⟨k.1.trans h.1,k.2.1.trans h.2.1,k.2.2.trans h.2.2⟩
theorem aT{a b c N:Nat}(ha:a<N)(hb:b<N)(hc:c<N)(W:World)(l:Nat)(o':Obj)(hl:N≤l):Keep3 a b c W (W.putObj l o'):=
 ⟨World.putObj_heap_other (by omega),World.putObj_heap_other (by omega),World.putObj_heap_other (by omega)⟩
theorem aU{a b c:Nat}{X Y:World}(h:Below X.heap.size X Y)(ha:a<X.heap.size)(hb:b<X.heap.size)(hc:c<X.heap.size):Keep3 a b c X Y:=⟨h.block _ ha,h.block _ hb,h.block _ hc⟩
theorem QF(s:ByteArray)(i:Nat)(h:i<s.size):(s.extract (i+1) s.size).size<s.size:=by
 rw[ByteArray.size_extract];omega
theorem aV{s:ByteArray}{i:Nat}(hi:Lib.indexByte s.data.toList 47=i):i<s.size∧C0 s.data.toList=(s.extract 0 i).data.toList::C0 (s.extract (i+1) s.size).data.toList:=by
 have hm:(47:UInt8)∈s.data.toList:=by
  apply Classical.byContradiction;intro h;rw[U7 h]at hi;omega
 obtain⟨j,hj,hlt,hl,hn⟩:=QD hm;obtain rfl:j=i:=by omega
 refine⟨by rw[Lib.size_eq];exact hlt,?_⟩;rw[Lib.extract_data,Lib.extract_to_end];simp only[List.drop_zero,Nat.sub_zero]
 conv=>lhs;rw[hl]
 exact SZ hn _
theorem aW{s:ByteArray}(hi:Lib.indexByte s.data.toList 47<0):C0 s.data.toList=[s.data.toList]:=by
 refine My fun h=>?_;obtain⟨i,hi',_⟩:=QD h;omega
def D2(xs:List AM):List Bs:=xs.map fun x=>x.data.toList
set_option maxRecDepth 100000 in
set_option maxHeartbeats 1000000 in
theorem aY(n:Nat)(s:ByteArray)(hs:s.size≤1000000)(b0 b1 b2:Nat)(w:World)(h0:Boxed w b0 9 (.string s))(h1:Boxed w b1 9 (.string ⟨#[47]⟩))(h2:Boxed w b2 3 (.int .i64 0))(h01:b0≠b1)(h02:b0≠b2):
    SeqW Fence.wide n prog 274 #[.pointer (some ⟨b1,0,none⟩), .pointer (some ⟨b0,0,none⟩), .pointer (some ⟨b2,0,none⟩)] (fun x:AM=>#[.string x]) (fun b=>b=b0) (Keep3 b0 b1 b2) (fun xs=>D2 xs<+:C0 s.data.toList)
     (fun xs=>D2 xs=C0 s.data.toList) (fun pre=>D2 pre<+:C0 s.data.toList) w:=fun l J Jx W hW hJ hJx hY hst=>by
 have k0:Boxed W b0 9 (.string s):=BS h0 hW h0.lt;have k1:Boxed W b1 9 (.string ⟨#[47]⟩):=BS h1 hW h1.lt;have k2:Boxed W b2 3 (.int .i64 0):=BS h2 hW h2.lt;refine callsIn_of_wp Tryz.func274 rfl trivial ?_ rfl;simp only[Tryz.ntmps274,List.size_toArray,List.length_cons,List.length_nil,Nat.reduceAdd,Nat.reduceSub,Array.replicate_succ,Array.replicate_zero,List.push_toArray,List.append_toArray,List.nil_append,List.cons_append];have c1:=k1.cell
 gi_wp2
 gi_loopw [7] (fun _ wr=>∃(pre:List AM) (r:ByteArray),Boxed wr b0 9 (.string r)∧Boxed wr b1 9 (.string ⟨#[47]⟩)∧Boxed wr b2 3 (.int .i64 0)∧J pre wr∧Hid (D2 pre++C0 r.data.toList=C0 s.data.toList)∧r.size≤s.size) (fun _ wr=>NX wr b0)
 case atStart=>exact⟨[],s,k0,k1,k2,hst,rfl,B3 _⟩
 case round=>
  obtain⟨pre,r,m0,m1,m2,hj,hpre,hle⟩:=hrel;clear k0 k1 k2 c1 hst;have c0:=m0.cell;have c1:=m1.cell;have c2:=m2.cell;have f0:=m0.frozen
  gi_wp2_with fail
  refine Da ((callsIn_wide.2 (Zk _ _)).mono ?_);rintro e w' ⟨rfl,rfl⟩;have hge:=Lib.indexByte_ge r.data.toList 47;by_cases hneg:Lib.indexByte r.data.toList 47<0
  ·have HS:=Lib.hid (aW hneg);obtain⟨fn,tmps,assign,body,hy,hR⟩:=hY pre r wr hj (by rw[←hpre.out,HS.out];simp[D2])
   gi_wp2
   refine⟨(fun h=>by cases h),hR.mono ?_⟩;rintro e W3 (⟨rfl,hJ3,hk3⟩|⟨rfl,hJx3⟩)
   ·gi_wp2
    go_end0
    exact⟨⟨_,rfl⟩, .inl ⟨pre++[r],by rw[←hpre.out,HS.out];simp[D2],hJ3⟩⟩
   gi_wp2
   go_end0
   exact⟨⟨_,rfl⟩, .inr ⟨pre++[r],by rw[←hpre.out,HS.out];simp[D2],hJx3⟩⟩
  obtain⟨i,hi⟩:=Int.eq_ofNat_of_zero_le (show 0≤Lib.indexByte r.data.toList 47 by omega);obtain⟨hlt,hseg⟩:=aV hi;have HS:=Lib.hid hseg;clear hseg hge hneg;rw[hi];clear hi;obtain⟨fn,tmps,assign,body,hy,hR⟩:=hY pre (r.extract 0 i) wr hj (by rw[←hpre.out,HS.out];simp[D2])
  gi_wp2
  refine⟨(fun h=>by cases h),hR.mono ?_⟩;rintro e W3 (⟨rfl,hJ3,hk3⟩|⟨rfl,hJx3⟩)
  ·have q0:Boxed W3 b0 9 (.string r):=hk3.1.trans m0;have q1:Boxed W3 b1 9 (.string ⟨#[47]⟩):=hk3.2.1.trans m1;have q2:Boxed W3 b2 3 (.int .i64 0):=hk3.2.2.trans m2;clear c0 c1 c2 f0 hy hR;have c0:=q0.cell;have c1:=q1.cell;have c2:=q2.cell;have f0:=q0.frozen
   gi_wp2
   go_roundw
   case rel=>exact⟨pre++[r.extract 0 i],r.extract (i+1) r.size,q0.set _,q1.other (Ne.symm h01) _,q2.other (Ne.symm h02) _,hJ _ _ _ hJ3 (Moves.set_ (own:=fun b=>b=b0) _ rfl _),Lib.hid (by rw[←hpre.out,HS.out];simp[D2]),Nat.le_trans (Nat.le_of_lt (QF r i hlt)) hle⟩
   case measure=>rw[KP (q0.set _),KP m0];exact QF r i hlt
  gi_wp2
  refine bodyPost_ret (results_none rfl _ _ _) rfl ?_;exact⟨⟨_,rfl⟩, .inr ⟨pre++[r.extract 0 i],by rw[←hpre.out,HS.out];simp[D2],hJx3⟩⟩
end Go.Proofs.YtbgnigjfkbmceaaGreatDoor
namespace Go.Proofs.YtbgnigjfkbmceaaGreatDoor
open Go.RowKit Go.Shelf
attribute [local go_sem] Oper.semAt_some
theorem Lj(l:Bs):Lib.hasPrefix l [47]=decide (l.head?=some 47):=by
 unfold Lib.hasPrefix
 cases l with
 |nil=>simp
 |cons c t=>
   rw[Bool.eq_iff_iff,List.isPrefixOf_iff_prefix];simp[List.cons_prefix_cons,eq_comm]
theorem aZ{l:Bs}(h:l.head?=some 47):Lib.trimPrefix l [47]=l.tail:=by
 unfold Lib.trimPrefix;rw[Lj,if_pos (by simp[h])];simp
set_option maxRecDepth 100000 in
set_option maxHeartbeats 1000000 in
theorem UK(s:ByteArray)(w:World)(h:s.data.toList=[47]∨s.data.toList.head?≠some 47):
    Calls prog 183 #[.string s] w fun e w'=>e= .returned (.bool (DJ s.data.toList))∧Below w.heap.size w w':=by
 by_cases h1:s.data.toList=[47]
 ·obtain rfl:s=⟨#[47]⟩:=U5 h1
  go_enter Tryz.func183,Tryz.ntmps183
  go_wp2
  exact bodyPost_ret (v:= .bool true) (by simp[results,Tryz.results183,go_sem]) rfl ⟨rfl,(Below.refl _ _).alloc (B3 _) _⟩
 have h2:s.data.toList.head?≠some 47:=h.resolve_left h1;have e1:(s.toList==[47])=false:=by rw[Fm,beq_eq_false_iff_ne];exact h1
 have HP:=Lib.hid (Lj s.data.toList);have HF:Hid (DJ s.data.toList=false):=Lib.hid (by unfold DJ;simp[h1,h2]);have HD:Hid (decide (s.data.toList.head?=some 47)=false):=Lib.hid (decide_eq_false h2);clear h h1 h2
 go_enter Tryz.func183,Tryz.ntmps183
 go_wp2_with fail
 refine(Tryz.strings_CutPrefix _ _ _).mono ?_;rintro e w' ⟨rfl,rfl⟩;rw[HP.out,HD.out]
 go_wp2
 exact bodyPost_ret (v:= .bool false) (by simp[results,Tryz.results183,go_sem]) rfl ⟨by rw[HF.out],(Below.refl _ _).alloc (B3 _) _⟩
set_option maxRecDepth 100000 in
set_option maxHeartbeats 1000000 in
theorem b6(n:Nat)(hn:Hid (1≤n))(s:ByteArray)(w:World)(hs:s.size≤1000000)(h1:s.data.toList≠[47])(h2:s.data.toList.head?=some 47):
    CallsIn Fence.wide n prog 183 #[.string s] w fun e w'=>e= .returned (.bool (DJ s.data.toList))∧Below w.heap.size w w':=by
 have e1:(s.toList==[47])=false:=by rw[Fm,beq_eq_false_iff_ne];exact h1
 have HP:=Lib.hid (Lj s.data.toList);have HT:=Lib.hid (aZ h2);have HF:Hid (DJ s.data.toList=(C0 s.data.toList.tail).all Dg):=Lib.hid (by unfold DJ;simp[h1,h2]);have HD:Hid (decide (s.data.toList.head?=some 47)=true):=Lib.hid (decide_eq_true h2);clear h1 h2;refine callsIn_of_wp_marks Tryz.func183 rfl trivial ?_ rfl;simp only[Tryz.ntmps183,List.size_toArray,List.length_cons,List.length_nil,Nat.reduceAdd,Nat.reduceSub,Array.replicate_succ,Array.replicate_zero,List.push_toArray,List.append_toArray,List.nil_append,List.cons_append]
 gi_wp2_with fail
 refine Da ((callsIn_wide.2 (Tryz.strings_CutPrefix _ _ _)).mono ?_);rintro e w' ⟨rfl,rfl⟩;obtain⟨r,hr⟩:∃r:ByteArray,r=⟨(Lib.trimPrefix s.data.toList [47]).toArray⟩:=⟨_,rfl⟩;have hrl:r.data.toList=s.data.toList.tail:=by rw[hr,←HT.out]
 have HR:=Lib.hid hrl;have hrs:r.size≤1000000:=by rw[Lib.size_eq,hrl,List.length_tail,←Lib.size_eq];omega
 rw[HP.out,HD.out];rw[show(⟨(Lib.trimPrefix s.data.toList (ByteArray.mk #[47]).data.toList).toArray⟩:ByteArray)=r from hr.symm];clear hrl hr
 gi_wp2_with fail
 refine Da ((callsIn_wide.2 (aS _ _)).mono ?_);rintro e w' ⟨rfl,rfl⟩
 gi_wp2_with fail
 have hR:Boxed (w.alloc (.cells #[.bool false] 4)) w.heap.size 4 (.bool false):=Boxed.new _ _ _;obtain⟨W0,hW0⟩:∃W0,w.alloc (.cells #[.bool false] 4)=W0:=⟨_,rfl⟩;have hz0:W0.heap.size=w.heap.size+1:=by rw[←hW0];simp
 have hB0:Below w.heap.size w W0:=by rw[←hW0];exact Es _ _
 rw[hW0]at hR ⊢;obtain⟨WL,hWL⟩:∃WL,((W0.alloc (.cells #[.string r] 9)).alloc (.cells #[.string ⟨#[47]⟩] 9)).alloc (.cells #[.int .i64 0] 3)=WL:=⟨_,rfl⟩;have hzL:WL.heap.size=w.heap.size+1+1+1+1:=by rw[←hWL];simp[hz0]
 have hBL:Below W0.heap.size W0 WL:=by rw[←hWL];exact L5 _ _ _ _
 have k0:Boxed WL (w.heap.size+1) 9 (.string r):=by rw[←hWL,←hz0];exact L6 _ _ _ _
 have k1:Boxed WL (w.heap.size+1+1) 9 (.string ⟨#[47]⟩):=by rw[←hWL,←hz0];exact L7 _ _ _ _
 have k2:Boxed WL (w.heap.size+1+1+1) 3 (.int .i64 0):=by rw[←hWL,←hz0];exact L8 _ _ _ _
 have kR:Boxed WL w.heap.size 4 (.bool false):=BS hR hBL hR.lt;have hBw:Below w.heap.size w WL:=hB0.trans (hBL.mono (by omega));rw[hWL];have HB0:=Lib.hid hz0;have HBL:=Lib.hid hzL;clear hW0 hWL hz0 hR hB0 hBL hzL
 refine Se rfl hn.out (gf:=274) rfl trivial (enters_of Tryz.func274 (by kernel_rfl) rfl)
  (aY (n - 1) r hrs (w.heap.size+1) (w.heap.size+1+1) (w.heap.size+1+1+1) WL k0 k1 k2 (by omega) (by omega))
  (fun b hb=>by have:=HBL.out;omega) Keep3.trans (fun W l o o' hl _ _=>by have:=HBL.out;exact aT (N:=WL.heap.size) (by omega) (by omega) (by omega) W l o' hl) (Below.refl _ _) (fun _=>rfl)
  (fun pre W=>Boxed W w.heap.size 4 (.bool false)∧(∀p∈D2 pre,Dg p=true)∧Below w.heap.size w W)
  (fun c pre W=>c= .ret∧Boxed W w.heap.size 4 (.bool false)∧(∃p∈D2 pre,Dg p=false)∧Below w.heap.size w W)
  (fun s X Y h hm=>⟨hm.boxed h.1 (by omega),h.2.1,hm.under h.2.2 (B3 _) (fun b hb=>by omega) (by have:=HBL.out;omega)⟩)
  (fun c s X Y h hm=>⟨h.1,hm.boxed h.2.1 (by omega),h.2.2.1,hm.under h.2.2.2 (B3 _) (fun b hb=>by omega) (by have:=HBL.out;omega)⟩)
  ⟨kR,by simp[D2],hBw⟩
  (fun x=>{tmps:=#[.string s,undef, .pointer (some ⟨w.heap.size,0,none⟩), .string r, .bool true, .string x, .string s, .bool false, .tuple #[.string r, .bool true], .string s, .tuple #[.string r, .bool true], .string r, .bool true, .bool true, .bool false, .string r,
    .func (.func 274) #[] #[.pointer (some ⟨w.heap.size+1+1,0,none⟩), .pointer (some ⟨w.heap.size+1,0,none⟩), .pointer (some ⟨w.heap.size+1+1+1,0,none⟩)], .string x,undef,undef,undef],defers:=[]}) ?assign ?body ?done ?stop
 case assign=>
  intro l x W K hK
  gi_wp2
  exact hK
 case body=>
  rintro l pre x W ⟨hc,hnm,hbw⟩ _ hsz;have hcell:=hc.cell;have hfz:=hc.frozen;have HN:=Lib.hid hnm;have HZ:=Lib.hid hsz;clear hnm hsz
  gi_wp2_with fail
  refine Da ((CallsIn.inRound l (callsIn_wide.2 (UC x W))).mono ?_);rintro e W' ⟨rfl,hb'⟩;have hc':Boxed W' w.heap.size 4 (.bool false):=BS hc hb' hc.lt;have hbw':Below w.heap.size w W':=hbw.trans (hb'.mono hbw.size);clear hcell hfz;have hcell:=hc'.cell;have hfz:=hc'.frozen;have HX:Hid (D2 (pre++[x])=D2 pre++[x.data.toList]):=Lib.hid (by simp[D2])
  cases hnx:Dg x.data.toList with
  |true=>
    gi_wp2
    have h1:=HBL.out;have h2:=HZ.out;exact⟨JZ hb',aU hb' (by omega) (by omega) (by omega),hc',by rw[HX.out];intro p hp;rcases List.mem_append.1 hp with hp|hp;exact HN.out p hp;simp at hp;rw[hp];exact hnx,hbw'⟩
  |false=>
    gi_wp2
    have h1:=HBL.out;exact⟨LH (JZ hb') (by omega) _,rfl,hc'.set _,⟨x.data.toList,by rw[HX.out];simp,hnx⟩,hbw'.setCell (B3 _) _⟩
 case done=>
  rintro D xs W hD hS ⟨hc,hnm,hbw⟩ hK;have HS:=Lib.hid hS;have HN:=Lib.hid hnm;clear hS hnm;have hcell:=hc.cell;have hfz:=hc.frozen
  gi_wp2
  refine⟨by simp, .inl ⟨_,_,rfl,run_takeDeferred ((KeepsOthers.setCell _ _ _).same D _ hK rfl),?_⟩⟩;have h1:=HBL.out;have hcb:=(Gw (hc.set (.bool true)) (show w.heap.size≠D by omega) (.deferred none)).cell;refine⟨.bool true,by simp[results,Tryz.f183,go_sem,hcb],by rw[HF.out,←HR.out,←HS.out,List.all_eq_true.2 HN.out],Ja (hbw.setCell (p:=⟨w.heap.size,0,none⟩) (B3 _) _) (by omega) _⟩
 case stop=>
  rintro D c pre W hD hSp ⟨rfl,hc,hnm,hbw⟩ hK;have HS:=Lib.hid hSp;have HN:=Lib.hid hnm;clear hSp hnm;have hcell:=hc.cell
  gi_wp2
  refine⟨by simp, .inl ⟨_,_,rfl,run_takeDeferred hK,?_⟩⟩;have h1:=HBL.out;have hcb:=(Gw hc (show w.heap.size≠D by omega) (.deferred none)).cell;refine⟨.bool false,by simp[results,Tryz.f183,go_sem,hcb],?_,Ja hbw (by omega) _⟩;obtain⟨p,hp,hpf⟩:=HN.out;rw[HF.out,←HR.out,List.all_eq_false.2 ⟨p,HS.out.subset hp,by simp[hpf]⟩]
theorem b7(s:ByteArray)(w:World)(hs:s.size≤1000000):
    Calls prog 183 #[.string s] w fun e w'=>e= .returned (.bool (DJ s.data.toList))∧Below w.heap.size w w':=by
 by_cases h1:s.data.toList=[47]
 ·exact UK s w (.inl h1)
 by_cases h2:s.data.toList.head?=some 47
 ·exact callsIn_wide.1 (b6 6 (Lib.hid (by omega)) s w hs h1 h2)
 exact UK s w (.inr h2)
end Go.Proofs.YtbgnigjfkbmceaaGreatDoor
namespace Go.Proofs.YtbgnigjfkbmceaaGreatDoor
open Go.RowKit
def flat{α:Type}(sz:Nat)(cell:α→Nat→Value)(xs:List α):List Value:=xs.flatMap fun x=>(List.range sz).map (cell x)
section
variable {α:Type}{sz:Nat}{cell:α→Nat→Value}
theorem flat_get(xs:List α):∀(i j:Nat) (x:α),xs[i]?=some x→j<sz→(flat sz cell xs)[i * sz+j]?=some (cell x j):=by
 induction xs with
 |nil=>intro i j x h;simp at h
 |cons y ys ih=>
   intro i j x h hj;have e:flat sz cell (y::ys)=(List.range sz).map (cell y)++flat sz cell ys:=by simp[flat]
   rw[e]
   cases i with
   |zero=>
     simp at h;subst h;rw[CT (by simpa using hj)];simp[hj]
   |succ i=>
     rw[DC (by simp[Nat.add_mul];omega)];simp only[List.getElem?_cons_succ]at h;have:=ih i j x h hj;rw[←this]
     congr 1
     simp[Nat.add_mul];omega
def OwnL(sz:Nat)(cell:α→Nat→Value)(E:TypeId)(w:World)(base:Nat)(v:Value)(xs:List α):Prop:=
 w.ownsRow base E sz v xs.length (flat sz cell xs)
theorem OwnL.list{E:TypeId}{w:World}{base:Nat}{v:Value}{xs:List α}(h:OwnL sz cell E w base v xs)(hf:xs.length≤few){D:Nat→Prop}(hD:∀b,base≤b→b<w.heap.size→D b):ListR sz cell w D v xs:=by
 rcases h.2 with⟨rfl,hn⟩|⟨g,cap,cur,rfl,hb,hg,hnc,_,hcs,htake⟩
 ·obtain rfl:xs=[]:=Ct hn;exact ListR.nil_
 refine⟨_,_,rfl,hnc,hf,fun _=>⟨g,0,rfl,hD g hb (Array.getElem?_eq_some_iff.1 hg).1,fun i x j hi hj=>?_⟩⟩
 have hlt:i * sz+j<xs.length * sz:=by
  have h1:=(Al.1 hi).1;have h2:(i+1) * sz≤xs.length * sz:=Nat.mul_le_mul_right sz h1;rw[Nat.add_mul]at h2;omega
 rw[Nat.zero_add,cell_of_row w g _ cur E (0,0) hg,←flat_get xs i j x hi hj,←htake,List.getElem?_take,if_pos hlt];simp
end
theorem b8(l:Bs):Lib.hasSuffix l [47]=decide (l.getLast?=some 47):=by
 unfold Lib.hasSuffix;rw[Bool.eq_iff_iff,List.isSuffixOf_iff_suffix,decide_eq_true_iff];rcases List.eq_nil_or_concat l with rfl|⟨a,x,rfl⟩
 ·simp
 simp only[List.concat_eq_append,List.getLast?_concat,Option.some.injEq];constructor
 ·rintro⟨t,ht⟩;have:=congrArg List.getLast? ht
  simpa[eq_comm]using this
 rintro rfl;exact⟨a,rfl⟩
theorem UL(l:Bs):(Br l).length≤l.length+1:=by
 have h1:(Br l).length≤(C0 l).length:=List.length_filter_le _ _
 have h2:(C0 l).length≤l.length+1:=by
  clear h1
  induction l with
  |nil=>simp[C0]
  |cons c t ih=>
    rw[PL];split
    ·simp;omega
    split
    ·simp
    rename_i h;rw[h]at ih;simp at ih ⊢;omega
 omega
theorem bA(xs:List AM):flat 1 L0 xs=xs.map Value.string:=by
 induction xs with
 |nil=>rfl
 |cons x xs ih=>
   unfold flat at ih ⊢;rw[List.flatMap_cons,ih];rfl
theorem Tryz.infoStr:(prog.info? 9).map (fun i=>(i.zero,i.size,i.bytes))=some (some (.string ⟨#[]⟩),1,16):=by kernel_rfl
set_option maxHeartbeats 400000 in
theorem bB(s:ByteArray)(w:World)(i:Nat)(hi:Lib.indexByte s.data.toList 47=i)(hlt:i<s.size)(hmax:s.size≤1000000):
    Calls prog 278 #[.string s, .string ⟨#[47]⟩] w fun e w'=>e= .returned (.tuple #[.string (s.extract 0 i), .string (s.extract (i+1) s.size), .bool true])∧∃n,w'=w.drewN n:=by
 have HI:=Lib.hid hi;clear hi
 have h1:Calls prog 290 #[.string s, .string ⟨#[47]⟩] w fun e w'=>e= .returned (.tuple #[.string (s.extract 0 i), .string (s.extract (i+1) s.size), .bool true])∧∃n,w'=w.drewN n:=by
  go_enter Tryz.func290,Tryz.ntmps290
  go_wp2_with fail
  refine(QC _ _).mono ?_;rintro e w' ⟨rfl,rfl⟩;rw[HI.out]
  go_wp2_with fail
  go_quiet (fail)
  go_wp2
  go_ret3
  exact⟨rfl,_,rfl⟩
 go_enter Tryz.func278,Tryz.ntmps278
 go_wp2_with fail
 refine h1.mono ?_;rintro e w' ⟨rfl,n,rfl⟩
 go_wp2
 go_ret3
 exact⟨rfl,_,rfl⟩
set_option maxHeartbeats 400000 in
theorem bC(s:ByteArray)(w:World)(hi:Lib.indexByte s.data.toList 47= -1):
    Calls prog 278 #[.string s, .string ⟨#[47]⟩] w fun e w'=>e= .returned (.tuple #[.string s, .string ⟨#[]⟩, .bool false])∧w=w':=by
 have HI:=Lib.hid hi;clear hi
 have h1:Calls prog 290 #[.string s, .string ⟨#[47]⟩] w fun e w'=>e= .returned (.tuple #[.string s, .string ⟨#[]⟩, .bool false])∧w=w':=by
  go_enter Tryz.func290,Tryz.ntmps290
  go_wp2_with fail
  refine(QC _ _).mono ?_;rintro e w' ⟨rfl,rfl⟩;rw[HI.out]
  go_wp2
  go_ret3
  exact⟨rfl,rfl⟩
 go_enter Tryz.func278,Tryz.ntmps278
 go_wp2_with fail
 refine h1.mono ?_;rintro e w' ⟨rfl,rfl⟩
 go_wp2
 go_ret3
 exact⟨rfl,rfl⟩
end Go.Proofs.YtbgnigjfkbmceaaGreatDoor
namespace Go.Proofs.YtbgnigjfkbmceaaGreatDoor
open Go.RowKit Go.Shelf
attribute [local go_sem] Oper.semAt_some
def bD(s:AM)(w:World)(e:Ending)(w':World):Prop:=∃(p q:AM) (b:Bool) (n:Nat),e= .returned (.tuple #[.string p, .string q, .bool b])∧w'=w.drewN n∧Br s.data.toList=one_ p.data.toList++Br q.data.toList∧(0<s.size→q.size<s.size)
theorem bF(s:ByteArray)(w:World)(hmax:s.size≤1000000):Calls prog 278 #[.string s, .string ⟨#[47]⟩] w (bD s w):=by
 by_cases h:(47:UInt8)∈s.data.toList
 ·obtain⟨i,hi,hlt,hl,hn⟩:=QD h;have hlt':i<s.size:=by rw[Lib.size_eq];exact hlt
  refine(bB s w i hi hlt' hmax).mono ?_;rintro e w' ⟨rfl,n,rfl⟩;refine⟨_,_,_,n,rfl,rfl,?_,fun _=>QF s i hlt'⟩;rw[Lib.extract_data,Lib.extract_to_end];simp only[List.drop_zero,Nat.sub_zero]
  conv=>lhs;rw[hl]
  exact XS hn _
 refine(bC s w (U7 h)).mono ?_;rintro e w' ⟨rfl,rfl⟩;refine⟨_,_,_,0,rfl,rfl,?_,fun h=>h⟩;rw[Mz h];simp[Hu]
theorem bG(s:ByteArray)(w:World):
    Calls prog 261 #[.string s] w fun e w'=>
     e= .returned (.func (.func 277) #[] #[.pointer (some ⟨w.heap.size,0,none⟩)])∧w'=w.alloc (.cells #[.string s] 9):=by
 go_enter Tryz.func261,Tryz.ntmps261
 go_wp2
 go_ret
 exact⟨rfl,rfl⟩
theorem NY(s:ByteArray):s.toList.isEmpty=decide (s.size=0):=by
 rw[Fm,Lib.size_eq,Bool.eq_iff_iff,List.isEmpty_iff,decide_eq_true_iff,List.length_eq_zero_iff]
def bH(a:Nat)(X Y:World):Prop:=Y.heap[a]?=X.heap[a]?
set_option maxRecDepth 100000 in
set_option maxHeartbeats 1000000 in
theorem bJ(n:Nat)(s:ByteArray)(hs:s.size≤1000000)(b0:Nat)(w:World)(h0:Boxed w b0 9 (.string s)):
    SeqW Fence.wide n prog 277 #[.pointer (some ⟨b0,0,none⟩)] (fun x:AM=>#[.string x]) (fun b=>b=b0) (bH b0) (fun xs=>D2 xs<+:Br s.data.toList)
     (fun xs=>D2 xs=Br s.data.toList) (fun pre=>D2 pre<+:Br s.data.toList) w:=fun l J Jx W hW hJ hJx hY hst=>by
 have k0:Boxed W b0 9 (.string s):=BS h0 hW h0.lt;refine callsIn_of_wp Tryz.func277 rfl trivial ?_ rfl;simp only[Tryz.ntmps277,List.size_toArray,List.length_cons,List.length_nil,Nat.reduceAdd,Nat.reduceSub,Array.replicate_succ,Array.replicate_zero,List.push_toArray,List.append_toArray,List.nil_append,List.cons_append]
 gi_wp2
 gi_loopw [3] (fun _ wr=>∃(pre:List AM) (r:ByteArray),Boxed wr b0 9 (.string r)∧J pre wr∧Hid (D2 pre++Br r.data.toList=Br s.data.toList)∧r.size≤s.size) (fun _ wr=>NX wr b0)
 case atStart=>exact⟨[],s,k0,hst,rfl,B3 _⟩
 case round=>
  obtain⟨pre,r,m0,hj,hpre,hle⟩:=hrel;clear k0 hst;have c0:=m0.cell;have f0:=m0.frozen;by_cases hr:r.size=0
  ·have he:r.toList.isEmpty=true:=by rw[NY];simp[hr]
   have he':r.toList=[]:=List.isEmpty_iff.1 he;have HP:Hid (Br r.data.toList=[]):=by rw[←Fm,he'];exact Lib.hid Hu
   gi_wp2
   go_end0
   exact⟨⟨_,rfl⟩, .inl ⟨pre,by rw[←hpre.out,HP.out];simp,hj⟩⟩
  have he:r.toList.isEmpty=false:=by rw[NY];simp[hr]
  gi_wp2_with fail
  refine Da ((callsIn_wide.2 (bF _ _ (by omega))).mono ?_);rintro e w' ⟨p,q,b,nd,rfl,rfl,hpq,hq⟩;have hql:=hq (by omega);have HP:=Lib.hid hpq;clear hpq hq;have hj':J pre ((wr.drewN nd).setCell ⟨b0,0,none⟩ (.string q)):=hJ _ _ _ (hJ _ _ _ hj (Moves.below (Mr (Below.refl _ _) nd))) (Moves.set_ (own:=fun b=>b=b0) _ rfl _);have m0':Boxed ((wr.drewN nd).setCell ⟨b0,0,none⟩ (.string q)) b0 9 (.string q):=Boxed.set _ (show Boxed (wr.drewN nd) b0 9 (.string r) from m0);by_cases hp:p.size=0
  ·have hpe:p.toList.isEmpty=true:=by rw[NY];simp[hp]
   have hpe':p.toList=[]:=List.isEmpty_iff.1 hpe;have HO:Hid (one_ p.data.toList=[]):=by rw[←Fm,hpe'];exact Lib.hid rfl
   gi_wp2
   refine⟨fun _ h=>(by cases h),?_⟩
   gi_wp2
   go_roundw
   case rel=>exact⟨pre,q,m0',hj',Lib.hid (by rw[←hpre.out,HP.out,HO.out];simp),by omega⟩
   case measure=>rw[KP m0',KP m0];exact hql
  have HO:Hid (one_ p.data.toList=[p.data.toList]):=Lib.hid (if_neg (fun e=>hp (by rw[Lib.size_eq,e];rfl)));have hpe:p.toList.isEmpty=false:=by rw[NY];simp[hp]
  obtain⟨fn,tmps,assign,body,hy,hR⟩:=hY pre p _ hj' (by rw[←hpre.out,HP.out,HO.out];simp[D2])
  gi_wp2
  refine⟨(fun h=>by cases h),hR.mono ?_⟩;rintro e W3 (⟨rfl,hJ3,hk3⟩|⟨rfl,hJx3⟩)
  ·have q0:Boxed W3 b0 9 (.string q):=hk3.trans m0';clear c0 f0 hy hR
   gi_wp2
   go_roundw
   case rel=>exact⟨pre++[p],q,q0,hJ3,Lib.hid (by rw[←hpre.out,HP.out,HO.out];simp[D2]),by omega⟩
   case measure=>rw[KP q0,KP m0];exact hql
  gi_wp2
  refine bodyPost_ret (results_none rfl _ _ _) rfl ?_;exact⟨⟨_,rfl⟩, .inr ⟨pre++[p],by rw[←hpre.out,HP.out,HO.out];simp[D2],hJx3⟩⟩
end Go.Proofs.YtbgnigjfkbmceaaGreatDoor
namespace Go.Proofs.YtbgnigjfkbmceaaGreatDoor
open Go.RowKit Go.Shelf
attribute [local go_sem] Oper.semAt_some
theorem Moves.row{own:Nat→Prop}{B:Nat}{X Y:World}(h:Moves own B X Y){base e size k:Nat}{v:Value}{xs:List Value}(hr:X.ownsRow base e size v k xs)(ho:∀b,own b→b<base):Y.ownsRow base e size v k xs:=by
 refine⟨hr.1,?_⟩;rcases hr.2 with h'|⟨g,cap,cur,hv,hg,hb,r⟩
 ·exact .inl h'
 refine .inr ⟨g,cap,cur,hv,hg,?_,r⟩;exact(h.block g (Array.getElem?_eq_some_iff.1 hb).1 (fun e=>by have:=ho g e;omega) (.inr ⟨_,hb,rfl⟩)).trans hb
theorem bK{W w1:World}{base B:Nat}{t e:TypeId}{size:Nat}{v v':Value}{k m:Nat}{xs ys:List Value}{tmp:Obj}
    (hv:Boxed W B t v) (hrow:W.ownsRow base e size v k xs) (hbase:base≤W.heap.size) (hB:B<base)
    (hown':w1.ownsRow base e size v' m ys) (hgrow:(W.alloc tmp).grownBy w1 v.ownBlock):
    Boxed w1 B t v∧Boxed (w1.setCell ⟨B,0,none⟩ v') B t v'∧(w1.setCell ⟨B,0,none⟩ v').ownsRow base e size v' m ys∧KeepsOthers W (w1.setCell ⟨B,0,none⟩ v')∧
     Below B W (w1.setCell ⟨B,0,none⟩ v')∧∀j,j<base→j≠B→(w1.setCell ⟨B,0,none⟩ v').heap[j]?=W.heap[j]?:=by
 have hne:∀j,j<base→some j≠v.ownBlock:=by
  intro j hj e;have:=World.ownsRow.lt hrow j e.symm;omega
 have hblk:∀j,j<base→w1.heap[j]?=W.heap[j]?:=fun j hj=>(hgrow.block j (by simp;omega) (hne j hj)).trans (Below.heap_alloc W tmp j (by omega));have hv1:Boxed w1 B t v:=(hblk B hB).trans hv;refine⟨hv1,hv1.set v',ownsRow_setCell_below hown' hB v',?_,?_,fun j hj hj'=>(Below.heap_setCell w1 ⟨B,0,none⟩ v' j hj').trans (hblk j hj)⟩
 ·refine((KeepsOthers.alloc W tmp).trans (KeepsOthers.of_grownBy hgrow fun j o ej hj=>?_)).trans (KeepsOthers.setCell _ _ _);rcases(hrow.alloc tmp).2 with⟨rfl,_⟩|⟨g,cap,cur,rfl,_,hgb,_⟩
  ·simp[Value.ownBlock]at ej
  obtain rfl:g=j:=by simpa[Value.ownBlock]using ej
  rw[hgb]at hj;cases hj;rfl
 have hs:=hgrow.size;simp at hs;exact⟨hgrow.os,hgrow.tape,hgrow.output,by simp[World.setCell];omega,fun j hj=>(Below.heap_setCell w1 ⟨B,0,none⟩ v' j (by show j≠B;omega)).trans (hblk j (by omega))⟩
def UM(l:Bs)(w:World)(e:Ending)(w':World):Prop:=∃(v:Value) (ss:List AM),e= .returned (.tuple #[v, .bool (decide (l.head?=some 47)), .bool (decide (l.getLast?=some 47))])∧SG w' (Oy w w') v ss∧D2 ss=Br l∧Below w.heap.size w w'∧∃A c,v= .slice A ss.length c∧c≤maxLen
set_option maxRecDepth 100000 in
set_option maxHeartbeats 2000000 in
theorem bL(n:Nat)(hn:Hid (1≤n))(s:ByteArray)(w:World)(hs:s.size≤60000):
    CallsIn Fence.wide n prog 240 #[.string s] w (UM s.data.toList w):=by
 obtain⟨i0,hi,hz0,hz1,hz2⟩:=info_parts Tryz.infoStr;refine callsIn_of_wp_marks Tryz.func240 rfl trivial ?_ rfl;simp only[Tryz.ntmps240,List.size_toArray,List.length_cons,List.length_nil,Nat.reduceAdd,Nat.reduceSub,Array.replicate_succ,Array.replicate_zero,List.push_toArray,List.append_toArray,List.nil_append,List.cons_append]
 gi_wp2_with fail
 refine Da ((callsIn_wide.2 (bG _ _)).mono ?_);rintro e w' ⟨rfl,rfl⟩
 gi_wp2_with fail
 obtain⟨WL,hWL⟩:∃WL,(w.alloc (.cells #[.slice none 0 0] 31)).alloc (.cells #[.string s] 9)=WL:=⟨_,rfl⟩;have hzL:WL.heap.size=w.heap.size+1+1:=by rw[←hWL];simp
 have hBw:Below w.heap.size w WL:=by rw[←hWL];exact GO _ _ _
 have kR:Boxed WL w.heap.size 31 (.slice none 0 0):=by rw[←hWL];exact Gs _ _ _
 have k0:Boxed WL (w.heap.size+1) 9 (.string s):=by rw[←hWL];exact Gt _ _ _
 rw[hWL];have HZ:=Lib.hid hzL;clear hWL hzL
 refine Se rfl hn.out (gf:=277) rfl trivial (enters_of Tryz.func277 (by kernel_rfl) rfl)
  (bJ (n - 1) s (by omega) (w.heap.size+1) WL k0)
  (fun b hb=>by have:=HZ.out;omega) (fun h k=>Eq.trans k h) (fun W l o o' hl _ _=>by have:=HZ.out;exact World.putObj_heap_other (by omega)) (Below.refl _ _) (fun _=>rfl)
  (fun pre W=>∃v,Boxed W w.heap.size 31 v∧W.ownsRow WL.heap.size 9 1 v pre.length (pre.map Value.string)∧Below w.heap.size w W)
  (fun _ _ _=>False)
  (fun s X Y h hm=>by
    obtain⟨v,h1,h2,h3⟩:=h;have:=HZ.out
    exact⟨v,hm.boxed h1 (by omega),hm.row h2 (fun b hb=>by omega),hm.under h3 (B3 _) (fun b hb=>by omega) (by omega)⟩)
  (fun _ _ _ _ h _=>h)
  ⟨_,kR,World.ownsRow_nil _ _ _ _,hBw⟩
  (fun x=>{tmps:=#[.string s,undef, .pointer (some ⟨w.heap.size,0,none⟩), .bool false, .bool false, .string x, .string s, .func (.func 277) #[] #[.pointer (some ⟨w.heap.size+1,0,none⟩)], .string x,undef,undef,undef,undef,undef,undef,undef,undef,undef],defers:=[]}) ?assign ?body ?done ?stop
 case assign=>
  intro l x W K hK
  gi_wp2
  exact hK
 case body=>
  rintro l pre x W ⟨v,hc,hrow,hbw⟩ hpf hsz;have hcell:=hc.cell;have HZW:=Lib.hid hsz
  have hpl:pre.length≤1000000:=by
   have h1:=hpf.length_le;have h2:=UL s.data.toList;rw[←Lib.size_eq]at h2;simp[D2]at h1;omega
  have hmx:pre.length+1≤maxLen:=by unfold maxLen;omega
  clear hsz hpf
  gi_wp2_with (gi_at_builtin;refine wpListIn_append_own _ rfl _ _ 31 rfl WL.heap.size 9 i0 (.string ⟨#[]⟩) 1 16 Tryz.underlying31 hi hz0 hz1 hz2 rfl (by decide) _ _ _ rfl (hrow.alloc _) ⟨W.heap.size,0,none⟩ 1 1 [.string x] rfl rfl (cell_one_new _ _ _) (by simp[Value.oneCell']) (by omega) (by omega) (by have:=HZW.out;simp;omega) ?_;intro v' w1 hown' hgrow _;obtain⟨g',cap',rfl⟩:=ownsRow_succ hown';obtain⟨hv1,hv2,hr2,hk2,hb2,hj2⟩:=bK hc hrow (by have:=HZW.out;omega) (by have:=HZ.out;omega) hown' hgrow;have hc1:=hv1.cell;have hf1:=hv1.frozen)
  have h1:=HZ.out;exact⟨hk2.from _,hj2 _ (by omega) (by omega),⟨_,hv2,by simpa using hr2,hbw.trans hb2⟩⟩
 case done=>
  rintro D xs W hD hS ⟨v,hc,hrow,hbw⟩ hK;have HS:=Lib.hid hS;clear hS
  obtain⟨A,cc,rfl⟩:∃A c,v= .slice A xs.length c:=by
   rcases hrow.2 with⟨rfl,hn⟩|⟨g,cap,cur,rfl,_⟩
   ·exact⟨none,0,by rw[hn]⟩
   exact⟨_,_,rfl⟩
  have hccm:cc≤maxLen:=by
   rcases hrow.2 with⟨h1,_⟩|⟨g,cap,cur,h1,h2,h3,h4,h5,_⟩
   ·injection h1 with _ _ h1;rw[h1];exact BR _
   injection h1 with _ _ h1;rw[h1];exact h5
  have hcell:=hc.cell;have hfz:=hc.frozen
  gi_wp2_with fail
  refine wpIn_wide.2 ?_;refine wp_region_still_tail 5 (by kernel_rfl) (by kernel_rfl) ?_;simp only[List.take_succ_cons,List.take_zero,List.drop_succ_cons,List.drop_zero]
  still_step
  still_step
  still_call (Tryz.strings_HasPrefix _ _ _)
  still_step
  still_call (Tryz.strings_HasSuffix _ _ _ (by omega))
  refine wpStill_nil ?_;change wpList _ _ _ _ _ W.drew;have hc2:Boxed W.drew w.heap.size 31 (.slice A xs.length cc):=hc;have hr2:W.drew.ownsRow WL.heap.size 9 1 (.slice A xs.length cc) xs.length (xs.map Value.string):=hrow;have hb2:Below w.heap.size w W.drew:=hbw.drew;have hK2:W.drew.heap[D]?=some (.deferred (some [])):=hK;clear hc hrow hbw hK hcell hfz;generalize W.drew=W2 at *;have hcell:=hc2.cell;have hfz:=hc2.frozen
  go_wp2
  gi_wp2
  refine⟨by simp, .inl ⟨_,_,rfl,run_takeDeferred ((KeepsOthers.setCell _ _ _).same D _ hK2 rfl),?_⟩⟩;have h1:=HZ.out;have hcb:=(Gw (hc2.set (.slice A xs.length cc)) (show w.heap.size≠D by omega) (.deferred none)).cell;refine⟨.tuple #[.slice A xs.length cc, .bool (Lib.hasPrefix s.data.toList [47]), .bool (Lib.hasSuffix s.data.toList [47])],by simp[results,Tryz.f240,go_sem,hcb], .slice A xs.length cc,xs,by rw[Lj,b8],?_,HS.out,Ja (hb2.setCell (p:=⟨w.heap.size,0,none⟩) (B3 _) _) (by omega) _,A,cc,rfl,hccm⟩;have hrow':=ownsRow_putObj (ownsRow_setCell_below hr2 (a:=⟨w.heap.size,0,none⟩) (by show w.heap.size<_;omega) (.slice A xs.length cc)) (.deferred none) ((KeepsOthers.setCell _ _ _).same D _ hK2 rfl) rfl
  have hlen:xs.length≤few:=by
   have h2:=UL s.data.toList;rw[←HS.out,←Lib.size_eq]at h2;simp[D2]at h2;unfold few;omega
  refine OwnL.list (sz:=1) (cell:=L0) (E:=9) (base:=WL.heap.size) ?_ hlen (fun b hb hlt=>⟨by omega,hlt⟩);unfold OwnL;rw[bA];exact hrow'
 case stop=>
  rintro D c pre W hD hSp h hK;exact h.elim
theorem bM(s:ByteArray)(w:World)(hs:s.size≤60000):Calls prog 240 #[.string s] w (UM s.data.toList w):=
 callsIn_wide.1 (bL 6 (Lib.hid (by omega)) s w hs)
end Go.Proofs.YtbgnigjfkbmceaaGreatDoor
namespace Go.Proofs.YtbgnigjfkbmceaaGreatDoor
open Go.RowKit
theorem bO{P:Program}{St:Nat→Nat→Prop}{w:World}(hst:∀b o,St b o→b<w.heap.size){T T' sz bytes:Nat}(hE:JA P T=some (T',sz,bytes))(hby:bytes≤100000){rows new:List (List AV)}{A:Option Addr}{cap:Nat}{y:Value}
    (hs:Am St w (.sl sz rows none) (.slice A rows.length cap)) (hy:Am St w (.sl sz new none) y) (hsm:rows.length+new.length≤1000000) (rt:TypeId):
    ∃(v':Value) (w':World) (N:Nat→Nat→Prop),(Builtin.append_ #[T,T] rt #[.slice A rows.length rows.length,y]).run P w= .ok v' w'∧Below w.heap.size w w'∧(∀b o,N b o→w.heap.size≤b∧b<w'.heap.size)∧Am (fun b o=>St b o∨N b o) w' (.sl sz (rows++new) none) v':=by
 obtain⟨hu,inf,z,hinf,hz,hzs,hsz,hbts,hp⟩:=E1 hE;obtain⟨A',cap',vs,e1,e2,e3,e4,e5⟩:=Jo hy;obtain⟨A0,cap0,us,f1,f2,f3,f4,f5⟩:=Jo hs;injection f1 with f1a f1b f1c;subst f1a;by_cases h0:new=[]
 ·subst h0;refine⟨.slice A rows.length rows.length,w,fun _ _=>False,?_,Below.refl _ _,fun _ _ h=>h.elim,?_⟩
  ·rw[e1];rcases A' with _|ad<;>rcases A with _|ad0<;>simp[Builtin.append_,run_underlying hu,sizeOf,typeInfo,hinf,Builtin.lenOf,Builtin.firstCells,storeCells,loadCells,loadCellsFrom]
  rw[List.append_nil]
  have k:Am St w (.sl sz rows none) (.slice A rows.length rows.length):=by
   simp only[Am]at hs ⊢;obtain⟨_,B,c,h1,h2,h3,h4⟩:=hs;injection h1 with h1 _ _;subst h1;exact⟨trivial,_,_,rfl,B3 _,Nat.le_trans h2 h3,h4⟩
  exact EW (fun b o hb=>⟨.inl hb,rfl⟩) _ _ k
 obtain⟨b,off,q1,q2⟩:=e5 h0;subst q1;rw[e1];have hnl:0<new.length:=List.length_pos_iff.2 h0;have hnews:∀j u,vs[j]?=some u→w.cell? ((⟨b,off,none⟩:Addr).add j)=some u:=fun j u hj=>by rw[Addr.add_mid];exact q2 j u hj
 have hbt:(rows.length+new.length) * bytes≤140737488355328:=by
  have:(rows.length+new.length) * bytes≤1000000 * 100000:=Nat.mul_le_mul hsm hby;omega
 have key:∃v' w',(Builtin.append_ #[T,T] rt #[.slice A rows.length rows.length, .slice (some ⟨b,off,none⟩) new.length cap']).run P w= .ok v' w'∧w'.ownsRow w.heap.size T' sz v' (rows.length+new.length) (us++vs)∧w.grownBy w' none:=by
  by_cases hr0:rows=[]
  ·subst hr0;have hus:us=[]:=Ct (by simpa using f4.1);subst hus;rcases A with _|ad
   ·obtain⟨v',w',r1,r2,r3,r4,r5⟩:=run_append_own_at (P:=P) w w.heap.size T rt T' inf z sz bytes hu hinf hz hsz hbts hzs hp (.slice none 0 0) 0 [] (World.ownsRow_nil w _ _ _) ⟨b,off,none⟩ new.length cap' vs (by rw[e4.1]) hnews e4.2.2.1 (by simp at hsm;unfold maxLen;omega) (by simpa using hbt) (B3 _);exact⟨v',w',by simpa using r1,by simpa using r2,by simpa[Value.ownBlock]using r3⟩
   obtain⟨v',w',r1,r2,r3⟩:=run_append_arg_grows (P:=P) w T rt T' inf z sz bytes hu hinf hz hsz hbts hzs hp ad 0 0 [] (by simp) (by simp) ⟨b,off,none⟩ new.length cap' vs (by rw[e4.1]) hnews (by omega) (by simp at hsm;unfold maxLen;omega) (by simpa using hbt);exact⟨v',w',by simpa using r1,by simpa using r2,r3⟩
  obtain⟨b0,off0,p1,p2⟩:=f5 hr0;subst p1;exact run_append_arg_grows (P:=P) w T rt T' inf z sz bytes hu hinf hz hsz hbts hzs hp ⟨b0,off0,none⟩ rows.length rows.length us (by rw[f4.1]) (fun j u hj=>by rw[Addr.add_mid];exact p2 j u hj) ⟨b,off,none⟩ new.length cap' vs (by rw[e4.1]) hnews (by omega) (by unfold maxLen;omega) hbt
 obtain⟨v',w',r1,r2,r3⟩:=key;have hbel:Below w.heap.size w w':=⟨r3.os,r3.tape,r3.output,r3.size,fun k hk=>r3.block k hk (by simp)⟩;have hlt:=World.ownsRow.lt r2;refine⟨v',w',fun b _=>v'.ownBlock=some b,r1,hbel,fun b o hb=>hlt b hb,?_⟩;have hflat:FlatR (fun b o=>St b o∨v'.ownBlock=some b) w' sz (rows++new) (us++vs):=(f4.append e4).mono fun b o hb=>⟨.inl hb,hbel.cell (p:=⟨b,o,none⟩) (hst b o hb)⟩;rcases r2.2 with⟨c1,c2⟩|⟨gb,cp,cur,c1,c2,c3,c4,c5,c6,c7⟩
 ·omega
 subst c1;simp only[Am];refine⟨trivial,_,cp,by rw[List.length_append],by rw[List.length_append];exact c4,c5, .inr ⟨gb,0,rfl,hflat.froR fun j u hj=>⟨.inr rfl,?_⟩⟩⟩
 have hj2:j<(rows.length+new.length) * sz:=by
  have:=(Al.1 hj).1
  rwa [r2.1]at this
 rw[Nat.zero_add];simp only[World.cell?,c3];rw[←c7,List.getElem?_take,if_pos hj2,Array.getElem?_toList]at hj
 simpa using hj
theorem UN{a:Act}{d n:Nat}(v:Value)(hn:a.tmps.size=n)(hd:d<n):(a.put (some d) v).eval (.tmp d)=v:=by
 show(a.put (some d) v).tmps.getD d undef=v;simp[Act.put,hn,hd]
theorem bQ{a:Act}{d t:Nat}(v:Value)(h:d≠t):(a.put (some d) v).eval (.tmp t)=a.eval (.tmp t):=by
 show(a.put (some d) v).tmps.getD t undef=a.tmps.getD t undef;simp[Act.put,Array.getElem?_setIfInBounds_ne h]
theorem bR{P:Program}{N:Dim}{ops:Array Oper}{Q:Exit→AS→Prop}{rest:List Oper}{l:List (Nat×AV)}{hh:AH}{d1 d2 d3:Nat}{ty1 ty2 ty3:TypeId}{pos1 pos2 pos3:String}{af1 af2 af3:Array Edge}{T:TypeId}{x hi mx y:Operand}{T' sz bytes:Nat}{rows new:List (List AV)}{tok tok':Option Nat}[hE:Elm P T T' sz bytes]{i j:Int}
    (h1:Nat.blt d1 N.n=true) (h2:Nat.blt d2 N.n=true) (h3:Nat.blt d3 N.n=true) (hne:Nat.beq d2 d1=false)
    (hx:C2 (look l) x=some (.sl sz rows tok)) (hhi:C2 (look l) hi=some (.v (.int .i64 i))) (hmx:C2 (look l) mx=some (.v (.int .i64 j))) (hi':i=(rows.length:Int)) (hj':j=(rows.length:Int)) (hy:C2 (look ((d1, .sl sz rows none)::l)) y=some (.sl sz new tok')) (hsm:rows.length+new.length≤1000000)
    (h:AL P N ops Q rest ⟨look ((d3, .sl sz (rows++new) none)::(d2, .sl sz new tok')::(d1, .sl sz rows none)::l),hh⟩):
    AL P N ops Q (⟨some d1, .slice T x none (some hi) (some mx),ty1,pos1,af1,none⟩::⟨some d2, .move y,ty2,pos2,af2,none⟩::⟨some d3, .call {callee:= .builtin .append,args:=#[.tmp d1, .tmp d2],argTypes:=#[T,T]},ty3,pos3,af3,none⟩::rest) ⟨look l,hh⟩:=by
 obtain⟨hu,inf,z,hinf,hz,hzs,hsz,hbts,hp⟩:=E1 hE.eq;intro E a w hr;obtain⟨G,g1,g2,g3,g4,g5⟩:=hr;have kx:=EX _ _ (g2.ev hx);have ki:=g2.ev hhi;have kj:=g2.ev hmx;simp only[CU]at kx;simp only[rep]at ki kj;subst hi' hj';obtain⟨A,cap,us,e1,e2,e3,e4,e5⟩:=Jo kx;rw[e1]at kx;refine wpList_plain rfl fun K hK=>?_
 have run1:(execOp a.eval ⟨some d1, .slice T x none (some hi) (some mx),ty1,pos1,af1,none⟩).run P w= .ok (.value (.slice A rows.length rows.length)) w:=by
  have hA:Option.map (fun x:Addr=>x.add 0) A=A:=by cases A with
   |none=>rfl
   |some ad=>cases ad;rfl
  have e0:(if rows.length=0 then A else Option.map (fun x:Addr=>x.add 0) A)=A:=by rw[hA];split<;>rfl
  simp[execOp,e1,ki,kj,Instr.sliceAt,Instr.slice,Instr.sliceBounds,Instr.sliceBound,asIntOf,run_underlying hu,sizeOf,typeInfo,hinf,hsz,e2,hA]
 refine Lu (E:=E) (w:=w) (R:=fun x' h'=>x'= .v (.slice A rows.length rows.length)∧h'=hh) (G:=G) ?_ ?_
 ·rw[run1];exact⟨_,_,G,⟨rfl,rfl⟩,g1,Ext.refl G w,by simp only[rep]⟩
 rintro v1 w1 ⟨x1,h1',G1,⟨rfl,rfl⟩,k1,k2,k3⟩;simp only[rep]at k3;subst k3;have kx1:Am G1.St w1 (.sl sz rows none) (.slice A rows.length cap):=EW k2.st _ _ kx
 have kn1:Am G1.St w1 (.sl sz rows none) (.slice A rows.length rows.length):=by
  have:=kx1;simp only[Am]at this ⊢;obtain⟨_,B,c,q1,q2,q3,q4⟩:=this;injection q1 with q1 _ _;subst q1;exact⟨trivial,_,_,rfl,B3 _,Nat.le_trans q2 q3,q4⟩
 obtain⟨s1,s2,s3⟩:=g2.put (d:=some d1) (x:= .sl sz rows none) k2 g3 h1 (F0 _ _ kn1);apply hK;refine wpList_plain rfl fun K2 hK2=>?_;have ky:=s1.ev hy;refine Lu (E:=E) (R:=fun x' h'=>x'= .sl sz new tok'∧h'=h1') (G:=G1) (w:=w1) (r:= .ok (.value ((a.put (some d1) (.slice A rows.length rows.length)).eval y)) w1) ⟨_,_,G1,⟨rfl,rfl⟩,k1,Ext.refl G1 w1,ky⟩ ?_;rintro v2 w2 ⟨x2,h2',G2,⟨rfl,rfl⟩,m1,m2,m3⟩;obtain⟨t1,t2,t3⟩:=s1.put (d:=some d2) (x:= .sl sz new tok') m2 s2 h2 m3;have kn2:Am G2.St w2 (.sl sz rows none) (.slice A rows.length rows.length):=EW m2.st _ _ kn1;have ky2:=EX _ _ m3;simp only[CU]at ky2;apply hK2;refine wpList_plain rfl fun K3 hK3=>?_;obtain⟨v',w',Nw,r1,r2,r3,r4⟩:=bO (P:=P) m1.stlt hE.eq hE.few kn2 ky2 hsm ty3;obtain⟨u1,u2⟩:=m1.grow r2 Nw r3;have hd12:d2≠d1:=fun e=>by rw[e,Nat.beq_refl]at hne;cases hne
 have q1:((a.put (some d1) (.slice A rows.length rows.length)).put (some d2) v2).eval (.tmp d1)= .slice A rows.length rows.length:=by
  rw[bQ _ hd12];exact UN _ g3 (B9 h1)
 have q2:((a.put (some d1) (.slice A rows.length rows.length)).put (some d2) v2).eval (.tmp d2)=v2:=UN _ s2 (B9 h2);refine Lu (E:=E) (R:=fun x' h'=>x'= .sl sz (rows++new) none∧h'=h2') (G:=G2) (w:=w2) ?_ ?_
 ·simp only[execOp,resolve,invoke,builtin,Sem.run_bind,Sem.run_pure,Result.andThen_ok,List.map_toArray,List.map_cons,List.map_nil,q1,q2,r1];exact⟨_,_,_,⟨rfl,rfl⟩,u1,u2,F0 _ _ r4⟩
 rintro v3 w3 ⟨x3,h3',G3,⟨rfl,rfl⟩,n1,n2,n3⟩;obtain⟨o1,o2,o3⟩:=t1.put (d:=some d3) (x:= .sl sz (rows++new) none) n2 t2 h3 n3;apply hK3;exact h E _ w3 ⟨G3,n1,o1,o2,o3.trans (t3.trans (s3.trans g4)),g5⟩
theorem UO(s:AM)(hs:s.size≤60000):AFn prog 240 [.v (.string s)] (fun r=>r= .tup [.sl 1 ((CZ s).map Ci) none, .v (.bool (Cq s)), .v (.bool (BJ s))]):=by
 intro w St bl vs hr hv;have hbl:bl=[]:=by have:=hr.bxlen;simpa using this
 subst hbl;simp only[AY,rep]at hv;obtain⟨z,zs,rfl,rfl,rfl⟩:=hv;refine(bM s w hs).mono ?_;rintro e w' ⟨v,ss,rfl,hv,hp,hB,A,c,rfl,hc⟩;obtain rfl:=Q5 (ps:=ss) hp;obtain⟨k1,k2⟩:=hr.grow hB (fun b _=>Oy w w' b) (fun b _ hb=>hb);refine⟨_,_,_,_,⟨rfl,rfl,rfl⟩,k1,k2,?_⟩;simp only[rep,AY];refine⟨_,rfl,_,_,rfl,?_,_,_,rfl,rfl,_,_,rfl,rfl,rfl⟩;obtain⟨A',c',h1,h2,h3,h4⟩:=hv;injection h1 with h1 _ h1c;subst h1 h1c;simp only[Am];refine⟨trivial,A,c,by rw[List.length_map],by rw[List.length_map];exact h2,hc,?_⟩;by_cases h0:(CZ s).length=0
 ·exact .inl (by rw[Ct h0];rfl)
 obtain⟨b,off,rfl,hb,hcell⟩:=h4 (by omega);refine .inr ⟨b,off,rfl,KX fun i r hi=>?_⟩;rw[List.getElem?_map]at hi
 cases hy:(CZ s)[i]? with
 |none=>rw[hy]at hi;cases hi
 |some x=>
   rw[hy]at hi;injection hi with hi;subst hi;refine⟨rfl,Ji fun j av hj=>?_⟩
   match j,hj with
   |0,hj=>
     injection hj with hj;subst hj;exact⟨.inr hb, .string x,hcell i x 0 hy (by omega),rfl,by simp only[Am]⟩
   |j+1,hj=>simp[Ci]at hj
def Ew(f:Af)(a:AG):Int:=match Bp f a with
 |none=>2
 |some n=>if n.kind=2 then 0 else 20
def FP(f:Af)(a:AG)(name:AM):AG×Bool:=match Bp f a with
 |none=>((0,0),false)
 |some n=>match n.entries.find? (fun e:BM=>decide (e.1=name))with
   |none=>((0,0),false)
   |some e=>((a.1,e.2),true)
theorem bS{f:Af}{a:AG}{name:AM}(h:¬Ew f a=0):AU f a name=((0,0),Ew f a):=by
 unfold Ew at h ⊢;unfold AU
 cases hn:Bp f a with
 |none=>rfl
 |some n=>
   simp only[hn]at h ⊢;by_cases hk:n.kind=2
   ·rw[if_pos hk]at h;exact absurd rfl h
   rw[if_neg hk,if_neg hk]
theorem bT{f:Af}{a:AG}{name:AM}(h:Ew f a=0)(h2:(FP f a name).2=false):AU f a name=((0,0),2):=by
 unfold Ew at h;unfold FP at h2;unfold AU
 cases hn:Bp f a with
 |none=>rfl
 |some n=>
   simp only[hn]at h h2 ⊢;by_cases hk:n.kind=2
   ·rw[if_pos hk]
    cases hf:n.entries.find? (fun e:BM=>decide (e.1=name))with
    |none=>rfl
    |some e=>rw[hf]at h2;cases h2
   rw[if_neg hk]at h;exact absurd h (by decide)
theorem bU{f:Af}{a:AG}{name:AM}(h:Ew f a=0)(h2:(FP f a name).2=true):AU f a name=((FP f a name).1,0):=by
 unfold Ew at h;unfold FP at h2 ⊢;unfold AU
 cases hn:Bp f a with
 |none=>rw[hn]at h2;cases h2
 |some n=>
   simp only[hn]at h h2 ⊢;by_cases hk:n.kind=2
   ·rw[if_pos hk]
    cases hf:n.entries.find? (fun e:BM=>decide (e.1=name))with
    |none=>rw[hf]at h2;cases h2
    |some e=>rfl
   rw[if_neg hk]at h;exact absurd h (by decide)
def Dk(s:Spc)(fl:Bool)(w:Wk):List AV:=[.sl 2 (s.files.map Bo) none, .sl 3 (s.mounts.map Cu) none, .sl 1 (w.ps.map Ci) none, .v (.int .i64 w.at_.1), .v (.int .i64 w.at_.2), .v (.int .i64 w.dir.1), .v (.int .i64 w.dir.2), .v (.string w.name), .v (.bool w.missing), .v (.bool fl), .v (.int .i64 (w.links:Int))]
theorem UP(d m:AM)(hd:d.size≤1000000)(hm:m.size≤1000000):AFn prog 268 [.v (.string d), .v (.string m)] (fun r=>r= .v (.string (Cp d m))):=
 MZ (us:=[.string d, .string m]) fun w=>(TV d m w hd hm).mono fun e w' h=>by
  obtain⟨h1,rfl⟩:=h;exact⟨h1,Below.refl _ _⟩
theorem bV(t:AM):AFn prog 262 [.v (.string t), .v (.string ⟨#[47]⟩)] (fun r=>r= .v (.bool (Cq t))):=
 MZ (us:=[.string t, .string ⟨#[47]⟩]) fun w=>(Tryz.strings_HasPrefix t ⟨#[47]⟩ w).mono fun e w' h=>by
  obtain⟨h1,rfl⟩:=h;refine⟨?_,Below.refl _ _⟩;rw[h1];unfold Cq;rw[←Lj]
section
theorem bW(f:Af)(a:AG)(hf:FlsB f):AFn prog 246 [.agg (At f), .agg (AF a)] (fun r=>r= .v (.int .i64 (Ew f a))):=by
 refine enter Tryz.func246 rfl rfl rfl rfl rfl 0 rfl ?_;refine w_ (b_ (h:=b_ (h:=a_ (h:=e_ (w_ (l_ (h:=l_ (h:=?_))))))));refine A6 rfl (AB (Ow f a hf) ?_);rintro r (⟨e,rfl⟩|⟨n,e,rfl⟩)
 ·skip
  refine a_ (h:=e_ (q_ (Ab (w_ (m_ (h:=?_))))))
  first|refine A6 rfl (Jy (by kernel_rfl) rfl rfl ?_)|refine A6 rfl (Jz (by kernel_rfl) rfl rfl ?_)
  refine a_ (h:=e_ (?_));refine A9 rfl (fun hb1=>?_) (fun hb1=>?_)
  ·have hc1:=bp hb1;refine w_ (a_ (h:=e_ (A4 (AN (A8 (?_))))));refine A7 ?_;rw[show Ew f a=2 by simp only[Ew,e]];rfl
  have hc1:=bp hb1;exfalso;first|contradiction|omega
 skip
 refine a_ (h:=e_ (q_ (Ab (w_ (m_ (h:=?_))))))
 first|refine A6 rfl (Jy (by kernel_rfl) rfl rfl ?_)|refine A6 rfl (Jz (by kernel_rfl) rfl rfl ?_)
 refine a_ (h:=e_ (?_));refine A9 rfl (fun hb2=>?_) (fun hb2=>?_)
 ·have hc2:=bp hb2;exfalso;first|contradiction|omega
 have hc2:=bp hb2;refine w_ (m_ (h:=k_ (h:=f_ (h:=l_ (h:=Ao (h:=a_ (h:=e_ (?_))))))));refine A9 rfl (fun hb3=>?_) (fun hb3=>?_)
 ·have hc3:=bp hb3;refine w_ (a_ (h:=e_ (A4 (AN (A8 (?_))))));refine A7 ?_;rw[show Ew f a=20 by simp only[Ew,e];exact if_neg hc3];rfl
 have hc3:=bp hb3;refine Aq (Ai (t_ (w_ (a_ (h:=e_ (A4 (?_)))))));refine A7 ?_;rw[show Ew f a=0 by simp only[Ew,e];exact if_pos hc3];rfl
theorem bY(f:Af)(a:AG)(name:AM)(hf:FlsB f):AFn prog 247 [.agg (At f), .agg (AF a), .v (.string name)] (fun r=>r= .tup [.agg (AF (FP f a name).1), .v (.bool (FP f a name).2)]):=by
 have hen:=Ku hf a;refine enter Tryz.func247 rfl rfl rfl rfl rfl 0 rfl ?_;refine w_ (b_ (h:=b_ (h:=Aa (h:=a_ (h:=e_ (w_ (l_ (h:=l_ (h:=?_)))))))));refine A6 rfl (AB (Ow f a hf) ?_);rintro r (⟨e,rfl⟩|⟨n,e,rfl⟩)
 ·skip
  refine a_ (h:=e_ (q_ (w_ (m_ (h:=?_)))))
  first|refine A6 rfl (Jy (by kernel_rfl) rfl rfl ?_)|refine A6 rfl (Jz (by kernel_rfl) rfl rfl ?_)
  refine e_ (?_);refine A9 rfl (fun hb1=>?_) (fun hb1=>?_)
  ·have hc1:=bp hb1;refine w_ (AX (h:=s_ (h:=a_ (h:=e_ (A4 (A8 (?_)))))));refine A7 ?_;rw[show FP f a name=((0,0),false) by simp only[FP,e]];rfl
  have hc1:=bp hb1;exfalso;first|contradiction|omega
 have hnl:n.entries.length≤1000:=by simpa[Au,e]using hen
 refine a_ (h:=e_ (q_ (w_ (m_ (h:=?_)))))
 first|refine A6 rfl (Jy (by kernel_rfl) rfl rfl ?_)|refine A6 rfl (Jz (by kernel_rfl) rfl rfl ?_)
 refine e_ (?_);refine A9 rfl (fun hb2=>?_) (fun hb2=>?_)
 ·have hc2:=bp hb2;exfalso;first|contradiction|omega
 have hc2:=bp hb2;refine AD (q_ (w_ (m_ (h:=k_ (h:=f_ (h:=l_ (h:=n_ (h:=m_ (h:=e_ (Ab (?_)))))))))));refine BT (fun m t=>∃j:Nat,j≤n.entries.length∧m=n.entries.length - j∧(∀i y,i<j→n.entries[i]?=some y→decide (y.1=name)=false)∧t=⟨look [(2, .v (.string name)),(4, .bp 1 0),(6, .bp 2 0),(20, .sl 2 (n.entries.map CG) none),(21, .v (.int .i64 ((n.entries.map CG).length:Int))),(22, .v (.int .i64 (j:Int)))],⟨[At f,AF a,[.v (.int .i64 0), .v (.int .i64 0)]],[]⟩⟩) (n.entries.length) ((wk 3 0)) (⟨0,by omega,rfl,fun i y hi=>by omega,rfl⟩) ?_;rintro m t ⟨j,hj,rfl,ha,rfl⟩;refine w_ (B4 (h:=e_ (q_ (?_))));refine A9 rfl (fun hb3=>?_) (fun hb3=>?_)
 ·have hc3:=bp hb3;obtain⟨hlt,x,hy,hrow, -⟩:=Bt CG hc3;refine AD (q_ (Ab (w_ (i_ (h:=l_ (h:=Aa (h:=s_ (h:=e_ (w_ (f_ (h:=l_ (h:=m_ (h:=AK (h:=e_ (?_)))))))))))))));refine A9 rfl (fun hb4=>?_) (fun hb4=>?_)
  ·have hc4:=bp hb4;refine w_ (f_ (h:=l_ (h:=f_ (h:=l_ (h:=AX (h:=s_ (h:=a_ (h:=e_ (A4 (AN (A8 (A8 (AN (A8 (?_)))))))))))))));refine A7 ?_;rw[show FP f a name=((a.1,x.2),true) by simp only[FP,e];rw[Gp hy (by simpa using hc4) ha]];rfl
  have hc4:=bp hb4;refine Aq (Ai (t_ (AR (B8 (h:=m_ (h:=AP (?_)))))));refine AJ ?_;refine⟨_,_,?_,⟨j+1,by omega,rfl,FA hy ha (by simpa using hc4),rfl⟩,(wk 3 0)⟩;omega
 have hc3:=bp hb3;have e3:=C9 CG hj hc3;subst e3;refine BF (Ah (Ah (BG (t_ (w_ (AX (h:=s_ (h:=a_ (h:=e_ (A4 (?_)))))))))));refine A7 ?_;rw[show FP f a name=((0,0),false) by simp only[FP,e];rw[Gq ha]];rfl
theorem QG(f:Af)(a:AG)(name:AM)(hf:FlsB f):AFn prog 188 [.agg (At f), .agg (AF a), .v (.string name)] (fun r=>r= .tup [.agg (AF (AU f a name).1), .v (.int .i64 (AU f a name).2)]):=by
 refine enter Tryz.func188 rfl rfl rfl rfl rfl 0 rfl ?_;refine w_ (b_ (h:=b_ (h:=Aa (h:=a_ (h:=e_ (q_ (w_ (l_ (h:=l_ (h:=?_))))))))));refine A6 rfl (AB (bW f a hf) ?_);rintro r rfl;refine a_ (h:=e_ (w_ (m_ (h:=Ao (h:=e_ (?_))))));refine A9 rfl (fun hb1=>?_) (fun hb1=>?_)
 ·have hc1:=bp hb1;refine w_ (AX (h:=m_ (h:=s_ (h:=a_ (h:=e_ (A4 (A8 (?_))))))));refine A7 ?_;rw[bS hc1];rfl
 have hc1:=bp hb1;refine AD (w_ (l_ (h:=l_ (h:=m_ (h:=?_)))));refine A6 rfl (AB (bY f a name hf) ?_);rintro r rfl;refine m_ (h:=x_ (h:=x_ (h:=Aa (h:=s_ (h:=a_ (h:=e_ (q_ (w_ (m_ (h:=B7 (h:=e_ (?_))))))))))));refine A9 rfl (fun hb2=>?_) (fun hb2=>?_)
 ·have hc2:=bp hb2;refine w_ (AX (h:=s_ (h:=a_ (h:=e_ (A4 (A8 (?_)))))));refine A7 ?_;rw[bT hc1 (by simpa using hc2)];rfl
 have hc2:=bp hb2;refine AD (w_ (l_ (h:=s_ (h:=a_ (h:=e_ (A4 (?_)))))));refine A7 ?_;rw[bU hc1 (by simpa using hc2)];rfl
theorem UQ(s:Spc)(hs:SpcB s):AFn prog 241 [.agg (Aj s)] (fun r=>r= .agg (AF (Dd s))):=by
 refine enter Tryz.func241 rfl rfl rfl rfl rfl 0 rfl ?_;refine w_ (b_ (h:=Aa (h:=e_ (w_ (l_ (h:=AX (h:=?_)))))));refine A6 rfl (AB (Ov s (0,1) hs) ?_);rintro r rfl;refine s_ (h:=e_ (A4 (?_)));refine A7 ?_;rfl
theorem QH(s:Spc)(fl:Bool)(w:Wk)(hs:SpcB s):AFn prog 242 [.fp (Dk s fl w)] (fun r=>r= .v (.bool (Ax s.files w.at_))):=by
 have hde:=FB s.files w.at_;refine enter Tryz.func242 rfl rfl rfl rfl rfl 0 rfl ?_;refine w_ (a_ (h:=e_ (q_ (C3 ([]) 16 (h:=Ac 0 (h:=Dx 1 (h:=Aw 2 (h:=Aw 3 (h:=AO 4 (h:=Ac 5 (h:=Dx 6 (h:=Aw 7 (h:=AO 8 (h:=?_))))))))))))));refine GH 9 13 rfl rfl ?_ ?_
 ·refine AB (GM s.files w.at_ hs.files) ?_;rintro r rfl;refine o_ (h:=?_);refine Ac 10 (h:=By 11 (h:=By 12 (h:=?_)));refine c_ 13 rfl (Dv (by repeat constructor) ?_);refine o_ (h:=?_);refine Bd 14 rfl (BY rfl rfl rfl rfl rfl rfl (by repeat constructor) (by repeat constructor) ?_);refine o_ (h:=BL 15 (h:=z_ (h:=t_ (w_ (m_ (h:=m_ (h:=?_)))))));refine AT true rfl rfl (fun hb1=>?_) (fun hb1=>?_)
  ·have hc1:=bp hb1;refine f_ (h:=l_ (h:=AK (h:=AA (h:=a_ (h:=e_ (A4 (?_)))))));refine A7 ?_
   first|(rw[hde,hb1];rfl)|(rw[hde,hb2];rfl)
  have hc1:=bp hb1;refine A3 (h:=A3 (h:=A3 (h:=AE (h:=a_ (h:=e_ (A4 (?_)))))));refine A7 ?_
  first|(rw[hde,hb1];rfl)|(rw[hde,hb2];rfl)
 refine Dv (by repeat constructor) ?_;refine o_ (h:=?_);refine c_ 9 rfl (AB (GM s.files w.at_ hs.files) ?_);rintro r rfl;refine o_ (h:=Ac 10 (h:=By 11 (h:=By 12 (h:=?_))));refine Bd 14 rfl (BY rfl rfl rfl rfl rfl rfl (by repeat constructor) (by repeat constructor) ?_);refine o_ (h:=BL 15 (h:=z_ (h:=t_ (w_ (m_ (h:=m_ (h:=?_)))))));refine AT true rfl rfl (fun hb2=>?_) (fun hb2=>?_)
 ·have hc2:=bp hb2;refine f_ (h:=l_ (h:=AK (h:=AA (h:=a_ (h:=e_ (A4 (?_)))))));refine A7 ?_
  first|(rw[hde,hb1];rfl)|(rw[hde,hb2];rfl)
 have hc2:=bp hb2;refine A3 (h:=A3 (h:=A3 (h:=AE (h:=a_ (h:=e_ (A4 (?_)))))));refine A7 ?_
 first|(rw[hde,hb1];rfl)|(rw[hde,hb2];rfl)
theorem bZ(s:Spc)(fl sl:Bool)(w:Wk)(hs:SpcN s)(hw:∀a,(Bh s a).1.size≤1000)(hn:w.name.size≤1000000):AFn prog 244 [.fp (Dk s fl w), .v (.bool sl)] (fun r=>r= .agg (Dc (FO s sl w))):=by
 refine enter Tryz.func244 rfl rfl rfl rfl rfl 0 rfl ?_;refine w_ (Aa (h:=e_ (q_ (C3 ([(0,Dc DN)]) 17 (h:=Ac 0 (h:=Dx 1 (h:=Aw 2 (h:=AO 3 (h:=Ac 4 (h:=Dx 5 (h:=Aw 6 (h:=AO 7 (h:=Ac 8 (h:=Dx 9 (h:=Aw 10 (h:=AO 11 (h:=RT 12 (h:=Ac 13 (h:=Fa 14 (h:=?_))))))))))))))))))));refine c_ 15 rfl (Dv (by repeat constructor) ?_);refine o_ (h:=?_);refine Bd 16 rfl (BY rfl rfl rfl rfl rfl rfl (by repeat constructor) (by repeat constructor) ?_);refine o_ (h:=z_ (h:=t_ (q_ (w_ (m_ (h:=k_ (h:=f_ (h:=l_ (h:=AK (h:=e_ (?_)))))))))));refine A9 rfl (fun hb1=>?_) (fun hb1=>?_)
 ·have hc1:=bp hb1;refine q_ (C3 ([(0,Dc DN)]) 12 (h:=Ac 0 (h:=Dx 1 (h:=Aw 2 (h:=AO 3 (h:=Ac 4 (h:=Dx 5 (h:=Aw 6 (h:=AO 7 (h:=Aw 8 (h:=?_)))))))))));refine Bd 9 rfl (BY rfl rfl rfl rfl rfl rfl (by repeat constructor) (by repeat constructor) ?_);refine o_ (h:=Aw 10 (h:=?_));refine Bd 11 rfl (BY rfl rfl rfl rfl rfl rfl (by repeat constructor) (by repeat constructor) ?_);refine o_ (h:=z_ (h:=t_ (q_ (C3 ([(0,Dc DN)]) 12 (h:=Ac 0 (h:=Dx 1 (h:=Aw 2 (h:=AO 3 (h:=Aw 4 (h:=?_))))))))));refine c_ 5 rfl (EY rfl rfl rfl ?_);refine o_ (h:=?_);refine c_ 6 rfl (AB (Pu hs w.at_) ?_);rintro r rfl;refine o_ (h:=Ac 7 (h:=By 8 (h:=By 9 (h:=Aw 10 (h:=?_)))));refine Bd 11 rfl (BY rfl rfl rfl rfl rfl rfl (by repeat constructor) (by repeat constructor) ?_);refine o_ (h:=z_ (h:=t_ (w_ (l_ (h:=s_ (h:=e_ (A4 (A8 (?_)))))))));refine A7 ?_;rw[show FO s sl w=⟨w.at_,⟨#[]⟩,w.at_, !w.missing,sl,(Bh s w.at_).1⟩ from if_pos hc1,hc1];rfl
 have hc1:=bp hb1;refine AD (q_ (w_ (f_ (h:=l_ (h:=e_ (?_))))));refine A9 rfl (fun hb2=>?_) (fun hb2=>?_)
 ·have hc2:=bp hb2;refine AR (m_ (h:=k_ (h:=f_ (h:=l_ (h:=f_ (h:=s_ (h:=e_ (q_ (q_ (Cj 12 (h:=Ac 0 (h:=Dx 1 (h:=Aw 2 (h:=AO 3 (h:=Aw 4 (h:=AO 5 (h:=?_)))))))))))))))));refine c_ 6 rfl (AB (Pu hs w.dir) ?_);rintro r rfl;refine o_ (h:=Ac 7 (h:=By 8 (h:=By 9 (h:=BL 10 (h:=BL 11 (h:=z_ (h:=t_ (w_ (m_ (h:=e_ (?_)))))))))));refine A9 rfl (fun hb3=>?_) (fun hb3=>?_)
  ·have hc3:=bp hb3;refine AR (m_ (h:=f_ (h:=l_ (h:=?_))));refine A6 rfl (AB (UP (Bh s w.dir).1 w.name (by have:=hw w.dir;omega) hn) ?_);rintro r rfl;refine f_ (h:=s_ (h:=e_ (w_ (l_ (h:=s_ (h:=e_ (A4 (?_))))))));refine A7 ?_;rw[show FO s sl w=⟨w.dir,w.name,w.at_, !w.missing,sl,Cp (Bh s w.dir).1 w.name⟩ by unfold FO;rw[if_neg hc1,if_neg (by simp[hc2]),if_pos hc3]];rfl
  have hc3:=bp hb3;refine AD (w_ (l_ (h:=s_ (h:=e_ (A4 (?_))))));refine A7 ?_;rw[show FO s sl w=⟨w.dir,w.name,w.at_, !w.missing,sl,⟨#[]⟩⟩ by unfold FO;rw[if_neg hc1,if_neg (by simp[hc2]),if_neg (by simp[hc3])]];rfl
 have hc2:=bp hb2;refine AD (q_ (q_ (Cj 12 (h:=Ac 0 (h:=Dx 1 (h:=Aw 2 (h:=AO 3 (h:=Aw 4 (h:=AO 5 (h:=?_))))))))));refine c_ 6 rfl (AB (Pu hs w.dir) ?_);rintro r rfl;refine o_ (h:=Ac 7 (h:=By 8 (h:=By 9 (h:=BL 10 (h:=BL 11 (h:=z_ (h:=t_ (w_ (m_ (h:=e_ (?_)))))))))));refine A9 rfl (fun hb4=>?_) (fun hb4=>?_)
 ·have hc4:=bp hb4;refine AR (m_ (h:=f_ (h:=l_ (h:=?_))));refine A6 rfl (AB (UP (Bh s w.dir).1 w.name (by have:=hw w.dir;omega) hn) ?_);rintro r rfl;refine f_ (h:=s_ (h:=e_ (w_ (l_ (h:=s_ (h:=e_ (A4 (?_))))))));refine A7 ?_;rw[show FO s sl w=⟨w.dir,w.name,(0,0), !w.missing,sl,Cp (Bh s w.dir).1 w.name⟩ by unfold FO;rw[if_neg hc1,if_pos (by simp[hc2]),if_pos hc4]];rfl
 have hc4:=bp hb4;refine AD (w_ (l_ (h:=s_ (h:=e_ (A4 (?_))))));refine A7 ?_;rw[show FO s sl w=⟨w.dir,w.name,(0,0), !w.missing,sl,⟨#[]⟩⟩ by unfold FO;rw[if_neg hc1,if_pos (by simp[hc2]),if_neg (by simp[hc4])]];rfl
end
end Go.Proofs.YtbgnigjfkbmceaaGreatDoor
