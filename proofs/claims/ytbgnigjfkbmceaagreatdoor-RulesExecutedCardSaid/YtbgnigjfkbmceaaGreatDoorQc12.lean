/-
  Part 12 of the proof of RulesExecutedP: what the statement's proof uses of the texts in wip/tpl.
-/
import Derived.Lib.OthersKept
import Derived.Shelf.Abstract
import Derived.Shelf.RegionOpen
import Derived.OwnWalkIn
import Derived.TacticsInMore
import Derived.LoopNIn
import Derived.LoopIn
import Derived.Maps.AppendAt
import Derived.StillTailTactics
import Derived.Test.YtbgnigjfkbmceaaGreatDoorQc11
open Go.Proofs.Tryz (prog)
set_option maxRecDepth 10000
set_option maxHeartbeats 4000000
set_option linter.unusedVariables false
set_option linter.unusedSimpArgs false
namespace Go.Proofs.YtbgnigjfkbmceaaGreatDoor
open Go.RowKit
theorem Up(s:ByteArray)(i:Nat)(h:i<s.size)(ha:128≤(s[i]'h).toNat):
    1≤(Utf8.decode s i).2∧i+(Utf8.decode s i).2≤s.size∧∀k,k<(Utf8.decode s i).2→128≤(s.get! (i+k)).toNat:=by
 have hn:¬(s[i]'h).toNat<128:=by omega
 have h0:s.get! (i+0)=s[i]'h:=get_at s i h;have g0:128≤(s.get! (i+0)).toNat:=by rw[h0];exact ha
 have c1:∀k,(decide (i+k<s.size)&&(s.get! (i+k)).toNat / 64==2)=true→i+k<s.size∧128≤(s.get! (i+k)).toNat:=by
  intro k hk;simp only[Bool.and_eq_true,decide_eq_true_iff,beq_iff_eq]at hk;exact⟨hk.1,by omega⟩
 have one:1≤1∧i+1≤s.size∧∀k,k<1→128≤(s.get! (i+k)).toNat:=by
  refine⟨BN _,h,fun k hk=>?_⟩;obtain rfl:k=0:=by omega
  exact g0
 unfold Utf8.decode;simp only[h0,hn,if_false];split
 ·rename_i hc;rw[Bool.and_eq_true]at hc;obtain⟨a1,b1⟩:=c1 1 hc.2;split
  ·refine⟨by simp,a1,fun k hk=>?_⟩;have:k=0∨k=1:=by simp at hk;omega
   rcases this with rfl|rfl
   ·exact g0
   exact b1
  exact one
 split
 ·rename_i hc;rw[Bool.and_eq_true,Bool.and_eq_true]at hc;obtain⟨a1,b1⟩:=c1 1 hc.1.2;obtain⟨a2,b2⟩:=c1 2 hc.2;split
  ·refine⟨by simp,a2,fun k hk=>?_⟩;have:k=0∨k=1∨k=2:=by simp at hk;omega
   rcases this with rfl|rfl|rfl
   ·exact g0
   ·exact b1
   exact b2
  exact one
 split
 ·rename_i hc;rw[Bool.and_eq_true,Bool.and_eq_true,Bool.and_eq_true]at hc;obtain⟨a1,b1⟩:=c1 1 hc.1.1.2;obtain⟨a2,b2⟩:=c1 2 hc.1.2;obtain⟨a3,b3⟩:=c1 3 hc.2;split
  ·refine⟨by simp,a3,fun k hk=>?_⟩;have:k=0∨k=1∨k=2∨k=3:=by simp at hk;omega
   rcases this with rfl|rfl|rfl|rfl
   ·exact g0
   ·exact b1
   ·exact b2
   exact b3
  exact one
 exact one
theorem aR(s:ByteArray)(j:Nat)(hj:j<s.size):s.data.toList[j]?=some (s.get! j):=by
 have:=get_at s j hj;rw[Nat.add_zero]at this;rw[this];exact Lib.data_getElem? s j hj
theorem aS{s:ByteArray}{i:Nat}(h:i<s.size)(ha:128≤(s[i]'h).toNat)(hno:Lib.NoAny s.data.toList [0,47] i):Lib.NoAny s.data.toList [0,47] (i+(Utf8.decode s i).2):=by
 obtain⟨_,h2,h3⟩:=Up s i h ha;intro j b hj hb;by_cases hlt:j<i
 ·exact hno j b hlt hb
 have:=h3 (j - i) (by omega);rw[show i+(j - i)=j by omega]at this;rw[aR s j (by omega)]at hb;injection hb with hb;rw[hb]at this;have h0:b≠0:=by rintro rfl;simp at this
 have h47:b≠47:=by
  rintro rfl;have:(47:UInt8).toNat=47:=rfl;omega
 simp[h0,h47]
theorem aT(r:Int)(w:World)(h0:128≤r)(h1:r≤2147483647):
    Calls prog 269 #[.string ⟨#[0,47]⟩, .int .i32 r] w fun e w'=>e= .returned (.int .i64 (-1))∧Below w.heap.size w w':=by
 by_cases h2:r=65533
 ·subst h2;exact aQ w
 cases hv:Lib.validRune r with
 |true=>exact aO r w h0 h1 h2 hv
 |false=>exact(aN r w h0 h1 h2 hv).mono fun e w' h=>⟨h.1,by rw[←h.2];exact Below.refl _ _⟩
def Uq(s:ByteArray)(w:World)(e:Ending)(w':World):Prop:=∃v:Int,e= .returned (.int .i64 v)∧Below w.heap.size w w'∧((0≤v)↔((0:UInt8)∈s.data.toList∨(47:UInt8)∈s.data.toList))
theorem aU{s:ByteArray}(h:Lib.NoAny s.data.toList [0,47] s.size):¬((0:UInt8)∈s.data.toList∨(47:UInt8)∈s.data.toList):=by
 rintro(h'|h')
 ·obtain⟨j,hj⟩:=List.mem_iff_getElem?.1 h';have:=h j 0 (by rw[Lib.size_eq];exact(At.1 hj).1) hj;simp at this
 obtain⟨j,hj⟩:=List.mem_iff_getElem?.1 h';have:=h j 47 (by rw[Lib.size_eq];exact(At.1 hj).1) hj;simp at this
theorem aV{s:ByteArray}{i:Nat}{x:UInt8}(hx:s.data.toList[i]?=some x)(h:[0,47].contains x=true):((0:UInt8)∈s.data.toList∨(47:UInt8)∈s.data.toList):=by
 have hm:=Aw hx;simp at h;rcases h with rfl|rfl
 ·exact .inl hm
 exact .inr hm
set_option maxRecDepth 1000000 in
set_option maxHeartbeats 4000000 in
theorem aW(s:ByteArray)(w:World)(h8:s.size≤8):Calls prog 245 #[.string s, .string ⟨#[0,47]⟩] w (Uq s w):=by
 have h8z:decide ((8:Int)<(s.size:Int))=false:=decide_eq_false (by omega)
 go_enter Tryz.func245,Tryz.ntmps245
 go_wp2_with (go_at_call 270;refine(Tryz.strings_shouldUseASCIISet _ _).mono ?_;rintro e w' ⟨rfl,hw⟩;rw[hw,h8z])
 clear hw
 go_loopg [9,10] s.size (fun g _ _ wx=>∃i:Nat,s.size≤i+g∧i≤s.size∧wx.heap[w.heap.size]?=some (.stringIter s i)∧Below w.heap.size w wx∧Hid (Lib.NoAny s.data.toList [0,47] i))
 case atStart=>exact⟨0,by omega,by omega,World.iter_heap w s 0,(Below.refl _ _).alloc (BN _) _,Lib.hid (Lib.NoAny.zero _ _)⟩
 case round=>
  obtain⟨i,hg,hi,hit,hbel,hno⟩:=hrel;have hks:=hbel.size;by_cases hlt:i<s.size
  ·obtain⟨g,rfl⟩:∃g,gk=g+1:=⟨gk - 1,by omega⟩;by_cases hx:(s[i]'hlt).toNat<128
   ·have hnx:=fun ty=>Lib.run_next_ascii_at (P:=prog) wr w.heap.size s i ty hit hlt hx;have hxl:s.data.toList[i]?=some (s[i]'hlt):=Lib.data_getElem? s i hlt;generalize (s[i]'hlt)=x at *;have Hx:=Lib.hid hxl;have hit':=Lib.iterAt_heap wr w.heap.size s i (i+1) hit;have hbel':=Lib.below_iterAt hbel (BN _) s (i+1);generalize wr.iterAt w.heap.size s (i+1)=w1 at *;have hcon:=Lib.contains_iff_indexByte [0,47] x;have hback:((x.toNat:Int)).toNat.toUInt8=x:=by simp
    have HI:=Lib.hid hit';clear hxl hit hit';cases hin:[0,47].contains x
    ·rw[hin]at hcon;have hneg:¬((0:Int)≤Lib.indexByte [0,47] x):=of_decide_eq_false hcon.symm;clear hcon
     go_wp2_with (go_at_call 269;refine(Tryz.strings_IndexRune_ascii _ _ _ (by omega) (by omega)).mono ?_;rintro e w' ⟨rfl,hw⟩;rw[hw,hback])
     go_roundg g
     case measure=>omega
     case rel=>exact⟨i+1,by omega,by omega,HI.out,hbel',Lib.hid (hno.out.succ Hx.out hin)⟩
    rw[hin]at hcon;have hpos:(0:Int)≤Lib.indexByte [0,47] x:=of_decide_eq_true hcon.symm;clear hcon
    go_wp2_with (go_at_call 269;refine(Tryz.strings_IndexRune_ascii _ _ _ (by omega) (by omega)).mono ?_;rintro e w' ⟨rfl,hw⟩;rw[hw,hback])
    go_ret
    exact⟨_,rfl,hbel',⟨fun _=>aV Hx.out hin,fun _=>by omega⟩⟩
   have hx':128≤(s[i]'hlt).toNat:=by omega
   obtain⟨p1,p2,_⟩:=Up s i hlt hx';have HN:=Lib.hid (aS hlt hx' hno.out);have q1:=(decode_high s i hlt hx').1;have q2:=decode_le s i;have hnx:=fun ty=>Lib.run_next_any_at (P:=prog) wr w.heap.size s i ty hit hlt;generalize Utf8.decode s i=d at *;obtain⟨d1,d2⟩:=d;simp only at *;have hit':=Lib.iterAt_heap wr w.heap.size s i (i+d2) hit;have hbel':=Lib.below_iterAt hbel (BN _) s (i+d2);have hsz:=Lib.iterAt_size wr w.heap.size s (i+d2);generalize wr.iterAt w.heap.size s (i+d2)=w1 at *;have hk1:w.heap.size<w1.heap.size:=(Array.getElem?_eq_some_iff.1 hit').1;have HI:=Lib.hid hit';clear hit hit' hsz
   go_wp2_with fail
   refine(aT _ _ (by omega) (by omega)).mono ?_;rintro e w2 ⟨rfl,hb2⟩
   go_wp2
   go_roundg g
   case measure=>omega
   case rel=>exact⟨i+d2,by omega,by omega,(hb2.block _ hk1).trans HI.out,hbel'.trans (hb2.mono (by omega)),HN⟩
  obtain rfl:i=s.size:=by omega
  have hnx:=fun ty=>Lib.run_next_end_at (P:=prog) wr w.heap.size s s.size ty hit hlt
  go_wp2
  go_ret
  exact⟨_,rfl,hbel,⟨fun h=>absurd h (by decide),fun h=>absurd h (aU hno.out)⟩⟩
theorem aX(s:ByteArray):(0≤Lib.indexAny s.data.toList [0,47])↔((0:UInt8)∈s.data.toList∨(47:UInt8)∈s.data.toList):=by
 generalize s.data.toList=l
 induction l with
 |nil=>simp[Lib.indexAny]
 |cons b l ih=>
   have hge:=Lib.indexAny_ge [0,47] l;unfold Lib.indexAny;by_cases hb:[0,47].contains b=true
   ·rw[if_pos hb];simp only[List.contains_cons,List.contains_nil,Bool.or_false,Bool.or_eq_true,beq_iff_eq]at hb;rcases hb with rfl|rfl<;>simp
   rw[if_neg hb];have h0:(0:UInt8)≠b:=by rintro rfl;simp at hb
   have h47:(47:UInt8)≠b:=by rintro rfl;simp at hb
   simp only[List.mem_cons,h0,h47,false_or];rw[←ih];split
   ·rename_i h;have:Lib.indexAny l [0,47]= -1:=by simpa using h
    rw[this]
   rename_i h;have:Lib.indexAny l [0,47]≠ -1:=by simpa using h
   constructor<;>intro h'<;>omega
theorem aY(s:ByteArray)(w:World)(hs:s.size≤1000000):Calls prog 245 #[.string s, .string ⟨#[0,47]⟩] w (Uq s w):=by
 by_cases h8:s.size≤8
 ·exact aW s w h8
 refine(Tryz.strings_IndexAny_long (fun w=>by kernel_rfl) s ⟨#[0,47]⟩ w (by decide) (by omega) (by omega) (by decide) ?_).mono ?_
 ·intro j b hj;have:b∈[0,47]:=Aw hj;simp at this;rcases this with rfl|rfl<;>decide
 rintro e w' ⟨rfl,rfl⟩;exact⟨_,rfl,Ls _ _ _,aX s⟩
def Qf(s:ByteArray):Bool:=decide ((0:UInt8)∈s.data.toList∨(47:UInt8)∈s.data.toList)
theorem aZ(s:ByteArray)(w:World)(hs:s.size≤1000000):
    Calls prog 186 #[.string s, .string ⟨#[0,47]⟩] w fun e w'=>e= .returned (.bool (Qf s))∧Below w.heap.size w w':=by
 go_enter Tryz.func186,Tryz.ntmps186
 go_wp2_with fail
 refine(aY s w hs).mono ?_;rintro e w' ⟨v,rfl,hb,hv⟩;have HV:=Lib.hid hv;clear hv
 go_wp2
 go_ret
 exact⟨KD (decide_eq_decide.2 HV.out),hb⟩
theorem Ur(s:ByteArray):(s.toList==[46])=decide (s.data.toList=[46]):=by rw[JK,Bool.eq_iff_iff];simp
theorem Us(s:ByteArray):(s.toList==[46,46])=decide (s.data.toList=[46,46]):=by rw[JK,Bool.eq_iff_iff];simp
set_option maxHeartbeats 1000000 in
theorem b6(s:ByteArray)(w:World):
    Calls prog 131 #[.string s] w fun e w'=>e= .returned (.bool (E9 s.data.toList))∧Below w.heap.size w w':=by
 have hsz:=Lib.size_eq s;by_cases h0:s.size=0
 ·have he:s.toList.isEmpty=true:=by rw[Un];simp[h0]
  have he':s.toList=[]:=List.isEmpty_iff.1 he
  have HF:Hid (E9 s.data.toList=false):=Lib.hid (by
   rw[←JK,he'];rfl)
  clear hsz
  go_enter Tryz.func131,Tryz.ntmps131
  go_wp2
  go_ret
  exact⟨KD HF.out.symm,Below.refl _ _⟩
 have he:s.toList.isEmpty=false:=by rw[Un];simp[h0]
 have hne:s.data.toList≠[]:=by intro e;rw[e]at hsz;exact h0 hsz
 by_cases h12:s.size≤12
 ·have hle:decide ((s.size:Int)≤12)=true:=decide_eq_true (by omega);by_cases h1:s.data.toList=[46]
  ·have e1:(s.toList==[46])=true:=by rw[Ur];simp[h1]
   have e1':(s.toList != [46])=false:=by simp[bne,e1]
   have HF:Hid (E9 s.data.toList=false):=Lib.hid (by rw[h1];rfl);clear hsz hne h1
   go_enter Tryz.func131,Tryz.ntmps131
   go_wp2
   go_ret
   exact⟨KD HF.out.symm,Below.refl _ _⟩
  have e1:(s.toList==[46])=false:=by rw[Ur];simp[h1]
  have e1':(s.toList != [46])=true:=by simp[bne,e1]
  by_cases h2:s.data.toList=[46,46]
  ·have e2:(s.toList==[46,46])=true:=by rw[Us];simp[h2]
   have e2':(s.toList != [46,46])=false:=by simp[bne,e2]
   have HF:Hid (E9 s.data.toList=false):=Lib.hid (by rw[h2];rfl);clear hsz hne h1 h2
   go_enter Tryz.func131,Tryz.ntmps131
   go_wp2
   go_ret
   exact⟨KD HF.out.symm,Below.refl _ _⟩
  have e2:(s.toList==[46,46])=false:=by rw[Us];simp[h2]
  have e2':(s.toList != [46,46])=true:=by simp[bne,e2]
  have HF:Hid (E9 s.data.toList= !Qf s):=Lib.hid (by
   unfold Qf;rw[Bool.eq_iff_iff,Np];simp only[Bool.not_eq_true',decide_eq_false_iff_not,not_or]
   exact⟨fun h=>h.2.2.2.2,fun h=>⟨hne,by omega,h1,h2,h⟩⟩)
  clear hsz hne h1 h2
  go_enter Tryz.func131,Tryz.ntmps131
  go_wp2_with fail
  refine(aZ s _ (by omega)).mono ?_;rintro e w' ⟨rfl,hb⟩
  go_wp2
  go_ret
  exact⟨KD HF.out.symm,hb⟩
 have hle:decide ((s.size:Int)≤12)=false:=decide_eq_false (by omega);have HF:Hid (E9 s.data.toList=false):=Lib.hid (decide_eq_false (fun h=>by have:=h.2.1;omega));clear hsz hne
 go_enter Tryz.func131,Tryz.ntmps131
 go_wp2
 go_ret
 exact⟨KD HF.out.symm,Below.refl _ _⟩
theorem Qg{α:Type}(p:α→Bool):∀(l:List α) (i:Nat) (m:α),(l.filter p)[i]?=some m→∃j:Nat,l[j]?=some m∧(l.filter p).take i=(l.take j).filter p
 |[],i,m,h=>by simp at h
 |x::l,i,m,h=>by
   rw[List.filter_cons]at h ⊢
   cases hx:p x with
   |false=>
     rw[hx]at h;obtain⟨j,h1,h2⟩:=Qg p l i m (by simpa using h);exact⟨j+1,by simpa using h1,by simp[hx,h2]⟩
   |true=>
     rw[hx]at h
     cases i with
     |zero=>exact⟨0,by simpa using h,by simp⟩
     |succ i=>
       obtain⟨j,h1,h2⟩:=Qg p l i m (by simpa using h);exact⟨j+1,by simpa using h1,by simp[hx,h2]⟩
theorem b7{s:Spc}(hv:SpcV s)(dev:Int)(h0:(FS s dev).2=0):SpcV (FS s dev).1∧(FS s dev).1=⟨s.files,s.mounts.filter fun m:D9=>decide (m.1≠dev)⟩:=by
 unfold FS at h0 ⊢;split at h0
 ·exact absurd h0 (by decide)
 rename_i c1;split at h0
 ·exact absurd h0 (by decide)
 rename_i c2;rw[if_neg c1,if_neg c2];refine⟨⟨hv.files,hv.pos,fun i m hi=>?_⟩,rfl⟩;obtain⟨j,h1,h2⟩:=Qg _ s.mounts i m hi;have hm:=hv.mnt j m h1;show MntOK s.files ((s.mounts.filter _).take i) m;rw[h2];refine⟨hm.dev1,hm.dev2,?_,hm.dir,?_,?_⟩
 ·have hf:=hm.fresh;rw[←Bool.not_eq_true]at hf ⊢;exact fun h=>hf (U7 h fun x hx=>(List.mem_filter.1 hx).1)
 ·by_cases hz:m.2.1=0
  ·unfold Co;simp[hz]
  obtain⟨m',hm',e⟩:=QP hm.there hz;rw[←e];refine QQ (s:=⟨s.files,(s.mounts.take j).filter fun m:D9=>decide (m.1≠dev)⟩) (List.mem_filter.2 ⟨hm',decide_eq_true ?_⟩);intro e2;have hany:(s.mounts.any fun m:D9=>decide (m.2.1=dev))=true:=List.any_eq_true.2 ⟨m,Aw h1,decide_eq_true (by rw[←e,e2])⟩;exact c2 hany
 have hf:=hm.free
 cases hc:D2 ⟨s.files,(s.mounts.take j).filter fun m:D9=>decide (m.1≠dev)⟩ m.2 with
 |none=>rfl
 |some d=>
   exfalso;obtain⟨k,hk⟩:=QS hc;have hmem:=(List.mem_filter.1 (Aw hk)).1
   cases hc2:D2 ⟨s.files,s.mounts.take j⟩ m.2 with
   |some d'=>rw[hc2]at hf;cases hf
   |none=>
     unfold D2 at hc2
     cases hq:(s.mounts.take j).find? fun x:D9=>decide (x.2=m.2)with
     |some y=>rw[hq]at hc2;cases hc2
     |none=>have:=List.find?_eq_none.1 hq _ hmem;simp at this
section
theorem b8(s:Spc)(hs:SpcB s):AFn prog 126 [.agg (BK s)] (fun r=>r= .agg (BK s)):=by
 have hfew:=hs.few;refine enter Tryz.func126 rfl rfl rfl rfl rfl 0 rfl ?_;refine w_ (b_ (h:=Al (h:=e_ (q_ (Bf ([(0,BK s)]) 8 (h:=AO 0 (h:=?_)))))))
 first|refine AJ 1 (h:=?_)|refine BF 1 rfl (fun _ hS=>Cq (row:=BK s) rfl (kb hS rfl) (BL rfl) rfl ⟨rfl,rfl⟩) ?_
 refine AO 3 (h:=?_)
 first|refine AJ 4 (h:=?_)|refine BF 4 rfl (fun _ hS=>Cq (row:=BK s) rfl (kb hS rfl) (BL rfl) rfl ⟨rfl,rfl⟩) ?_
 refine c_ 2 rfl (AG (QH s.files hs.files) ?_);rintro r rfl;refine o_ (h:=?_)
 first|refine c_ 5 rfl (Dx rfl rfl rfl (by simp;omega) (by repeat constructor) ?_)|refine c_ 5 rfl (Dy rfl rfl (by simp;omega) (by repeat constructor) ?_)
 refine o_ (h:=Hc 6 (h:=?_));refine BH 7 rfl (BC rfl rfl rfl rfl rfl rfl (by repeat constructor) (by repeat constructor) ?_);refine o_ (h:=z_ (h:=t_ (A4 (?_))));refine Ai (r:= .agg (BK s)) none (h5:=?_) (h6:=⟨rfl,rfl,rfl⟩);exact LeA.agg (LeL.cons (AA _) (LeL.cons (LeA.tok _ _ _) LeL.nil))
end
end Go.Proofs.YtbgnigjfkbmceaaGreatDoor
namespace Go.Proofs.YtbgnigjfkbmceaaGreatDoor
open Go.RowKit Go.Shelf
attribute [local go_sem] Oper.semAt_some
theorem bA(s:ByteArray)(w:World):
    Calls prog 239 #[.string s, .string ⟨#[47]⟩] w fun e w'=>
     e= .returned (.func (.func 274) #[] #[.pointer (some ⟨w.heap.size+1,0,none⟩), .pointer (some ⟨w.heap.size,0,none⟩), .pointer (some ⟨w.heap.size+1+1,0,none⟩)])∧
     w'=((w.alloc (.cells #[.string s] 9)).alloc (.cells #[.string ⟨#[47]⟩] 9)).alloc (.cells #[.int .i64 0] 3):=by
 go_enter Tryz.func239,Tryz.ntmps239
 go_wp2
 go_ret
 exact⟨rfl,rfl⟩
def Qh(w:World)(b:Nat):Nat:=match w.cell? ⟨b,0,none⟩with
 |some (.string r)=>r.size
 |_=>0
theorem Ut{w:World}{b:Nat}{t:TypeId}{r:ByteArray}(h:Boxed w b t (.string r)):Qh w b=r.size:=by simp[Qh,h.cell]
def Keep3(a b c:Nat)(X Y:World):Prop:=Y.heap[a]?=X.heap[a]?∧Y.heap[b]?=X.heap[b]?∧Y.heap[c]?=X.heap[c]?
theorem Keep3.trans{a b c:Nat}{X Y Z:World}(h:Keep3 a b c X Y)(k:Keep3 a b c Y Z):Keep3 a b c X Z:=⟨k.1.trans h.1,k.2.1.trans h.2.1,k.2.2.trans h.2.2⟩
theorem bB{a b c N:Nat}(ha:a<N)(hb:b<N)(hc:c<N)(W:World)(l:Nat)(o':Obj)(hl:N≤l):Keep3 a b c W (W.putObj l o'):=
 ⟨World.putObj_heap_other (by omega),World.putObj_heap_other (by omega),World.putObj_heap_other (by omega)⟩
theorem bC{a b c:Nat}{X Y:World}(h:Below X.heap.size X Y)(ha:a<X.heap.size)(hb:b<X.heap.size)(hc:c<X.heap.size):Keep3 a b c X Y:=⟨h.block _ ha,h.block _ hb,h.block _ hc⟩
theorem Uu(s:ByteArray)(i:Nat)(h:i<s.size):(s.extract (i+1) s.size).size<s.size:=by
 rw[ByteArray.size_extract];omega
theorem bD{s:ByteArray}{i:Nat}(hi:Lib.indexByte s.data.toList 47=i):i<s.size∧CS s.data.toList=(s.extract 0 i).data.toList::CS (s.extract (i+1) s.size).data.toList:=by
 have hm:(47:UInt8)∈s.data.toList:=by
  apply Classical.byContradiction;intro h;rw[aL h]at hi;omega
 obtain⟨j,hj,hlt,hl,hn⟩:=Uo hm;obtain rfl:j=i:=by omega
 refine⟨by rw[Lib.size_eq];exact hlt,?_⟩;rw[Lib.extract_data,Lib.extract_to_end];simp only[List.drop_zero,Nat.sub_zero]
 conv=>lhs;rw[hl]
 exact TB hn _
theorem bE{s:ByteArray}(hi:Lib.indexByte s.data.toList 47<0):CS s.data.toList=[s.data.toList]:=by
 refine Nq fun h=>?_;obtain⟨i,hi',_⟩:=Uo h;omega
def FW(xs:List AT):List Bs:=xs.map fun x=>x.data.toList
set_option maxRecDepth 100000 in
set_option maxHeartbeats 1000000 in
theorem bF(n:Nat)(s:ByteArray)(hs:s.size≤1000000)(b0 b1 b2:Nat)(w:World)(h0:Boxed w b0 9 (.string s))(h1:Boxed w b1 9 (.string ⟨#[47]⟩))(h2:Boxed w b2 3 (.int .i64 0))(h01:b0≠b1)(h02:b0≠b2):
    TN Fence.wide n prog 274 #[.pointer (some ⟨b1,0,none⟩), .pointer (some ⟨b0,0,none⟩), .pointer (some ⟨b2,0,none⟩)] (fun x:AT=>#[.string x]) (fun b=>b=b0) (Keep3 b0 b1 b2) (fun xs=>FW xs<+:CS s.data.toList)
     (fun xs=>FW xs=CS s.data.toList) (fun pre=>FW pre<+:CS s.data.toList) w:=fun l J Jx W hW hJ hJx hY hst=>by
 have k0:Boxed W b0 9 (.string s):=Hj h0 hW h0.lt;have k1:Boxed W b1 9 (.string ⟨#[47]⟩):=Hj h1 hW h1.lt;have k2:Boxed W b2 3 (.int .i64 0):=Hj h2 hW h2.lt;refine callsIn_of_wp Tryz.func274 rfl trivial ?_ rfl;simp only[Tryz.ntmps274,List.size_toArray,List.length_cons,List.length_nil,Nat.reduceAdd,Nat.reduceSub,Array.replicate_succ,Array.replicate_zero,List.push_toArray,List.append_toArray,List.nil_append,List.cons_append];have c1:=k1.cell
 gi_wp2
 gi_loopw [7] (fun _ wr=>∃(pre:List AT) (r:ByteArray),Boxed wr b0 9 (.string r)∧Boxed wr b1 9 (.string ⟨#[47]⟩)∧Boxed wr b2 3 (.int .i64 0)∧J pre wr∧Hid (FW pre++CS r.data.toList=CS s.data.toList)∧r.size≤s.size) (fun _ wr=>Qh wr b0)
 case atStart=>exact⟨[],s,k0,k1,k2,hst,rfl,BN _⟩
 case round=>
  obtain⟨pre,r,m0,m1,m2,hj,hpre,hle⟩:=hrel;clear k0 k1 k2 c1 hst;have c0:=m0.cell;have c1:=m1.cell;have c2:=m2.cell;have f0:=m0.frozen
  gi_wp2_with fail
  refine Nu ((callsIn_wide.2 (aK _ _)).mono ?_);rintro e w' ⟨rfl,rfl⟩;have hge:=Lib.indexByte_ge r.data.toList 47;by_cases hneg:Lib.indexByte r.data.toList 47<0
  ·have HS:=Lib.hid (bE hneg);obtain⟨fn,tmps,assign,body,hy,hR⟩:=hY pre r wr hj (by rw[←hpre.out,HS.out];simp[FW])
   gi_wp2
   refine⟨(fun h=>by cases h),hR.mono ?_⟩;rintro e W3 (⟨rfl,hJ3,hk3⟩|⟨rfl,hJx3⟩)
   ·gi_wp2
    go_end0
    exact⟨⟨_,rfl⟩, .inl ⟨pre++[r],by rw[←hpre.out,HS.out];simp[FW],hJ3⟩⟩
   gi_wp2
   go_end0
   exact⟨⟨_,rfl⟩, .inr ⟨pre++[r],by rw[←hpre.out,HS.out];simp[FW],hJx3⟩⟩
  obtain⟨i,hi⟩:=Int.eq_ofNat_of_zero_le (show 0≤Lib.indexByte r.data.toList 47 by omega);obtain⟨hlt,hseg⟩:=bD hi;have HS:=Lib.hid hseg;clear hseg hge hneg;rw[hi];clear hi;obtain⟨fn,tmps,assign,body,hy,hR⟩:=hY pre (r.extract 0 i) wr hj (by rw[←hpre.out,HS.out];simp[FW])
  gi_wp2
  refine⟨(fun h=>by cases h),hR.mono ?_⟩;rintro e W3 (⟨rfl,hJ3,hk3⟩|⟨rfl,hJx3⟩)
  ·have q0:Boxed W3 b0 9 (.string r):=hk3.1.trans m0;have q1:Boxed W3 b1 9 (.string ⟨#[47]⟩):=hk3.2.1.trans m1;have q2:Boxed W3 b2 3 (.int .i64 0):=hk3.2.2.trans m2;clear c0 c1 c2 f0 hy hR;have c0:=q0.cell;have c1:=q1.cell;have c2:=q2.cell;have f0:=q0.frozen
   gi_wp2
   go_roundw
   case rel=>exact⟨pre++[r.extract 0 i],r.extract (i+1) r.size,q0.set _,q1.other (Ne.symm h01) _,q2.other (Ne.symm h02) _,hJ _ _ _ hJ3 (Moves.set_ (own:=fun b=>b=b0) _ rfl _),Lib.hid (by rw[←hpre.out,HS.out];simp[FW]),Nat.le_trans (Nat.le_of_lt (Uu r i hlt)) hle⟩
   case measure=>rw[Ut (q0.set _),Ut m0];exact Uu r i hlt
  gi_wp2
  refine bodyPost_ret (results_none rfl _ _ _) rfl ?_;exact⟨⟨_,rfl⟩, .inr ⟨pre++[r.extract 0 i],by rw[←hpre.out,HS.out];simp[FW],hJx3⟩⟩
end Go.Proofs.YtbgnigjfkbmceaaGreatDoor
namespace Go.Proofs.YtbgnigjfkbmceaaGreatDoor
open Go.RowKit Go.Shelf
attribute [local go_sem] Oper.semAt_some
theorem Qi(l:Bs):Lib.hasPrefix l [47]=decide (l.head?=some 47):=by
 unfold Lib.hasPrefix
 cases l with
 |nil=>simp
 |cons c t=>
   rw[Bool.eq_iff_iff,List.isPrefixOf_iff_prefix];simp[List.cons_prefix_cons,eq_comm]
theorem bG{l:Bs}(h:l.head?=some 47):Lib.trimPrefix l [47]=l.tail:=by
 unfold Lib.trimPrefix;rw[Qi,if_pos (by simp[h])];simp
set_option maxRecDepth 100000 in
set_option maxHeartbeats 1000000 in
theorem Uv(s:ByteArray)(w:World)(h:s.data.toList=[47]∨s.data.toList.head?≠some 47):
    Calls prog 183 #[.string s] w fun e w'=>e= .returned (.bool (FP s.data.toList))∧Below w.heap.size w w':=by
 by_cases h1:s.data.toList=[47]
 ·obtain rfl:s=⟨#[47]⟩:=Um h1
  go_enter Tryz.func183,Tryz.ntmps183
  go_wp2
  exact bodyPost_ret (v:= .bool true) (by simp[results,Tryz.results183,go_sem]) rfl ⟨rfl,(Below.refl _ _).alloc (BN _) _⟩
 have h2:s.data.toList.head?≠some 47:=h.resolve_left h1;have e1:(s.toList==[47])=false:=by rw[JK,beq_eq_false_iff_ne];exact h1
 have HP:=Lib.hid (Qi s.data.toList);have HF:Hid (FP s.data.toList=false):=Lib.hid (by unfold FP;simp[h1,h2]);have HD:Hid (decide (s.data.toList.head?=some 47)=false):=Lib.hid (decide_eq_false h2);clear h h1 h2
 go_enter Tryz.func183,Tryz.ntmps183
 go_wp2_with fail
 refine(Tryz.strings_CutPrefix _ _ _).mono ?_;rintro e w' ⟨rfl,rfl⟩;rw[HP.out,HD.out]
 go_wp2
 exact bodyPost_ret (v:= .bool false) (by simp[results,Tryz.results183,go_sem]) rfl ⟨by rw[HF.out],(Below.refl _ _).alloc (BN _) _⟩
set_option maxRecDepth 100000 in
set_option maxHeartbeats 1000000 in
theorem bH(n:Nat)(hn:Hid (1≤n))(s:ByteArray)(w:World)(hs:s.size≤1000000)(h1:s.data.toList≠[47])(h2:s.data.toList.head?=some 47):
    CallsIn Fence.wide n prog 183 #[.string s] w fun e w'=>e= .returned (.bool (FP s.data.toList))∧Below w.heap.size w w':=by
 have e1:(s.toList==[47])=false:=by rw[JK,beq_eq_false_iff_ne];exact h1
 have HP:=Lib.hid (Qi s.data.toList);have HT:=Lib.hid (bG h2);have HF:Hid (FP s.data.toList=(CS s.data.toList.tail).all E9):=Lib.hid (by unfold FP;simp[h1,h2]);have HD:Hid (decide (s.data.toList.head?=some 47)=true):=Lib.hid (decide_eq_true h2);clear h1 h2;refine callsIn_of_wp_marks Tryz.func183 rfl trivial ?_ rfl;simp only[Tryz.ntmps183,List.size_toArray,List.length_cons,List.length_nil,Nat.reduceAdd,Nat.reduceSub,Array.replicate_succ,Array.replicate_zero,List.push_toArray,List.append_toArray,List.nil_append,List.cons_append]
 gi_wp2_with fail
 refine Nu ((callsIn_wide.2 (Tryz.strings_CutPrefix _ _ _)).mono ?_);rintro e w' ⟨rfl,rfl⟩;obtain⟨r,hr⟩:∃r:ByteArray,r=⟨(Lib.trimPrefix s.data.toList [47]).toArray⟩:=⟨_,rfl⟩;have hrl:r.data.toList=s.data.toList.tail:=by rw[hr,←HT.out]
 have HR:=Lib.hid hrl;have hrs:r.size≤1000000:=by rw[Lib.size_eq,hrl,List.length_tail,←Lib.size_eq];omega
 rw[HP.out,HD.out];rw[show(⟨(Lib.trimPrefix s.data.toList (ByteArray.mk #[47]).data.toList).toArray⟩:ByteArray)=r from hr.symm];clear hrl hr
 gi_wp2_with fail
 refine Nu ((callsIn_wide.2 (bA _ _)).mono ?_);rintro e w' ⟨rfl,rfl⟩
 gi_wp2_with fail
 have hR:Boxed (w.alloc (.cells #[.bool false] 4)) w.heap.size 4 (.bool false):=Boxed.new _ _ _;obtain⟨W0,hW0⟩:∃W0,w.alloc (.cells #[.bool false] 4)=W0:=⟨_,rfl⟩;have hz0:W0.heap.size=w.heap.size+1:=by rw[←hW0];simp
 have hB0:Below w.heap.size w W0:=by rw[←hW0];exact Jg _ _
 rw[hW0]at hR ⊢;obtain⟨WL,hWL⟩:∃WL,((W0.alloc (.cells #[.string r] 9)).alloc (.cells #[.string ⟨#[47]⟩] 9)).alloc (.cells #[.int .i64 0] 3)=WL:=⟨_,rfl⟩;have hzL:WL.heap.size=w.heap.size+1+1+1+1:=by rw[←hWL];simp[hz0]
 have hBL:Below W0.heap.size W0 WL:=by rw[←hWL];exact PZ _ _ _ _
 have k0:Boxed WL (w.heap.size+1) 9 (.string r):=by rw[←hWL,←hz0];exact Pa _ _ _ _
 have k1:Boxed WL (w.heap.size+1+1) 9 (.string ⟨#[47]⟩):=by rw[←hWL,←hz0];exact Pb _ _ _ _
 have k2:Boxed WL (w.heap.size+1+1+1) 3 (.int .i64 0):=by rw[←hWL,←hz0];exact Pc _ _ _ _
 have kR:Boxed WL w.heap.size 4 (.bool false):=Hj hR hBL hR.lt;have hBw:Below w.heap.size w WL:=hB0.trans (hBL.mono (by omega));rw[hWL];have HB0:=Lib.hid hz0;have HBL:=Lib.hid hzL;clear hW0 hWL hz0 hR hB0 hBL hzL
 refine YN rfl hn.out (gf:=274) rfl trivial (enters_of Tryz.func274 (by kernel_rfl) rfl)
  (bF (n - 1) r hrs (w.heap.size+1) (w.heap.size+1+1) (w.heap.size+1+1+1) WL k0 k1 k2 (by omega) (by omega))
  (fun b hb=>by have:=HBL.out;omega) Keep3.trans (fun W l o o' hl _ _=>by have:=HBL.out;exact bB (N:=WL.heap.size) (by omega) (by omega) (by omega) W l o' hl) (Below.refl _ _) (fun _=>rfl)
  (fun pre W=>Boxed W w.heap.size 4 (.bool false)∧(∀p∈FW pre,E9 p=true)∧Below w.heap.size w W)
  (fun c pre W=>c= .ret∧Boxed W w.heap.size 4 (.bool false)∧(∃p∈FW pre,E9 p=false)∧Below w.heap.size w W)
  (fun s X Y h hm=>⟨hm.boxed h.1 (by omega),h.2.1,hm.under h.2.2 (BN _) (fun b hb=>by omega) (by have:=HBL.out;omega)⟩)
  (fun c s X Y h hm=>⟨h.1,hm.boxed h.2.1 (by omega),h.2.2.1,hm.under h.2.2.2 (BN _) (fun b hb=>by omega) (by have:=HBL.out;omega)⟩)
  ⟨kR,by simp[FW],hBw⟩
  (fun x=>{tmps:=#[.string s,undef, .pointer (some ⟨w.heap.size,0,none⟩), .string r, .bool true, .string x, .string s, .bool false, .tuple #[.string r, .bool true], .string s, .tuple #[.string r, .bool true], .string r, .bool true, .bool true, .bool false, .string r,
    .func (.func 274) #[] #[.pointer (some ⟨w.heap.size+1+1,0,none⟩), .pointer (some ⟨w.heap.size+1,0,none⟩), .pointer (some ⟨w.heap.size+1+1+1,0,none⟩)], .string x,undef,undef,undef],defers:=[]}) ?assign ?body ?done ?stop
 case assign=>
  intro l x W K hK
  gi_wp2
  exact hK
 case body=>
  rintro l pre x W ⟨hc,hnm,hbw⟩ _ hsz;have hcell:=hc.cell;have hfz:=hc.frozen;have HN:=Lib.hid hnm;have HZ:=Lib.hid hsz;clear hnm hsz
  gi_wp2_with fail
  refine Nu ((CallsIn.inRound l (callsIn_wide.2 (b6 x W))).mono ?_);rintro e W' ⟨rfl,hb'⟩;have hc':Boxed W' w.heap.size 4 (.bool false):=Hj hc hb' hc.lt;have hbw':Below w.heap.size w W':=hbw.trans (hb'.mono hbw.size);clear hcell hfz;have hcell:=hc'.cell;have hfz:=hc'.frozen;have HX:Hid (FW (pre++[x])=FW pre++[x.data.toList]):=Lib.hid (by simp[FW])
  cases hnx:E9 x.data.toList with
  |true=>
    gi_wp2
    have h1:=HBL.out;have h2:=HZ.out;exact⟨TK hb',bC hb' (by omega) (by omega) (by omega),hc',by rw[HX.out];intro p hp;rcases List.mem_append.1 hp with hp|hp;exact HN.out p hp;simp at hp;rw[hp];exact hnx,hbw'⟩
  |false=>
    gi_wp2
    have h1:=HBL.out;exact⟨YM (TK hb') (by omega) _,rfl,hc'.set _,⟨x.data.toList,by rw[HX.out];simp,hnx⟩,hbw'.setCell (BN _) _⟩
 case done=>
  rintro D xs W hD hS ⟨hc,hnm,hbw⟩ hK;have HS:=Lib.hid hS;have HN:=Lib.hid hnm;clear hS hnm;have hcell:=hc.cell;have hfz:=hc.frozen
  gi_wp2
  refine⟨by simp, .inl ⟨_,_,rfl,run_takeDeferred ((KeepsOthers.setCell _ _ _).same D _ hK rfl),?_⟩⟩;have h1:=HBL.out;have hcb:=(TL (hc.set (.bool true)) (show w.heap.size≠D by omega) (.deferred none)).cell;refine⟨.bool true,by simp[results,Tryz.f183,go_sem,hcb],by rw[HF.out,←HR.out,←HS.out,List.all_eq_true.2 HN.out],TM (hbw.setCell (p:=⟨w.heap.size,0,none⟩) (BN _) _) (by omega) _⟩
 case stop=>
  rintro D c pre W hD hSp ⟨rfl,hc,hnm,hbw⟩ hK;have HS:=Lib.hid hSp;have HN:=Lib.hid hnm;clear hSp hnm;have hcell:=hc.cell
  gi_wp2
  refine⟨by simp, .inl ⟨_,_,rfl,run_takeDeferred hK,?_⟩⟩;have h1:=HBL.out;have hcb:=(TL hc (show w.heap.size≠D by omega) (.deferred none)).cell;refine⟨.bool false,by simp[results,Tryz.f183,go_sem,hcb],?_,TM hbw (by omega) _⟩;obtain⟨p,hp,hpf⟩:=HN.out;rw[HF.out,←HR.out,List.all_eq_false.2 ⟨p,HS.out.subset hp,by simp[hpf]⟩]
theorem bJ(s:ByteArray)(w:World)(hs:s.size≤1000000):
    Calls prog 183 #[.string s] w fun e w'=>e= .returned (.bool (FP s.data.toList))∧Below w.heap.size w w':=by
 by_cases h1:s.data.toList=[47]
 ·exact Uv s w (.inl h1)
 by_cases h2:s.data.toList.head?=some 47
 ·exact callsIn_wide.1 (bH 6 (Lib.hid (by omega)) s w hs h1 h2)
 exact Uv s w (.inr h2)
end Go.Proofs.YtbgnigjfkbmceaaGreatDoor
namespace Go.Proofs.YtbgnigjfkbmceaaGreatDoor
open Go.RowKit Go.Shelf
attribute [local go_sem] Oper.semAt_some
end Go.Proofs.YtbgnigjfkbmceaaGreatDoor
namespace Go.Proofs.YtbgnigjfkbmceaaGreatDoor
open Go.RowKit Go.Shelf
attribute [local go_sem] Oper.semAt_some
end Go.Proofs.YtbgnigjfkbmceaaGreatDoor
namespace Go.Proofs.YtbgnigjfkbmceaaGreatDoor
open Go.RowKit
theorem bK{s:Spc}{start:AQ}{p:AT}{fl:Bool}(h1:¬p=⟨#[]⟩)(h2:128<p.size):CM s start p fl=(EB,36):=by unfold CM;rw[if_neg h1,if_pos h2]
section
variable {s:Spc}{start a:AQ}{p:AT}{fl:Bool}(h1:¬p=⟨#[]⟩)(h2:¬128<p.size)(ha:(if FU p=true then FV s else start)=a)
include h1 h2 ha
theorem bL(hd:Ay s.files a=false):CM s start p fl=(EB,2):=by
 unfold CM;rw[if_neg h1,if_neg h2,ha,if_pos hd]
variable (hd:Ay s.files a=true)
include hd
theorem MS{e:Int}{τ:Lk}(h:EZ s (fl||Bj p) (HA (EC p) a)=(e,τ))(he:e≠0):CM s start p fl=(EB,e):=by
 unfold CM;rw[if_neg h1,if_neg h2,ha,if_neg (by simp[hd]),h,if_pos he]
theorem bM{τ:Lk}(h:EZ s (fl||Bj p) (HA (EC p) a)=(0,τ))(hs:Bj p=true∧τ.ex=true∧Ay s.files τ.file=false):CM s start p fl=(EB,20):=by
 unfold CM;rw[if_neg h1,if_neg h2,ha,if_neg (by simp[hd]),h,if_neg (by simp),if_pos hs]
theorem Qj{τ:Lk}(h:EZ s (fl||Bj p) (HA (EC p) a)=(0,τ))(hs:¬(Bj p=true∧τ.ex=true∧Ay s.files τ.file=false)):CM s start p fl=(Jo s (Bj p) τ,0):=by
 unfold CM;rw[if_neg h1,if_neg h2,ha,if_neg (by simp[hd]),h,if_neg (by simp),if_neg hs]
end
section
theorem Qk{s:Spc}(hs:SpcB s)(hv:SpcV s)(a:AQ):AFn prog 193 [.agg (BK s), .agg (AN a)] (fun r=>r= .agg (AN (E3 s s.mounts.length a))):=
 (XN s a hs).mono fun r hr=>by rw[hr,ZX hv]
end
def MT(σ:Lk):List AV:=Ar ⟨σ.dir,σ.name,σ.file,σ.ex,false,⟨#[]⟩⟩
theorem HJ{s:Spc}(hv:FlsV s.files){F:Bool}{q:AT}{qs:List AT}{da:AQ}{na:AT}{a:AQ}{ea:Bool}{lk:Nat}(h8:lk≤8):(∀e,Cs s F q qs a lk= .inl e→EZ s F ⟨q::qs,da,na,a,ea,lk⟩=(e,QX))∧∀τ,Cs s F q qs a lk= .inr τ→τ.links≤8∧EZ s F ⟨q::qs,da,na,a,ea,lk⟩=EZ s F τ∧Eo τ<(8 - lk) * 200+(qs.length+1):=by
 have hc:=Zr hv (fl:=F) (σ:=⟨q::qs,da,na,a,ea,lk⟩) (p:=q) (ps:=qs) h8 rfl;refine⟨fun e he=>?_,fun τ hτ=>?_⟩
 ·rw[hc];simp only[he]
 obtain⟨h1,h2⟩:=QY hv h8 hτ;refine⟨h1,?_,h2⟩;rw[hc];simp only[hτ]
section
theorem Uw(s:Spc)(hs:SpcB s)(hv:SpcV s):AFn prog 192 [.agg (BK s)] (fun r=>r= .agg (AN (FV s))):=by
 refine enter Tryz.func192 rfl rfl rfl rfl rfl 0 rfl ?_;refine w_ (b_ (h:=Al (h:=e_ (w_ (l_ (h:=Ak (h:=?_)))))));refine A7 rfl (AG (Qk hs hv (0,1)) ?_);rintro r rfl;refine s_ (h:=e_ (A4 (?_)));refine A9 ?_;rfl
theorem bN(s:Spc)(start:AQ)(p:AT)(fl:Bool)(hs:SpcN s)(hv:SpcV s)(hp:p.size≤100000):AFn prog 141 [.agg (BK s), .agg (AN start), .v (.string p), .v (.bool fl)] (fun r=>r= .tup [.agg (Ar (CM s start p fl).1), .v (.int .i64 (CM s start p fl).2)]):=by
 have hw:=UD hv;have hsp:=QW p;refine enter Tryz.func141 rfl rfl rfl rfl rfl 0 rfl ?_;refine w_ (b_ (h:=b_ (h:=Al (h:=a_ (h:=e_ (w_ (m_ (h:=?_))))))));refine A7 rfl (AG (QU p hp) ?_);rintro r ⟨ps,hps,rfl⟩;obtain rfl:=US hps;clear hps;refine m_ (h:=x_ (h:=x_ (h:=x_ (h:=a_ (h:=a_ (h:=a_ (h:=e_ (q_ (w_ (m_ (h:=AD (h:=e_ (?_)))))))))))));refine A8 rfl (fun hb1=>?_) (fun hb1=>?_)
 ·have hc1:=bp hb1;refine w_ (Ak (h:=s_ (h:=a_ (h:=e_ (A4 (A6 (?_)))))));refine A9 ?_;rw[show CM s start p fl=(EB,2) from if_pos hc1];rfl
 have hc1:=bp hb1;refine AB (q_ (w_ (m_ (h:=n_ (h:=Bl (h:=e_ (?_)))))));refine A8 rfl (fun hb2=>?_) (fun hb2=>?_)
 ·have hc2:=bp hb2;refine w_ (Ak (h:=s_ (h:=a_ (h:=e_ (A4 (A6 (?_)))))));refine A9 ?_;rw[bK hc1 (by omega)];rfl
 have hc2:=bp hb2;refine AB (w_ (l_ (h:=Al (h:=s_ (h:=e_ (?_))))));refine BR (fun t=>∃a,(if FU p=true then FV s else start)=a∧t=⟨look [(3, .v (.bool fl)),(4, .bp 0 0),(8, .bp 2 0),(10, .sl 1 ((EC p).map FT) none),(12, .v (.bool (Bj p))),(13, .bp 3 0)],⟨[BK s,AN start,Ar EB,AN a],[]⟩⟩) ?_ ?_
 ·skip
  refine w_ (m_ (h:=e_ (?_)));refine A8 rfl (fun hb3=>?_) (fun hb3=>?_)
  ·have hc3:=bp hb3;refine AR (l_ (h:=?_));refine A7 rfl (AG (Uw s hs.b hv) ?_);rintro r rfl;refine s_ (h:=AP (?_));refine AE ?_
   first|exact⟨_,⟨FV s,if_pos hc3,rfl⟩,(wk 4 0)⟩|exact⟨_,⟨start,if_neg (by simp[hc3]),rfl⟩,(wk 4 0)⟩
  have hc3:=bp hb3;refine Au (?_);refine AE ?_
  first|exact⟨_,⟨FV s,if_pos hc3,rfl⟩,(wk 4 0)⟩|exact⟨_,⟨start,if_neg (by simp[hc3]),rfl⟩,(wk 4 0)⟩
 rintro t ⟨a0,ha,rfl⟩;refine q_ (w_ (f_ (h:=l_ (h:=l_ (h:=?_)))));refine A7 rfl (AG (Hd s.files a0 hs.b.files) ?_);rintro r rfl;refine B9 (h:=e_ (?_));refine A8 rfl (fun hb4=>?_) (fun hb4=>?_)
 ·have hc4:=bp hb4;refine w_ (Ak (h:=s_ (h:=a_ (h:=e_ (A4 (A6 (?_)))))));refine A9 ?_;rw[bL hc1 (by omega) ha (by simpa using hc4)];rfl
 have hc4:=bp hb4;have had:Ay s.files a0=true:=by simpa using hc4
 refine AB (w_ (l_ (h:=l_ (h:=Ak (h:=Al (h:=s_ (h:=e_ (w_ (a_ (h:=e_ (?_)))))))))));refine BR (fun t=>∃(τ:Lk) (d:AQ),EZ s (fl||Bj p) (HA (EC p) a0)=(0,τ)∧τ.name.size≤1000∧t=⟨look [(4, .bp 0 0),(8, .bp 2 0),(12, .v (.bool (Bj p))),(14, .bp 4 0)],⟨[BK s,AN start,Ar EB,AN d,MT τ],[]⟩⟩) ?_ ?_
 ·skip
  refine Ag (?_);refine Be (fun m t=>∃(σ:Lk) (d:AQ),σ.links≤8∧σ.name.size≤12∧EZ s (fl||Bj p) σ=EZ s (fl||Bj p) (HA (EC p) a0)∧m=Eo σ∧m≤1729∧t=⟨look [(3, .v (.bool fl)),(4, .bp 0 0),(8, .bp 2 0),(10, .sl 1 (σ.ps.map FT) none),(12, .v (.bool (Bj p))),(13, .bp 3 0),(14, .bp 4 0),(15, .v (.int .i64 (σ.links:Int)))],⟨[BK s,AN start,Ar EB,AN d,MT σ],[]⟩⟩) (Eo (HA (EC p) a0)) ((wk 5 0)) (⟨_,a0,BV _,BV _,rfl,rfl,by show(8 - 0) * 200+(EC p).length≤1729;omega,rfl⟩) ?_;rintro m t ⟨⟨ps0,da,na,a,ea,lk⟩,d,h8,hna,hT,rfl,hm,rfl⟩;have hm:(8 - lk) * 200+ps0.length≤1729:=hm;have h8:lk≤8:=h8;have hml:(ps0.map FT).length=ps0.length:=by simp
  refine q_ (w_ (m_ (h:=n_ (h:=Bl (h:=e_ (?_))))));refine A8 rfl (fun hb5=>?_) (fun hb5=>?_)
  ·have hc5:=bp hb5
   obtain⟨q,qs,hps⟩:∃q qs,ps0=q::qs:=by
    cases ps0 with
    |nil=>simp at hc5
    |cons q qs=>exact⟨q,qs,rfl⟩
   subst hps;have hml:(qs.map FT).length=qs.length:=by simp
   have hmq:(8 - lk) * 200+(qs.length+1)≤1729:=hm;have htg:=QG hv.files (AZ s.files a q).1;have htp:=QW (B5 s.files (AZ s.files a q).1).target;refine AB (Ag (w_ (m_ (h:=?_))));refine A7 rfl (Cl (n:=0) rfl rfl rfl rfl ?_);refine l_ (h:=a_ (h:=e_ (?_)));refine FZ (⟨look [(3, .v (.bool fl)),(4, .bp 0 0),(8, .bp 2 0),(10, .sl 1 (qs.map FT) none),(12, .v (.bool (Bj p))),(13, .bp 3 0),(14, .bp 4 0),(15, .v (.int .i64 (lk:Int))),(16, .v (.string q))],⟨[BK s,AN start,Ar EB,AN d,MT ⟨q::qs,da,na,a,ea,lk⟩],[]⟩⟩) ?_ ?_
   ·skip
    refine AR (m_ (h:=?_));refine A7 rfl (RY (l:=1) rfl rfl rfl (by simp) ?_);refine a_ (h:=AP (?_));refine AE ?_
    first|(exfalso;first|contradiction|omega)|exact Av 5 0 rfl rfl rfl rfl (by repeat (first|exact Sub.nil|refine Ax rfl rfl ?_|refine B1 ?_|refine B2 rfl ?_|refine B3 rfl ?_|(apply Sub.of;(focus exact rfl);(focus exact LeA.of_eq (vb (by rfl)));(focus exact rfl))))
   skip
   refine w_ (f_ (h:=l_ (h:=s_ (h:=e_ (q_ (w_ (f_ (h:=l_ (h:=l_ (h:=?_))))))))));refine A7 rfl (AG (Hd s.files a hs.b.files) ?_);rintro r rfl;refine B9 (h:=e_ (?_));refine A8 rfl (fun hb6=>?_) (fun hb6=>?_)
   ·have hc6:=bp hb6;have hst:Cs s (fl||Bj p) q qs a lk= .inl 20:=by unfold Cs;rw[if_pos hc6]
    refine w_ (Ak (h:=s_ (h:=a_ (h:=e_ (A4 (A6 (AK (A6 (AK (A6 (?_)))))))))));refine A9 ?_;rw[MS hc1 (by omega) ha had (hT.symm.trans ((HJ (F:=fl||Bj p) (da:=da) (na:=na) (ea:=ea) hv.files h8).1 _ hst)) (by decide)];rfl
   have hc6:=bp hb6;refine AB (q_ (w_ (m_ (h:=n_ (h:=Bl (h:=e_ (?_)))))));refine A8 rfl (fun hb7=>?_) (fun hb7=>?_)
   ·have hc7:=bp hb7;have hst:Cs s (fl||Bj p) q qs a lk= .inl 36:=by unfold Cs;rw[if_neg (by simp[hc6]),if_pos (by omega)]
    refine w_ (Ak (h:=s_ (h:=a_ (h:=e_ (A4 (A6 (AK (A6 (AK (A6 (?_)))))))))));refine A9 ?_;rw[MS hc1 (by omega) ha had (hT.symm.trans ((HJ (F:=fl||Bj p) (da:=da) (na:=na) (ea:=ea) hv.files h8).1 _ hst)) (by decide)];rfl
   have hc7:=bp hb7;have hq12:q.size≤12:=by omega
   refine AB (q_ (w_ (m_ (h:=AD (h:=m_ (h:=?_))))));refine AW false rfl rfl (fun hb8=>?_) (fun hb8=>?_)
   ·have hc8:=bp hb8;refine A3 (h:=A3 (h:=AF (h:=e_ (B8 (h:=q_ (w_ (m_ (h:=AD (h:=e_ (?_))))))))));refine A8 rfl (fun hb9=>?_) (fun hb9=>?_)
    ·have hc9:=bp hb9;rw[hc8]at hc9;exact absurd hc9 (by decide)
    have hc9:=bp hb9;have hst:Cs s (fl||Bj p) q qs a lk= .inr ⟨qs,a,⟨#[]⟩,a,true,lk⟩:=by unfold Cs;rw[if_neg (by simp[hc6]),if_neg (by omega),if_pos hc8]
    refine AB (w_ (l_ (h:=l_ (h:=Ak (h:=s_ (h:=e_ (BT (Ao (BU (?_))))))))));refine AE ?_;obtain⟨g1,g2,g3⟩:=(HJ (F:=fl||Bj p) (da:=da) (na:=na) (ea:=ea) hv.files h8).2 _ hst;exact⟨_,_,g3,⟨_,_,g1,(by first|exact BV _|exact hq12),g2.symm.trans hT,rfl,Nat.le_trans (Nat.le_of_lt g3) hmq,rfl⟩,(by(try simp only[List.map_append]);exact Av 5 0 rfl rfl rfl rfl ((by repeat (first|exact Sub.nil|refine Ax rfl rfl ?_|refine B1 ?_|refine B2 rfl ?_|refine B3 rfl ?_))))⟩
   have hc8:=bp hb8;refine m_ (h:=AD (h:=AM (h:=e_ (?_))));refine A8 rfl (fun hb10=>?_) (fun hb10=>?_)
   ·have hc10:=bp hb10;refine q_ (w_ (m_ (h:=AD (h:=e_ (?_)))));refine A8 rfl (fun hb11=>?_) (fun hb11=>?_)
    ·have hc11:=bp hb11;have hst:Cs s (fl||Bj p) q qs a lk= .inr ⟨qs,E3 s s.mounts.length (Em s (s.mounts.length+1) a),⟨#[]⟩,E3 s s.mounts.length (Em s (s.mounts.length+1) a),true,lk⟩:=by unfold Cs;rw[if_neg (by simp[hc6]),if_neg (by omega),if_neg hc8,if_pos hc11]
     refine Bf ([(0,BK s),(3,AN a)]) 5 (h:=AJ 0 (h:=AJ 1 (h:=AJ 2 (h:=?_))));refine c_ 3 rfl (AG (Zn hs.b hv (s.mounts.length+1) a (by have:=ZT (s:=s) a.1;omega)) ?_);rintro r rfl;refine o_ (h:=?_);refine c_ 4 rfl (AG (Qk hs.b hv (Em s (s.mounts.length+1) a)) ?_);rintro r rfl;refine o_ (h:=?_);refine BH 5 rfl (BC rfl rfl rfl rfl rfl rfl (by repeat constructor) (by repeat constructor) ?_);refine o_ (h:=z_ (h:=t_ (w_ (l_ (h:=l_ (h:=Ak (h:=s_ (h:=e_ (BT (Ao (BU (?_))))))))))));refine AE ?_;obtain⟨g1,g2,g3⟩:=(HJ (F:=fl||Bj p) (da:=da) (na:=na) (ea:=ea) hv.files h8).2 _ hst;exact⟨_,_,g3,⟨_,_,g1,(by first|exact BV _|exact hq12),g2.symm.trans hT,rfl,Nat.le_trans (Nat.le_of_lt g3) hmq,rfl⟩,(by(try simp only[List.map_append]);exact Av 5 0 rfl rfl rfl rfl ((by repeat (first|exact Sub.nil|refine Ax rfl rfl ?_|refine B1 ?_|refine B2 rfl ?_|refine B3 rfl ?_))))⟩
    have hc11:=bp hb11;exact absurd hc10 hc11
   have hc10:=bp hb10;refine AB (w_ (f_ (h:=l_ (h:=l_ (h:=m_ (h:=?_))))));refine A7 rfl (AG (He s.files a q hs.b.files) ?_);rintro r rfl;refine m_ (h:=x_ (h:=x_ (h:=Al (h:=s_ (h:=a_ (h:=e_ (q_ (w_ (m_ (h:=Ap (h:=e_ (?_))))))))))));refine A8 rfl (fun hb12=>?_) (fun hb12=>?_)
   ·have hc12:=bp hb12;refine q_ (w_ (m_ (h:=n_ (h:=Bl (h:=m_ (h:=?_))))));refine AW false rfl rfl (fun hb13=>?_) (fun hb13=>?_)
    ·have hc13:=bp hb13;have hne:qs≠[]:=fun e=>by rw[e]at hc13;simp at hc13
     have hst:Cs s (fl||Bj p) q qs a lk= .inl 2:=by unfold Cs;rw[if_neg (by simp[hc6]),if_neg (by omega),if_neg hc8,if_neg hc10,if_pos hc12,if_pos (.inl hne)]
     refine A3 (h:=A3 (h:=A3 (h:=AF (h:=e_ (B8 (h:=w_ (Ak (h:=s_ (h:=a_ (h:=e_ (A4 (A6 (A6 (AK (A6 (AK (A6 (?_))))))))))))))))));refine A9 ?_;rw[MS hc1 (by omega) ha had (hT.symm.trans ((HJ (F:=fl||Bj p) (da:=da) (na:=na) (ea:=ea) hv.files h8).1 _ hst)) (by decide)];rfl
    have hc13:=bp hb13;have hne:¬qs≠[]:=fun e=>e (ER (by omega));refine m_ (h:=?_);refine B4 (AG (PL q (by omega)) ?_);rintro r rfl;refine B9 (h:=AM (h:=e_ (?_)));refine A8 rfl (fun hb14=>?_) (fun hb14=>?_)
    ·have hc14:=bp hb14;have hst:Cs s (fl||Bj p) q qs a lk= .inl 2:=by unfold Cs;rw[if_neg (by simp[hc6]),if_neg (by omega),if_neg hc8,if_neg hc10,if_pos hc12,if_pos (.inr hc14)]
     refine w_ (Ak (h:=s_ (h:=a_ (h:=e_ (A4 (A6 (A6 (AK (A6 (AK (A6 (?_))))))))))));refine A9 ?_;rw[MS hc1 (by omega) ha had (hT.symm.trans ((HJ (F:=fl||Bj p) (da:=da) (na:=na) (ea:=ea) hv.files h8).1 _ hst)) (by decide)];rfl
    have hc14:=bp hb14;have hst:Cs s (fl||Bj p) q qs a lk= .inr ⟨[],a,q,(0,0),false,lk⟩:=by unfold Cs;rw[if_neg (by simp[hc6]),if_neg (by omega),if_neg hc8,if_neg hc10,if_pos hc12,if_neg (fun e=>e.elim hne (by simp[hc14]))]
    have hfin:=hT.symm.trans (((HJ (F:=fl||Bj p) (da:=da) (na:=na) (ea:=ea) hv.files h8).2 _ hst).2.1.trans (UT rfl));refine AB (w_ (l_ (h:=m_ (h:=Ak (h:=s_ (h:=e_ (BT (Ao (Vn rfl (Ao (BU (?_))))))))))));refine AE ?_;exact⟨_,⟨_,_,hfin,(by first|exact Nat.le_trans hna (by decide)|exact Nat.le_trans hq12 (by decide)),rfl⟩,(wk 5 0)⟩
   have hc12:=bp hb12;refine AB (w_ (f_ (h:=l_ (h:=l_ (h:=?_)))));refine A7 rfl (AG (E0 s.files (AZ s.files a q).1 hs.b.files) ?_);rintro r rfl;refine m_ (h:=x_ (h:=x_ (h:=Al (h:=s_ (h:=a_ (h:=e_ (q_ (?_))))))));refine FZ (⟨look [(3, .v (.bool fl)),(4, .bp 0 0),(8, .bp 2 0),(10, .sl 1 (qs.map FT) none),(12, .v (.bool (Bj p))),(13, .bp 3 0),(14, .bp 4 0),(15, .v (.int .i64 (lk:Int))),(16, .v (.string q)),(17, .bp 5 0),(19, .bp 6 0),(130, .v (.bool (decide ((B5 s.files (AZ s.files a q).1).kind=3)&&(decide (0<((qs.map FT).length:Int))||(fl||Bj p)))))],⟨[BK s,AN start,Ar EB,AN a,MT ⟨q::qs,da,na,a,ea,lk⟩,AN (AZ s.files a q).1,Am (B5 s.files (AZ s.files a q).1)],[]⟩⟩) ?_ ?_
   ·skip
    refine AR (f_ (h:=l_ (h:=AD (h:=m_ (h:=?_)))));refine AW true rfl rfl (fun hb15=>?_) (fun hb15=>?_)
    ·have hc15:=bp hb15;refine m_ (h:=n_ (h:=Bl (h:=m_ (h:=?_))));refine AW false rfl rfl (fun hb16=>?_) (fun hb16=>?_)
     ·have hc16:=bp hb16;refine A3 (h:=AF (h:=m_ (h:=A3 (h:=AF (h:=AF (h:=AP (?_)))))));refine AE ?_
      first|(exfalso;first|contradiction|omega)|exact Av 7 0 rfl rfl rfl rfl (by repeat (first|exact Sub.nil|refine Ax rfl rfl ?_|refine B1 ?_|refine B2 rfl ?_|refine B3 rfl ?_|(apply Sub.of;(focus exact rfl);(focus exact LeA.of_eq (vb (by first|(rw[hb15];rfl)|(rw[hb15,hb16];rfl)|(rw[hb15,hb16,hb17];rfl))));(focus exact rfl))))
     have hc16:=bp hb16;refine m_ (h:=AM (h:=m_ (h:=?_)));refine AW false rfl rfl (fun hb17=>?_) (fun hb17=>?_)
     ·have hc17:=bp hb17;refine A3 (h:=AF (h:=AF (h:=AP (?_))));refine AE ?_
      first|(exfalso;first|contradiction|omega)|exact Av 7 0 rfl rfl rfl rfl (by repeat (first|exact Sub.nil|refine Ax rfl rfl ?_|refine B1 ?_|refine B2 rfl ?_|refine B3 rfl ?_|(apply Sub.of;(focus exact rfl);(focus exact LeA.of_eq (vb (by first|(rw[hb15];rfl)|(rw[hb15,hb16];rfl)|(rw[hb15,hb16,hb17];rfl))));(focus exact rfl))))
     have hc17:=bp hb17;refine m_ (h:=AM (h:=AF (h:=AP (?_))));refine AE ?_
     first|(exfalso;first|contradiction|omega)|exact Av 7 0 rfl rfl rfl rfl (by repeat (first|exact Sub.nil|refine Ax rfl rfl ?_|refine B1 ?_|refine B2 rfl ?_|refine B3 rfl ?_|(apply Sub.of;(focus exact rfl);(focus exact LeA.of_eq (vb (by first|(rw[hb15];rfl)|(rw[hb15,hb16];rfl)|(rw[hb15,hb16,hb17];rfl))));(focus exact rfl))))
    have hc15:=bp hb15;refine A3 (h:=A3 (h:=A3 (h:=A3 (h:=AX (h:=A3 (h:=A3 (h:=AX (h:=A3 (h:=AM (h:=AP (?_)))))))))));refine AE ?_
    first|(exfalso;first|contradiction|omega)|exact Av 7 0 rfl rfl rfl rfl (by repeat (first|exact Sub.nil|refine Ax rfl rfl ?_|refine B1 ?_|refine B2 rfl ?_|refine B3 rfl ?_|(apply Sub.of;(focus exact rfl);(focus exact LeA.of_eq (vb (by first|(rw[hb15];rfl)|(rw[hb15,hb16];rfl)|(rw[hb15,hb16,hb17];rfl))));(focus exact rfl))))
   skip
   refine A8 rfl (fun hb18=>?_) (fun hb18=>?_)
   ·have hc18:=bp hb18
    have hlk:(B5 s.files (AZ s.files a q).1).kind=3∧(qs≠[]∨(fl||Bj p)=true):=by
     rw[Bool.and_eq_true,decide_eq_true_eq,Bool.or_eq_true,decide_eq_true_eq]at hc18;exact⟨hc18.1,hc18.2.imp (fun h e=>by rw[e]at h;simp at h) id⟩
    refine q_ (w_ (m_ (h:=AD (h:=e_ (?_)))));refine A8 rfl (fun hb19=>?_) (fun hb19=>?_)
    ·have hc19:=bp hb19;have hst:Cs s (fl||Bj p) q qs a lk= .inl 40:=by unfold Cs;rw[if_neg (by simp[hc6]),if_neg (by omega),if_neg hc8,if_neg hc10,if_neg (by simp[hc12]),if_pos hlk,if_pos (by omega)]
     refine w_ (Ak (h:=s_ (h:=a_ (h:=e_ (A4 (A6 (A6 (AK (A6 (AK (A6 (?_))))))))))));refine A9 ?_;rw[MS hc1 (by omega) ha had (hT.symm.trans ((HJ (F:=fl||Bj p) (da:=da) (na:=na) (ea:=ea) hv.files h8).1 _ hst)) (by decide)];rfl
    have hc19:=bp hb19;refine AB (w_ (m_ (h:=?_)));refine A7 rfl (Kb rfl rfl (by omega) ?_);refine a_ (h:=e_ (w_ (f_ (h:=l_ (h:=?_)))));refine A7 rfl (AG (QU (B5 s.files (AZ s.files a q).1).target (by omega)) ?_);rintro r ⟨ps,hps,rfl⟩;obtain rfl:=US hps;clear hps;refine m_ (h:=x_ (h:=x_ (h:=x_ (h:=a_ (h:=a_ (h:=a_ (h:=e_ (q_ (w_ (m_ (h:=e_ (?_))))))))))));refine A8 rfl (fun hb20=>?_) (fun hb20=>?_)
    ·have hc20:=bp hb20;have hst:Cs s (fl||Bj p) q qs a lk= .inr ⟨EC (B5 s.files (AZ s.files a q).1).target++qs,FV s,⟨#[]⟩,FV s,true,lk+1⟩:=by unfold Cs;rw[if_neg (by simp[hc6]),if_neg (by omega),if_neg hc8,if_neg hc10,if_neg (by simp[hc12]),if_pos hlk,if_neg (by omega),if_pos hc20]
     refine AR (l_ (h:=?_));refine A7 rfl (AG (Uw s hs.b hv) ?_);rintro r rfl;refine s_ (h:=e_ (w_ (m_ (h:=EU (h:=m_ (h:=EU (h:=a_ (h:=e_ (w_ (l_ (h:=l_ (h:=Ak (h:=s_ (h:=e_ (BT (Ao (BU (?_))))))))))))))))));refine AE ?_;obtain⟨g1,g2,g3⟩:=(HJ (F:=fl||Bj p) (da:=da) (na:=na) (ea:=ea) hv.files h8).2 _ hst;exact⟨_,_,g3,⟨_,_,g1,(by first|exact BV _|exact hq12),g2.symm.trans hT,rfl,Nat.le_trans (Nat.le_of_lt g3) hmq,rfl⟩,(by(try simp only[List.map_append]);exact Av 5 0 rfl rfl rfl rfl ((by repeat (first|exact Sub.nil|refine Ax rfl rfl ?_|refine B1 ?_|refine B2 rfl ?_|refine B3 rfl ?_))))⟩
    have hc20:=bp hb20;have hst:Cs s (fl||Bj p) q qs a lk= .inr ⟨EC (B5 s.files (AZ s.files a q).1).target++qs,a,⟨#[]⟩,a,true,lk+1⟩:=by unfold Cs;rw[if_neg (by simp[hc6]),if_neg (by omega),if_neg hc8,if_neg hc10,if_neg (by simp[hc12]),if_pos hlk,if_neg (by omega),if_neg (by simp[hc20])]
    refine AB (w_ (m_ (h:=EU (h:=m_ (h:=EU (h:=a_ (h:=e_ (w_ (l_ (h:=l_ (h:=Ak (h:=s_ (h:=e_ (BT (Ao (BU (?_)))))))))))))))));refine AE ?_;obtain⟨g1,g2,g3⟩:=(HJ (F:=fl||Bj p) (da:=da) (na:=na) (ea:=ea) hv.files h8).2 _ hst;exact⟨_,_,g3,⟨_,_,g1,(by first|exact BV _|exact hq12),g2.symm.trans hT,rfl,Nat.le_trans (Nat.le_of_lt g3) hmq,rfl⟩,(by(try simp only[List.map_append]);exact Av 5 0 rfl rfl rfl rfl ((by repeat (first|exact Sub.nil|refine Ax rfl rfl ?_|refine B1 ?_|refine B2 rfl ?_|refine B3 rfl ?_))))⟩
   have hc18:=bp hb18
   have hlk:¬((B5 s.files (AZ s.files a q).1).kind=3∧(qs≠[]∨(fl||Bj p)=true)):=fun h=>by
    rw[decide_eq_true h.1,Bool.true_and,Bool.or_eq_false_iff]at hc18;rcases h.2 with e|e
    ·exact e (ER (by have:=of_decide_eq_false hc18.1;omega))
    rw[hc18.2]at e;cases e
   have hst:Cs s (fl||Bj p) q qs a lk= .inr ⟨qs,a,q,E3 s s.mounts.length (AZ s.files a q).1,true,lk⟩:=by unfold Cs;rw[if_neg (by simp[hc6]),if_neg (by omega),if_neg hc8,if_neg hc10,if_neg (by simp[hc12]),if_neg hlk]
   refine AB (Bf ([(0,BK s),(3,AN a),(5,AN (AZ s.files a q).1)]) 6 (h:=AJ 0 (h:=AU 1 (h:=AJ 2 (h:=AJ 3 (h:=?_))))));refine c_ 4 rfl (AG (Qk hs.b hv (AZ s.files a q).1) ?_);rintro r rfl;refine o_ (h:=Hc 5 (h:=?_));refine BH 6 rfl (BC rfl rfl rfl rfl rfl rfl (by repeat constructor) (by repeat constructor) ?_);refine o_ (h:=z_ (h:=Ah (?_)));refine AE ?_;obtain⟨g1,g2,g3⟩:=(HJ (F:=fl||Bj p) (da:=da) (na:=na) (ea:=ea) hv.files h8).2 _ hst;exact⟨_,_,g3,⟨_,_,g1,(by first|exact BV _|exact hq12),g2.symm.trans hT,rfl,Nat.le_trans (Nat.le_of_lt g3) hmq,rfl⟩,(by(try simp only[List.map_append]);exact Av 5 0 rfl rfl rfl rfl ((by repeat (first|exact Sub.nil|refine Ax rfl rfl ?_|refine B1 ?_|refine B2 rfl ?_|refine B3 rfl ?_))))⟩
  have hc5:=bp hb5;have hc5:¬(0:Int)<((ps0.map FT).length:Int):=hc5;have e5:ps0=[]:=ER (by omega);subst e5;have hfin:=hT.symm.trans (UT (s:=s) (fl:=fl||Bj p) (σ:=⟨[],da,na,a,ea,lk⟩) rfl);refine BT (Ao (Ao (BU (?_))));refine AE ?_;exact⟨_,⟨_,_,hfin,(by first|exact Nat.le_trans hna (by decide)|exact Nat.le_trans hq12 (by decide)),rfl⟩,(wk 5 0)⟩
 rintro t ⟨τ,d,hT,hnm,rfl⟩;refine q_ (?_);refine FZ (⟨look [(4, .bp 0 0),(8, .bp 2 0),(12, .v (.bool (Bj p))),(14, .bp 4 0),(171, .v (.bool (Bj p&&(τ.ex&& !Ay s.files τ.file))))],⟨[BK s,AN start,Ar EB,AN d,MT τ],[]⟩⟩) ?_ ?_
 ·skip
  refine AR (m_ (h:=m_ (h:=?_)));refine AW true rfl rfl (fun hb21=>?_) (fun hb21=>?_)
  ·have hc21:=bp hb21;refine f_ (h:=l_ (h:=AF (h:=m_ (h:=?_))));refine AW true rfl rfl (fun hb22=>?_) (fun hb22=>?_)
   ·have hc22:=bp hb22;have hx:τ.ex=true:=hb22;refine f_ (h:=l_ (h:=f_ (h:=l_ (h:=?_))));refine B4 (AG (Hd s.files τ.file hs.b.files) ?_);rintro r rfl;refine B9 (h:=AF (h:=AP (?_)));refine AE ?_
    first|(exfalso;first|contradiction|omega)|exact Av 5 0 rfl rfl rfl rfl (by repeat (first|exact Sub.nil|refine Ax rfl rfl ?_|refine B1 ?_|refine B2 rfl ?_|refine B3 rfl ?_|(apply Sub.of;(focus exact rfl);(focus exact LeA.of_eq (vb (by first|(rw[hb21];rfl)|(rw[hb21,hx];rfl))));(focus exact rfl))))
   have hc22:=bp hb22;have hx:τ.ex=false:=hb22;refine A3 (h:=A3 (h:=A3 (h:=A3 (h:=A3 (h:=A3 (h:=AM (h:=AP (?_))))))));refine AE ?_
   first|(exfalso;first|contradiction|omega)|exact Av 5 0 rfl rfl rfl rfl (by repeat (first|exact Sub.nil|refine Ax rfl rfl ?_|refine B1 ?_|refine B2 rfl ?_|refine B3 rfl ?_|(apply Sub.of;(focus exact rfl);(focus exact LeA.of_eq (vb (by first|(rw[hb21];rfl)|(rw[hb21,hx];rfl))));(focus exact rfl))))
  have hc21:=bp hb21;refine A3 (h:=A3 (h:=AM (h:=m_ (h:=A3 (h:=A3 (h:=A3 (h:=A3 (h:=A3 (h:=A3 (h:=AM (h:=AP (?_))))))))))));refine AE ?_
  first|(exfalso;first|contradiction|omega)|exact Av 5 0 rfl rfl rfl rfl (by repeat (first|exact Sub.nil|refine Ax rfl rfl ?_|refine B1 ?_|refine B2 rfl ?_|refine B3 rfl ?_|(apply Sub.of;(focus exact rfl);(focus exact LeA.of_eq (vb (by first|(rw[hb21];rfl)|(rw[hb21,hx];rfl))));(focus exact rfl))))
 skip
 refine A8 rfl (fun hb23=>?_) (fun hb23=>?_)
 ·have hc23:=bp hb23;refine w_ (Ak (h:=s_ (h:=a_ (h:=e_ (A4 (A6 (?_)))))));refine A9 ?_;rw[bM hc1 (by omega) ha had hT (by simp only[Bool.and_eq_true,Bool.not_eq_true']at hc23;exact hc23)];rfl
 have hc23:=bp hb23;refine AB (w_ (m_ (h:=f_ (h:=s_ (h:=e_ (q_ (w_ (l_ (h:=f_ (h:=l_ (h:=?_)))))))))));refine A7 rfl (AG (Zl hs.b hv τ.dir) ?_);rintro r rfl;refine m_ (h:=x_ (h:=x_ (h:=a_ (h:=a_ (h:=e_ (w_ (m_ (h:=e_ (?_)))))))));refine A8 rfl (fun hb24=>?_) (fun hb24=>?_)
 ·have hc24:=bp hb24;refine w_ (m_ (h:=f_ (h:=s_ (h:=e_ (w_ (f_ (h:=l_ (h:=Ap (h:=e_ (?_))))))))));refine A8 rfl (fun hb25=>?_) (fun hb25=>?_)
  ·have hc25:=bp hb25;refine AR (m_ (h:=f_ (h:=l_ (h:=?_))));refine A7 rfl (AG (UF (DT s τ.dir).1 τ.name (by have:=hw τ.dir;omega) (by omega)) ?_);rintro r rfl;refine f_ (h:=s_ (h:=e_ (w_ (l_ (h:=s_ (h:=a_ (h:=e_ (A4 (?_)))))))));refine A9 ?_;rw[Qj hc1 (by omega) ha had hT (fun h=>by rw[h.1,h.2.1,h.2.2]at hc23;cases hc23),show Jo s (Bj p) τ=⟨τ.dir,τ.name,τ.file,τ.ex,Bj p,Gl (DT s τ.dir).1 τ.name⟩ by unfold Jo;rw[if_pos hc24,if_neg hc25]];rfl
  have hc25:=bp hb25;refine AB (w_ (l_ (h:=s_ (h:=a_ (h:=e_ (A4 (?_)))))));refine A9 ?_;rw[Qj hc1 (by omega) ha had hT (fun h=>by rw[h.1,h.2.1,h.2.2]at hc23;cases hc23),show Jo s (Bj p) τ=⟨τ.dir,τ.name,τ.file,τ.ex,Bj p,(DT s τ.dir).1⟩ by unfold Jo;rw[if_pos hc24,if_pos hc25]];rfl
 have hc24:=bp hb24;refine AB (w_ (l_ (h:=s_ (h:=a_ (h:=e_ (A4 (?_)))))));refine A9 ?_;rw[Qj hc1 (by omega) ha had hT (fun h=>by rw[h.1,h.2.1,h.2.2]at hc23;cases hc23),show Jo s (Bj p) τ=⟨τ.dir,τ.name,τ.file,τ.ex,Bj p,⟨#[]⟩⟩ by unfold Jo;rw[if_neg (by simp[hc24])]];rfl
end
theorem Ux:∀(l:List Dsc) (k:Nat),EN k l≤k+l.length
 |[],k=>BN _
 |d::l,k=>by
   unfold EN;split
   ·have:=Ux l (k+1);simp only[List.length_cons];omega
   omega
theorem bO{α:Type}{l:List α}{j:Nat}{x:α}(h:l[j]?=some x):l.drop j=x::l.drop (j+1):=by
 obtain⟨hl,rfl⟩:=At.1 h;exact List.drop_eq_getElem_cons hl
def Uy(p:Prc)(x:AV):List AV:=[.v (.int .i64 p.pid), .v (.int .i64 p.ppid), .v (.int .i64 p.uid), .v (.int .i64 p.euid), .v (.int .i64 p.gid), .v (.int .i64 p.egid), .v (.int .i64 p.auid), .v (.int .i64 p.ses), .v (.int .i64 p.cwd.1), .v (.int .i64 p.cwd.2), .v (.string p.comm), .v (.string p.exe),x, .v (.bool p.audited)]
theorem Uz(p:Prc)(rows:List (List AV))(g:Option Nat)(l:List Dsc)(h:rows=l.map Eu):LeA (.agg (Uy p (.sl 4 rows g))) (.agg (Aq {p with opens:=l})):=by
 subst h;unfold Uy Aq
 repeat (first|exact AA _|exact LeA.tok _ _ _|refine LeA.agg ?_|exact LeL.nil|refine LeL.cons ?_ ?_)
def CU(R:Tab×Int):AV:= .tup [.agg (As R.1), .v (.int .i64 R.2)]
def JL(R:Tab×Int×Int):AV:= .tup [.agg (As R.1), .v (.int .i64 R.2.1), .v (.int .i64 R.2.2)]
theorem EQ(e:Int):LeA (.tup [.agg CX, .v (.int .i64 e)]) (CU (DH,e)):=(by repeat (first|exact AA _|exact LeA.nil _|exact LeL.refl _|refine LeA.agg ?_|refine LeA.tup ?_|exact LeL.nil|refine LeL.cons ?_ ?_|exact LeA.any _))
theorem MU(n e:Int):LeA (.tup [.agg CX, .v (.int .i64 n), .v (.int .i64 e)]) (JL (DH,n,e)):=(by repeat (first|exact AA _|exact LeA.nil _|exact LeL.refl _|refine LeA.agg ?_|refine LeA.tup ?_|exact LeL.nil|refine LeL.cons ?_ ?_|exact LeA.any _))
def Ql(R:Syst×Int):AV:= .tup [.agg (C2 R.1), .v (.int .i64 R.2)]
def CH(w:Wrk):AV:= .sl 8 (w.found.map Ar) none
section
theorem V0(t:Tab)(pid:Int)(a:AQ)(flags:Int)(ht:TabB t):AFn prog 199 [.agg (As t), .v (.int .i64 pid), .agg (AN a), .v (.int .i64 flags)] (fun r=>r=JL (Eb t pid a flags)):=by
 have h8:=G0 ht pid;have hol:((AY t pid).opens.map Eu).length=(AY t pid).opens.length:=List.length_map _;have hfl:EN 0 (AY t pid).opens≤(AY t pid).opens.length:=by have:=Ux (AY t pid).opens 0;omega
 refine enter Tryz.func199 rfl rfl rfl rfl rfl 0 rfl ?_;refine w_ (b_ (h:=b_ (h:=Al (h:=a_ (h:=a_ (h:=e_ (w_ (l_ (h:=m_ (h:=?_))))))))));refine A7 rfl (AG (GM t pid ht) ?_);rintro r rfl;refine m_ (h:=x_ (h:=x_ (h:=Al (h:=s_ (h:=a_ (h:=e_ (q_ (w_ (m_ (h:=B9 (h:=e_ (?_))))))))))));refine A8 rfl (fun hb1=>?_) (fun hb1=>?_)
 ·have hc1:=bp hb1;refine w_ (Ak (h:=s_ (h:=a_ (h:=a_ (h:=e_ (A4 (A6 (?_))))))));refine Ai (r:=JL (Eb t pid a flags)) none (h5:=?_) (h6:=⟨rfl,rfl,rfl⟩);rw[Eb,if_pos (by simpa using hc1)];exact MU _ _
 have hc1:=bp hb1;have hhas:C7 t pid=true:=by simpa using hc1
 refine AB (q_ (w_ (f_ (h:=l_ (h:=n_ (h:=Cw (h:=e_ (?_))))))));refine A8 rfl (fun hb2=>?_) (fun hb2=>?_)
 ·have hc2:=bp hb2;refine w_ (Ak (h:=s_ (h:=a_ (h:=a_ (h:=e_ (A4 (A6 (?_))))))));refine Ai (r:=JL (Eb t pid a flags)) none (h5:=?_) (h6:=⟨rfl,rfl,rfl⟩);rw[Eb,if_neg (by simp[hhas]),if_pos (by omega)];exact MU _ _
 have hc2:=bp hb2;refine AB (w_ (a_ (h:=e_ (?_))));refine BR (fun s=>s=⟨look [(3, .v (.int .i64 flags)),(4, .bp 0 0),(6, .bp 1 0),(8, .bp 2 0),(11, .bp 3 0),(13, .v (.int .i64 (EN 0 (AY t pid).opens:Nat)))],⟨[As t,AN a,CX,Aq (AY t pid)],[]⟩⟩) ?_ ?_
 ·skip
  refine Ag (?_);refine Be (fun m s=>∃j:Nat,j≤(AY t pid).opens.length∧m=(AY t pid).opens.length - j∧EN 0 (AY t pid).opens=EN j ((AY t pid).opens.drop j)∧s=⟨look [(3, .v (.int .i64 flags)),(4, .bp 0 0),(6, .bp 1 0),(8, .bp 2 0),(11, .bp 3 0),(13, .v (.int .i64 (j:Int)))],⟨[As t,AN a,CX,Aq (AY t pid)],[]⟩⟩) ((AY t pid).opens.length) ((wk 4 0)) (⟨0,BV _,rfl,rfl,rfl⟩) ?_;rintro m s ⟨j,hj,rfl,hfd,rfl⟩;refine q_ (w_ (m_ (h:=f_ (h:=l_ (h:=n_ (h:=BB (h:=m_ (h:=?_))))))));refine AW true rfl rfl (fun hb3=>?_) (fun hb3=>?_)
  ·have hc3:=bp hb3;obtain⟨hlt,d,hy,hrow, -⟩:=C1 Eu hc3;have hdr:=bO hy;refine f_ (h:=l_ (h:=m_ (h:=i_ (h:=f_ (h:=l_ (h:=m_ (h:=AD (h:=AF (h:=e_ (?_))))))))));refine A8 rfl (fun hb4=>?_) (fun hb4=>?_)
   ·have hc4:=bp hb4;have heq:d.fd=(j:Int):=by simpa using hc4
    refine AB (Ag (AR (m_ (h:=BD (h:=a_ (h:=AP (Ah (?_))))))));refine AE ?_;refine⟨_,_,?_,⟨j+1,by omega,rfl,by rw[hfd,hdr,EN,if_pos heq],rfl⟩,(wk 4 0)⟩;omega
   have hc4:=bp hb4;have hend:EN 0 (AY t pid).opens=j:=by rw[hfd,hdr,EN,if_neg (by simpa using hc4)]
   refine BT (Ao (Ao (BU (?_))));refine AE ?_;refine⟨_,rfl,?_⟩;rw[hend];exact(wk 4 0)
  have hc3:=bp hb3;have hend:EN 0 (AY t pid).opens=j:=by rw[hfd,CA Eu hj hc3,List.drop_length];rfl
  refine A3 (h:=A3 (h:=A3 (h:=A3 (h:=A3 (h:=A3 (h:=A3 (h:=A3 (h:=AM (h:=e_ (Bp (h:=BT (Ao (Ao (BU (?_)))))))))))))));refine AE ?_;refine⟨_,rfl,?_⟩;rw[hend];exact(wk 4 0)
 rintro s rfl;refine w_ (f_ (h:=l_ (h:=m_ (h:=?_))));refine A7 rfl (Ot (k:=EN 0 (AY t pid).opens) rfl rfl rfl (by omega) ?_)
 first|refine A7 rfl (Dx rfl rfl rfl (by simp;omega) (by repeat constructor) ?_)|refine A7 rfl (Dy rfl rfl (by simp;omega) (by repeat constructor) ?_)
 refine a_ (h:=e_ (w_ (m_ (h:=m_ (h:=l_ (h:=m_ (h:=Ak (h:=Bd (h:=?_)))))))))
 first|refine A7 rfl (Dx rfl rfl rfl (by simp;omega) (by repeat constructor) ?_)|refine A7 rfl (Dy rfl rfl (by simp;omega) (by repeat constructor) ?_)
 refine a_ (h:=e_ (w_ (m_ (h:=f_ (h:=l_ (h:=m_ (h:=?_)))))));refine A7 rfl (RY (l:=EN 0 (AY t pid).opens) rfl rfl rfl (by omega) ?_)
 first|refine A7 rfl (Dx rfl rfl rfl (by simp;omega) (by repeat constructor) ?_)|refine A7 rfl (Dy rfl rfl (by simp;omega) (by repeat constructor) ?_)
 refine f_ (h:=s_ (h:=e_ (w_ (l_ (h:=?_)))));refine A7 rfl (FH (y:= .agg (Aq {AY t pid with opens:=L5 (AY t pid).opens (EN 0 (AY t pid).opens) ⟨(EN 0 (AY t pid).opens:Nat),a,flags⟩})) (GV rfl rfl rfl ⟨rfl,rfl⟩) (Uz _ _ _ _ (by simp[L5,Eu];rfl)) ?_);refine A7 rfl (AG (KP t {AY t pid with opens:=L5 (AY t pid).opens (EN 0 (AY t pid).opens) ⟨(EN 0 (AY t pid).opens:Nat),a,flags⟩} ht (Jq hhas) (by simp[L5];omega)) ?_);rintro r rfl;refine m_ (h:=s_ (h:=a_ (h:=a_ (h:=e_ (A4 (?_))))));refine A9 ?_;rw[Eb,if_neg (by simp[hhas]),if_neg (by omega)];rfl
theorem bP(a:AQ):AFn prog 111 [.agg (AN a)] (fun r=>r= .agg (As (ML a))):=by
 refine enter Tryz.func111 rfl rfl rfl rfl rfl 0 rfl ?_;refine w_ (b_ (h:=Al (h:=e_ (w_ (l_ (h:=?_))))));refine A7 rfl (FJ (y:= .agg (Aq ⟨1,0,0,0,0,0,4294967295,4294967295,a,⟨#[105,110,105,116]⟩,⟨#[47,105,110,105,116]⟩,[],true⟩)) (D8 ⟨rfl,rfl⟩) ?_);refine Bd (h:=Ak (h:=s_ (h:=e_ (A4 (?_)))));refine A9 ?_;rfl
theorem bQ(n:Int):AFn prog 60 [.v (.int .i64 n)] (fun r=>r=Ql (KM n)):=by
 refine enter Tryz.func60 rfl rfl rfl rfl rfl 0 rfl ?_;refine w_ (Al (h:=a_ (h:=e_ (w_ (m_ (h:=?_))))));refine A7 rfl (AG (XP n) ?_);rintro r rfl;refine m_ (h:=x_ (h:=x_ (h:=Al (h:=s_ (h:=a_ (h:=e_ (q_ (w_ (m_ (h:=Ap (h:=e_ (?_))))))))))));refine A8 rfl (fun hb1=>?_) (fun hb1=>?_)
 ·have hc1:=bp hb1;refine w_ (Ak (h:=m_ (h:=s_ (h:=a_ (h:=e_ (A4 (A6 (?_))))))));refine Ai (r:=Ql (KM n)) none (h5:=?_) (h6:=⟨rfl,rfl,rfl⟩);rw[KM,if_pos (by simpa using hc1)];exact(by repeat (first|exact AA _|exact LeA.nil _|exact LeL.refl _|refine LeA.agg ?_|refine LeA.tup ?_|exact LeL.nil|refine LeL.cons ?_ ?_|exact LeA.any _))
 have hc1:=bp hb1;refine AB (q_ (Bf ([(1,B0 (Eh n).1)]) 7 (h:=AJ 0 (h:=Hc 1 (h:=Hc 2 (h:=?_))))));refine c_ 3 rfl (AG (bP (0,1)) ?_);rintro r rfl;refine o_ (h:=Hc 4 (h:=?_));refine BH 5 rfl (BC rfl rfl rfl rfl rfl rfl (by repeat constructor) (by repeat constructor) ?_);refine o_ (h:=BO 6 (h:=z_ (h:=t_ (A4 (?_)))));refine Ai (r:=Ql (KM n)) none (h5:=?_) (h6:=⟨rfl,rfl,rfl⟩);rw[KM,if_neg (by simpa using hc1)];exact(by repeat (first|exact AA _|exact LeA.nil _|exact LeL.refl _|refine LeA.agg ?_|refine LeA.tup ?_|exact LeL.nil|refine LeL.cons ?_ ?_|exact LeA.any _))
theorem Jr(s:Syst)(hs:SpcB s.spc)(ht:TabB s.tab):AFn prog 94 [.agg (C2 s)] (fun r=>r= .agg (C2 s)):=by
 refine enter Tryz.func94 rfl rfl rfl rfl rfl 0 rfl ?_;refine w_ (b_ (h:=Al (h:=e_ (q_ (Bf ([(0,C2 s)]) 7 (h:=AO 0 (h:=?_)))))))
 first|refine AJ 1 (h:=?_)|refine BF 1 rfl (fun _ hS=>Cq (row:=C2 s) rfl (kb hS rfl) (BL rfl) rfl ⟨rfl,rfl⟩) ?_
 refine AO 3 (h:=?_)
 first|refine AJ 4 (h:=?_)|refine BF 4 rfl (fun _ hS=>Cq (row:=C2 s) rfl (kb hS rfl) (BL rfl) rfl ⟨rfl,rfl⟩) ?_
 refine c_ 2 rfl (AG (b8 s.spc hs) ?_);rintro r rfl;refine o_ (h:=?_);refine c_ 5 rfl (AG (Ue s.tab ht) ?_);rintro r rfl;refine o_ (h:=Hc 6 (h:=?_));refine BH 7 rfl (BC rfl rfl rfl rfl rfl rfl (by repeat constructor) (by repeat constructor) ?_);refine o_ (h:=z_ (h:=t_ (A4 (?_))));refine A9 ?_;rfl
theorem bR(s:Spc)(given:AT)(perm:Int)(f:Fnd)(hs:SpcB s):AFn prog 143 [.agg (BK s), .v (.string given), .v (.int .i64 perm), .agg (Ar f)] (fun r=>r= .agg (Cf (MN s given perm f))):=by
 refine enter Tryz.func143 rfl rfl rfl rfl rfl 0 rfl ?_;refine w_ (b_ (h:=b_ (h:=Al (h:=e_ (w_ (f_ (h:=l_ (h:=f_ (h:=l_ (h:=?_))))))))));refine A7 rfl (AG (E0 s.files f.file hs.files) ?_);rintro r rfl;refine m_ (h:=x_ (h:=x_ (h:=Al (h:=s_ (h:=a_ (h:=e_ (w_ (m_ (h:=f_ (h:=l_ (h:=f_ (h:=l_ (h:=f_ (h:=l_ (h:=f_ (h:=l_ (h:=f_ (h:=l_ (h:=f_ (h:=l_ (h:=f_ (h:=l_ (h:=f_ (h:=?_))))))))))))))))))))))));refine l_ (h:=m_ (h:=Ak (h:=s_ (h:=e_ (A4 (?_))))));refine A9 ?_;rfl
theorem HL(w:Wrk)(its:AV)(a:AQ)(want:Int)(hs:SpcB w.s.spc):AFn prog 197 [.fp (Cx w (CH w) its), .agg (AN a), .v (.int .i64 want)] (fun r=>r= .v (.bool (C5 w a want))):=by
 refine enter Tryz.func197 rfl rfl rfl rfl rfl 0 rfl ?_;refine w_ (b_ (h:=a_ (h:=e_ (q_ (Bf ([(0,AN a)]) 14 (h:=AU 0 (h:=BS 1 (h:=AO 2 (h:=AO 3 (h:=AO 4 (h:=AJ 5 (h:=AJ 6 (h:=?_)))))))))))));refine F6 7 11 rfl rfl ?_ ?_
 ·refine AG (E0 w.s.spc.files a hs.files) ?_;rintro r rfl;refine o_ (h:=?_);refine AU 8 (h:=BX 9 (h:=BX 10 (h:=?_)));refine c_ 11 rfl (CV (by repeat constructor) ?_);refine o_ (h:=?_);refine BH 12 rfl (BC rfl rfl rfl rfl rfl rfl (by repeat constructor) (by repeat constructor) ?_);refine o_ (h:=BO 13 (h:=z_ (h:=t_ (q_ (Cp 14 (h:=AJ 0 (h:=AU 1 (h:=BS 2 (h:=AO 3 (h:=AO 4 (h:=AJ 5 (h:=AU 6 (h:=BS 7 (h:=AO 8 (h:=AO 9 (h:=AJ 10 (h:=AU 11 (h:=?_))))))))))))))))));refine c_ 12 rfl (AG (Uh (B5 w.s.spc.files a) w.p.euid w.p.egid want) ?_);rintro r rfl;refine o_ (h:=BO 13 (h:=z_ (h:=t_ (A4 (?_)))));refine A9 ?_;rfl
 refine CV (by repeat constructor) ?_;refine o_ (h:=?_);refine c_ 7 rfl (AG (E0 w.s.spc.files a hs.files) ?_);rintro r rfl;refine o_ (h:=AU 8 (h:=BX 9 (h:=BX 10 (h:=?_))));refine BH 12 rfl (BC rfl rfl rfl rfl rfl rfl (by repeat constructor) (by repeat constructor) ?_);refine o_ (h:=BO 13 (h:=z_ (h:=t_ (q_ (Cp 14 (h:=AJ 0 (h:=AU 1 (h:=BS 2 (h:=AO 3 (h:=AO 4 (h:=AJ 5 (h:=AU 6 (h:=BS 7 (h:=AO 8 (h:=AO 9 (h:=AJ 10 (h:=AU 11 (h:=?_))))))))))))))))));refine c_ 12 rfl (AG (Uh (B5 w.s.spc.files a) w.p.euid w.p.egid want) ?_);rintro r rfl;refine o_ (h:=BO 13 (h:=z_ (h:=t_ (A4 (?_)))));refine A9 ?_;rfl
theorem Js(w:Wrk)(its:AV)(i:Nat)(f:Fnd)(hs:SpcB w.s.spc)(hf:w.found[i]?=some f):AFn prog 201 [.fp (Cx w (CH w) its), .v (.int .i64 (i:Int))] (fun r=>r= .v (.bool (Ay w.s.spc.files f.file))):=by
 have hrow:(w.found.map Ar)[i]?=some (Ar f):=by rw[List.getElem?_map,hf];rfl
 refine enter Tryz.func201 rfl rfl rfl rfl rfl 0 rfl ?_;refine w_ (a_ (h:=e_ (q_ (Cp 16 (h:=AU 0 (h:=BS 1 (h:=AO 2 (h:=AO 3 (h:=AO 4 (h:=AJ 5 (h:=AU 6 (h:=BS 7 (h:=AO 8 (h:=AJ 9 (h:=AU 10 (h:=Cg 11 (h:=AO 12 (h:=AJ 13 (h:=?_)))))))))))))))))));refine c_ 14 rfl (AG (Hd w.s.spc.files f.file hs.files) ?_);rintro r rfl;refine o_ (h:=BO 15 (h:=z_ (h:=t_ (A4 (?_)))));refine A9 ?_;rfl
theorem V1(w:Wrk)(its:AV)(a:AQ)(hs:SpcB w.s.spc)(hp:w.s.tab.ps.length≤1000):AFn prog 204 [.fp (Cx w (CH w) its), .agg (AN a)] (fun r=>r= .v (.bool (Fw w a))):=by
 refine enter Tryz.func204 rfl rfl rfl rfl rfl 0 rfl ?_;refine w_ (b_ (h:=a_ (h:=e_ (q_ (q_ (Cp 7 (h:=AU 0 (h:=BS 1 (h:=AO 2 (h:=AO 3 (h:=AJ 4 (h:=AJ 5 (h:=?_)))))))))))));refine c_ 6 rfl (AG (SX w.s.spc a hs) ?_);rintro r rfl;refine o_ (h:=z_ (h:=t_ (?_)));refine A8 rfl (fun hb1=>?_) (fun hb1=>?_)
 ·have hc1:=bp hb1;refine w_ (a_ (h:=e_ (A4 (A6 (?_)))));refine A9 ?_
  first|(exfalso;first|contradiction|omega)|(exact vb (by simp[Fw, *]))
 have hc1:=bp hb1;refine AB (q_ (w_ (a_ (h:=e_ (Ag (?_))))));refine Be (fun m s=>∃j:Nat,j≤w.s.tab.ps.length∧m=w.s.tab.ps.length - j∧(∀i y,i<j→w.s.tab.ps[i]?=some y→decide (y.cwd=a)=false)∧s=⟨look [(0, .fp (Cx w (CH w) its)),(3, .bp 0 0),(5, .v (.int .i64 (j:Int)))],⟨[AN a],[]⟩⟩) (w.s.tab.ps.length) ((wk 1 0)) (⟨0,BV _,rfl,fun i y hi=>by omega,rfl⟩) ?_;rintro m s ⟨j,hj,rfl,ha,rfl⟩;refine q_ (w_ (m_ (h:=m_ (h:=k_ (h:=f_ (h:=f_ (h:=f_ (h:=l_ (h:=n_ (h:=BB (h:=e_ (?_))))))))))));refine A8 rfl (fun hb2=>?_) (fun hb2=>?_)
 ·have hc2:=bp hb2;obtain⟨hlt,p,hy,hrow, -⟩:=C1 Aq hc2;refine AB (q_ (Ag (q_ (Cp 12 (h:=AU 0 (h:=BS 1 (h:=AO 2 (h:=AO 3 (h:=AO 4 (h:=AJ 5 (h:=AU 6 (h:=Cg 7 (h:=AO 8 (h:=AJ 9 (h:=AJ 10 (h:=?_))))))))))))))));refine Eg (i:=11) rfl (Ha rfl rfl (by repeat constructor) (by repeat constructor) (fun w=>Nc _ _ _ _ w) (by kernel_rfl) ⟨rfl,rfl⟩) ?_;refine z_ (h:=t_ (?_));refine A8 rfl (fun hb3=>?_) (fun hb3=>?_)
  ·have hc3:=bp hb3;have hany:(w.s.tab.ps.any fun p=>decide (p.cwd=a))=true:=KC hy (decide_eq_true hc3);refine w_ (a_ (h:=e_ (A4 (AK (A6 (A6 (AK (A6 (?_)))))))));refine A9 ?_
   first|(exfalso;first|contradiction|omega)|(exact vb (by simp[Fw, *]))
  have hc3:=bp hb3;have hne:decide (p.cwd=a)=false:=decide_eq_false hc3;refine Au (Ah (t_ (AR (m_ (h:=BD (h:=a_ (h:=AP (?_))))))));refine AE ?_;refine⟨_,_,?_,⟨j+1,by omega,rfl,F8 hy ha hne,rfl⟩,(wk 1 0)⟩;omega
 have hc2:=bp hb2;have e:=CA Aq hj hc2;have hany:(w.s.tab.ps.any fun p=>decide (p.cwd=a))=false:=Kn (by rw[←e];exact ha);refine BT (Ao (Ao (BU (t_ (w_ (a_ (h:=e_ (A4 (?_)))))))));refine A9 ?_
 first|(exfalso;first|contradiction|omega)|(exact vb (by simp[Fw, *]))
end
theorem bS{α:Type}{sz:Nat}{F:α→List AV}(hF:RowF sz F){l:List α}{j cap:Nat}{x x':α}(h:l.length=j):SetAt (LB sz F (l++[x]) cap) (0+j * sz) (F x') (LB sz F (l++[x']) cap):=by
 have h1:(l++[x])[j]?=some x:=by rw[←h];simp
 have h2:(l++[x]).set j x'=l++[x']:=by rw[←h];simp
 have key:=UW hF (cap:=cap) (x':=x') h1
 rwa [h2]at key
theorem OF{is:List Nat}:∀i,i<1→(0::is)[i]?=some i:=by
 intro i hi;obtain rfl:i=0:=by omega
 rfl
theorem bT{f:Nat→Option AV}{bx:List (List AV)}{tk:List CK}{N:Dim}(i:Nat){row row':List AV}(hi:bx[i]?=some row)(hle:LeL row row'):Weak N ⟨f,⟨bx,tk⟩⟩ ⟨f,⟨bx.set i row',tk⟩⟩:=by
 rintro E a w ⟨G,h1,h2,h3⟩;exact⟨G,h1.boxLe hi (fun us hu=>hle G w us hu),h2,h3⟩
theorem bU(w:Wrk)(rows:List (List AV))(g:Option Nat)(I:AV):LeL (Cx w (.sl 8 rows g) I) (Cx w (.sl 8 rows none) I):=by
 unfold Cx
 repeat (first|exact LeL.nil|refine LeL.cons (AA _) ?_|refine LeL.cons (LeA.tok _ _ _) ?_)
theorem BM{n m:Nat}(w:Wrk)(F I:AV):Ac n m (Cx w F I)=(Aa n m F&&Aa n m I):=by
 simp[Cx,Ac,Aa]
def EF(l:List Fnd):AV:= .sl 8 (l.map Ar) (some 0)
def LA(w:Wrk)(e:Int)(j:Nat):List Itm×List Fnd×Int:=Hp w.s.spc w.p.cwd (Ch w.c) ((w.c.paths.zip (Ce w.c)).take j) e
def LK(w:Wrk)(e:Int):List Itm×List Fnd×Int:=Hp w.s.spc w.p.cwd (Ch w.c) (w.c.paths.zip (Ce w.c)) e
theorem bV{w:Wrk}{e:Int}{j:Nat}{g:AT×Int}(h:(w.c.paths.zip (Ce w.c))[j]?=some g):LA w e (j+1)=Ec w.s.spc w.p.cwd (Ch w.c) (LA w e j) g:=by
 unfold LA Hp;rw[List.take_add_one,h,List.foldl_append];rfl
theorem bW{w:Wrk}{e:Int}{j:Nat}(h:(w.c.paths.zip (Ce w.c)).length≤j):LA w e j=LK w e:=by
 unfold LA LK;rw[List.take_of_length_le h]
def WA(w:Wrk)(cap:Nat):List AV:=Cx w (CH w) (.bs 1 0 13 w.r.items.length cap)
def IB(w:Wrk)(cap:Nat):List AV:=LB 13 Cf w.r.items cap
theorem DD{bx:List (List AV)}{a b:List AV}{rest:List (List AV)}(hb:bx=a::b::rest)(w:Wrk)(cap:Nat):Back bx [0,1] [WA w cap,IB w cap] (WA w cap::IB w cap::rest):=by
 subst hb;have:=MQ (bx:=a::b::rest) (is:=[0,1]) (bc:=[WA w cap,IB w cap]) (by simp) (by simp) (by simp);have e1:DF (Db [0,1] (a::b::rest).length) (WA w cap)=WA w cap:=rfl;have e2:DF (Db [0,1] (a::b::rest).length) (IB w cap)=IB w cap:=Cy BA _ _ _
 have hb:D7 (a::b::rest) (Db [0,1] (a::b::rest).length) [0,1] [WA w cap,IB w cap]=WA w cap::IB w cap::rest:=by
  unfold D7;rw[e1];unfold D7;rw[e2];simp[D7]
 rw[hb]at this;exact this
section
theorem bX(w:Wrk)(e:Int)(hv:SpcV w.s.spc)(hm:w.s.spc.mounts.length≤1000)(hp:w.c.paths.length=(Ce w.c).length)(hpl:w.c.paths.length≤1000)(h0:0<w.c.paths.length)(hps:∀p∈w.c.paths,p.size≤100000):
    ACall prog 96 [.bp 0 0, .v (.int .i64 e)] [Cx w (.v (.slice none 0 0)) (.v (.slice none 0 0))] (fun r b t=>t=[]∧∃cap,(LK w e).1.length≤cap∧r= .v (.int .i64 (LK w e).2.2)∧b=[Cx w (.sl 8 ((LK w e).2.1.map Ar) none) (.bs 1 0 13 (LK w e).1.length cap),LB 13 Cf (LK w e).1 cap]):=by
 have hsb:=hv.b hm;have hsn:=hv.n hm;refine enter Tryz.func96 rfl rfl rfl rfl rfl 2 rfl ?_;refine w_ (a_ (h:=e_ (w_ (m_ (h:=k_ (h:=f_ (h:=l_ (h:=?_))))))));refine A7 rfl (AG (Ul w.c) ?_);rintro r rfl;refine a_ (h:=e_ (?_));refine BR (fun s=>∃cap,(LK w e).1.length≤cap∧s=⟨look [(1, .v (.int .i64 (LK w e).2.2))],⟨[Cx w (.sl 8 ((LK w e).2.1.map Ar) none) (.bs 1 0 13 (LK w e).1.length cap),LB 13 Cf (LK w e).1 cap],[]⟩⟩) ?_ ?_
 ·skip
  refine w_ (a_ (h:=e_ (Ag (?_))));refine K4 0 26 200 8 rfl rfl (by repeat constructor) (by repeat constructor) (by repeat constructor) ?_;refine Be (fun m s=>∃(j:Nat) (X:List Itm×List Fnd×Int) (Y:AV) (Z:List (List AV)),j≤w.c.paths.length∧m=w.c.paths.length - j∧LA w e j=X∧X.1.length=j∧X.2.1.length=j∧((Y= .v (.slice none 0 0)∧Z=[]∧X.1=[])∨∃cap,X.1.length≤cap∧Y= .bs 1 0 13 X.1.length cap∧Z=[LB 13 Cf X.1 cap])∧s=⟨look [(0, .bp 0 0),(1, .v (.int .i64 X.2.2)),(5, .sl 1 ((Ce w.c).map C9) none),(6, .v (.int .i64 (j:Int)))],⟨Cx w (EF X.2.1) Y::Z,[(200,8,X.2.1.map Ar)]⟩⟩) (w.c.paths.length) ((wk 1 1)) (⟨0,([],[],e),_,_,BV _,rfl,rfl,rfl,rfl, .inl ⟨rfl,rfl,rfl⟩,rfl⟩) ?_;rintro m s ⟨j,X,Y,Z,hj,rfl,hX,hl1,hl2,hYZ,rfl⟩;refine q_ (w_ (m_ (h:=m_ (h:=k_ (h:=f_ (h:=f_ (h:=l_ (h:=n_ (h:=BB (h:=e_ (?_)))))))))));refine A8 rfl (fun hb1=>?_) (fun hb1=>?_)
  ·have hc1:=bp hb1;obtain⟨hlt,y,hy,hrow, -⟩:=C1 Cj hc1;obtain⟨pj,hpj⟩:∃z,(Ce w.c)[j]?=some z:=⟨_,BJ (by omega)⟩;have hrow2:((Ce w.c).map C9)[j]?=some (C9 pj):=by rw[List.getElem?_map,hpj];rfl
   have hz:(w.c.paths.zip (Ce w.c))[j]?=some (y,pj):=List.getElem?_zip_eq_some.2 ⟨hy,hpj⟩;have hk:=bV (e:=e) hz;rw[hX]at hk;have hys:=hps y (Aw hy);refine AB (q_ (Ag (?_)));refine BR (fun s=>∃cap,X.1.length+1≤cap∧s=⟨look [(0, .bp 0 0),(1, .v (.int .i64 X.2.2)),(5, .sl 1 ((Ce w.c).map C9) none),(6, .v (.int .i64 (j:Int)))],⟨[Cx w (EF X.2.1) (.bs 1 0 13 (X.1.length+1) cap),LB 13 Cf (X.1++[FD y pj]) cap],[(200,8,X.2.1.map Ar)]⟩⟩) ?_ ?_
   ·rcases hYZ with⟨rfl,rfl,hX0⟩|⟨cap,hcp,rfl,rfl⟩
    ·skip
     refine Bf ([(0,Cx w (EF X.2.1) (.v (.slice none 0 0)))]) 24 (h:=AU 0 (h:=AU 1 (h:=BS 2 (h:=AO 3 (h:=AO 4 (h:=AJ 5 (h:=AU 6 (h:=BS 7 (h:=AO 8 (h:=AO 9 (h:=AJ 10 (h:=AU 11 (h:=Cg 12 (h:=AJ 13 (h:=AU 14 (h:=AU 15 (h:=Cg 16 (h:=AJ 17 (h:=?_)))))))))))))))))));refine BF 18 rfl (fun _ hS=>FH (y:= .agg (Cf (FD y pj))) (D8 ⟨rfl,rfl⟩) (AA _) ⟨rfl,rfl⟩) ?_;refine H0 19 (h:=?_);refine c_ 20 rfl (NX rfl rfl JD (by omega) (by omega) ?_);rintro cap2 k bx2 hcp hs;rw[show CQ (.agg (Cf (FD y pj)))++List.replicate ((cap2 - 1) * 13) AV.any=LB 13 Cf [FD y pj] cap2 from UX BA _ cap2]at hs;obtain⟨rfl,rfl⟩:k=1∧bx2=[_,_]:=hs.eq;refine o_ (h:=?_);refine BS 21 (h:=AO 22 (h:=AO 23 (h:=?_)));refine BH 24 rfl (BC rfl rfl rfl rfl rfl rfl (by repeat constructor) (by repeat constructor) ?_);refine o_ (h:=z_ (h:=?_));refine AE ?_;refine⟨_,⟨cap2,by rw[hX0];exact hcp,rfl⟩,?_⟩;rw[hX0];exact Bb 2 1 (by simp[Af,Ac,Aa,Bm BA,BM,EF])
    skip
    refine Bf ([(0,Cx w (EF X.2.1) (.bs 1 0 13 X.1.length cap))]) 24 (h:=AU 0 (h:=AU 1 (h:=BS 2 (h:=AO 3 (h:=AO 4 (h:=AJ 5 (h:=AU 6 (h:=BS 7 (h:=AO 8 (h:=AO 9 (h:=AJ 10 (h:=AU 11 (h:=Cg 12 (h:=AJ 13 (h:=AU 14 (h:=AU 15 (h:=Cg 16 (h:=AJ 17 (h:=?_)))))))))))))))))));refine BF 18 rfl (fun _ hS=>FH (y:= .agg (Cf (FD y pj))) (D8 ⟨rfl,rfl⟩) (AA _) ⟨rfl,rfl⟩) ?_;refine H0 19 (h:=?_);refine c_ 20 rfl (Kh rfl rfl rfl (by rw[OD BA hcp];omega) JD (by omega) (by omega) ?_ ?_)
    ·rintro hg row2 bx2 hs hb;obtain rfl:=Qc BA hs hg;obtain rfl:bx2=[_,_]:=hb.one.2;refine o_ (h:=?_);refine BS 21 (h:=AO 22 (h:=AO 23 (h:=?_)));refine BH 24 rfl (BC rfl rfl rfl rfl rfl rfl (by repeat constructor) (by repeat constructor) ?_);refine o_ (h:=z_ (h:=?_));refine AE ?_
     first|exact⟨_,⟨cap,hg,rfl⟩,Bb 2 1 (by simp[Af,Ac,Aa,Bm BA,BM,EF])⟩|exact⟨_,⟨cap3,hcp3,rfl⟩,DQ [0,2] OF (by decide) (.cons _ _ _ _ _ rfl rfl (.cons _ _ _ _ _ rfl (Fh BA _ _ _) .nil)) (by repeat (first|exact SubK.nil|refine SubK.cons _ _ _ _ rfl (AA _) ?_))⟩
    rintro hg cap3 k bx2 hcp3 hs;rw[show((LB 13 Cf X.1 cap).drop 0).take (X.1.length * 13)++CQ (.agg (Cf (FD y pj)))++List.replicate ((cap3 - (X.1.length+1)) * 13) AV.any=LB 13 Cf (X.1++[FD y pj]) cap3 from Qb BA X.1 _ cap cap3]at hs;obtain⟨rfl,rfl⟩:k=2∧bx2=[_,_,_]:=hs.eq;refine o_ (h:=?_);refine BS 21 (h:=AO 22 (h:=AO 23 (h:=?_)));refine BH 24 rfl (BC rfl rfl rfl rfl rfl rfl (by repeat constructor) (by repeat constructor) ?_);refine o_ (h:=z_ (h:=?_));refine AE ?_
    first|exact⟨_,⟨cap,hg,rfl⟩,Bb 2 1 (by simp[Af,Ac,Aa,Bm BA,BM,EF])⟩|exact⟨_,⟨cap3,hcp3,rfl⟩,DQ [0,2] OF (by decide) (.cons _ _ _ _ _ rfl rfl (.cons _ _ _ _ _ rfl (Fh BA _ _ _) .nil)) (by repeat (first|exact SubK.nil|refine SubK.cons _ _ _ _ rfl (AA _) ?_))⟩
   rintro s ⟨cap,hcp,rfl⟩;refine w_ (Al (h:=e_ (?_)));refine BR (fun s=>∃(it:Itm) (F:Fnd) (e2:Int),Ec w.s.spc w.p.cwd (Ch w.c) X (y,pj)=(X.1++[it],X.2.1++[F],e2)∧s=⟨look [(0, .bp 0 0),(1, .v (.int .i64 e2)),(5, .sl 1 ((Ce w.c).map C9) none),(6, .v (.int .i64 (j:Int))),(7, .bp 2 0)],⟨[Cx w (EF X.2.1) (.bs 1 0 13 (X.1.length+1) cap),LB 13 Cf (X.1++[it]) cap,Ar F],[(200,8,X.2.1.map Ar)]⟩⟩) ?_ ?_
   ·skip
    refine w_ (m_ (h:=AD (h:=e_ (?_))));refine A8 rfl (fun hb2=>?_) (fun hb2=>?_)
    ·have hc2:=bp hb2;have he0:X.2.2=0:=by simpa using hc2
     refine q_ (Bf ([(0,Cx w (EF X.2.1) (.bs 1 0 13 (X.1.length+1) cap)),(1,LB 13 Cf (X.1++[FD y pj]) cap)]) 29 (h:=AU 0 (h:=BS 1 (h:=AO 2 (h:=AO 3 (h:=AJ 4 (h:=AU 5 (h:=BS 6 (h:=AO 7 (h:=AO 8 (h:=AJ 9 (h:=AU 10 (h:=BS 11 (h:=AO 12 (h:=AO 13 (h:=AJ 14 (h:=AU 15 (h:=Cg 16 (h:=AJ 17 (h:=AU 18 (h:=BS 19 (h:=AO 20 (h:=AJ 21 (h:=?_))))))))))))))))))))))));refine c_ 22 rfl (AG (aF w.c) ?_);rintro r rfl;refine o_ (h:=?_);refine c_ 23 rfl (AG (bN w.s.spc w.p.cwd y (Ch w.c) hsn hv hys) ?_);rintro r rfl;refine o_ (h:=AU 24 (h:=BX 25 (h:=BX 26 (h:=?_))));refine BH 27 rfl (BC rfl rfl rfl rfl rfl rfl (by repeat constructor) (by repeat constructor) ?_);refine o_ (h:=BO 28 (h:=z_ (h:=t_ (w_ (m_ (h:=AD (h:=e_ (?_))))))));refine A8 rfl (fun hb3=>?_) (fun hb3=>?_)
     ·have hc3:=bp hb3;have hf0:(CM w.s.spc w.p.cwd y (Ch w.c)).2=0:=by simpa using hc3
      refine Bf ([(0,Cx w (EF X.2.1) (.bs 1 0 13 (X.1.length+1) cap)),(1,LB 13 Cf (X.1++[FD y pj]) cap),(2,Ar (CM w.s.spc w.p.cwd y (Ch w.c)).1)]) 26 (h:=AU 0 (h:=BS 1 (h:=AO 2 (h:=AO 3 (h:=AJ 4 (h:=AU 5 (h:=AU 6 (h:=BS 7 (h:=AO 8 (h:=AO 9 (h:=AJ 10 (h:=AU 11 (h:=BS 12 (h:=AO 13 (h:=AO 14 (h:=AJ 15 (h:=AU 16 (h:=Cg 17 (h:=AJ 18 (h:=AU 19 (h:=AU 20 (h:=Cg 21 (h:=AJ 22 (h:=?_))))))))))))))))))))))));refine AJ 23 (h:=?_);refine c_ 24 rfl (AG (bR w.s.spc y pj (CM w.s.spc w.p.cwd y (Ch w.c)).1 hsb) ?_);rintro r rfl;refine o_ (h:=?_);refine BF 25 rfl (fun _ hS=>DE (m:=j) rfl rfl rfl (by omega) ⟨rfl,rfl⟩) ?_;refine BH 26 rfl (BC rfl rfl rfl rfl rfl rfl (bS BA hl1) (by repeat constructor) ?_);refine o_ (h:=z_ (h:=?_));refine AE ?_
      first|exact⟨_,⟨MN w.s.spc y pj (CM w.s.spc w.p.cwd y (Ch w.c)).1,(CM w.s.spc w.p.cwd y (Ch w.c)).1,(CM w.s.spc w.p.cwd y (Ch w.c)).2,(by rw[Ec,if_pos he0,if_pos hf0,hf0]),rfl⟩,Bb 3 1 (by simp[Af,Ac,Aa,Bm BA,BM,EF,Ar])⟩|exact⟨_,⟨FD y pj,(CM w.s.spc w.p.cwd y (Ch w.c)).1,(CM w.s.spc w.p.cwd y (Ch w.c)).2,(by rw[Ec,if_pos he0,if_neg hf0]),rfl⟩,Bb 3 1 (by simp[Af,Ac,Aa,Bm BA,BM,EF,Ar])⟩|exact⟨_,⟨FD y pj,EB,X.2.2,(by rw[Ec,if_neg he0]),rfl⟩,Bb 3 1 (by simp[Af,Ac,Aa,Bm BA,BM,EF,Ar])⟩
     have hc3:=bp hb3;have hf0:¬(CM w.s.spc w.p.cwd y (Ch w.c)).2=0:=by simpa using hc3
     refine Au (?_);refine AE ?_
     first|exact⟨_,⟨MN w.s.spc y pj (CM w.s.spc w.p.cwd y (Ch w.c)).1,(CM w.s.spc w.p.cwd y (Ch w.c)).1,(CM w.s.spc w.p.cwd y (Ch w.c)).2,(by rw[Ec,if_pos he0,if_pos hf0,hf0]),rfl⟩,Bb 3 1 (by simp[Af,Ac,Aa,Bm BA,BM,EF,Ar])⟩|exact⟨_,⟨FD y pj,(CM w.s.spc w.p.cwd y (Ch w.c)).1,(CM w.s.spc w.p.cwd y (Ch w.c)).2,(by rw[Ec,if_pos he0,if_neg hf0]),rfl⟩,Bb 3 1 (by simp[Af,Ac,Aa,Bm BA,BM,EF,Ar])⟩|exact⟨_,⟨FD y pj,EB,X.2.2,(by rw[Ec,if_neg he0]),rfl⟩,Bb 3 1 (by simp[Af,Ac,Aa,Bm BA,BM,EF,Ar])⟩
    have hc2:=bp hb2;have he0:¬X.2.2=0:=by simpa using hc2
    refine Au (?_);refine AE ?_
    first|exact⟨_,⟨MN w.s.spc y pj (CM w.s.spc w.p.cwd y (Ch w.c)).1,(CM w.s.spc w.p.cwd y (Ch w.c)).1,(CM w.s.spc w.p.cwd y (Ch w.c)).2,(by rw[Ec,if_pos he0,if_pos hf0,hf0]),rfl⟩,Bb 3 1 (by simp[Af,Ac,Aa,Bm BA,BM,EF,Ar])⟩|exact⟨_,⟨FD y pj,(CM w.s.spc w.p.cwd y (Ch w.c)).1,(CM w.s.spc w.p.cwd y (Ch w.c)).2,(by rw[Ec,if_pos he0,if_neg hf0]),rfl⟩,Bb 3 1 (by simp[Af,Ac,Aa,Bm BA,BM,EF,Ar])⟩|exact⟨_,⟨FD y pj,EB,X.2.2,(by rw[Ec,if_neg he0]),rfl⟩,Bb 3 1 (by simp[Af,Ac,Aa,Bm BA,BM,EF,Ar])⟩
   rintro s ⟨it,F,e2,hlk,rfl⟩;refine Bf ([(0,Cx w (EF X.2.1) (.bs 1 0 13 (X.1.length+1) cap)),(2,Ar F)]) 10 (h:=AU 0 (h:=AU 1 (h:=BS 2 (h:=AO 3 (h:=AJ 4 (h:=AJ 5 (h:=H0 6 (h:=?_))))))))
   first|refine c_ 7 rfl (Dx rfl rfl rfl (by simp;omega) (by repeat constructor) ?_)|refine c_ 7 rfl (Dy rfl rfl (by simp;omega) (by repeat constructor) ?_)
   refine o_ (h:=BS 8 (h:=AO 9 (h:=?_)));refine BH 10 rfl (BC rfl rfl rfl rfl rfl rfl (by repeat constructor) (by repeat constructor) ?_);refine o_ (h:=z_ (h:=Ah (t_ (AR (m_ (h:=BD (h:=a_ (h:=AP (?_)))))))));refine AE ?_;refine⟨w.c.paths.length - (j+1),_,by omega,⟨j+1,(X.1++[it],X.2.1++[F],e2), .bs 1 0 13 (X.1++[it]).length cap,[LB 13 Cf (X.1++[it]) cap],by omega,rfl,by rw[hk,hlk],by simp;omega,by simp;omega, .inr ⟨cap,by simpa using hcp,rfl,rfl⟩,rfl⟩,?_⟩;rw[List.length_append];unfold EF;rw[List.map_append];exact Bb 2 1 (by simp[Af,Ac,Aa,Bm BA,BM])
  have hc1:=bp hb1;have e3:=CA Cj hj hc1;rcases hYZ with⟨_,_,hX0⟩|⟨cap,hcp,rfl,rfl⟩
  ·exfalso;rw[hX0]at hl1;simp at hl1;omega
  have hfin:LK w e=X:=by rw[←hX];exact(bW (by rw[List.length_zip];omega)).symm
  refine BT (Ao (Ao (BU (?_))));refine AE ?_;refine⟨_,⟨cap,by rw[hfin];exact hcp,rfl⟩,?_⟩;rw[hfin];exact(bT 0 rfl (bU w _ _ _)).trans (Bb 2 0 (by simp[Af,Ac,Aa,Bm BA,BM]))
 rintro s ⟨cap,hcp,rfl⟩;refine w_ (m_ (h:=a_ (h:=e_ (A4 (?_)))));refine Ai (r:= .v (.int .i64 (LK w e).2.2)) none (h4:=(by simp[Af,Ac,Aa,Bm BA,BM])) (h5:=(AA _)) (h6:=⟨rfl,cap,hcp,rfl,rfl⟩)
theorem LC(w:Wrk)(cap:Nat)(f:Aj)(l:List J3)(e:Int):ACall prog 202 [.bp 0 0, .agg (B0 f), .sl 7 (l.map DY) none, .v (.int .i64 e)] [WA w cap,IB w cap] (fun r b t=>t=[]∧r= .v (.int .i64 e)∧b=[WA (Bh w (f,l,e)).1 cap,IB (Bh w (f,l,e)).1 cap]):=by
 refine enter Tryz.func202 rfl rfl rfl rfl rfl 2 rfl ?_;refine w_ (b_ (h:=a_ (h:=e_ (q_ (w_ (m_ (h:=AD (h:=e_ (?_)))))))));refine A8 rfl (fun hb1=>?_) (fun hb1=>?_)
 ·have hc1:=bp hb1;refine w_ (m_ (h:=l_ (h:=k_ (h:=f_ (h:=f_ (h:=f_ (h:=s_ (h:=e_ (AR (m_ (h:=m_ (h:=k_ (h:=f_ (h:=f_ (h:=s_ (h:=e_ (w_ (m_ (h:=a_ (h:=e_ (A4 (?_))))))))))))))))))))));refine Ai (r:= .v (.int .i64 e)) none (h4:=(by simp[Af,Ac,Aa,Bm BA,IB,CH])) (h5:=(AA _)) (h6:=⟨rfl,rfl,?_⟩);rw[Bh,if_pos hc1];rfl
 have hc1:=bp hb1;refine AB (w_ (m_ (h:=a_ (h:=e_ (A4 (?_))))));refine Ai (r:= .v (.int .i64 e)) none (h4:=(by simp[Af,Ac,Aa,Bm BA,BM,WA,IB,CH])) (h5:=(AA _)) (h6:=⟨rfl,rfl,?_⟩);rw[Bh,if_neg hc1];rfl
theorem Qm(w:Wrk)(cap:Nat)(t:Tab)(e:Int):ACall prog 200 [.bp 0 0, .agg (As t), .v (.int .i64 e)] [WA w cap,IB w cap] (fun r b tk=>tk=[]∧r= .v (.int .i64 e)∧b=[WA (C6 w (t,e)).1 cap,IB (C6 w (t,e)).1 cap]):=by
 refine enter Tryz.func200 rfl rfl rfl rfl rfl 2 rfl ?_;refine w_ (b_ (h:=a_ (h:=e_ (q_ (w_ (m_ (h:=AD (h:=e_ (?_)))))))));refine A8 rfl (fun hb1=>?_) (fun hb1=>?_)
 ·have hc1:=bp hb1;refine AR (m_ (h:=l_ (h:=k_ (h:=f_ (h:=f_ (h:=s_ (h:=e_ (w_ (m_ (h:=a_ (h:=e_ (A4 (?_)))))))))))));refine Ai (r:= .v (.int .i64 e)) none (h4:=(by simp[Af,Ac,Aa,Bm BA,IB,CH])) (h5:=(AA _)) (h6:=⟨rfl,rfl,?_⟩);rw[C6,if_pos hc1];rfl
 have hc1:=bp hb1;refine AB (w_ (m_ (h:=a_ (h:=e_ (A4 (?_))))));refine Ai (r:= .v (.int .i64 e)) none (h4:=(by simp[Af,Ac,Aa,Bm BA,BM,WA,IB,CH])) (h5:=(AA _)) (h6:=⟨rfl,rfl,?_⟩);rw[C6,if_neg hc1];rfl
end
section
variable {P:Program}{rs:List ResultVar}{n:Nat}{R:AV→List (List AV)→List CK→Prop}{s:AS}{xs:List AV}{r:AV}
theorem BZ(g:Option Nat){tk':List CK}(h1:ResA P s rs xs:=by repeat (first|exact ResA.nil|(apply ResA.tmp;(focus exact rfl))|(apply ResA.cellN;(focus exact inferInstance);(focus exact rfl);(focus exact rfl);(focus exact rfl))|(apply ResA.cell1;(focus exact inferInstance);(focus exact rfl);(focus exact rfl);(focus exact rfl))))(h2:JW s.h.tk g=some tk':=by rfl)(h3:Aa n 1 (DK g (ES xs))=true:=by rfl)(h4:Af n 0 (s.h.bx.take n)=true:=by simp[Af,Ac,Aa,Bm BA,BM,WA,IB,CH,Ar,Am,AN,As,BK,B0])(h5:LeA (DK g (ES xs)) r)(h6:R r (s.h.bx.take n) tk'):JX P rs n R .ret s:=N7 g h1 h2 h3 h4 h5 h6
end
theorem C8{f:Nat→Option AV}{bx:List (List AV)}{tk:List (Nat×Nat×List (List AV))}{l:List (Nat×AV)}{N:Dim}(n m:Nat){bx':List (List AV)}{tk':List (Nat×Nat×List (List AV))}(hn:Nat.ble N.ni n=true:=by rfl)(hb:bx.take n=bx':=by rfl)(ht:tk.take m=tk':=by rfl)(hbp:Af n m bx'=true:=by simp[Af,Ac,Aa,Bm BA,BM,WA,IB,CH,Ar,Am,AN,As,BK,B0])(hl:Sub n m f l:=by repeat (first|exact Sub.nil|refine Sub.cons _ _ _ rfl rfl ?_|refine Sub.any _ _ ?_|refine Sub.sl _ _ _ _ _ rfl ?_|refine Sub.slnil _ _ _ rfl ?_)):Weak N ⟨f,⟨bx,tk⟩⟩ ⟨look l,⟨bx',tk'⟩⟩:=Av n m hn hb ht hbp hl
end Go.Proofs.YtbgnigjfkbmceaaGreatDoor
