/-
  Part 12 of the proof of FilterSoundP: what the statement's proof uses of the texts in wip/tpl.
-/
import Derived.Shelf.Abstract
import Derived.Shelf.RegionOpen
import Derived.OwnWalkIn
import Derived.TacticsInMore
import Derived.LoopNIn
import Derived.LoopIn
import Derived.Maps.AppendAt
import Derived.StillTailTactics
import Derived.Test.YtbgnigjfkbmceaaGreatDoorQg11
open Go.Proofs.Tryz (prog)
set_option maxRecDepth 10000
set_option maxHeartbeats 4000000
set_option linter.unusedVariables false
set_option linter.unusedSimpArgs false
namespace Go.Proofs.YtbgnigjfkbmceaaGreatDoor
section
variable {s:Spc}(hv:SpcV s)
include hv
omit hv in
theorem VT{fl:Bool}{p:AB}{ps:List AB}{a:A7}{lk:Nat}{e:Int}(h:Bh s fl p ps a lk= .inl e):e≠0:=by
 unfold Bh at h
 repeat' split at h
 all_goals first|(cases h;done)|(injection h with h;subst h;decide)
def Ov(s:Spc)(τ:Lk):Prop:=(τ.name=⟨#[]⟩∧τ.dir=τ.file∧τ.ex=true)∨(Dl τ.name=true∧AZ s.files τ.dir=true∧∀lk,Bh s false τ.name [] τ.dir lk= .inr ⟨[],τ.dir,τ.name,τ.file,τ.ex,lk⟩)
theorem cU{fl:Bool}{p:AB}{ps:List AB}{a:A7}{lk:Nat}{τ:Lk}(h:Bh s fl p ps a lk= .inr τ):Ov s τ:=by
 unfold Bh at h;split at h
 ·cases h
 rename_i c1;split at h
 ·cases h
 rename_i c2;split at h
 ·injection h with h;subst h;exact .inl ⟨rfl,rfl,rfl⟩
 rename_i c3;split at h
 ·injection h with h;subst h;exact .inl ⟨rfl,rfl,rfl⟩
 rename_i c4;split at h
 ·rename_i c5;split at h
  ·cases h
  rename_i c6;injection h with h;subst h;simp only[not_or,Decidable.not_not,Bool.not_eq_false]at c6;refine .inr ⟨c6.2,by simpa using c1,fun lk=>?_⟩;unfold Bh;simp only[c1,c2,c3,c4,c5,c6.2,if_false,if_true,ne_eq,not_true_eq_false,or_self,Bool.true_eq_false,not_false_eq_true]
 rename_i c5;split at h
 ·split at h
  ·cases h
  injection h with h;subst h;exact .inl ⟨rfl,rfl,rfl⟩
 rename_i c6;injection h with h;subst h;have hl:AG s.files a p=((AG s.files a p).1,0):=Prod.ext rfl (by simpa using c5);refine .inr ⟨(VR hv hl).2.1,by simpa using c1,fun lk=>?_⟩;unfold Bh;simp only[c1,c2,c3,c4,c5,if_false,ne_eq,not_true_eq_false,or_self,Bool.false_eq_true,and_false,Bool.true_eq_false,reduceCtorEq]
theorem cV{fl:Bool}:∀(k:Nat) (σ:Lk),Ov s σ→(E2 s fl k σ).1=0→Ov s (E2 s fl k σ).2:=by
 intro k
 induction k with
 |zero=>intro σ h _;exact h
 |succ k ih=>
   intro σ h;unfold E2
   cases σ.ps with
   |nil=>exact fun _=>h
   |cons p ps=>
     simp only
     cases hs:Bh s fl p ps σ.file σ.links with
     |inl e=>exact fun c=>absurd c (VT hs)
     |inr τ=>exact ih τ (cU hv hs)
theorem cW{st:A7}{p:AB}{fl:Bool}{x:Fnd}(h:Bt s st p fl=(x,0)):∃τ,Ov s τ∧x=J8 s (BB p) τ:=by
 unfold Bt at h;generalize (if Eh p=true then EE s else st)=d at h;split at h
 ·cases h
 split at h
 ·cases h
 split at h
 ·cases h
 split at h
 ·rename_i c;injection h with h1 h2;exact absurd h2 c
 rename_i c;split at h
 ·cases h
 injection h with h1 h2;exact⟨_,cV hv _ _ (.inl ⟨rfl,rfl,rfl⟩) (Decidable.not_not.1 c),h1.symm⟩
end
end Go.Proofs.YtbgnigjfkbmceaaGreatDoor
namespace Go.Proofs.YtbgnigjfkbmceaaGreatDoor
open Go.RowKit Go.Shelf
attribute [local go_sem] Oper.semAt_some
theorem cY(s:ByteArray)(w:World):
    Calls prog 239 #[.string s, .string ⟨#[47]⟩] w fun e w'=>
     e= .returned (.func (.func 274) #[] #[.pointer (some ⟨w.heap.size+1,0,none⟩), .pointer (some ⟨w.heap.size,0,none⟩), .pointer (some ⟨w.heap.size+1+1,0,none⟩)])∧
     w'=((w.alloc (.cells #[.string s] 9)).alloc (.cells #[.string ⟨#[47]⟩] 9)).alloc (.cells #[.int .i64 0] 3):=by
 go_enter Tryz.func239,Tryz.ntmps239
 go_wp2
 go_ret
 exact⟨rfl,rfl⟩
def RR(w:World)(b:Nat):Nat:=match w.cell? ⟨b,0,none⟩with
 |some (.string r)=>r.size
 |_=>0
theorem VU{w:World}{b:Nat}{t:TypeId}{r:ByteArray}(h:Boxed w b t (.string r)):RR w b=r.size:=by simp[RR,h.cell]
def Keep3(a b c:Nat)(X Y:World):Prop:=Y.heap[a]?=X.heap[a]?∧Y.heap[b]?=X.heap[b]?∧Y.heap[c]?=X.heap[c]?
theorem Keep3.trans{a b c:Nat}{X Y Z:World}(h:Keep3 a b c X Y)(k:Keep3 a b c Y Z):Keep3 a b c X Z:=⟨k.1.trans h.1,k.2.1.trans h.2.1,k.2.2.trans h.2.2⟩
theorem cZ{a b c N:Nat}(ha:a<N)(hb:b<N)(hc:c<N)(W:World)(l:Nat)(o':Obj)(hl:N≤l):Keep3 a b c W (W.putObj l o'):=
 ⟨World.putObj_heap_other (by omega),World.putObj_heap_other (by omega),World.putObj_heap_other (by omega)⟩
theorem d6{a b c:Nat}{X Y:World}(h:Below X.heap.size X Y)(ha:a<X.heap.size)(hb:b<X.heap.size)(hc:c<X.heap.size):Keep3 a b c X Y:=⟨h.block _ ha,h.block _ hb,h.block _ hc⟩
theorem VV(s:ByteArray)(i:Nat)(h:i<s.size):(s.extract (i+1) s.size).size<s.size:=by
 rw[ByteArray.size_extract];omega
theorem d7{s:ByteArray}{i:Nat}(hi:Lib.indexByte s.data.toList 47=i):i<s.size∧CA s.data.toList=(s.extract 0 i).data.toList::CA (s.extract (i+1) s.size).data.toList:=by
 have hm:(47:UInt8)∈s.data.toList:=by
  apply Classical.byContradiction;intro h;rw[bY h]at hi;omega
 obtain⟨j,hj,hlt,hl,hn⟩:=VE hm;obtain rfl:j=i:=by omega
 refine⟨by rw[Lib.size_eq];exact hlt,?_⟩;rw[Lib.extract_data,Lib.extract_to_end];simp only[List.drop_zero,Nat.sub_zero]
 conv=>lhs;rw[hl]
 exact Tj hn _
theorem d8{s:ByteArray}(hi:Lib.indexByte s.data.toList 47<0):CA s.data.toList=[s.data.toList]:=by
 refine OL fun h=>?_;obtain⟨i,hi',_⟩:=VE h;omega
def Fb(xs:List AB):List Bs:=xs.map fun x=>x.data.toList
set_option maxRecDepth 100000 in
set_option maxHeartbeats 1000000 in
theorem d9(n:Nat)(s:ByteArray)(hs:s.size≤1000000)(b0 b1 b2:Nat)(w:World)(h0:Boxed w b0 9 (.string s))(h1:Boxed w b1 9 (.string ⟨#[47]⟩))(h2:Boxed w b2 3 (.int .i64 0))(h01:b0≠b1)(h02:b0≠b2):
    OS Fence.wide n prog 274 #[.pointer (some ⟨b1,0,none⟩), .pointer (some ⟨b0,0,none⟩), .pointer (some ⟨b2,0,none⟩)] (fun x:AB=>#[.string x]) (fun b=>b=b0) (Keep3 b0 b1 b2) (fun xs=>Fb xs<+:CA s.data.toList)
     (fun xs=>Fb xs=CA s.data.toList) (fun pre=>Fb pre<+:CA s.data.toList) w:=fun l J Jx W hW hJ hJx hY hst=>by
 have k0:Boxed W b0 9 (.string s):=Dx h0 hW h0.lt;have k1:Boxed W b1 9 (.string ⟨#[47]⟩):=Dx h1 hW h1.lt;have k2:Boxed W b2 3 (.int .i64 0):=Dx h2 hW h2.lt;refine callsIn_of_wp Tryz.func274 rfl trivial ?_ rfl;simp only[Tryz.ntmps274,List.size_toArray,List.length_cons,List.length_nil,Nat.reduceAdd,Nat.reduceSub,Array.replicate_succ,Array.replicate_zero,List.push_toArray,List.append_toArray,List.nil_append,List.cons_append];have c1:=k1.cell
 gi_wp2
 gi_loopw [7] (fun _ wr=>∃(pre:List AB) (r:ByteArray),Boxed wr b0 9 (.string r)∧Boxed wr b1 9 (.string ⟨#[47]⟩)∧Boxed wr b2 3 (.int .i64 0)∧J pre wr∧Hid (Fb pre++CA r.data.toList=CA s.data.toList)∧r.size≤s.size) (fun _ wr=>RR wr b0)
 case atStart=>exact⟨[],s,k0,k1,k2,hst,rfl,Al _⟩
 case round=>
  obtain⟨pre,r,m0,m1,m2,hj,hpre,hle⟩:=hrel;clear k0 k1 k2 c1 hst;have c0:=m0.cell;have c1:=m1.cell;have c2:=m2.cell;have f0:=m0.frozen
  gi_wp2_with fail
  refine Kj ((callsIn_wide.2 (bX _ _)).mono ?_);rintro e w' ⟨rfl,rfl⟩;have hge:=Lib.indexByte_ge r.data.toList 47;by_cases hneg:Lib.indexByte r.data.toList 47<0
  ·have HS:=Lib.hid (d8 hneg);obtain⟨fn,tmps,assign,body,hy,hR⟩:=hY pre r wr hj (by rw[←hpre.out,HS.out];simp[Fb])
   gi_wp2
   refine⟨(fun h=>by cases h),hR.mono ?_⟩;rintro e W3 (⟨rfl,hJ3,hk3⟩|⟨rfl,hJx3⟩)
   ·gi_wp2
    go_end0
    exact⟨⟨_,rfl⟩, .inl ⟨pre++[r],by rw[←hpre.out,HS.out];simp[Fb],hJ3⟩⟩
   gi_wp2
   go_end0
   exact⟨⟨_,rfl⟩, .inr ⟨pre++[r],by rw[←hpre.out,HS.out];simp[Fb],hJx3⟩⟩
  obtain⟨i,hi⟩:=Int.eq_ofNat_of_zero_le (show 0≤Lib.indexByte r.data.toList 47 by omega);obtain⟨hlt,hseg⟩:=d7 hi;have HS:=Lib.hid hseg;clear hseg hge hneg;rw[hi];clear hi;obtain⟨fn,tmps,assign,body,hy,hR⟩:=hY pre (r.extract 0 i) wr hj (by rw[←hpre.out,HS.out];simp[Fb])
  gi_wp2
  refine⟨(fun h=>by cases h),hR.mono ?_⟩;rintro e W3 (⟨rfl,hJ3,hk3⟩|⟨rfl,hJx3⟩)
  ·have q0:Boxed W3 b0 9 (.string r):=hk3.1.trans m0;have q1:Boxed W3 b1 9 (.string ⟨#[47]⟩):=hk3.2.1.trans m1;have q2:Boxed W3 b2 3 (.int .i64 0):=hk3.2.2.trans m2;clear c0 c1 c2 f0 hy hR;have c0:=q0.cell;have c1:=q1.cell;have c2:=q2.cell;have f0:=q0.frozen
   gi_wp2
   go_roundw
   case rel=>exact⟨pre++[r.extract 0 i],r.extract (i+1) r.size,q0.set _,q1.other (Ne.symm h01) _,q2.other (Ne.symm h02) _,hJ _ _ _ hJ3 (Moves.set_ (own:=fun b=>b=b0) _ rfl _),Lib.hid (by rw[←hpre.out,HS.out];simp[Fb]),Nat.le_trans (Nat.le_of_lt (VV r i hlt)) hle⟩
   case measure=>rw[VU (q0.set _),VU m0];exact VV r i hlt
  gi_wp2
  refine bodyPost_ret (results_none rfl _ _ _) rfl ?_;exact⟨⟨_,rfl⟩, .inr ⟨pre++[r.extract 0 i],by rw[←hpre.out,HS.out];simp[Fb],hJx3⟩⟩
end Go.Proofs.YtbgnigjfkbmceaaGreatDoor
namespace Go.Proofs.YtbgnigjfkbmceaaGreatDoor
open Go.RowKit Go.Shelf
attribute [local go_sem] Oper.semAt_some
theorem RS(l:Bs):Lib.hasPrefix l [47]=decide (l.head?=some 47):=by
 unfold Lib.hasPrefix
 cases l with
 |nil=>simp
 |cons c t=>
   rw[Bool.eq_iff_iff,List.isPrefixOf_iff_prefix];simp[List.cons_prefix_cons,eq_comm]
theorem dA{l:Bs}(h:l.head?=some 47):Lib.trimPrefix l [47]=l.tail:=by
 unfold Lib.trimPrefix;rw[RS,if_pos (by simp[h])];simp
set_option maxRecDepth 100000 in
set_option maxHeartbeats 1000000 in
theorem VW(s:ByteArray)(w:World)(h:s.data.toList=[47]∨s.data.toList.head?≠some 47):
    Calls prog 183 #[.string s] w fun e w'=>e= .returned (.bool (Dy s.data.toList))∧Below w.heap.size w w':=by
 by_cases h1:s.data.toList=[47]
 ·obtain rfl:s=⟨#[47]⟩:=VB h1
  go_enter Tryz.func183,Tryz.ntmps183
  go_wp2
  exact bodyPost_ret (v:= .bool true) (by simp[results,Tryz.results183,go_sem]) rfl ⟨rfl,(Below.refl _ _).alloc (Al _) _⟩
 have h2:s.data.toList.head?≠some 47:=h.resolve_left h1;have e1:(s.toList==[47])=false:=by rw[JU,beq_eq_false_iff_ne];exact h1
 have HP:=Lib.hid (RS s.data.toList);have HF:Hid (Dy s.data.toList=false):=Lib.hid (by unfold Dy;simp[h1,h2]);have HD:Hid (decide (s.data.toList.head?=some 47)=false):=Lib.hid (decide_eq_false h2);clear h h1 h2
 go_enter Tryz.func183,Tryz.ntmps183
 go_wp2_with fail
 refine(Tryz.strings_CutPrefix _ _ _).mono ?_;rintro e w' ⟨rfl,rfl⟩;rw[HP.out,HD.out]
 go_wp2
 exact bodyPost_ret (v:= .bool false) (by simp[results,Tryz.results183,go_sem]) rfl ⟨by rw[HF.out],(Below.refl _ _).alloc (Al _) _⟩
set_option maxRecDepth 100000 in
set_option maxHeartbeats 1000000 in
theorem dB(n:Nat)(hn:Hid (1≤n))(s:ByteArray)(w:World)(hs:s.size≤1000000)(h1:s.data.toList≠[47])(h2:s.data.toList.head?=some 47):
    CallsIn Fence.wide n prog 183 #[.string s] w fun e w'=>e= .returned (.bool (Dy s.data.toList))∧Below w.heap.size w w':=by
 have e1:(s.toList==[47])=false:=by rw[JU,beq_eq_false_iff_ne];exact h1
 have HP:=Lib.hid (RS s.data.toList);have HT:=Lib.hid (dA h2);have HF:Hid (Dy s.data.toList=(CA s.data.toList.tail).all EC):=Lib.hid (by unfold Dy;simp[h1,h2]);have HD:Hid (decide (s.data.toList.head?=some 47)=true):=Lib.hid (decide_eq_true h2);clear h1 h2;refine callsIn_of_wp_marks Tryz.func183 rfl trivial ?_ rfl;simp only[Tryz.ntmps183,List.size_toArray,List.length_cons,List.length_nil,Nat.reduceAdd,Nat.reduceSub,Array.replicate_succ,Array.replicate_zero,List.push_toArray,List.append_toArray,List.nil_append,List.cons_append]
 gi_wp2_with fail
 refine Kj ((callsIn_wide.2 (Tryz.strings_CutPrefix _ _ _)).mono ?_);rintro e w' ⟨rfl,rfl⟩;obtain⟨r,hr⟩:∃r:ByteArray,r=⟨(Lib.trimPrefix s.data.toList [47]).toArray⟩:=⟨_,rfl⟩;have hrl:r.data.toList=s.data.toList.tail:=by rw[hr,←HT.out]
 have HR:=Lib.hid hrl;have hrs:r.size≤1000000:=by rw[Lib.size_eq,hrl,List.length_tail,←Lib.size_eq];omega
 rw[HP.out,HD.out];rw[show(⟨(Lib.trimPrefix s.data.toList (ByteArray.mk #[47]).data.toList).toArray⟩:ByteArray)=r from hr.symm];clear hrl hr
 gi_wp2_with fail
 refine Kj ((callsIn_wide.2 (cY _ _)).mono ?_);rintro e w' ⟨rfl,rfl⟩
 gi_wp2_with fail
 have hR:Boxed (w.alloc (.cells #[.bool false] 4)) w.heap.size 4 (.bool false):=Boxed.new _ _ _;obtain⟨W0,hW0⟩:∃W0,w.alloc (.cells #[.bool false] 4)=W0:=⟨_,rfl⟩;have hz0:W0.heap.size=w.heap.size+1:=by rw[←hW0];simp
 have hB0:Below w.heap.size w W0:=by rw[←hW0];exact Hz _ _
 rw[hW0]at hR ⊢;obtain⟨WL,hWL⟩:∃WL,((W0.alloc (.cells #[.string r] 9)).alloc (.cells #[.string ⟨#[47]⟩] 9)).alloc (.cells #[.int .i64 0] 3)=WL:=⟨_,rfl⟩;have hzL:WL.heap.size=w.heap.size+1+1+1+1:=by rw[←hWL];simp[hz0]
 have hBL:Below W0.heap.size W0 WL:=by rw[←hWL];exact MM _ _ _ _
 have k0:Boxed WL (w.heap.size+1) 9 (.string r):=by rw[←hWL,←hz0];exact QE _ _ _ _
 have k1:Boxed WL (w.heap.size+1+1) 9 (.string ⟨#[47]⟩):=by rw[←hWL,←hz0];exact MN _ _ _ _
 have k2:Boxed WL (w.heap.size+1+1+1) 3 (.int .i64 0):=by rw[←hWL,←hz0];exact QF _ _ _ _
 have kR:Boxed WL w.heap.size 4 (.bool false):=Dx hR hBL hR.lt;have hBw:Below w.heap.size w WL:=hB0.trans (hBL.mono (by omega));rw[hWL];have HB0:=Lib.hid hz0;have HBL:=Lib.hid hzL;clear hW0 hWL hz0 hR hB0 hBL hzL
 refine Z0 rfl hn.out (gf:=274) rfl trivial (enters_of Tryz.func274 (by kernel_rfl) rfl)
  (d9 (n - 1) r hrs (w.heap.size+1) (w.heap.size+1+1) (w.heap.size+1+1+1) WL k0 k1 k2 (by omega) (by omega))
  (fun b hb=>by have:=HBL.out;omega) Keep3.trans (fun W l o o' hl _ _=>by have:=HBL.out;exact cZ (N:=WL.heap.size) (by omega) (by omega) (by omega) W l o' hl) (Below.refl _ _) (fun _=>rfl)
  (fun pre W=>Boxed W w.heap.size 4 (.bool false)∧(∀p∈Fb pre,EC p=true)∧Below w.heap.size w W)
  (fun c pre W=>c= .ret∧Boxed W w.heap.size 4 (.bool false)∧(∃p∈Fb pre,EC p=false)∧Below w.heap.size w W)
  (fun s X Y h hm=>⟨hm.boxed h.1 (by omega),h.2.1,hm.under h.2.2 (Al _) (fun b hb=>by omega) (by have:=HBL.out;omega)⟩)
  (fun c s X Y h hm=>⟨h.1,hm.boxed h.2.1 (by omega),h.2.2.1,hm.under h.2.2.2 (Al _) (fun b hb=>by omega) (by have:=HBL.out;omega)⟩)
  ⟨kR,by simp[Fb],hBw⟩
  (fun x=>{tmps:=#[.string s,undef, .pointer (some ⟨w.heap.size,0,none⟩), .string r, .bool true, .string x, .string s, .bool false, .tuple #[.string r, .bool true], .string s, .tuple #[.string r, .bool true], .string r, .bool true, .bool true, .bool false, .string r,
    .func (.func 274) #[] #[.pointer (some ⟨w.heap.size+1+1,0,none⟩), .pointer (some ⟨w.heap.size+1,0,none⟩), .pointer (some ⟨w.heap.size+1+1+1,0,none⟩)], .string x,undef,undef,undef],defers:=[]}) ?assign ?body ?done ?stop
 case assign=>
  intro l x W K hK
  gi_wp2
  exact hK
 case body=>
  rintro l pre x W ⟨hc,hnm,hbw⟩ _ hsz;have hcell:=hc.cell;have hfz:=hc.frozen;have HN:=Lib.hid hnm;have HZ:=Lib.hid hsz;clear hnm hsz
  gi_wp2_with fail
  refine Kj ((CallsIn.inRound l (callsIn_wide.2 (VK x W))).mono ?_);rintro e W' ⟨rfl,hb'⟩;have hc':Boxed W' w.heap.size 4 (.bool false):=Dx hc hb' hc.lt;have hbw':Below w.heap.size w W':=hbw.trans (hb'.mono hbw.size);clear hcell hfz;have hcell:=hc'.cell;have hfz:=hc'.frozen;have HX:Hid (Fb (pre++[x])=Fb pre++[x.data.toList]):=Lib.hid (by simp[Fb])
  cases hnx:EC x.data.toList with
  |true=>
    gi_wp2
    have h1:=HBL.out;have h2:=HZ.out;exact⟨OP hb',d6 hb' (by omega) (by omega) (by omega),hc',by rw[HX.out];intro p hp;rcases List.mem_append.1 hp with hp|hp;exact HN.out p hp;simp at hp;rw[hp];exact hnx,hbw'⟩
  |false=>
    gi_wp2
    have h1:=HBL.out;exact⟨Tq (OP hb') (by omega) _,rfl,hc'.set _,⟨x.data.toList,by rw[HX.out];simp,hnx⟩,hbw'.setCell (Al _) _⟩
 case done=>
  rintro D xs W hD hS ⟨hc,hnm,hbw⟩ hK;have HS:=Lib.hid hS;have HN:=Lib.hid hnm;clear hS hnm;have hcell:=hc.cell;have hfz:=hc.frozen
  gi_wp2
  refine⟨by simp, .inl ⟨_,_,rfl,run_takeDeferred ((KeepsOthers.setCell _ _ _).same D _ hK rfl),?_⟩⟩;have h1:=HBL.out;have hcb:=(OQ (hc.set (.bool true)) (show w.heap.size≠D by omega) (.deferred none)).cell;refine⟨.bool true,by simp[results,Tryz.f183,go_sem,hcb],by rw[HF.out,←HR.out,←HS.out,List.all_eq_true.2 HN.out],OR (hbw.setCell (p:=⟨w.heap.size,0,none⟩) (Al _) _) (by omega) _⟩
 case stop=>
  rintro D c pre W hD hSp ⟨rfl,hc,hnm,hbw⟩ hK;have HS:=Lib.hid hSp;have HN:=Lib.hid hnm;clear hSp hnm;have hcell:=hc.cell
  gi_wp2
  refine⟨by simp, .inl ⟨_,_,rfl,run_takeDeferred hK,?_⟩⟩;have h1:=HBL.out;have hcb:=(OQ hc (show w.heap.size≠D by omega) (.deferred none)).cell;refine⟨.bool false,by simp[results,Tryz.f183,go_sem,hcb],?_,OR hbw (by omega) _⟩;obtain⟨p,hp,hpf⟩:=HN.out;rw[HF.out,←HR.out,List.all_eq_false.2 ⟨p,HS.out.subset hp,by simp[hpf]⟩]
theorem dC(s:ByteArray)(w:World)(hs:s.size≤1000000):
    Calls prog 183 #[.string s] w fun e w'=>e= .returned (.bool (Dy s.data.toList))∧Below w.heap.size w w':=by
 by_cases h1:s.data.toList=[47]
 ·exact VW s w (.inl h1)
 by_cases h2:s.data.toList.head?=some 47
 ·exact callsIn_wide.1 (dB 6 (Lib.hid (by omega)) s w hs h1 h2)
 exact VW s w (.inr h2)
end Go.Proofs.YtbgnigjfkbmceaaGreatDoor
namespace Go.Proofs.YtbgnigjfkbmceaaGreatDoor
open Go.RowKit Go.Shelf
attribute [local go_sem] Oper.semAt_some
end Go.Proofs.YtbgnigjfkbmceaaGreatDoor
namespace Go.Proofs.YtbgnigjfkbmceaaGreatDoor
open Go.RowKit Go.Shelf
attribute [local go_sem] Oper.semAt_some
end Go.Proofs.YtbgnigjfkbmceaaGreatDoor
namespace Go.Proofs.YtbgnigjfkbmceaaGreatDoor
open Go.RowKit
def GC(f:AM)(a:A7):Int:=match Ba f a with
 |none=>2
 |some n=>if n.kind=2 then 0 else 20
def Gb(f:AM)(a:A7)(name:AB):A7×Bool:=match Ba f a with
 |none=>((0,0),false)
 |some n=>match n.entries.find? (fun e:B0=>decide (e.1=name))with
   |none=>((0,0),false)
   |some e=>((a.1,e.2),true)
theorem dD{f:AM}{a:A7}{name:AB}(h:¬GC f a=0):AG f a name=((0,0),GC f a):=by
 unfold GC at h ⊢;unfold AG
 cases hn:Ba f a with
 |none=>rfl
 |some n=>
   simp only[hn]at h ⊢;by_cases hk:n.kind=2
   ·rw[if_pos hk]at h;exact absurd rfl h
   rw[if_neg hk,if_neg hk]
theorem dE{f:AM}{a:A7}{name:AB}(h:GC f a=0)(h2:(Gb f a name).2=false):AG f a name=((0,0),2):=by
 unfold GC at h;unfold Gb at h2;unfold AG
 cases hn:Ba f a with
 |none=>rfl
 |some n=>
   simp only[hn]at h h2 ⊢;by_cases hk:n.kind=2
   ·rw[if_pos hk]
    cases hf:n.entries.find? (fun e:B0=>decide (e.1=name))with
    |none=>rfl
    |some e=>rw[hf]at h2;cases h2
   rw[if_neg hk]at h;exact absurd h (by decide)
theorem dF{f:AM}{a:A7}{name:AB}(h:GC f a=0)(h2:(Gb f a name).2=true):AG f a name=((Gb f a name).1,0):=by
 unfold GC at h;unfold Gb at h2 ⊢;unfold AG
 cases hn:Ba f a with
 |none=>rw[hn]at h2;cases h2
 |some n=>
   simp only[hn]at h h2 ⊢;by_cases hk:n.kind=2
   ·rw[if_pos hk]
    cases hf:n.entries.find? (fun e:B0=>decide (e.1=name))with
    |none=>rw[hf]at h2;cases h2
    |some e=>rfl
   rw[if_neg hk]at h;exact absurd h (by decide)
section
theorem dG(f:AM)(a:A7)(hf:FlsB f):AFn prog 246 [.agg (AW f), .agg (A8 a)] (fun r=>r= .v (.int .i64 (GC f a))):=by
 refine enter Tryz.func246 rfl rfl rfl rfl rfl 0 rfl ?_;refine Dg (h:=Bl (h:=?_));refine A3 rfl (AA (Q7 f a hf) ?_);rintro r (⟨e,rfl⟩|⟨n,e,rfl⟩)
 ·skip
  refine B5 (h:=q_ (BL (Aa (h:=?_))));refine A3 rfl (LM (by kernel_rfl) rfl rfl ?_);refine B5 (h:=?_);refine A6 rfl (fun hb1 hc1=>?_) (fun hb1 hc1=>?_)
  ·refine Cw (h:=?_);refine A4 ?_;rw[show GC f a=2 by simp only[GC,e]];rfl
  exact Fw
 skip
 refine B5 (h:=q_ (BL (Aa (h:=?_))))
 first|refine A3 rfl (LM (by kernel_rfl) rfl rfl ?_)|refine A3 rfl (OC (by kernel_rfl) rfl rfl ?_)
 refine B5 (h:=?_);refine A6 rfl (fun hb2 hc2=>?_) (fun hb2 hc2=>?_)
 ·exact Fw
 refine Aa (h:=k_ (h:=Bg (h:=B5 (h:=?_))));refine A6 rfl (fun hb3 hc3=>?_) (fun hb3 hc3=>?_)
 ·refine Cw (h:=?_);refine A4 ?_;rw[show GC f a=20 by simp only[GC,e];exact if_neg hc3];rfl
 refine As (Am (EX (h:=?_)));refine A4 ?_;rw[show GC f a=0 by simp only[GC,e];exact if_pos hc3];rfl
theorem dH(f:AM)(a:A7)(name:AB)(hf:FlsB f):AFn prog 247 [.agg (AW f), .agg (A8 a), .v (.string name)] (fun r=>r= .tup [.agg (A8 (Gb f a name).1), .v (.bool (Gb f a name).2)]):=by
 have hen:=O7 hf a;refine enter Tryz.func247 rfl rfl rfl rfl rfl 0 rfl ?_;refine FM (h:=B5 (h:=Bl (h:=?_)));refine A3 rfl (AA (Q7 f a hf) ?_);rintro r (⟨e,rfl⟩|⟨n,e,rfl⟩)
 ·skip
  refine Bi (h:=?_);refine A3 rfl (LM (by kernel_rfl) rfl rfl ?_);refine e_ (?_);refine A6 rfl (fun hb1 hc1=>?_) (fun hb1 hc1=>?_)
  ·refine Cf (h:=?_);refine A4 ?_;rw[show Gb f a name=((0,0),false) by simp only[Gb,e]];rfl
  exact Fw
 have hnl:n.entries.length≤1000:=by simpa[Ai,e]using hen
 refine Bi (h:=?_)
 first|refine A3 rfl (LM (by kernel_rfl) rfl rfl ?_)|refine A3 rfl (OC (by kernel_rfl) rfl rfl ?_)
 refine e_ (?_);refine A6 rfl (fun hb2 hc2=>?_) (fun hb2 hc2=>?_)
 ·exact Fw
 refine AK (BD (h:=k_ (h:=Ct (h:=m_ (h:=e_ (BL (?_)))))));refine BX (fun m t=>∃j:Nat,j≤n.entries.length∧m=n.entries.length - j∧(∀i y,i<j→n.entries[i]?=some y→decide (y.1=name)=false)∧t=⟨look [(2, .v (.string name)),(4, .bp 1 0),(6, .bp 2 0),(20, .sl 2 (n.entries.map CT) none),(21, .v (.int .i64 ((n.entries.map CT).length:Int))),(22, .v (.int .i64 (j:Int)))],⟨[AW f,A8 a,[.v (.int .i64 0), .v (.int .i64 0)]],[]⟩⟩) (n.entries.length) ((wk 3 0)) (⟨0,by omega,rfl,fun i y hi=>by omega,rfl⟩) ?_;rintro m t ⟨j,hj,rfl,ha,rfl⟩;refine w_ (BZ (h:=q_ (?_)));refine A6 rfl (fun hb3 hc3=>?_) (fun hb3 hc3=>?_)
 ·obtain⟨hlt,x,hy,hrow, -⟩:=Bw CT hc3;refine Bk (h:=w_ (Dh (h:=CY (h:=Ah (h:=CX (h:=e_ (?_)))))));refine A6 rfl (fun hb4 hc4=>?_) (fun hb4 hc4=>?_)
  ·refine Ah (h:=AN (h:=De (h:=BK (h:=Bj (h:=?_)))));refine A4 ?_;rw[show Gb f a name=((a.1,x.2),true) by simp only[Gb,e];rw[KX hy (by simpa using hc4) ha]];rfl
  refine As (Am (t_ (B2 (Es (h:=?_)))));refine⟨_,_,?_,⟨j+1,by omega,rfl,Hu hy ha (by simpa using hc4),rfl⟩,(wk 3 0)⟩;omega
 have e3:=CS CT hj hc3;subst e3;refine Cg (h:=KT (h:=?_));refine A4 ?_;rw[show Gb f a name=((0,0),false) by simp only[Gb,e];rw[KY ha]];rfl
theorem dJ(f:AM)(a:A7)(name:AB)(hf:FlsB f):AFn prog 188 [.agg (AW f), .agg (A8 a), .v (.string name)] (fun r=>r= .tup [.agg (A8 (AG f a name).1), .v (.int .i64 (AG f a name).2)]):=by
 refine enter Tryz.func188 rfl rfl rfl rfl rfl 0 rfl ?_;refine FM (h:=B5 (h:=q_ (Bl (h:=?_))));refine A3 rfl (AA (dG f a hf) ?_);rintro r rfl;refine BJ (h:=C6 (h:=?_));refine A6 rfl (fun hb1 hc1=>?_) (fun hb1 hc1=>?_)
 ·refine w_ (FP (h:=At (h:=BS (?_))));refine A4 ?_;rw[dD hc1];rfl
 refine AK (F9 (h:=?_));refine A3 rfl (AA (dH f a name hf) ?_);rintro r rfl;refine Ea (h:=Dj (h:=?_));refine A6 rfl (fun hb2 hc2=>?_) (fun hb2 hc2=>?_)
 ·refine Cf (h:=?_);refine A4 ?_;rw[dE hc1 (by simpa using hc2)];rfl
 refine AK (D6 (h:=At (h:=?_)));refine A4 ?_;rw[dF hc1 (by simpa using hc2)];rfl
end
theorem dL{s:Spc}{start:A7}{p:AB}{fl:Bool}(h1:¬p=⟨#[]⟩)(h2:128<p.size):Bt s start p fl=(Fa,36):=by unfold Bt;rw[if_neg h1,if_pos h2]
section
variable {s:Spc}{start a:A7}{p:AB}{fl:Bool}(h1:¬p=⟨#[]⟩)(h2:¬128<p.size)(ha:(if Eh p=true then EE s else start)=a)
include h1 h2 ha
theorem dM(hd:AZ s.files a=false):Bt s start p fl=(Fa,2):=by
 unfold Bt;rw[if_neg h1,if_neg h2,ha,if_pos hd]
variable (hd:AZ s.files a=true)
include hd
theorem Mr{e:Int}{τ:Lk}(h:EQ s (fl||BB p) (H3 (E1 p) a)=(e,τ))(he:e≠0):Bt s start p fl=(Fa,e):=by
 unfold Bt;rw[if_neg h1,if_neg h2,ha,if_neg (by simp[hd]),h,if_pos he]
theorem dN{τ:Lk}(h:EQ s (fl||BB p) (H3 (E1 p) a)=(0,τ))(hs:BB p=true∧τ.ex=true∧AZ s.files τ.file=false):Bt s start p fl=(Fa,20):=by
 unfold Bt;rw[if_neg h1,if_neg h2,ha,if_neg (by simp[hd]),h,if_neg (by simp),if_pos hs]
theorem RT{τ:Lk}(h:EQ s (fl||BB p) (H3 (E1 p) a)=(0,τ))(hs:¬(BB p=true∧τ.ex=true∧AZ s.files τ.file=false)):Bt s start p fl=(J8 s (BB p) τ,0):=by
 unfold Bt;rw[if_neg h1,if_neg h2,ha,if_neg (by simp[hd]),h,if_neg (by simp),if_neg hs]
end
section
theorem RU{s:Spc}(hs:SpcB s)(hv:SpcV s)(a:A7):AFn prog 193 [.agg (AQ s), .agg (A8 a)] (fun r=>r= .agg (A8 (DG s s.mounts.length a))):=
 (Y0 s a hs).mono fun r hr=>by rw[hr,aV hv]
end
def Ms(σ:Lk):List AV:=Hf ⟨σ.dir,σ.name,σ.file,σ.ex,false,⟨#[]⟩⟩
theorem Hh{s:Spc}(hv:FlsV s.files){F:Bool}{q:AB}{qs:List AB}{da:A7}{na:AB}{a:A7}{ea:Bool}{lk:Nat}(h8:lk≤8):(∀e,Bh s F q qs a lk= .inl e→EQ s F ⟨q::qs,da,na,a,ea,lk⟩=(e,Om))∧∀τ,Bh s F q qs a lk= .inr τ→τ.links≤8∧EQ s F ⟨q::qs,da,na,a,ea,lk⟩=EQ s F τ∧EP τ<(8 - lk) * 200+(qs.length+1):=by
 have hc:=bL hv (fl:=F) (σ:=⟨q::qs,da,na,a,ea,lk⟩) (p:=q) (ps:=qs) h8 rfl;refine⟨fun e he=>?_,fun τ hτ=>?_⟩
 ·rw[hc];simp only[he]
 obtain⟨h1,h2⟩:=RE hv h8 hτ;refine⟨h1,?_,h2⟩;rw[hc];simp only[hτ]
section
theorem VX(s:Spc)(hs:SpcB s)(hv:SpcV s):AFn prog 192 [.agg (AQ s)] (fun r=>r= .agg (A8 (EE s))):=by
 refine enter Tryz.func192 rfl rfl rfl rfl rfl 0 rfl ?_;refine w_ (EL (h:=e_ (Be (h:=Ck (h:=?_)))));refine A3 rfl (AA (RU hs hv (0,1)) ?_);rintro r rfl;refine s_ (h:=e_ (Ax (?_)));refine A4 ?_;rfl
theorem dO(s:Spc)(start:A7)(p:AB)(fl:Bool)(hs:SpcN s)(hv:SpcV s)(hp:p.size≤100000):AFn prog 141 [.agg (AQ s), .agg (A8 start), .v (.string p), .v (.bool fl)] (fun r=>r= .tup [.agg (Hf (Bt s start p fl).1), .v (.int .i64 (Bt s start p fl).2)]):=by
 have hw:=Um hv;have hsp:=RD p;refine enter Tryz.func141 rfl rfl rfl rfl rfl 0 rfl ?_;refine FM (h:=BJ (h:=?_));refine A3 rfl (AA (RB p hp) ?_);rintro r ⟨ps,hps,rfl⟩;obtain rfl:=V3 hps;clear hps;refine Fx (h:=x_ (h:=a_ (h:=a_ (h:=Bi (h:=C2 (h:=?_))))));refine A6 rfl (fun hb1 hc1=>?_) (fun hb1 hc1=>?_)
 ·refine Cf (h:=?_);refine A4 ?_;rw[show Bt s start p fl=(Fa,2) from if_pos hc1];rfl
 refine AK (BD (h:=n_ (h:=Dk (h:=?_))));refine A6 rfl (fun hb2 hc2=>?_) (fun hb2 hc2=>?_)
 ·refine Cf (h:=?_);refine A4 ?_;rw[dL hc1 (by omega)];rfl
 refine AK (Be (h:=CY (h:=?_)));refine C5 (fun t=>∃a,(if Eh p=true then EE s else start)=a∧t=⟨look [(3, .v (.bool fl)),(4, .bp 0 0),(8, .bp 2 0),(10, .sl 1 ((E1 p).map FZ) none),(12, .v (.bool (BB p))),(13, .bp 3 0)],⟨[AQ s,A8 start,Hf Fa,A8 a],[]⟩⟩) ?_ ?_
 ·skip
  refine Aa (h:=e_ (?_));refine A6 rfl (fun hb3 hc3=>?_) (fun hb3 hc3=>?_)
  ·refine B2 (l_ (h:=?_));refine A3 rfl (AA (VX s hs.b hv) ?_);rintro r rfl;refine s_ (h:=Bq (h:=?_));exact⟨_,⟨EE s,if_pos hc3,rfl⟩,(wk 4 0)⟩
  refine As (Ab (?_))
  first|exact⟨_,⟨EE s,if_pos hc3,rfl⟩,(wk 4 0)⟩|exact⟨_,⟨start,if_neg (by simp[hc3]),rfl⟩,(wk 4 0)⟩
 rintro t ⟨a0,ha,rfl⟩;refine F7 (h:=l_ (h:=?_));refine A3 rfl (AA (Hv s.files a0 hs.b.files) ?_);rintro r rfl;refine Dj (h:=?_);refine A6 rfl (fun hb4 hc4=>?_) (fun hb4 hc4=>?_)
 ·refine Cf (h:=?_);refine A4 ?_;rw[dM hc1 (by omega) ha (by simpa using hc4)];rfl
 have had:AZ s.files a0=true:=by simpa using hc4
 refine AK (Bl (h:=Ck (h:=CY (h:=Df (h:=?_)))));refine C5 (fun t=>∃(τ:Lk) (d:A7),EQ s (fl||BB p) (H3 (E1 p) a0)=(0,τ)∧τ.name.size≤1000∧t=⟨look [(4, .bp 0 0),(8, .bp 2 0),(12, .v (.bool (BB p))),(14, .bp 4 0)],⟨[AQ s,A8 start,Hf Fa,A8 d,Ms τ],[]⟩⟩) ?_ ?_
 ·skip
  refine BL (?_);refine BX (fun m t=>∃(σ:Lk) (d:A7),σ.links≤8∧σ.name.size≤12∧EQ s (fl||BB p) σ=EQ s (fl||BB p) (H3 (E1 p) a0)∧m=EP σ∧m≤1729∧t=⟨look [(3, .v (.bool fl)),(4, .bp 0 0),(8, .bp 2 0),(10, .sl 1 (σ.ps.map FZ) none),(12, .v (.bool (BB p))),(13, .bp 3 0),(14, .bp 4 0),(15, .v (.int .i64 (σ.links:Int)))],⟨[AQ s,A8 start,Hf Fa,A8 d,Ms σ],[]⟩⟩) (EP (H3 (E1 p) a0)) ((wk 5 0)) (⟨_,a0,BO _,BO _,rfl,rfl,by show(8 - 0) * 200+(E1 p).length≤1729;omega,rfl⟩) ?_;rintro m t ⟨⟨ps0,da,na,a,ea,lk⟩,d,h8,hna,hT,rfl,hm,rfl⟩;have hm:(8 - lk) * 200+ps0.length≤1729:=hm;have h8:lk≤8:=h8;have hml:(ps0.map FZ).length=ps0.length:=by simp
  refine BD (h:=n_ (h:=Dk (h:=?_)));refine A6 rfl (fun hb5 hc5=>?_) (fun hb5 hc5=>?_)
  ·obtain⟨q,qs,hps⟩:∃q qs,ps0=q::qs:=by
    cases ps0 with
    |nil=>simp at hc5
    |cons q qs=>exact⟨q,qs,rfl⟩
   subst hps;have hml:(qs.map FZ).length=qs.length:=by simp
   have hmq:(8 - lk) * 200+(qs.length+1)≤1729:=hm;have htg:=Qu hv.files (AG s.files a q).1;have htp:=RD (Ai s.files (AG s.files a q).1).target;refine AK (BL (Aa (h:=?_)));refine A3 rfl (EF (n:=0) rfl rfl rfl rfl ?_);refine l_ (h:=B5 (h:=?_));refine H9 (⟨look [(3, .v (.bool fl)),(4, .bp 0 0),(8, .bp 2 0),(10, .sl 1 (qs.map FZ) none),(12, .v (.bool (BB p))),(13, .bp 3 0),(14, .bp 4 0),(15, .v (.int .i64 (lk:Int))),(16, .v (.string q))],⟨[AQ s,A8 start,Hf Fa,A8 d,Ms ⟨q::qs,da,na,a,ea,lk⟩],[]⟩⟩) ?_ ?_
   ·skip
    refine BV (h:=?_);refine A3 rfl (S6 (l:=1) rfl rfl rfl (by simp) ?_);refine E8 (h:=?_)
    first|(exfalso;first|contradiction|omega)|exact Aj 5 0 rfl rfl rfl rfl (by repeat (first|exact Sub.nil|refine Ak rfl rfl ?_|refine Ao ?_|refine Ap rfl ?_|refine Aq rfl ?_|(apply Sub.of;(focus exact rfl);(focus exact LeA.of_eq (vb (by rfl)));(focus exact rfl))))
   skip
   refine Ah (h:=s_ (h:=e_ (F7 (h:=l_ (h:=?_)))));refine A3 rfl (AA (Hv s.files a hs.b.files) ?_);rintro r rfl;refine Dj (h:=?_);refine A6 rfl (fun hb6 hc6=>?_) (fun hb6 hc6=>?_)
   ·have hst:Bh s (fl||BB p) q qs a lk= .inl 20:=by unfold Bh;rw[if_pos hc6]
    refine KT (h:=Bj (h:=F6 (h:=?_)));refine A4 ?_;rw[Mr hc1 (by omega) ha had (hT.symm.trans ((Hh (F:=fl||BB p) (da:=da) (na:=na) (ea:=ea) hv.files h8).1 _ hst)) (by decide)];rfl
   refine AK (BD (h:=n_ (h:=Dk (h:=?_))));refine A6 rfl (fun hb7 hc7=>?_) (fun hb7 hc7=>?_)
   ·have hst:Bh s (fl||BB p) q qs a lk= .inl 36:=by unfold Bh;rw[if_neg (by simp[hc6]),if_pos (by omega)]
    refine KT (h:=Bj (h:=F6 (h:=?_)));refine A4 ?_;rw[Mr hc1 (by omega) ha had (hT.symm.trans ((Hh (F:=fl||BB p) (da:=da) (na:=na) (ea:=ea) hv.files h8).1 _ hst)) (by decide)];rfl
   have hq12:q.size≤12:=by omega
   refine AK (BD (h:=DT (h:=?_)));refine AF false rfl rfl (fun hb8 hc8=>?_) (fun hb8 hc8=>?_)
   ·refine B1 (h:=Cl (h:=Cz (h:=BD (h:=C2 (h:=?_)))));refine A6 rfl (fun hb9 hc9=>?_) (fun hb9 hc9=>?_)
    ·rw[hc8]at hc9;exact absurd hc9 (by decide)
    have hst:Bh s (fl||BB p) q qs a lk= .inr ⟨qs,a,⟨#[]⟩,a,true,lk⟩:=by unfold Bh;rw[if_neg (by simp[hc6]),if_neg (by omega),if_pos hc8]
    refine AK (Bl (h:=De (h:=e_ (Px (h:=Jb (Ab (?_)))))));obtain⟨g1,g2,g3⟩:=(Hh (F:=fl||BB p) (da:=da) (na:=na) (ea:=ea) hv.files h8).2 _ hst;exact⟨_,_,g3,⟨_,_,g1,(by first|exact BO _|exact hq12),g2.symm.trans hT,rfl,Nat.le_trans (Nat.le_of_lt g3) hmq,rfl⟩,(by(try simp only[List.map_append]);exact Aj 5 0 rfl rfl rfl rfl ((by repeat (first|exact Sub.nil|refine Ak rfl rfl ?_|refine Ao ?_|refine Ap rfl ?_|refine Aq rfl ?_))))⟩
   refine CX (h:=C1 (h:=?_));refine A6 rfl (fun hb10 hc10=>?_) (fun hb10 hc10=>?_)
   ·refine BD (h:=C2 (h:=?_));refine A6 rfl (fun hb11 hc11=>?_) (fun hb11 hc11=>?_)
    ·have hst:Bh s (fl||BB p) q qs a lk= .inr ⟨qs,DG s s.mounts.length (Eg s (s.mounts.length+1) a),⟨#[]⟩,DG s s.mounts.length (Eg s (s.mounts.length+1) a),true,lk⟩:=by unfold Bh;rw[if_neg (by simp[hc6]),if_neg (by omega),if_neg hc8,if_pos hc11]
     refine Bz ([(0,AQ s),(3,A8 a)]) 5 (h:=AD 0 (h:=AD 1 (h:=AD 2 (h:=?_))));refine c_ 3 rfl (AA (bG hs.b hv (s.mounts.length+1) a (by have:=aT (s:=s) a.1;omega)) ?_);rintro r rfl;refine o_ (h:=?_);refine c_ 4 rfl (AA (RU hs.b hv (Eg s (s.mounts.length+1) a)) ?_);rintro r rfl;refine o_ (h:=?_);refine CG 5 (h:=z_ (h:=t_ (w_ (l_ (h:=l_ (h:=Ck (h:=s_ (h:=e_ (Ks (JF (Jb (Ab (?_)))))))))))));obtain⟨g1,g2,g3⟩:=(Hh (F:=fl||BB p) (da:=da) (na:=na) (ea:=ea) hv.files h8).2 _ hst;exact⟨_,_,g3,⟨_,_,g1,(by first|exact BO _|exact hq12),g2.symm.trans hT,rfl,Nat.le_trans (Nat.le_of_lt g3) hmq,rfl⟩,(by(try simp only[List.map_append]);exact Aj 5 0 rfl rfl rfl rfl ((by repeat (first|exact Sub.nil|refine Ak rfl rfl ?_|refine Ao ?_|refine Ap rfl ?_|refine Aq rfl ?_))))⟩
    exact absurd hc10 hc11
   refine AK (Ah (h:=l_ (h:=m_ (h:=?_))));refine A3 rfl (AA (JN s.files a q hs.b.files) ?_);rintro r rfl;refine Ea (h:=C6 (h:=?_));refine A6 rfl (fun hb12 hc12=>?_) (fun hb12 hc12=>?_)
   ·refine BD (h:=n_ (h:=Fk (h:=m_ (h:=?_))));refine AF false rfl rfl (fun hb13 hc13=>?_) (fun hb13 hc13=>?_)
    ·have hne:qs≠[]:=fun e=>by rw[e]at hc13;simp at hc13
     have hst:Bh s (fl||BB p) q qs a lk= .inl 2:=by unfold Bh;rw[if_neg (by simp[hc6]),if_neg (by omega),if_neg hc8,if_neg hc10,if_pos hc12,if_pos (.inl hne)]
     refine Ce (h:=e_ (Cz (h:=Cf (h:=Bj (h:=F6 (h:=?_))))));refine A4 ?_;rw[Mr hc1 (by omega) ha had (hT.symm.trans ((Hh (F:=fl||BB p) (da:=da) (na:=na) (ea:=ea) hv.files h8).1 _ hst)) (by decide)];rfl
    have hne:¬qs≠[]:=fun e=>e (Dr (by omega));refine m_ (h:=?_);refine Af (AA (O8 q (by omega)) ?_);rintro r rfl;refine Dd (h:=C1 (h:=?_));refine A6 rfl (fun hb14 hc14=>?_) (fun hb14 hc14=>?_)
    ·have hst:Bh s (fl||BB p) q qs a lk= .inl 2:=by unfold Bh;rw[if_neg (by simp[hc6]),if_neg (by omega),if_neg hc8,if_neg hc10,if_pos hc12,if_pos (.inr hc14)]
     refine Cf (h:=Bj (h:=F6 (h:=?_)));refine A4 ?_;rw[Mr hc1 (by omega) ha had (hT.symm.trans ((Hh (F:=fl||BB p) (da:=da) (na:=na) (ea:=ea) hv.files h8).1 _ hst)) (by decide)];rfl
    have hst:Bh s (fl||BB p) q qs a lk= .inr ⟨[],a,q,(0,0),false,lk⟩:=by unfold Bh;rw[if_neg (by simp[hc6]),if_neg (by omega),if_neg hc8,if_neg hc10,if_pos hc12,if_neg (fun e=>e.elim hne (by simp[hc14]))]
    have hfin:=hT.symm.trans (((Hh (F:=fl||BB p) (da:=da) (na:=na) (ea:=ea) hv.files h8).2 _ hst).2.1.trans (V4 rfl));refine AK (w_ (l_ (h:=m_ (h:=Ck (h:=s_ (h:=e_ (Ks (JF (WQ rfl (JF (Jb (Ab (?_)))))))))))));exact⟨_,⟨_,_,hfin,(by first|exact Nat.le_trans hna (by decide)|exact Nat.le_trans hq12 (by decide)),rfl⟩,(wk 5 0)⟩
   refine AK (Ah (h:=l_ (h:=?_)));refine A3 rfl (AA (G7 s.files (AG s.files a q).1 hs.b.files) ?_);rintro r rfl;refine Dt (h:=B5 (h:=q_ (?_)));refine H9 (⟨look [(3, .v (.bool fl)),(4, .bp 0 0),(8, .bp 2 0),(10, .sl 1 (qs.map FZ) none),(12, .v (.bool (BB p))),(13, .bp 3 0),(14, .bp 4 0),(15, .v (.int .i64 (lk:Int))),(16, .v (.string q)),(17, .bp 5 0),(19, .bp 6 0),(130, .v (.bool (decide ((Ai s.files (AG s.files a q).1).kind=3)&&(decide (0<((qs.map FZ).length:Int))||(fl||BB p)))))],⟨[AQ s,A8 start,Hf Fa,A8 a,Ms ⟨q::qs,da,na,a,ea,lk⟩,A8 (AG s.files a q).1,AU (Ai s.files (AG s.files a q).1)],[]⟩⟩) ?_ ?_
   ·skip
    refine B2 (CW (h:=m_ (h:=?_)));refine AF true rfl rfl (fun hb15 hc15=>?_) (fun hb15 hc15=>?_)
    ·refine m_ (h:=n_ (h:=Fk (h:=m_ (h:=?_))));refine AF false rfl rfl (fun hb16 hc16=>?_) (fun hb16 hc16=>?_)
     ·refine Cp (h:=BY (h:=Cp (h:=Bc (h:=Bc (h:=Bq (h:=?_))))))
      first|(exfalso;first|contradiction|omega)|exact Aj 7 0 rfl rfl rfl rfl (by repeat (first|exact Sub.nil|refine Ak rfl rfl ?_|refine Ao ?_|refine Ap rfl ?_|refine Aq rfl ?_|(apply Sub.of;(focus exact rfl);(focus exact LeA.of_eq (vb (by first|(rw[hb15];rfl)|(rw[hb15,hb16];rfl)|(rw[hb15,hb16,hb17];rfl))));(focus exact rfl))))
     refine m_ (h:=BQ (h:=?_));refine AF false rfl rfl (fun hb17 hc17=>?_) (fun hb17 hc17=>?_)
     ·refine Cp (h:=Bc (h:=Bc (h:=Bq (h:=?_))))
      first|(exfalso;first|contradiction|omega)|exact Aj 7 0 rfl rfl rfl rfl (by repeat (first|exact Sub.nil|refine Ak rfl rfl ?_|refine Ao ?_|refine Ap rfl ?_|refine Aq rfl ?_|(apply Sub.of;(focus exact rfl);(focus exact LeA.of_eq (vb (by first|(rw[hb15];rfl)|(rw[hb15,hb16];rfl)|(rw[hb15,hb16,hb17];rfl))));(focus exact rfl))))
     refine m_ (h:=C0 (h:=Bc (h:=Bq (h:=?_))))
     first|(exfalso;first|contradiction|omega)|exact Aj 7 0 rfl rfl rfl rfl (by repeat (first|exact Sub.nil|refine Ak rfl rfl ?_|refine Ao ?_|refine Ap rfl ?_|refine Aq rfl ?_|(apply Sub.of;(focus exact rfl);(focus exact LeA.of_eq (vb (by first|(rw[hb15];rfl)|(rw[hb15,hb16];rfl)|(rw[hb15,hb16,hb17];rfl))));(focus exact rfl))))
    refine BF (h:=Jk (h:=B1 (h:=Jk (h:=Cp (h:=G5 (h:=?_))))))
    first|(exfalso;first|contradiction|omega)|exact Aj 7 0 rfl rfl rfl rfl (by repeat (first|exact Sub.nil|refine Ak rfl rfl ?_|refine Ao ?_|refine Ap rfl ?_|refine Aq rfl ?_|(apply Sub.of;(focus exact rfl);(focus exact LeA.of_eq (vb (by first|(rw[hb15];rfl)|(rw[hb15,hb16];rfl)|(rw[hb15,hb16,hb17];rfl))));(focus exact rfl))))
   skip
   refine A6 rfl (fun hb18 hc18=>?_) (fun hb18 hc18=>?_)
   ·have hlk:(Ai s.files (AG s.files a q).1).kind=3∧(qs≠[]∨(fl||BB p)=true):=by
     rw[Bool.and_eq_true,decide_eq_true_eq,Bool.or_eq_true,decide_eq_true_eq]at hc18;exact⟨hc18.1,hc18.2.imp (fun h e=>by rw[e]at h;simp at h) id⟩
    refine BD (h:=C2 (h:=?_));refine A6 rfl (fun hb19 hc19=>?_) (fun hb19 hc19=>?_)
    ·have hst:Bh s (fl||BB p) q qs a lk= .inl 40:=by unfold Bh;rw[if_neg (by simp[hc6]),if_neg (by omega),if_neg hc8,if_neg hc10,if_neg (by simp[hc12]),if_pos hlk,if_pos (by omega)]
     refine Cf (h:=Bj (h:=F6 (h:=?_)));refine A4 ?_;rw[Mr hc1 (by omega) ha had (hT.symm.trans ((Hh (F:=fl||BB p) (da:=da) (na:=na) (ea:=ea) hv.files h8).1 _ hst)) (by decide)];rfl
    refine AK (Aa (h:=?_));refine A3 rfl (Kz rfl rfl (by omega) ?_);refine B5 (h:=Ah (h:=?_));refine A3 rfl (AA (RB (Ai s.files (AG s.files a q).1).target (by omega)) ?_);rintro r ⟨ps,hps,rfl⟩;obtain rfl:=V3 hps;clear hps;refine Fx (h:=x_ (h:=a_ (h:=a_ (h:=Bi (h:=e_ (?_))))));refine A6 rfl (fun hb20 hc20=>?_) (fun hb20 hc20=>?_)
    ·have hst:Bh s (fl||BB p) q qs a lk= .inr ⟨E1 (Ai s.files (AG s.files a q).1).target++qs,EE s,⟨#[]⟩,EE s,true,lk+1⟩:=by unfold Bh;rw[if_neg (by simp[hc6]),if_neg (by omega),if_neg hc8,if_neg hc10,if_neg (by simp[hc12]),if_pos hlk,if_neg (by omega),if_pos hc20]
     refine B2 (l_ (h:=?_));refine A3 rfl (AA (VX s hs.b hv) ?_);rintro r rfl;refine s_ (h:=e_ (w_ (m_ (h:=Fh (h:=m_ (h:=Fh (h:=a_ (h:=e_ (w_ (l_ (h:=l_ (h:=Ck (h:=s_ (h:=e_ (Ks (JF (Jb (Ab (?_)))))))))))))))))));obtain⟨g1,g2,g3⟩:=(Hh (F:=fl||BB p) (da:=da) (na:=na) (ea:=ea) hv.files h8).2 _ hst;exact⟨_,_,g3,⟨_,_,g1,(by first|exact BO _|exact hq12),g2.symm.trans hT,rfl,Nat.le_trans (Nat.le_of_lt g3) hmq,rfl⟩,(by(try simp only[List.map_append]);exact Aj 5 0 rfl rfl rfl rfl ((by repeat (first|exact Sub.nil|refine Ak rfl rfl ?_|refine Ao ?_|refine Ap rfl ?_|refine Aq rfl ?_))))⟩
    have hst:Bh s (fl||BB p) q qs a lk= .inr ⟨E1 (Ai s.files (AG s.files a q).1).target++qs,a,⟨#[]⟩,a,true,lk+1⟩:=by unfold Bh;rw[if_neg (by simp[hc6]),if_neg (by omega),if_neg hc8,if_neg hc10,if_neg (by simp[hc12]),if_pos hlk,if_neg (by omega),if_neg (by simp[hc20])]
    refine AK (w_ (m_ (h:=Fh (h:=m_ (h:=Fh (h:=a_ (h:=e_ (w_ (l_ (h:=l_ (h:=Ck (h:=s_ (h:=e_ (Ks (JF (Jb (Ab (?_))))))))))))))))));obtain⟨g1,g2,g3⟩:=(Hh (F:=fl||BB p) (da:=da) (na:=na) (ea:=ea) hv.files h8).2 _ hst;exact⟨_,_,g3,⟨_,_,g1,(by first|exact BO _|exact hq12),g2.symm.trans hT,rfl,Nat.le_trans (Nat.le_of_lt g3) hmq,rfl⟩,(by(try simp only[List.map_append]);exact Aj 5 0 rfl rfl rfl rfl ((by repeat (first|exact Sub.nil|refine Ak rfl rfl ?_|refine Ao ?_|refine Ap rfl ?_|refine Aq rfl ?_))))⟩
   have hlk:¬((Ai s.files (AG s.files a q).1).kind=3∧(qs≠[]∨(fl||BB p)=true)):=fun h=>by
    rw[decide_eq_true h.1,Bool.true_and,Bool.or_eq_false_iff]at hc18;rcases h.2 with e|e
    ·exact e (Dr (by have:=of_decide_eq_false hc18.1;omega))
    rw[hc18.2]at e;cases e
   have hst:Bh s (fl||BB p) q qs a lk= .inr ⟨qs,a,q,DG s s.mounts.length (AG s.files a q).1,true,lk⟩:=by unfold Bh;rw[if_neg (by simp[hc6]),if_neg (by omega),if_neg hc8,if_neg hc10,if_neg (by simp[hc12]),if_neg hlk]
   refine AK (Bz ([(0,AQ s),(3,A8 a),(5,A8 (AG s.files a q).1)]) 6 (h:=AD 0 (h:=Ac 1 (h:=AD 2 (h:=AD 3 (h:=?_))))));refine c_ 4 rfl (AA (RU hs.b hv (AG s.files a q).1) ?_);rintro r rfl;refine o_ (h:=Hq 5 (h:=?_));refine CG 6 (h:=z_ (h:=Am (Ab (?_))));obtain⟨g1,g2,g3⟩:=(Hh (F:=fl||BB p) (da:=da) (na:=na) (ea:=ea) hv.files h8).2 _ hst;exact⟨_,_,g3,⟨_,_,g1,(by first|exact BO _|exact hq12),g2.symm.trans hT,rfl,Nat.le_trans (Nat.le_of_lt g3) hmq,rfl⟩,(by(try simp only[List.map_append]);exact Aj 5 0 rfl rfl rfl rfl ((by repeat (first|exact Sub.nil|refine Ak rfl rfl ?_|refine Ao ?_|refine Ap rfl ?_|refine Aq rfl ?_))))⟩
  have hc5:¬(0:Int)<((ps0.map FZ).length:Int):=hc5;have e5:ps0=[]:=Dr (by omega);subst e5;have hfin:=hT.symm.trans (V4 (s:=s) (fl:=fl||BB p) (σ:=⟨[],da,na,a,ea,lk⟩) rfl);refine MG (h:=Ab (?_));exact⟨_,⟨_,_,hfin,(by first|exact Nat.le_trans hna (by decide)|exact Nat.le_trans hq12 (by decide)),rfl⟩,(wk 5 0)⟩
 rintro t ⟨τ,d,hT,hnm,rfl⟩;refine q_ (?_);refine H9 (⟨look [(4, .bp 0 0),(8, .bp 2 0),(12, .v (.bool (BB p))),(14, .bp 4 0),(171, .v (.bool (BB p&&(τ.ex&& !AZ s.files τ.file))))],⟨[AQ s,A8 start,Hf Fa,A8 d,Ms τ],[]⟩⟩) ?_ ?_
 ·skip
  refine BV (h:=m_ (h:=?_));refine AF true rfl rfl (fun hb21 hc21=>?_) (fun hb21 hc21=>?_)
  ·refine AN (h:=BY (h:=?_));refine AF true rfl rfl (fun hb22 hc22=>?_) (fun hb22 hc22=>?_)
   ·have hx:τ.ex=true:=hb22;refine AN (h:=AN (h:=?_));refine Af (AA (Hv s.files τ.file hs.b.files) ?_);rintro r rfl;refine Dd (h:=Bc (h:=Bq (h:=?_)))
    first|(exfalso;first|contradiction|omega)|exact Aj 5 0 rfl rfl rfl rfl (by repeat (first|exact Sub.nil|refine Ak rfl rfl ?_|refine Ao ?_|refine Ap rfl ?_|refine Aq rfl ?_|(apply Sub.of;(focus exact rfl);(focus exact LeA.of_eq (vb (by first|(rw[hb21];rfl)|(rw[hb21,hx];rfl))));(focus exact rfl))))
   have hx:τ.ex=false:=hb22;refine BF (h:=B1 (h:=G5 (h:=?_)))
   first|(exfalso;first|contradiction|omega)|exact Aj 5 0 rfl rfl rfl rfl (by repeat (first|exact Sub.nil|refine Ak rfl rfl ?_|refine Ao ?_|refine Ap rfl ?_|refine Aq rfl ?_|(apply Sub.of;(focus exact rfl);(focus exact LeA.of_eq (vb (by first|(rw[hb21];rfl)|(rw[hb21,hx];rfl))));(focus exact rfl))))
  refine B1 (h:=BQ (h:=BF (h:=B1 (h:=G5 (h:=?_)))))
  first|(exfalso;first|contradiction|omega)|exact Aj 5 0 rfl rfl rfl rfl (by repeat (first|exact Sub.nil|refine Ak rfl rfl ?_|refine Ao ?_|refine Ap rfl ?_|refine Aq rfl ?_|(apply Sub.of;(focus exact rfl);(focus exact LeA.of_eq (vb (by first|(rw[hb21];rfl)|(rw[hb21,hx];rfl))));(focus exact rfl))))
 skip
 refine A6 rfl (fun hb23 hc23=>?_) (fun hb23 hc23=>?_)
 ·refine Cf (h:=?_);refine A4 ?_;rw[dN hc1 (by omega) ha had hT (by simp only[Bool.and_eq_true,Bool.not_eq_true']at hc23;exact hc23)];rfl
 refine AK (Aa (h:=Bm (h:=e_ (q_ (Be (h:=AN (h:=?_)))))));refine A3 rfl (AA (bE hs.b hv τ.dir) ?_);rintro r rfl;refine Fx (h:=a_ (h:=BJ (h:=e_ (?_))));refine A6 rfl (fun hb24 hc24=>?_) (fun hb24 hc24=>?_)
 ·refine Aa (h:=Bm (h:=e_ (Ah (h:=C6 (h:=?_)))));refine A6 rfl (fun hb25 hc25=>?_) (fun hb25 hc25=>?_)
  ·refine BV (h:=AN (h:=?_));refine A3 rfl (AA (Uo (Cj s τ.dir).1 τ.name (by have:=hw τ.dir;omega) (by omega)) ?_);rintro r rfl;refine Bm (h:=e_ (D6 (h:=At (h:=?_))));refine A4 ?_;rw[RT hc1 (by omega) ha had hT (fun h=>by rw[h.1,h.2.1,h.2.2]at hc23;cases hc23),show J8 s (BB p) τ=⟨τ.dir,τ.name,τ.file,τ.ex,BB p,H0 (Cj s τ.dir).1 τ.name⟩ by unfold J8;rw[if_pos hc24,if_neg hc25]];rfl
  refine AK (D6 (h:=At (h:=?_)));refine A4 ?_;rw[RT hc1 (by omega) ha had hT (fun h=>by rw[h.1,h.2.1,h.2.2]at hc23;cases hc23),show J8 s (BB p) τ=⟨τ.dir,τ.name,τ.file,τ.ex,BB p,(Cj s τ.dir).1⟩ by unfold J8;rw[if_pos hc24,if_pos hc25]];rfl
 refine AK (D6 (h:=At (h:=?_)));refine A4 ?_;rw[RT hc1 (by omega) ha had hT (fun h=>by rw[h.1,h.2.1,h.2.2]at hc23;cases hc23),show J8 s (BB p) τ=⟨τ.dir,τ.name,τ.file,τ.ex,BB p,⟨#[]⟩⟩ by unfold J8;rw[if_neg (by simp[hc24])]];rfl
end
def Ow(R:Syst×Int):AV:= .tup [.agg (V5 R.1), .v (.int .i64 R.2)]
section
theorem dP(a:A7):AFn prog 111 [.agg (A8 a)] (fun r=>r= .agg (RH (RF a))):=by
 refine enter Tryz.func111 rfl rfl rfl rfl rfl 0 rfl ?_;refine w_ (EL (h:=e_ (Be (h:=?_))));refine A3 rfl (Jl (y:= .agg (RG ⟨1,0,0,0,0,0,4294967295,4294967295,a,⟨#[105,110,105,116]⟩,⟨#[47,105,110,105,116]⟩,[],true⟩)) (F5 ⟨rfl,rfl⟩) ?_);refine Cd (h:=De (h:=e_ (Ax (?_))));refine A4 ?_;rfl
theorem dQ(n:Int):AFn prog 60 [.v (.int .i64 n)] (fun r=>r=Ow (Hg n)):=by
 refine enter Tryz.func60 rfl rfl rfl rfl rfl 0 rfl ?_;refine w_ (D4 (h:=BJ (h:=?_)));refine A3 rfl (AA (TM n) ?_);rintro r rfl;refine Ea (h:=C6 (h:=?_));refine A6 rfl (fun hb1 hc1=>?_) (fun hb1 hc1=>?_)
 ·refine w_ (FP (h:=At (h:=BS (?_))));refine Ag (r:=Ow (Hg n)) none (h5:=?_) (h6:=⟨rfl,rfl,rfl⟩);rw[Hg,if_pos (by simpa using hc1)];exact(by repeat (first|exact A9 _|exact LeA.nil _|exact LeL.refl _|refine LeA.agg ?_|refine LeA.tup ?_|exact LeL.nil|refine LeL.cons ?_ ?_|exact LeA.any _))
 refine AK (q_ (Bz ([(1,AW (Et n).1)]) 7 (h:=AD 0 (h:=Hq 1 (h:=Hq 2 (h:=?_))))));refine c_ 3 rfl (AA (dP (0,1)) ?_);rintro r rfl;refine o_ (h:=Hq 4 (h:=?_));refine CG 5 (h:=BM 6 (h:=z_ (h:=t_ (Ax (?_)))));refine Ag (r:=Ow (Hg n)) none (h5:=?_) (h6:=⟨rfl,rfl,rfl⟩);rw[Hg,if_neg (by simpa using hc1)];exact(by repeat (first|exact A9 _|exact LeA.nil _|exact LeL.refl _|refine LeA.agg ?_|refine LeA.tup ?_|exact LeL.nil|refine LeL.cons ?_ ?_|exact LeA.any _))
end
theorem J9{f:Nat→Option AV}{bx:List (List AV)}{tk:List Bv}{N:Dim}(i:Nat){row row':List AV}(hi:bx[i]?=some row)(hle:LeL row row'):Weak N ⟨f,⟨bx,tk⟩⟩ ⟨f,⟨bx.set i row',tk⟩⟩:=by
 rintro E a w ⟨G,h1,h2,h3⟩;exact⟨G,h1.boxLe hi (fun us hu=>hle G w us hu),h2,h3⟩
section
variable {P:Program}{rs:List ResultVar}{n:Nat}{R:AV→List (List AV)→List Bv→Prop}{s:AS}{xs:List AV}{r:AV}
theorem hG(g:Option Nat){tk':List Bv}(h1:ResA P s rs xs:=by repeat (first|exact ResA.nil|(apply ResA.tmp;(focus exact rfl))|(apply ResA.cellN;(focus exact inferInstance);(focus exact rfl);(focus exact rfl);(focus exact rfl))|(apply ResA.cell1;(focus exact inferInstance);(focus exact rfl);(focus exact rfl);(focus exact rfl))))(h2:Jf s.h.tk g=some tk':=by rfl)(h3:Aw n 1 (D3 g (ES xs))=true:=by rfl)(h4:B4 n 0 (s.h.bx.take n)=true:=by simp[B4,Az,Aw,GZ itmF,bp_wrk,WA,IB,fndS,Hf,AU,A8,RH,AQ,AW])(h5:LeA (D3 g (ES xs)) r)(h6:R r (s.h.bx.take n) tk'):Jg P rs n R .ret s:=Na g h1 h2 h3 h4 h5 h6
end
theorem hH{f:Nat→Option AV}{bx:List (List AV)}{tk:List (Nat×Nat×List (List AV))}{l:List (Nat×AV)}{N:Dim}(n m:Nat){bx':List (List AV)}{tk':List (Nat×Nat×List (List AV))}(hn:Nat.ble N.ni n=true:=by rfl)(hb:bx.take n=bx':=by rfl)(ht:tk.take m=tk':=by rfl)(hbp:B4 n m bx'=true:=by simp[B4,Az,Aw,GZ itmF,bp_wrk,WA,IB,fndS,Hf,AU,A8,RH,AQ,AW])(hl:Sub n m f l:=by repeat (first|exact Sub.nil|refine Sub.cons _ _ _ rfl rfl ?_|refine Sub.any _ _ ?_|refine Sub.sl _ _ _ _ _ rfl ?_|refine Sub.slnil _ _ _ rfl ?_)):Weak N ⟨f,⟨bx,tk⟩⟩ ⟨look l,⟨bx',tk'⟩⟩:=Aj n m hn hb ht hbp hl
structure Wch where
 kind:Int
 dir:A7
 name:AB
 file:A7
deriving DecidableEq
def Dp:Wch:=⟨0,(0,0),⟨#[]⟩,(0,0)⟩
def BR(w:Wch):List AV:=[.v (.int .i64 w.kind), .v (.int .i64 w.dir.1), .v (.int .i64 w.dir.2), .v (.string w.name), .v (.int .i64 w.file.1), .v (.int .i64 w.file.2)]
def JA(s:Spc)(a:A7):Bool:=AZ s.files a&&C9 s a.1
def GD(s:Spc)(k:Int)(p:AB):Wch×Int:=
 if(k≠1∧k≠2)∨Dy p.data.toList=false then(Dp,22)
 else if(Bt s (0,0) p (decide (k=2))).2≠0 then(Dp,(Bt s (0,0) p (decide (k=2))).2)
 else if k=2 then
  (if(Bt s (0,0) p true).1.ex=false then(Dp,2)else if AZ s.files (Bt s (0,0) p true).1.file=false then(Dp,20)
  else(⟨k,(0,0),⟨#[]⟩,(Bt s (0,0) p true).1.file⟩,0))
 else if(Bt s (0,0) p false).1.name=⟨#[]⟩then(Dp,22)
 else(⟨k,(Bt s (0,0) p false).1.dir,(Bt s (0,0) p false).1.name,(AG s.files (Bt s (0,0) p false).1.dir (Bt s (0,0) p false).1.name).1⟩,0)
def Cx(s:Spc)(w:Wch):Bool:=
 if w.kind=1 then JA s w.dir&&decide ((AG s.files w.dir w.name).1=w.file)&&Dl w.name
 else if w.kind=2 then JA s w.file&&decide (w.dir=(0,0))&&decide (w.name=⟨#[]⟩)else false
def Mt(s:Spc)(a b:A7):Bool:=decide (a∈B8 s (BG s.files) b)
def DN(s:Spc)(w:Wch)(dir:A7)(name:AB)(file:A7):Bool:=
 if w.kind=1 then(decide (w.file≠(0,0))&&decide (file=w.file))||(decide (name≠⟨#[]⟩)&&decide (dir=w.dir)&&decide (name=w.name))
 else if w.kind=2 then Mt s w.file dir||Mt s w.file file else false
theorem dR{s:Spc}{fl:Bool}{p:AB}{ps:List AB}{a:A7}{lk:Nat}{τ:Lk}(h:Bh s fl p ps a lk= .inr τ)(hn:τ.name≠⟨#[]⟩):τ.dir=a∧AZ s.files a=true:=by
 unfold Bh at h;split at h
 ·cases h
 rename_i c
 repeat' split at h
 all_goals first|(cases h;done)|(injection h with h;subst h;first|exact absurd rfl hn|exact⟨rfl,by simpa using c⟩)
section
variable {s:Spc}(hv:SpcV s)
include hv
theorem RV:AZ s.files (0,1)=true:=V0 hv (Int.le_refl 0) (by have:=hv.pos;omega)
theorem VY{a:A7}(h:EO s a=true):JA s a=true:=by
 have h2:=Mo ((Oq hv a).1 h).1.1;unfold JA;rw[h2.1,h2.2];rfl
theorem dS{fl:Bool}:∀(k:Nat) (σ:Lk),(AZ s.files σ.file=true→EO s σ.file=true)→(σ.name≠⟨#[]⟩→EO s σ.dir=true)→(E2 s fl k σ).1=0→(E2 s fl k σ).2.name≠⟨#[]⟩→EO s (E2 s fl k σ).2.dir=true:=by
 intro k
 induction k with
 |zero=>intro σ _ h _ hn;exact h hn
 |succ k ih=>
   intro σ h1 h2;unfold E2
   cases σ.ps with
   |nil=>exact fun _=>h2
   |cons p ps=>
     simp only
     cases hs:Bh s fl p ps σ.file σ.links with
     |inl e=>exact fun c=>absurd c (VT hs)
     |inr τ=>exact ih τ (VS hv (RV hv) h1 hs) fun hn=>by obtain⟨e1,e2⟩:=dR hs hn;rw[e1];exact h1 e2
theorem dT{k:Int}{p:AB}(h:(GD s k p).2=0):Cx s (GD s k p).1=true:=by
 unfold GD at h ⊢;split at h
 ·exact absurd h (by decide)
 rename_i c1;rw[if_neg c1];have hr:EO s (EE s)=true:=Ou hv (VO hv (RV hv));split at h
 ·rename_i c2;exact absurd h c2
 rename_i c2;rw[if_neg c2]
 have hfnd:∀fl,(Bt s (0,0) p fl).2=0→∃σ,(E2 s (fl||BB p) (EP σ) σ).1=0∧(AZ s.files σ.file=true→EO s σ.file=true)∧(σ.name≠⟨#[]⟩→EO s σ.dir=true)∧(Bt s (0,0) p fl).1=J8 s (BB p) (E2 s (fl||BB p) (EP σ) σ).2:=by
  intro fl h0;unfold Bt at h0 ⊢
  have hst:AZ s.files (if Eh p=true then EE s else(0,0))=true→EO s (if Eh p=true then EE s else(0,0))=true:=by
   split
   ·exact fun _=>hr
   intro h;rw[RQ hv]at h;cases h
  generalize (if Eh p=true then EE s else(0,0))=d at h0 hst ⊢
  repeat' split at h0
  all_goals first|(exact absurd h0 (by decide);done)|(rename_i c;exact absurd h0 c;done)|skip
  rename_i d1 d2 d3 d4 d5;refine⟨H3 (E1 p) d,by have:=d4;unfold EQ at this;simpa using this,hst,fun hn=>absurd rfl hn,?_⟩;rw[if_neg d1,if_neg d2,if_neg d3,if_neg d4,if_neg d5];rfl
 split at h
 ·rename_i c3;rw[if_pos c3];split at h
  ·exact absurd h (by decide)
  rename_i c4;rw[if_neg c4];split at h
  ·exact absurd h (by decide)
  rename_i c5;rw[if_neg c5];have c5:AZ s.files (Bt s (0,0) p true).1.file=true:=by simpa using c5
  have c2:(Bt s (0,0) p true).2=0:=by
   have:=c2;rw[decide_eq_true c3]at this
   simpa using this
  obtain⟨σ,h1,h2,h3,h4⟩:=hfnd true c2
  have hv2:EO s (Bt s (0,0) p true).1.file=true:=by
   rw[h4]at c5 ⊢;exact cT hv (RV hv) _ σ h2 h1 c5
  unfold Cx;simp only;rw[if_neg (by omega),if_pos c3,VY hv hv2];rfl
 rename_i c3;rw[if_neg c3];split at h
 ·exact absurd h (by decide)
 rename_i c4;rw[if_neg c4]
 have hk:k=1:=by
  simp only[not_or,not_and,Decidable.not_not]at c1;exact Decidable.byContradiction fun hk=>c3 (c1.1 hk)
 have c2:(Bt s (0,0) p false).2=0:=by
  have:=c2;rw[decide_eq_false c3]at this
  simpa using this
 obtain⟨σ,h1,h2,h3,h4⟩:=hfnd false c2
 have hv2:EO s (Bt s (0,0) p false).1.dir=true:=by
  rw[h4]at c4 ⊢;exact dS hv _ σ h2 h3 h1 c4
 have hnm:Dl (Bt s (0,0) p false).1.name=true:=by
  obtain⟨τ,ht,he⟩:=cW hv (st:=(0,0)) (p:=p) (fl:=false) (x:=(Bt s (0,0) p false).1) (Prod.ext rfl c2);rw[he]at c4 ⊢;rcases ht with ht|ht
  ·exact absurd ht.1 c4
  exact ht.1
 unfold Cx;simp only;rw[if_pos hk,VY hv hv2,hnm];simp
end
theorem Lo(a b:A7)(w:World):(binOp .eql 26 (.agg #[.int .i64 a.1, .int .i64 a.2]) (.agg #[.int .i64 b.1, .int .i64 b.2])).run prog w= .ok (.bool (decide (a=b))) w:=O9 a.1 a.2 b.1 b.2 w
theorem dU(a b:A7)(w:World):(binOp .neq 26 (.agg #[.int .i64 a.1, .int .i64 a.2]) (.agg #[.int .i64 b.1, .int .i64 b.2])).run prog w= .ok (.bool (!decide (a=b))) w:=T5 a.1 a.2 b.1 b.2 w
def Ox(R:Wch×Int):AV:= .tup [.agg (BR R.1), .v (.int .i64 R.2)]
theorem dV(s:Spc)(k:Int)(p:AB)(F:Fnd×Int)(hF:Bt s (0,0) p (decide (k=2))=F):GD s k p=if(k≠1∧k≠2)∨Dy p.data.toList=false then(Dp,22)else if F.2≠0 then(Dp,F.2)
    else if k=2 then(if F.1.ex=false then(Dp,2)else if AZ s.files F.1.file=false then(Dp,20)else(⟨k,(0,0),⟨#[]⟩,F.1.file⟩,0))
    else if F.1.name=⟨#[]⟩then(Dp,22)else(⟨k,F.1.dir,F.1.name,(AG s.files F.1.dir F.1.name).1⟩,0):=by
 unfold GD;rw[hF];by_cases h:k=2
 ·rw[decide_eq_true h]at hF;simp only[if_pos h,hF]
 rw[decide_eq_false h]at hF;simp only[if_neg h,hF]
theorem dW{f:AM}{dir:A7}{name:AB}(h:(AG f dir name).2≠0):(AG f dir name).1=(0,0):=by
 unfold AG at h ⊢;split
 ·rfl
 rename_i n e;rw[e]at h;simp only at h;split at h
 ·rename_i c;rw[if_pos c];split
  ·rfl
  rename_i e2;rw[e2]at h;exact absurd rfl h
 rename_i c;rw[if_neg c]
section
theorem VZ(s:AB)(hs:s.size≤60000):AFn prog 183 [.v (.string s)] (fun r=>r= .v (.bool (Dy s.data.toList))):=SU (us:=[.string s]) fun w=>dC s w (by omega)
theorem Va(s:Spc)(a:A7)(hs:SpcB s):AFn prog 135 [.agg (AQ s), .agg (A8 a)] (fun r=>r= .v (.bool (JA s a))):=by
 refine enter Tryz.func135 rfl rfl rfl rfl rfl 0 rfl ?_;refine Dg (h:=Ah (h:=l_ (h:=?_)));refine A3 rfl (AA (Hv s.files a hs.files) ?_);rintro r rfl;refine m_ (h:=?_);refine AF true rfl rfl (fun hb1 hc1=>?_) (fun hb1 hc1=>?_)
 ·refine l_ (h:=AN (h:=?_));refine Af (AA (OA s a.1 hs) ?_);rintro r rfl;refine FN (h:=?_);refine A4 ?_
  first|(exfalso;first|contradiction|omega)|(exact vb (by simp[JA, *]))
 refine BF (h:=EY (h:=?_));refine A4 ?_
 first|(exfalso;first|contradiction|omega)|(exact vb (by simp[JA, *]))
theorem Vb(s:Spc)(a:A7)(hs:SpcB s):AFn prog 119 [.agg (AQ s), .agg (A8 a)] (fun r=>r= .v (.bool (AZ s.files a))):=by
 refine enter Tryz.func119 rfl rfl rfl rfl rfl 0 rfl ?_;refine Dg (h:=Ah (h:=l_ (h:=?_)));refine A3 rfl (AA (TK s.files a hs.files) ?_);rintro r rfl;refine Dt (h:=BJ (h:=m_ (h:=?_)));refine AF true rfl rfl (fun hb1 hc1=>?_) (fun hb1 hc1=>?_)
 ·refine CW (h:=FN (h:=?_));refine A4 ?_
  first|(exfalso;first|contradiction|omega)|(exact vb (by simp[Jo, *]))
 refine Cu (h:=At (h:=?_));refine A4 ?_
 first|(exfalso;first|contradiction|omega)|(exact vb (by simp[Jo, *]))
theorem Vc(s:Spc)(a:A7)(hs:SpcB s):AFn prog 132 [.agg (AQ s), .agg (A8 a)] (fun r=>r= .v (.bool (JA s a))):=by
 refine enter Tryz.func132 rfl rfl rfl rfl rfl 0 rfl ?_;refine Dg (h:=Bl (h:=?_));refine A3 rfl (AA (Vb s a hs) ?_);rintro r rfl;refine m_ (h:=?_);refine AF true rfl rfl (fun hb1 hc1=>?_) (fun hb1 hc1=>?_)
 ·refine l_ (h:=AN (h:=?_));refine Af (AA (Xi s a.1 hs) ?_);rintro r rfl;refine FN (h:=?_);refine A4 ?_
  first|(exfalso;first|contradiction|omega)|(exact vb (by simp[JA, *]))
 refine BF (h:=EY (h:=?_));refine A4 ?_
 first|(exfalso;first|contradiction|omega)|(exact vb (by simp[JA, *]))
theorem dX(s:Spc)(a:A7)(name:AB)(hs:SpcB s):AFn prog 133 [.agg (AQ s), .agg (A8 a), .v (.string name)] (fun r=>r= .agg (A8 (AG s.files a name).1)):=by
 refine enter Tryz.func133 rfl rfl rfl rfl rfl 0 rfl ?_;refine FM (h:=e_ (Ah (h:=l_ (h:=m_ (h:=?_)))));refine A3 rfl (AA (dJ s.files a name hs.files) ?_);rintro r rfl;refine Ea (h:=C6 (h:=?_));refine A6 rfl (fun hb1 hc1=>?_) (fun hb1 hc1=>?_)
 ·refine w_ (De (h:=e_ (Ax (BS (?_)))));refine A4 ?_;rw[dW (by simpa using hc1)];rfl
 refine AK (D6 (h:=e_ (Ax (?_))));refine A4 ?_;rfl
theorem dY(s:Spc)(k:Int)(p:AB)(hv:SpcV s)(hm:s.mounts.length≤1000)(hp:p.size≤50000):AFn prog 130 [.agg (AQ s), .v (.int .i64 k), .v (.string p)] (fun r=>r=Ox (GD s k p)):=by
 have hsb:=hv.b hm;obtain⟨F,hF⟩:∃F,Bt s (0,0) p (decide (k=2))=F:=⟨_,rfl⟩;have hw:=dV s k p F hF;have hfind:AFn prog 141 [.agg (AQ s), .agg (A8 (0,0)), .v (.string p), .v (.bool (decide (k=2)))] (fun r=>r= .tup [.agg (Hf F.1), .v (.int .i64 F.2)]):=by rw[←hF];exact dO s (0,0) p _ (hv.n hm) hv (by omega)
 refine enter Tryz.func130 rfl rfl rfl rfl rfl 0 rfl ?_;refine w_ (EL (h:=B5 (h:=q_ (?_))));refine C5 (fun S=>S=⟨look [(1, .v (.int .i64 k)),(2, .v (.string p)),(3, .bp 0 0),(6, .bp 1 0),(22, .v (.bool ((!decide (k=1)&& !decide (k=2))|| !Dy p.data.toList)))],⟨[AQ s,[.v (.int .i64 0), .v (.int .i64 0), .v (.int .i64 0), .v (.string ⟨#[]⟩), .v (.int .i64 0), .v (.int .i64 0)]],[]⟩⟩) ?_ ?_
 ·skip
  refine BV (h:=E7 (h:=?_));refine AF true rfl rfl (fun hb1 hc1=>?_) (fun hb1 hc1=>?_)
  ·refine m_ (h:=Gs (h:=BY (h:=?_)));refine AF false rfl rfl (fun hb2 hc2=>?_) (fun hb2 hc2=>?_)
   ·refine Ce (h:=Bq (h:=?_));exact⟨_,rfl,DY 2 0 rfl⟩
   refine m_ (h:=?_);refine Af (AA (Ol p hp) ?_);rintro r rfl;refine Dd (h:=G5 (h:=?_));exact⟨_,rfl,DY 2 0 rfl⟩
  refine B1 (h:=BQ (h:=m_ (h:=?_)));refine Af (AA (Ol p hp) ?_);rintro r rfl;refine Dd (h:=G5 (h:=?_));exact⟨_,rfl,DY 2 0 rfl⟩
 rintro S rfl;refine A6 rfl (fun hb3 hc3=>?_) (fun hb3 hc3=>?_)
 ·have k1:(k≠1∧k≠2)∨Dy p.data.toList=false:=by simpa using hc3
  refine Cf (h:=?_);refine A4 ?_;rw[hw,if_pos k1];rfl
 have k1:¬((k≠1∧k≠2)∨Dy p.data.toList=false):=by simpa using hc3
 refine AK (Be (h:=Pw (h:=CX (h:=?_))));refine A3 rfl (AA (hfind) ?_);rintro r rfl;refine Ea (h:=C6 (h:=?_));refine A6 rfl (fun hb4 hc4=>?_) (fun hb4 hc4=>?_)
 ·have k2:F.2≠0:=by simpa using hc4
  refine w_ (FP (h:=At (h:=BS (?_))));refine A4 ?_;rw[hw,if_neg k1,if_pos k2];rfl
 have k2:¬F.2≠0:=by simpa using hc4
 refine AK (BD (h:=C2 (h:=?_)));refine A6 rfl (fun hb5 hc5=>?_) (fun hb5 hc5=>?_)
 ·have k3:k=2:=hc5;refine F7 (h:=Dj (h:=?_));refine A6 rfl (fun hb6 hc6=>?_) (fun hb6 hc6=>?_)
  ·have k4:F.1.ex=false:=by simpa using hc6
   refine Cf (h:=BS (?_));refine A4 ?_;rw[hw,if_neg k1,if_neg k2,if_pos k3,if_pos k4];rfl
  have k4:¬F.1.ex=false:=by simpa using hc6
  refine D0 (h:=AN (h:=?_));refine A3 rfl (AA (Hv s.files F.1.file hsb.files) ?_);rintro r rfl;refine Dj (h:=?_);refine A6 rfl (fun hb7 hc7=>?_) (fun hb7 hc7=>?_)
  ·have k5:AZ s.files F.1.file=false:=by simpa using hc7
   refine Cf (h:=BS (?_));refine A4 ?_;rw[hw,if_neg k1,if_neg k2,if_pos k3,if_neg k4,if_pos k5];rfl
  have k5:¬AZ s.files F.1.file=false:=by simpa using hc7
  refine AK (Aa (h:=AN (h:=Pv (h:=BS (?_)))));refine A4 ?_;rw[hw,if_neg k1,if_neg k2,if_pos k3,if_neg k4,if_neg k5];rfl
 have k3:¬k=2:=hc5;refine D0 (h:=C2 (h:=?_));refine A6 rfl (fun hb8 hc8=>?_) (fun hb8 hc8=>?_)
 ·have k6:F.1.name=⟨#[]⟩:=hc8;refine Cf (h:=?_);refine A4 ?_;rw[hw,if_neg k1,if_neg k2,if_neg k3,if_pos k6];rfl
 have k6:¬F.1.name=⟨#[]⟩:=hc8;refine AK (Ah (h:=AN (h:=AN (h:=?_))));refine A3 rfl (AA (JN s.files F.1.dir F.1.name hsb.files) ?_);rintro r rfl;refine Dt (h:=BJ (h:=AN (h:=AN (h:=l_ (h:=Pv (h:=?_))))));refine A4 ?_;rw[hw,if_neg k1,if_neg k2,if_neg k3,if_neg k6];rfl
theorem dZ(s:Spc)(w:Wch)(hs:SpcB s)(hn:w.name.size≤100000):AFn prog 92 [.agg (AQ s), .agg (BR w)] (fun r=>r= .v (.bool (Cx s w))):=by
 refine enter Tryz.func92 rfl rfl rfl rfl rfl 0 rfl ?_;refine Dg (h:=F7 (h:=e_ (BL (B6 (h:=?_)))));refine A6 rfl (fun hb1 hc1=>?_) (fun hb1 hc1=>?_)
 ·refine Ah (h:=AN (h:=AN (h:=?_)));refine A3 rfl (AA (JN s.files w.dir w.name hs.files) ?_);rintro r rfl;refine Dt (h:=B5 (h:=Be (h:=AN (h:=?_))));refine A3 rfl (AA (Va s w.dir hs) ?_);rintro r rfl;refine m_ (h:=?_);refine AF true rfl rfl (fun hb2 hc2=>?_) (fun hb2 hc2=>?_)
  ·refine l_ (h:=AN (h:=?_));refine Af (Ff rfl rfl (by repeat constructor) (by repeat constructor) (fun W=>Lo (AG s.files w.dir w.name).1 w.file W) (by kernel_rfl) ?_);refine BY (h:=?_);refine AF true rfl rfl (fun hb3 hc3=>?_) (fun hb3 hc3=>?_)
   ·refine AN (h:=?_);refine Af (AA (O8 w.name hn) ?_);rintro r rfl;refine Bc (h:=BK (h:=?_));refine A4 ?_
    first|(exfalso;first|contradiction|omega)|(exact vb (by simp[Cx, *]))
   refine Cu (h:=BK (h:=?_));refine A4 ?_
   first|(exfalso;first|contradiction|omega)|(exact vb (by simp[Cx, *]))
  refine BF (h:=BQ (h:=Cu (h:=BK (h:=?_))));refine A4 ?_
  first|(exfalso;first|contradiction|omega)|(exact vb (by simp[Cx, *]))
 refine B6 (h:=?_);refine A6 rfl (fun hb4 hc4=>?_) (fun hb4 hc4=>?_)
 ·refine Be (h:=AN (h:=?_));refine A3 rfl (AA (Va s w.file hs) ?_);rintro r rfl;refine m_ (h:=?_);refine AF true rfl rfl (fun hb5 hc5=>?_) (fun hb5 hc5=>?_)
  ·refine AN (h:=Ck (h:=?_));refine Af (Ff rfl rfl (by repeat constructor) (by repeat constructor) (fun W=>Lo w.dir (0,0) W) (by kernel_rfl) ?_);refine BY (h:=?_);refine AF true rfl rfl (fun hb6 hc6=>?_) (fun hb6 hc6=>?_)
   ·refine CW (h:=Bc (h:=BK (h:=?_)));refine A4 ?_
    first|(exfalso;first|contradiction|omega)|(exact vb (by simp[Cx, *]))
   refine Cu (h:=BK (h:=?_));refine A4 ?_
   first|(exfalso;first|contradiction|omega)|(exact vb (by simp[Cx, *]))
  refine BF (h:=BQ (h:=Cu (h:=BK (h:=?_))));refine A4 ?_
  first|(exfalso;first|contradiction|omega)|(exact vb (by simp[Cx, *]))
 refine As (Am (EX (h:=?_)));refine A4 ?_
 first|(exfalso;first|contradiction|omega)|(exact vb (by simp[Cx, *]))
theorem eB(s:Spc)(w:Wch)(hs:SpcB s):AFn prog 91 [.agg (AQ s), .agg (BR w)] (fun r=>r= .v (.bool (Cx s w))):=by
 refine enter Tryz.func91 rfl rfl rfl rfl rfl 0 rfl ?_;refine Dg (h:=F7 (h:=e_ (BL (B6 (h:=?_)))));refine A6 rfl (fun hb1 hc1=>?_) (fun hb1 hc1=>?_)
 ·refine q_ (E4 21 (h:=Ar 0 (h:=AD 1 (h:=?_))));refine c_ 2 rfl (AA (cN w.name) ?_);rintro r rfl;refine o_ (h:=Ac 3 (h:=?_));refine Fs (j:=3) rfl (fun hb2=>?_) (fun hb2=>?_)
  ·have hc2:=bp hb2;refine AD 4 (h:=Ar 5 (h:=AD 6 (h:=?_)));refine c_ 7 rfl (AA (Vc s w.dir hs) ?_);rintro r rfl;refine o_ (h:=Fi 8 (h:=Ac 9 (h:=?_)));refine Fs (j:=9) rfl (fun hb3=>?_) (fun hb3=>?_)
   ·have hc3:=bp hb3;refine Ar 10 (h:=AD 11 (h:=AD 12 (h:=Ar 13 (h:=AD 14 (h:=Ar 15 (h:=AD 16 (h:=?_)))))));refine c_ 17 rfl (AA (dX s w.dir w.name hs) ?_);rintro r rfl;refine o_ (h:=?_);refine Ft (i:=18) rfl (Ff rfl rfl (by repeat constructor) (by repeat constructor) (fun W=>Lo w.file (AG s.files w.dir w.name).1 W) (by kernel_rfl) ⟨rfl,rfl⟩) ?_;refine Fi 19 (h:=BM 20 (h:=z_ (h:=t_ (Ax (Gl (BS (?_)))))));refine A4 ?_
    first|(exfalso;first|contradiction|omega)|(exact vb (by first|(simp[Cx, *];done)|(simp[Cx, *,eq_comm];done)))
   have hc3:=bp hb3;refine BH 10 (h:=BH 11 (h:=BH 12 (h:=BH 13 (h:=BH 14 (h:=BH 15 (h:=BH 16 (h:=BH 17 (h:=BH 18 (h:=JJ 19 (h:=BM 20 (h:=z_ (h:=t_ (Ax (Gl (BS (?_))))))))))))))));refine A4 ?_
   first|(exfalso;first|contradiction|omega)|(exact vb (by first|(simp[Cx, *];done)|(simp[Cx, *,eq_comm];done)))
  have hc2:=bp hb2;refine BH 4 (h:=BH 5 (h:=BH 6 (h:=BH 7 (h:=JJ 8 (h:=Ac 9 (h:=BH 10 (h:=BH 11 (h:=BH 12 (h:=BH 13 (h:=BH 14 (h:=BH 15 (h:=BH 16 (h:=BH 17 (h:=BH 18 (h:=JJ 19 (h:=BM 20 (h:=z_ (h:=t_ (Ax (Gl (BS (?_))))))))))))))))))))));refine A4 ?_
  first|(exfalso;first|contradiction|omega)|(exact vb (by first|(simp[Cx, *];done)|(simp[Cx, *,eq_comm];done)))
 refine B6 (h:=?_);refine A6 rfl (fun hb4 hc4=>?_) (fun hb4 hc4=>?_)
 ·refine Ah (h:=Ck (h:=?_));refine A3 rfl (Ff rfl rfl (by repeat constructor) (by repeat constructor) (fun W=>Lo w.dir (0,0) W) (by kernel_rfl) ?_);refine m_ (h:=?_);refine AF true rfl rfl (fun hb5 hc5=>?_) (fun hb5 hc5=>?_)
  ·refine CW (h:=BY (h:=?_));refine AF true rfl rfl (fun hb6 hc6=>?_) (fun hb6 hc6=>?_)
   ·refine l_ (h:=AN (h:=?_));refine Af (AA (Vc s w.file hs) ?_);rintro r rfl;refine Bc (h:=BK (h:=?_));refine A4 ?_
    first|(exfalso;first|contradiction|omega)|(exact vb (by first|(simp[Cx, *];done)|(simp[Cx, *,eq_comm];done)))
   refine BF (h:=C0 (h:=BK (h:=?_)));refine A4 ?_
   first|(exfalso;first|contradiction|omega)|(exact vb (by first|(simp[Cx, *];done)|(simp[Cx, *,eq_comm];done)))
  refine EZ (h:=BF (h:=C0 (h:=BK (h:=?_))));refine A4 ?_
  first|(exfalso;first|contradiction|omega)|(exact vb (by first|(simp[Cx, *];done)|(simp[Cx, *,eq_comm];done)))
 refine As (Am (EX (h:=?_)));refine A4 ?_
 first|(exfalso;first|contradiction|omega)|(exact vb (by first|(simp[Cx, *];done)|(simp[Cx, *,eq_comm];done)))
end
end Go.Proofs.YtbgnigjfkbmceaaGreatDoor
