/-
  Part 10 of the proof of WatchFollowsP: what the statement's proof uses of the texts in wip/tpl.
-/
import Derived.Maps.AppendAt
import Derived.OwnWalk
import Derived.StillTailTactics
import Derived.OpenShut
import Derived.ChangeArms
import Derived.ChangeOld
import Derived.DataReads
import Derived.DataElems
import Derived.Test.YtbglbmnhgbgelaaGreatDoorQf9
open Go.Proofs.Tryz (prog)
set_option maxRecDepth 10000
set_option maxHeartbeats 4000000
set_option linter.unusedVariables false
set_option linter.unusedSimpArgs false
namespace Go.Proofs.YtbglbmnhgbgelaaGreatDoor
open Go.RowKit Go.Shelf
attribute [local go_sem] Oper.semAt_some
theorem Tryz.infoStrH:(prog.info? 9).map (fun i=>(i.zero,i.size,i.bytes))=some (some (.string ⟨#[]⟩),1,16):=by kernel_rfl
def D4(s:Spc)(pre:List AA):List AD:=(pre.filter fun x:AA=>decide (x.2≠1)).map (CH s)
def Hh(s:Spc)(pre:List AA):AD:=(D4 s pre).reverse.foldl DX ⟨#[47]⟩
def Bp(s:Spc)(dir:AA):AD×Bool:=
 if AT s.files dir=true∧Bm s dir.1=true∧(0,1)∈Bb s (Bk s.files) dir then(Hh s ((Bb s (Bk s.files) dir).takeWhile fun x=>decide (x≠(0,1))),true)else(⟨#[]⟩,false)
theorem RN(s:Spc):∀(k:Nat) (a:AA),(Bb s k a).length≤k
 |0,_=>by simp[Bb]
 |k+1,a=>by
   unfold Bb;split
   ·cases h:Ee s a with
    |none=>simp
    |some b=>have:=RN s k b;simp;omega
   simp
theorem d7(d m:AD):(DX d m).size≤d.size+1+m.size:=by
 unfold DX;split
 ·rw[ByteArray.size_append];omega
 rw[ByteArray.size_append,ByteArray.size_append];exact BA _
theorem V5:∀(l:List AD) (d:AD),(∀x∈l,x.size≤100)→(l.foldl DX d).size≤d.size+101 * l.length
 |[],d,_=>by simp
 |x::l,d,h=>by
   have h1:=V5 l (DX d x) fun y hy=>h y (List.mem_cons_of_mem _ hy);have h2:=d7 d x;have h3:=h x (List.mem_cons_self ..);simp only[List.foldl_cons,List.length_cons];omega
theorem d8{w:World}{base:Nat}{e:TypeId}{A:Option Addr}{c g0:Nat}{ns:List AD}(h:w.ownsRow base e 1 (.slice A ns.length c) ns.length (ns.map Value.string))(hg0:g0<w.heap.size):∃g,g<w.heap.size∧NamesIn w A ns.length c ns g:=by
 rcases h.2 with⟨hv,hn⟩|⟨g,cap,cur,hv,_,hb,h1,_,_,h2⟩
 ·injection hv with _ _ hc;exact⟨g0,hg0,rfl,by omega, .inl (List.length_eq_zero_iff.1 hn)⟩
 injection hv with hA _ hc;subst hA hc;refine⟨g,C4 hb,rfl,h1, .inr ⟨rfl,fun i x hx=>?_⟩⟩;rw[(CD hb).1 i,←Array.getElem?_toList];have hi:i<ns.length:=(As.1 hx).1;rw[←List.getElem?_take_of_lt (show i<ns.length * 1 by omega),h2,List.getElem?_map,hx];rfl
theorem d9{pre l:List AA}(h:pre<+:l)(hm:(0,1)∈pre):(l.takeWhile fun x:AA=>decide (x≠(0,1)))=pre.takeWhile fun x:AA=>decide (x≠(0,1)):=by
 obtain⟨t,rfl⟩:=h
 induction pre with
 |nil=>simp at hm
 |cons y ys ih=>
   by_cases hy:y=(0,1)
   ·simp[hy]
   have hm':(0,1)∈ys:=by
    rcases List.mem_cons.1 hm with h|h
    ·exact absurd h.symm hy
    exact h
   rw[List.cons_append,List.takeWhile_cons,List.takeWhile_cons,ih hm']
theorem dA{pre:List AA}(h:(0,1)∉pre):((pre++[(0,1)]).takeWhile fun x:AA=>decide (x≠(0,1)))=pre:=by
 induction pre with
 |nil=>simp
 |cons y ys ih=>
   have hy:y≠(0,1):=fun e=>h (by rw[e];simp);rw[List.cons_append,List.takeWhile_cons,if_pos (by simpa using hy),ih (fun hm=>h (List.mem_cons_of_mem _ hm))]
theorem V6(s:Spc)(pre:List AA)(x:AA):D4 s (pre++[x])=if x.2=1 then D4 s pre else D4 s pre++[CH s x]:=by
 unfold D4;rw[List.filter_append,List.map_append];by_cases h:x.2=1<;>simp[h]
theorem V7(s:Spc)(pre:List AA):(D4 s pre).length≤pre.length:=by
 unfold D4;rw[List.length_map];exact List.length_filter_le _ _
theorem DR{F:Fence}{n:Nat}{P:Program}{ops:Array Oper}{Q:Exit→Act→World→Prop}{fuel:Nat}{listed:Array Bool}{a:Act}{w:World}{rs:List Nat}(hr:Region.ready .any ops listed=rs)(hne:rs≠[])
    (h:∀i∈rs,wpOpIn F n P ops Q i (wpAnyIn F n P .any ops Q fuel (listed.setIfInBounds i true)) a w):wpAnyIn F n P .any ops Q (fuel+1) listed a w:=
 ⟨fun h0=>absurd (hr.symm.trans h0) hne,fun i hi=>h i (hr ▸ hi)⟩
theorem Cb{F:Fence}{n:Nat}{P:Program}{ops l:Array Oper}{Q:Exit→Act→World→Prop}{i:Nat}{o:Oper}{K:Act→World→Prop}{a:Act}{w:World}(hops:ops=l)(ho:l[i]?=some o)
    (h:∀K':Act→World→Prop,(∀a w,K a w→K' a w)→wpListIn F n P ops (Exit.then K' Q) [o] a w):wpOpIn F n P ops Q i K a w:=by
 have h1:=h K fun _ _ h=>h;subst hops;unfold wpOpIn;rw[ho];unfold wpListIn at h1;simp only;split at h1
 ·rename_i hw;rw[if_pos hw];refine⟨h1.1,?_⟩;have h2:=h1.2;generalize (o.semAt F.round a.eval).run P w=r at h2
  cases r with
  |ok x w'=>cases x<;>exact h2
  |halt x w'=>cases x<;>exact h2
 rename_i hw;rw[if_neg hw];exact h1
theorem dB{F:Fence}{n:Nat}{P:Program}{ops:Array Oper}{Q:Exit→Act→World→Prop}{id:Nat}{a:Act}{w:World}(hm:P.follows .mixedOrders=true)(k:Nat)(hk:ops.size=k)
    (h:∀ops',ops'=ops→wpAnyIn F n P .any ops' Q k (Array.replicate k false) a w.drew):(Code.region id ops true).wpIn F n P Q a w:=by
 subst hk;exact wpIn_region_any hm (h ops rfl)
theorem dC{W w1:World}{base B:Nat}{t e:TypeId}{size:Nat}{v v':Value}{k m:Nat}{xs ys:List Value}{tmp:Obj}
    (hv:Boxed W B t v) (hrow:W.ownsRow base e size v k xs) (hbase:base≤W.heap.size) (hB:B<base)
    (hown':w1.ownsRow base e size v' m ys) (hgrow:(W.alloc tmp).grownBy w1 v.ownBlock):
    Boxed w1 B t v∧Boxed (w1.setCell ⟨B,0,none⟩ v') B t v'∧(w1.setCell ⟨B,0,none⟩ v').ownsRow base e size v' m ys∧KeepsOthers W (w1.setCell ⟨B,0,none⟩ v')∧
     Below B W (w1.setCell ⟨B,0,none⟩ v')∧(∀j:Nat,j<base→j≠B→(w1.setCell ⟨B,0,none⟩ v').heap[j]?=W.heap[j]?)∧
     ∀(j:Nat) (cs:Array Value) (t':TypeId),t'≠e→t'≠t→W.heap[j]?=some (.cells cs t')→(w1.setCell ⟨B,0,none⟩ v').heap[j]?=some (.cells cs t'):=by
 have hne:∀j,j<base→some j≠v.ownBlock:=by
  intro j hj e;have:=World.ownsRow.lt hrow j e.symm;omega
 have hblk:∀j,j<base→w1.heap[j]?=W.heap[j]?:=fun j hj=>(hgrow.block j (by simp;omega) (hne j hj)).trans (Below.heap_alloc W tmp j (by omega));have hv1:Boxed w1 B t v:=(hblk B hB).trans hv;refine⟨hv1,hv1.set v',ownsRow_setCell_below hown' hB v',?_,?_,fun j hj hj'=>(Below.heap_setCell w1 ⟨B,0,none⟩ v' j hj').trans (hblk j hj),?_⟩
 ·refine((KeepsOthers.alloc W tmp).trans (KeepsOthers.of_grownBy hgrow fun j o ej hj=>?_)).trans (KeepsOthers.setCell _ _ _);rcases(hrow.alloc tmp).2 with⟨rfl,_⟩|⟨g,cap,cur,rfl,_,hgb,_⟩
  ·simp[Value.ownBlock]at ej
  obtain rfl:g=j:=by simpa[Value.ownBlock]using ej
  rw[hgb]at hj;cases hj;rfl
 ·have hs:=hgrow.size;simp at hs;exact⟨hgrow.os,hgrow.tape,hgrow.output,by simp[World.setCell];omega,fun j hj=>(Below.heap_setCell w1 ⟨B,0,none⟩ v' j (by show j≠B;omega)).trans (hblk j (by omega))⟩
 intro j cs t' he ht hj;have hjl:=C4 hj;refine(Below.heap_setCell w1 ⟨B,0,none⟩ v' j fun eq=>?_).trans (((hgrow.block j (by simp;omega) fun eq=>?_).trans (Below.heap_alloc W tmp j (by omega))).trans hj)
 ·have eq':j=B:=eq;subst eq';rw[show W.heap[j]?=_ from hv]at hj;injection hj with hj;injection hj with _ h2;exact ht h2.symm
 rcases hrow.2 with⟨rfl,_⟩|⟨g,cap,cur,rfl,_,hgb,_⟩
 ·simp[Value.ownBlock]at eq
 obtain rfl:j=g:=by simpa[Value.ownBlock]using eq
 rw[hgb]at hj;injection hj with hj;injection hj with _ h2;exact he h2.symm
theorem Moves.rowH{own:Nat→Prop}{B:Nat}{X Y:World}(h:Moves own B X Y){base e size k:Nat}{v:Value}{xs:List Value}(hr:X.ownsRow base e size v k xs)(ho:∀b,own b→b<base):Y.ownsRow base e size v k xs:=by
 refine⟨hr.1,?_⟩;rcases hr.2 with h'|⟨g,cap,cur,hv,hg,hb,r⟩
 ·exact .inl h'
 refine .inr ⟨g,cap,cur,hv,hg,?_,r⟩;exact(h.block g (Array.getElem?_eq_some_iff.1 hb).1 (fun e=>by have:=ho g e;omega) (.inr ⟨_,hb,rfl⟩)).trans hb
set_option maxRecDepth 100000 in
set_option maxHeartbeats 4000000 in
theorem dD(n:Nat)(hn:Hid (4≤n))(s:Spc)(hs:SpcB s)(hnm:∀x,(CH s x).size≤100)(hmo:Bk s.files≤5000)(dir:AA)(ds ms:Value)(w:World)(h:SpcIn s w.heap.size w ds ms):
    CallsIn Fence.wide n prog 137 #[.agg #[ds,ms],Ep dir] w fun e w'=>e= .returned (.tuple #[.string (Bp s dir).1, .bool (Bp s dir).2])∧Below w.heap.size w w':=by
 obtain⟨i0,hi0,hz0,hz1,hz2⟩:=info_parts Tryz.infoStrH;have HNM:=Lib.hid hnm;clear hnm;unfold Ep;refine callsIn_of_wp_marks Tryz.func137 rfl trivial ?_ rfl;simp only[Tryz.ntmps137,List.size_toArray,List.length_cons,List.length_nil,Nat.reduceAdd,Nat.reduceSub,Array.replicate_succ,Array.replicate_zero,List.push_toArray,List.append_toArray,List.nil_append,List.cons_append]
 gi_wp2_with fail
 obtain⟨W4,hW4⟩:∃W4,(((w.alloc (.cells #[ds,ms] 31)).alloc (.cells #[.int .i64 dir.1, .int .i64 dir.2] 36)).alloc (.cells #[.string ⟨#[]⟩] 9)).alloc (.cells #[.bool false] 4)=W4:=⟨_,rfl⟩;have hz4:W4.heap.size=w.heap.size+4:=by rw[←hW4];simp
 have hB4:Below w.heap.size w W4:=by rw[←hW4];exact Tv _ _ _ _ _
 have kS:W4.heap[w.heap.size]?=some (.cells #[ds,ms] 31):=by rw[←hW4];exact Tw _ _ _ _ _
 have kD:W4.heap[w.heap.size+1]?=some (.cells #[.int .i64 dir.1, .int .i64 dir.2] 36):=by rw[←hW4];exact Tx _ _ _ _ _
 have kP:Boxed W4 (w.heap.size+1+1) 9 (.string ⟨#[]⟩):=by rw[←hW4];exact Ty _ _ _ _ _
 have kE:Boxed W4 (w.heap.size+1+1+1) 4 (.bool false):=by rw[←hW4];exact Tz _ _ _ _ _
 have hSp:=h.below hB4 (BA _);rw[hW4];have HZ4:=Lib.hid hz4;clear hW4;refine ES ((callsIn_wide.2 (aF hSp hs dir)).mono ?_);rintro e W5 ⟨rfl,hb5⟩;obtain⟨di,hdi⟩:∃di,AT s.files dir=di:=⟨_,rfl⟩;rw[hdi];have hz5:=hb5.size;have k5S:=Ba kS hb5 (C4 kS);have k5D:=Ba kD hb5 (C4 kD);have k5P:Boxed W5 (w.heap.size+1+1) 9 (.string ⟨#[]⟩):=Ba kP hb5 (C4 kP);have k5E:Boxed W5 (w.heap.size+1+1+1) 4 (.bool false):=Ba kE hb5 (C4 kE);have hB5:Below w.heap.size w W5:=hB4.trans (hb5.mono hB4.size);have h5:=h.below hB5 (BA _);have HZ5:Hid (w.heap.size+4≤W5.heap.size):=Lib.hid (by omega);have HDI:=Lib.hid hdi;clear kS kD kP kE hB4 hSp hb5 hz4 hz5 hdi HZ4;obtain⟨c0,f0⟩:=CD k5S;obtain⟨c1,f1⟩:=CD k5D;have c2:=k5P.cell;have f2:=k5P.frozen;have c3:=k5E.cell;have f3:=k5E.frozen
 cases di with
 |false=>
   have HW:Hid (Bp s dir=(⟨#[]⟩,false)):=Lib.hid (by unfold Bp;rw[HDI.out];simp)
   gi_wp2
   refine⟨trivial,?_⟩
   gi_wp2
   have hP:=(Boxed.other (k5P.set (.string ⟨#[]⟩)) (show w.heap.size+1+1≠w.heap.size+1+1+1 by omega) (.bool false)).cell;have hE:=((Boxed.other k5E (show w.heap.size+1+1+1≠w.heap.size+1+1 by omega) (.string ⟨#[]⟩)).set (.bool false)).cell;refine⟨.tuple #[.string ⟨#[]⟩, .bool false],by simp[results,Tryz.f137,go_sem,hP,hE],by rw[HW.out],(hB5.setCell (by show w.heap.size≤w.heap.size+1+1;omega) _).setCell (by show w.heap.size≤w.heap.size+1+1+1;omega) _⟩
 |true=>
   gi_wp2_with fail
   refine ES ((callsIn_wide.2 (aG h5 hs dir.1)).mono ?_);rintro e W6 ⟨rfl,hb6⟩;obtain⟨mi,hmi⟩:∃mi,Bm s dir.1=mi:=⟨_,rfl⟩;rw[hmi];have hz6:=hb6.size;have k6S:=Ba k5S hb6 (C4 k5S);have k6D:=Ba k5D hb6 (C4 k5D);have k6P:Boxed W6 (w.heap.size+1+1) 9 (.string ⟨#[]⟩):=Ba k5P hb6 (C4 k5P);have k6E:Boxed W6 (w.heap.size+1+1+1) 4 (.bool false):=Ba k5E hb6 (C4 k5E);have hB6:Below w.heap.size w W6:=hB5.trans (hb6.mono hB5.size);have HZ6:Hid (w.heap.size+4≤W6.heap.size):=Lib.hid (by have:=HZ5.out;omega);have HMI:=Lib.hid hmi;clear k5S k5D k5P k5E hB5 h5 hb6 hz6 hmi HZ5 c0 f0 c1 f1 c2 f2 c3 f3;obtain⟨c0,f0⟩:=CD k6S;obtain⟨c1,f1⟩:=CD k6D;have c2:=k6P.cell;have f2:=k6P.frozen;have c3:=k6E.cell;have f3:=k6E.frozen
   cases mi with
   |false=>
     have HW:Hid (Bp s dir=(⟨#[]⟩,false)):=Lib.hid (by unfold Bp;rw[HMI.out];simp)
     gi_wp2
     have hP:=(Boxed.other (k6P.set (.string ⟨#[]⟩)) (show w.heap.size+1+1≠w.heap.size+1+1+1 by omega) (.bool false)).cell;have hE:=((Boxed.other k6E (show w.heap.size+1+1+1≠w.heap.size+1+1 by omega) (.string ⟨#[]⟩)).set (.bool false)).cell;refine⟨.tuple #[.string ⟨#[]⟩, .bool false],by simp[results,Tryz.f137,go_sem,hP,hE],by rw[HW.out],(hB6.setCell (by show w.heap.size≤w.heap.size+1+1;omega) _).setCell (by show w.heap.size≤w.heap.size+1+1+1;omega) _⟩
   |true=>
     have HW:Hid (Bp s dir=if(0,1)∈Bb s (Bk s.files) dir then(Hh s ((Bb s (Bk s.files) dir).takeWhile fun x=>decide (x≠(0,1))),true)else(⟨#[]⟩,false)):=Lib.hid (by unfold Bp;rw[HDI.out,HMI.out];simp);obtain⟨d0,g0⟩:=CD (Cw k6S (.cells #[.slice none 0 0] 63));obtain⟨d1,g1⟩:=CD (Cw k6D (.cells #[.slice none 0 0] 63))
     gi_wp2_with fail
     obtain⟨W7,hW7⟩:∃W7,W6.alloc (.cells #[.slice none 0 0] 63)=W7:=⟨_,rfl⟩;have hB7:Below W6.heap.size W6 W7:=by rw[←hW7];exact Gq _ _
     have hz7:W7.heap.size=W6.heap.size+1:=by rw[←hW7];simp
     have kN:Boxed W7 W6.heap.size 63 (.slice none 0 0):=by rw[←hW7];exact Jw _ _
     rw[hW7];clear hW7 d0 g0 d1 g1 c0 f0 c1 f1 c2 f2 c3 f3;refine ES ((callsIn_wide.2 (aH ds ms dir W7)).mono ?_);rintro e W9 ⟨rfl,hW9⟩;have hB9:Below W7.heap.size W7 W9:=by rw[hW9];exact JT _ _ _
     have hz9:W9.heap.size=W6.heap.size+3:=by rw[hW9];simp[hz7]
     have cS:W9.heap[W7.heap.size]?=some (.cells #[ds,ms] 31):=by rw[hW9];exact Jy _ _ _
     have cD:W9.heap[W7.heap.size+1]?=some (.cells #[.int .i64 dir.1, .int .i64 dir.2] 36):=by rw[hW9];exact Jz _ _ _
     have hB69:Below W6.heap.size W6 W9:=hB7.trans (hB9.mono (by omega));have kN9:Boxed W9 W6.heap.size 63 (.slice none 0 0):=Ba kN hB9 (by omega);have k9S:=Ba k6S hB69 (C4 k6S);have k9P:Boxed W9 (w.heap.size+1+1) 9 (.string ⟨#[]⟩):=Ba k6P hB69 (C4 k6P);have k9E:Boxed W9 (w.heap.size+1+1+1) 4 (.bool false):=Ba k6E hB69 (C4 k6E);have hBw:Below w.heap.size w W9:=hB6.trans (hB69.mono hB6.size);have kSp:=h.below hBw (BA _);have HZ9:Hid (W7.heap.size=W6.heap.size+1∧W9.heap.size=W6.heap.size+3):=Lib.hid ⟨hz7,hz9⟩;clear hW9 kN hB7 hB9 hB69 hB6 hz7 hz9 k6S k6D k6P k6E
     gi_wp2_with fail
     refine cT rfl (by have:=hn.out;omega) (gf:=146) rfl trivial (enters_of Tryz.func146 (by kernel_rfl) rfl)
      (aM (n - 1) s hs dir w.heap.size W7.heap.size (W7.heap.size+1) ds ms W9 cS cD kSp (by have:=HZ9.out;have:=HZ6.out;omega) (by have:=HZ9.out;have:=HZ6.out;omega) (by omega))
      (fun b hb=>by have:=HZ9.out;omega) KeepC.trans (fun W l o o' hl ho hc=>by have:=HZ9.out;have:=HZ6.out;exact aK (B:=W9.heap.size) (by omega) (by omega) (by omega) W l o o' hl ho hc) (Below.refl _ _) (fun _=>rfl)
      (fun pre W=>W.heap[w.heap.size]?=some (.cells #[ds,ms] 31)∧Boxed W (w.heap.size+1+1) 9 (.string ⟨#[]⟩)∧Boxed W (w.heap.size+1+1+1) 4 (.bool false)∧(∃v,Boxed W W6.heap.size 63 v∧W.ownsRow W9.heap.size 9 1 v (D4 s pre).length ((D4 s pre).map Value.string))∧(0,1)∉pre∧Below w.heap.size w W)
      (fun c pre W=>c= .ret∧Boxed W (w.heap.size+1+1) 9 (.string (Hh s (pre.takeWhile fun x:AA=>decide (x≠(0,1)))))∧Boxed W (w.heap.size+1+1+1) 4 (.bool true)∧(0,1)∈pre∧Below w.heap.size w W)
      (fun s X Y h hm=>by
        obtain⟨h1,h2,h3,⟨v,h4,h5⟩,h6,h7⟩:=h;have z9:=HZ9.out;have z6:=HZ6.out
        exact⟨(hm.block _ (C4 h1) (by omega) (.inr ⟨_,h1,rfl⟩)).trans h1,hm.boxed h2 (by omega),hm.boxed h3 (by omega),⟨v,hm.boxed h4 (by omega),hm.rowH h5 (fun b hb=>by omega)⟩,h6,hm.under h7 (BA _) (fun b hb=>by omega) (by omega)⟩)
      (fun c s X Y h hm=>by
        obtain⟨h1,h2,h3,h6,h7⟩:=h;have z9:=HZ9.out;have z6:=HZ6.out
        exact⟨h1,hm.boxed h2 (by omega),hm.boxed h3 (by omega),h6,hm.under h7 (BA _) (fun b hb=>by omega) (by omega)⟩)
      ⟨k9S,k9P,k9E,⟨_,kN9,World.ownsRow_nil _ _ _ _⟩,by simp,hBw⟩
      (fun x W=>{tmps:=#[.agg #[ds,ms], .agg #[.int .i64 dir.1, .int .i64 dir.2], .pointer (some ⟨w.heap.size,0,none⟩), .pointer (some ⟨w.heap.size+1,0,none⟩), .pointer (some ⟨w.heap.size+1+1,0,none⟩), .pointer (some ⟨w.heap.size+1+1+1,0,none⟩), .pointer (some ⟨W6.heap.size,0,none⟩), .pointer (some ⟨W.heap.size,0,none⟩),undef,undef,undef, .agg #[ds,ms],
        .agg #[.int .i64 dir.1, .int .i64 dir.2], .bool true, .bool false, .bool false, .agg #[ds,ms], .pointer (some ⟨w.heap.size+1,0,none⟩), .int .i64 dir.1, .bool true, .bool false, .bool false, .agg #[ds,ms], .agg #[.int .i64 dir.1, .int .i64 dir.2],
        .func (.func 146) #[] #[.pointer (some ⟨W7.heap.size,0,none⟩), .pointer (some ⟨W7.heap.size+1,0,none⟩)], .agg #[.int .i64 x.1, .int .i64 x.2],undef,undef,undef,undef,undef,undef,undef,undef,undef,undef,undef,undef,undef,undef,undef,undef,undef,undef,undef,undef,undef,undef],defers:=[]})
      (fun x W=>W.alloc (.cells #[.int .i64 x.1, .int .i64 x.2] 36))
      (fun x W hsz=>⟨Gq _ _,by have:=HZ9.out;have:=HZ6.out;exact Qs (Gq _ _) (by omega) (by omega) (by omega)⟩) ?assign ?body ?done ?stop
     case assign=>
      intro l x W K hsz hK;unfold Ep
      gi_wp2
      exact hK
     case body=>
      rintro l pre x W0 W ⟨c1,cP,cE,⟨v,cN,hrow⟩,hnm,hbw⟩ hpf hsz hszW hcell hlW hrl;have cX:=hcell _ _ (Jw W0 (.cells #[.int .i64 x.1, .int .i64 x.2] 36)) rfl;simp only[Oa]at hszW;have HN:=Lib.hid hnm;have HZ:=Lib.hid hsz;have HPF:=Lib.hid hpf;clear hnm hsz hcell hpf k9S k9P k9E kN9 cS cD kSp;obtain⟨a1,b1⟩:=CD c1;obtain⟨aX,bX⟩:=CD cX;have aP:=cP.cell;have bP:=cP.frozen;have aE:=cE.cell;have bE:=cE.frozen;have aN:=cN.cell;have bN:=cN.frozen;obtain⟨xd,xi⟩:=x;simp only at aX cX;by_cases hx:(xd,xi)=(0,1)
      ·obtain⟨rfl,rfl⟩:=Prod.mk.inj hx
       obtain⟨A,cc,rfl⟩:∃A c,v= .slice A (D4 s pre).length c:=by
        rcases hrow.2 with⟨rfl,hn⟩|⟨g,cap,cur,rfl,_⟩
        ·exact⟨none,0,by rw[hn]⟩
        exact⟨_,_,rfl⟩
       have cN':Boxed (W.alloc (.cells #[.string ⟨#[47]⟩] 9)) W6.heap.size 63 (.slice A (D4 s pre).length cc):=Cw cN _;have aN':=cN'.cell
       gi_wp2_with fail
       refine ES ((CallsIn.inRound l (callsIn_wide.2 (cY A (D4 s pre).length cc _))).mono ?_);rintro e Wb ⟨rfl,hWb⟩;have z9:=HZ9.out;have z6:=HZ6.out;have zz:=HZ.out;obtain⟨g,hgl,hNI⟩:=d8 hrow (g0:=w.heap.size) (by omega);have hza:(W.alloc (.cells #[.string ⟨#[47]⟩] 9)).heap.size=W.heap.size+1:=Oa _ _;rw[hza];have hBb:Below W.heap.size W Wb:=by rw[hWb];exact JT _ _ _
       have hzb:Wb.heap.size=W.heap.size+2:=by rw[hWb];exact Tu _ _ _
       have kW:Boxed Wb W.heap.size 9 (.string ⟨#[47]⟩):=by rw[hWb];exact Jy _ _ _
       have kB:Boxed Wb (W.heap.size+1) 63 (.slice A (D4 s pre).length cc):=by rw[hWb];exact Jz _ _ _
       have kP:Boxed Wb (w.heap.size+1+1) 9 (.string ⟨#[]⟩):=Ba cP hBb (C4 cP);have kE:Boxed Wb (w.heap.size+1+1+1) 4 (.bool false):=Ba cE hBb (C4 cE);have kG:=hNI.keep (hBb.block g hgl);have kL:∃r,Wb.heap[l]?=some (.loop r):=hrl.imp fun r hr=>Ba hr hBb (C4 hr);obtain⟨rl,kL⟩:=kL;have hbb:Below w.heap.size w Wb:=hbw.trans (hBb.mono hbw.size);have hkf:KeepsFrom W9.heap.size W Wb:=Mt hBb
       have hlen:(D4 s pre).length≤5000:=by
        have h1:=V7 s pre;have h2:=HPF.out.length_le;have h3:=RN s (Bk s.files) dir;simp only[List.length_append]at h2;omega
       have hall:∀y∈D4 s pre,y.size≤100:=by
        intro y hy;unfold D4 at hy;obtain⟨z,_,rfl⟩:=List.mem_map.1 hy;exact HNM.out z
       have HL:=Lib.hid hlen;have HA:=Lib.hid hall;have HB:=Lib.hid hzb;have HGL:=Lib.hid hgl;clear hWb cN' aN' a1 b1 aX bX aP bP aE bE aN bN hza hlen hall hzb hgl z9 z6 zz
       gi_wp2_with fail
       refine cV (l₀:=l) (r₀:=rl) rfl kL (by have:=hn.out;omega) (gf:=196) rfl trivial (enters_of Tryz.func196 (by kernel_rfl) rfl)
        ((d6 (n - 1 - 1 - 1) (D4 s pre) (by have:=HL.out;omega) (W.heap.size+1) g A (D4 s pre).length cc Wb kB kG (.inr (by have:=HB.out;have:=HGL.out;omega))).inRound l)
        (fun b hb=>hb.elim) (fun h k=>⟨k.1.trans h.1,k.2.trans h.2⟩) (fun X l' o o' hl' _ _=>by have:=HB.out;have:=HGL.out;exact⟨World.putObj_heap_other (by omega),World.putObj_heap_other (by omega)⟩) (Below.refl _ _) (fun _=>rfl)
        (fun pr X=>Boxed X W.heap.size 9 (.string ((pr.map (·.2)).foldl DX ⟨#[47]⟩))∧Boxed X (w.heap.size+1+1) 9 (.string ⟨#[]⟩)∧Boxed X (w.heap.size+1+1+1) 4 (.bool false)∧KeepsFrom W9.heap.size W X∧Below w.heap.size w X)
        (fun _ _ _=>False)
        (fun s' X Y h hm=>⟨hm.boxed h.1 (fun h=>h),hm.boxed h.2.1 (fun h=>h),hm.boxed h.2.2.1 (fun h=>h),⟨Nat.le_trans h.2.2.2.1.size hm.size,fun k o hk hko hc=>by
          have hX:=h.2.2.2.1.same k o hk hko hc;have:=C4 hko;have:=HB.out
          exact(hm.block k (C4 hX) (fun h=>h) (.inl (by omega))).trans hX⟩,hm.under h.2.2.2.2 (BA _) (fun b hb=>hb.elim) (by have:=HB.out;have:=HZ.out;have:=HZ9.out;have:=HZ6.out;omega)⟩)
        (fun _ _ _ _ h _=>h)
        ⟨kW,kP,kE,hkf,hbb⟩
        (fun y=>{tmps:=#[.agg #[ds,ms], .agg #[.int .i64 dir.1, .int .i64 dir.2], .pointer (some ⟨w.heap.size,0,none⟩), .pointer (some ⟨w.heap.size+1,0,none⟩), .pointer (some ⟨w.heap.size+1+1,0,none⟩), .pointer (some ⟨w.heap.size+1+1+1,0,none⟩), .pointer (some ⟨W6.heap.size,0,none⟩), .pointer (some ⟨W0.heap.size,0,none⟩), .pointer (some ⟨W.heap.size,0,none⟩),undef, .string y.2, .agg #[ds,ms],
          .agg #[.int .i64 dir.1, .int .i64 dir.2], .bool true, .bool false, .bool false, .agg #[ds,ms], .pointer (some ⟨w.heap.size+1,0,none⟩), .int .i64 dir.1, .bool true, .bool false, .bool false, .agg #[ds,ms], .agg #[.int .i64 dir.1, .int .i64 dir.2],
          .func (.func 146) #[] #[.pointer (some ⟨W7.heap.size,0,none⟩), .pointer (some ⟨W7.heap.size+1,0,none⟩)], .agg #[.int .i64 0, .int .i64 1], .bool true, .agg #[.int .i64 0, .int .i64 1], .agg #[.int .i64 0, .int .i64 1], .bool true, .slice A (D4 s pre).length cc,
          .func (.func 196) #[] #[.pointer (some ⟨W.heap.size+1,0,none⟩)], .int .i64 y.1, .string y.2,undef,undef,undef,undef,undef,undef,undef,undef,undef,undef,undef,undef,undef,undef],defers:=[]}) ?assign2 ?body2 ?done2 ?stop2
       case assign2=>
        intro l2 y X K hK
        gi_wp2
        exact hK
       case body2=>
        rintro l2 pr y X ⟨e1,e2,e3,e4,e5⟩ hpf2 hszX;have hp1:(pr.map (·.2)++[y.2])<+:(D4 s pre).reverse:=by simpa using hpf2
        have hl1:=hp1.length_le;have hs1:=V5 (pr.map (·.2)) ⟨#[47]⟩ fun z hz=>HA.out z (List.mem_reverse.1 (hp1.subset (List.mem_append_left _ hz)));have hs2:y.2.size≤100:=HA.out _ (List.mem_reverse.1 (hp1.subset (by simp)))
        have hs3:((pr.map (·.2)).foldl DX ⟨#[47]⟩).size≤1000000:=by
         have h1:(⟨#[47]⟩:ByteArray).size=1:=rfl;have:=HL.out;simp only[List.length_append,List.length_map,List.length_cons,List.length_nil,List.length_reverse]at hl1;simp only[List.length_map]at hs1;omega
        have HF:Hid (((pr++[y]).map (·.2)).foldl DX ⟨#[47]⟩=DX ((pr.map (·.2)).foldl DX ⟨#[47]⟩) y.2):=Lib.hid (by simp);clear hpf2 hp1 hl1 hs1;generalize (pr.map (·.2)).foldl DX ⟨#[47]⟩=dd at *;obtain⟨yi,yn⟩:=y;simp only at hs2 HF;have t1:=e1.cell;have t2:=e1.frozen
        gi_wp2_with fail
        refine ES ((CallsIn.inRound l2 (CallsIn.inRound l (callsIn_wide.2 (V4 dd yn X hs3 (by omega))))).mono ?_);rintro e X' ⟨rfl,rfl⟩
        gi_wp2
        have:=HB.out;have hgl:=HGL.out;have z9:=HZ9.out;have z6:=HZ6.out;have zz:=HZ.out;refine⟨Ol (KeepsFrom.refl _ _) (by omega) _,⟨Below.heap_setCell _ _ _ _ (by show W.heap.size+1≠W.heap.size;omega),Below.heap_setCell _ _ _ _ (by show g≠W.heap.size;omega)⟩,by rw[HF.out];exact e1.set _,e2.other (by omega) _,e3.other (by omega) _,?_,e5.setCell (by show w.heap.size≤W.heap.size;omega) _⟩;refine⟨Nat.le_trans e4.size (by simp),fun k o hk hko hc=>?_⟩;have:=C4 hko;exact(Below.heap_setCell _ _ _ _ (by show k≠W.heap.size;omega)).trans (e4.same k o hk hko hc)
       case done2=>
        rintro xs X hS ⟨e1,e2,e3,e4,e5⟩;rw[hS]at e1;change Boxed X W.heap.size 9 (.string (Hh s pre))at e1;have t1:=e1.cell;have t2:=e1.frozen;have t3:=e2.cell;have t4:=e2.frozen;have t5:=e3.cell;have t6:=e3.frozen;clear hS
        gi_wp2_with fail
        have z9:=HZ9.out;have z6:=HZ6.out;have zz:=HZ.out;refine⟨Ol (Ol e4 (by omega) _) (by omega) _,rfl,?_,(Boxed.other e3 (by omega) _).set _,by simp,(e5.setCell (by show w.heap.size≤w.heap.size+1+1;omega) _).setCell (by show w.heap.size≤w.heap.size+1+1+1;omega) _⟩;rw[dA HN.out];exact Boxed.other (e2.set _) (by omega) _
       case stop2=>
        intro c pr X _ hf;exact hf.elim
      by_cases hi:xi=1
      ·subst hi;have hd:xd≠0:=fun e=>hx (by rw[e])
       gi_wp2_with fail
       have z9:=HZ9.out;have z6:=HZ6.out;have zz:=HZ.out
       exact⟨Mt (Below.refl _ _),Qs (Below.refl _ _) (by omega) (by omega) (by omega),c1,cP,cE,⟨v,cN,by rw[V6,if_pos rfl];exact hrow⟩,by
        intro hm;rcases List.mem_append.1 hm with hm|hm
        ·exact HN.out hm
        exact hx (List.mem_singleton.1 hm).symm,hbw⟩
      gi_wp2_with fail
      have hbd:Below W.heap.size W W.drew:=(Below.refl _ _).drew;have d1:W.drew.heap[w.heap.size]?=some (.cells #[ds,ms] 31):=c1;have dX:W.drew.heap[W0.heap.size]?=some (.cells #[.int .i64 xd, .int .i64 xi] 36):=cX;have dN:Boxed W.drew W6.heap.size 63 v:=cN;have dP:Boxed W.drew (w.heap.size+1+1) 9 (.string ⟨#[]⟩):=cP;have dE:Boxed W.drew (w.heap.size+1+1+1) 4 (.bool false):=cE;have drow:W.drew.ownsRow W9.heap.size 9 1 v (D4 s pre).length ((D4 s pre).map Value.string):=hrow;refine dB (by kernel_rfl) 7 rfl ?_;intro ops hops;have HO:=Lib.hid hops;clear hops;have hszD:W.drew.heap.size=W.heap.size:=rfl;have hszO:=hszW;rw[←hszD]at hszW;have hbW:=hbd;clear a1 b1 aX bX aP bP aE bE aN bN c1 cX cN cP cE hrow hszD hrl hbd;generalize W.drew=W1 at *;obtain⟨a1,b1⟩:=CD d1;obtain⟨aX,bX⟩:=CD dX;have aN:=dN.cell;have bN:=dN.frozen;have hB1:Below w.heap.size w W1:=hbw.trans (hbW.mono hbw.size)
      have hcall:∀X,Below w.heap.size w X→Calls prog 180 #[.agg #[ds,ms], .agg #[.int .i64 xd, .int .i64 xi]] X fun e w'=>e= .returned (.string (CH s (xd,xi)))∧Below X.heap.size X w':=by
       intro X hX;have hSX:=h.below hX (BA _);refine(Mv (cU s (xd,xi) hs) (vs:=[.agg #[ds,ms], .agg #[.int .i64 xd, .int .i64 xi]]) hSX.1 (UL hSX hs (xd,xi))).mono ?_;rintro e w' ⟨u,G',rfl,hr,hb⟩;simp only[rep]at hr;exact⟨by rw[hr],hb⟩
      have tail:∀w2:World,Below W1.heap.size W1 w2→(w2.alloc (.cells #[.string (CH s (xd,xi))] 9)).cell? ⟨W6.heap.size,0,none⟩=some v→
          wpAnyIn (Fence.wide.inRound l) (n - 1 - 1) prog .any ops (Exit.inBlock 2 (Exit.inBlock 1 (ownPostG W9.heap.size (KeepC w.heap.size W7.heap.size (W7.heap.size+1))
           (fun pre W=>W.heap[w.heap.size]?=some (.cells #[ds,ms] 31)∧Boxed W (w.heap.size+1+1) 9 (.string ⟨#[]⟩)∧Boxed W (w.heap.size+1+1+1) 4 (.bool false)∧(∃v,Boxed W W6.heap.size 63 v∧W.ownsRow W9.heap.size 9 1 v (D4 s pre).length ((D4 s pre).map Value.string))∧(0,1)∉pre∧Below w.heap.size w W)
           (fun c pre W=>c= .ret∧Boxed W (w.heap.size+1+1) 9 (.string (Hh s (pre.takeWhile fun x:AA=>decide (x≠(0,1)))))∧Boxed W (w.heap.size+1+1+1) 4 (.bool true)∧(0,1)∈pre∧Below w.heap.size w W)
           (pre++[(xd,xi)]) W))) 2 #[true,true,true,true,true,false,false]
           {tmps:=#[.agg #[ds,ms], .agg #[.int .i64 dir.1, .int .i64 dir.2], .pointer (some ⟨w.heap.size,0,none⟩), .pointer (some ⟨w.heap.size+1,0,none⟩), .pointer (some ⟨w.heap.size+1+1,0,none⟩), .pointer (some ⟨w.heap.size+1+1+1,0,none⟩), .pointer (some ⟨W6.heap.size,0,none⟩), .pointer (some ⟨W0.heap.size,0,none⟩),undef,undef,undef, .agg #[ds,ms], .agg #[.int .i64 dir.1, .int .i64 dir.2], .bool true, .bool false, .bool false, .agg #[ds,ms], .pointer (some ⟨w.heap.size+1,0,none⟩), .int .i64 dir.1, .bool true, .bool false, .bool false, .agg #[ds,ms], .agg #[.int .i64 dir.1, .int .i64 dir.2], .func (.func 146) #[] #[.pointer (some ⟨W7.heap.size,0,none⟩), .pointer (some ⟨W7.heap.size+1,0,none⟩)], .agg #[.int .i64 xd, .int .i64 xi], .bool false, .agg #[.int .i64 xd, .int .i64 xi], .agg #[.int .i64 0, .int .i64 1], .bool false,undef,undef,undef,undef,undef,undef,undef,undef, .bool true, .pointer (some ⟨W0.heap.size,1,none⟩), .int .i64 xi, .bool true,v, .agg #[ds,ms], .agg #[.int .i64 xd, .int .i64 xi], .string (CH s (xd,xi)), .slice (some ⟨w2.heap.size,0,none⟩) 1 1,undef],defers:=[]} (w2.alloc (.cells #[.string (CH s (xd,xi))] 9)):=by
       intro w2 hb2 hcN;have z9:=HZ9.out;have z6:=HZ6.out;have zz:=HZ.out;have hw2:=hb2.size;have hw1:=hbW.size;have drow2:w2.ownsRow W9.heap.size 9 1 v (D4 s pre).length ((D4 s pre).map Value.string):=World.ownsRow.kept drow (Mc hb2 none) (by cases v.ownBlock<;>simp);have dN2:Boxed w2 W6.heap.size 63 v:=Ba dN hb2 (C4 dN)
       have hlen:(D4 s pre).length+1≤100000:=by
        have h1:=V7 s pre;have h2:=HPF.out.length_le;have h3:=RN s (Bk s.files) dir;simp only[List.length_append]at h2;omega
       have hmx:(D4 s pre).length+1≤maxLen:=by unfold maxLen;omega
       have HZ2:Hid (W9.heap.size≤w2.heap.size):=Lib.hid (by omega);have HZB:Hid (W6.heap.size<W9.heap.size):=Lib.hid (by omega);clear z9 z6 zz hw2 hw1;refine DR (rs:=[5]) (by rw[HO.out];kernel_rfl) (by simp) ?_;intro i hi';obtain rfl:=List.mem_singleton.1 hi';refine Cb HO.out rfl fun K hK=>?_;refine wpListIn_append_own _ rfl _ _ 63 rfl W9.heap.size 9 i0 (.string ⟨#[]⟩) 1 16 Tryz.underlying63 hi0 hz0 hz1 hz2 rfl (by decide) _ _ _ rfl (drow2.alloc _) ⟨w2.heap.size,0,none⟩ 1 1 [.string (CH s (xd,xi))] rfl rfl (cell_one_new _ _ _) (by simp[Value.oneCell']) (by omega) (by omega) (by have:=HZ2.out;simp;omega) ?_;intro v' w4 hown' hgrow _;obtain⟨g',cap',rfl⟩:=ownsRow_succ hown';obtain⟨hv1,hv2,hr2,hk2,hb4,hj2,ht2⟩:=dC dN2 drow2 HZ2.out HZB.out hown' hgrow;have hc1:=hv1.cell;have hf1:=hv1.frozen
       gi_wp2
       refine DR (rs:=[6]) (by rw[HO.out];kernel_rfl) (by simp) ?_;intro i hi';obtain rfl:=List.mem_singleton.1 hi';refine Cb HO.out rfl fun K hK=>?_
       gi_wp2
       refine⟨by rw[HO.out];kernel_rfl,?_⟩;have z9:=HZ9.out;have z6:=HZ6.out;have zz:=HZ.out;have hw2:=hb2.size;have hw1:=hbW.size;have hb02:Below W.heap.size W w2:=hbW.trans (hb2.mono hw1);have e1:=(hj2 w.heap.size (by omega) (by omega)).trans (Ba d1 hb2 (C4 d1));have eP:Boxed _ (w.heap.size+1+1) 9 (.string ⟨#[]⟩):=(hj2 (w.heap.size+1+1) (by omega) (by omega)).trans (Ba dP hb2 (C4 dP));have eE:Boxed _ (w.heap.size+1+1+1) 4 (.bool false):=(hj2 (w.heap.size+1+1+1) (by omega) (by omega)).trans (Ba dE hb2 (C4 dE));refine⟨(Mt hb02).trans (hk2.from _),(Qs hb02 (by omega) (by omega) (by omega)).trans ⟨hk2.size,hj2 _ (by omega) (by omega),hj2 _ (by omega) (by omega),fun b hb=>hj2 b (by omega) (by omega),fun b cs hb=>ht2 b cs _ (by decide) (by decide) hb⟩,e1,eP,eE,⟨_,hv2,?_⟩,?_,(hB1.trans (hb2.mono hB1.size)).trans (hb4.mono (by omega))⟩
       ·rw[V6,if_neg (show¬(xd,xi).2=1 from hi),List.length_append,List.map_append];exact hr2
       intro hm;rcases List.mem_append.1 hm with hm|hm
       ·exact HN.out hm
       exact hx (List.mem_singleton.1 hm).symm
      refine DR (rs:=[0,1,2]) (by rw[HO.out];kernel_rfl) (by simp) ?_;intro i hi;simp only[List.mem_cons,List.not_mem_nil,or_false]at hi;rcases hi with rfl|rfl|rfl
      ·skip
       refine Cb HO.out rfl fun K hK=>?_
       gi_wp2
       refine DR (rs:=[1,2]) (by rw[HO.out];kernel_rfl) (by simp) ?_;intro i hi;simp only[List.mem_cons,List.not_mem_nil,or_false]at hi;rcases hi with rfl|rfl
       ·skip
        refine Cb HO.out rfl fun K hK=>?_
        gi_wp2
        refine DR (rs:=[2]) (by rw[HO.out];kernel_rfl) (by simp) ?_;intro i hi;obtain rfl:=List.mem_singleton.1 hi;refine Cb HO.out rfl fun K hK=>?_
        gi_wp2
        refine DR (rs:=[3]) (by rw[HO.out];kernel_rfl) (by simp) ?_;intro i hi;obtain rfl:=List.mem_singleton.1 hi;refine Cb HO.out rfl fun K hK=>?_
        gi_wp2_with fail
        refine ES ((CallsIn.inRound l (callsIn_wide.2 (hcall _ hB1))).mono ?_);rintro e w2 ⟨rfl,hb2⟩;have n1:=Ba d1 hb2 (C4 d1);have nX:=Ba dX hb2 (C4 dX);have nN:Boxed w2 W6.heap.size 63 v:=Ba dN hb2 (C4 dN);clear a1 b1 aX bX aN bN;obtain⟨a1,b1⟩:=CD n1;obtain⟨aX,bX⟩:=CD nX;have aN:=nN.cell;have bN:=nN.frozen
        gi_wp2
        refine DR (rs:=[4]) (by rw[HO.out];kernel_rfl) (by simp) ?_;intro i hi;obtain rfl:=List.mem_singleton.1 hi;refine Cb HO.out rfl fun K hK=>?_;have nN3:Boxed (w2.alloc (.cells #[.string (CH s (xd,xi))] 9)) W6.heap.size 63 v:=Cw nN _;have hc2:(w2.alloc (.cells #[.string (CH s (xd,xi))] 9)).cell? ⟨W6.heap.size,0,none⟩=some v:=nN3.cell
        gi_wp2
        exact tail w2 hb2 hc2
       skip
       refine Cb HO.out rfl fun K hK=>?_
       gi_wp2
       refine DR (rs:=[1]) (by rw[HO.out];kernel_rfl) (by simp) ?_;intro i hi;obtain rfl:=List.mem_singleton.1 hi;refine Cb HO.out rfl fun K hK=>?_
       gi_wp2
       refine DR (rs:=[3]) (by rw[HO.out];kernel_rfl) (by simp) ?_;intro i hi;obtain rfl:=List.mem_singleton.1 hi;refine Cb HO.out rfl fun K hK=>?_
       gi_wp2_with fail
       refine ES ((CallsIn.inRound l (callsIn_wide.2 (hcall _ hB1))).mono ?_);rintro e w2 ⟨rfl,hb2⟩;have n1:=Ba d1 hb2 (C4 d1);have nX:=Ba dX hb2 (C4 dX);have nN:Boxed w2 W6.heap.size 63 v:=Ba dN hb2 (C4 dN);clear a1 b1 aX bX aN bN;obtain⟨a1,b1⟩:=CD n1;obtain⟨aX,bX⟩:=CD nX;have aN:=nN.cell;have bN:=nN.frozen
       gi_wp2
       refine DR (rs:=[4]) (by rw[HO.out];kernel_rfl) (by simp) ?_;intro i hi;obtain rfl:=List.mem_singleton.1 hi;refine Cb HO.out rfl fun K hK=>?_;have nN3:Boxed (w2.alloc (.cells #[.string (CH s (xd,xi))] 9)) W6.heap.size 63 v:=Cw nN _;have hc2:(w2.alloc (.cells #[.string (CH s (xd,xi))] 9)).cell? ⟨W6.heap.size,0,none⟩=some v:=nN3.cell
       gi_wp2
       exact tail w2 hb2 hc2
      ·skip
       refine Cb HO.out rfl fun K hK=>?_
       gi_wp2
       refine DR (rs:=[0,2]) (by rw[HO.out];kernel_rfl) (by simp) ?_;intro i hi;simp only[List.mem_cons,List.not_mem_nil,or_false]at hi;rcases hi with rfl|rfl
       ·skip
        refine Cb HO.out rfl fun K hK=>?_
        gi_wp2
        refine DR (rs:=[2]) (by rw[HO.out];kernel_rfl) (by simp) ?_;intro i hi;obtain rfl:=List.mem_singleton.1 hi;refine Cb HO.out rfl fun K hK=>?_
        gi_wp2
        refine DR (rs:=[3]) (by rw[HO.out];kernel_rfl) (by simp) ?_;intro i hi;obtain rfl:=List.mem_singleton.1 hi;refine Cb HO.out rfl fun K hK=>?_
        gi_wp2_with fail
        refine ES ((CallsIn.inRound l (callsIn_wide.2 (hcall _ hB1))).mono ?_);rintro e w2 ⟨rfl,hb2⟩;have n1:=Ba d1 hb2 (C4 d1);have nX:=Ba dX hb2 (C4 dX);have nN:Boxed w2 W6.heap.size 63 v:=Ba dN hb2 (C4 dN);clear a1 b1 aX bX aN bN;obtain⟨a1,b1⟩:=CD n1;obtain⟨aX,bX⟩:=CD nX;have aN:=nN.cell;have bN:=nN.frozen
        gi_wp2
        refine DR (rs:=[4]) (by rw[HO.out];kernel_rfl) (by simp) ?_;intro i hi;obtain rfl:=List.mem_singleton.1 hi;refine Cb HO.out rfl fun K hK=>?_;have nN3:Boxed (w2.alloc (.cells #[.string (CH s (xd,xi))] 9)) W6.heap.size 63 v:=Cw nN _;have hc2:(w2.alloc (.cells #[.string (CH s (xd,xi))] 9)).cell? ⟨W6.heap.size,0,none⟩=some v:=nN3.cell
        gi_wp2
        exact tail w2 hb2 hc2
       skip
       refine Cb HO.out rfl fun K hK=>?_
       gi_wp2
       refine DR (rs:=[0,3]) (by rw[HO.out];kernel_rfl) (by simp) ?_;intro i hi;simp only[List.mem_cons,List.not_mem_nil,or_false]at hi;rcases hi with rfl|rfl
       ·skip
        refine Cb HO.out rfl fun K hK=>?_
        gi_wp2
        refine DR (rs:=[3]) (by rw[HO.out];kernel_rfl) (by simp) ?_;intro i hi;obtain rfl:=List.mem_singleton.1 hi;refine Cb HO.out rfl fun K hK=>?_
        gi_wp2_with fail
        refine ES ((CallsIn.inRound l (callsIn_wide.2 (hcall _ hB1))).mono ?_);rintro e w2 ⟨rfl,hb2⟩;have n1:=Ba d1 hb2 (C4 d1);have nX:=Ba dX hb2 (C4 dX);have nN:Boxed w2 W6.heap.size 63 v:=Ba dN hb2 (C4 dN);clear a1 b1 aX bX aN bN;obtain⟨a1,b1⟩:=CD n1;obtain⟨aX,bX⟩:=CD nX;have aN:=nN.cell;have bN:=nN.frozen
        gi_wp2
        refine DR (rs:=[4]) (by rw[HO.out];kernel_rfl) (by simp) ?_;intro i hi;obtain rfl:=List.mem_singleton.1 hi;refine Cb HO.out rfl fun K hK=>?_;have nN3:Boxed (w2.alloc (.cells #[.string (CH s (xd,xi))] 9)) W6.heap.size 63 v:=Cw nN _;have hc2:(w2.alloc (.cells #[.string (CH s (xd,xi))] 9)).cell? ⟨W6.heap.size,0,none⟩=some v:=nN3.cell
        gi_wp2
        exact tail w2 hb2 hc2
       skip
       refine Cb HO.out rfl fun K hK=>?_
       gi_wp2_with fail
       refine ES ((CallsIn.inRound l (callsIn_wide.2 (hcall _ hB1))).mono ?_);rintro e w2 ⟨rfl,hb2⟩;have n1:=Ba d1 hb2 (C4 d1);have nX:=Ba dX hb2 (C4 dX);have nN:Boxed w2 W6.heap.size 63 v:=Ba dN hb2 (C4 dN);clear a1 b1 aX bX aN bN;obtain⟨a1,b1⟩:=CD n1;obtain⟨aX,bX⟩:=CD nX;have aN:=nN.cell;have bN:=nN.frozen
       gi_wp2
       refine DR (rs:=[0,4]) (by rw[HO.out];kernel_rfl) (by simp) ?_;intro i hi;simp only[List.mem_cons,List.not_mem_nil,or_false]at hi;rcases hi with rfl|rfl
       ·skip
        refine Cb HO.out rfl fun K hK=>?_
        gi_wp2
        refine DR (rs:=[4]) (by rw[HO.out];kernel_rfl) (by simp) ?_;intro i hi;obtain rfl:=List.mem_singleton.1 hi;refine Cb HO.out rfl fun K hK=>?_;have nN3:Boxed (w2.alloc (.cells #[.string (CH s (xd,xi))] 9)) W6.heap.size 63 v:=Cw nN _;have hc2:(w2.alloc (.cells #[.string (CH s (xd,xi))] 9)).cell? ⟨W6.heap.size,0,none⟩=some v:=nN3.cell
        gi_wp2
        exact tail w2 hb2 hc2
       skip
       refine Cb HO.out rfl fun K hK=>?_;have nN3:Boxed (w2.alloc (.cells #[.string (CH s (xd,xi))] 9)) W6.heap.size 63 v:=Cw nN _;have hc2:(w2.alloc (.cells #[.string (CH s (xd,xi))] 9)).cell? ⟨W6.heap.size,0,none⟩=some v:=nN3.cell
       gi_wp2
       refine DR (rs:=[0]) (by rw[HO.out];kernel_rfl) (by simp) ?_;intro i hi;obtain rfl:=List.mem_singleton.1 hi;refine Cb HO.out rfl fun K hK=>?_
       gi_wp2
       exact tail w2 hb2 hc2
      skip
      refine Cb HO.out rfl fun K hK=>?_
      gi_wp2
      refine DR (rs:=[0,1]) (by rw[HO.out];kernel_rfl) (by simp) ?_;intro i hi;simp only[List.mem_cons,List.not_mem_nil,or_false]at hi;rcases hi with rfl|rfl
      ·skip
       refine Cb HO.out rfl fun K hK=>?_
       gi_wp2
       refine DR (rs:=[1]) (by rw[HO.out];kernel_rfl) (by simp) ?_;intro i hi;obtain rfl:=List.mem_singleton.1 hi;refine Cb HO.out rfl fun K hK=>?_
       gi_wp2
       refine DR (rs:=[3]) (by rw[HO.out];kernel_rfl) (by simp) ?_;intro i hi;obtain rfl:=List.mem_singleton.1 hi;refine Cb HO.out rfl fun K hK=>?_
       gi_wp2_with fail
       refine ES ((CallsIn.inRound l (callsIn_wide.2 (hcall _ hB1))).mono ?_);rintro e w2 ⟨rfl,hb2⟩;have n1:=Ba d1 hb2 (C4 d1);have nX:=Ba dX hb2 (C4 dX);have nN:Boxed w2 W6.heap.size 63 v:=Ba dN hb2 (C4 dN);clear a1 b1 aX bX aN bN;obtain⟨a1,b1⟩:=CD n1;obtain⟨aX,bX⟩:=CD nX;have aN:=nN.cell;have bN:=nN.frozen
       gi_wp2
       refine DR (rs:=[4]) (by rw[HO.out];kernel_rfl) (by simp) ?_;intro i hi;obtain rfl:=List.mem_singleton.1 hi;refine Cb HO.out rfl fun K hK=>?_;have nN3:Boxed (w2.alloc (.cells #[.string (CH s (xd,xi))] 9)) W6.heap.size 63 v:=Cw nN _;have hc2:(w2.alloc (.cells #[.string (CH s (xd,xi))] 9)).cell? ⟨W6.heap.size,0,none⟩=some v:=nN3.cell
       gi_wp2
       exact tail w2 hb2 hc2
      skip
      refine Cb HO.out rfl fun K hK=>?_
      gi_wp2
      refine DR (rs:=[0,3]) (by rw[HO.out];kernel_rfl) (by simp) ?_;intro i hi;simp only[List.mem_cons,List.not_mem_nil,or_false]at hi;rcases hi with rfl|rfl
      ·skip
       refine Cb HO.out rfl fun K hK=>?_
       gi_wp2
       refine DR (rs:=[3]) (by rw[HO.out];kernel_rfl) (by simp) ?_;intro i hi;obtain rfl:=List.mem_singleton.1 hi;refine Cb HO.out rfl fun K hK=>?_
       gi_wp2_with fail
       refine ES ((CallsIn.inRound l (callsIn_wide.2 (hcall _ hB1))).mono ?_);rintro e w2 ⟨rfl,hb2⟩;have n1:=Ba d1 hb2 (C4 d1);have nX:=Ba dX hb2 (C4 dX);have nN:Boxed w2 W6.heap.size 63 v:=Ba dN hb2 (C4 dN);clear a1 b1 aX bX aN bN;obtain⟨a1,b1⟩:=CD n1;obtain⟨aX,bX⟩:=CD nX;have aN:=nN.cell;have bN:=nN.frozen
       gi_wp2
       refine DR (rs:=[4]) (by rw[HO.out];kernel_rfl) (by simp) ?_;intro i hi;obtain rfl:=List.mem_singleton.1 hi;refine Cb HO.out rfl fun K hK=>?_;have nN3:Boxed (w2.alloc (.cells #[.string (CH s (xd,xi))] 9)) W6.heap.size 63 v:=Cw nN _;have hc2:(w2.alloc (.cells #[.string (CH s (xd,xi))] 9)).cell? ⟨W6.heap.size,0,none⟩=some v:=nN3.cell
       gi_wp2
       exact tail w2 hb2 hc2
      skip
      refine Cb HO.out rfl fun K hK=>?_
      gi_wp2_with fail
      refine ES ((CallsIn.inRound l (callsIn_wide.2 (hcall _ hB1))).mono ?_);rintro e w2 ⟨rfl,hb2⟩;have n1:=Ba d1 hb2 (C4 d1);have nX:=Ba dX hb2 (C4 dX);have nN:Boxed w2 W6.heap.size 63 v:=Ba dN hb2 (C4 dN);clear a1 b1 aX bX aN bN;obtain⟨a1,b1⟩:=CD n1;obtain⟨aX,bX⟩:=CD nX;have aN:=nN.cell;have bN:=nN.frozen
      gi_wp2
      refine DR (rs:=[0,4]) (by rw[HO.out];kernel_rfl) (by simp) ?_;intro i hi;simp only[List.mem_cons,List.not_mem_nil,or_false]at hi;rcases hi with rfl|rfl
      ·skip
       refine Cb HO.out rfl fun K hK=>?_
       gi_wp2
       refine DR (rs:=[4]) (by rw[HO.out];kernel_rfl) (by simp) ?_;intro i hi;obtain rfl:=List.mem_singleton.1 hi;refine Cb HO.out rfl fun K hK=>?_;have nN3:Boxed (w2.alloc (.cells #[.string (CH s (xd,xi))] 9)) W6.heap.size 63 v:=Cw nN _;have hc2:(w2.alloc (.cells #[.string (CH s (xd,xi))] 9)).cell? ⟨W6.heap.size,0,none⟩=some v:=nN3.cell
       gi_wp2
       exact tail w2 hb2 hc2
      skip
      refine Cb HO.out rfl fun K hK=>?_;have nN3:Boxed (w2.alloc (.cells #[.string (CH s (xd,xi))] 9)) W6.heap.size 63 v:=Cw nN _;have hc2:(w2.alloc (.cells #[.string (CH s (xd,xi))] 9)).cell? ⟨W6.heap.size,0,none⟩=some v:=nN3.cell
      gi_wp2
      refine DR (rs:=[0]) (by rw[HO.out];kernel_rfl) (by simp) ?_;intro i hi;obtain rfl:=List.mem_singleton.1 hi;refine Cb HO.out rfl fun K hK=>?_
      gi_wp2
      exact tail w2 hb2 hc2
     case done=>
      rintro D xs W hD hS ⟨c1,cP,cE,_,hnm,hbw⟩ hK;have HS:=Lib.hid hS;have HN:=Lib.hid hnm;clear hS hnm;have aP:=cP.cell;have bP:=cP.frozen;have aE:=cE.cell;have bE:=cE.frozen
      gi_wp2
      have z6:=HZ6.out;have z9:=HZ9.out;have cP2:=Boxed.other (cP.set (.string ⟨#[]⟩)) (show w.heap.size+1+1≠w.heap.size+1+1+1 by omega) (.bool false);have cE2:=(Boxed.other cE (show w.heap.size+1+1+1≠w.heap.size+1+1 by omega) (.string ⟨#[]⟩)).set (.bool false);have hB2:=(hbw.setCell (p:=⟨w.heap.size+1+1,0,none⟩) (by show w.heap.size≤w.heap.size+1+1;omega) (.string ⟨#[]⟩)).setCell (p:=⟨w.heap.size+1+1+1,0,none⟩) (by show w.heap.size≤w.heap.size+1+1+1;omega) (.bool false);have hK2:=(KeepsOthers.setCell _ ⟨w.heap.size+1+1+1,0,none⟩ (.bool false)).same D _ ((KeepsOthers.setCell _ ⟨w.heap.size+1+1,0,none⟩ (.string ⟨#[]⟩)).same D _ hK rfl) rfl;refine⟨by simp, .inl ⟨_,_,rfl,run_takeDeferred hK2,?_⟩⟩;have hP:=(Kg cP2 (show w.heap.size+1+1≠D by omega) (.deferred none)).cell;have hE:=(Kg cE2 (show w.heap.size+1+1+1≠D by omega) (.deferred none)).cell;refine⟨.tuple #[.string ⟨#[]⟩, .bool false],by simp[results,Tryz.f137,go_sem,hP,hE],by rw[HW.out,if_neg (by rw[←HS.out];exact HN.out)],Mu hB2 (by omega) _⟩
     case stop=>
      rintro D c pre W hD hSp ⟨rfl,cP,cE,hnm,hbw⟩ hK;have HS:=Lib.hid hSp;have HN:=Lib.hid hnm;clear hSp hnm;have aP:=cP.cell;have aE:=cE.cell
      gi_wp2
      have z6:=HZ6.out;have z9:=HZ9.out;refine⟨by simp, .inl ⟨_,_,rfl,run_takeDeferred hK,?_⟩⟩;have hP:=(Kg cP (show w.heap.size+1+1≠D by omega) (.deferred none)).cell;have hE:=(Kg cE (show w.heap.size+1+1+1≠D by omega) (.deferred none)).cell;refine⟨.tuple #[.string (Hh s (pre.takeWhile fun x:AA=>decide (x≠(0,1)))), .bool true],by simp[results,Tryz.f137,go_sem,hP,hE],by rw[HW.out,if_pos (HS.out.subset HN.out),d9 HS.out HN.out],Mu hbw (by omega) _⟩
end Go.Proofs.YtbglbmnhgbgelaaGreatDoor
namespace Go.Proofs.YtbglbmnhgbgelaaGreatDoor
open Go.RowKit Go.Shelf
attribute [local go_sem] Oper.semAt_some
def RO(s:Spc)(dir x:AA):Bool:=match Bx s x with
 |none=>true
 |some d=>decide (∃y∈Bb s (Bk s.files) dir,y.1=d)
def Eg(s:Spc)(dir:AA):Bool:=(Bp s dir).2&&(Bb s (Bk s.files) dir).all (RO s dir)
end Go.Proofs.YtbglbmnhgbgelaaGreatDoor
namespace Go.Proofs.YtbglbmnhgbgelaaGreatDoor
open Go.RowKit
theorem SpcV.b{s:Spc}(h:SpcV s)(hm:s.mounts.length≤1000):SpcB s:=⟨h.files.b,hm⟩
theorem dF{P:Program}{f:FuncId}{s:Spc}{xs:List AV}{us:List Value}{z:Value}{R:AV}(hx:∀(G:Gh) (w:World) (vs:List Value),Aa G w xs vs→vs=us)(hR:∀(G:Gh) (w:World),rep G w R z)
    (h:∀(w:World) (ds ms:Value),SpcIn s w.heap.size w ds ms→Calls P f (.agg #[ds,ms]::us).toArray w fun e w'=>e= .returned z∧Below w.heap.size w w'):AFn P f (.agg (Ao s)::xs) (fun r=>r=R):=by
 intro w St bl vs hr hv;simp only[Aa]at hv;obtain⟨z0,zs,rfl,h1,h2⟩:=hv;obtain rfl:=hx _ _ _ h2;simp only[rep,Ao,Aa]at h1;obtain⟨ys,rfl,ds,_,rfl,h3,ms,_,rfl,h4,rfl⟩:=h1
 have hs:SpcIn s w.heap.size w ds ms:=by
  refine⟨BA _,?_⟩;refine L0 (St:=St) (fun b o hb=>⟨hr.stlt b o hb,rfl⟩) _ _ ?_;simp only[Ao,Bd];exact⟨_,_,rfl,h3,_,_,rfl,h4,rfl⟩
 refine(h w ds ms hs).mono ?_;rintro e w' ⟨rfl,hb⟩;obtain⟨k1,k2⟩:=hr.below hb;exact⟨_,_,_,_,⟨rfl,rfl,rfl⟩,k1,k2,hR _ _⟩
theorem dG{G:Gh}{w:World}{a:AA}{vs:List Value}(h:Aa G w [.agg (AE a)] vs):vs=[Ep a]:=by
 simp only[Aa,rep,AE]at h;obtain⟨_,_,rfl,⟨_,rfl,_,_,rfl,rfl,_,_,rfl,rfl,rfl⟩,rfl⟩:=h;rfl
structure SpcN(s:Spc):Prop where
 b:SpcB s
 nm:∀x,(CH s x).size≤100
 most:Bk s.files≤5000
section
variable {s:Spc}(hs:SpcN s)
include hs
theorem RP(a:AA):AFn prog 137 [.agg (Ao s), .agg (AE a)] (fun r=>r= .tup [.v (.string (Bp s a).1), .v (.bool (Bp s a).2)]):=
 dF (us:=[Ep a]) (z:= .tuple #[.string (Bp s a).1, .bool (Bp s a).2]) (fun _ _ _ h=>dG h) (fun G w=>by simp only[rep,Aa];exact⟨[_,_],rfl,_,_,rfl,rfl,_,_,rfl,rfl,rfl⟩)
  fun w ds ms h=>callsIn_wide.1 (dD 4 (Lib.hid (BA _)) s hs.b hs.nm hs.most a ds ms w h)
end
theorem dH{f:AU}{a:AA}(h:D1 f a=true):∃d∈f,Ah f a∈d.nodes:=by
 obtain⟨q,i,d,m,_,h2,h3,_,_,h6⟩:=K5 h;exact⟨d,Al h2,by rw[h6];exact Al h3⟩
theorem dJ{x:AD}(h:DT x=true):x.size≤12:=by
 rw[Jt]at h;by_cases hc:x.size<1∨12<x.size
 ·rw[if_pos hc]at h;cases h
 omega
theorem RQ{s:Spc}(h:FlsV s.files)(x:AA):(CH s x).size≤12:=by
 unfold CH
 cases hf:(Fa s x).entries.find? fun e:BF=>decide (e.2=x.2)with
 |none=>exact BJ _
 |some e=>
   have hm:=List.mem_of_find?_eq_some hf;unfold Fa at hm;by_cases hh:D1 s.files (x.1,(Ah s.files x).parent)=true
   ·obtain⟨d,hd,hn⟩:=dH hh;exact dJ ((h.vd d hd).ent _ hn e hm).1
   have:Ah s.files (x.1,(Ah s.files x).parent)=Nod.zero:=by
    unfold D1 at hh
    cases hq:Bo s.files (x.1,(Ah s.files x).parent)with
    |none=>show(Bo s.files (x.1,(Ah s.files x).parent)).getD Nod.zero=Nod.zero;rw[hq];rfl
    |some m=>rw[hq]at hh;exact absurd rfl hh
   rw[this]at hm;cases hm
theorem V8{f:AU}(h:FlsV f):Bk f≤48:=by
 have:∀(l:AU),(∀d∈l,d.nodes.length≤16)→Bk l≤l.length * 16:=by
  intro l
  induction l with
  |nil=>intro _;simp[Bk]
  |cons d l ih=>
    intro h;have h1:=ih fun d hd=>h d (List.mem_cons_of_mem _ hd);have h2:=h d (List.mem_cons_self ..);simp only[Bk,List.map_cons,List.sum_cons,List.length_cons]at h1 ⊢;omega
 have h1:=this f fun d hd=>(h.vd d hd).len;have h2:=h.few;omega
theorem SpcV.n{s:Spc}(h:SpcV s)(hm:s.mounts.length≤1000):SpcN s:=⟨⟨h.files.b,hm⟩,fun x=>by have:=RQ h.files x;omega,by have:=V8 h.files;omega⟩
def JX(w:World):Nat→Nat→Prop:=fun b _=>b<w.heap.size
def Opens(P:Program)(t:TypeId)(R:List AV→Prop):Prop:=
 ∀(H:Type) (enc:TypeId×Value→H) (w:World) (base:Nat) (spare:Nat→Bool) (held:Bool) (fuel:Nat) (cs:List Value) (x:DataW H×List MemPlace),DataW.trod enc P w base spare held fuel t cs=some x→
  ∃row,R row∧Bd (JX w) w row cs∧∀u∈cs,u.oneCell'=true
section
variable {P:Program}{t:TypeId}
theorem Opens.mono{R R':List AV→Prop}(h:Opens P t R)(hR:∀r,R r→R' r):Opens P t R':=by
 intro H enc w base spare held fuel cs x hx;obtain⟨row,h1,h2⟩:=h H enc w base spare held fuel cs x hx;exact⟨row,hR _ h1,h2⟩
theorem dL{k:IntKind}(ht:P.underlying t=some (.int k)):Opens P t fun r=>∃n,r=[.v (.int k n)]∧(Lit.int k n).wf=true:=by
 intro H enc w base spare held fuel cs x hx;obtain⟨b,rfl,_,hw⟩:=DataW.trod_int ht hx;exact⟨_,⟨b,rfl,hw⟩,⟨_,_,rfl,by simp only[At],by simp only[Bd]⟩,by simp[Value.oneCell']⟩
theorem dM{w:World}{b o:Nat}{v:Value}(h:w.cell? ⟨b,o,none⟩=some v):b<w.heap.size:=by
 rcases Nat.lt_or_ge b w.heap.size with hlt|hge
 ·exact hlt
 simp[World.cell?,Array.getElem?_eq_none hge]at h
theorem dO{St:Nat→Nat→Prop}{w:World}{xs:List AV}{ys:List Value}(h:Bd St w xs ys):ys.length=xs.length:=Ga (G:=⟨St,[],[]⟩) (Ji (G:=⟨St,[],[]⟩) _ _ h)
theorem dQ{e:TypeId}{n:Nat}{R:List AV→Prop}(ht:P.underlying t=some (.slice e))(hc:P.cellsOf e=n)(hn:0<n)(h:Opens P e R):Opens P t fun r=>∃rows,r=[.sl n rows none]∧rows.length≤maxLen∧∀x∈rows,R x:=by
 intro H enc w base spare held fuel cs x hx;rcases DataW.trod_slice ht hx with⟨rfl,_⟩|⟨⟨b,off,spot⟩,len,cap,elems,rest,m,rfl,rfl,_,hb,hl,hm,hlen,hel,_,_⟩
 ·exact⟨_,⟨[],rfl,BJ _,by simp⟩,⟨_,_,rfl,by simp only[At];exact⟨trivial,none,0,rfl,BA _,BJ _, .inl trivial⟩,by simp only[Bd]⟩,by simp[Value.oneCell']⟩
 have each:∀i,i<len→∃row cs',R row∧row.length=n∧Bd (JX w) w row cs'∧(∀u∈cs',u.oneCell'=true)∧cs'.length=n∧∀j,j<n→w.cell? (Addr.add ⟨b,off,spot⟩ (i * n+j))=cs'[j]?:=by
  intro i hi;have h1:=hel i hi;rw[hc,B9 (by omega),Option.bind_eq_some_iff]at h1;obtain⟨cs',h2,h3⟩:=h1;obtain⟨row,r1,r2,r3⟩:=h _ _ _ _ _ _ _ _ _ h3;obtain⟨_,c1,c2⟩:=World.cells?_some h2;refine⟨row,cs',r1,by rw[←dO r2,c1],r2,r3,c1,fun j hj=>?_⟩;have:=c2 j hj
  rwa [Addr.add_add]at this
 have hrows:∃rows:List (List AV),rows.length=len∧(∀i,i<len→∃row cs',rows[i]?=some row∧R row∧row.length=n∧Bd (JX w) w row cs'∧(∀u∈cs',u.oneCell'=true)∧cs'.length=n∧∀j,j<n→w.cell? (Addr.add ⟨b,off,spot⟩ (i * n+j))=cs'[j]?):=by
  clear hel
  have:∀k,k≤len→∃rows:List (List AV),rows.length=k∧(∀i,i<k→∃row cs',rows[i]?=some row∧R row∧row.length=n∧Bd (JX w) w row cs'∧(∀u∈cs',u.oneCell'=true)∧cs'.length=n∧∀j,j<n→w.cell? (Addr.add ⟨b,off,spot⟩ (i * n+j))=cs'[j]?):=by
   intro k
   induction k with
   |zero=>intro _;exact⟨[],rfl,fun i hi=>by omega⟩
   |succ k ih=>
     intro hk;obtain⟨rows,e1,e2⟩:=ih (by omega);obtain⟨row,cs',q⟩:=each k (by omega);refine⟨rows++[row],by simp[e1],fun i hi=>?_⟩;rcases Nat.lt_or_ge i k with hlt|hge
     ·obtain⟨row',cs'',q1,q2⟩:=e2 i hlt;exact⟨row',cs'',by rw[Cm (by omega)];exact q1,q2⟩
     obtain rfl:i=k:=by omega
     exact⟨row,cs',by rw[Dj (by omega),e1];simp,q⟩
  exact this len (BA _)
 obtain⟨rows,e1,e2⟩:=hrows;refine⟨_,⟨rows,rfl,by omega,fun x hx=>?_⟩,⟨_,_,rfl,?_,by simp only[Bd]⟩,by simp[Value.oneCell']⟩
 ·obtain⟨i,hi⟩:=List.getElem?_of_mem hx;obtain⟨row,_,q1,q2,_⟩:=e2 i (by rw[←e1];exact(As.1 hi).1);rw[hi]at q1;injection q1 with q1;subst q1;exact q2
 simp only[At];refine⟨trivial,some ⟨b,off,spot⟩,cap,by rw[e1],by omega,hm,?_⟩;rcases Nat.eq_zero_or_pos len with h0|h0
 ·left;exact Dd (by omega)
 right
 have hspot:spot=none:=by
  obtain⟨_,cs',_,_,_,_,_,c3,c4⟩:=e2 0 h0;have:=c4 0 hn;rw[B9 (by omega)]at this
  simpa[Addr.add]using World.cell?_spot this
 subst hspot;refine⟨b,off,rfl,?_⟩
 have:∀(rs:List (List AV)) (k:Nat),(∀i r,rs[i]?=some r→rows[k+i]?=some r)→froR (JX w) w b n rs (off+k * n):=by
  intro rs
  induction rs with
  |nil=>intro k _;simp only[froR]
  |cons r rs ih=>
    intro k hk;simp only[froR];have h1:=hk 0 r rfl;rw[Nat.add_zero]at h1;obtain⟨row,cs',q1,_,q3,q4,q5,q6,q7⟩:=e2 k (by rw[←e1];exact(As.1 h1).1);rw[h1]at q1;injection q1 with q1;subst q1;refine⟨⟨q3,L4 fun i x hi=>?_⟩,?_⟩
    ·obtain⟨u,u1,u2⟩:=O6 q4 hi;have hin:i<n:=by rw[←q3];exact(As.1 hi).1
     have hc:=q7 i hin;rw[u1]at hc;have hc':w.cell? ⟨b,off+k * n+i,none⟩=some u:=by rw[Addr.add_mid]at hc;rwa [Nat.add_assoc]
     exact⟨dM hc',u,hc',q5 u (Al u1),u2⟩
    have:=ih (k+1) (fun i r' hi=>by
     have:=hk (i+1) r' (by simpa using hi)
     rwa [show k+1+i=k+(i+1) by omega])
    rwa [show off+(k+1) * n=off+k * n+n by rw[Nat.add_mul];omega]at this
 simpa using this rows 0 (fun i r hi=>by simpa using hi)
theorem V9{α:Type}{enc:α→List AV}{Q:α→Prop}:∀{rows:List (List AV)},(∀x∈rows,∃a,x=enc a∧Q a)→∃l:List α,rows=l.map enc∧∀a∈l,Q a
 |[],_=>⟨[],rfl,by simp⟩
 |r::rs,h=>by
   obtain⟨a,rfl,ha⟩:=h r (by simp);obtain⟨l,rfl,hl⟩:=V9 (rows:=rs) fun x hx=>h x (by simp[hx]);exact⟨a::l,rfl,by simpa using⟨ha,hl⟩⟩
theorem Opens.one{R:List AV→Prop}(h:Opens P t R){H:Type}{enc:TypeId×Value→H}{w:World}{base:Nat}{spare:Nat→Bool}{held:Bool}{v:Value}{d:DataW H}{ps:List MemPlace}(hv:v.cells=#[v])(hd:DataW.Trod enc P w base spare held t v d ps):
    ∃row,R row∧Bd (JX w) w row [v]:=by
 obtain⟨fuel,hf⟩:=hd;rw[hv]at hf;obtain⟨row,h1,h2,_⟩:=h _ _ _ _ _ _ _ _ _ hf;exact⟨row,h1,h2⟩
end
theorem dR:Opens prog 22 (fun r=>∃l:List Int,r=[.sl 1 (l.map CF) none]):=
 (dQ (n:=1) Tryz.underlying22 (by kernel_rfl) (by omega) (dL Tryz.underlying3)).mono (by
   rintro r ⟨rows,rfl,_,hr⟩;obtain⟨l,rfl,_⟩:=V9 (enc:=CF) (Q:=fun _=>True) (fun x hx=>by obtain⟨t,rfl,_⟩:=hr x hx;exact⟨t,rfl,trivial⟩)
   exact⟨l,rfl⟩)
theorem dS{H:Type}{enc:TypeId×Value→H}{sp:Nat→Bool}{held:Bool}{base:Nat}{w:World}{a:Option Addr}{n c:Nat}{d:DataW H}{p:List MemPlace}(h:DataW.Trod enc prog w base sp held 22 (.slice a n c) d p):
    ∃l:List Int,rep ⟨JX w,[],[]⟩ w (.sl 1 (l.map CF) none) (.slice a n c):=by
 obtain⟨r0,⟨l,rfl⟩,k0⟩:=dR.one rfl h;simp only[Bd]at k0;obtain⟨_,_,e0,k0,rfl⟩:=k0;injection e0 with e0;subst e0;exact⟨l,GD (G:=⟨JX w,[],[]⟩) _ _ k0⟩
theorem dT{f:FuncId}(hf:∀l:List Int,AFn prog f [.sl 1 (l.map CF) none] (fun x=>x= .v (.bool true))){H:Type}{enc:TypeId×Value→H}{sp:Nat→Bool}{held:Bool}{base:Nat}(a:Option Addr)(n c:Nat)(w:World){d:DataW H}{p:List MemPlace}
    (h:DataW.Trod enc prog w base sp held 22 (.slice a n c) d p):Calls prog f #[.slice a n c] w fun e w'=>e= .returned (.bool true)∧Below w.heap.size w w':=by
 obtain⟨l,k⟩:=dS h;refine Yc (vs:=[.slice a n c]) (hf l) (JX w) (fun b o h=>h) ?_;simp only[Aa];exact⟨_,_,rfl,k,rfl⟩
theorem RR{s:Spc}{dev:Int}(h:Bm s dev=true)(h0:dev≠0):∃m∈s.mounts,m.1=dev:=by
 unfold Bm Bt at h;simp only[Bool.or_eq_true,decide_eq_true_eq,h0,or_false]at h
 cases hf:s.mounts.find? fun m:Cs=>decide (m.1=dev)with
 |none=>rw[hf]at h;cases h
 |some m=>exact⟨m,List.mem_of_find?_eq_some hf,by have:=List.find?_some hf;simpa using this⟩
theorem NF{s:Spc}{m:Cs}(h:m∈s.mounts):Bm s m.1=true:=by
 unfold Bm Bt;rw[Bool.or_eq_true];refine .inl ?_;rw[Option.isSome_map]
 cases hf:s.mounts.find? fun m':Cs=>decide (m'.1=m.1)with
 |none=>have:=List.find?_eq_none.1 hf m h;simp at this
 |some m=>rfl
theorem VA{f:AU}{ms ms':List Cs}{dev:Int}(h:Bm ⟨f,ms⟩ dev=true)(hs:∀m∈ms,m∈ms'):Bm ⟨f,ms'⟩ dev=true:=by
 by_cases h0:dev=0
 ·unfold Bm;simp[h0]
 obtain⟨m,hm,rfl⟩:=RR h h0;exact NF (s:=⟨f,ms'⟩) (hs m hm)
section
theorem VB(s:Spc):∀(k:Nat) (a:AA),(Bb s k a).length≤k
 |0,_=>by simp[Bb]
 |k+1,a=>by
   unfold Bb;split
   ·cases h:Ee s a with
    |none=>simp
    |some b=>have:=VB s k b;simp;omega
   simp
end
end Go.Proofs.YtbglbmnhgbgelaaGreatDoor
namespace Go.Proofs.YtbglbmnhgbgelaaGreatDoor
section
variable {s:Spc}(hv:SpcV s)
include hv
theorem RS{q:Nat}{d:Dvc}{p:Nod}{x:Int}(hq:s.files[q]?=some d)(hp:p∈d.nodes)(hx:p.ino=x):Bo s.files ((q:Int),x)=some p:=
 Ld (a:=((q:Int),x)) rfl hq (hv.files.vd d (Al hq)).asc hp hx
theorem NG{a b:AA}(h:AT s.files a=true)(hs:D3 s a=some b):AT s.files b=true:=by
 obtain⟨q,d,m,h1,h2,h3,h4,h5,h6⟩:=Gu (f:=s.files) (a:=a) (by rw[h];simp);have hd:=hv.files.vd d (Al h2);unfold D3 at hs;by_cases h0:a.2≠1
 ·rw[if_pos h0]at hs;injection hs with hs;subst hs;rw[h5,h1];obtain⟨p,hp,hpi,e,he,_⟩:=hd.par m h3 (by rw[h4];exact h0) h6
  have hk:p.kind=2:=by
   by_cases hk:p.kind=2
   ·exact hk
   have:=(hd.leaf p hp hk).2;rw[this]at he;cases he
  exact(J3 (RS hv h2 hp hpi)).2 hk
 rw[if_neg h0]at hs;obtain⟨m',hm',_,e⟩:=NE hs;obtain⟨i,hi⟩:=List.getElem?_of_mem hm';rw[←e];exact(hv.mnt i m' hi).dir
theorem RT{a b:AA}(h:Bm s a.1=true)(hs:D3 s a=some b):Bm s b.1=true:=by
 unfold D3 at hs;by_cases h0:a.2≠1
 ·rw[if_pos h0]at hs;injection hs with hs;subst hs;exact h
 rw[if_neg h0]at hs;obtain⟨m',hm',_,e⟩:=NE hs;obtain⟨i,hi⟩:=List.getElem?_of_mem hm';rw[←e];exact VA (f:=s.files) (hv.mnt i m' hi).there (fun x hx=>List.mem_of_mem_take hx)
theorem RU:Bt s 0=none:=by
 cases h:Bt s 0 with
 |none=>rfl
 |some on=>
   obtain⟨m',hm',e,_⟩:=NE h;obtain⟨i,hi⟩:=List.getElem?_of_mem hm';have:=(hv.mnt i m' hi).dev1;omega
theorem dU{a:AA}(h:Bm s a.1=true)(h0:a≠(0,1)):∃b,D3 s a=some b:=by
 have _:=hv;unfold D3;by_cases h1:a.2≠1
 ·exact⟨_,if_pos h1⟩
 rw[if_neg h1];have h2:a.1≠0:=fun e=>h0 (Prod.ext e (by simpa using h1));unfold Bm at h;rw[decide_eq_false h2,Bool.or_false]at h
 cases ho:Bt s a.1 with
 |none=>rw[ho]at h;cases h
 |some b=>exact⟨b,rfl⟩
theorem KA{a:AA}(h:AT s.files a=true):Bb s (Bk s.files) a=a::(match D3 s a with
    |none=>[]
    |some b=>Bb s (Bk s.files) b):=by
 have hd:¬AT s.files a=false:=by rw[h];simp
 have he:=J4 hv a
 cases hm:Bk s.files with
 |zero=>rw[hm]at he;exact absurd he hd
 |succ m=>
   rw[hm]at he;rw[Hg hd,Lf hv hd]
   cases hs:D3 s a with
   |none=>rfl
   |some b=>
     simp only;have h1:=he.resolve_left hd b hs;have h2:=J4 hv b;rw[hm]at h2;rw[RL hv m (m+1) b h1 h2]
theorem dV{a:AA}(h:AT s.files a=true)(hm:Bm s a.1=true):(0,1)∈Bb s (Bk s.files) a:=by
 have key:∀(k:Nat) (a:AA),ends s k a→AT s.files a=true→Bm s a.1=true→(0,1)∈Bb s (Bk s.files) a:=by
  intro k
  induction k with
  |zero=>intro a he h _;rw[show AT s.files a=false from he]at h;cases h
  |succ k ih=>
    intro a he h hm;by_cases h0:a=(0,1)
    ·rw[KA hv h,h0];exact List.mem_cons_self ..
    obtain⟨b,hb⟩:=dU hv hm h0;rw[KA hv h,hb];exact List.mem_cons_of_mem _ (ih b (he.resolve_left (by rw[h];simp) b hb) (NG hv h hb) (RT hv hm hb))
 exact key _ a (J4 hv a) h hm
theorem Lh{a:AA}(h:¬(AT s.files a=true∧Bm s a.1=true)):Bp s a=(⟨#[]⟩,false):=by
 have _:=hv;unfold Bp;rw[if_neg fun c=>h ⟨c.1,c.2.1⟩]
theorem Ox{a:AA}(h:AT s.files a=true)(hm:Bm s a.1=true):Bp s a=(Hh s ((Bb s (Bk s.files) a).takeWhile fun x=>decide (x≠(0,1))),true):=by
 unfold Bp;rw[if_pos ⟨h,hm,dV hv h hm⟩]
theorem dW(h:AT s.files (0,1)=true):Bp s (0,1)=(⟨#[47]⟩,true):=by
 rw[Ox hv h (by unfold Bm;simp),KA hv h,List.takeWhile_cons];simp[Hh,D4]
theorem VC{a b:AA}(h:AT s.files a=true)(hm:Bm s a.1=true)(h0:a≠(0,1))(hb:D3 s a=some b):Bp s a=(if a.2=1 then(Bp s b).1 else DX (Bp s b).1 (CH s a),true)∧(Bp s b).2=true:=by
 rw[Ox hv h hm,Ox hv (NG hv h hb) (RT hv hm hb),KA hv h,hb,List.takeWhile_cons];simp only[h0,ne_eq,not_false_eq_true,decide_true,if_true];refine⟨?_,trivial⟩;unfold Hh D4;rw[List.filter_cons];by_cases h1:a.2=1
 ·simp[h1]
 simp[h1]
def Dq(s:Spc):Nat→AA→AA
 |0,a=>a
 |k+1,a=>if AT s.files a=true then(if a.2≠1 then(a.1,(Ah s.files a).parent)else match Bt s a.1 with
   |some on=>Dq s k on
   |none=>a)else(0,0)
omit hv in
theorem dY(dev:Int):K9 s dev≤s.mounts.length:=by
 unfold K9
 cases h:s.mounts.findIdx? fun m:Cs=>decide (m.1=dev)with
 |none=>simp
 |some i=>
   have:=(List.findIdx?_eq_some_iff_getElem.1 h).1;simp only;omega
theorem VE{i j:Nat}{m m':Cs}(hi:s.mounts[i]?=some m)(hj:s.mounts[j]?=some m')(h:m.1=m'.1):i=j:=by
 have key:∀{i j:Nat} {m m':Cs},s.mounts[i]?=some m→s.mounts[j]?=some m'→m.1=m'.1→¬i<j:=by
  intro i j m m' hi hj h hlt;have hf:=(hv.mnt j m' hj).fresh
  have hm:m∈s.mounts.take j:=by
   refine Al (i:=i) ?_;rw[List.getElem?_take,if_pos hlt];exact hi
  have:=NF (s:=⟨s.files,s.mounts.take j⟩) hm;rw[h,hf]at this;cases this
 have h1:=key hi hj h;have h2:=key hj hi h.symm;omega
omit hv in
theorem NH{a:AA}{d:Int}(h:Bx s a=some d):∃i:Nat,s.mounts[i]?=some ((d,a):Cs):=by
 unfold Bx at h
 cases hf:s.mounts.find? fun m:Cs=>decide (m.2=a)with
 |none=>rw[hf]at h;cases h
 |some m=>
   rw[hf]at h;injection h with h;have h2:=List.find?_some hf;simp only[decide_eq_true_eq]at h2;obtain⟨i,hi⟩:=List.getElem?_of_mem (List.mem_of_find?_eq_some hf);exact⟨i,by rw[hi,←h,←h2]⟩
omit hv in
theorem dZ{a:AA}(h:∀(i:Nat) (m:Cs),s.mounts[i]?=some m→m.2≠a):Bx s a=none:=by
 cases hc:Bx s a with
 |none=>rfl
 |some d=>obtain⟨i,hi⟩:=NH hc;exact absurd rfl (h i _ hi)
theorem VF:∀(n:Nat) (a:AA),(∀(i:Nat) (m:Cs),s.mounts[i]?=some m→m.2=a→s.mounts.length≤i+n)→Bx s (Cv s n a)=none:=by
 intro n
 induction n with
 |zero=>
   intro a h;refine dZ fun i m hi e=>?_;have h1:=h i m hi e;have h2:=(As.1 hi).1;omega
 |succ n ih=>
   intro a h
   cases hc:Bx s a with
   |none=>rw[OW (by rw[hc];rfl)];exact hc
   |some d=>
     obtain⟨i,hi⟩:=NH hc;rw[Cv];refine ih _ fun j m hj e=>?_;have he:Hc s a=(d,1):=by unfold Hc;rw[hc]
     rw[he]at e;have h1:=h i _ hi rfl;have hth:=(hv.mnt j m hj).there;have hd1:=(hv.mnt i _ hi).dev1;rw[e]at hth;obtain⟨m'',hm'',e2⟩:=RR hth (by simp only at hd1 ⊢;omega);obtain⟨k,hk⟩:=List.getElem?_of_mem hm''
     have hkj:k<j:=by
      have:=(As.1 hk).1;simp at this;omega
     rw[List.getElem?_take,if_pos hkj]at hk;have:=VE hv hk hi e2;omega
omit hv in
theorem VG:∀(n:Nat) (a:AA),Cv s (n+1) a=Hc s (Cv s n a)
 |0,_=>rfl
 |n+1,a=>VG n (Hc s a)
theorem eB(a:AA):Cv s (s.mounts.length+1) a=Cv s s.mounts.length a:=by
 rw[VG];refine QQ ?_;rw[VF hv _ a (fun i m _ _=>by omega)];rfl
theorem VH{i:Nat}{m:Cs}(hi:s.mounts[i]?=some m):Bt s m.1=some m.2:=by
 have h1:Bm s m.1=true:=NF (Al hi);have hd:=(hv.mnt i m hi).dev1;unfold Bm at h1;rw[decide_eq_false (by omega),Bool.or_false]at h1
 cases ho:Bt s m.1 with
 |none=>rw[ho]at h1;cases h1
 |some on=>
   obtain⟨m',hm',e1,e2⟩:=NE ho;obtain⟨j,hj⟩:=List.getElem?_of_mem hm';have:=VE hv hj hi e1;subst this;rw[hi]at hj;injection hj with hj;rw[←e2,hj]
theorem eC{x:AA}{dev:Int}(hc:Bx s x=some dev):∀(k:Nat) (y:AA),ends s k y→AT s.files y=true→y.1=dev→∃t r,Bb s (Bk s.files) y=t++(dev,1)::x::r:=by
 intro k
 induction k with
 |zero=>intro y he h _;rw[show AT s.files y=false from he]at h;cases h
 |succ k ih=>
   intro y he h hy;obtain⟨i,hi⟩:=NH hc;by_cases h1:y.2=1
   ·have hs:D3 s y=some x:=by
       unfold D3;rw[if_neg (by simpa using h1),hy];exact VH hv hi
    obtain⟨t,ht⟩:=Ow hv (NG hv h hs);refine⟨[],t,?_⟩;rw[KA hv h,hs];simp only[List.nil_append];rw[ht,←hy,←h1]
   have hs:D3 s y=some (y.1,(Ah s.files y).parent):=if_pos h1;obtain⟨t,r,ht⟩:=ih _ (he.resolve_left (by rw[h];simp) _ hs) (NG hv h hs) hy;refine⟨y::t,r,?_⟩;rw[KA hv h,hs];simp only[List.cons_append];rw[ht]
def GS(s:Spc)(L:List AA)(i:Nat):Bool:=match L[i]? with
 |none=>true
 |some x=>match Bx s x with
   |none=>true
   |some dev=>decide (0<i)&&decide (L[i - 1]?=some (dev,1))
theorem VJ{a:AA}{i:Nat}{x:AA}(hi:(Bb s (Bk s.files) a)[i]?=some x):GS s (Bb s (Bk s.files) a) i=RO s a x:=by
 unfold GS RO;simp only[hi]
 cases hc:Bx s x with
 |none=>rfl
 |some dev=>
   simp only;rw[Bool.eq_iff_iff];simp only[Bool.and_eq_true,decide_eq_true_eq];constructor
   ·rintro⟨_,h2⟩;exact⟨_,Al h2,rfl⟩
   rintro⟨y,hy,hyd⟩;obtain⟨t,r,ht⟩:=eC hv hc _ y (J4 hv y) (cR hv hy) hyd;obtain⟨p,hp⟩:=cQ hv hy;have hL:Bb s (Bk s.files) a=(p++t)++(dev,1)::x::r:=by rw[←hp,ht,List.append_assoc]
   have hn:=V1 hv _ a (J4 hv a)
   have hx:(Bb s (Bk s.files) a)[(p++t).length+1]?=some x:=by
    rw[hL,Dj (by omega)];simp
   have hx0:(Bb s (Bk s.files) a)[(p++t).length]?=some (dev,1):=by
    rw[hL,Dj (by omega)];simp
   have e:i=(p++t).length+1:=by
    obtain⟨h1,h2⟩:=As.1 hi;obtain⟨h3,h4⟩:=As.1 hx;exact(List.getElem_inj hn).1 (h2.trans h4.symm)
   subst e;exact⟨by omega,hx0⟩
theorem eD(a:AA):Eg s a=((Bp s a).2&&(List.range (Bb s (Bk s.files) a).length).all (GS s (Bb s (Bk s.files) a))):=by
 unfold Eg
 congr 1
 rw[Bool.eq_iff_iff,List.all_eq_true,List.all_eq_true];constructor
 ·intro h i hi;have hl:=List.mem_range.1 hi;rw[VJ hv (B9 hl)];exact h _ (List.getElem_mem hl)
 intro h x hx;obtain⟨i,hi⟩:=List.getElem?_of_mem hx;rw[←VJ hv hi];exact h i (List.mem_range.2 (As.1 hi).1)
end
end Go.Proofs.YtbglbmnhgbgelaaGreatDoor
namespace Go.Proofs.YtbglbmnhgbgelaaGreatDoor
open Go.RowKit
theorem eG(d m:AD):(DX d m).size≤d.size+1+m.size:=by
 unfold DX;split
 ·rw[ByteArray.size_append];omega
 rw[ByteArray.size_append,ByteArray.size_append];show d.size+1+m.size≤_;omega
theorem eH{s:Spc}(hv:SpcV s)(pre:List AA):(Hh s pre).size≤1+13 * pre.length:=by
 have key:∀(l:List AD) (d:AD),(∀x∈l,x.size≤12)→(l.foldl DX d).size≤d.size+13 * l.length:=by
  intro l
  induction l with
  |nil=>intro d _;simp
  |cons x l ih=>
    intro d h;have h1:=ih (DX d x) fun y hy=>h y (List.mem_cons_of_mem _ hy);have h2:=h x (List.mem_cons_self ..);have h3:=eG d x;rw[List.foldl_cons,List.length_cons];omega
 have h:=key (D4 s pre).reverse ⟨#[47]⟩ (fun x hx=>by
  rw[List.mem_reverse]at hx;obtain⟨y,_,rfl⟩:=List.mem_map.1 hx
  exact RQ hv.files y)
 have h2:(D4 s pre).length≤pre.length:=by unfold D4;rw[List.length_map];exact List.length_filter_le _ _
 rw[List.length_reverse]at h;have:(⟨#[47]⟩:AD).size=1:=rfl;unfold Hh;omega
theorem RV{s:Spc}(hv:SpcV s)(a:AA):(Bp s a).1.size≤1000:=by
 unfold Bp;split
 ·have h3:=VB s (Bk s.files) a;have h4:=V8 hv.files;refine Nat.le_trans (eH hv _) ?_;refine Nat.le_trans (Nat.add_le_add_left (Nat.mul_le_mul_left 13 ((List.takeWhile_sublist _).length_le)) 1) ?_;omega
 exact BJ _
theorem VK(d:AD)(h:0<d.size):d.data.toList.getLast?=some 47↔(((d[d.size - 1]'(by omega)).toNat:Int)=47):=by
 have hl:d.data.toList.length=d.size:=by simp
 rw[List.getLast?_eq_getElem?,hl,B9 (by omega)];show some (d[d.size - 1]'(by omega))=some 47↔_;rw[Option.some.injEq];constructor
 ·intro e;rw[e];rfl
 intro e;refine UInt8.toNat_inj.1 ?_;show _=47;omega
theorem eJ{d m:AD}(h:¬0<d.size):DX d m=d++⟨#[47]⟩++m:=by
 refine if_neg fun e=>?_;have hl:d.data.toList.length=d.size:=by simp
 rw[List.getLast?_eq_getElem?,List.getElem?_eq_none (by omega)]at e;cases e
section
theorem VL(d m:AD)(hd:d.size≤1000000)(hm:m.size≤1000000):AFn prog 103 [.v (.string d), .v (.string m)] (fun r=>r= .v (.string (DX d m))):=by
 refine enter Tryz.func103 rfl rfl rfl rfl rfl 0 rfl ?_;refine w_ (a_ (h:=e_ (q_ (w_ (m_ (h:=n_ (h:=Ck (h:=m_ (h:=?_)))))))));refine B5 true rfl rfl (fun hb1=>?_) (fun hb1=>?_)
 ·have hc1:=bp hb1;refine m_ (h:=m_ (h:=n_ (h:=OR (h:=?_))));refine BB (JS (n:=d.size - 1) Tryz.underlying9 rfl rfl (by omega) (by omega) ?_);refine AR (h:=Ag (h:=e_ (?_)));refine A8 rfl (fun hb2=>?_) (fun hb2=>?_)
  ·have hc2:=bp hb2;refine w_ (m_ (h:=m_ (h:=?_)));refine A6 rfl (FE rfl rfl (by omega) ?_);refine a_ (h:=e_ (A4 (A7 (?_))));refine AJ ?_;rw[show DX d m=d++m from if_pos ((VK d (by omega)).2 hc2)];rfl
  have hc2:=bp hb2;refine AN (w_ (m_ (h:=?_)));refine A6 rfl (FE rfl rfl (by show d.size+1≤_;omega) ?_);refine m_ (h:=?_);refine A6 rfl (FE rfl rfl (by rw[ByteArray.size_append];show d.size+1+m.size≤_;omega) ?_);refine a_ (h:=e_ (A4 (?_)));refine AJ ?_;rw[show DX d m=d++⟨#[47]⟩++m from if_neg (fun h=>hc2 ((VK d (by omega)).1 h))];rfl
 have hc1:=bp hb1;refine A3 (h:=A3 (h:=A3 (h:=A3 (h:=A3 (h:=A3 (h:=Ar (h:=e_ (GJ (h:=AN (w_ (m_ (h:=?_))))))))))));refine A6 rfl (FE rfl rfl (by show d.size+1≤_;omega) ?_);refine m_ (h:=?_);refine A6 rfl (FE rfl rfl (by rw[ByteArray.size_append];show d.size+1+m.size≤_;omega) ?_);refine a_ (h:=e_ (A4 (?_)));refine AJ ?_;rw[eJ (by omega)];rfl
theorem eK(s:Spc)(a:AA)(hs:SpcB s):AFn prog 143 [.agg (Ay s.files), .agg (AE a)] (fun r=>r= .v (.string (CH s a))):=by
 have hen:=Mb hs.files (a.1,(Ah s.files a).parent);change (Fa s a).entries.length≤1000 at hen;refine enter Tryz.func143 rfl rfl rfl rfl rfl 0 rfl ?_;refine w_ (b_ (h:=b_ (h:=a_ (h:=e_ (w_ (l_ (h:=l_ (h:=?_))))))));refine A6 rfl (AK (ED s.files a hs.files) ?_);rintro r rfl
 skip
 refine m_ (h:=x_ (h:=x_ (h:=AZ (h:=s_ (h:=a_ (h:=e_ (w_ (l_ (h:=f_ (h:=l_ (h:=f_ (h:=l_ (h:=AX (h:=?_))))))))))))));refine A6 rfl (AK (ED s.files (a.1,(Ah s.files a).parent) hs.files) ?_);rintro r rfl
 skip
 refine m_ (h:=x_ (h:=x_ (h:=AZ (h:=s_ (h:=a_ (h:=e_ (q_ (w_ (a_ (h:=e_ (Av (?_))))))))))));refine Bq (fun m t=>∃j:Nat,j≤(Fa s a).entries.length∧m=(Fa s a).entries.length - j∧(∀i y,i<j→(Fa s a).entries[i]?=some y→decide (y.2=a.2)=false)∧t=⟨look [(3, .bp 1 0),(7, .bp 3 0),(9, .v (.int .i64 (j:Int)))],⟨[Ay s.files,AE a,Ak (Ah s.files a),Ak (Fa s a)],[]⟩⟩) ((Fa s a).entries.length) ((wk 4 0)) (⟨0,by omega,rfl,fun i y hi=>by omega,rfl⟩) ?_;rintro m t ⟨j,hj,rfl,ha,rfl⟩;refine q_ (w_ (m_ (h:=f_ (h:=l_ (h:=n_ (h:=BS (h:=e_ (?_))))))));refine A8 rfl (fun hb1=>?_) (fun hb1=>?_)
 ·have hc1:=bp hb1;obtain⟨hlt,x,hy,hrow, -⟩:=Cu Cf hc1;refine AN (q_ (Av (q_ (E4 9 (h:=AG 0 (h:=AM 1 (h:=AO 2 (h:=EC 3 (h:=AG 4 (h:=AM 5 (h:=AG 6 (h:=AM 7 (h:=JM 8 (h:=z_ (h:=t_ (?_))))))))))))))));refine A8 rfl (fun hb2=>?_) (fun hb2=>?_)
  ·have hc2:=bp hb2;refine w_ (f_ (h:=l_ (h:=m_ (h:=i_ (h:=f_ (h:=l_ (h:=a_ (h:=e_ (A4 (AY (A7 (A7 (AY (A7 (?_)))))))))))))));refine AJ ?_;rw[show CH s a=x.1 by simp only[CH];rw[Hu hy (by simpa using hc2) ha];rfl];rfl
  have hc2:=bp hb2;refine BM (B8 (t_ (AQ (m_ (h:=BH (h:=a_ (h:=AP (?_))))))));refine AF ?_;refine⟨_,_,?_,⟨j+1,by omega,rfl,EP hy ha (by simpa using hc2),rfl⟩,(wk 4 0)⟩;omega
 have hc1:=bp hb1;have e3:=D0 Cf hj hc1;subst e3;refine BX (Aw (Aw (BY (t_ (w_ (a_ (h:=e_ (A4 (?_)))))))));refine AJ ?_;rw[show CH s a=⟨#[]⟩ by simp only[CH];rw[Hv ha];rfl];rfl
end
def DF(s:AD):List AV:=[.v (.string s)]
theorem VM{P:Program}{ev:Operand→Option AV}{h:AH}{R:AV→AH→Prop}{d:Option Tmp}{ty:TypeId}{pos:String}{af:Array Edge}{gd:Option (Nat×Bool)}{T:TypeId}{x lo hi:Operand}{s:ByteArray}{a k:Nat}{i j:Int}(hu:P.underlying T=some .string)
    (hx:ev x=some (.v (.string s))) (hl:ev lo=some (.v (.int .i64 i))) (hh:ev hi=some (.v (.int .i64 j))) (hi':i=(a:Int)) (hj:j=(k:Int)) (h1:a≤k) (h2:k≤s.size) (hR:R (.v (.string (s.extract a k))) h):AStep P ⟨d, .slice T x (some lo) (some hi) none,ty,pos,af,gd⟩ ev h R:=by
 refine DN (fun _ G w ec _ he=>?_) hR;have k1:=he x (by simp[Op.operands]) _ hx;have k2:=he lo (by simp[Op.operands]) _ hl;have k3:=he hi (by simp[Op.operands]) _ hh;simp only[rep]at k1 k2 k3;subst hi' hj;refine⟨.string (s.extract a k),?_,by simp only[rep]⟩;simp[execOp,k1,k2,k3,Instr.sliceAt,Instr.slice,Instr.sliceBounds,Instr.sliceBound,asIntOf,run_underlying hu,h1,h2]
def Cx(s:AD):Bool:=decide (s.data.toList.head?=some 47)
def BN(s:AD):Bool:=decide (s.data.toList.getLast?=some 47)
theorem Oy{s:AD}(h:0<s.size):Cx s=decide (((s[0]'h).toNat:Int)=47):=by
 unfold Cx;rw[Zt s h,Bool.eq_iff_iff];simp
theorem Oz{s:AD}(h:0<s.size):BN s=decide (((s[s.size - 1]'(by omega)).toNat:Int)=47):=by
 unfold BN;rw[Zu s h,Bool.eq_iff_iff];simp
theorem RW{s:AD}(h:¬0<s.size):Cx s=false:=by
 have:s.data.toList=[]:=Dd (by rw[←Lib.size_eq];omega);unfold Cx;rw[this];rfl
theorem RX{s:AD}(h:¬0<s.size):BN s=false:=by
 have:s.data.toList=[]:=Dd (by rw[←Lib.size_eq];omega);unfold BN;rw[this];rfl
theorem VN{s:AD}{k:Nat}(h:k<s.size)(h47:((s[k]'h).toNat:Int)=47):s.data.toList[k]?=some 47:=by
 rw[Lib.data_getElem? s k h]
 congr 1
 refine UInt8.toNat_inj.1 ?_;show _=47;omega
theorem VO{s:AD}{f k:Nat}{ps:List AD}(hI:ER s.data.toList f k (CJ ps))(h:k=s.size∨s.data.toList[k]?=some 47):ER s.data.toList (k+1) (k+1) (CJ ps++one_ ((s.data.toList.drop f).take (k - f))):=by
 rcases h with h|h
 ·rw[Lib.size_eq]at h;subst h;exact Zp hI
 exact Zo hI h
theorem VP{s:AD}{f k:Nat}{ps:List AD}(hI:ER s.data.toList f k (CJ ps))(hk:k≤s.size)(h:k=s.size∨s.data.toList[k]?=some 47)(hf:f<k):ER s.data.toList (k+1) (k+1) (CJ (ps++[s.extract f k])):=Zv (VO hI h) (Zr (Zs s hf hk))
theorem VQ{s:AD}{f k:Nat}{ps:List AD}(hI:ER s.data.toList f k (CJ ps))(h:k=s.size∨s.data.toList[k]?=some 47)(hf:¬f<k):ER s.data.toList (k+1) (k+1) (CJ ps):=Zw (VO hI h) (by omega)
theorem eL{s:AD}{f k:Nat}{ps:List AD}(hI:ER s.data.toList f k (CJ ps))(h:k<s.size)(h47:¬((s[k]'h).toNat:Int)=47):ER s.data.toList f (k+1) (CJ ps):=Zn hI (Lib.data_getElem? s k h) (fun e=>h47 (by rw[e];rfl))
theorem VR(ps:List AD):ps.length≤(DU (CJ ps)).length:=by
 induction ps with
 |nil=>simp
 |cons p ps ih=>
   have:CJ (p::ps)=p.data.toList::CJ ps:=rfl;rw[this,Gr];simp;omega
theorem RY{s:AD}{ps:List AD}(h:CJ ps=C3 s.data.toList){i:Nat}{x:AD}(hx:ps[i]?=some x):x.size≤s.size:=by
 rw[Lib.size_eq,Lib.size_eq s];refine aB ?_;rw[←h];exact List.mem_map.2 ⟨x,Al hx,rfl⟩
theorem eM{ps:List AD}{j:Nat}{x t:AD}(hx:ps[j]?=some x)(h:t.data.toList=DU ((CJ ps).take j)):(t++(⟨#[47]⟩++x)).data.toList=DU ((CJ ps).take (j+1)):=by
 have e:(CJ ps)[j]?=some x.data.toList:=by unfold CJ;rw[List.getElem?_map,hx];rfl
 rw[List.take_add_one,e,Qm,←h];simp[DU]
theorem NJ{a b:AD}(h:a.data.toList=b.data.toList):a=b:=ByteArray.ext (Array.toList_inj.1 h)
theorem eN{s:AD}{ps:List AD}(h:CJ ps=C3 s.data.toList){i:Nat}{x:AD}(hx:ps[i]?=some x)(hn:DT x=false):E5 s.data.toList=false:=by
 rw[←Qp];unfold Ms;rw[←h];have:(CJ ps).all EQ=false:=List.all_eq_false.2 ⟨x.data.toList,List.mem_map.2 ⟨x,Al hx,rfl⟩,by rw[←Ok,hn];simp⟩;rw[this,Bool.false_and]
theorem eO{s t1:AD}{ps:List AD}(h:CJ ps=C3 s.data.toList)(ha:∀(i:Nat) (y:AD),i<ps.length→ps[i]?=some y→DT y=true)(ht:t1.data.toList=DU ((CJ ps).take ps.length))(h3:¬s=⟨#[47]⟩)(h0:0<ps.length):E5 s.data.toList=decide (s=t1):=by
 have hl:(CJ ps).length=ps.length:=by simp[CJ]
 rw[List.take_of_length_le (by omega)]at ht;rw[←Qp];unfold Ms;rw[←h,←ht]
 have h1:(CJ ps).all EQ=true:=List.all_eq_true.2 fun y hy=>by
  obtain⟨z,hz,rfl⟩:=List.mem_map.1 hy;obtain⟨i,hi⟩:=List.getElem?_of_mem hz;rw[←Ok];exact ha i z (As.1 hi).1 hi
 have h2:decide (s.data.toList=[47])=false:=decide_eq_false fun e=>h3 (NJ e);have h4:CJ ps≠[]:=fun e=>by rw[e]at hl;simp at hl;omega
 rw[h1,h2,decide_eq_true h4];simp only[Bool.true_and,Bool.false_or];rw[Bool.eq_iff_iff,decide_eq_true_iff,decide_eq_true_iff];exact⟨fun e=>NJ e,fun e=>by rw[e]⟩
theorem eQ{s:AD}{ps:List AD}(h:CJ ps=C3 s.data.toList)(h3:¬s=⟨#[47]⟩)(h0:ps.length=0):E5 s.data.toList=false:=by
 have e:CJ ps=[]:=by rw[Dd h0];rfl
 rw[←Qp];unfold Ms;rw[←h,e];have h2:decide (s.data.toList=[47])=false:=decide_eq_false fun e=>h3 (NJ e);rw[h2];simp
section
theorem RZ(s:AD)(hs:s.size≤100000):AFn prog 98 [.v (.string s)] (fun r=>∃ps:List AD,CJ ps=C3 s.data.toList∧r= .tup [.sl 1 (ps.map DF) none, .v (.bool (Cx s)), .v (.bool (BN s))]):=by
 have hsz:=Lib.size_eq s;refine enter Tryz.func98 rfl rfl rfl rfl rfl 0 rfl ?_;refine w_ (a_ (h:=a_ (h:=a_ (h:=e_ (w_ (a_ (h:=e_ (w_ (a_ (h:=e_ (q_ (w_ (a_ (h:=e_ (Av (?_))))))))))))))));refine O7 5 9 1 rfl (by repeat constructor) ?_;refine Bq (fun m t=>∃(f k:Nat) (ps:List AD),k≤s.size+1∧f≤k∧ps.length≤k∧m=s.size+1 - k∧ER s.data.toList f k (CJ ps)∧t=⟨look [(0, .v (.string s)),(5, .sl 1 (ps.map DF) (some 0)),(6, .v (.int .i64 (f:Int))),(7, .v (.int .i64 (k:Int)))],⟨[],[(9,1,ps.map DF)]⟩⟩) (s.size+1) ((wk 0 1)) (⟨0,0,[],by omega,by omega,by simp,rfl,Zq _,rfl⟩) ?_;rintro m t ⟨f,k,ps,hk,hfk,hpl,rfl,hI,rfl⟩;refine q_ (w_ (m_ (h:=m_ (h:=n_ (h:=Ma (h:=e_ (?_)))))));refine A8 rfl (fun hb1=>?_) (fun hb1=>?_)
 ·have hc1:=bp hb1;refine AN (q_ (Av (w_ (m_ (h:=m_ (h:=n_ (h:=AR (h:=m_ (h:=?_)))))))));refine B5 false rfl rfl (fun hb2=>?_) (fun hb2=>?_)
  ·have hc2:=bp hb2;refine A3 (h:=A3 (h:=A3 (h:=A3 (h:=Ag (h:=e_ (C2 (h:=q_ (w_ (m_ (h:=m_ (h:=Ck (h:=e_ (?_)))))))))))));refine A8 rfl (fun hb3=>?_) (fun hb3=>?_)
   ·have hc3:=bp hb3;have hnx:=VP hI (by omega) (.inl (by omega)) (by omega);refine AQ (m_ (h:=m_ (h:=m_ (h:=m_ (h:=?_)))));refine A6 rfl (VM (a:=f) (k:=k) Tryz.underlying9 rfl rfl rfl rfl rfl (by omega) (by omega) ?_);refine Bw (h:=?_);refine A6 rfl (EO rfl rfl rfl (by simp;omega) (by repeat constructor) ?_);refine a_ (h:=e_ (AQ (m_ (h:=BH (h:=a_ (h:=AP (B8 (t_ (AQ (m_ (h:=BH (h:=a_ (h:=AP (?_))))))))))))));refine AF ?_;refine⟨_,_,?_,⟨_,k+1,_,by omega,by omega,(by(try simp only[List.length_append,List.length_cons,List.length_nil]);omega),rfl,hnx,rfl⟩,(by(try simp only[List.map_append,List.map_cons,List.map_nil]);exact Az 0 1 rfl rfl rfl rfl ((by repeat (first|exact Sub.nil|refine B0 rfl rfl ?_|refine B2 ?_|refine B3 rfl ?_|refine B4 rfl ?_))))⟩;omega
   have hc3:=bp hb3;have hnx:=VQ hI (.inl (by omega)) (by omega);refine AN (AQ (m_ (h:=BH (h:=a_ (h:=AP (B8 (t_ (AQ (m_ (h:=BH (h:=a_ (h:=AP (?_)))))))))))));refine AF ?_;refine⟨_,_,?_,⟨_,k+1,_,by omega,by omega,(by(try simp only[List.length_append,List.length_cons,List.length_nil]);omega),rfl,hnx,rfl⟩,(by(try simp only[List.map_append,List.map_cons,List.map_nil]);exact Az 0 1 rfl rfl rfl rfl ((by repeat (first|exact Sub.nil|refine B0 rfl rfl ?_|refine B2 ?_|refine B3 rfl ?_|refine B4 rfl ?_))))⟩;omega
  have hc2:=bp hb2;refine m_ (h:=m_ (h:=?_));refine BB (JS (n:=k) Tryz.underlying9 rfl rfl rfl (by omega) ?_);refine AR (h:=Ar (h:=e_ (?_)));refine A8 rfl (fun hb4=>?_) (fun hb4=>?_)
  ·have hc4:=bp hb4;refine q_ (w_ (m_ (h:=m_ (h:=Ck (h:=e_ (?_))))));refine A8 rfl (fun hb5=>?_) (fun hb5=>?_)
   ·have hc5:=bp hb5;have hnx:=VP hI (by omega) (.inr (VN (by omega) hc4)) (by omega);refine AQ (m_ (h:=m_ (h:=m_ (h:=m_ (h:=?_)))));refine A6 rfl (VM (a:=f) (k:=k) Tryz.underlying9 rfl rfl rfl rfl rfl (by omega) (by omega) ?_);refine Bw (h:=?_);refine A6 rfl (EO rfl rfl rfl (by simp;omega) (by repeat constructor) ?_);refine a_ (h:=e_ (AQ (m_ (h:=BH (h:=a_ (h:=AP (B8 (t_ (AQ (m_ (h:=BH (h:=a_ (h:=AP (?_))))))))))))));refine AF ?_;refine⟨_,_,?_,⟨_,k+1,_,by omega,by omega,(by(try simp only[List.length_append,List.length_cons,List.length_nil]);omega),rfl,hnx,rfl⟩,(by(try simp only[List.map_append,List.map_cons,List.map_nil]);exact Az 0 1 rfl rfl rfl rfl ((by repeat (first|exact Sub.nil|refine B0 rfl rfl ?_|refine B2 ?_|refine B3 rfl ?_|refine B4 rfl ?_))))⟩;omega
   have hc5:=bp hb5;have hnx:=VQ hI (.inr (VN (by omega) hc4)) (by omega);refine AN (AQ (m_ (h:=BH (h:=a_ (h:=AP (B8 (t_ (AQ (m_ (h:=BH (h:=a_ (h:=AP (?_)))))))))))));refine AF ?_;refine⟨_,_,?_,⟨_,k+1,_,by omega,by omega,(by(try simp only[List.length_append,List.length_cons,List.length_nil]);omega),rfl,hnx,rfl⟩,(by(try simp only[List.map_append,List.map_cons,List.map_nil]);exact Az 0 1 rfl rfl rfl rfl ((by repeat (first|exact Sub.nil|refine B0 rfl rfl ?_|refine B2 ?_|refine B3 rfl ?_|refine B4 rfl ?_))))⟩;omega
  have hc4:=bp hb4;have hnx:=eL hI (by omega) hc4;refine BM (B8 (t_ (AQ (m_ (h:=BH (h:=a_ (h:=AP (?_))))))));refine AF ?_;refine⟨_,_,?_,⟨_,k+1,_,by omega,by omega,(by(try simp only[List.length_append,List.length_cons,List.length_nil]);omega),rfl,hnx,rfl⟩,(by(try simp only[List.map_append,List.map_cons,List.map_nil]);exact Az 0 1 rfl rfl rfl rfl ((by repeat (first|exact Sub.nil|refine B0 rfl rfl ?_|refine B2 ?_|refine B3 rfl ?_|refine B4 rfl ?_))))⟩;omega
 have hc1:=bp hb1;refine BX (Aw (Aw (BY (t_ (q_ (E4 23 (h:=AO 0 (h:=AO 1 (h:=KV 2 (h:=QJ 3 (h:=AO 4 (h:=?_))))))))))));refine JE (j:=4) rfl (fun hb6=>?_) (fun hb6=>?_)
 ·have hc6:=bp hb6;refine AO 5 (h:=?_);refine GG (i:=6) rfl (JS (n:=0) Tryz.underlying9 rfl rfl rfl (by omega) ⟨rfl,rfl⟩) ?_;refine JM 7 (h:=JL 8 (h:=AO 9 (h:=KV 10 (h:=QJ 11 (h:=AO 12 (h:=?_))))));refine JE (j:=12) rfl (fun hb7=>?_) (fun hb7=>?_)
  ·have hc7:=bp hb7;refine AO 13 (h:=AO 14 (h:=KV 15 (h:=QH 16 (h:=?_))));refine GG (i:=17) rfl (JS (n:=s.size - 1) Tryz.underlying9 rfl rfl (by omega) (by omega) ⟨rfl,rfl⟩) ?_;refine JM 18 (h:=JL 19 (h:=BK 20 (h:=BK 21 (h:=BK 22 (h:=z_ (h:=t_ (A4 (?_))))))));refine AJ ?_;refine⟨ps,Oj hI (by omega),?_⟩
   (rw[Oy (by omega),Oz (by omega)];rfl)
  have hc7:=bp hb7;refine Bh 13 (h:=Bh 14 (h:=Bh 15 (h:=Bh 16 (h:=Bh 17 (h:=Bh 18 (h:=GK 19 (h:=BK 20 (h:=BK 21 (h:=BK 22 (h:=z_ (h:=t_ (A4 (?_)))))))))))));refine AJ ?_;refine⟨ps,Oj hI (by omega),?_⟩
  first|(rw[Oy (by omega),Oz (by omega)];rfl)|(rw[RW (by omega),RX (by omega)];rfl)|(exfalso;omega)
 have hc6:=bp hb6;refine Bh 5 (h:=Bh 6 (h:=Bh 7 (h:=GK 8 (h:=AO 9 (h:=KV 10 (h:=QJ 11 (h:=AO 12 (h:=?_))))))));refine JE (j:=12) rfl (fun hb8=>?_) (fun hb8=>?_)
 ·have hc8:=bp hb8;refine AO 13 (h:=AO 14 (h:=KV 15 (h:=QH 16 (h:=?_))));refine GG (i:=17) rfl (JS (n:=s.size - 1) Tryz.underlying9 rfl rfl (by omega) (by omega) ⟨rfl,rfl⟩) ?_;refine JM 18 (h:=JL 19 (h:=BK 20 (h:=BK 21 (h:=BK 22 (h:=z_ (h:=t_ (A4 (?_))))))));refine AJ ?_;refine⟨ps,Oj hI (by omega),?_⟩
  first|(rw[Oy (by omega),Oz (by omega)];rfl)|(rw[RW (by omega),RX (by omega)];rfl)|(exfalso;omega)
 have hc8:=bp hb8;refine Bh 13 (h:=Bh 14 (h:=Bh 15 (h:=Bh 16 (h:=Bh 17 (h:=Bh 18 (h:=GK 19 (h:=BK 20 (h:=BK 21 (h:=BK 22 (h:=z_ (h:=t_ (A4 (?_)))))))))))));refine AJ ?_;refine⟨ps,Oj hI (by omega),?_⟩
 first|(rw[Oy (by omega),Oz (by omega)];rfl)|(rw[RW (by omega),RX (by omega)];rfl)
theorem VS(s:AD)(hs:s.size≤50000):AFn prog 55 [.v (.string s)] (fun r=>r= .v (.bool (E5 s.data.toList))):=by
 have hsz:=Lib.size_eq s;refine enter Tryz.func55 rfl rfl rfl rfl rfl 0 rfl ?_;refine w_ (a_ (h:=e_ (w_ (m_ (h:=?_)))));refine A6 rfl (AK (RZ s (by omega)) ?_);rintro r ⟨ps,hps,rfl⟩;have hpl:(ps.map DF).length=ps.length:=by simp
 have hfl:=Qr s.data.toList;rw[←hps]at hfl;have hpm:=VR ps;refine m_ (h:=x_ (h:=x_ (h:=x_ (h:=a_ (h:=a_ (h:=a_ (h:=e_ (w_ (a_ (h:=e_ (q_ (w_ (a_ (h:=e_ (Av (?_))))))))))))))));refine Bq (fun m t=>∃(j:Nat) (t1:AD),j≤ps.length∧m=ps.length - j∧(∀i y,i<j→ps[i]?=some y→DT y=true)∧t1.data.toList=DU ((CJ ps).take j)∧t=⟨look [(0, .v (.string s)),(3, .sl 1 (ps.map DF) none),(6, .v (.string t1)),(7, .v (.int .i64 (j:Int)))],⟨[],[]⟩⟩) (ps.length) ((wk 0 0)) (⟨0,⟨#[]⟩,by omega,rfl,fun i y hi=>by omega,rfl,rfl⟩) ?_;rintro m t ⟨j,t1,hj,rfl,ha,ht1,rfl⟩;refine q_ (w_ (m_ (h:=m_ (h:=n_ (h:=BS (h:=e_ (?_)))))));refine A8 rfl (fun hb1=>?_) (fun hb1=>?_)
 ·have hc1:=bp hb1;obtain⟨hlt,x,hy,hrow, -⟩:=Cu DF hc1;have ht2:t1.size≤s.size+1:=by rw[Lib.size_eq,ht1];exact Nat.le_trans (aA _ _) (by omega)
  refine AN (q_ (Av (q_ (w_ (m_ (h:=m_ (h:=?_)))))));refine A6 rfl (Ci (n:=j) rfl rfl rfl hrow ?_);refine l_ (h:=?_);refine A6 rfl (AK (OV x (by have:=RY hps hy;omega)) ?_);rintro r rfl;refine BG (h:=e_ (?_));refine A8 rfl (fun hb2=>?_) (fun hb2=>?_)
  ·have hc2:=bp hb2;refine w_ (a_ (h:=e_ (A4 (A7 (AY (A7 (A7 (AY (A7 (?_))))))))));refine AJ ?_;exact vb (eN hps hy hc2).symm
  have hc2:=bp hb2;refine AN (AQ (m_ (h:=m_ (h:=m_ (h:=?_)))));refine A6 rfl (Ci (n:=j) rfl rfl rfl hrow ?_);refine l_ (h:=?_);refine A6 rfl (FE rfl rfl (by have:=RY hps hy;show 1+x.size≤_;omega) ?_);refine A6 rfl (FE rfl rfl (by have:=RY hps hy;rw[ByteArray.size_append];show t1.size+(1+x.size)≤_;omega) ?_);refine a_ (h:=AP (B8 (t_ (AQ (m_ (h:=BH (h:=a_ (h:=AP (?_)))))))));refine AF ?_;refine⟨_,_,?_,⟨j+1,t1++(⟨#[47]⟩++x),by omega,rfl,EP hy ha hc2,eM hy ht1,rfl⟩,(wk 0 0)⟩;omega
 have hc1:=bp hb1;refine BX (Aw (Aw (BY (t_ (w_ (m_ (h:=AR (h:=m_ (h:=?_)))))))));refine B5 false rfl rfl (fun hb3=>?_) (fun hb3=>?_)
 ·have hc3:=bp hb3;refine A3 (h:=A3 (h:=A3 (h:=A3 (h:=Cz (h:=Cz (h:=Cz (h:=A3 (h:=Ag (h:=a_ (h:=e_ (A4 (?_))))))))))));refine AJ ?_;exact vb (by rw[hc3];rfl)
 have hc3:=bp hb3;refine m_ (h:=n_ (h:=Ck (h:=m_ (h:=?_))));refine B5 true rfl rfl (fun hb4=>?_) (fun hb4=>?_)
 ·have hc4:=bp hb4;refine m_ (h:=m_ (h:=AR (h:=Ag (h:=Ar (h:=a_ (h:=e_ (A4 (?_))))))));refine AJ ?_;have e:=D0 DF hj hc1;subst e;exact vb (eO hps ha ht1 hc3 (by omega)).symm
 have hc4:=bp hb4;refine A3 (h:=A3 (h:=A3 (h:=Ar (h:=Ar (h:=a_ (h:=e_ (A4 (?_))))))));refine AJ ?_;have e:=D0 DF hj hc1;subst e;exact vb (eQ hps hc3 (by omega)).symm
end
end Go.Proofs.YtbglbmnhgbgelaaGreatDoor
