/-
  Part 11 of the proof of WatchReplacedP: what the statement's proof uses of the texts in wip/tpl.
-/
import Derived.Maps.AppendAt
import Derived.OwnWalk
import Derived.StillTailTactics
import Derived.OpenShut
import Derived.ChangeArms
import Derived.ChangeOld
import Derived.DataReads
import Derived.DataElems
import Derived.Test.YtobclmbkdhbnpaaGreatDoorQa10
open Go.Proofs.Tryz (prog)
set_option maxRecDepth 10000
set_option maxHeartbeats 4000000
set_option linter.unusedVariables false
set_option linter.unusedSimpArgs false
namespace Go.Proofs.YtobclmbkdhbnpaaGreatDoor
open Go.RowKit Go.Shelf
attribute [local go_sem] Oper.semAt_some
theorem Tryz.infoStrH:(prog.info? 9).map (fun i=>(i.zero,i.size,i.bytes))=some (some (.string ⟨#[]⟩),1,16):=by kernel_rfl
def Cn(s:Spc)(pre:List A9):List AE:=(pre.filter fun x:A9=>decide (x.2≠1)).map (C9 s)
def GZ(s:Spc)(pre:List A9):AE:=(Cn s pre).reverse.foldl D7 ⟨#[47]⟩
def Bk(s:Spc)(dir:A9):AE×Bool:=
 if Ag s.files dir=true∧C4 s dir.1=true∧(0,1)∈BT s (Bd s.files) dir then(GZ s ((BT s (Bd s.files) dir).takeWhile fun x=>decide (x≠(0,1))),true)else(⟨#[]⟩,false)
theorem Qb(s:Spc):∀(k:Nat) (a:A9),(BT s k a).length≤k
 |0,_=>by simp[BT]
 |k+1,a=>by
   unfold BT;split
   ·cases h:EC s a with
    |none=>simp
    |some b=>have:=Qb s k b;simp;omega
   simp
theorem Zn(d m:AE):(D7 d m).size≤d.size+1+m.size:=by
 unfold D7;split
 ·rw[ByteArray.size_append];omega
 rw[ByteArray.size_append,ByteArray.size_append];exact Av _
theorem UC:∀(l:List AE) (d:AE),(∀x∈l,x.size≤100)→(l.foldl D7 d).size≤d.size+101 * l.length
 |[],d,_=>by simp
 |x::l,d,h=>by
   have h1:=UC l (D7 d x) fun y hy=>h y (List.mem_cons_of_mem _ hy);have h2:=Zn d x;have h3:=h x (List.mem_cons_self ..);simp only[List.foldl_cons,List.length_cons];omega
theorem Zo{w:World}{base:Nat}{e:TypeId}{A:Option Addr}{c g0:Nat}{ns:List AE}(h:w.ownsRow base e 1 (.slice A ns.length c) ns.length (ns.map Value.string))(hg0:g0<w.heap.size):∃g,g<w.heap.size∧NamesIn w A ns.length c ns g:=by
 rcases h.2 with⟨hv,hn⟩|⟨g,cap,cur,hv,_,hb,h1,_,_,h2⟩
 ·injection hv with _ _ hc;exact⟨g0,hg0,rfl,by omega, .inl (List.length_eq_zero_iff.1 hn)⟩
 injection hv with hA _ hc;subst hA hc;refine⟨g,Bw hb,rfl,h1, .inr ⟨rfl,fun i x hx=>?_⟩⟩;rw[(C0 hb).1 i,←Array.getElem?_toList];have hi:i<ns.length:=(Ai.1 hx).1;rw[←List.getElem?_take_of_lt (show i<ns.length * 1 by omega),h2,List.getElem?_map,hx];rfl
theorem Zp{pre l:List A9}(h:pre<+:l)(hm:(0,1)∈pre):(l.takeWhile fun x:A9=>decide (x≠(0,1)))=pre.takeWhile fun x:A9=>decide (x≠(0,1)):=by
 obtain⟨t,rfl⟩:=h
 induction pre with
 |nil=>simp at hm
 |cons y ys ih=>
   by_cases hy:y=(0,1)
   ·simp[hy]
   have hm':(0,1)∈ys:=by
    rcases List.mem_cons.1 hm with h|h
    ·exact absurd h.symm hy
    exact h
   rw[List.cons_append,List.takeWhile_cons,List.takeWhile_cons,ih hm']
theorem Zq{pre:List A9}(h:(0,1)∉pre):((pre++[(0,1)]).takeWhile fun x:A9=>decide (x≠(0,1)))=pre:=by
 induction pre with
 |nil=>simp
 |cons y ys ih=>
   have hy:y≠(0,1):=fun e=>h (by rw[e];simp);rw[List.cons_append,List.takeWhile_cons,if_pos (by simpa using hy),ih (fun hm=>h (List.mem_cons_of_mem _ hm))]
theorem UD(s:Spc)(pre:List A9)(x:A9):Cn s (pre++[x])=if x.2=1 then Cn s pre else Cn s pre++[C9 s x]:=by
 unfold Cn;rw[List.filter_append,List.map_append];by_cases h:x.2=1<;>simp[h]
theorem UE(s:Spc)(pre:List A9):(Cn s pre).length≤pre.length:=by
 unfold Cn;rw[List.length_map];exact List.length_filter_le _ _
theorem Cz{F:Fence}{n:Nat}{P:Program}{ops:Array Oper}{Q:Exit→Act→World→Prop}{fuel:Nat}{listed:Array Bool}{a:Act}{w:World}{rs:List Nat}(hr:Region.ready .any ops listed=rs)(hne:rs≠[])
    (h:∀i∈rs,wpOpIn F n P ops Q i (wpAnyIn F n P .any ops Q fuel (listed.setIfInBounds i true)) a w):wpAnyIn F n P .any ops Q (fuel+1) listed a w:=
 ⟨fun h0=>absurd (hr.symm.trans h0) hne,fun i hi=>h i (hr ▸ hi)⟩
theorem CO{F:Fence}{n:Nat}{P:Program}{ops l:Array Oper}{Q:Exit→Act→World→Prop}{i:Nat}{o:Oper}{K:Act→World→Prop}{a:Act}{w:World}(hops:ops=l)(ho:l[i]?=some o)
    (h:∀K':Act→World→Prop,(∀a w,K a w→K' a w)→wpListIn F n P ops (Exit.then K' Q) [o] a w):wpOpIn F n P ops Q i K a w:=by
 have h1:=h K fun _ _ h=>h;subst hops;unfold wpOpIn;rw[ho];unfold wpListIn at h1;simp only;split at h1
 ·rename_i hw;rw[if_pos hw];refine⟨h1.1,?_⟩;have h2:=h1.2;generalize (o.semAt F.round a.eval).run P w=r at h2
  cases r with
  |ok x w'=>cases x<;>exact h2
  |halt x w'=>cases x<;>exact h2
 rename_i hw;rw[if_neg hw];exact h1
theorem Zr{F:Fence}{n:Nat}{P:Program}{ops:Array Oper}{Q:Exit→Act→World→Prop}{id:Nat}{a:Act}{w:World}(hm:P.follows .mixedOrders=true)(k:Nat)(hk:ops.size=k)
    (h:∀ops',ops'=ops→wpAnyIn F n P .any ops' Q k (Array.replicate k false) a w.drew):(Code.region id ops true).wpIn F n P Q a w:=by
 subst hk;exact wpIn_region_any hm (h ops rfl)
theorem Zs{W w1:World}{base B:Nat}{t e:TypeId}{size:Nat}{v v':Value}{k m:Nat}{xs ys:List Value}{tmp:Obj}
    (hv:Boxed W B t v) (hrow:W.ownsRow base e size v k xs) (hbase:base≤W.heap.size) (hB:B<base)
    (hown':w1.ownsRow base e size v' m ys) (hgrow:(W.alloc tmp).grownBy w1 v.ownBlock):
    Boxed w1 B t v∧Boxed (w1.setCell ⟨B,0,none⟩ v') B t v'∧(w1.setCell ⟨B,0,none⟩ v').ownsRow base e size v' m ys∧KeepsOthers W (w1.setCell ⟨B,0,none⟩ v')∧
     Below B W (w1.setCell ⟨B,0,none⟩ v')∧(∀j:Nat,j<base→j≠B→(w1.setCell ⟨B,0,none⟩ v').heap[j]?=W.heap[j]?)∧
     ∀(j:Nat) (cs:Array Value) (t':TypeId),t'≠e→t'≠t→W.heap[j]?=some (.cells cs t')→(w1.setCell ⟨B,0,none⟩ v').heap[j]?=some (.cells cs t'):=by
 have hne:∀j,j<base→some j≠v.ownBlock:=by
  intro j hj e;have:=World.ownsRow.lt hrow j e.symm;omega
 have hblk:∀j,j<base→w1.heap[j]?=W.heap[j]?:=fun j hj=>(hgrow.block j (by simp;omega) (hne j hj)).trans (Below.heap_alloc W tmp j (by omega));have hv1:Boxed w1 B t v:=(hblk B hB).trans hv;refine⟨hv1,hv1.set v',ownsRow_setCell_below hown' hB v',?_,?_,fun j hj hj'=>(Below.heap_setCell w1 ⟨B,0,none⟩ v' j hj').trans (hblk j hj),?_⟩
 ·refine((KeepsOthers.alloc W tmp).trans (KeepsOthers.of_grownBy hgrow fun j o ej hj=>?_)).trans (KeepsOthers.setCell _ _ _);rcases(hrow.alloc tmp).2 with⟨rfl,_⟩|⟨g,cap,cur,rfl,_,hgb,_⟩
  ·simp[Value.ownBlock]at ej
  obtain rfl:g=j:=by simpa[Value.ownBlock]using ej
  rw[hgb]at hj;cases hj;rfl
 ·have hs:=hgrow.size;simp at hs;exact⟨hgrow.os,hgrow.tape,hgrow.output,by simp[World.setCell];omega,fun j hj=>(Below.heap_setCell w1 ⟨B,0,none⟩ v' j (by show j≠B;omega)).trans (hblk j (by omega))⟩
 intro j cs t' he ht hj;have hjl:=Bw hj;refine(Below.heap_setCell w1 ⟨B,0,none⟩ v' j fun eq=>?_).trans (((hgrow.block j (by simp;omega) fun eq=>?_).trans (Below.heap_alloc W tmp j (by omega))).trans hj)
 ·have eq':j=B:=eq;subst eq';rw[show W.heap[j]?=_ from hv]at hj;injection hj with hj;injection hj with _ h2;exact ht h2.symm
 rcases hrow.2 with⟨rfl,_⟩|⟨g,cap,cur,rfl,_,hgb,_⟩
 ·simp[Value.ownBlock]at eq
 obtain rfl:j=g:=by simpa[Value.ownBlock]using eq
 rw[hgb]at hj;injection hj with hj;injection hj with _ h2;exact he h2.symm
theorem Moves.rowH{own:Nat→Prop}{B:Nat}{X Y:World}(h:Moves own B X Y){base e size k:Nat}{v:Value}{xs:List Value}(hr:X.ownsRow base e size v k xs)(ho:∀b,own b→b<base):Y.ownsRow base e size v k xs:=by
 refine⟨hr.1,?_⟩;rcases hr.2 with h'|⟨g,cap,cur,hv,hg,hb,r⟩
 ·exact .inl h'
 refine .inr ⟨g,cap,cur,hv,hg,?_,r⟩;exact(h.block g (Array.getElem?_eq_some_iff.1 hb).1 (fun e=>by have:=ho g e;omega) (.inr ⟨_,hb,rfl⟩)).trans hb
set_option maxRecDepth 100000 in
set_option maxHeartbeats 4000000 in
theorem Zt(n:Nat)(hn:Hid (4≤n))(s:Spc)(hs:SpcB s)(hnm:∀x,(C9 s x).size≤100)(hmo:Bd s.files≤5000)(dir:A9)(ds ms:Value)(w:World)(h:SpcIn s w.heap.size w ds ms):
    CallsIn Fence.wide n prog 125 #[.agg #[ds,ms],DW dir] w fun e w'=>e= .returned (.tuple #[.string (Bk s dir).1, .bool (Bk s dir).2])∧Below w.heap.size w w':=by
 obtain⟨i0,hi0,hz0,hz1,hz2⟩:=info_parts Tryz.infoStrH;have HNM:=Lib.hid hnm;clear hnm;unfold DW;refine callsIn_of_wp_marks Tryz.func125 rfl trivial ?_ rfl;simp only[Tryz.ntmps125,List.size_toArray,List.length_cons,List.length_nil,Nat.reduceAdd,Nat.reduceSub,Array.replicate_succ,Array.replicate_zero,List.push_toArray,List.append_toArray,List.nil_append,List.cons_append]
 gi_wp2_with fail
 obtain⟨W4,hW4⟩:∃W4,(((w.alloc (.cells #[ds,ms] 30)).alloc (.cells #[.int .i64 dir.1, .int .i64 dir.2] 33)).alloc (.cells #[.string ⟨#[]⟩] 9)).alloc (.cells #[.bool false] 4)=W4:=⟨_,rfl⟩;have hz4:W4.heap.size=w.heap.size+4:=by rw[←hW4];simp
 have hB4:Below w.heap.size w W4:=by rw[←hW4];exact Pk _ _ _ _ _
 have kS:W4.heap[w.heap.size]?=some (.cells #[ds,ms] 30):=by rw[←hW4];exact Su _ _ _ _ _
 have kD:W4.heap[w.heap.size+1]?=some (.cells #[.int .i64 dir.1, .int .i64 dir.2] 33):=by rw[←hW4];exact Pl _ _ _ _ _
 have kP:Boxed W4 (w.heap.size+1+1) 9 (.string ⟨#[]⟩):=by rw[←hW4];exact Sv _ _ _ _ _
 have kE:Boxed W4 (w.heap.size+1+1+1) 4 (.bool false):=by rw[←hW4];exact Pm _ _ _ _ _
 have hSp:=h.below hB4 (Av _);rw[hW4];have HZ4:=Lib.hid hz4;clear hW4;refine Dw ((callsIn_wide.2 (ZV hSp hs dir)).mono ?_);rintro e W5 ⟨rfl,hb5⟩;obtain⟨di,hdi⟩:∃di,Ag s.files dir=di:=⟨_,rfl⟩;rw[hdi];have hz5:=hb5.size;have k5S:=Ba kS hb5 (Bw kS);have k5D:=Ba kD hb5 (Bw kD);have k5P:Boxed W5 (w.heap.size+1+1) 9 (.string ⟨#[]⟩):=Ba kP hb5 (Bw kP);have k5E:Boxed W5 (w.heap.size+1+1+1) 4 (.bool false):=Ba kE hb5 (Bw kE);have hB5:Below w.heap.size w W5:=hB4.trans (hb5.mono hB4.size);have h5:=h.below hB5 (Av _);have HZ5:Hid (w.heap.size+4≤W5.heap.size):=Lib.hid (by omega);have HDI:=Lib.hid hdi;clear kS kD kP kE hB4 hSp hb5 hz4 hz5 hdi HZ4;obtain⟨c0,f0⟩:=C0 k5S;obtain⟨c1,f1⟩:=C0 k5D;have c2:=k5P.cell;have f2:=k5P.frozen;have c3:=k5E.cell;have f3:=k5E.frozen
 cases di with
 |false=>
   have HW:Hid (Bk s dir=(⟨#[]⟩,false)):=Lib.hid (by unfold Bk;rw[HDI.out];simp)
   gi_wp2
   refine⟨trivial,?_⟩
   gi_wp2
   have hP:=(Boxed.other (k5P.set (.string ⟨#[]⟩)) (show w.heap.size+1+1≠w.heap.size+1+1+1 by omega) (.bool false)).cell;have hE:=((Boxed.other k5E (show w.heap.size+1+1+1≠w.heap.size+1+1 by omega) (.string ⟨#[]⟩)).set (.bool false)).cell;refine⟨.tuple #[.string ⟨#[]⟩, .bool false],by simp[results,Tryz.f125,go_sem,hP,hE],by rw[HW.out],(hB5.setCell (by show w.heap.size≤w.heap.size+1+1;omega) _).setCell (by show w.heap.size≤w.heap.size+1+1+1;omega) _⟩
 |true=>
   gi_wp2_with fail
   refine Dw ((callsIn_wide.2 (ZW h5 hs dir.1)).mono ?_);rintro e W6 ⟨rfl,hb6⟩;obtain⟨mi,hmi⟩:∃mi,C4 s dir.1=mi:=⟨_,rfl⟩;rw[hmi];have hz6:=hb6.size;have k6S:=Ba k5S hb6 (Bw k5S);have k6D:=Ba k5D hb6 (Bw k5D);have k6P:Boxed W6 (w.heap.size+1+1) 9 (.string ⟨#[]⟩):=Ba k5P hb6 (Bw k5P);have k6E:Boxed W6 (w.heap.size+1+1+1) 4 (.bool false):=Ba k5E hb6 (Bw k5E);have hB6:Below w.heap.size w W6:=hB5.trans (hb6.mono hB5.size);have HZ6:Hid (w.heap.size+4≤W6.heap.size):=Lib.hid (by have:=HZ5.out;omega);have HMI:=Lib.hid hmi;clear k5S k5D k5P k5E hB5 h5 hb6 hz6 hmi HZ5 c0 f0 c1 f1 c2 f2 c3 f3;obtain⟨c0,f0⟩:=C0 k6S;obtain⟨c1,f1⟩:=C0 k6D;have c2:=k6P.cell;have f2:=k6P.frozen;have c3:=k6E.cell;have f3:=k6E.frozen
   cases mi with
   |false=>
     have HW:Hid (Bk s dir=(⟨#[]⟩,false)):=Lib.hid (by unfold Bk;rw[HMI.out];simp)
     gi_wp2
     have hP:=(Boxed.other (k6P.set (.string ⟨#[]⟩)) (show w.heap.size+1+1≠w.heap.size+1+1+1 by omega) (.bool false)).cell;have hE:=((Boxed.other k6E (show w.heap.size+1+1+1≠w.heap.size+1+1 by omega) (.string ⟨#[]⟩)).set (.bool false)).cell;refine⟨.tuple #[.string ⟨#[]⟩, .bool false],by simp[results,Tryz.f125,go_sem,hP,hE],by rw[HW.out],(hB6.setCell (by show w.heap.size≤w.heap.size+1+1;omega) _).setCell (by show w.heap.size≤w.heap.size+1+1+1;omega) _⟩
   |true=>
     have HW:Hid (Bk s dir=if(0,1)∈BT s (Bd s.files) dir then(GZ s ((BT s (Bd s.files) dir).takeWhile fun x=>decide (x≠(0,1))),true)else(⟨#[]⟩,false)):=Lib.hid (by unfold Bk;rw[HDI.out,HMI.out];simp);obtain⟨d0,g0⟩:=C0 (Cj k6S (.cells #[.slice none 0 0] 68));obtain⟨d1,g1⟩:=C0 (Cj k6D (.cells #[.slice none 0 0] 68))
     gi_wp2_with fail
     obtain⟨W7,hW7⟩:∃W7,W6.alloc (.cells #[.slice none 0 0] 68)=W7:=⟨_,rfl⟩;have hB7:Below W6.heap.size W6 W7:=by rw[←hW7];exact FM _ _
     have hz7:W7.heap.size=W6.heap.size+1:=by rw[←hW7];simp
     have kN:Boxed W7 W6.heap.size 68 (.slice none 0 0):=by rw[←hW7];exact Hl _ _
     rw[hW7];clear hW7 d0 g0 d1 g1 c0 f0 c1 f1 c2 f2 c3 f3;refine Dw ((callsIn_wide.2 (U2 ds ms dir W7)).mono ?_);rintro e W9 ⟨rfl,hW9⟩;have hB9:Below W7.heap.size W7 W9:=by rw[hW9];exact Gy _ _ _
     have hz9:W9.heap.size=W6.heap.size+3:=by rw[hW9];simp[hz7]
     have cS:W9.heap[W7.heap.size]?=some (.cells #[ds,ms] 30):=by rw[hW9];exact Hm _ _ _
     have cD:W9.heap[W7.heap.size+1]?=some (.cells #[.int .i64 dir.1, .int .i64 dir.2] 33):=by rw[hW9];exact Hn _ _ _
     have hB69:Below W6.heap.size W6 W9:=hB7.trans (hB9.mono (by omega));have kN9:Boxed W9 W6.heap.size 68 (.slice none 0 0):=Ba kN hB9 (by omega);have k9S:=Ba k6S hB69 (Bw k6S);have k9P:Boxed W9 (w.heap.size+1+1) 9 (.string ⟨#[]⟩):=Ba k6P hB69 (Bw k6P);have k9E:Boxed W9 (w.heap.size+1+1+1) 4 (.bool false):=Ba k6E hB69 (Bw k6E);have hBw:Below w.heap.size w W9:=hB6.trans (hB69.mono hB6.size);have kSp:=h.below hBw (Av _);have HZ9:Hid (W7.heap.size=W6.heap.size+1∧W9.heap.size=W6.heap.size+3):=Lib.hid ⟨hz7,hz9⟩;clear hW9 kN hB7 hB9 hB69 hB6 hz7 hz9 k6S k6D k6P k6E
     gi_wp2_with fail
     refine UA rfl (by have:=hn.out;omega) (gf:=115) rfl trivial (enters_of Tryz.func115 (by kernel_rfl) rfl)
      (U5 (n - 1) s hs dir w.heap.size W7.heap.size (W7.heap.size+1) ds ms W9 cS cD kSp (by have:=HZ9.out;have:=HZ6.out;omega) (by have:=HZ9.out;have:=HZ6.out;omega) (by omega))
      (fun b hb=>by have:=HZ9.out;omega) KeepC.trans (fun W l o o' hl ho hc=>by have:=HZ9.out;have:=HZ6.out;exact U3 (B:=W9.heap.size) (by omega) (by omega) (by omega) W l o o' hl ho hc) (Below.refl _ _) (fun _=>rfl)
      (fun pre W=>W.heap[w.heap.size]?=some (.cells #[ds,ms] 30)∧Boxed W (w.heap.size+1+1) 9 (.string ⟨#[]⟩)∧Boxed W (w.heap.size+1+1+1) 4 (.bool false)∧(∃v,Boxed W W6.heap.size 68 v∧W.ownsRow W9.heap.size 9 1 v (Cn s pre).length ((Cn s pre).map Value.string))∧(0,1)∉pre∧Below w.heap.size w W)
      (fun c pre W=>c= .ret∧Boxed W (w.heap.size+1+1) 9 (.string (GZ s (pre.takeWhile fun x:A9=>decide (x≠(0,1)))))∧Boxed W (w.heap.size+1+1+1) 4 (.bool true)∧(0,1)∈pre∧Below w.heap.size w W)
      (fun s X Y h hm=>by
        obtain⟨h1,h2,h3,⟨v,h4,h5⟩,h6,h7⟩:=h;have z9:=HZ9.out;have z6:=HZ6.out
        exact⟨(hm.block _ (Bw h1) (by omega) (.inr ⟨_,h1,rfl⟩)).trans h1,hm.boxed h2 (by omega),hm.boxed h3 (by omega),⟨v,hm.boxed h4 (by omega),hm.rowH h5 (fun b hb=>by omega)⟩,h6,hm.under h7 (Av _) (fun b hb=>by omega) (by omega)⟩)
      (fun c s X Y h hm=>by
        obtain⟨h1,h2,h3,h6,h7⟩:=h;have z9:=HZ9.out;have z6:=HZ6.out
        exact⟨h1,hm.boxed h2 (by omega),hm.boxed h3 (by omega),h6,hm.under h7 (Av _) (fun b hb=>by omega) (by omega)⟩)
      ⟨k9S,k9P,k9E,⟨_,kN9,World.ownsRow_nil _ _ _ _⟩,by simp,hBw⟩
      (fun x W=>{tmps:=#[.agg #[ds,ms], .agg #[.int .i64 dir.1, .int .i64 dir.2], .pointer (some ⟨w.heap.size,0,none⟩), .pointer (some ⟨w.heap.size+1,0,none⟩), .pointer (some ⟨w.heap.size+1+1,0,none⟩), .pointer (some ⟨w.heap.size+1+1+1,0,none⟩), .pointer (some ⟨W6.heap.size,0,none⟩), .pointer (some ⟨W.heap.size,0,none⟩),undef,undef,undef, .agg #[ds,ms],
        .agg #[.int .i64 dir.1, .int .i64 dir.2], .bool true, .bool false, .bool false, .agg #[ds,ms], .pointer (some ⟨w.heap.size+1,0,none⟩), .int .i64 dir.1, .bool true, .bool false, .bool false, .agg #[ds,ms], .agg #[.int .i64 dir.1, .int .i64 dir.2],
        .func (.func 115) #[] #[.pointer (some ⟨W7.heap.size,0,none⟩), .pointer (some ⟨W7.heap.size+1,0,none⟩)], .agg #[.int .i64 x.1, .int .i64 x.2],undef,undef,undef,undef,undef,undef,undef,undef,undef,undef,undef,undef,undef,undef,undef,undef,undef,undef,undef,undef,undef,undef],defers:=[]})
      (fun x W=>W.alloc (.cells #[.int .i64 x.1, .int .i64 x.2] 33))
      (fun x W hsz=>⟨FM _ _,by have:=HZ9.out;have:=HZ6.out;exact MX (FM _ _) (by omega) (by omega) (by omega)⟩) ?assign ?body ?done ?stop
     case assign=>
      intro l x W K hsz hK;unfold DW
      gi_wp2
      exact hK
     case body=>
      rintro l pre x W0 W ⟨c1,cP,cE,⟨v,cN,hrow⟩,hnm,hbw⟩ hpf hsz hszW hcell hlW hrl;have cX:=hcell _ _ (Hl W0 (.cells #[.int .i64 x.1, .int .i64 x.2] 33)) rfl;simp only[Lw]at hszW;have HN:=Lib.hid hnm;have HZ:=Lib.hid hsz;have HPF:=Lib.hid hpf;clear hnm hsz hcell hpf k9S k9P k9E kN9 cS cD kSp;obtain⟨a1,b1⟩:=C0 c1;obtain⟨aX,bX⟩:=C0 cX;have aP:=cP.cell;have bP:=cP.frozen;have aE:=cE.cell;have bE:=cE.frozen;have aN:=cN.cell;have bN:=cN.frozen;obtain⟨xd,xi⟩:=x;simp only at aX cX;by_cases hx:(xd,xi)=(0,1)
      ·obtain⟨rfl,rfl⟩:=Prod.mk.inj hx
       obtain⟨A,cc,rfl⟩:∃A c,v= .slice A (Cn s pre).length c:=by
        rcases hrow.2 with⟨rfl,hn⟩|⟨g,cap,cur,rfl,_⟩
        ·exact⟨none,0,by rw[hn]⟩
        exact⟨_,_,rfl⟩
       have cN':Boxed (W.alloc (.cells #[.string ⟨#[47]⟩] 9)) W6.heap.size 68 (.slice A (Cn s pre).length cc):=Cj cN _;have aN':=cN'.cell
       gi_wp2_with fail
       refine Dw ((CallsIn.inRound l (callsIn_wide.2 (Zk A (Cn s pre).length cc _))).mono ?_);rintro e Wb ⟨rfl,hWb⟩;have z9:=HZ9.out;have z6:=HZ6.out;have zz:=HZ.out;obtain⟨g,hgl,hNI⟩:=Zo hrow (g0:=w.heap.size) (by omega);have hza:(W.alloc (.cells #[.string ⟨#[47]⟩] 9)).heap.size=W.heap.size+1:=Lw _ _;rw[hza];have hBb:Below W.heap.size W Wb:=by rw[hWb];exact Gy _ _ _
       have hzb:Wb.heap.size=W.heap.size+2:=by rw[hWb];exact Ss _ _ _
       have kW:Boxed Wb W.heap.size 9 (.string ⟨#[47]⟩):=by rw[hWb];exact Hm _ _ _
       have kB:Boxed Wb (W.heap.size+1) 68 (.slice A (Cn s pre).length cc):=by rw[hWb];exact Hn _ _ _
       have kP:Boxed Wb (w.heap.size+1+1) 9 (.string ⟨#[]⟩):=Ba cP hBb (Bw cP);have kE:Boxed Wb (w.heap.size+1+1+1) 4 (.bool false):=Ba cE hBb (Bw cE);have kG:=hNI.keep (hBb.block g hgl);have kL:∃r,Wb.heap[l]?=some (.loop r):=hrl.imp fun r hr=>Ba hr hBb (Bw hr);obtain⟨rl,kL⟩:=kL;have hbb:Below w.heap.size w Wb:=hbw.trans (hBb.mono hbw.size);have hkf:KeepsFrom W9.heap.size W Wb:=KD hBb
       have hlen:(Cn s pre).length≤5000:=by
        have h1:=UE s pre;have h2:=HPF.out.length_le;have h3:=Qb s (Bd s.files) dir;simp only[List.length_append]at h2;omega
       have hall:∀y∈Cn s pre,y.size≤100:=by
        intro y hy;unfold Cn at hy;obtain⟨z,_,rfl⟩:=List.mem_map.1 hy;exact HNM.out z
       have HL:=Lib.hid hlen;have HA:=Lib.hid hall;have HB:=Lib.hid hzb;have HGL:=Lib.hid hgl;clear hWb cN' aN' a1 b1 aX bX aP bP aE bE aN bN hza hlen hall hzb hgl z9 z6 zz
       gi_wp2_with fail
       refine Zi (l₀:=l) (r₀:=rl) rfl kL (by have:=hn.out;omega) (gf:=176) rfl trivial (enters_of Tryz.func176 (by kernel_rfl) rfl)
        ((Zm (n - 1 - 1 - 1) (Cn s pre) (by have:=HL.out;omega) (W.heap.size+1) g A (Cn s pre).length cc Wb kB kG (.inr (by have:=HB.out;have:=HGL.out;omega))).inRound l)
        (fun b hb=>hb.elim) (fun h k=>⟨k.1.trans h.1,k.2.trans h.2⟩) (fun X l' o o' hl' _ _=>by have:=HB.out;have:=HGL.out;exact⟨World.putObj_heap_other (by omega),World.putObj_heap_other (by omega)⟩) (Below.refl _ _) (fun _=>rfl)
        (fun pr X=>Boxed X W.heap.size 9 (.string ((pr.map (·.2)).foldl D7 ⟨#[47]⟩))∧Boxed X (w.heap.size+1+1) 9 (.string ⟨#[]⟩)∧Boxed X (w.heap.size+1+1+1) 4 (.bool false)∧KeepsFrom W9.heap.size W X∧Below w.heap.size w X)
        (fun _ _ _=>False)
        (fun s' X Y h hm=>⟨hm.boxed h.1 (fun h=>h),hm.boxed h.2.1 (fun h=>h),hm.boxed h.2.2.1 (fun h=>h),⟨Nat.le_trans h.2.2.2.1.size hm.size,fun k o hk hko hc=>by
          have hX:=h.2.2.2.1.same k o hk hko hc;have:=Bw hko;have:=HB.out
          exact(hm.block k (Bw hX) (fun h=>h) (.inl (by omega))).trans hX⟩,hm.under h.2.2.2.2 (Av _) (fun b hb=>hb.elim) (by have:=HB.out;have:=HZ.out;have:=HZ9.out;have:=HZ6.out;omega)⟩)
        (fun _ _ _ _ h _=>h)
        ⟨kW,kP,kE,hkf,hbb⟩
        (fun y=>{tmps:=#[.agg #[ds,ms], .agg #[.int .i64 dir.1, .int .i64 dir.2], .pointer (some ⟨w.heap.size,0,none⟩), .pointer (some ⟨w.heap.size+1,0,none⟩), .pointer (some ⟨w.heap.size+1+1,0,none⟩), .pointer (some ⟨w.heap.size+1+1+1,0,none⟩), .pointer (some ⟨W6.heap.size,0,none⟩), .pointer (some ⟨W0.heap.size,0,none⟩), .pointer (some ⟨W.heap.size,0,none⟩),undef, .string y.2, .agg #[ds,ms],
          .agg #[.int .i64 dir.1, .int .i64 dir.2], .bool true, .bool false, .bool false, .agg #[ds,ms], .pointer (some ⟨w.heap.size+1,0,none⟩), .int .i64 dir.1, .bool true, .bool false, .bool false, .agg #[ds,ms], .agg #[.int .i64 dir.1, .int .i64 dir.2],
          .func (.func 115) #[] #[.pointer (some ⟨W7.heap.size,0,none⟩), .pointer (some ⟨W7.heap.size+1,0,none⟩)], .agg #[.int .i64 0, .int .i64 1], .bool true, .agg #[.int .i64 0, .int .i64 1], .agg #[.int .i64 0, .int .i64 1], .bool true, .slice A (Cn s pre).length cc,
          .func (.func 176) #[] #[.pointer (some ⟨W.heap.size+1,0,none⟩)], .int .i64 y.1, .string y.2,undef,undef,undef,undef,undef,undef,undef,undef,undef,undef,undef,undef,undef,undef],defers:=[]}) ?assign2 ?body2 ?done2 ?stop2
       case assign2=>
        intro l2 y X K hK
        gi_wp2
        exact hK
       case body2=>
        rintro l2 pr y X ⟨e1,e2,e3,e4,e5⟩ hpf2 hszX;have hp1:(pr.map (·.2)++[y.2])<+:(Cn s pre).reverse:=by simpa using hpf2
        have hl1:=hp1.length_le;have hs1:=UC (pr.map (·.2)) ⟨#[47]⟩ fun z hz=>HA.out z (List.mem_reverse.1 (hp1.subset (List.mem_append_left _ hz)));have hs2:y.2.size≤100:=HA.out _ (List.mem_reverse.1 (hp1.subset (by simp)))
        have hs3:((pr.map (·.2)).foldl D7 ⟨#[47]⟩).size≤1000000:=by
         have h1:(⟨#[47]⟩:ByteArray).size=1:=rfl;have:=HL.out;simp only[List.length_append,List.length_map,List.length_cons,List.length_nil,List.length_reverse]at hl1;simp only[List.length_map]at hs1;omega
        have HF:Hid (((pr++[y]).map (·.2)).foldl D7 ⟨#[47]⟩=D7 ((pr.map (·.2)).foldl D7 ⟨#[47]⟩) y.2):=Lib.hid (by simp);clear hpf2 hp1 hl1 hs1;generalize (pr.map (·.2)).foldl D7 ⟨#[47]⟩=dd at *;obtain⟨yi,yn⟩:=y;simp only at hs2 HF;have t1:=e1.cell;have t2:=e1.frozen
        gi_wp2_with fail
        refine Dw ((CallsIn.inRound l2 (CallsIn.inRound l (callsIn_wide.2 (UB dd yn X hs3 (by omega))))).mono ?_);rintro e X' ⟨rfl,rfl⟩
        gi_wp2
        have:=HB.out;have hgl:=HGL.out;have z9:=HZ9.out;have z6:=HZ6.out;have zz:=HZ.out;refine⟨MV (KeepsFrom.refl _ _) (by omega) _,⟨Below.heap_setCell _ _ _ _ (by show W.heap.size+1≠W.heap.size;omega),Below.heap_setCell _ _ _ _ (by show g≠W.heap.size;omega)⟩,by rw[HF.out];exact e1.set _,e2.other (by omega) _,e3.other (by omega) _,?_,e5.setCell (by show w.heap.size≤W.heap.size;omega) _⟩;refine⟨Nat.le_trans e4.size (by simp),fun k o hk hko hc=>?_⟩;have:=Bw hko;exact(Below.heap_setCell _ _ _ _ (by show k≠W.heap.size;omega)).trans (e4.same k o hk hko hc)
       case done2=>
        rintro xs X hS ⟨e1,e2,e3,e4,e5⟩;rw[hS]at e1;change Boxed X W.heap.size 9 (.string (GZ s pre))at e1;have t1:=e1.cell;have t2:=e1.frozen;have t3:=e2.cell;have t4:=e2.frozen;have t5:=e3.cell;have t6:=e3.frozen;clear hS
        gi_wp2_with fail
        have z9:=HZ9.out;have z6:=HZ6.out;have zz:=HZ.out;refine⟨MV (MV e4 (by omega) _) (by omega) _,rfl,?_,(Boxed.other e3 (by omega) _).set _,by simp,(e5.setCell (by show w.heap.size≤w.heap.size+1+1;omega) _).setCell (by show w.heap.size≤w.heap.size+1+1+1;omega) _⟩;rw[Zq HN.out];exact Boxed.other (e2.set _) (by omega) _
       case stop2=>
        intro c pr X _ hf;exact hf.elim
      by_cases hi:xi=1
      ·subst hi;have hd:xd≠0:=fun e=>hx (by rw[e])
       gi_wp2_with fail
       have z9:=HZ9.out;have z6:=HZ6.out;have zz:=HZ.out
       exact⟨KD (Below.refl _ _),MX (Below.refl _ _) (by omega) (by omega) (by omega),c1,cP,cE,⟨v,cN,by rw[UD,if_pos rfl];exact hrow⟩,by
        intro hm;rcases List.mem_append.1 hm with hm|hm
        ·exact HN.out hm
        exact hx (List.mem_singleton.1 hm).symm,hbw⟩
      gi_wp2_with fail
      have hbd:Below W.heap.size W W.drew:=(Below.refl _ _).drew;have d1:W.drew.heap[w.heap.size]?=some (.cells #[ds,ms] 30):=c1;have dX:W.drew.heap[W0.heap.size]?=some (.cells #[.int .i64 xd, .int .i64 xi] 33):=cX;have dN:Boxed W.drew W6.heap.size 68 v:=cN;have dP:Boxed W.drew (w.heap.size+1+1) 9 (.string ⟨#[]⟩):=cP;have dE:Boxed W.drew (w.heap.size+1+1+1) 4 (.bool false):=cE;have drow:W.drew.ownsRow W9.heap.size 9 1 v (Cn s pre).length ((Cn s pre).map Value.string):=hrow;refine Zr (by kernel_rfl) 7 rfl ?_;intro ops hops;have HO:=Lib.hid hops;clear hops;have hszD:W.drew.heap.size=W.heap.size:=rfl;have hszO:=hszW;rw[←hszD]at hszW;have hbW:=hbd;clear a1 b1 aX bX aP bP aE bE aN bN c1 cX cN cP cE hrow hszD hrl hbd;generalize W.drew=W1 at *;obtain⟨a1,b1⟩:=C0 d1;obtain⟨aX,bX⟩:=C0 dX;have aN:=dN.cell;have bN:=dN.frozen;have hB1:Below w.heap.size w W1:=hbw.trans (hbW.mono hbw.size)
      have hcall:∀X,Below w.heap.size w X→Calls prog 163 #[.agg #[ds,ms], .agg #[.int .i64 xd, .int .i64 xi]] X fun e w'=>e= .returned (.string (C9 s (xd,xi)))∧Below X.heap.size X w':=by
       intro X hX;have hSX:=h.below hX (Av _);refine(MW (Zh s (xd,xi) hs) (vs:=[.agg #[ds,ms], .agg #[.int .i64 xd, .int .i64 xi]]) hSX.1 (U0 hSX hs (xd,xi))).mono ?_;rintro e w' ⟨u,G',rfl,hr,hb⟩;simp only[rep]at hr;exact⟨by rw[hr],hb⟩
      have tail:∀w2:World,Below W1.heap.size W1 w2→(w2.alloc (.cells #[.string (C9 s (xd,xi))] 9)).cell? ⟨W6.heap.size,0,none⟩=some v→
          wpAnyIn (Fence.wide.inRound l) (n - 1 - 1) prog .any ops (Exit.inBlock 2 (Exit.inBlock 1 (ownPostG W9.heap.size (KeepC w.heap.size W7.heap.size (W7.heap.size+1))
           (fun pre W=>W.heap[w.heap.size]?=some (.cells #[ds,ms] 30)∧Boxed W (w.heap.size+1+1) 9 (.string ⟨#[]⟩)∧Boxed W (w.heap.size+1+1+1) 4 (.bool false)∧(∃v,Boxed W W6.heap.size 68 v∧W.ownsRow W9.heap.size 9 1 v (Cn s pre).length ((Cn s pre).map Value.string))∧(0,1)∉pre∧Below w.heap.size w W)
           (fun c pre W=>c= .ret∧Boxed W (w.heap.size+1+1) 9 (.string (GZ s (pre.takeWhile fun x:A9=>decide (x≠(0,1)))))∧Boxed W (w.heap.size+1+1+1) 4 (.bool true)∧(0,1)∈pre∧Below w.heap.size w W)
           (pre++[(xd,xi)]) W))) 2 #[true,true,true,true,true,false,false]
           {tmps:=#[.agg #[ds,ms], .agg #[.int .i64 dir.1, .int .i64 dir.2], .pointer (some ⟨w.heap.size,0,none⟩), .pointer (some ⟨w.heap.size+1,0,none⟩), .pointer (some ⟨w.heap.size+1+1,0,none⟩), .pointer (some ⟨w.heap.size+1+1+1,0,none⟩), .pointer (some ⟨W6.heap.size,0,none⟩), .pointer (some ⟨W0.heap.size,0,none⟩),undef,undef,undef, .agg #[ds,ms], .agg #[.int .i64 dir.1, .int .i64 dir.2], .bool true, .bool false, .bool false, .agg #[ds,ms], .pointer (some ⟨w.heap.size+1,0,none⟩), .int .i64 dir.1, .bool true, .bool false, .bool false, .agg #[ds,ms], .agg #[.int .i64 dir.1, .int .i64 dir.2], .func (.func 115) #[] #[.pointer (some ⟨W7.heap.size,0,none⟩), .pointer (some ⟨W7.heap.size+1,0,none⟩)], .agg #[.int .i64 xd, .int .i64 xi], .bool false, .agg #[.int .i64 xd, .int .i64 xi], .agg #[.int .i64 0, .int .i64 1], .bool false,undef,undef,undef,undef,undef,undef,undef,undef, .bool true, .pointer (some ⟨W0.heap.size,1,none⟩), .int .i64 xi, .bool true,v, .agg #[ds,ms], .agg #[.int .i64 xd, .int .i64 xi], .string (C9 s (xd,xi)), .slice (some ⟨w2.heap.size,0,none⟩) 1 1,undef],defers:=[]} (w2.alloc (.cells #[.string (C9 s (xd,xi))] 9)):=by
       intro w2 hb2 hcN;have z9:=HZ9.out;have z6:=HZ6.out;have zz:=HZ.out;have hw2:=hb2.size;have hw1:=hbW.size;have drow2:w2.ownsRow W9.heap.size 9 1 v (Cn s pre).length ((Cn s pre).map Value.string):=World.ownsRow.kept drow (Lt hb2 none) (by cases v.ownBlock<;>simp);have dN2:Boxed w2 W6.heap.size 68 v:=Ba dN hb2 (Bw dN)
       have hlen:(Cn s pre).length+1≤100000:=by
        have h1:=UE s pre;have h2:=HPF.out.length_le;have h3:=Qb s (Bd s.files) dir;simp only[List.length_append]at h2;omega
       have hmx:(Cn s pre).length+1≤maxLen:=by unfold maxLen;omega
       have HZ2:Hid (W9.heap.size≤w2.heap.size):=Lib.hid (by omega);have HZB:Hid (W6.heap.size<W9.heap.size):=Lib.hid (by omega);clear z9 z6 zz hw2 hw1;refine Cz (rs:=[5]) (by rw[HO.out];kernel_rfl) (by simp) ?_;intro i hi';obtain rfl:=List.mem_singleton.1 hi';refine CO HO.out rfl fun K hK=>?_;refine wpListIn_append_own _ rfl _ _ 68 rfl W9.heap.size 9 i0 (.string ⟨#[]⟩) 1 16 Tryz.underlying68 hi0 hz0 hz1 hz2 rfl (by decide) _ _ _ rfl (drow2.alloc _) ⟨w2.heap.size,0,none⟩ 1 1 [.string (C9 s (xd,xi))] rfl rfl (cell_one_new _ _ _) (by simp[Value.oneCell']) (by omega) (by omega) (by have:=HZ2.out;simp;omega) ?_;intro v' w4 hown' hgrow _;obtain⟨g',cap',rfl⟩:=ownsRow_succ hown';obtain⟨hv1,hv2,hr2,hk2,hb4,hj2,ht2⟩:=Zs dN2 drow2 HZ2.out HZB.out hown' hgrow;have hc1:=hv1.cell;have hf1:=hv1.frozen
       gi_wp2
       refine Cz (rs:=[6]) (by rw[HO.out];kernel_rfl) (by simp) ?_;intro i hi';obtain rfl:=List.mem_singleton.1 hi';refine CO HO.out rfl fun K hK=>?_
       gi_wp2
       refine⟨by rw[HO.out];kernel_rfl,?_⟩;have z9:=HZ9.out;have z6:=HZ6.out;have zz:=HZ.out;have hw2:=hb2.size;have hw1:=hbW.size;have hb02:Below W.heap.size W w2:=hbW.trans (hb2.mono hw1);have e1:=(hj2 w.heap.size (by omega) (by omega)).trans (Ba d1 hb2 (Bw d1));have eP:Boxed _ (w.heap.size+1+1) 9 (.string ⟨#[]⟩):=(hj2 (w.heap.size+1+1) (by omega) (by omega)).trans (Ba dP hb2 (Bw dP));have eE:Boxed _ (w.heap.size+1+1+1) 4 (.bool false):=(hj2 (w.heap.size+1+1+1) (by omega) (by omega)).trans (Ba dE hb2 (Bw dE));refine⟨(KD hb02).trans (hk2.from _),(MX hb02 (by omega) (by omega) (by omega)).trans ⟨hk2.size,hj2 _ (by omega) (by omega),hj2 _ (by omega) (by omega),fun b hb=>hj2 b (by omega) (by omega),fun b cs hb=>ht2 b cs _ (by decide) (by decide) hb⟩,e1,eP,eE,⟨_,hv2,?_⟩,?_,(hB1.trans (hb2.mono hB1.size)).trans (hb4.mono (by omega))⟩
       ·rw[UD,if_neg (show¬(xd,xi).2=1 from hi),List.length_append,List.map_append];exact hr2
       intro hm;rcases List.mem_append.1 hm with hm|hm
       ·exact HN.out hm
       exact hx (List.mem_singleton.1 hm).symm
      refine Cz (rs:=[0,1,2]) (by rw[HO.out];kernel_rfl) (by simp) ?_;intro i hi;simp only[List.mem_cons,List.not_mem_nil,or_false]at hi;rcases hi with rfl|rfl|rfl
      ·skip
       refine CO HO.out rfl fun K hK=>?_
       gi_wp2
       refine Cz (rs:=[1,2]) (by rw[HO.out];kernel_rfl) (by simp) ?_;intro i hi;simp only[List.mem_cons,List.not_mem_nil,or_false]at hi;rcases hi with rfl|rfl
       ·skip
        refine CO HO.out rfl fun K hK=>?_
        gi_wp2
        refine Cz (rs:=[2]) (by rw[HO.out];kernel_rfl) (by simp) ?_;intro i hi;obtain rfl:=List.mem_singleton.1 hi;refine CO HO.out rfl fun K hK=>?_
        gi_wp2
        refine Cz (rs:=[3]) (by rw[HO.out];kernel_rfl) (by simp) ?_;intro i hi;obtain rfl:=List.mem_singleton.1 hi;refine CO HO.out rfl fun K hK=>?_
        gi_wp2_with fail
        refine Dw ((CallsIn.inRound l (callsIn_wide.2 (hcall _ hB1))).mono ?_);rintro e w2 ⟨rfl,hb2⟩;have n1:=Ba d1 hb2 (Bw d1);have nX:=Ba dX hb2 (Bw dX);have nN:Boxed w2 W6.heap.size 68 v:=Ba dN hb2 (Bw dN);clear a1 b1 aX bX aN bN;obtain⟨a1,b1⟩:=C0 n1;obtain⟨aX,bX⟩:=C0 nX;have aN:=nN.cell;have bN:=nN.frozen
        gi_wp2
        refine Cz (rs:=[4]) (by rw[HO.out];kernel_rfl) (by simp) ?_;intro i hi;obtain rfl:=List.mem_singleton.1 hi;refine CO HO.out rfl fun K hK=>?_;have nN3:Boxed (w2.alloc (.cells #[.string (C9 s (xd,xi))] 9)) W6.heap.size 68 v:=Cj nN _;have hc2:(w2.alloc (.cells #[.string (C9 s (xd,xi))] 9)).cell? ⟨W6.heap.size,0,none⟩=some v:=nN3.cell
        gi_wp2
        exact tail w2 hb2 hc2
       skip
       refine CO HO.out rfl fun K hK=>?_
       gi_wp2
       refine Cz (rs:=[1]) (by rw[HO.out];kernel_rfl) (by simp) ?_;intro i hi;obtain rfl:=List.mem_singleton.1 hi;refine CO HO.out rfl fun K hK=>?_
       gi_wp2
       refine Cz (rs:=[3]) (by rw[HO.out];kernel_rfl) (by simp) ?_;intro i hi;obtain rfl:=List.mem_singleton.1 hi;refine CO HO.out rfl fun K hK=>?_
       gi_wp2_with fail
       refine Dw ((CallsIn.inRound l (callsIn_wide.2 (hcall _ hB1))).mono ?_);rintro e w2 ⟨rfl,hb2⟩;have n1:=Ba d1 hb2 (Bw d1);have nX:=Ba dX hb2 (Bw dX);have nN:Boxed w2 W6.heap.size 68 v:=Ba dN hb2 (Bw dN);clear a1 b1 aX bX aN bN;obtain⟨a1,b1⟩:=C0 n1;obtain⟨aX,bX⟩:=C0 nX;have aN:=nN.cell;have bN:=nN.frozen
       gi_wp2
       refine Cz (rs:=[4]) (by rw[HO.out];kernel_rfl) (by simp) ?_;intro i hi;obtain rfl:=List.mem_singleton.1 hi;refine CO HO.out rfl fun K hK=>?_;have nN3:Boxed (w2.alloc (.cells #[.string (C9 s (xd,xi))] 9)) W6.heap.size 68 v:=Cj nN _;have hc2:(w2.alloc (.cells #[.string (C9 s (xd,xi))] 9)).cell? ⟨W6.heap.size,0,none⟩=some v:=nN3.cell
       gi_wp2
       exact tail w2 hb2 hc2
      ·skip
       refine CO HO.out rfl fun K hK=>?_
       gi_wp2
       refine Cz (rs:=[0,2]) (by rw[HO.out];kernel_rfl) (by simp) ?_;intro i hi;simp only[List.mem_cons,List.not_mem_nil,or_false]at hi;rcases hi with rfl|rfl
       ·skip
        refine CO HO.out rfl fun K hK=>?_
        gi_wp2
        refine Cz (rs:=[2]) (by rw[HO.out];kernel_rfl) (by simp) ?_;intro i hi;obtain rfl:=List.mem_singleton.1 hi;refine CO HO.out rfl fun K hK=>?_
        gi_wp2
        refine Cz (rs:=[3]) (by rw[HO.out];kernel_rfl) (by simp) ?_;intro i hi;obtain rfl:=List.mem_singleton.1 hi;refine CO HO.out rfl fun K hK=>?_
        gi_wp2_with fail
        refine Dw ((CallsIn.inRound l (callsIn_wide.2 (hcall _ hB1))).mono ?_);rintro e w2 ⟨rfl,hb2⟩;have n1:=Ba d1 hb2 (Bw d1);have nX:=Ba dX hb2 (Bw dX);have nN:Boxed w2 W6.heap.size 68 v:=Ba dN hb2 (Bw dN);clear a1 b1 aX bX aN bN;obtain⟨a1,b1⟩:=C0 n1;obtain⟨aX,bX⟩:=C0 nX;have aN:=nN.cell;have bN:=nN.frozen
        gi_wp2
        refine Cz (rs:=[4]) (by rw[HO.out];kernel_rfl) (by simp) ?_;intro i hi;obtain rfl:=List.mem_singleton.1 hi;refine CO HO.out rfl fun K hK=>?_;have nN3:Boxed (w2.alloc (.cells #[.string (C9 s (xd,xi))] 9)) W6.heap.size 68 v:=Cj nN _;have hc2:(w2.alloc (.cells #[.string (C9 s (xd,xi))] 9)).cell? ⟨W6.heap.size,0,none⟩=some v:=nN3.cell
        gi_wp2
        exact tail w2 hb2 hc2
       skip
       refine CO HO.out rfl fun K hK=>?_
       gi_wp2
       refine Cz (rs:=[0,3]) (by rw[HO.out];kernel_rfl) (by simp) ?_;intro i hi;simp only[List.mem_cons,List.not_mem_nil,or_false]at hi;rcases hi with rfl|rfl
       ·skip
        refine CO HO.out rfl fun K hK=>?_
        gi_wp2
        refine Cz (rs:=[3]) (by rw[HO.out];kernel_rfl) (by simp) ?_;intro i hi;obtain rfl:=List.mem_singleton.1 hi;refine CO HO.out rfl fun K hK=>?_
        gi_wp2_with fail
        refine Dw ((CallsIn.inRound l (callsIn_wide.2 (hcall _ hB1))).mono ?_);rintro e w2 ⟨rfl,hb2⟩;have n1:=Ba d1 hb2 (Bw d1);have nX:=Ba dX hb2 (Bw dX);have nN:Boxed w2 W6.heap.size 68 v:=Ba dN hb2 (Bw dN);clear a1 b1 aX bX aN bN;obtain⟨a1,b1⟩:=C0 n1;obtain⟨aX,bX⟩:=C0 nX;have aN:=nN.cell;have bN:=nN.frozen
        gi_wp2
        refine Cz (rs:=[4]) (by rw[HO.out];kernel_rfl) (by simp) ?_;intro i hi;obtain rfl:=List.mem_singleton.1 hi;refine CO HO.out rfl fun K hK=>?_;have nN3:Boxed (w2.alloc (.cells #[.string (C9 s (xd,xi))] 9)) W6.heap.size 68 v:=Cj nN _;have hc2:(w2.alloc (.cells #[.string (C9 s (xd,xi))] 9)).cell? ⟨W6.heap.size,0,none⟩=some v:=nN3.cell
        gi_wp2
        exact tail w2 hb2 hc2
       skip
       refine CO HO.out rfl fun K hK=>?_
       gi_wp2_with fail
       refine Dw ((CallsIn.inRound l (callsIn_wide.2 (hcall _ hB1))).mono ?_);rintro e w2 ⟨rfl,hb2⟩;have n1:=Ba d1 hb2 (Bw d1);have nX:=Ba dX hb2 (Bw dX);have nN:Boxed w2 W6.heap.size 68 v:=Ba dN hb2 (Bw dN);clear a1 b1 aX bX aN bN;obtain⟨a1,b1⟩:=C0 n1;obtain⟨aX,bX⟩:=C0 nX;have aN:=nN.cell;have bN:=nN.frozen
       gi_wp2
       refine Cz (rs:=[0,4]) (by rw[HO.out];kernel_rfl) (by simp) ?_;intro i hi;simp only[List.mem_cons,List.not_mem_nil,or_false]at hi;rcases hi with rfl|rfl
       ·skip
        refine CO HO.out rfl fun K hK=>?_
        gi_wp2
        refine Cz (rs:=[4]) (by rw[HO.out];kernel_rfl) (by simp) ?_;intro i hi;obtain rfl:=List.mem_singleton.1 hi;refine CO HO.out rfl fun K hK=>?_;have nN3:Boxed (w2.alloc (.cells #[.string (C9 s (xd,xi))] 9)) W6.heap.size 68 v:=Cj nN _;have hc2:(w2.alloc (.cells #[.string (C9 s (xd,xi))] 9)).cell? ⟨W6.heap.size,0,none⟩=some v:=nN3.cell
        gi_wp2
        exact tail w2 hb2 hc2
       skip
       refine CO HO.out rfl fun K hK=>?_;have nN3:Boxed (w2.alloc (.cells #[.string (C9 s (xd,xi))] 9)) W6.heap.size 68 v:=Cj nN _;have hc2:(w2.alloc (.cells #[.string (C9 s (xd,xi))] 9)).cell? ⟨W6.heap.size,0,none⟩=some v:=nN3.cell
       gi_wp2
       refine Cz (rs:=[0]) (by rw[HO.out];kernel_rfl) (by simp) ?_;intro i hi;obtain rfl:=List.mem_singleton.1 hi;refine CO HO.out rfl fun K hK=>?_
       gi_wp2
       exact tail w2 hb2 hc2
      skip
      refine CO HO.out rfl fun K hK=>?_
      gi_wp2
      refine Cz (rs:=[0,1]) (by rw[HO.out];kernel_rfl) (by simp) ?_;intro i hi;simp only[List.mem_cons,List.not_mem_nil,or_false]at hi;rcases hi with rfl|rfl
      ·skip
       refine CO HO.out rfl fun K hK=>?_
       gi_wp2
       refine Cz (rs:=[1]) (by rw[HO.out];kernel_rfl) (by simp) ?_;intro i hi;obtain rfl:=List.mem_singleton.1 hi;refine CO HO.out rfl fun K hK=>?_
       gi_wp2
       refine Cz (rs:=[3]) (by rw[HO.out];kernel_rfl) (by simp) ?_;intro i hi;obtain rfl:=List.mem_singleton.1 hi;refine CO HO.out rfl fun K hK=>?_
       gi_wp2_with fail
       refine Dw ((CallsIn.inRound l (callsIn_wide.2 (hcall _ hB1))).mono ?_);rintro e w2 ⟨rfl,hb2⟩;have n1:=Ba d1 hb2 (Bw d1);have nX:=Ba dX hb2 (Bw dX);have nN:Boxed w2 W6.heap.size 68 v:=Ba dN hb2 (Bw dN);clear a1 b1 aX bX aN bN;obtain⟨a1,b1⟩:=C0 n1;obtain⟨aX,bX⟩:=C0 nX;have aN:=nN.cell;have bN:=nN.frozen
       gi_wp2
       refine Cz (rs:=[4]) (by rw[HO.out];kernel_rfl) (by simp) ?_;intro i hi;obtain rfl:=List.mem_singleton.1 hi;refine CO HO.out rfl fun K hK=>?_;have nN3:Boxed (w2.alloc (.cells #[.string (C9 s (xd,xi))] 9)) W6.heap.size 68 v:=Cj nN _;have hc2:(w2.alloc (.cells #[.string (C9 s (xd,xi))] 9)).cell? ⟨W6.heap.size,0,none⟩=some v:=nN3.cell
       gi_wp2
       exact tail w2 hb2 hc2
      skip
      refine CO HO.out rfl fun K hK=>?_
      gi_wp2
      refine Cz (rs:=[0,3]) (by rw[HO.out];kernel_rfl) (by simp) ?_;intro i hi;simp only[List.mem_cons,List.not_mem_nil,or_false]at hi;rcases hi with rfl|rfl
      ·skip
       refine CO HO.out rfl fun K hK=>?_
       gi_wp2
       refine Cz (rs:=[3]) (by rw[HO.out];kernel_rfl) (by simp) ?_;intro i hi;obtain rfl:=List.mem_singleton.1 hi;refine CO HO.out rfl fun K hK=>?_
       gi_wp2_with fail
       refine Dw ((CallsIn.inRound l (callsIn_wide.2 (hcall _ hB1))).mono ?_);rintro e w2 ⟨rfl,hb2⟩;have n1:=Ba d1 hb2 (Bw d1);have nX:=Ba dX hb2 (Bw dX);have nN:Boxed w2 W6.heap.size 68 v:=Ba dN hb2 (Bw dN);clear a1 b1 aX bX aN bN;obtain⟨a1,b1⟩:=C0 n1;obtain⟨aX,bX⟩:=C0 nX;have aN:=nN.cell;have bN:=nN.frozen
       gi_wp2
       refine Cz (rs:=[4]) (by rw[HO.out];kernel_rfl) (by simp) ?_;intro i hi;obtain rfl:=List.mem_singleton.1 hi;refine CO HO.out rfl fun K hK=>?_;have nN3:Boxed (w2.alloc (.cells #[.string (C9 s (xd,xi))] 9)) W6.heap.size 68 v:=Cj nN _;have hc2:(w2.alloc (.cells #[.string (C9 s (xd,xi))] 9)).cell? ⟨W6.heap.size,0,none⟩=some v:=nN3.cell
       gi_wp2
       exact tail w2 hb2 hc2
      skip
      refine CO HO.out rfl fun K hK=>?_
      gi_wp2_with fail
      refine Dw ((CallsIn.inRound l (callsIn_wide.2 (hcall _ hB1))).mono ?_);rintro e w2 ⟨rfl,hb2⟩;have n1:=Ba d1 hb2 (Bw d1);have nX:=Ba dX hb2 (Bw dX);have nN:Boxed w2 W6.heap.size 68 v:=Ba dN hb2 (Bw dN);clear a1 b1 aX bX aN bN;obtain⟨a1,b1⟩:=C0 n1;obtain⟨aX,bX⟩:=C0 nX;have aN:=nN.cell;have bN:=nN.frozen
      gi_wp2
      refine Cz (rs:=[0,4]) (by rw[HO.out];kernel_rfl) (by simp) ?_;intro i hi;simp only[List.mem_cons,List.not_mem_nil,or_false]at hi;rcases hi with rfl|rfl
      ·skip
       refine CO HO.out rfl fun K hK=>?_
       gi_wp2
       refine Cz (rs:=[4]) (by rw[HO.out];kernel_rfl) (by simp) ?_;intro i hi;obtain rfl:=List.mem_singleton.1 hi;refine CO HO.out rfl fun K hK=>?_;have nN3:Boxed (w2.alloc (.cells #[.string (C9 s (xd,xi))] 9)) W6.heap.size 68 v:=Cj nN _;have hc2:(w2.alloc (.cells #[.string (C9 s (xd,xi))] 9)).cell? ⟨W6.heap.size,0,none⟩=some v:=nN3.cell
       gi_wp2
       exact tail w2 hb2 hc2
      skip
      refine CO HO.out rfl fun K hK=>?_;have nN3:Boxed (w2.alloc (.cells #[.string (C9 s (xd,xi))] 9)) W6.heap.size 68 v:=Cj nN _;have hc2:(w2.alloc (.cells #[.string (C9 s (xd,xi))] 9)).cell? ⟨W6.heap.size,0,none⟩=some v:=nN3.cell
      gi_wp2
      refine Cz (rs:=[0]) (by rw[HO.out];kernel_rfl) (by simp) ?_;intro i hi;obtain rfl:=List.mem_singleton.1 hi;refine CO HO.out rfl fun K hK=>?_
      gi_wp2
      exact tail w2 hb2 hc2
     case done=>
      rintro D xs W hD hS ⟨c1,cP,cE,_,hnm,hbw⟩ hK;have HS:=Lib.hid hS;have HN:=Lib.hid hnm;clear hS hnm;have aP:=cP.cell;have bP:=cP.frozen;have aE:=cE.cell;have bE:=cE.frozen
      gi_wp2
      have z6:=HZ6.out;have z9:=HZ9.out;have cP2:=Boxed.other (cP.set (.string ⟨#[]⟩)) (show w.heap.size+1+1≠w.heap.size+1+1+1 by omega) (.bool false);have cE2:=(Boxed.other cE (show w.heap.size+1+1+1≠w.heap.size+1+1 by omega) (.string ⟨#[]⟩)).set (.bool false);have hB2:=(hbw.setCell (p:=⟨w.heap.size+1+1,0,none⟩) (by show w.heap.size≤w.heap.size+1+1;omega) (.string ⟨#[]⟩)).setCell (p:=⟨w.heap.size+1+1+1,0,none⟩) (by show w.heap.size≤w.heap.size+1+1+1;omega) (.bool false);have hK2:=(KeepsOthers.setCell _ ⟨w.heap.size+1+1+1,0,none⟩ (.bool false)).same D _ ((KeepsOthers.setCell _ ⟨w.heap.size+1+1,0,none⟩ (.string ⟨#[]⟩)).same D _ hK rfl) rfl;refine⟨by simp, .inl ⟨_,_,rfl,run_takeDeferred hK2,?_⟩⟩;have hP:=(Hu cP2 (show w.heap.size+1+1≠D by omega) (.deferred none)).cell;have hE:=(Hu cE2 (show w.heap.size+1+1+1≠D by omega) (.deferred none)).cell;refine⟨.tuple #[.string ⟨#[]⟩, .bool false],by simp[results,Tryz.f125,go_sem,hP,hE],by rw[HW.out,if_neg (by rw[←HS.out];exact HN.out)],KE hB2 (by omega) _⟩
     case stop=>
      rintro D c pre W hD hSp ⟨rfl,cP,cE,hnm,hbw⟩ hK;have HS:=Lib.hid hSp;have HN:=Lib.hid hnm;clear hSp hnm;have aP:=cP.cell;have aE:=cE.cell
      gi_wp2
      have z6:=HZ6.out;have z9:=HZ9.out;refine⟨by simp, .inl ⟨_,_,rfl,run_takeDeferred hK,?_⟩⟩;have hP:=(Hu cP (show w.heap.size+1+1≠D by omega) (.deferred none)).cell;have hE:=(Hu cE (show w.heap.size+1+1+1≠D by omega) (.deferred none)).cell;refine⟨.tuple #[.string (GZ s (pre.takeWhile fun x:A9=>decide (x≠(0,1)))), .bool true],by simp[results,Tryz.f125,go_sem,hP,hE],by rw[HW.out,if_pos (HS.out.subset HN.out),Zp HS.out HN.out],KE hbw (by omega) _⟩
end Go.Proofs.YtobclmbkdhbnpaaGreatDoor
namespace Go.Proofs.YtobclmbkdhbnpaaGreatDoor
open Go.RowKit Go.Shelf
attribute [local go_sem] Oper.semAt_some
def Qc(s:Spc)(dir x:A9):Bool:=match C3 s x with
 |none=>true
 |some d=>decide (∃y∈BT s (Bd s.files) dir,y.1=d)
def ED(s:Spc)(dir:A9):Bool:=(Bk s dir).2&&(BT s (Bd s.files) dir).all (Qc s dir)
end Go.Proofs.YtobclmbkdhbnpaaGreatDoor
namespace Go.Proofs.YtobclmbkdhbnpaaGreatDoor
open Go.RowKit
theorem UF{P:Program}{f:FuncId}{s:Spc}{xs:List AV}{us:List Value}{z:Value}{R:AV}(hx:∀(G:Gh) (w:World) (vs:List Value),AY G w xs vs→vs=us)(hR:∀(G:Gh) (w:World),rep G w R z)
    (h:∀(w:World) (ds ms:Value),SpcIn s w.heap.size w ds ms→Calls P f (.agg #[ds,ms]::us).toArray w fun e w'=>e= .returned z∧Below w.heap.size w w'):AFn P f (.agg (Ar s)::xs) (fun r=>r=R):=by
 intro w St bl vs hr hv;simp only[AY]at hv;obtain⟨z0,zs,rfl,h1,h2⟩:=hv;obtain rfl:=hx _ _ _ h2;simp only[rep,Ar,AY]at h1;obtain⟨ys,rfl,ds,_,rfl,h3,ms,_,rfl,h4,rfl⟩:=h1
 have hs:SpcIn s w.heap.size w ds ms:=by
  refine⟨Av _,?_⟩;refine KP (St:=St) (fun b o hb=>⟨hr.stlt b o hb,rfl⟩) _ _ ?_;simp only[Ar,Bc];exact⟨_,_,rfl,h3,_,_,rfl,h4,rfl⟩
 refine(h w ds ms hs).mono ?_;rintro e w' ⟨rfl,hb⟩;obtain⟨k1,k2⟩:=hr.below hb;exact⟨_,_,_,_,⟨rfl,rfl,rfl⟩,k1,k2,hR _ _⟩
theorem Zu{G:Gh}{w:World}{a:A9}{vs:List Value}(h:AY G w [.agg (AB a)] vs):vs=[DW a]:=by
 simp only[AY,rep,AB]at h;obtain⟨_,_,rfl,⟨_,rfl,_,_,rfl,rfl,_,_,rfl,rfl,rfl⟩,rfl⟩:=h;rfl
structure SpcN(s:Spc):Prop where
 b:SpcB s
 nm:∀x,(C9 s x).size≤100
 most:Bd s.files≤5000
section
variable {s:Spc}(hs:SpcN s)
include hs
theorem Qd(a:A9):AFn prog 125 [.agg (Ar s), .agg (AB a)] (fun r=>r= .tup [.v (.string (Bk s a).1), .v (.bool (Bk s a).2)]):=
 UF (us:=[DW a]) (z:= .tuple #[.string (Bk s a).1, .bool (Bk s a).2]) (fun _ _ _ h=>Zu h) (fun G w=>by simp only[rep,AY];exact⟨[_,_],rfl,_,_,rfl,rfl,_,_,rfl,rfl,rfl⟩)
  fun w ds ms h=>callsIn_wide.1 (Zt 4 (Lib.hid (Av _)) s hs.b hs.nm hs.most a ds ms w h)
end
theorem Zv(s:Spc)(hs:SpcB s)(a b:A9):AFn prog 48 [.agg (Ar s), .agg (AB a), .agg (AB b)] (fun r=>r= .v (.bool (decide (a∈BT s (Bd s.files) b)))):=
 UF (us:=[DW a,DW b]) (z:= .bool (decide (a∈BT s (Bd s.files) b))) (fun G w vs h=>by
  simp only[AY,rep,AB]at h;obtain⟨_,_,rfl,⟨_,rfl,_,_,rfl,rfl,_,_,rfl,rfl,rfl⟩,_,_,rfl,⟨_,rfl,_,_,rfl,rfl,_,_,rfl,rfl,rfl⟩,rfl⟩:=h
  rfl) (fun G w=>by simp only[rep])
  fun w ds ms h=>callsIn_wide.1 (Zg 4 (Lib.hid (by omega)) s hs a b ds ms w h)
theorem Zw{f:AT}{a:A9}(h:Cc f a=true):∃d∈f,AZ f a∈d.nodes:=by
 obtain⟨q,i,d,m,_,h2,h3,_,_,h6⟩:=K5 h;exact⟨d,Aj h2,by rw[h6];exact Aj h3⟩
theorem UG{x:AE}(h:D4 x=true):x.size≤12:=by
 rw[JK]at h;by_cases hc:x.size<1∨12<x.size
 ·rw[if_pos hc]at h;cases h
 omega
theorem Qe{s:Spc}(h:FlsV s.files)(x:A9):(C9 s x).size≤12:=by
 unfold C9
 cases hf:(Ew s x).entries.find? fun e:B1=>decide (e.2=x.2)with
 |none=>exact BJ _
 |some e=>
   have hm:=List.mem_of_find?_eq_some hf;unfold Ew at hm;by_cases hh:Cc s.files (x.1,(AZ s.files x).parent)=true
   ·obtain⟨d,hd,hn⟩:=Zw hh;exact UG ((h.vd d hd).ent _ hn e hm).1
   have:AZ s.files (x.1,(AZ s.files x).parent)=Nod.zero:=by
    unfold Cc at hh
    cases hq:Bo s.files (x.1,(AZ s.files x).parent)with
    |none=>show(Bo s.files (x.1,(AZ s.files x).parent)).getD Nod.zero=Nod.zero;rw[hq];rfl
    |some m=>rw[hq]at hh;exact absurd rfl hh
   rw[this]at hm;cases hm
theorem UH{f:AT}(h:FlsV f):Bd f≤48:=by
 have:∀(l:AT),(∀d∈l,d.nodes.length≤16)→Bd l≤l.length * 16:=by
  intro l
  induction l with
  |nil=>intro _;simp[Bd]
  |cons d l ih=>
    intro h;have h1:=ih fun d hd=>h d (List.mem_cons_of_mem _ hd);have h2:=h d (List.mem_cons_self ..);simp only[Bd,List.map_cons,List.sum_cons,List.length_cons]at h1 ⊢;omega
 have h1:=this f fun d hd=>(h.vd d hd).len;have h2:=h.few;omega
theorem SpcV.n{s:Spc}(h:SpcV s)(hm:s.mounts.length≤1000):SpcN s:=⟨⟨h.files.b,hm⟩,fun x=>by have:=Qe h.files x;omega,by have:=UH h.files;omega⟩
def Hv(w:World):Nat→Nat→Prop:=fun b _=>b<w.heap.size
def Opens(P:Program)(t:TypeId)(R:List AV→Prop):Prop:=
 ∀(H:Type) (enc:TypeId×Value→H) (w:World) (base:Nat) (spare:Nat→Bool) (held:Bool) (fuel:Nat) (cs:List Value) (x:DataW H×List MemPlace),DataW.trod enc P w base spare held fuel t cs=some x→
  ∃row,R row∧Bc (Hv w) w row cs∧∀u∈cs,u.oneCell'=true
section
variable {P:Program}{t:TypeId}
theorem Opens.mono{R R':List AV→Prop}(h:Opens P t R)(hR:∀r,R r→R' r):Opens P t R':=by
 intro H enc w base spare held fuel cs x hx;obtain⟨row,h1,h2⟩:=h H enc w base spare held fuel cs x hx;exact⟨row,hR _ h1,h2⟩
theorem Zx{k:IntKind}(ht:P.underlying t=some (.int k)):Opens P t fun r=>∃n,r=[.v (.int k n)]∧(Lit.int k n).wf=true:=by
 intro H enc w base spare held fuel cs x hx;obtain⟨b,rfl,_,hw⟩:=DataW.trod_int ht hx;exact⟨_,⟨b,rfl,hw⟩,⟨_,_,rfl,by simp only[Ak],by simp only[Bc]⟩,by simp[Value.oneCell']⟩
theorem Zy{w:World}{b o:Nat}{v:Value}(h:w.cell? ⟨b,o,none⟩=some v):b<w.heap.size:=by
 rcases Nat.lt_or_ge b w.heap.size with hlt|hge
 ·exact hlt
 simp[World.cell?,Array.getElem?_eq_none hge]at h
theorem Zz{St:Nat→Nat→Prop}{w:World}{xs:List AV}{ys:List Value}(h:Bc St w xs ys):ys.length=xs.length:=Fx (G:=⟨St,[],[]⟩) (J5 (G:=⟨St,[],[]⟩) _ _ h)
theorem aA{e:TypeId}{n:Nat}{R:List AV→Prop}(ht:P.underlying t=some (.slice e))(hc:P.cellsOf e=n)(hn:0<n)(h:Opens P e R):Opens P t fun r=>∃rows,r=[.sl n rows none]∧rows.length≤maxLen∧∀x∈rows,R x:=by
 intro H enc w base spare held fuel cs x hx;rcases DataW.trod_slice ht hx with⟨rfl,_⟩|⟨⟨b,off,spot⟩,len,cap,elems,rest,m,rfl,rfl,_,hb,hl,hm,hlen,hel,_,_⟩
 ·exact⟨_,⟨[],rfl,BJ _,by simp⟩,⟨_,_,rfl,by simp only[Ak];exact⟨trivial,none,0,rfl,Av _,BJ _, .inl trivial⟩,by simp only[Bc]⟩,by simp[Value.oneCell']⟩
 have each:∀i,i<len→∃row cs',R row∧row.length=n∧Bc (Hv w) w row cs'∧(∀u∈cs',u.oneCell'=true)∧cs'.length=n∧∀j,j<n→w.cell? (Addr.add ⟨b,off,spot⟩ (i * n+j))=cs'[j]?:=by
  intro i hi;have h1:=hel i hi;rw[hc,BM (by omega),Option.bind_eq_some_iff]at h1;obtain⟨cs',h2,h3⟩:=h1;obtain⟨row,r1,r2,r3⟩:=h _ _ _ _ _ _ _ _ _ h3;obtain⟨_,c1,c2⟩:=World.cells?_some h2;refine⟨row,cs',r1,by rw[←Zz r2,c1],r2,r3,c1,fun j hj=>?_⟩;have:=c2 j hj
  rwa [Addr.add_add]at this
 have hrows:∃rows:List (List AV),rows.length=len∧(∀i,i<len→∃row cs',rows[i]?=some row∧R row∧row.length=n∧Bc (Hv w) w row cs'∧(∀u∈cs',u.oneCell'=true)∧cs'.length=n∧∀j,j<n→w.cell? (Addr.add ⟨b,off,spot⟩ (i * n+j))=cs'[j]?):=by
  clear hel
  have:∀k,k≤len→∃rows:List (List AV),rows.length=k∧(∀i,i<k→∃row cs',rows[i]?=some row∧R row∧row.length=n∧Bc (Hv w) w row cs'∧(∀u∈cs',u.oneCell'=true)∧cs'.length=n∧∀j,j<n→w.cell? (Addr.add ⟨b,off,spot⟩ (i * n+j))=cs'[j]?):=by
   intro k
   induction k with
   |zero=>intro _;exact⟨[],rfl,fun i hi=>by omega⟩
   |succ k ih=>
     intro hk;obtain⟨rows,e1,e2⟩:=ih (by omega);obtain⟨row,cs',q⟩:=each k (by omega);refine⟨rows++[row],by simp[e1],fun i hi=>?_⟩;rcases Nat.lt_or_ge i k with hlt|hge
     ·obtain⟨row',cs'',q1,q2⟩:=e2 i hlt;exact⟨row',cs'',by rw[Ca (by omega)];exact q1,q2⟩
     obtain rfl:i=k:=by omega
     exact⟨row,cs',by rw[DP (by omega),e1];simp,q⟩
  exact this len (Av _)
 obtain⟨rows,e1,e2⟩:=hrows;refine⟨_,⟨rows,rfl,by omega,fun x hx=>?_⟩,⟨_,_,rfl,?_,by simp only[Bc]⟩,by simp[Value.oneCell']⟩
 ·obtain⟨i,hi⟩:=List.getElem?_of_mem hx;obtain⟨row,_,q1,q2,_⟩:=e2 i (by rw[←e1];exact(Ai.1 hi).1);rw[hi]at q1;injection q1 with q1;subst q1;exact q2
 simp only[Ak];refine⟨trivial,some ⟨b,off,spot⟩,cap,by rw[e1],by omega,hm,?_⟩;rcases Nat.eq_zero_or_pos len with h0|h0
 ·left;exact DE (by omega)
 right
 have hspot:spot=none:=by
  obtain⟨_,cs',_,_,_,_,_,c3,c4⟩:=e2 0 h0;have:=c4 0 hn;rw[BM (by omega)]at this
  simpa[Addr.add]using World.cell?_spot this
 subst hspot;refine⟨b,off,rfl,?_⟩
 have:∀(rs:List (List AV)) (k:Nat),(∀i r,rs[i]?=some r→rows[k+i]?=some r)→froR (Hv w) w b n rs (off+k * n):=by
  intro rs
  induction rs with
  |nil=>intro k _;simp only[froR]
  |cons r rs ih=>
    intro k hk;simp only[froR];have h1:=hk 0 r rfl;rw[Nat.add_zero]at h1;obtain⟨row,cs',q1,_,q3,q4,q5,q6,q7⟩:=e2 k (by rw[←e1];exact(Ai.1 h1).1);rw[h1]at q1;injection q1 with q1;subst q1;refine⟨⟨q3,KR fun i x hi=>?_⟩,?_⟩
    ·obtain⟨u,u1,u2⟩:=NE q4 hi;have hin:i<n:=by rw[←q3];exact(Ai.1 hi).1
     have hc:=q7 i hin;rw[u1]at hc;have hc':w.cell? ⟨b,off+k * n+i,none⟩=some u:=by rw[Addr.add_mid]at hc;rwa [Nat.add_assoc]
     exact⟨Zy hc',u,hc',q5 u (Aj u1),u2⟩
    have:=ih (k+1) (fun i r' hi=>by
     have:=hk (i+1) r' (by simpa using hi)
     rwa [show k+1+i=k+(i+1) by omega])
    rwa [show off+(k+1) * n=off+k * n+n by rw[Nat.add_mul];omega]at this
 simpa using this rows 0 (fun i r hi=>by simpa using hi)
theorem UJ{α:Type}{enc:α→List AV}{Q:α→Prop}:∀{rows:List (List AV)},(∀x∈rows,∃a,x=enc a∧Q a)→∃l:List α,rows=l.map enc∧∀a∈l,Q a
 |[],_=>⟨[],rfl,by simp⟩
 |r::rs,h=>by
   obtain⟨a,rfl,ha⟩:=h r (by simp);obtain⟨l,rfl,hl⟩:=UJ (rows:=rs) fun x hx=>h x (by simp[hx]);exact⟨a::l,rfl,by simpa using⟨ha,hl⟩⟩
theorem Opens.one{R:List AV→Prop}(h:Opens P t R){H:Type}{enc:TypeId×Value→H}{w:World}{base:Nat}{spare:Nat→Bool}{held:Bool}{v:Value}{d:DataW H}{ps:List MemPlace}(hv:v.cells=#[v])(hd:DataW.Trod enc P w base spare held t v d ps):
    ∃row,R row∧Bc (Hv w) w row [v]:=by
 obtain⟨fuel,hf⟩:=hd;rw[hv]at hf;obtain⟨row,h1,h2,_⟩:=h _ _ _ _ _ _ _ _ _ hf;exact⟨row,h1,h2⟩
end
theorem aB:Opens prog 22 (fun r=>∃l:List Int,r=[.sl 1 (l.map CB) none]):=
 (aA (n:=1) Tryz.underlying22 (by kernel_rfl) (by omega) (Zx Tryz.underlying3)).mono (by
   rintro r ⟨rows,rfl,_,hr⟩;obtain⟨l,rfl,_⟩:=UJ (enc:=CB) (Q:=fun _=>True) (fun x hx=>by obtain⟨t,rfl,_⟩:=hr x hx;exact⟨t,rfl,trivial⟩)
   exact⟨l,rfl⟩)
theorem aC{H:Type}{enc:TypeId×Value→H}{sp:Nat→Bool}{held:Bool}{base:Nat}{w:World}{a:Option Addr}{n c:Nat}{d:DataW H}{p:List MemPlace}(h:DataW.Trod enc prog w base sp held 22 (.slice a n c) d p):
    ∃l:List Int,rep ⟨Hv w,[],[]⟩ w (.sl 1 (l.map CB) none) (.slice a n c):=by
 obtain⟨r0,⟨l,rfl⟩,k0⟩:=aB.one rfl h;simp only[Bc]at k0;obtain⟨_,_,e0,k0,rfl⟩:=k0;injection e0 with e0;subst e0;exact⟨l,Fc (G:=⟨Hv w,[],[]⟩) _ _ k0⟩
theorem aD{f:FuncId}(hf:∀l:List Int,AFn prog f [.sl 1 (l.map CB) none] (fun x=>x= .v (.bool true))){H:Type}{enc:TypeId×Value→H}{sp:Nat→Bool}{held:Bool}{base:Nat}(a:Option Addr)(n c:Nat)(w:World){d:DataW H}{p:List MemPlace}
    (h:DataW.Trod enc prog w base sp held 22 (.slice a n c) d p):Calls prog f #[.slice a n c] w fun e w'=>e= .returned (.bool true)∧Below w.heap.size w w':=by
 obtain⟨l,k⟩:=aC h;refine Wv (vs:=[.slice a n c]) (hf l) (Hv w) (fun b o h=>h) ?_;simp only[AY];exact⟨_,_,rfl,k,rfl⟩
theorem UK{s:Spc}{dev:Int}(h:C4 s dev=true)(h0:dev≠0):∃m∈s.mounts,m.1=dev:=by
 unfold C4 Bu at h;simp only[Bool.or_eq_true,decide_eq_true_eq,h0,or_false]at h
 cases hf:s.mounts.find? fun m:Db=>decide (m.1=dev)with
 |none=>rw[hf]at h;cases h
 |some m=>exact⟨m,List.mem_of_find?_eq_some hf,by have:=List.find?_some hf;simpa using this⟩
theorem OB{s:Spc}{m:Db}(h:m∈s.mounts):C4 s m.1=true:=by
 unfold C4 Bu;rw[Bool.or_eq_true];refine .inl ?_;rw[Option.isSome_map]
 cases hf:s.mounts.find? fun m':Db=>decide (m'.1=m.1)with
 |none=>have:=List.find?_eq_none.1 hf m h;simp at this
 |some m=>rfl
theorem aF{f:AT}{ms ms':List Db}{dev:Int}(h:C4 ⟨f,ms⟩ dev=true)(hs:∀m∈ms,m∈ms'):C4 ⟨f,ms'⟩ dev=true:=by
 by_cases h0:dev=0
 ·unfold C4;simp[h0]
 obtain⟨m,hm,rfl⟩:=UK h h0;exact OB (s:=⟨f,ms'⟩) (hs m hm)
section
theorem UL(s:Spc):∀(k:Nat) (a:A9),(BT s k a).length≤k
 |0,_=>by simp[BT]
 |k+1,a=>by
   unfold BT;split
   ·cases h:EC s a with
    |none=>simp
    |some b=>have:=UL s k b;simp;omega
   simp
end
end Go.Proofs.YtobclmbkdhbnpaaGreatDoor
namespace Go.Proofs.YtobclmbkdhbnpaaGreatDoor
section
variable {s:Spc}(hv:SpcV s)
include hv
theorem Qf{q:Nat}{d:Dvc}{p:Nod}{x:Int}(hq:s.files[q]?=some d)(hp:p∈d.nodes)(hx:p.ino=x):Bo s.files ((q:Int),x)=some p:=
 Ks (a:=((q:Int),x)) rfl hq (hv.files.vd d (Aj hq)).asc hp hx
theorem MZ{a b:A9}(h:Ag s.files a=true)(hs:Cm s a=some b):Ag s.files b=true:=by
 obtain⟨q,d,m,h1,h2,h3,h4,h5,h6⟩:=JW (f:=s.files) (a:=a) (by rw[h];simp);have hd:=hv.files.vd d (Aj h2);unfold Cm at hs;by_cases h0:a.2≠1
 ·rw[if_pos h0]at hs;injection hs with hs;subst hs;rw[h5,h1];obtain⟨p,hp,hpi,e,he,_⟩:=hd.par m h3 (by rw[h4];exact h0) h6
  have hk:p.kind=2:=by
   by_cases hk:p.kind=2
   ·exact hk
   have:=(hd.leaf p hp hk).2;rw[this]at he;cases he
  exact(Hr (Qf hv h2 hp hpi)).2 hk
 rw[if_neg h0]at hs;obtain⟨m',hm',_,e⟩:=MY hs;obtain⟨i,hi⟩:=List.getElem?_of_mem hm';rw[←e];exact(hv.mnt i m' hi).dir
theorem Qg{a b:A9}(h:C4 s a.1=true)(hs:Cm s a=some b):C4 s b.1=true:=by
 unfold Cm at hs;by_cases h0:a.2≠1
 ·rw[if_pos h0]at hs;injection hs with hs;subst hs;exact h
 rw[if_neg h0]at hs;obtain⟨m',hm',_,e⟩:=MY hs;obtain⟨i,hi⟩:=List.getElem?_of_mem hm';rw[←e];exact aF (f:=s.files) (hv.mnt i m' hi).there (fun x hx=>List.mem_of_mem_take hx)
theorem Qh:Bu s 0=none:=by
 cases h:Bu s 0 with
 |none=>rfl
 |some on=>
   obtain⟨m',hm',e,_⟩:=MY h;obtain⟨i,hi⟩:=List.getElem?_of_mem hm';have:=(hv.mnt i m' hi).dev1;omega
theorem aG{a:A9}(h:C4 s a.1=true)(h0:a≠(0,1)):∃b,Cm s a=some b:=by
 have _:=hv;unfold Cm;by_cases h1:a.2≠1
 ·exact⟨_,if_pos h1⟩
 rw[if_neg h1];have h2:a.1≠0:=fun e=>h0 (Prod.ext e (by simpa using h1));unfold C4 at h;rw[decide_eq_false h2,Bool.or_false]at h
 cases ho:Bu s a.1 with
 |none=>rw[ho]at h;cases h
 |some b=>exact⟨b,rfl⟩
theorem JY{a:A9}(h:Ag s.files a=true):BT s (Bd s.files) a=a::(match Cm s a with
    |none=>[]
    |some b=>BT s (Bd s.files) b):=by
 have hd:¬Ag s.files a=false:=by rw[h];simp
 have he:=H5 hv a
 cases hm:Bd s.files with
 |zero=>rw[hm]at he;exact absurd he hd
 |succ m=>
   rw[hm]at he;rw[GY hd,Kw hv hd]
   cases hs:Cm s a with
   |none=>rfl
   |some b=>
     simp only;have h1:=he.resolve_left hd b hs;have h2:=H5 hv b;rw[hm]at h2;rw[QZ hv m (m+1) b h1 h2]
theorem aH{a:A9}(h:Ag s.files a=true)(hm:C4 s a.1=true):(0,1)∈BT s (Bd s.files) a:=by
 have key:∀(k:Nat) (a:A9),ends s k a→Ag s.files a=true→C4 s a.1=true→(0,1)∈BT s (Bd s.files) a:=by
  intro k
  induction k with
  |zero=>intro a he h _;rw[show Ag s.files a=false from he]at h;cases h
  |succ k ih=>
    intro a he h hm;by_cases h0:a=(0,1)
    ·rw[JY hv h,h0];exact List.mem_cons_self ..
    obtain⟨b,hb⟩:=aG hv hm h0;rw[JY hv h,hb];exact List.mem_cons_of_mem _ (ih b (he.resolve_left (by rw[h];simp) b hb) (MZ hv h hb) (Qg hv hm hb))
 exact key _ a (H5 hv a) h hm
theorem Ky{a:A9}(h:¬(Ag s.files a=true∧C4 s a.1=true)):Bk s a=(⟨#[]⟩,false):=by
 have _:=hv;unfold Bk;rw[if_neg fun c=>h ⟨c.1,c.2.1⟩]
theorem OC{a:A9}(h:Ag s.files a=true)(hm:C4 s a.1=true):Bk s a=(GZ s ((BT s (Bd s.files) a).takeWhile fun x=>decide (x≠(0,1))),true):=by
 unfold Bk;rw[if_pos ⟨h,hm,aH hv h hm⟩]
theorem Ma(h:Ag s.files (0,1)=true):Bk s (0,1)=(⟨#[47]⟩,true):=by
 rw[OC hv h (by unfold C4;simp),JY hv h,List.takeWhile_cons];simp[GZ,Cn]
theorem UM{a b:A9}(h:Ag s.files a=true)(hm:C4 s a.1=true)(h0:a≠(0,1))(hb:Cm s a=some b):Bk s a=(if a.2=1 then(Bk s b).1 else D7 (Bk s b).1 (C9 s a),true)∧(Bk s b).2=true:=by
 rw[OC hv h hm,OC hv (MZ hv h hb) (Qg hv hm hb),JY hv h,hb,List.takeWhile_cons];simp only[h0,ne_eq,not_false_eq_true,decide_true,if_true];refine⟨?_,trivial⟩;unfold GZ Cn;rw[List.filter_cons];by_cases h1:a.2=1
 ·simp[h1]
 simp[h1]
def DY(s:Spc):Nat→A9→A9
 |0,a=>a
 |k+1,a=>if Ag s.files a=true then(if a.2≠1 then(a.1,(AZ s.files a).parent)else match Bu s a.1 with
   |some on=>DY s k on
   |none=>a)else(0,0)
omit hv in
theorem aJ(dev:Int):JX s dev≤s.mounts.length:=by
 unfold JX
 cases h:s.mounts.findIdx? fun m:Db=>decide (m.1=dev)with
 |none=>simp
 |some i=>
   have:=(List.findIdx?_eq_some_iff_getElem.1 h).1;simp only;omega
theorem UN{i j:Nat}{m m':Db}(hi:s.mounts[i]?=some m)(hj:s.mounts[j]?=some m')(h:m.1=m'.1):i=j:=by
 have key:∀{i j:Nat} {m m':Db},s.mounts[i]?=some m→s.mounts[j]?=some m'→m.1=m'.1→¬i<j:=by
  intro i j m m' hi hj h hlt;have hf:=(hv.mnt j m' hj).fresh
  have hm:m∈s.mounts.take j:=by
   refine Aj (i:=i) ?_;rw[List.getElem?_take,if_pos hlt];exact hi
  have:=OB (s:=⟨s.files,s.mounts.take j⟩) hm;rw[h,hf]at this;cases this
 have h1:=key hi hj h;have h2:=key hj hi h.symm;omega
omit hv in
theorem OD{a:A9}{d:Int}(h:C3 s a=some d):∃i:Nat,s.mounts[i]?=some ((d,a):Db):=by
 unfold C3 at h
 cases hf:s.mounts.find? fun m:Db=>decide (m.2=a)with
 |none=>rw[hf]at h;cases h
 |some m=>
   rw[hf]at h;injection h with h;have h2:=List.find?_some hf;simp only[decide_eq_true_eq]at h2;obtain⟨i,hi⟩:=List.getElem?_of_mem (List.mem_of_find?_eq_some hf);exact⟨i,by rw[hi,←h,←h2]⟩
omit hv in
theorem aK{a:A9}(h:∀(i:Nat) (m:Db),s.mounts[i]?=some m→m.2≠a):C3 s a=none:=by
 cases hc:C3 s a with
 |none=>rfl
 |some d=>obtain⟨i,hi⟩:=OD hc;exact absurd rfl (h i _ hi)
theorem UO:∀(n:Nat) (a:A9),(∀(i:Nat) (m:Db),s.mounts[i]?=some m→m.2=a→s.mounts.length≤i+n)→C3 s (Ci s n a)=none:=by
 intro n
 induction n with
 |zero=>
   intro a h;refine aK fun i m hi e=>?_;have h1:=h i m hi e;have h2:=(Ai.1 hi).1;omega
 |succ n ih=>
   intro a h
   cases hc:C3 s a with
   |none=>rw[Ni (by rw[hc];rfl)];exact hc
   |some d=>
     obtain⟨i,hi⟩:=OD hc;rw[Ci];refine ih _ fun j m hj e=>?_;have he:GP s a=(d,1):=by unfold GP;rw[hc]
     rw[he]at e;have h1:=h i _ hi rfl;have hth:=(hv.mnt j m hj).there;have hd1:=(hv.mnt i _ hi).dev1;rw[e]at hth;obtain⟨m'',hm'',e2⟩:=UK hth (by simp only at hd1 ⊢;omega);obtain⟨k,hk⟩:=List.getElem?_of_mem hm''
     have hkj:k<j:=by
      have:=(Ai.1 hk).1;simp at this;omega
     rw[List.getElem?_take,if_pos hkj]at hk;have:=UN hv hk hi e2;omega
omit hv in
theorem UP:∀(n:Nat) (a:A9),Ci s (n+1) a=GP s (Ci s n a)
 |0,_=>rfl
 |n+1,a=>UP n (GP s a)
theorem aL(a:A9):Ci s (s.mounts.length+1) a=Ci s s.mounts.length a:=by
 rw[UP];refine Pb ?_;rw[UO hv _ a (fun i m _ _=>by omega)];rfl
theorem UQ{i:Nat}{m:Db}(hi:s.mounts[i]?=some m):Bu s m.1=some m.2:=by
 have h1:C4 s m.1=true:=OB (Aj hi);have hd:=(hv.mnt i m hi).dev1;unfold C4 at h1;rw[decide_eq_false (by omega),Bool.or_false]at h1
 cases ho:Bu s m.1 with
 |none=>rw[ho]at h1;cases h1
 |some on=>
   obtain⟨m',hm',e1,e2⟩:=MY ho;obtain⟨j,hj⟩:=List.getElem?_of_mem hm';have:=UN hv hj hi e1;subst this;rw[hi]at hj;injection hj with hj;rw[←e2,hj]
theorem aM{x:A9}{dev:Int}(hc:C3 s x=some dev):∀(k:Nat) (y:A9),ends s k y→Ag s.files y=true→y.1=dev→∃t r,BT s (Bd s.files) y=t++(dev,1)::x::r:=by
 intro k
 induction k with
 |zero=>intro y he h _;rw[show Ag s.files y=false from he]at h;cases h
 |succ k ih=>
   intro y he h hy;obtain⟨i,hi⟩:=OD hc;by_cases h1:y.2=1
   ·have hs:Cm s y=some x:=by
       unfold Cm;rw[if_neg (by simpa using h1),hy];exact UQ hv hi
    obtain⟨t,ht⟩:=OA hv (MZ hv h hs);refine⟨[],t,?_⟩;rw[JY hv h,hs];simp only[List.nil_append];rw[ht,←hy,←h1]
   have hs:Cm s y=some (y.1,(AZ s.files y).parent):=if_pos h1;obtain⟨t,r,ht⟩:=ih _ (he.resolve_left (by rw[h];simp) _ hs) (MZ hv h hs) hy;refine⟨y::t,r,?_⟩;rw[JY hv h,hs];simp only[List.cons_append];rw[ht]
def Fp(s:Spc)(L:List A9)(i:Nat):Bool:=match L[i]? with
 |none=>true
 |some x=>match C3 s x with
   |none=>true
   |some dev=>decide (0<i)&&decide (L[i - 1]?=some (dev,1))
theorem UR{a:A9}{i:Nat}{x:A9}(hi:(BT s (Bd s.files) a)[i]?=some x):Fp s (BT s (Bd s.files) a) i=Qc s a x:=by
 unfold Fp Qc;simp only[hi]
 cases hc:C3 s x with
 |none=>rfl
 |some dev=>
   simp only;rw[Bool.eq_iff_iff];simp only[Bool.and_eq_true,decide_eq_true_eq];constructor
   ·rintro⟨_,h2⟩;exact⟨_,Aj h2,rfl⟩
   rintro⟨y,hy,hyd⟩;obtain⟨t,r,ht⟩:=aM hv hc _ y (H5 hv y) (Zf hv hy) hyd;obtain⟨p,hp⟩:=Ze hv hy;have hL:BT s (Bd s.files) a=(p++t)++(dev,1)::x::r:=by rw[←hp,ht,List.append_assoc]
   have hn:=U7 hv _ a (H5 hv a)
   have hx:(BT s (Bd s.files) a)[(p++t).length+1]?=some x:=by
    rw[hL,DP (by omega)];simp
   have hx0:(BT s (Bd s.files) a)[(p++t).length]?=some (dev,1):=by
    rw[hL,DP (by omega)];simp
   have e:i=(p++t).length+1:=by
    obtain⟨h1,h2⟩:=Ai.1 hi;obtain⟨h3,h4⟩:=Ai.1 hx;exact(List.getElem_inj hn).1 (h2.trans h4.symm)
   subst e;exact⟨by omega,hx0⟩
theorem aO(a:A9):ED s a=((Bk s a).2&&(List.range (BT s (Bd s.files) a).length).all (Fp s (BT s (Bd s.files) a))):=by
 unfold ED
 congr 1
 rw[Bool.eq_iff_iff,List.all_eq_true,List.all_eq_true];constructor
 ·intro h i hi;have hl:=List.mem_range.1 hi;rw[UR hv (BM hl)];exact h _ (List.getElem_mem hl)
 intro h x hx;obtain⟨i,hi⟩:=List.getElem?_of_mem hx;rw[←UR hv hi];exact h i (List.mem_range.2 (Ai.1 hi).1)
end
end Go.Proofs.YtobclmbkdhbnpaaGreatDoor
namespace Go.Proofs.YtobclmbkdhbnpaaGreatDoor
theorem FlsV.t{f:AT}(h:FlsV f):FlsT f:=by
 refine⟨h.b,fun d hd n hn e he=>?_,fun d hd n hn=>?_⟩
 ·have:=UG ((h.vd d hd).ent n hn e he).1;omega
 have hp:=(h.vd d hd).plain n hn;unfold EM at hp;split at hp
 ·cases hp
 split at hp
 ·unfold JH at hp;simp only[Bool.and_eq_true,decide_eq_true_eq]at hp;omega
 have e:=Lp n.target ⟨#[]⟩;rw[show(⟨#[]⟩:ByteArray).toList=[] by rw[ByteArray.toList_eq]]at e;have:n.target.toList=[]:=by simpa using hp
 rw[this]at e;have e2:n.target=⟨#[]⟩:=of_decide_eq_true e.symm;rw[e2];exact BJ _
theorem US{α:Type}{p q:α→Bool}:∀{l:List α},(∀x∈l,p x=true→q x=true)→∀{a:α},a∈l→q a=true→p a=false→l.countP p<l.countP q
 |[],_,_,ha,_,_=>by cases ha
 |x::l,h,a,ha,hq,hp=>by
   have hle:l.countP p≤l.countP q:=List.countP_mono_left fun y hy=>h y (List.mem_cons_of_mem _ hy);rw[List.countP_cons,List.countP_cons];rcases List.mem_cons.1 ha with rfl|ha
   ·rw[hq,hp];simp;omega
   have ih:=US (fun y hy=>h y (List.mem_cons_of_mem _ hy)) ha hq hp;have:=h x (List.mem_cons_self ..)
   cases hx:p x with
   |false=>simp;omega
   |true=>rw[this hx];simp;omega
section
variable {d:Dvc}(hd:VD d)
include hd
theorem UT{n:Nod}(hn:n∈d.nodes):JJ d n.ino=n.parent:=by
 have h:=Ks (f:=[d]) (a:=(0,n.ino)) (q:=0) rfl rfl hd.asc hn rfl;rw[Pd (f:=[d]) (a:=(0,n.ino)) (k:=0) rfl rfl]at h;unfold JJ;rw[h]
theorem aQ:∀k,GV d k 1=1:=by
 obtain⟨r,rest,hr,h1,_,h3⟩:=hd.root
 have:JJ d 1=1:=by
  have:=UT hd (n:=r) (by rw[hr];exact List.mem_cons_self ..);rw[h1,h3]at this;exact this
 intro k
 induction k with
 |zero=>rfl
 |succ k ih=>rw[GV,this,ih]
theorem aR(rk:Int→Nat)(hrk:∀n∈d.nodes,n.ino≠1→n.kind=2→rk n.parent<rk n.ino):∀(k:Nat) (n:Nod),n∈d.nodes→n.kind=2→d.nodes.countP (fun m=>decide (m.ino≠1∧rk m.ino≤rk n.ino))≤k→GV d k n.ino=1:=by
 intro k
 induction k with
 |zero=>
   intro n hn _ hc;by_cases h1:n.ino=1
   ·rw[h1];rfl
   have:0<d.nodes.countP (fun m=>decide (m.ino≠1∧rk m.ino≤rk n.ino)):=List.countP_pos_iff.2 ⟨n,hn,by simp[h1]⟩;omega
 |succ k ih=>
   intro n hn hk hc;by_cases h1:n.ino=1
   ·rw[h1];exact aQ hd _
   rw[GV,UT hd hn];obtain⟨p,hp,hpi,e,he,_⟩:=hd.par n hn h1 hk
   have hpk:p.kind=2:=by
    by_cases h:p.kind=2
    ·exact h
    rw[(hd.leaf p hp h).2]at he;cases he
   rw[←hpi];refine ih p hp hpk ?_;have hlt:=hrk n hn h1 hk;rw[←hpi]at hlt
   have:d.nodes.countP (fun m=>decide (m.ino≠1∧rk m.ino≤rk p.ino))<d.nodes.countP (fun m=>decide (m.ino≠1∧rk m.ino≤rk n.ino)):=by
    refine US (fun x _ hx=>?_) hn (by simp[h1]) (decide_eq_false fun h=>by omega);have:=of_decide_eq_true hx;exact decide_eq_true ⟨this.1,by omega⟩
   omega
theorem aS:O0 d=true:=by
 obtain⟨rk,hrk⟩:=hd.rank;refine FT fun i hi=>?_;unfold Kv;rw[BM hi];simp only;split
 ·rename_i hk;exact decide_eq_true (aR hd rk hrk _ _ (List.getElem_mem hi) hk List.countP_le_length)
 rfl
theorem aT{i:Nat}{n y:Nod}(h0:0<i)(h:d.nodes[i]?=some n)(hy:d.nodes[i - 1]?=some y):y.ino<n.ino:=by
 have:=hd.asc;unfold DX at this;obtain⟨h1,e1⟩:=Ai.1 h;obtain⟨h2,e2⟩:=Ai.1 hy;have:=List.pairwise_iff_getElem.1 this (i - 1) i h2 h1 (by omega);rw[e1,e2]at this;exact this
theorem aU{n:Nod}(hn:n∈d.nodes){i:Nat}{x:B1}(h0:0<i)(h:n.entries[i]?=some x):MO n.entries i x=false:=by
 have hs:=hd.sorted n hn;unfold Ei at hs;unfold MO
 cases hy:n.entries[i - 1]? with
 |none=>rfl
 |some y=>
   obtain⟨h1,e1⟩:=Ai.1 h;obtain⟨h2,e2⟩:=Ai.1 hy;have:=List.pairwise_iff_getElem.1 hs (i - 1) i h2 h1 (by omega);rw[e1,e2]at this;simp only;rw[this];rfl
end
section
variable {f:AT}(hv:FlsV f){q:Nat}{d:Dvc}(hq:f[q]?=some d)
include hv hq
theorem Qi:VD d:=hv.vd d (Aj hq)
theorem Qj{p:Nod}(hp:p∈d.nodes):Bo f ((q:Int),p.ino)=some p:=Ks (a:=((q:Int),p.ino)) rfl hq (Qi hv hq).asc hp rfl
theorem aV{p:Nod}(hp:p∈d.nodes):¬EX f ((q:Int),p.ino)<0:=by
 rcases Gu f ((q:Int),p.ino)with h|⟨k,i,d',n,_,_,_,_,h,_⟩
 ·rw[Qj hv hq hp]at h;cases h.2
 omega
theorem aW{n:Nod}(hn:n∈d.nodes):JR f (q:Int) n.entries=true:=by
 have hd:=Qi hv hq;refine Tg (by have:=hd.many n hn;omega) fun i hi=>?_;have hx:n.entries[i]?=some n.entries[i]:=BM hi;generalize n.entries[i]=x at hx;obtain⟨h1,h2,m,hm,h3⟩:=hd.ent n hn x (Aj hx);unfold Fo;rw[hx];simp only;rw[if_neg (by rw[h1];simp),if_neg (fun h=>by rw[aU hd hn h.1 hx]at h;cases h.2),if_neg h2,if_neg (by rw[←h3];exact aV hv hq hm)]
theorem aY{n:Nod}(hn:n∈d.nodes):F6 f ((q:Int),n.ino)=Bg n.ino d.nodes:=Sd (a:=((q:Int),n.ino)) rfl hq (Qj hv hq hn)
theorem aZ:Ht f (q:Int) d=true:=by
 have hd:=Qi hv hq;obtain⟨r,rest,hr,r1,r2,r3⟩:=hd.root;have hlen:=hd.len;have hl1:¬d.nodes.length<1:=by rw[hr];simp
 have hhd:B5 d=true:=by
  unfold B5;rw[if_neg hl1,if_neg (by omega),if_neg (by have:=hd.next2;omega),if_neg (by have:=hd.nextM;omega),hr];simp[r1,r2,r3]
 rw[D5 hhd,aS hd];intro i hi;have hx:d.nodes[i]?=some d.nodes[i]:=BM hi;generalize d.nodes[i]=n at hx;have hn:=Aj hx;unfold CH;rw[hx];simp only
 rw[if_neg (by have:=hd.lt n hn;omega),if_neg (fun h=>by
  unfold O2 at h
  cases hy:d.nodes[i - 1]? with
  |none=>rw[hy]at h;exact absurd h.2 (by simp)
  |some y=>
    rw[hy]at h;have h1:=aT hd h.1 hx hy;have h2:=of_decide_eq_true h.2
    omega),if_neg (by rw[hd.plain n hn];simp),if_neg (fun h=>by
  obtain⟨h1,h2⟩:=hd.leaf n hn h.1;rcases h.2 with h3|h3
  ·exact h3 h1
  rw[h2]at h3;cases h3),if_neg (by rw[aW hv hq hn];simp)]
 split
 ·rfl
 rename_i h0
 have h1:n.ino≠1:=by
  have hy:d.nodes[0]?=some r:=by rw[hr];rfl
  have:r.ino<n.ino:=by
   have ha:=hd.asc;unfold DX at ha;obtain⟨e1,e2⟩:=Ai.1 hx;obtain⟨e3,e4⟩:=Ai.1 hy;have:=List.pairwise_iff_getElem.1 ha 0 i e3 e1 (by omega);rw[e2,e4]at this;exact this
  omega
 rw[aY hv hq hn];split
 ·rename_i hk;obtain⟨p,hp,hpi,e,he,hei⟩:=hd.par n hn h1 hk;rw[if_neg (by rw[hd.one n hn h1 hk];simp)];have hnd:=Qj hv hq hp;rw[hpi]at hnd;have hh:Cc f ((q:Int),n.parent)=true:=by unfold Cc;rw[hnd];rfl
  have hg:AZ f ((q:Int),n.parent)=p:=by unfold AZ;rw[hnd];rfl
  rw[if_neg (by rw[hh];simp),hg];unfold Lq;exact List.any_eq_true.2 ⟨e,he,by rw[hei];simp⟩
 rw[if_neg (by have:=hd.link n hn h1;omega)]
end
end Go.Proofs.YtobclmbkdhbnpaaGreatDoor
namespace Go.Proofs.YtobclmbkdhbnpaaGreatDoor
theorem b5{f:AT}(hv:FlsV f)(h0:0<f.length):JS f=true:=by
 unfold JS;rw[if_neg (by omega),if_neg (by have:=hv.few;omega)];refine FT fun i hi=>?_;unfold MP;rw[BM hi];exact aZ hv (BM hi)
end Go.Proofs.YtobclmbkdhbnpaaGreatDoor
