/-
  Part 10 of the proof of WatchTreesP: what the statement's proof uses of the texts in wip/tpl.
-/
import Derived.Maps.AppendAt
import Derived.OwnWalk
import Derived.StillTailTactics
import Derived.OpenShut
import Derived.ChangeArms
import Derived.ChangeOld
import Derived.DataReads
import Derived.DataElems
import Derived.Test.YtbglbmnhgbgelaaGreatDoorQg9
set_option maxRecDepth 10000
set_option maxHeartbeats 4000000
set_option linter.unusedVariables false
set_option linter.unusedSimpArgs false
namespace Go.Proofs.YtbglbmnhgbgelaaGreatDoor
open Go.RowKit Go.Shelf
attribute [local go_sem] Oper.semAt_some
theorem Tryz.infoStrH:(Tryz.prog.info? 9).map (fun i=>(i.zero,i.size,i.bytes))=some (some (.string ⟨#[]⟩),1,16):=by kernel_rfl
def Cq(s:Spc)(pre:List A9):List AE:=(pre.filter fun x:A9=>decide (x.2≠1)).map (C7 s)
def Gv(s:Spc)(pre:List A9):AE:=(Cq s pre).reverse.foldl DD ⟨#[47]⟩
def Be(s:Spc)(dir:A9):AE×Bool:=
 if AX s.files dir=true∧Bl s dir.1=true∧(0,1)∈BE s (BL s.files) dir then(Gv s ((BE s (BL s.files) dir).takeWhile fun x=>decide (x≠(0,1))),true)else(⟨#[]⟩,false)
theorem Qi(s:Spc):∀(k:Nat) (a:A9),(BE s k a).length≤k
 |0,_=>by simp[BE]
 |k+1,a=>by
   unfold BE
   split
   ·cases h:EG s a with
    |none=>simp
    |some b=>have:=Qi s k b;simp;omega
   simp
theorem Zx(d m:AE):(DD d m).size≤d.size+1+m.size:=by
 unfold DD
 split
 ·rw[ByteArray.size_append];omega
 rw[ByteArray.size_append,ByteArray.size_append];exact Nat.le_refl _
theorem UN:∀(l:List AE) (d:AE),(∀x∈l,x.size≤100)→(l.foldl DD d).size≤d.size+101 * l.length
 |[],d,_=>by simp
 |x::l,d,h=>by
   have h1:=UN l (DD d x) fun y hy=>h y (List.mem_cons_of_mem _ hy)
   have h2:=Zx d x
   have h3:=h x (List.mem_cons_self ..)
   simp only[List.foldl_cons,List.length_cons]
   omega
theorem Zy{w:World}{base:Nat}{e:TypeId}{A:Option Addr}{c g0:Nat}{ns:List AE}(h:w.ownsRow base e 1 (.slice A ns.length c) ns.length (ns.map Value.string))(hg0:g0<w.heap.size):∃g,g<w.heap.size∧NamesIn w A ns.length c ns g:=by
 rcases h.2 with⟨hv,hn⟩|⟨g,cap,cur,hv,_,hb,h1,_,_,h2⟩
 ·injection hv with _ _ hc
  exact⟨g0,hg0,rfl,by omega, .inl (List.length_eq_zero_iff.1 hn)⟩
 injection hv with hA _ hc
 subst hA hc
 refine⟨g,Bp hb,rfl,h1, .inr ⟨rfl,fun i x hx=>?_⟩⟩
 rw[(By hb).1 i,←Array.getElem?_toList]
 have hi:i<ns.length:=(Ar.1 hx).1
 rw[←List.getElem?_take_of_lt (show i<ns.length * 1 by omega),h2,List.getElem?_map,hx]
 rfl
theorem Zz{pre l:List A9}(h:pre<+:l)(hm:(0,1)∈pre):(l.takeWhile fun x:A9=>decide (x≠(0,1)))=pre.takeWhile fun x:A9=>decide (x≠(0,1)):=by
 obtain⟨t,rfl⟩:=h
 induction pre with
 |nil=>simp at hm
 |cons y ys ih=>
   by_cases hy:y=(0,1)
   ·simp[hy]
   have hm':(0,1)∈ys:=by
    rcases List.mem_cons.1 hm with h|h
    ·exact absurd h.symm hy
    exact h
   rw[List.cons_append,List.takeWhile_cons,List.takeWhile_cons,ih hm']
theorem aA{pre:List A9}(h:(0,1)∉pre):((pre++[(0,1)]).takeWhile fun x:A9=>decide (x≠(0,1)))=pre:=by
 induction pre with
 |nil=>simp
 |cons y ys ih=>
   have hy:y≠(0,1):=fun e=>h (by rw[e];simp)
   rw[List.cons_append,List.takeWhile_cons,if_pos (by simpa using hy),ih (fun hm=>h (List.mem_cons_of_mem _ hm))]
theorem UO(s:Spc)(pre:List A9)(x:A9):Cq s (pre++[x])=if x.2=1 then Cq s pre else Cq s pre++[C7 s x]:=by
 unfold Cq
 rw[List.filter_append,List.map_append]
 by_cases h:x.2=1<;>simp[h]
theorem UP(s:Spc)(pre:List A9):(Cq s pre).length≤pre.length:=by
 unfold Cq
 rw[List.length_map]
 exact List.length_filter_le _ _
theorem D7{F:Fence}{n:Nat}{P:Program}{ops:Array Oper}{Q:Exit→Act→World→Prop}{fuel:Nat}{listed:Array Bool}{a:Act}{w:World}{rs:List Nat}(hr:Region.ready .any ops listed=rs)(hne:rs≠[])
    (h:∀i∈rs,wpOpIn F n P ops Q i (wpAnyIn F n P .any ops Q fuel (listed.setIfInBounds i true)) a w):wpAnyIn F n P .any ops Q (fuel+1) listed a w:=
 ⟨fun h0=>absurd (hr.symm.trans h0) hne,fun i hi=>h i (hr ▸ hi)⟩
theorem CN{F:Fence}{n:Nat}{P:Program}{ops l:Array Oper}{Q:Exit→Act→World→Prop}{i:Nat}{o:Oper}{K:Act→World→Prop}{a:Act}{w:World}(hops:ops=l)(ho:l[i]?=some o)
    (h:∀K':Act→World→Prop,(∀a w,K a w→K' a w)→wpListIn F n P ops (Exit.then K' Q) [o] a w):wpOpIn F n P ops Q i K a w:=by
 have h1:=h K fun _ _ h=>h
 subst hops
 unfold wpOpIn
 rw[ho]
 unfold wpListIn at h1
 simp only
 split at h1
 ·rename_i hw
  rw[if_pos hw]
  refine⟨h1.1,?_⟩
  have h2:=h1.2
  generalize (o.semAt F.round a.eval).run P w=r at h2
  cases r with
  |ok x w'=>cases x<;>exact h2
  |halt x w'=>cases x<;>exact h2
 rename_i hw
 rw[if_neg hw]
 exact h1
theorem aB{F:Fence}{n:Nat}{P:Program}{ops:Array Oper}{Q:Exit→Act→World→Prop}{id:Nat}{a:Act}{w:World}(hm:P.follows .mixedOrders=true)(k:Nat)(hk:ops.size=k)
    (h:∀ops',ops'=ops→wpAnyIn F n P .any ops' Q k (Array.replicate k false) a w.drew):(Code.region id ops true).wpIn F n P Q a w:=by
 subst hk
 exact wpIn_region_any hm (h ops rfl)
theorem aC{W w1:World}{base B:Nat}{t e:TypeId}{size:Nat}{v v':Value}{k m:Nat}{xs ys:List Value}{tmp:Obj}
    (hv:Boxed W B t v) (hrow:W.ownsRow base e size v k xs) (hbase:base≤W.heap.size) (hB:B<base)
    (hown':w1.ownsRow base e size v' m ys) (hgrow:(W.alloc tmp).grownBy w1 v.ownBlock):
    Boxed w1 B t v∧Boxed (w1.setCell ⟨B,0,none⟩ v') B t v'∧(w1.setCell ⟨B,0,none⟩ v').ownsRow base e size v' m ys∧KeepsOthers W (w1.setCell ⟨B,0,none⟩ v')∧
     Below B W (w1.setCell ⟨B,0,none⟩ v')∧(∀j:Nat,j<base→j≠B→(w1.setCell ⟨B,0,none⟩ v').heap[j]?=W.heap[j]?)∧
     ∀(j:Nat) (cs:Array Value) (t':TypeId),t'≠e→t'≠t→W.heap[j]?=some (.cells cs t')→(w1.setCell ⟨B,0,none⟩ v').heap[j]?=some (.cells cs t'):=by
 have hne:∀j,j<base→some j≠v.ownBlock:=by
  intro j hj e
  have:=World.ownsRow.lt hrow j e.symm
  omega
 have hblk:∀j,j<base→w1.heap[j]?=W.heap[j]?:=fun j hj=>(hgrow.block j (by simp;omega) (hne j hj)).trans (Below.heap_alloc W tmp j (by omega))
 have hv1:Boxed w1 B t v:=(hblk B hB).trans hv
 refine⟨hv1,hv1.set v',ownsRow_setCell_below hown' hB v',?_,?_,fun j hj hj'=>(Below.heap_setCell w1 ⟨B,0,none⟩ v' j hj').trans (hblk j hj),?_⟩
 ·refine((KeepsOthers.alloc W tmp).trans (KeepsOthers.of_grownBy hgrow fun j o ej hj=>?_)).trans (KeepsOthers.setCell _ _ _)
  rcases(hrow.alloc tmp).2 with⟨rfl,_⟩|⟨g,cap,cur,rfl,_,hgb,_⟩
  ·simp[Value.ownBlock]at ej
  obtain rfl:g=j:=by simpa[Value.ownBlock]using ej
  rw[hgb]at hj;cases hj;rfl
 ·have hs:=hgrow.size
  simp at hs
  exact⟨hgrow.os,hgrow.tape,hgrow.output,by simp[World.setCell];omega,fun j hj=>(Below.heap_setCell w1 ⟨B,0,none⟩ v' j (by show j≠B;omega)).trans (hblk j (by omega))⟩
 intro j cs t' he ht hj
 have hjl:=Bp hj
 refine(Below.heap_setCell w1 ⟨B,0,none⟩ v' j fun eq=>?_).trans (((hgrow.block j (by simp;omega) fun eq=>?_).trans (Below.heap_alloc W tmp j (by omega))).trans hj)
 ·have eq':j=B:=eq
  subst eq'
  rw[show W.heap[j]?=_ from hv]at hj
  injection hj with hj
  injection hj with _ h2
  exact ht h2.symm
 rcases hrow.2 with⟨rfl,_⟩|⟨g,cap,cur,rfl,_,hgb,_⟩
 ·simp[Value.ownBlock]at eq
 obtain rfl:j=g:=by simpa[Value.ownBlock]using eq
 rw[hgb]at hj
 injection hj with hj
 injection hj with _ h2
 exact he h2.symm
theorem Moves.rowH{own:Nat→Prop}{B:Nat}{X Y:World}(h:Moves own B X Y){base e size k:Nat}{v:Value}{xs:List Value}(hr:X.ownsRow base e size v k xs)(ho:∀b,own b→b<base):Y.ownsRow base e size v k xs:=by
 refine⟨hr.1,?_⟩
 rcases hr.2 with h'|⟨g,cap,cur,hv,hg,hb,r⟩
 ·exact .inl h'
 refine .inr ⟨g,cap,cur,hv,hg,?_,r⟩
 exact(h.block g (Array.getElem?_eq_some_iff.1 hb).1 (fun e=>by have:=ho g e;omega) (.inr ⟨_,hb,rfl⟩)).trans hb
set_option maxRecDepth 100000 in
set_option maxHeartbeats 4000000 in
theorem aD(n:Nat)(hn:Hid (4≤n))(s:Spc)(hs:SpcB s)(hnm:∀x,(C7 s x).size≤100)(hmo:BL s.files≤5000)(dir:A9)(ds ms:Value)(w:World)(h:SpcIn s w.heap.size w ds ms):
    CallsIn Fence.wide n Tryz.prog 137 #[.agg #[ds,ms],DV dir] w fun e w'=>e= .returned (.tuple #[.string (Be s dir).1, .bool (Be s dir).2])∧Below w.heap.size w w':=by
 obtain⟨i0,hi0,hz0,hz1,hz2⟩:=info_parts Tryz.infoStrH
 have HNM:=Lib.hid hnm
 clear hnm
 unfold DV
 refine callsIn_of_wp_marks Tryz.func137 rfl trivial ?_ rfl
 simp only[Tryz.ntmps137,List.size_toArray,List.length_cons,List.length_nil,Nat.reduceAdd,Nat.reduceSub,Array.replicate_succ,Array.replicate_zero,List.push_toArray,List.append_toArray,List.nil_append,List.cons_append]
 gi_wp2_with fail
 obtain⟨W4,hW4⟩:∃W4,(((w.alloc (.cells #[ds,ms] 31)).alloc (.cells #[.int .i64 dir.1, .int .i64 dir.2] 36)).alloc (.cells #[.string ⟨#[]⟩] 9)).alloc (.cells #[.bool false] 4)=W4:=⟨_,rfl⟩
 have hz4:W4.heap.size=w.heap.size+4:=by rw[←hW4];simp
 have hB4:Below w.heap.size w W4:=by rw[←hW4];exact Pr _ _ _ _ _
 have kS:W4.heap[w.heap.size]?=some (.cells #[ds,ms] 31):=by rw[←hW4];exact TB _ _ _ _ _
 have kD:W4.heap[w.heap.size+1]?=some (.cells #[.int .i64 dir.1, .int .i64 dir.2] 36):=by rw[←hW4];exact Ps _ _ _ _ _
 have kP:Boxed W4 (w.heap.size+1+1) 9 (.string ⟨#[]⟩):=by rw[←hW4];exact TC _ _ _ _ _
 have kE:Boxed W4 (w.heap.size+1+1+1) 4 (.bool false):=by rw[←hW4];exact Pt _ _ _ _ _
 have hSp:=h.below hB4 (Nat.le_refl _)
 rw[hW4]
 have HZ4:=Lib.hid hz4
 clear hW4
 refine Dx ((callsIn_wide.2 (Yv hSp hs dir)).mono ?_)
 rintro e W5 ⟨rfl,hb5⟩
 obtain⟨di,hdi⟩:∃di,AX s.files dir=di:=⟨_,rfl⟩
 rw[hdi]
 have hz5:=hb5.size
 have k5S:=BR kS hb5 (Bp kS)
 have k5D:=BR kD hb5 (Bp kD)
 have k5P:Boxed W5 (w.heap.size+1+1) 9 (.string ⟨#[]⟩):=BR kP hb5 (Bp kP)
 have k5E:Boxed W5 (w.heap.size+1+1+1) 4 (.bool false):=BR kE hb5 (Bp kE)
 have hB5:Below w.heap.size w W5:=hB4.trans (hb5.mono hB4.size)
 have h5:=h.below hB5 (Nat.le_refl _)
 have HZ5:Hid (w.heap.size+4≤W5.heap.size):=Lib.hid (by omega)
 have HDI:=Lib.hid hdi
 clear kS kD kP kE hB4 hSp hb5 hz4 hz5 hdi HZ4
 obtain⟨c0,f0⟩:=By k5S
 obtain⟨c1,f1⟩:=By k5D
 have c2:=k5P.cell
 have f2:=k5P.frozen
 have c3:=k5E.cell
 have f3:=k5E.frozen
 cases di with
 |false=>
   have HW:Hid (Be s dir=(⟨#[]⟩,false)):=Lib.hid (by unfold Be;rw[HDI.out];simp)
   gi_wp2
   refine⟨trivial,?_⟩
   gi_wp2
   have hP:=(Boxed.other (k5P.set (.string ⟨#[]⟩)) (show w.heap.size+1+1≠w.heap.size+1+1+1 by omega) (.bool false)).cell
   have hE:=((Boxed.other k5E (show w.heap.size+1+1+1≠w.heap.size+1+1 by omega) (.string ⟨#[]⟩)).set (.bool false)).cell
   refine⟨.tuple #[.string ⟨#[]⟩, .bool false],by simp[results,Tryz.f137,go_sem,hP,hE],by rw[HW.out],(hB5.setCell (by show w.heap.size≤w.heap.size+1+1;omega) _).setCell (by show w.heap.size≤w.heap.size+1+1+1;omega) _⟩
 |true=>
   gi_wp2_with fail
   refine Dx ((callsIn_wide.2 (Yw h5 hs dir.1)).mono ?_)
   rintro e W6 ⟨rfl,hb6⟩
   obtain⟨mi,hmi⟩:∃mi,Bl s dir.1=mi:=⟨_,rfl⟩
   rw[hmi]
   have hz6:=hb6.size
   have k6S:=BR k5S hb6 (Bp k5S)
   have k6D:=BR k5D hb6 (Bp k5D)
   have k6P:Boxed W6 (w.heap.size+1+1) 9 (.string ⟨#[]⟩):=BR k5P hb6 (Bp k5P)
   have k6E:Boxed W6 (w.heap.size+1+1+1) 4 (.bool false):=BR k5E hb6 (Bp k5E)
   have hB6:Below w.heap.size w W6:=hB5.trans (hb6.mono hB5.size)
   have HZ6:Hid (w.heap.size+4≤W6.heap.size):=Lib.hid (by have:=HZ5.out;omega)
   have HMI:=Lib.hid hmi
   clear k5S k5D k5P k5E hB5 h5 hb6 hz6 hmi HZ5 c0 f0 c1 f1 c2 f2 c3 f3
   obtain⟨c0,f0⟩:=By k6S
   obtain⟨c1,f1⟩:=By k6D
   have c2:=k6P.cell
   have f2:=k6P.frozen
   have c3:=k6E.cell
   have f3:=k6E.frozen
   cases mi with
   |false=>
     have HW:Hid (Be s dir=(⟨#[]⟩,false)):=Lib.hid (by unfold Be;rw[HMI.out];simp)
     gi_wp2
     have hP:=(Boxed.other (k6P.set (.string ⟨#[]⟩)) (show w.heap.size+1+1≠w.heap.size+1+1+1 by omega) (.bool false)).cell
     have hE:=((Boxed.other k6E (show w.heap.size+1+1+1≠w.heap.size+1+1 by omega) (.string ⟨#[]⟩)).set (.bool false)).cell
     refine⟨.tuple #[.string ⟨#[]⟩, .bool false],by simp[results,Tryz.f137,go_sem,hP,hE],by rw[HW.out],(hB6.setCell (by show w.heap.size≤w.heap.size+1+1;omega) _).setCell (by show w.heap.size≤w.heap.size+1+1+1;omega) _⟩
   |true=>
     have HW:Hid (Be s dir=if(0,1)∈BE s (BL s.files) dir then(Gv s ((BE s (BL s.files) dir).takeWhile fun x=>decide (x≠(0,1))),true)else(⟨#[]⟩,false)):=Lib.hid (by unfold Be;rw[HDI.out,HMI.out];simp)
     obtain⟨d0,g0⟩:=By (Cl k6S (.cells #[.slice none 0 0] 63))
     obtain⟨d1,g1⟩:=By (Cl k6D (.cells #[.slice none 0 0] 63))
     gi_wp2_with fail
     obtain⟨W7,hW7⟩:∃W7,W6.alloc (.cells #[.slice none 0 0] 63)=W7:=⟨_,rfl⟩
     have hB7:Below W6.heap.size W6 W7:=by rw[←hW7];exact FW _ _
     have hz7:W7.heap.size=W6.heap.size+1:=by rw[←hW7];simp
     have kN:Boxed W7 W6.heap.size 63 (.slice none 0 0):=by rw[←hW7];exact J4 _ _
     rw[hW7]
     clear hW7 d0 g0 d1 g1 c0 f0 c1 f1 c2 f2 c3 f3
     refine Dx ((callsIn_wide.2 (Ta ds ms dir W7)).mono ?_)
     rintro e W9 ⟨rfl,hW9⟩
     have hB9:Below W7.heap.size W7 W9:=by rw[hW9];exact Hd _ _ _
     have hz9:W9.heap.size=W6.heap.size+3:=by rw[hW9];simp[hz7]
     have cS:W9.heap[W7.heap.size]?=some (.cells #[ds,ms] 31):=by rw[hW9];exact J5 _ _ _
     have cD:W9.heap[W7.heap.size+1]?=some (.cells #[.int .i64 dir.1, .int .i64 dir.2] 36):=by rw[hW9];exact J6 _ _ _
     have hB69:Below W6.heap.size W6 W9:=hB7.trans (hB9.mono (by omega))
     have kN9:Boxed W9 W6.heap.size 63 (.slice none 0 0):=BR kN hB9 (by omega)
     have k9S:=BR k6S hB69 (Bp k6S)
     have k9P:Boxed W9 (w.heap.size+1+1) 9 (.string ⟨#[]⟩):=BR k6P hB69 (Bp k6P)
     have k9E:Boxed W9 (w.heap.size+1+1+1) 4 (.bool false):=BR k6E hB69 (Bp k6E)
     have hBw:Below w.heap.size w W9:=hB6.trans (hB69.mono hB6.size)
     have kSp:=h.below hBw (Nat.le_refl _)
     have HZ9:Hid (W7.heap.size=W6.heap.size+1∧W9.heap.size=W6.heap.size+3):=Lib.hid ⟨hz7,hz9⟩
     clear hW9 kN hB7 hB9 hB69 hB6 hz7 hz9 k6S k6D k6P k6E
     gi_wp2_with fail
     refine UL rfl (by have:=hn.out;omega) (gf:=146) rfl trivial (enters_of Tryz.func146 (by kernel_rfl) rfl)
      (Te (n - 1) s hs dir w.heap.size W7.heap.size (W7.heap.size+1) ds ms W9 cS cD kSp (by have:=HZ9.out;have:=HZ6.out;omega) (by have:=HZ9.out;have:=HZ6.out;omega) (by omega))
      (fun b hb=>by have:=HZ9.out;omega) KeepC.trans (fun W l o o' hl ho hc=>by have:=HZ9.out;have:=HZ6.out;exact Tc (B:=W9.heap.size) (by omega) (by omega) (by omega) W l o o' hl ho hc) (Below.refl _ _) (fun _=>rfl)
      (fun pre W=>W.heap[w.heap.size]?=some (.cells #[ds,ms] 31)∧Boxed W (w.heap.size+1+1) 9 (.string ⟨#[]⟩)∧Boxed W (w.heap.size+1+1+1) 4 (.bool false)∧(∃v,Boxed W W6.heap.size 63 v∧W.ownsRow W9.heap.size 9 1 v (Cq s pre).length ((Cq s pre).map Value.string))∧(0,1)∉pre∧Below w.heap.size w W)
      (fun c pre W=>c= .ret∧Boxed W (w.heap.size+1+1) 9 (.string (Gv s (pre.takeWhile fun x:A9=>decide (x≠(0,1)))))∧Boxed W (w.heap.size+1+1+1) 4 (.bool true)∧(0,1)∈pre∧Below w.heap.size w W)
      (fun s X Y h hm=>by
        obtain⟨h1,h2,h3,⟨v,h4,h5⟩,h6,h7⟩:=h
        have z9:=HZ9.out
        have z6:=HZ6.out
        exact⟨(hm.block _ (Bp h1) (by omega) (.inr ⟨_,h1,rfl⟩)).trans h1,hm.boxed h2 (by omega),hm.boxed h3 (by omega),⟨v,hm.boxed h4 (by omega),hm.rowH h5 (fun b hb=>by omega)⟩,h6,hm.under h7 (Nat.le_refl _) (fun b hb=>by omega) (by omega)⟩)
      (fun c s X Y h hm=>by
        obtain⟨h1,h2,h3,h6,h7⟩:=h
        have z9:=HZ9.out
        have z6:=HZ6.out
        exact⟨h1,hm.boxed h2 (by omega),hm.boxed h3 (by omega),h6,hm.under h7 (Nat.le_refl _) (fun b hb=>by omega) (by omega)⟩)
      ⟨k9S,k9P,k9E,⟨_,kN9,World.ownsRow_nil _ _ _ _⟩,by simp,hBw⟩
      (fun x W=>{tmps:=#[.agg #[ds,ms], .agg #[.int .i64 dir.1, .int .i64 dir.2], .pointer (some ⟨w.heap.size,0,none⟩), .pointer (some ⟨w.heap.size+1,0,none⟩), .pointer (some ⟨w.heap.size+1+1,0,none⟩), .pointer (some ⟨w.heap.size+1+1+1,0,none⟩), .pointer (some ⟨W6.heap.size,0,none⟩), .pointer (some ⟨W.heap.size,0,none⟩),undef,undef,undef, .agg #[ds,ms],
        .agg #[.int .i64 dir.1, .int .i64 dir.2], .bool true, .bool false, .bool false, .agg #[ds,ms], .pointer (some ⟨w.heap.size+1,0,none⟩), .int .i64 dir.1, .bool true, .bool false, .bool false, .agg #[ds,ms], .agg #[.int .i64 dir.1, .int .i64 dir.2],
        .func (.func 146) #[] #[.pointer (some ⟨W7.heap.size,0,none⟩), .pointer (some ⟨W7.heap.size+1,0,none⟩)], .agg #[.int .i64 x.1, .int .i64 x.2],undef,undef,undef,undef,undef,undef,undef,undef,undef,undef,undef,undef,undef,undef,undef,undef,undef,undef,undef,undef,undef,undef],defers:=[]})
      (fun x W=>W.alloc (.cells #[.int .i64 x.1, .int .i64 x.2] 36))
      (fun x W hsz=>⟨FW _ _,by have:=HZ9.out;have:=HZ6.out;exact MU (FW _ _) (by omega) (by omega) (by omega)⟩) ?assign ?body ?done ?stop
     case assign=>
      intro l x W K hsz hK
      unfold DV
      gi_wp2
      exact hK
     case body=>
      rintro l pre x W0 W ⟨c1,cP,cE,⟨v,cN,hrow⟩,hnm,hbw⟩ hpf hsz hszW hcell hlW hrl
      have cX:=hcell _ _ (J4 W0 (.cells #[.int .i64 x.1, .int .i64 x.2] 36)) rfl
      simp only[MC]at hszW
      have HN:=Lib.hid hnm
      have HZ:=Lib.hid hsz
      have HPF:=Lib.hid hpf
      clear hnm hsz hcell hpf k9S k9P k9E kN9 cS cD kSp
      obtain⟨a1,b1⟩:=By c1
      obtain⟨aX,bX⟩:=By cX
      have aP:=cP.cell
      have bP:=cP.frozen
      have aE:=cE.cell
      have bE:=cE.frozen
      have aN:=cN.cell
      have bN:=cN.frozen
      obtain⟨xd,xi⟩:=x
      simp only at aX cX
      by_cases hx:(xd,xi)=(0,1)
      ·obtain⟨rfl,rfl⟩:=Prod.mk.inj hx
       obtain⟨A,cc,rfl⟩:∃A c,v= .slice A (Cq s pre).length c:=by
        rcases hrow.2 with⟨rfl,hn⟩|⟨g,cap,cur,rfl,_⟩
        ·exact⟨none,0,by rw[hn]⟩
        exact⟨_,_,rfl⟩
       have cN':Boxed (W.alloc (.cells #[.string ⟨#[47]⟩] 9)) W6.heap.size 63 (.slice A (Cq s pre).length cc):=Cl cN _
       have aN':=cN'.cell
       gi_wp2_with fail
       refine Dx ((CallsIn.inRound l (callsIn_wide.2 (Zu A (Cq s pre).length cc _))).mono ?_)
       rintro e Wb ⟨rfl,hWb⟩
       have z9:=HZ9.out
       have z6:=HZ6.out
       have zz:=HZ.out
       obtain⟨g,hgl,hNI⟩:=Zy hrow (g0:=w.heap.size) (by omega)
       have hza:(W.alloc (.cells #[.string ⟨#[47]⟩] 9)).heap.size=W.heap.size+1:=MC _ _
       rw[hza]
       have hBb:Below W.heap.size W Wb:=by rw[hWb];exact Hd _ _ _
       have hzb:Wb.heap.size=W.heap.size+2:=by rw[hWb];exact TA _ _ _
       have kW:Boxed Wb W.heap.size 9 (.string ⟨#[47]⟩):=by rw[hWb];exact J5 _ _ _
       have kB:Boxed Wb (W.heap.size+1) 63 (.slice A (Cq s pre).length cc):=by rw[hWb];exact J6 _ _ _
       have kP:Boxed Wb (w.heap.size+1+1) 9 (.string ⟨#[]⟩):=BR cP hBb (Bp cP)
       have kE:Boxed Wb (w.heap.size+1+1+1) 4 (.bool false):=BR cE hBb (Bp cE)
       have kG:=hNI.keep (hBb.block g hgl)
       have kL:∃r,Wb.heap[l]?=some (.loop r):=hrl.imp fun r hr=>BR hr hBb (Bp hr)
       obtain⟨rl,kL⟩:=kL
       have hbb:Below w.heap.size w Wb:=hbw.trans (hBb.mono hbw.size)
       have hkf:KeepsFrom W9.heap.size W Wb:=KM hBb
       have hlen:(Cq s pre).length≤5000:=by
        have h1:=UP s pre
        have h2:=HPF.out.length_le
        have h3:=Qi s (BL s.files) dir
        simp only[List.length_append]at h2
        omega
       have hall:∀y∈Cq s pre,y.size≤100:=by
        intro y hy
        unfold Cq at hy
        obtain⟨z,_,rfl⟩:=List.mem_map.1 hy
        exact HNM.out z
       have HL:=Lib.hid hlen
       have HA:=Lib.hid hall
       have HB:=Lib.hid hzb
       have HGL:=Lib.hid hgl
       clear hWb cN' aN' a1 b1 aX bX aP bP aE bE aN bN hza hlen hall hzb hgl z9 z6 zz
       gi_wp2_with fail
       refine Zs (l₀:=l) (r₀:=rl) rfl kL (by have:=hn.out;omega) (gf:=196) rfl trivial (enters_of Tryz.func196 (by kernel_rfl) rfl)
        ((Zw (n - 1 - 1 - 1) (Cq s pre) (by have:=HL.out;omega) (W.heap.size+1) g A (Cq s pre).length cc Wb kB kG (.inr (by have:=HB.out;have:=HGL.out;omega))).inRound l)
        (fun b hb=>hb.elim) (fun h k=>⟨k.1.trans h.1,k.2.trans h.2⟩) (fun X l' o o' hl' _ _=>by have:=HB.out;have:=HGL.out;exact⟨World.putObj_heap_other (by omega),World.putObj_heap_other (by omega)⟩) (Below.refl _ _) (fun _=>rfl)
        (fun pr X=>Boxed X W.heap.size 9 (.string ((pr.map (·.2)).foldl DD ⟨#[47]⟩))∧Boxed X (w.heap.size+1+1) 9 (.string ⟨#[]⟩)∧Boxed X (w.heap.size+1+1+1) 4 (.bool false)∧KeepsFrom W9.heap.size W X∧Below w.heap.size w X)
        (fun _ _ _=>False)
        (fun s' X Y h hm=>⟨hm.boxed h.1 (fun h=>h),hm.boxed h.2.1 (fun h=>h),hm.boxed h.2.2.1 (fun h=>h),⟨Nat.le_trans h.2.2.2.1.size hm.size,fun k o hk hko hc=>by
          have hX:=h.2.2.2.1.same k o hk hko hc
          have:=Bp hko
          have:=HB.out
          exact(hm.block k (Bp hX) (fun h=>h) (.inl (by omega))).trans hX⟩,hm.under h.2.2.2.2 (Nat.le_refl _) (fun b hb=>hb.elim) (by have:=HB.out;have:=HZ.out;have:=HZ9.out;have:=HZ6.out;omega)⟩)
        (fun _ _ _ _ h _=>h)
        ⟨kW,kP,kE,hkf,hbb⟩
        (fun y=>{tmps:=#[.agg #[ds,ms], .agg #[.int .i64 dir.1, .int .i64 dir.2], .pointer (some ⟨w.heap.size,0,none⟩), .pointer (some ⟨w.heap.size+1,0,none⟩), .pointer (some ⟨w.heap.size+1+1,0,none⟩), .pointer (some ⟨w.heap.size+1+1+1,0,none⟩), .pointer (some ⟨W6.heap.size,0,none⟩), .pointer (some ⟨W0.heap.size,0,none⟩), .pointer (some ⟨W.heap.size,0,none⟩),undef, .string y.2, .agg #[ds,ms],
          .agg #[.int .i64 dir.1, .int .i64 dir.2], .bool true, .bool false, .bool false, .agg #[ds,ms], .pointer (some ⟨w.heap.size+1,0,none⟩), .int .i64 dir.1, .bool true, .bool false, .bool false, .agg #[ds,ms], .agg #[.int .i64 dir.1, .int .i64 dir.2],
          .func (.func 146) #[] #[.pointer (some ⟨W7.heap.size,0,none⟩), .pointer (some ⟨W7.heap.size+1,0,none⟩)], .agg #[.int .i64 0, .int .i64 1], .bool true, .agg #[.int .i64 0, .int .i64 1], .agg #[.int .i64 0, .int .i64 1], .bool true, .slice A (Cq s pre).length cc,
          .func (.func 196) #[] #[.pointer (some ⟨W.heap.size+1,0,none⟩)], .int .i64 y.1, .string y.2,undef,undef,undef,undef,undef,undef,undef,undef,undef,undef,undef,undef,undef,undef],defers:=[]}) ?assign2 ?body2 ?done2 ?stop2
       case assign2=>
        intro l2 y X K hK
        gi_wp2
        exact hK
       case body2=>
        rintro l2 pr y X ⟨e1,e2,e3,e4,e5⟩ hpf2 hszX
        have hp1:(pr.map (·.2)++[y.2])<+:(Cq s pre).reverse:=by simpa using hpf2
        have hl1:=hp1.length_le
        have hs1:=UN (pr.map (·.2)) ⟨#[47]⟩ fun z hz=>HA.out z (List.mem_reverse.1 (hp1.subset (List.mem_append_left _ hz)))
        have hs2:y.2.size≤100:=HA.out _ (List.mem_reverse.1 (hp1.subset (by simp)))
        have hs3:((pr.map (·.2)).foldl DD ⟨#[47]⟩).size≤1000000:=by
         have h1:(⟨#[47]⟩:ByteArray).size=1:=rfl
         have:=HL.out
         simp only[List.length_append,List.length_map,List.length_cons,List.length_nil,List.length_reverse]at hl1
         simp only[List.length_map]at hs1
         omega
        have HF:Hid (((pr++[y]).map (·.2)).foldl DD ⟨#[47]⟩=DD ((pr.map (·.2)).foldl DD ⟨#[47]⟩) y.2):=Lib.hid (by simp)
        clear hpf2 hp1 hl1 hs1
        generalize (pr.map (·.2)).foldl DD ⟨#[47]⟩=dd at *
        obtain⟨yi,yn⟩:=y
        simp only at hs2 HF
        have t1:=e1.cell
        have t2:=e1.frozen
        gi_wp2_with fail
        refine Dx ((CallsIn.inRound l2 (CallsIn.inRound l (callsIn_wide.2 (UM dd yn X hs3 (by omega))))).mono ?_)
        rintro e X' ⟨rfl,rfl⟩
        gi_wp2
        have:=HB.out
        have hgl:=HGL.out
        have z9:=HZ9.out
        have z6:=HZ6.out
        have zz:=HZ.out
        refine⟨MS (KeepsFrom.refl _ _) (by omega) _,⟨Below.heap_setCell _ _ _ _ (by show W.heap.size+1≠W.heap.size;omega),Below.heap_setCell _ _ _ _ (by show g≠W.heap.size;omega)⟩,by rw[HF.out];exact e1.set _,e2.other (by omega) _,e3.other (by omega) _,?_,e5.setCell (by show w.heap.size≤W.heap.size;omega) _⟩
        refine⟨Nat.le_trans e4.size (by simp),fun k o hk hko hc=>?_⟩
        have:=Bp hko
        exact(Below.heap_setCell _ _ _ _ (by show k≠W.heap.size;omega)).trans (e4.same k o hk hko hc)
       case done2=>
        rintro xs X hS ⟨e1,e2,e3,e4,e5⟩
        rw[hS]at e1
        change Boxed X W.heap.size 9 (.string (Gv s pre))at e1
        have t1:=e1.cell
        have t2:=e1.frozen
        have t3:=e2.cell
        have t4:=e2.frozen
        have t5:=e3.cell
        have t6:=e3.frozen
        clear hS
        gi_wp2_with fail
        have z9:=HZ9.out
        have z6:=HZ6.out
        have zz:=HZ.out
        refine⟨MS (MS e4 (by omega) _) (by omega) _,rfl,?_,(Boxed.other e3 (by omega) _).set _,by simp,(e5.setCell (by show w.heap.size≤w.heap.size+1+1;omega) _).setCell (by show w.heap.size≤w.heap.size+1+1+1;omega) _⟩
        rw[aA HN.out]
        exact Boxed.other (e2.set _) (by omega) _
       case stop2=>
        intro c pr X _ hf
        exact hf.elim
      by_cases hi:xi=1
      ·subst hi
       have hd:xd≠0:=fun e=>hx (by rw[e])
       gi_wp2_with fail
       have z9:=HZ9.out
       have z6:=HZ6.out
       have zz:=HZ.out
       exact⟨KM (Below.refl _ _),MU (Below.refl _ _) (by omega) (by omega) (by omega),c1,cP,cE,⟨v,cN,by rw[UO,if_pos rfl];exact hrow⟩,by
        intro hm
        rcases List.mem_append.1 hm with hm|hm
        ·exact HN.out hm
        exact hx (List.mem_singleton.1 hm).symm,hbw⟩
      gi_wp2_with fail
      have hbd:Below W.heap.size W W.drew:=(Below.refl _ _).drew
      have d1:W.drew.heap[w.heap.size]?=some (.cells #[ds,ms] 31):=c1
      have dX:W.drew.heap[W0.heap.size]?=some (.cells #[.int .i64 xd, .int .i64 xi] 36):=cX
      have dN:Boxed W.drew W6.heap.size 63 v:=cN
      have dP:Boxed W.drew (w.heap.size+1+1) 9 (.string ⟨#[]⟩):=cP
      have dE:Boxed W.drew (w.heap.size+1+1+1) 4 (.bool false):=cE
      have drow:W.drew.ownsRow W9.heap.size 9 1 v (Cq s pre).length ((Cq s pre).map Value.string):=hrow
      refine aB (by kernel_rfl) 7 rfl ?_
      intro ops hops
      have HO:=Lib.hid hops
      clear hops
      have hszD:W.drew.heap.size=W.heap.size:=rfl
      have hszO:=hszW
      rw[←hszD]at hszW
      have hbW:=hbd
      clear a1 b1 aX bX aP bP aE bE aN bN c1 cX cN cP cE hrow hszD hrl hbd
      generalize W.drew=W1 at *
      obtain⟨a1,b1⟩:=By d1
      obtain⟨aX,bX⟩:=By dX
      have aN:=dN.cell
      have bN:=dN.frozen
      have hB1:Below w.heap.size w W1:=hbw.trans (hbW.mono hbw.size)
      have hcall:∀X,Below w.heap.size w X→Calls Tryz.prog 180 #[.agg #[ds,ms], .agg #[.int .i64 xd, .int .i64 xi]] X fun e w'=>e= .returned (.string (C7 s (xd,xi)))∧Below X.heap.size X w':=by
       intro X hX
       have hSX:=h.below hX (Nat.le_refl _)
       refine(MT (Zr s (xd,xi) hs) (vs:=[.agg #[ds,ms], .agg #[.int .i64 xd, .int .i64 xi]]) hSX.1 (TY hSX hs (xd,xi))).mono ?_
       rintro e w' ⟨u,G',rfl,hr,hb⟩
       simp only[rep]at hr
       exact⟨by rw[hr],hb⟩
      have tail:∀w2:World,Below W1.heap.size W1 w2→(w2.alloc (.cells #[.string (C7 s (xd,xi))] 9)).cell? ⟨W6.heap.size,0,none⟩=some v→
          wpAnyIn (Fence.wide.inRound l) (n - 1 - 1) Tryz.prog .any ops (Exit.inBlock 2 (Exit.inBlock 1 (ownPostG W9.heap.size (KeepC w.heap.size W7.heap.size (W7.heap.size+1))
           (fun pre W=>W.heap[w.heap.size]?=some (.cells #[ds,ms] 31)∧Boxed W (w.heap.size+1+1) 9 (.string ⟨#[]⟩)∧Boxed W (w.heap.size+1+1+1) 4 (.bool false)∧(∃v,Boxed W W6.heap.size 63 v∧W.ownsRow W9.heap.size 9 1 v (Cq s pre).length ((Cq s pre).map Value.string))∧(0,1)∉pre∧Below w.heap.size w W)
           (fun c pre W=>c= .ret∧Boxed W (w.heap.size+1+1) 9 (.string (Gv s (pre.takeWhile fun x:A9=>decide (x≠(0,1)))))∧Boxed W (w.heap.size+1+1+1) 4 (.bool true)∧(0,1)∈pre∧Below w.heap.size w W)
           (pre++[(xd,xi)]) W))) 2 #[true,true,true,true,true,false,false]
           {tmps:=#[.agg #[ds,ms], .agg #[.int .i64 dir.1, .int .i64 dir.2], .pointer (some ⟨w.heap.size,0,none⟩), .pointer (some ⟨w.heap.size+1,0,none⟩), .pointer (some ⟨w.heap.size+1+1,0,none⟩), .pointer (some ⟨w.heap.size+1+1+1,0,none⟩), .pointer (some ⟨W6.heap.size,0,none⟩), .pointer (some ⟨W0.heap.size,0,none⟩),undef,undef,undef, .agg #[ds,ms], .agg #[.int .i64 dir.1, .int .i64 dir.2], .bool true, .bool false, .bool false, .agg #[ds,ms], .pointer (some ⟨w.heap.size+1,0,none⟩), .int .i64 dir.1, .bool true, .bool false, .bool false, .agg #[ds,ms], .agg #[.int .i64 dir.1, .int .i64 dir.2], .func (.func 146) #[] #[.pointer (some ⟨W7.heap.size,0,none⟩), .pointer (some ⟨W7.heap.size+1,0,none⟩)], .agg #[.int .i64 xd, .int .i64 xi], .bool false, .agg #[.int .i64 xd, .int .i64 xi], .agg #[.int .i64 0, .int .i64 1], .bool false,undef,undef,undef,undef,undef,undef,undef,undef, .bool true, .pointer (some ⟨W0.heap.size,1,none⟩), .int .i64 xi, .bool true,v, .agg #[ds,ms], .agg #[.int .i64 xd, .int .i64 xi], .string (C7 s (xd,xi)), .slice (some ⟨w2.heap.size,0,none⟩) 1 1,undef],defers:=[]} (w2.alloc (.cells #[.string (C7 s (xd,xi))] 9)):=by
       intro w2 hb2 hcN
       have z9:=HZ9.out
       have z6:=HZ6.out
       have zz:=HZ.out
       have hw2:=hb2.size
       have hw1:=hbW.size
       have drow2:w2.ownsRow W9.heap.size 9 1 v (Cq s pre).length ((Cq s pre).map Value.string):=World.ownsRow.kept drow (M9 hb2 none) (by cases v.ownBlock<;>simp)
       have dN2:Boxed w2 W6.heap.size 63 v:=BR dN hb2 (Bp dN)
       have hlen:(Cq s pre).length+1≤100000:=by
        have h1:=UP s pre
        have h2:=HPF.out.length_le
        have h3:=Qi s (BL s.files) dir
        simp only[List.length_append]at h2
        omega
       have hmx:(Cq s pre).length+1≤maxLen:=by unfold maxLen;omega
       have HZ2:Hid (W9.heap.size≤w2.heap.size):=Lib.hid (by omega)
       have HZB:Hid (W6.heap.size<W9.heap.size):=Lib.hid (by omega)
       clear z9 z6 zz hw2 hw1
       refine D7 (rs:=[5]) (by rw[HO.out];kernel_rfl) (by simp) ?_
       intro i hi'
       obtain rfl:=List.mem_singleton.1 hi'
       refine CN HO.out rfl fun K hK=>?_
       refine wpListIn_append_own _ rfl _ _ 63 rfl W9.heap.size 9 i0 (.string ⟨#[]⟩) 1 16 Tryz.underlying63 hi0 hz0 hz1 hz2 rfl (by decide) _ _ _ rfl (drow2.alloc _) ⟨w2.heap.size,0,none⟩ 1 1 [.string (C7 s (xd,xi))] rfl rfl (cell_one_new _ _ _) (by simp[Value.oneCell']) (by omega) (by omega) (by have:=HZ2.out;simp;omega) ?_
       intro v' w4 hown' hgrow _
       obtain⟨g',cap',rfl⟩:=ownsRow_succ hown'
       obtain⟨hv1,hv2,hr2,hk2,hb4,hj2,ht2⟩:=aC dN2 drow2 HZ2.out HZB.out hown' hgrow
       have hc1:=hv1.cell
       have hf1:=hv1.frozen
       gi_wp2
       refine D7 (rs:=[6]) (by rw[HO.out];kernel_rfl) (by simp) ?_
       intro i hi'
       obtain rfl:=List.mem_singleton.1 hi'
       refine CN HO.out rfl fun K hK=>?_
       gi_wp2
       refine⟨by rw[HO.out];kernel_rfl,?_⟩
       have z9:=HZ9.out
       have z6:=HZ6.out
       have zz:=HZ.out
       have hw2:=hb2.size
       have hw1:=hbW.size
       have hb02:Below W.heap.size W w2:=hbW.trans (hb2.mono hw1)
       have e1:=(hj2 w.heap.size (by omega) (by omega)).trans (BR d1 hb2 (Bp d1))
       have eP:Boxed _ (w.heap.size+1+1) 9 (.string ⟨#[]⟩):=(hj2 (w.heap.size+1+1) (by omega) (by omega)).trans (BR dP hb2 (Bp dP))
       have eE:Boxed _ (w.heap.size+1+1+1) 4 (.bool false):=(hj2 (w.heap.size+1+1+1) (by omega) (by omega)).trans (BR dE hb2 (Bp dE))
       refine⟨(KM hb02).trans (hk2.from _),(MU hb02 (by omega) (by omega) (by omega)).trans ⟨hk2.size,hj2 _ (by omega) (by omega),hj2 _ (by omega) (by omega),fun b hb=>hj2 b (by omega) (by omega),fun b cs hb=>ht2 b cs _ (by decide) (by decide) hb⟩,e1,eP,eE,⟨_,hv2,?_⟩,?_,(hB1.trans (hb2.mono hB1.size)).trans (hb4.mono (by omega))⟩
       ·rw[UO,if_neg (show¬(xd,xi).2=1 from hi),List.length_append,List.map_append]
        exact hr2
       intro hm
       rcases List.mem_append.1 hm with hm|hm
       ·exact HN.out hm
       exact hx (List.mem_singleton.1 hm).symm
      refine D7 (rs:=[0,1,2]) (by rw[HO.out];kernel_rfl) (by simp) ?_
      intro i hi
      simp only[List.mem_cons,List.not_mem_nil,or_false]at hi
      rcases hi with rfl|rfl|rfl
      ·skip
       refine CN HO.out rfl fun K hK=>?_
       gi_wp2
       refine D7 (rs:=[1,2]) (by rw[HO.out];kernel_rfl) (by simp) ?_
       intro i hi
       simp only[List.mem_cons,List.not_mem_nil,or_false]at hi
       rcases hi with rfl|rfl
       ·skip
        refine CN HO.out rfl fun K hK=>?_
        gi_wp2
        refine D7 (rs:=[2]) (by rw[HO.out];kernel_rfl) (by simp) ?_
        intro i hi
        obtain rfl:=List.mem_singleton.1 hi
        refine CN HO.out rfl fun K hK=>?_
        gi_wp2
        refine D7 (rs:=[3]) (by rw[HO.out];kernel_rfl) (by simp) ?_
        intro i hi
        obtain rfl:=List.mem_singleton.1 hi
        refine CN HO.out rfl fun K hK=>?_
        gi_wp2_with fail
        refine Dx ((CallsIn.inRound l (callsIn_wide.2 (hcall _ hB1))).mono ?_)
        rintro e w2 ⟨rfl,hb2⟩
        have n1:=BR d1 hb2 (Bp d1)
        have nX:=BR dX hb2 (Bp dX)
        have nN:Boxed w2 W6.heap.size 63 v:=BR dN hb2 (Bp dN)
        clear a1 b1 aX bX aN bN
        obtain⟨a1,b1⟩:=By n1
        obtain⟨aX,bX⟩:=By nX
        have aN:=nN.cell
        have bN:=nN.frozen
        gi_wp2
        refine D7 (rs:=[4]) (by rw[HO.out];kernel_rfl) (by simp) ?_
        intro i hi
        obtain rfl:=List.mem_singleton.1 hi
        refine CN HO.out rfl fun K hK=>?_
        have nN3:Boxed (w2.alloc (.cells #[.string (C7 s (xd,xi))] 9)) W6.heap.size 63 v:=Cl nN _
        have hc2:(w2.alloc (.cells #[.string (C7 s (xd,xi))] 9)).cell? ⟨W6.heap.size,0,none⟩=some v:=nN3.cell
        gi_wp2
        exact tail w2 hb2 hc2
       skip
       refine CN HO.out rfl fun K hK=>?_
       gi_wp2
       refine D7 (rs:=[1]) (by rw[HO.out];kernel_rfl) (by simp) ?_
       intro i hi
       obtain rfl:=List.mem_singleton.1 hi
       refine CN HO.out rfl fun K hK=>?_
       gi_wp2
       refine D7 (rs:=[3]) (by rw[HO.out];kernel_rfl) (by simp) ?_
       intro i hi
       obtain rfl:=List.mem_singleton.1 hi
       refine CN HO.out rfl fun K hK=>?_
       gi_wp2_with fail
       refine Dx ((CallsIn.inRound l (callsIn_wide.2 (hcall _ hB1))).mono ?_)
       rintro e w2 ⟨rfl,hb2⟩
       have n1:=BR d1 hb2 (Bp d1)
       have nX:=BR dX hb2 (Bp dX)
       have nN:Boxed w2 W6.heap.size 63 v:=BR dN hb2 (Bp dN)
       clear a1 b1 aX bX aN bN
       obtain⟨a1,b1⟩:=By n1
       obtain⟨aX,bX⟩:=By nX
       have aN:=nN.cell
       have bN:=nN.frozen
       gi_wp2
       refine D7 (rs:=[4]) (by rw[HO.out];kernel_rfl) (by simp) ?_
       intro i hi
       obtain rfl:=List.mem_singleton.1 hi
       refine CN HO.out rfl fun K hK=>?_
       have nN3:Boxed (w2.alloc (.cells #[.string (C7 s (xd,xi))] 9)) W6.heap.size 63 v:=Cl nN _
       have hc2:(w2.alloc (.cells #[.string (C7 s (xd,xi))] 9)).cell? ⟨W6.heap.size,0,none⟩=some v:=nN3.cell
       gi_wp2
       exact tail w2 hb2 hc2
      ·skip
       refine CN HO.out rfl fun K hK=>?_
       gi_wp2
       refine D7 (rs:=[0,2]) (by rw[HO.out];kernel_rfl) (by simp) ?_
       intro i hi
       simp only[List.mem_cons,List.not_mem_nil,or_false]at hi
       rcases hi with rfl|rfl
       ·skip
        refine CN HO.out rfl fun K hK=>?_
        gi_wp2
        refine D7 (rs:=[2]) (by rw[HO.out];kernel_rfl) (by simp) ?_
        intro i hi
        obtain rfl:=List.mem_singleton.1 hi
        refine CN HO.out rfl fun K hK=>?_
        gi_wp2
        refine D7 (rs:=[3]) (by rw[HO.out];kernel_rfl) (by simp) ?_
        intro i hi
        obtain rfl:=List.mem_singleton.1 hi
        refine CN HO.out rfl fun K hK=>?_
        gi_wp2_with fail
        refine Dx ((CallsIn.inRound l (callsIn_wide.2 (hcall _ hB1))).mono ?_)
        rintro e w2 ⟨rfl,hb2⟩
        have n1:=BR d1 hb2 (Bp d1)
        have nX:=BR dX hb2 (Bp dX)
        have nN:Boxed w2 W6.heap.size 63 v:=BR dN hb2 (Bp dN)
        clear a1 b1 aX bX aN bN
        obtain⟨a1,b1⟩:=By n1
        obtain⟨aX,bX⟩:=By nX
        have aN:=nN.cell
        have bN:=nN.frozen
        gi_wp2
        refine D7 (rs:=[4]) (by rw[HO.out];kernel_rfl) (by simp) ?_
        intro i hi
        obtain rfl:=List.mem_singleton.1 hi
        refine CN HO.out rfl fun K hK=>?_
        have nN3:Boxed (w2.alloc (.cells #[.string (C7 s (xd,xi))] 9)) W6.heap.size 63 v:=Cl nN _
        have hc2:(w2.alloc (.cells #[.string (C7 s (xd,xi))] 9)).cell? ⟨W6.heap.size,0,none⟩=some v:=nN3.cell
        gi_wp2
        exact tail w2 hb2 hc2
       skip
       refine CN HO.out rfl fun K hK=>?_
       gi_wp2
       refine D7 (rs:=[0,3]) (by rw[HO.out];kernel_rfl) (by simp) ?_
       intro i hi
       simp only[List.mem_cons,List.not_mem_nil,or_false]at hi
       rcases hi with rfl|rfl
       ·skip
        refine CN HO.out rfl fun K hK=>?_
        gi_wp2
        refine D7 (rs:=[3]) (by rw[HO.out];kernel_rfl) (by simp) ?_
        intro i hi
        obtain rfl:=List.mem_singleton.1 hi
        refine CN HO.out rfl fun K hK=>?_
        gi_wp2_with fail
        refine Dx ((CallsIn.inRound l (callsIn_wide.2 (hcall _ hB1))).mono ?_)
        rintro e w2 ⟨rfl,hb2⟩
        have n1:=BR d1 hb2 (Bp d1)
        have nX:=BR dX hb2 (Bp dX)
        have nN:Boxed w2 W6.heap.size 63 v:=BR dN hb2 (Bp dN)
        clear a1 b1 aX bX aN bN
        obtain⟨a1,b1⟩:=By n1
        obtain⟨aX,bX⟩:=By nX
        have aN:=nN.cell
        have bN:=nN.frozen
        gi_wp2
        refine D7 (rs:=[4]) (by rw[HO.out];kernel_rfl) (by simp) ?_
        intro i hi
        obtain rfl:=List.mem_singleton.1 hi
        refine CN HO.out rfl fun K hK=>?_
        have nN3:Boxed (w2.alloc (.cells #[.string (C7 s (xd,xi))] 9)) W6.heap.size 63 v:=Cl nN _
        have hc2:(w2.alloc (.cells #[.string (C7 s (xd,xi))] 9)).cell? ⟨W6.heap.size,0,none⟩=some v:=nN3.cell
        gi_wp2
        exact tail w2 hb2 hc2
       skip
       refine CN HO.out rfl fun K hK=>?_
       gi_wp2_with fail
       refine Dx ((CallsIn.inRound l (callsIn_wide.2 (hcall _ hB1))).mono ?_)
       rintro e w2 ⟨rfl,hb2⟩
       have n1:=BR d1 hb2 (Bp d1)
       have nX:=BR dX hb2 (Bp dX)
       have nN:Boxed w2 W6.heap.size 63 v:=BR dN hb2 (Bp dN)
       clear a1 b1 aX bX aN bN
       obtain⟨a1,b1⟩:=By n1
       obtain⟨aX,bX⟩:=By nX
       have aN:=nN.cell
       have bN:=nN.frozen
       gi_wp2
       refine D7 (rs:=[0,4]) (by rw[HO.out];kernel_rfl) (by simp) ?_
       intro i hi
       simp only[List.mem_cons,List.not_mem_nil,or_false]at hi
       rcases hi with rfl|rfl
       ·skip
        refine CN HO.out rfl fun K hK=>?_
        gi_wp2
        refine D7 (rs:=[4]) (by rw[HO.out];kernel_rfl) (by simp) ?_
        intro i hi
        obtain rfl:=List.mem_singleton.1 hi
        refine CN HO.out rfl fun K hK=>?_
        have nN3:Boxed (w2.alloc (.cells #[.string (C7 s (xd,xi))] 9)) W6.heap.size 63 v:=Cl nN _
        have hc2:(w2.alloc (.cells #[.string (C7 s (xd,xi))] 9)).cell? ⟨W6.heap.size,0,none⟩=some v:=nN3.cell
        gi_wp2
        exact tail w2 hb2 hc2
       skip
       refine CN HO.out rfl fun K hK=>?_
       have nN3:Boxed (w2.alloc (.cells #[.string (C7 s (xd,xi))] 9)) W6.heap.size 63 v:=Cl nN _
       have hc2:(w2.alloc (.cells #[.string (C7 s (xd,xi))] 9)).cell? ⟨W6.heap.size,0,none⟩=some v:=nN3.cell
       gi_wp2
       refine D7 (rs:=[0]) (by rw[HO.out];kernel_rfl) (by simp) ?_
       intro i hi
       obtain rfl:=List.mem_singleton.1 hi
       refine CN HO.out rfl fun K hK=>?_
       gi_wp2
       exact tail w2 hb2 hc2
      skip
      refine CN HO.out rfl fun K hK=>?_
      gi_wp2
      refine D7 (rs:=[0,1]) (by rw[HO.out];kernel_rfl) (by simp) ?_
      intro i hi
      simp only[List.mem_cons,List.not_mem_nil,or_false]at hi
      rcases hi with rfl|rfl
      ·skip
       refine CN HO.out rfl fun K hK=>?_
       gi_wp2
       refine D7 (rs:=[1]) (by rw[HO.out];kernel_rfl) (by simp) ?_
       intro i hi
       obtain rfl:=List.mem_singleton.1 hi
       refine CN HO.out rfl fun K hK=>?_
       gi_wp2
       refine D7 (rs:=[3]) (by rw[HO.out];kernel_rfl) (by simp) ?_
       intro i hi
       obtain rfl:=List.mem_singleton.1 hi
       refine CN HO.out rfl fun K hK=>?_
       gi_wp2_with fail
       refine Dx ((CallsIn.inRound l (callsIn_wide.2 (hcall _ hB1))).mono ?_)
       rintro e w2 ⟨rfl,hb2⟩
       have n1:=BR d1 hb2 (Bp d1)
       have nX:=BR dX hb2 (Bp dX)
       have nN:Boxed w2 W6.heap.size 63 v:=BR dN hb2 (Bp dN)
       clear a1 b1 aX bX aN bN
       obtain⟨a1,b1⟩:=By n1
       obtain⟨aX,bX⟩:=By nX
       have aN:=nN.cell
       have bN:=nN.frozen
       gi_wp2
       refine D7 (rs:=[4]) (by rw[HO.out];kernel_rfl) (by simp) ?_
       intro i hi
       obtain rfl:=List.mem_singleton.1 hi
       refine CN HO.out rfl fun K hK=>?_
       have nN3:Boxed (w2.alloc (.cells #[.string (C7 s (xd,xi))] 9)) W6.heap.size 63 v:=Cl nN _
       have hc2:(w2.alloc (.cells #[.string (C7 s (xd,xi))] 9)).cell? ⟨W6.heap.size,0,none⟩=some v:=nN3.cell
       gi_wp2
       exact tail w2 hb2 hc2
      skip
      refine CN HO.out rfl fun K hK=>?_
      gi_wp2
      refine D7 (rs:=[0,3]) (by rw[HO.out];kernel_rfl) (by simp) ?_
      intro i hi
      simp only[List.mem_cons,List.not_mem_nil,or_false]at hi
      rcases hi with rfl|rfl
      ·skip
       refine CN HO.out rfl fun K hK=>?_
       gi_wp2
       refine D7 (rs:=[3]) (by rw[HO.out];kernel_rfl) (by simp) ?_
       intro i hi
       obtain rfl:=List.mem_singleton.1 hi
       refine CN HO.out rfl fun K hK=>?_
       gi_wp2_with fail
       refine Dx ((CallsIn.inRound l (callsIn_wide.2 (hcall _ hB1))).mono ?_)
       rintro e w2 ⟨rfl,hb2⟩
       have n1:=BR d1 hb2 (Bp d1)
       have nX:=BR dX hb2 (Bp dX)
       have nN:Boxed w2 W6.heap.size 63 v:=BR dN hb2 (Bp dN)
       clear a1 b1 aX bX aN bN
       obtain⟨a1,b1⟩:=By n1
       obtain⟨aX,bX⟩:=By nX
       have aN:=nN.cell
       have bN:=nN.frozen
       gi_wp2
       refine D7 (rs:=[4]) (by rw[HO.out];kernel_rfl) (by simp) ?_
       intro i hi
       obtain rfl:=List.mem_singleton.1 hi
       refine CN HO.out rfl fun K hK=>?_
       have nN3:Boxed (w2.alloc (.cells #[.string (C7 s (xd,xi))] 9)) W6.heap.size 63 v:=Cl nN _
       have hc2:(w2.alloc (.cells #[.string (C7 s (xd,xi))] 9)).cell? ⟨W6.heap.size,0,none⟩=some v:=nN3.cell
       gi_wp2
       exact tail w2 hb2 hc2
      skip
      refine CN HO.out rfl fun K hK=>?_
      gi_wp2_with fail
      refine Dx ((CallsIn.inRound l (callsIn_wide.2 (hcall _ hB1))).mono ?_)
      rintro e w2 ⟨rfl,hb2⟩
      have n1:=BR d1 hb2 (Bp d1)
      have nX:=BR dX hb2 (Bp dX)
      have nN:Boxed w2 W6.heap.size 63 v:=BR dN hb2 (Bp dN)
      clear a1 b1 aX bX aN bN
      obtain⟨a1,b1⟩:=By n1
      obtain⟨aX,bX⟩:=By nX
      have aN:=nN.cell
      have bN:=nN.frozen
      gi_wp2
      refine D7 (rs:=[0,4]) (by rw[HO.out];kernel_rfl) (by simp) ?_
      intro i hi
      simp only[List.mem_cons,List.not_mem_nil,or_false]at hi
      rcases hi with rfl|rfl
      ·skip
       refine CN HO.out rfl fun K hK=>?_
       gi_wp2
       refine D7 (rs:=[4]) (by rw[HO.out];kernel_rfl) (by simp) ?_
       intro i hi
       obtain rfl:=List.mem_singleton.1 hi
       refine CN HO.out rfl fun K hK=>?_
       have nN3:Boxed (w2.alloc (.cells #[.string (C7 s (xd,xi))] 9)) W6.heap.size 63 v:=Cl nN _
       have hc2:(w2.alloc (.cells #[.string (C7 s (xd,xi))] 9)).cell? ⟨W6.heap.size,0,none⟩=some v:=nN3.cell
       gi_wp2
       exact tail w2 hb2 hc2
      skip
      refine CN HO.out rfl fun K hK=>?_
      have nN3:Boxed (w2.alloc (.cells #[.string (C7 s (xd,xi))] 9)) W6.heap.size 63 v:=Cl nN _
      have hc2:(w2.alloc (.cells #[.string (C7 s (xd,xi))] 9)).cell? ⟨W6.heap.size,0,none⟩=some v:=nN3.cell
      gi_wp2
      refine D7 (rs:=[0]) (by rw[HO.out];kernel_rfl) (by simp) ?_
      intro i hi
      obtain rfl:=List.mem_singleton.1 hi
      refine CN HO.out rfl fun K hK=>?_
      gi_wp2
      exact tail w2 hb2 hc2
     case done=>
      rintro D xs W hD hS ⟨c1,cP,cE,_,hnm,hbw⟩ hK
      have HS:=Lib.hid hS
      have HN:=Lib.hid hnm
      clear hS hnm
      have aP:=cP.cell
      have bP:=cP.frozen
      have aE:=cE.cell
      have bE:=cE.frozen
      gi_wp2
      have z6:=HZ6.out
      have z9:=HZ9.out
      have cP2:=Boxed.other (cP.set (.string ⟨#[]⟩)) (show w.heap.size+1+1≠w.heap.size+1+1+1 by omega) (.bool false)
      have cE2:=(Boxed.other cE (show w.heap.size+1+1+1≠w.heap.size+1+1 by omega) (.string ⟨#[]⟩)).set (.bool false)
      have hB2:=(hbw.setCell (p:=⟨w.heap.size+1+1,0,none⟩) (by show w.heap.size≤w.heap.size+1+1;omega) (.string ⟨#[]⟩)).setCell (p:=⟨w.heap.size+1+1+1,0,none⟩) (by show w.heap.size≤w.heap.size+1+1+1;omega) (.bool false)
      have hK2:=(KeepsOthers.setCell _ ⟨w.heap.size+1+1+1,0,none⟩ (.bool false)).same D _ ((KeepsOthers.setCell _ ⟨w.heap.size+1+1,0,none⟩ (.string ⟨#[]⟩)).same D _ hK rfl) rfl
      refine⟨by simp, .inl ⟨_,_,rfl,run_takeDeferred hK2,?_⟩⟩
      have hP:=(J9 cP2 (show w.heap.size+1+1≠D by omega) (.deferred none)).cell
      have hE:=(J9 cE2 (show w.heap.size+1+1+1≠D by omega) (.deferred none)).cell
      refine⟨.tuple #[.string ⟨#[]⟩, .bool false],by simp[results,Tryz.f137,go_sem,hP,hE],by rw[HW.out,if_neg (by rw[←HS.out];exact HN.out)],KN hB2 (by omega) _⟩
     case stop=>
      rintro D c pre W hD hSp ⟨rfl,cP,cE,hnm,hbw⟩ hK
      have HS:=Lib.hid hSp
      have HN:=Lib.hid hnm
      clear hSp hnm
      have aP:=cP.cell
      have aE:=cE.cell
      gi_wp2
      have z6:=HZ6.out
      have z9:=HZ9.out
      refine⟨by simp, .inl ⟨_,_,rfl,run_takeDeferred hK,?_⟩⟩
      have hP:=(J9 cP (show w.heap.size+1+1≠D by omega) (.deferred none)).cell
      have hE:=(J9 cE (show w.heap.size+1+1+1≠D by omega) (.deferred none)).cell
      refine⟨.tuple #[.string (Gv s (pre.takeWhile fun x:A9=>decide (x≠(0,1)))), .bool true],by simp[results,Tryz.f137,go_sem,hP,hE],by rw[HW.out,if_pos (HS.out.subset HN.out),Zz HS.out HN.out],KN hbw (by omega) _⟩
end Go.Proofs.YtbglbmnhgbgelaaGreatDoor
namespace Go.Proofs.YtbglbmnhgbgelaaGreatDoor
open Go.RowKit Go.Shelf
attribute [local go_sem] Oper.semAt_some
def Qj(s:Spc)(dir x:A9):Bool:=match Bo s x with
 |none=>true
 |some d=>decide (∃y∈BE s (BL s.files) dir,y.1=d)
def OL(s:Spc)(dir:A9):Bool:=(Be s dir).2&&(BE s (BL s.files) dir).all (Qj s dir)
end Go.Proofs.YtbglbmnhgbgelaaGreatDoor
namespace Go.Proofs.YtbglbmnhgbgelaaGreatDoor
open Go.RowKit
theorem SpcV.b{s:Spc}(h:SpcV s)(hm:s.mounts.length≤1000):SpcB s:=⟨h.files.b,hm⟩
theorem UQ{P:Program}{f:FuncId}{s:Spc}{xs:List AV}{us:List Value}{z:Value}{R:AV}(hx:∀(G:Gh) (w:World) (vs:List Value),AY G w xs vs→vs=us)(hR:∀(G:Gh) (w:World),rep G w R z)
    (h:∀(w:World) (ds ms:Value),SpcIn s w.heap.size w ds ms→Calls P f (.agg #[ds,ms]::us).toArray w fun e w'=>e= .returned z∧Below w.heap.size w w'):AFn P f (.agg (Ai s)::xs) (fun r=>r=R):=by
 intro w St bl vs hr hv
 simp only[AY]at hv
 obtain⟨z0,zs,rfl,h1,h2⟩:=hv
 obtain rfl:=hx _ _ _ h2
 simp only[rep,Ai,AY]at h1
 obtain⟨ys,rfl,ds,_,rfl,h3,ms,_,rfl,h4,rfl⟩:=h1
 have hs:SpcIn s w.heap.size w ds ms:=by
  refine⟨Nat.le_refl _,?_⟩
  refine Kd (St:=St) (fun b o hb=>⟨hr.stlt b o hb,rfl⟩) _ _ ?_
  simp only[Ai,BS]
  exact⟨_,_,rfl,h3,_,_,rfl,h4,rfl⟩
 refine(h w ds ms hs).mono ?_
 rintro e w' ⟨rfl,hb⟩
 obtain⟨k1,k2⟩:=hr.below hb
 exact⟨_,_,_,_,⟨rfl,rfl,rfl⟩,k1,k2,hR _ _⟩
theorem aF{G:Gh}{w:World}{a:A9}{vs:List Value}(h:AY G w [.agg (AA a)] vs):vs=[DV a]:=by
 simp only[AY,rep,AA]at h
 obtain⟨_,_,rfl,⟨_,rfl,_,_,rfl,rfl,_,_,rfl,rfl,rfl⟩,rfl⟩:=h
 rfl
structure SpcN(s:Spc):Prop where
 b:SpcB s
 nm:∀x,(C7 s x).size≤100
 most:BL s.files≤5000
section
variable {s:Spc}(hs:SpcN s)
include hs
theorem Qk(a:A9):AFn Tryz.prog 137 [.agg (Ai s), .agg (AA a)] (fun r=>r= .tup [.v (.string (Be s a).1), .v (.bool (Be s a).2)]):=
 UQ (us:=[DV a]) (z:= .tuple #[.string (Be s a).1, .bool (Be s a).2]) (fun _ _ _ h=>aF h) (fun G w=>by simp only[rep,AY];exact⟨[_,_],rfl,_,_,rfl,rfl,_,_,rfl,rfl,rfl⟩)
  fun w ds ms h=>callsIn_wide.1 (aD 4 (Lib.hid (Nat.le_refl _)) s hs.b hs.nm hs.most a ds ms w h)
end
theorem aG(s:Spc)(hs:SpcB s)(a b:A9):AFn Tryz.prog 62 [.agg (Ai s), .agg (AA a), .agg (AA b)] (fun r=>r= .v (.bool (decide (a∈BE s (BL s.files) b)))):=
 UQ (us:=[DV a,DV b]) (z:= .bool (decide (a∈BE s (BL s.files) b))) (fun G w vs h=>by
  simp only[AY,rep,AA]at h
  obtain⟨_,_,rfl,⟨_,rfl,_,_,rfl,rfl,_,_,rfl,rfl,rfl⟩,_,_,rfl,⟨_,rfl,_,_,rfl,rfl,_,_,rfl,rfl,rfl⟩,rfl⟩:=h
  rfl) (fun G w=>by simp only[rep])
  fun w ds ms h=>callsIn_wide.1 (Zq 4 (Lib.hid (by omega)) s hs a b ds ms w h)
theorem aH{f:AZ}{a:A9}(h:Cy f a=true):∃d∈f,Aa f a∈d.nodes:=by
 obtain⟨q,i,d,m,_,h2,h3,_,_,h6⟩:=Ml h
 exact⟨d,Au h2,by rw[h6];exact Au h3⟩
theorem aJ{x:AE}(h:DU x=true):x.size≤12:=by
 rw[Jc]at h
 by_cases hc:x.size<1∨12<x.size
 ·rw[if_pos hc]at h;cases h
 omega
theorem Ql{s:Spc}(h:FlsV s.files)(x:A9):(C7 s x).size≤12:=by
 unfold C7
 cases hf:(FD s x).entries.find? fun e:BK=>decide (e.2=x.2)with
 |none=>exact Nat.zero_le _
 |some e=>
   have hm:=List.mem_of_find?_eq_some hf
   unfold FD at hm
   by_cases hh:Cy s.files (x.1,(Aa s.files x).parent)=true
   ·obtain⟨d,hd,hn⟩:=aH hh
    exact aJ ((h.vd d hd).ent _ hn e hm).1
   have:Aa s.files (x.1,(Aa s.files x).parent)=Nod.zero:=by
    unfold Cy at hh
    cases hq:Bk s.files (x.1,(Aa s.files x).parent)with
    |none=>show(Bk s.files (x.1,(Aa s.files x).parent)).getD Nod.zero=Nod.zero;rw[hq];rfl
    |some m=>rw[hq]at hh;exact absurd rfl hh
   rw[this]at hm
   cases hm
theorem Qm{f:AZ}(h:FlsV f):BL f≤48:=by
 have:∀(l:AZ),(∀d∈l,d.nodes.length≤16)→BL l≤l.length * 16:=by
  intro l
  induction l with
  |nil=>intro _;simp[BL]
  |cons d l ih=>
    intro h
    have h1:=ih fun d hd=>h d (List.mem_cons_of_mem _ hd)
    have h2:=h d (List.mem_cons_self ..)
    simp only[BL,List.map_cons,List.sum_cons,List.length_cons]at h1 ⊢
    omega
 have h1:=this f fun d hd=>(h.vd d hd).len
 have h2:=h.few
 omega
theorem SpcV.n{s:Spc}(h:SpcV s)(hm:s.mounts.length≤1000):SpcN s:=⟨⟨h.files.b,hm⟩,fun x=>by have:=Ql h.files x;omega,by have:=Qm h.files;omega⟩
def JE(w:World):Nat→Nat→Prop:=fun b _=>b<w.heap.size
def Opens(P:Program)(t:TypeId)(R:List AV→Prop):Prop:=
 ∀(H:Type) (enc:TypeId×Value→H) (w:World) (base:Nat) (spare:Nat→Bool) (held:Bool) (fuel:Nat) (cs:List Value) (x:DataW H×List MemPlace),DataW.trod enc P w base spare held fuel t cs=some x→
  ∃row,R row∧BS (JE w) w row cs∧∀u∈cs,u.oneCell'=true
section
variable {P:Program}{t:TypeId}
theorem Opens.mono{R R':List AV→Prop}(h:Opens P t R)(hR:∀r,R r→R' r):Opens P t R':=by
 intro H enc w base spare held fuel cs x hx
 obtain⟨row,h1,h2⟩:=h H enc w base spare held fuel cs x hx
 exact⟨row,hR _ h1,h2⟩
theorem aK{k:IntKind}(ht:P.underlying t=some (.int k)):Opens P t fun r=>∃n,r=[.v (.int k n)]∧(Lit.int k n).wf=true:=by
 intro H enc w base spare held fuel cs x hx
 obtain⟨b,rfl,_,hw⟩:=DataW.trod_int ht hx
 exact⟨_,⟨b,rfl,hw⟩,⟨_,_,rfl,by simp only[Ap],by simp only[BS]⟩,by simp[Value.oneCell']⟩
theorem aL{w:World}{b o:Nat}{v:Value}(h:w.cell? ⟨b,o,none⟩=some v):b<w.heap.size:=by
 rcases Nat.lt_or_ge b w.heap.size with hlt|hge
 ·exact hlt
 simp[World.cell?,Array.getElem?_eq_none hge]at h
theorem aM{St:Nat→Nat→Prop}{w:World}{xs:List AV}{ys:List Value}(h:BS St w xs ys):ys.length=xs.length:=GF (G:=⟨St,[],[]⟩) (JQ (G:=⟨St,[],[]⟩) _ _ h)
theorem aO{e:TypeId}{n:Nat}{R:List AV→Prop}(ht:P.underlying t=some (.slice e))(hc:P.cellsOf e=n)(hn:0<n)(h:Opens P e R):Opens P t fun r=>∃rows,r=[.sl n rows none]∧rows.length≤maxLen∧∀x∈rows,R x:=by
 intro H enc w base spare held fuel cs x hx
 rcases DataW.trod_slice ht hx with⟨rfl,_⟩|⟨⟨b,off,spot⟩,len,cap,elems,rest,m,rfl,rfl,_,hb,hl,hm,hlen,hel,_,_⟩
 ·exact⟨_,⟨[],rfl,Nat.zero_le _,by simp⟩,⟨_,_,rfl,by simp only[Ap];exact⟨trivial,none,0,rfl,Nat.le_refl _,Nat.zero_le _, .inl trivial⟩,by simp only[BS]⟩,by simp[Value.oneCell']⟩
 have each:∀i,i<len→∃row cs',R row∧row.length=n∧BS (JE w) w row cs'∧(∀u∈cs',u.oneCell'=true)∧cs'.length=n∧∀j,j<n→w.cell? (Addr.add ⟨b,off,spot⟩ (i * n+j))=cs'[j]?:=by
  intro i hi
  have h1:=hel i hi
  rw[hc,B3 (by omega),Option.bind_eq_some_iff]at h1
  obtain⟨cs',h2,h3⟩:=h1
  obtain⟨row,r1,r2,r3⟩:=h _ _ _ _ _ _ _ _ _ h3
  obtain⟨_,c1,c2⟩:=World.cells?_some h2
  refine⟨row,cs',r1,by rw[←aM r2,c1],r2,r3,c1,fun j hj=>?_⟩
  have:=c2 j hj
  rwa [Addr.add_add]at this
 have hrows:∃rows:List (List AV),rows.length=len∧(∀i,i<len→∃row cs',rows[i]?=some row∧R row∧row.length=n∧BS (JE w) w row cs'∧(∀u∈cs',u.oneCell'=true)∧cs'.length=n∧∀j,j<n→w.cell? (Addr.add ⟨b,off,spot⟩ (i * n+j))=cs'[j]?):=by
  clear hel
  have:∀k,k≤len→∃rows:List (List AV),rows.length=k∧(∀i,i<k→∃row cs',rows[i]?=some row∧R row∧row.length=n∧BS (JE w) w row cs'∧(∀u∈cs',u.oneCell'=true)∧cs'.length=n∧∀j,j<n→w.cell? (Addr.add ⟨b,off,spot⟩ (i * n+j))=cs'[j]?):=by
   intro k
   induction k with
   |zero=>intro _;exact⟨[],rfl,fun i hi=>by omega⟩
   |succ k ih=>
     intro hk
     obtain⟨rows,e1,e2⟩:=ih (by omega)
     obtain⟨row,cs',q⟩:=each k (by omega)
     refine⟨rows++[row],by simp[e1],fun i hi=>?_⟩
     rcases Nat.lt_or_ge i k with hlt|hge
     ·obtain⟨row',cs'',q1,q2⟩:=e2 i hlt
      exact⟨row',cs'',by rw[List.getElem?_append_left (by omega)];exact q1,q2⟩
     obtain rfl:i=k:=by omega
     exact⟨row,cs',by rw[List.getElem?_append_right (by omega),e1];simp,q⟩
  exact this len (Nat.le_refl _)
 obtain⟨rows,e1,e2⟩:=hrows
 refine⟨_,⟨rows,rfl,by omega,fun x hx=>?_⟩,⟨_,_,rfl,?_,by simp only[BS]⟩,by simp[Value.oneCell']⟩
 ·obtain⟨i,hi⟩:=List.getElem?_of_mem hx
  obtain⟨row,_,q1,q2,_⟩:=e2 i (by rw[←e1];exact(Ar.1 hi).1)
  rw[hi]at q1
  injection q1 with q1
  subst q1
  exact q2
 simp only[Ap]
 refine⟨trivial,some ⟨b,off,spot⟩,cap,by rw[e1],by omega,hm,?_⟩
 rcases Nat.eq_zero_or_pos len with h0|h0
 ·left;exact List.eq_nil_of_length_eq_zero (by omega)
 right
 have hspot:spot=none:=by
  obtain⟨_,cs',_,_,_,_,_,c3,c4⟩:=e2 0 h0
  have:=c4 0 hn
  rw[B3 (by omega)]at this
  simpa[Addr.add]using World.cell?_spot this
 subst hspot
 refine⟨b,off,rfl,?_⟩
 have:∀(rs:List (List AV)) (k:Nat),(∀i r,rs[i]?=some r→rows[k+i]?=some r)→froR (JE w) w b n rs (off+k * n):=by
  intro rs
  induction rs with
  |nil=>intro k _;simp only[froR]
  |cons r rs ih=>
    intro k hk
    simp only[froR]
    have h1:=hk 0 r rfl
    rw[Nat.add_zero]at h1
    obtain⟨row,cs',q1,_,q3,q4,q5,q6,q7⟩:=e2 k (by rw[←e1];exact(Ar.1 h1).1)
    rw[h1]at q1
    injection q1 with q1
    subst q1
    refine⟨⟨q3,Kf fun i x hi=>?_⟩,?_⟩
    ·obtain⟨u,u1,u2⟩:=NX q4 hi
     have hin:i<n:=by rw[←q3];exact(Ar.1 hi).1
     have hc:=q7 i hin
     rw[u1]at hc
     have hc':w.cell? ⟨b,off+k * n+i,none⟩=some u:=by rw[Addr.add_mid]at hc;rwa [Nat.add_assoc]
     exact⟨aL hc',u,hc',q5 u (Au u1),u2⟩
    have:=ih (k+1) (fun i r' hi=>by
     have:=hk (i+1) r' (by simpa using hi)
     rwa [show k+1+i=k+(i+1) by omega])
    rwa [show off+(k+1) * n=off+k * n+n by rw[Nat.add_mul];omega]at this
 simpa using this rows 0 (fun i r hi=>by simpa using hi)
theorem UR{α:Type}{enc:α→List AV}{Q:α→Prop}:∀{rows:List (List AV)},(∀x∈rows,∃a,x=enc a∧Q a)→∃l:List α,rows=l.map enc∧∀a∈l,Q a
 |[],_=>⟨[],rfl,by simp⟩
 |r::rs,h=>by
   obtain⟨a,rfl,ha⟩:=h r (by simp)
   obtain⟨l,rfl,hl⟩:=UR (rows:=rs) fun x hx=>h x (by simp[hx])
   exact⟨a::l,rfl,by simpa using⟨ha,hl⟩⟩
theorem Opens.one{R:List AV→Prop}(h:Opens P t R){H:Type}{enc:TypeId×Value→H}{w:World}{base:Nat}{spare:Nat→Bool}{held:Bool}{v:Value}{d:DataW H}{ps:List MemPlace}(hv:v.cells=#[v])(hd:DataW.Trod enc P w base spare held t v d ps):
    ∃row,R row∧BS (JE w) w row [v]:=by
 obtain⟨fuel,hf⟩:=hd
 rw[hv]at hf
 obtain⟨row,h1,h2,_⟩:=h _ _ _ _ _ _ _ _ _ hf
 exact⟨row,h1,h2⟩
end
theorem aQ:Opens Tryz.prog 22 (fun r=>∃l:List Int,r=[.sl 1 (l.map C5) none]):=
 (aO (n:=1) Tryz.underlying22 (by kernel_rfl) (by omega) (aK Tryz.underlying3)).mono (by
   rintro r ⟨rows,rfl,_,hr⟩
   obtain⟨l,rfl,_⟩:=UR (enc:=C5) (Q:=fun _=>True) (fun x hx=>by obtain⟨t,rfl,_⟩:=hr x hx;exact⟨t,rfl,trivial⟩)
   exact⟨l,rfl⟩)
theorem aR{H:Type}{enc:TypeId×Value→H}{sp:Nat→Bool}{held:Bool}{base:Nat}{w:World}{a:Option Addr}{n c:Nat}{d:DataW H}{p:List MemPlace}(h:DataW.Trod enc Tryz.prog w base sp held 22 (.slice a n c) d p):
    ∃l:List Int,rep ⟨JE w,[],[]⟩ w (.sl 1 (l.map C5) none) (.slice a n c):=by
 obtain⟨r0,⟨l,rfl⟩,k0⟩:=aQ.one rfl h
 simp only[BS]at k0
 obtain⟨_,_,e0,k0,rfl⟩:=k0
 injection e0 with e0
 subst e0
 exact⟨l,Fo (G:=⟨JE w,[],[]⟩) _ _ k0⟩
theorem aS{f:FuncId}(hf:∀l:List Int,AFn Tryz.prog f [.sl 1 (l.map C5) none] (fun x=>x= .v (.bool true))){H:Type}{enc:TypeId×Value→H}{sp:Nat→Bool}{held:Bool}{base:Nat}(a:Option Addr)(n c:Nat)(w:World){d:DataW H}{p:List MemPlace}
    (h:DataW.Trod enc Tryz.prog w base sp held 22 (.slice a n c) d p):Calls Tryz.prog f #[.slice a n c] w fun e w'=>e= .returned (.bool true)∧Below w.heap.size w w':=by
 obtain⟨l,k⟩:=aR h
 refine XT (vs:=[.slice a n c]) (hf l) (JE w) (fun b o h=>h) ?_
 simp only[AY]
 exact⟨_,_,rfl,k,rfl⟩
theorem Qn{s:Spc}{dev:Int}(h:Bl s dev=true)(h0:dev≠0):∃m∈s.mounts,m.1=dev:=by
 unfold Bl Bd at h
 simp only[Bool.or_eq_true,decide_eq_true_eq,h0,or_false]at h
 cases hf:s.mounts.find? fun m:D6=>decide (m.1=dev)with
 |none=>rw[hf]at h;cases h
 |some m=>exact⟨m,List.mem_of_find?_eq_some hf,by have:=List.find?_some hf;simpa using this⟩
theorem Mo{s:Spc}{m:D6}(h:m∈s.mounts):Bl s m.1=true:=by
 unfold Bl Bd
 rw[Bool.or_eq_true]
 refine .inl ?_
 rw[Option.isSome_map]
 cases hf:s.mounts.find? fun m':D6=>decide (m'.1=m.1)with
 |none=>have:=List.find?_eq_none.1 hf m h;simp at this
 |some m=>rfl
theorem US{f:AZ}{ms ms':List D6}{dev:Int}(h:Bl ⟨f,ms⟩ dev=true)(hs:∀m∈ms,m∈ms'):Bl ⟨f,ms'⟩ dev=true:=by
 by_cases h0:dev=0
 ·unfold Bl;simp[h0]
 obtain⟨m,hm,rfl⟩:=Qn h h0
 exact Mo (s:=⟨f,ms'⟩) (hs m hm)
def Hi(s:Spc)(C:A9→List A9)(a:A9):List A9:=match Cc s a with
 |none=>[]
 |some b=>C b
section
theorem UT(s:Spc)(a:A9)(hs:SpcB s)(C:A9→List A9)(hC:∀b,(C b).length≤900000)(hid:AX s.files a=true→(Aa s.files a).ino=a.2)
    (hrec:AX s.files a=true→∀b,Cc s a=some b→AFn Tryz.prog 82 [.agg (Ai s), .agg (AA b)] (fun r=>r= .sl 2 ((C b).map AA) none)):
    AFn Tryz.prog 82 [.agg (Ai s), .agg (AA a)] (fun r=>r= .sl 2 ((if AX s.files a=true then a::Hi s C a else[]).map AA) none):=by
 have hde:=Fv s.files a
 refine enter Tryz.func82 rfl rfl rfl rfl rfl 0 rfl ?_
 refine w_ (b_ (h:=b_ (h:=a_ (h:=e_ (w_ (f_ (h:=l_ (h:=l_ (h:=?_)))))))))
 refine A4 rfl (AK (Dk s.files a hs.files) ?_)
 rintro r rfl
 refine m_ (h:=x_ (h:=x_ (h:=AW (h:=s_ (h:=a_ (h:=e_ (q_ (w_ (m_ (h:=BA (h:=m_ (h:=?_))))))))))))
 refine Ax false rfl rfl (fun hb1=>?_) (fun hb1=>?_)
 ·have hc1:=bp hb1
  refine A3 (h:=A3 (h:=A3 (h:=Af (h:=e_ (Bf (h:=w_ (a_ (h:=e_ (A6 (A7 (?_)))))))))))
  refine Aj (r:= .sl 2 ((if AX s.files a=true then a::Hi s C a else[]).map AA) none) none (h5:=?_) (h6:=⟨rfl,rfl,rfl⟩)
  rw[if_neg (by rw[hde];simp_all)]
  exact LeA.nil _
 have hc1:=bp hb1
 refine f_ (h:=l_ (h:=BF (h:=Am (h:=e_ (?_)))))
 refine A8 rfl (fun hb2=>?_) (fun hb2=>?_)
 ·have hc2:=bp hb2
  refine w_ (a_ (h:=e_ (A6 (A7 (?_)))))
  refine Aj (r:= .sl 2 ((if AX s.files a=true then a::Hi s C a else[]).map AA) none) none (h5:=?_) (h6:=⟨rfl,rfl,rfl⟩)
  rw[if_neg (by rw[hde];simp_all)]
  exact LeA.nil _
 have hc2:=bp hb2
 refine AG (w_ (l_ (h:=?_)))
 refine A4 rfl (XP (by repeat (first|exact DenseA.nil _|(apply DenseA.cons;(focus exact rfl);(focus exact rfl);(focus exact rfl);(focus exact rfl))|(apply DenseA.consE;(focus exact rfl);(focus exact rfl);(focus exact rfl)))) rfl rfl rfl rfl (by repeat constructor) ?_)
 refine a_ (h:=e_ (q_ (w_ (f_ (h:=l_ (h:=BF (h:=e_ (?_))))))))
 refine A8 rfl (fun hb3=>?_) (fun hb3=>?_)
 ·have hc3:=bp hb3
  have hdd:AX s.files a=true:=by rw[hde,hc1,decide_eq_true hc2];rfl
  have hst:Cc s a=some (a.1,(Aa s.files a).parent):=if_pos hc3
  have hCl:=hC (a.1,(Aa s.files a).parent)
  refine w_ (m_ (h:=l_ (h:=f_ (h:=l_ (h:=f_ (h:=l_ (h:=AT (h:=?_))))))))
  refine A4 rfl (AK (hrec hdd (a.1,(Aa s.files a).parent) hst) ?_)
  rintro r rfl
  skip
  refine Gl (h:=a_ (h:=e_ (A6 (A7 (?_)))))
  refine AB ?_
  rw[if_pos hdd,show Hi s C a=C _ by unfold Hi;rw[hst]]
  rfl
 have hc3:=bp hb3
 have hdd:AX s.files a=true:=by rw[hde,hc1,decide_eq_true hc2];rfl
 have hsr:Cc s a=Bd s a.1:=if_neg (fun h=>h hc3)
 refine AG (q_ (w_ (l_ (h:=f_ (h:=l_ (h:=?_))))))
 refine A4 rfl (AK (Nx s a.1 hs) ?_)
 rintro r rfl
 refine m_ (h:=x_ (h:=x_ (h:=AW (h:=s_ (h:=a_ (h:=e_ (w_ (m_ (h:=e_ (?_))))))))))
 refine A8 rfl (fun hb4=>?_) (fun hb4=>?_)
 ·have hc4:=bp hb4
  have hst:Cc s a=some ((Bd s a.1).getD (0,0)):=by rw[hsr];cases ho:Bd s a.1 with
   |none=>simp_all
   |some o=>rfl
  have hCl:=hC ((Bd s a.1).getD (0,0))
  refine w_ (m_ (h:=l_ (h:=l_ (h:=?_))))
  refine A4 rfl (AK (hrec hdd ((Bd s a.1).getD (0,0)) hst) ?_)
  rintro r rfl
  skip
  refine Gl (h:=a_ (h:=e_ (A6 (A7 (?_)))))
  refine AB ?_
  rw[if_pos hdd,show Hi s C a=C _ by unfold Hi;rw[hst]]
  rfl
 have hc4:=bp hb4
 refine AG (w_ (m_ (h:=a_ (h:=e_ (A6 (?_))))))
 refine AB ?_
 rw[if_pos hdd,show Hi s C a=[] by unfold Hi;rw[hsr];cases ho:Bd s a.1 with
  |none=>rfl
  |some o=>simp_all]
 rfl
theorem OM(s:Spc):∀(k:Nat) (a:A9),(BE s k a).length≤k
 |0,_=>by simp[BE]
 |k+1,a=>by
   unfold BE
   split
   ·cases h:EG s a with
    |none=>simp
    |some b=>have:=OM s k b;simp;omega
   simp
theorem aT{s:Spc}(hs:SpcB s)(hv:SpcV s):∀(k:Nat) (a:A9),k≤900000→ends s k a→AFn Tryz.prog 82 [.agg (Ai s), .agg (AA a)] (fun r=>r= .sl 2 ((BE s k a).map AA) none):=by
 have hid:∀a,AX s.files a=true→(Aa s.files a).ino=a.2:=by
  intro a h
  obtain⟨q,d,m,_,_,_,h4,h5,_⟩:=JD (f:=s.files) (a:=a) (by rw[h];simp)
  rw[h5,h4]
 intro k
 induction k with
 |zero=>
   intro a _ h
   refine(UT s a hs (fun _=>[]) (fun _=>Nat.zero_le _) (hid a) (fun hd=>by rw[show AX s.files a=false from h]at hd;cases hd)).mono fun r hr=>?_
   rw[hr,if_neg (by rw[show AX s.files a=false from h];simp)]
   rfl
 |succ k ih=>
   intro a hk h
   refine(UT s a hs (BE s k) (fun b=>by have:=OM s k b;omega) (hid a) (fun hd b hb=>ih b (by omega) ((h.resolve_left (by rw[hd];simp)) b hb))).mono fun r hr=>?_
   rw[hr]
   by_cases hd:AX s.files a=false
   ·rw[Jl hd,if_neg (by rw[hd];simp)]
   rw[GU hd,if_pos (by simpa using hd),KR hv hd]
   unfold Hi
   cases Cc s a<;>rfl
theorem aU{s:Spc}(hs:SpcB s)(hv:SpcV s)(hm:BL s.files≤5000)(root dir:A9):AFn Tryz.prog 42 [.agg (Ai s), .agg (AA root), .agg (AA dir)] (fun r=>r= .v (.bool (decide (root∈BE s (BL s.files) dir)))):=by
 have hch:=aT hs hv (BL s.files) dir (by omega) (Gu hv dir)
 have hlen:=OM s (BL s.files) dir
 generalize BE s (BL s.files) dir=L at *
 have hml:(L.map AA).length=L.length:=by simp
 refine enter Tryz.func42 rfl rfl rfl rfl rfl 0 rfl ?_
 refine w_ (b_ (h:=b_ (h:=b_ (h:=a_ (h:=e_ (w_ (l_ (h:=l_ (h:=?_)))))))))
 refine A4 rfl (AK (hch) ?_)
 rintro r rfl
 refine a_ (h:=e_ (q_ (w_ (a_ (h:=e_ (Ao (?_)))))))
 refine Ba (fun m t=>∃j:Nat,j≤L.length∧m=L.length - j∧(∀i y,i<j→L[i]?=some y→decide (y=root)=false)∧t=⟨look [(4, .bp 1 0),(7, .sl 2 (L.map AA) none),(8, .v (.int .i64 (j:Int)))],⟨[Ai s,AA root,AA dir],[]⟩⟩) (L.length) ((wk 3 0)) (⟨0,by omega,rfl,fun i y hi=>by omega,rfl⟩) ?_
 rintro m t ⟨j,hj,rfl,ha,rfl⟩
 refine q_ (w_ (m_ (h:=m_ (h:=n_ (h:=BJ (h:=e_ (?_)))))))
 refine A8 rfl (fun hb1=>?_) (fun hb1=>?_)
 ·have hc1:=bp hb1
  obtain⟨hlt,x,hy,hrow, -⟩:=CW AA hc1
  refine AG (q_ (Ao (q_ (DT 6 (h:=AN 0 (h:=AN 1 (h:=Di 2 (h:=AJ 3 (h:=AJ 4 (h:=?_))))))))))
  refine FL (i:=5) rfl (F1 rfl rfl (by repeat constructor) (by repeat constructor) (fun w=>KC _ _ _ _ w) (by kernel_rfl) ⟨rfl,rfl⟩) ?_
  refine z_ (h:=t_ (?_))
  refine A8 rfl (fun hb2=>?_) (fun hb2=>?_)
  ·have hc2:=bp hb2
   refine w_ (a_ (h:=e_ (A6 (AR (A7 (A7 (AR (A7 (?_)))))))))
   refine AB ?_
   exact vb (by rw[decide_eq_true];rw[←show x=root from hc2];exact Au hy)
  have hc2:=bp hb2
  refine BB (Ay (t_ (AP (m_ (h:=B8 (h:=a_ (h:=AO (?_))))))))
  refine AD ?_
  refine⟨_,_,?_,⟨j+1,by omega,rfl,Dw hy ha (decide_eq_false hc2),rfl⟩,(wk 3 0)⟩
  omega
 have hc1:=bp hb1
 have e3:=Ck AA hj hc1
 subst e3
 refine BO (Aq (Aq (BQ (t_ (w_ (a_ (h:=e_ (A6 (?_)))))))))
 refine AB ?_
 exact vb (by rw[decide_eq_false];intro hmem;obtain⟨i,hi⟩:=List.getElem?_of_mem hmem;have:=ha i root (Ar.1 hi).1 hi;simp at this)
end
end Go.Proofs.YtbglbmnhgbgelaaGreatDoor
namespace Go.Proofs.YtbglbmnhgbgelaaGreatDoor
section
variable {s:Spc}(hv:SpcV s)
include hv
theorem Qo{q:Nat}{d:Dvc}{p:Nod}{x:Int}(hq:s.files[q]?=some d)(hp:p∈d.nodes)(hx:p.ino=x):Bk s.files ((q:Int),x)=some p:=
 Qc (a:=((q:Int),x)) rfl hq (hv.files.vd d (Au hq)).asc hp hx
theorem Mp{a b:A9}(h:AX s.files a=true)(hs:Cc s a=some b):AX s.files b=true:=by
 obtain⟨q,d,m,h1,h2,h3,h4,h5,h6⟩:=JD (f:=s.files) (a:=a) (by rw[h];simp)
 have hd:=hv.files.vd d (Au h2)
 unfold Cc at hs
 by_cases h0:a.2≠1
 ·rw[if_pos h0]at hs
  injection hs with hs
  subst hs
  rw[h5,h1]
  obtain⟨p,hp,hpi,e,he,_⟩:=hd.par m h3 (by rw[h4];exact h0) h6
  have hk:p.kind=2:=by
   by_cases hk:p.kind=2
   ·exact hk
   have:=(hd.leaf p hp hk).2
   rw[this]at he;cases he
  exact(KQ (Qo hv h2 hp hpi)).2 hk
 rw[if_neg h0]at hs
 obtain⟨m',hm',_,e⟩:=Mn hs
 obtain⟨i,hi⟩:=List.getElem?_of_mem hm'
 rw[←e]
 exact(hv.mnt i m' hi).dir
theorem Qp{a b:A9}(h:Bl s a.1=true)(hs:Cc s a=some b):Bl s b.1=true:=by
 unfold Cc at hs
 by_cases h0:a.2≠1
 ·rw[if_pos h0]at hs
  injection hs with hs
  subst hs
  exact h
 rw[if_neg h0]at hs
 obtain⟨m',hm',_,e⟩:=Mn hs
 obtain⟨i,hi⟩:=List.getElem?_of_mem hm'
 rw[←e]
 exact US (f:=s.files) (hv.mnt i m' hi).there (fun x hx=>List.mem_of_mem_take hx)
theorem Qq:Bd s 0=none:=by
 cases h:Bd s 0 with
 |none=>rfl
 |some on=>
   obtain⟨m',hm',e,_⟩:=Mn h
   obtain⟨i,hi⟩:=List.getElem?_of_mem hm'
   have:=(hv.mnt i m' hi).dev1
   omega
theorem aV{a:A9}(h:Bl s a.1=true)(h0:a≠(0,1)):∃b,Cc s a=some b:=by
 have _:=hv
 unfold Cc
 by_cases h1:a.2≠1
 ·exact⟨_,if_pos h1⟩
 rw[if_neg h1]
 have h2:a.1≠0:=fun e=>h0 (Prod.ext e (by simpa using h1))
 unfold Bl at h
 rw[decide_eq_false h2,Bool.or_false]at h
 cases ho:Bd s a.1 with
 |none=>rw[ho]at h;cases h
 |some b=>exact⟨b,rfl⟩
theorem Jm{a:A9}(h:AX s.files a=true):BE s (BL s.files) a=a::(match Cc s a with
    |none=>[]
    |some b=>BE s (BL s.files) b):=by
 have hd:¬AX s.files a=false:=by rw[h];simp
 have he:=Gu hv a
 cases hm:BL s.files with
 |zero=>rw[hm]at he;exact absurd he hd
 |succ m=>
   rw[hm]at he
   rw[GU hd,KR hv hd]
   cases hs:Cc s a with
   |none=>rfl
   |some b=>
     simp only
     have h1:=he.resolve_left hd b hs
     have h2:=Gu hv b
     rw[hm]at h2
     rw[Qg hv m (m+1) b h1 h2]
theorem aW{a:A9}(h:AX s.files a=true)(hm:Bl s a.1=true):(0,1)∈BE s (BL s.files) a:=by
 have key:∀(k:Nat) (a:A9),ends s k a→AX s.files a=true→Bl s a.1=true→(0,1)∈BE s (BL s.files) a:=by
  intro k
  induction k with
  |zero=>intro a he h _;rw[show AX s.files a=false from he]at h;cases h
  |succ k ih=>
    intro a he h hm
    by_cases h0:a=(0,1)
    ·rw[Jm hv h,h0];exact List.mem_cons_self ..
    obtain⟨b,hb⟩:=aV hv hm h0
    rw[Jm hv h,hb]
    exact List.mem_cons_of_mem _ (ih b (he.resolve_left (by rw[h];simp) b hb) (Mp hv h hb) (Qp hv hm hb))
 exact key _ a (Gu hv a) h hm
theorem LF{a:A9}(h:¬(AX s.files a=true∧Bl s a.1=true)):Be s a=(⟨#[]⟩,false):=by
 have _:=hv
 unfold Be
 rw[if_neg fun c=>h ⟨c.1,c.2.1⟩]
theorem ON{a:A9}(h:AX s.files a=true)(hm:Bl s a.1=true):Be s a=(Gv s ((BE s (BL s.files) a).takeWhile fun x=>decide (x≠(0,1))),true):=by
 unfold Be
 rw[if_pos ⟨h,hm,aW hv h hm⟩]
theorem aY(h:AX s.files (0,1)=true):Be s (0,1)=(⟨#[47]⟩,true):=by
 rw[ON hv h (by unfold Bl;simp),Jm hv h,List.takeWhile_cons]
 simp[Gv,Cq]
theorem UU{a b:A9}(h:AX s.files a=true)(hm:Bl s a.1=true)(h0:a≠(0,1))(hb:Cc s a=some b):Be s a=(if a.2=1 then(Be s b).1 else DD (Be s b).1 (C7 s a),true)∧(Be s b).2=true:=by
 rw[ON hv h hm,ON hv (Mp hv h hb) (Qp hv hm hb),Jm hv h,hb,List.takeWhile_cons]
 simp only[h0,ne_eq,not_false_eq_true,decide_true,if_true]
 refine⟨?_,trivial⟩
 unfold Gv Cq
 rw[List.filter_cons]
 by_cases h1:a.2=1
 ·simp[h1]
 simp[h1]
def Dd(s:Spc):Nat→A9→A9
 |0,a=>a
 |k+1,a=>if AX s.files a=true then(if a.2≠1 then(a.1,(Aa s.files a).parent)else match Bd s a.1 with
   |some on=>Dd s k on
   |none=>a)else(0,0)
omit hv in
theorem aZ(dev:Int):Jk s dev≤s.mounts.length:=by
 unfold Jk
 cases h:s.mounts.findIdx? fun m:D6=>decide (m.1=dev)with
 |none=>simp
 |some i=>
   have:=(List.findIdx?_eq_some_iff_getElem.1 h).1
   simp only
   omega
theorem UV{i j:Nat}{m m':D6}(hi:s.mounts[i]?=some m)(hj:s.mounts[j]?=some m')(h:m.1=m'.1):i=j:=by
 have key:∀{i j:Nat} {m m':D6},s.mounts[i]?=some m→s.mounts[j]?=some m'→m.1=m'.1→¬i<j:=by
  intro i j m m' hi hj h hlt
  have hf:=(hv.mnt j m' hj).fresh
  have hm:m∈s.mounts.take j:=by
   refine Au (i:=i) ?_
   rw[List.getElem?_take,if_pos hlt];exact hi
  have:=Mo (s:=⟨s.files,s.mounts.take j⟩) hm
  rw[h,hf]at this
  cases this
 have h1:=key hi hj h
 have h2:=key hj hi h.symm
 omega
omit hv in
theorem Mq{a:A9}{d:Int}(h:Bo s a=some d):∃i:Nat,s.mounts[i]?=some ((d,a):D6):=by
 unfold Bo at h
 cases hf:s.mounts.find? fun m:D6=>decide (m.2=a)with
 |none=>rw[hf]at h;cases h
 |some m=>
   rw[hf]at h
   injection h with h
   have h2:=List.find?_some hf
   simp only[decide_eq_true_eq]at h2
   obtain⟨i,hi⟩:=List.getElem?_of_mem (List.mem_of_find?_eq_some hf)
   exact⟨i,by rw[hi,←h,←h2]⟩
omit hv in
theorem b5{a:A9}(h:∀(i:Nat) (m:D6),s.mounts[i]?=some m→m.2≠a):Bo s a=none:=by
 cases hc:Bo s a with
 |none=>rfl
 |some d=>obtain⟨i,hi⟩:=Mq hc;exact absurd rfl (h i _ hi)
theorem UW:∀(n:Nat) (a:A9),(∀(i:Nat) (m:D6),s.mounts[i]?=some m→m.2=a→s.mounts.length≤i+n)→Bo s (Cp s n a)=none:=by
 intro n
 induction n with
 |zero=>
   intro a h
   refine b5 fun i m hi e=>?_
   have h1:=h i m hi e
   have h2:=(Ar.1 hi).1
   omega
 |succ n ih=>
   intro a h
   cases hc:Bo s a with
   |none=>rw[Pk (by rw[hc];rfl)];exact hc
   |some d=>
     obtain⟨i,hi⟩:=Mq hc
     rw[Cp]
     refine ih _ fun j m hj e=>?_
     have he:Gq s a=(d,1):=by unfold Gq;rw[hc]
     rw[he]at e
     have h1:=h i _ hi rfl
     have hth:=(hv.mnt j m hj).there
     have hd1:=(hv.mnt i _ hi).dev1
     rw[e]at hth
     obtain⟨m'',hm'',e2⟩:=Qn hth (by simp only at hd1 ⊢;omega)
     obtain⟨k,hk⟩:=List.getElem?_of_mem hm''
     have hkj:k<j:=by
      have:=(Ar.1 hk).1
      simp at this
      omega
     rw[List.getElem?_take,if_pos hkj]at hk
     have:=UV hv hk hi e2
     omega
omit hv in
theorem UX:∀(n:Nat) (a:A9),Cp s (n+1) a=Gq s (Cp s n a)
 |0,_=>rfl
 |n+1,a=>UX n (Gq s a)
theorem b6(a:A9):Cp s (s.mounts.length+1) a=Cp s s.mounts.length a:=by
 rw[UX]
 refine Pj ?_
 rw[UW hv _ a (fun i m _ _=>by omega)]
 rfl
theorem UY{i:Nat}{m:D6}(hi:s.mounts[i]?=some m):Bd s m.1=some m.2:=by
 have h1:Bl s m.1=true:=Mo (Au hi)
 have hd:=(hv.mnt i m hi).dev1
 unfold Bl at h1
 rw[decide_eq_false (by omega),Bool.or_false]at h1
 cases ho:Bd s m.1 with
 |none=>rw[ho]at h1;cases h1
 |some on=>
   obtain⟨m',hm',e1,e2⟩:=Mn ho
   obtain⟨j,hj⟩:=List.getElem?_of_mem hm'
   have:=UV hv hj hi e1
   subst this
   rw[hi]at hj
   injection hj with hj
   rw[←e2,hj]
theorem b7{x:A9}{dev:Int}(hc:Bo s x=some dev):∀(k:Nat) (y:A9),ends s k y→AX s.files y=true→y.1=dev→∃t r,BE s (BL s.files) y=t++(dev,1)::x::r:=by
 intro k
 induction k with
 |zero=>intro y he h _;rw[show AX s.files y=false from he]at h;cases h
 |succ k ih=>
   intro y he h hy
   obtain⟨i,hi⟩:=Mq hc
   by_cases h1:y.2=1
   ·have hs:Cc s y=some x:=by
       unfold Cc
       rw[if_neg (by simpa using h1),hy]
       exact UY hv hi
    obtain⟨t,ht⟩:=OK hv (Mp hv h hs)
    refine⟨[],t,?_⟩
    rw[Jm hv h,hs]
    simp only[List.nil_append]
    rw[ht,←hy,←h1]
   have hs:Cc s y=some (y.1,(Aa s.files y).parent):=if_pos h1
   obtain⟨t,r,ht⟩:=ih _ (he.resolve_left (by rw[h];simp) _ hs) (Mp hv h hs) hy
   refine⟨y::t,r,?_⟩
   rw[Jm hv h,hs]
   simp only[List.cons_append]
   rw[ht]
def G5(s:Spc)(L:List A9)(i:Nat):Bool:=match L[i]? with
 |none=>true
 |some x=>match Bo s x with
   |none=>true
   |some dev=>decide (0<i)&&decide (L[i - 1]?=some (dev,1))
theorem UZ{a:A9}{i:Nat}{x:A9}(hi:(BE s (BL s.files) a)[i]?=some x):G5 s (BE s (BL s.files) a) i=Qj s a x:=by
 unfold G5 Qj
 simp only[hi]
 cases hc:Bo s x with
 |none=>rfl
 |some dev=>
   simp only
   rw[Bool.eq_iff_iff]
   simp only[Bool.and_eq_true,decide_eq_true_eq]
   constructor
   ·rintro⟨_,h2⟩
    exact⟨_,Au h2,rfl⟩
   rintro⟨y,hy,hyd⟩
   obtain⟨t,r,ht⟩:=b7 hv hc _ y (Gu hv y) (Zp hv hy) hyd
   obtain⟨p,hp⟩:=Zo hv hy
   have hL:BE s (BL s.files) a=(p++t)++(dev,1)::x::r:=by rw[←hp,ht,List.append_assoc]
   have hn:=UH hv _ a (Gu hv a)
   have hx:(BE s (BL s.files) a)[(p++t).length+1]?=some x:=by
    rw[hL,List.getElem?_append_right (by omega)]
    simp
   have hx0:(BE s (BL s.files) a)[(p++t).length]?=some (dev,1):=by
    rw[hL,List.getElem?_append_right (by omega)]
    simp
   have e:i=(p++t).length+1:=by
    obtain⟨h1,h2⟩:=Ar.1 hi
    obtain⟨h3,h4⟩:=Ar.1 hx
    exact(List.getElem_inj hn).1 (h2.trans h4.symm)
   subst e
   exact⟨by omega,hx0⟩
theorem b8(a:A9):OL s a=((Be s a).2&&(List.range (BE s (BL s.files) a).length).all (G5 s (BE s (BL s.files) a))):=by
 unfold OL
 congr 1
 rw[Bool.eq_iff_iff,List.all_eq_true,List.all_eq_true]
 constructor
 ·intro h i hi
  have hl:=List.mem_range.1 hi
  rw[UZ hv (B3 hl)]
  exact h _ (List.getElem_mem hl)
 intro h x hx
 obtain⟨i,hi⟩:=List.getElem?_of_mem hx
 rw[←UZ hv hi]
 exact h i (List.mem_range.2 (Ar.1 hi).1)
end
end Go.Proofs.YtbglbmnhgbgelaaGreatDoor
namespace Go.Proofs.YtbglbmnhgbgelaaGreatDoor
open Go.RowKit
theorem bA(d m:AE):(DD d m).size≤d.size+1+m.size:=by
 unfold DD
 split
 ·rw[ByteArray.size_append];omega
 rw[ByteArray.size_append,ByteArray.size_append]
 show d.size+1+m.size≤_
 omega
theorem bB{s:Spc}(hv:SpcV s)(pre:List A9):(Gv s pre).size≤1+13 * pre.length:=by
 have key:∀(l:List AE) (d:AE),(∀x∈l,x.size≤12)→(l.foldl DD d).size≤d.size+13 * l.length:=by
  intro l
  induction l with
  |nil=>intro d _;simp
  |cons x l ih=>
    intro d h
    have h1:=ih (DD d x) fun y hy=>h y (List.mem_cons_of_mem _ hy)
    have h2:=h x (List.mem_cons_self ..)
    have h3:=bA d x
    rw[List.foldl_cons,List.length_cons]
    omega
 have h:=key (Cq s pre).reverse ⟨#[47]⟩ (fun x hx=>by
  rw[List.mem_reverse]at hx
  obtain⟨y,_,rfl⟩:=List.mem_map.1 hx
  exact Ql hv.files y)
 have h2:(Cq s pre).length≤pre.length:=by unfold Cq;rw[List.length_map];exact List.length_filter_le _ _
 rw[List.length_reverse]at h
 have:(⟨#[47]⟩:AE).size=1:=rfl
 unfold Gv
 omega
theorem Qr{s:Spc}(hv:SpcV s)(a:A9):(Be s a).1.size≤1000:=by
 unfold Be
 split
 ·have h3:=OM s (BL s.files) a
  have h4:=Qm hv.files
  refine Nat.le_trans (bB hv _) ?_
  refine Nat.le_trans (Nat.add_le_add_left (Nat.mul_le_mul_left 13 ((List.takeWhile_sublist _).length_le)) 1) ?_
  omega
 exact Nat.zero_le _
theorem Ua(d:AE)(h:0<d.size):d.data.toList.getLast?=some 47↔(((d[d.size - 1]'(by omega)).toNat:Int)=47):=by
 have hl:d.data.toList.length=d.size:=by simp
 rw[List.getLast?_eq_getElem?,hl,B3 (by omega)]
 show some (d[d.size - 1]'(by omega))=some 47↔_
 rw[Option.some.injEq]
 constructor
 ·intro e;rw[e];rfl
 intro e
 refine UInt8.toNat_inj.1 ?_
 show _=47
 omega
theorem bC{d m:AE}(h:¬0<d.size):DD d m=d++⟨#[47]⟩++m:=by
 refine if_neg fun e=>?_
 have hl:d.data.toList.length=d.size:=by simp
 rw[List.getLast?_eq_getElem?,List.getElem?_eq_none (by omega)]at e
 cases e
section
theorem Ub(d m:AE)(hd:d.size≤1000000)(hm:m.size≤1000000):AFn Tryz.prog 103 [.v (.string d), .v (.string m)] (fun r=>r= .v (.string (DD d m))):=by
 refine enter Tryz.func103 rfl rfl rfl rfl rfl 0 rfl ?_
 refine w_ (a_ (h:=e_ (q_ (w_ (m_ (h:=n_ (h:=CZ (h:=m_ (h:=?_)))))))))
 refine Ax true rfl rfl (fun hb1=>?_) (fun hb1=>?_)
 ·have hc1:=bp hb1
  refine m_ (h:=m_ (h:=n_ (h:=Ns (h:=?_))))
  refine B6 (J3 (n:=d.size - 1) Tryz.underlying9 rfl rfl (by omega) (by omega) ?_)
  refine AQ (h:=Af (h:=e_ (?_)))
  refine A8 rfl (fun hb2=>?_) (fun hb2=>?_)
  ·have hc2:=bp hb2
   refine w_ (m_ (h:=m_ (h:=?_)))
   refine A4 rfl (Ej rfl rfl (by omega) ?_)
   refine a_ (h:=e_ (A6 (A7 (?_))))
   refine AB ?_
   rw[show DD d m=d++m from if_pos ((Ua d (by omega)).2 hc2)]
   rfl
  have hc2:=bp hb2
  refine AG (w_ (m_ (h:=?_)))
  refine A4 rfl (Ej rfl rfl (by show d.size+1≤_;omega) ?_)
  refine m_ (h:=?_)
  refine A4 rfl (Ej rfl rfl (by rw[ByteArray.size_append];show d.size+1+m.size≤_;omega) ?_)
  refine a_ (h:=e_ (A6 (?_)))
  refine AB ?_
  rw[show DD d m=d++⟨#[47]⟩++m from if_neg (fun h=>hc2 ((Ua d (by omega)).1 h))]
  rfl
 have hc1:=bp hb1
 refine A3 (h:=A3 (h:=A3 (h:=A3 (h:=A3 (h:=A3 (h:=Am (h:=e_ (F6 (h:=AG (w_ (m_ (h:=?_))))))))))))
 refine A4 rfl (Ej rfl rfl (by show d.size+1≤_;omega) ?_)
 refine m_ (h:=?_)
 refine A4 rfl (Ej rfl rfl (by rw[ByteArray.size_append];show d.size+1+m.size≤_;omega) ?_)
 refine a_ (h:=e_ (A6 (?_)))
 refine AB ?_
 rw[bC (by omega)]
 rfl
theorem bD(s:Spc)(a:A9)(hs:SpcB s):AFn Tryz.prog 143 [.agg (As s.files), .agg (AA a)] (fun r=>r= .v (.string (C7 s a))):=by
 have hen:=M8 hs.files (a.1,(Aa s.files a).parent)
 change (FD s a).entries.length≤1000 at hen
 refine enter Tryz.func143 rfl rfl rfl rfl rfl 0 rfl ?_
 refine w_ (b_ (h:=b_ (h:=a_ (h:=e_ (w_ (l_ (h:=l_ (h:=?_))))))))
 refine A4 rfl (AK (Dk s.files a hs.files) ?_)
 rintro r rfl
 skip
 refine m_ (h:=x_ (h:=x_ (h:=AW (h:=s_ (h:=a_ (h:=e_ (w_ (l_ (h:=f_ (h:=l_ (h:=f_ (h:=l_ (h:=AT (h:=?_))))))))))))))
 refine A4 rfl (AK (Dk s.files (a.1,(Aa s.files a).parent) hs.files) ?_)
 rintro r rfl
 skip
 refine m_ (h:=x_ (h:=x_ (h:=AW (h:=s_ (h:=a_ (h:=e_ (q_ (w_ (a_ (h:=e_ (Ao (?_))))))))))))
 refine Ba (fun m t=>∃j:Nat,j≤(FD s a).entries.length∧m=(FD s a).entries.length - j∧(∀i y,i<j→(FD s a).entries[i]?=some y→decide (y.2=a.2)=false)∧t=⟨look [(3, .bp 1 0),(7, .bp 3 0),(9, .v (.int .i64 (j:Int)))],⟨[As s.files,AA a,Ah (Aa s.files a),Ah (FD s a)],[]⟩⟩) ((FD s a).entries.length) ((wk 4 0)) (⟨0,by omega,rfl,fun i y hi=>by omega,rfl⟩) ?_
 rintro m t ⟨j,hj,rfl,ha,rfl⟩
 refine q_ (w_ (m_ (h:=f_ (h:=l_ (h:=n_ (h:=BJ (h:=e_ (?_))))))))
 refine A8 rfl (fun hb1=>?_) (fun hb1=>?_)
 ·have hc1:=bp hb1
  obtain⟨hlt,x,hy,hrow, -⟩:=CW CU hc1
  refine AG (q_ (Ao (q_ (DT 9 (h:=AF 0 (h:=AJ 1 (h:=AN 2 (h:=Di 3 (h:=AF 4 (h:=AJ 5 (h:=AF 6 (h:=AJ 7 (h:=Hz 8 (h:=z_ (h:=t_ (?_))))))))))))))))
  refine A8 rfl (fun hb2=>?_) (fun hb2=>?_)
  ·have hc2:=bp hb2
   refine w_ (f_ (h:=l_ (h:=m_ (h:=i_ (h:=f_ (h:=l_ (h:=a_ (h:=e_ (A6 (AR (A7 (A7 (AR (A7 (?_)))))))))))))))
   refine AB ?_
   rw[show C7 s a=x.1 by simp only[C7];rw[HU hy (by simpa using hc2) ha];rfl]
   rfl
  have hc2:=bp hb2
  refine BB (Ay (t_ (AP (m_ (h:=B8 (h:=a_ (h:=AO (?_))))))))
  refine AD ?_
  refine⟨_,_,?_,⟨j+1,by omega,rfl,Dw hy ha (by simpa using hc2),rfl⟩,(wk 4 0)⟩
  omega
 have hc1:=bp hb1
 have e3:=Ck CU hj hc1
 subst e3
 refine BO (Aq (Aq (BQ (t_ (w_ (a_ (h:=e_ (A6 (?_)))))))))
 refine AB ?_
 rw[show C7 s a=⟨#[]⟩ by simp only[C7];rw[Ha ha];rfl]
 rfl
end
end Go.Proofs.YtbglbmnhgbgelaaGreatDoor
