/-
  Part 13 of the proof of WatchPlacesP: what the statement's proof uses of the texts in wip/tpl.
-/
import Derived.Maps.AppendAt
import Derived.OwnWalk
import Derived.StillTailTactics
import Derived.Test.YtbglbmnhgbgelaaGreatDoorQa12
namespace Go.Proofs.YtbglbmnhgbgelaaGreatDoor
open Go.RowKit Go.Shelf
attribute [local go_sem] Oper.semAt_some
theorem hasPrefix_slash(l:Bs):Lib.hasPrefix l [47]=decide (l.head?=some 47):=by
 unfold Lib.hasPrefix
 cases l with
 |nil=>simp
 |cons c t=>
   rw[Bool.eq_iff_iff,List.isPrefixOf_iff_prefix]
   simp[List.cons_prefix_cons,eq_comm]
theorem trim_slash{l:Bs}(h:l.head?=some 47):Lib.trimPrefix l [47]=l.tail:=by
 unfold Lib.trimPrefix
 rw[hasPrefix_slash,if_pos (by simp[h])]
 simp
set_option maxRecDepth 100000 in
set_option maxHeartbeats 1000000 in
theorem PClean_a(s:ByteArray)(w:World)(h:s.data.toList=[47]∨s.data.toList.head?≠some 47):
    Calls Tryz.prog 51 #[.string s] w fun e w'=>e= .returned (.bool (cleanL s.data.toList))∧Below w.heap.size w w':=by
 by_cases h1:s.data.toList=[47]
 ·obtain rfl:s=⟨#[47]⟩:=str_ext h1
  go_enter Tryz.func51,Tryz.ntmps51
  go_wp2
  exact bodyPost_ret (v:= .bool true) (by simp[results,Tryz.results51,go_sem]) rfl ⟨rfl,(Below.refl _ _).alloc (Nat.le_refl _) _⟩
 have h2:s.data.toList.head?≠some 47:=h.resolve_left h1
 have e1:(s.toList==[47])=false:=by rw[toL,beq_eq_false_iff_ne];exact h1
 have HP:=Lib.hid (hasPrefix_slash s.data.toList)
 have HF:Hid (cleanL s.data.toList=false):=Lib.hid (by unfold cleanL;simp[h1,h2])
 have HD:Hid (decide (s.data.toList.head?=some 47)=false):=Lib.hid (decide_eq_false h2)
 clear h h1 h2
 go_enter Tryz.func51,Tryz.ntmps51
 go_wp2_with fail
 refine(Tryz.strings_CutPrefix _ _ _).mono ?_
 rintro e w' ⟨rfl,rfl⟩
 rw[HP.out,HD.out]
 go_wp2
 exact bodyPost_ret (v:= .bool false) (by simp[results,Tryz.results51,go_sem]) rfl ⟨by rw[HF.out],(Below.refl _ _).alloc (Nat.le_refl _) _⟩
set_option maxRecDepth 100000 in
set_option maxHeartbeats 1000000 in
theorem PClean_b(n:Nat)(hn:Hid (1≤n))(s:ByteArray)(w:World)(hs:s.size≤1000000)(h1:s.data.toList≠[47])(h2:s.data.toList.head?=some 47):
    CallsIn Fence.wide n Tryz.prog 51 #[.string s] w fun e w'=>e= .returned (.bool (cleanL s.data.toList))∧Below w.heap.size w w':=by
 have e1:(s.toList==[47])=false:=by rw[toL,beq_eq_false_iff_ne];exact h1
 have HP:=Lib.hid (hasPrefix_slash s.data.toList)
 have HT:=Lib.hid (trim_slash h2)
 have HF:Hid (cleanL s.data.toList=(segs s.data.toList.tail).all nmL):=Lib.hid (by unfold cleanL;simp[h1,h2])
 have HD:Hid (decide (s.data.toList.head?=some 47)=true):=Lib.hid (decide_eq_true h2)
 clear h1 h2
 refine callsIn_of_wp_marks Tryz.func51 rfl trivial ?_ rfl
 simp only[Tryz.ntmps51,List.size_toArray,List.length_cons,List.length_nil,Nat.reduceAdd,Nat.reduceSub,Array.replicate_succ,Array.replicate_zero,List.push_toArray,List.append_toArray,List.nil_append,List.cons_append]
 gi_wp2_with fail
 refine wideCall ((callsIn_wide.2 (Tryz.strings_CutPrefix _ _ _)).mono ?_)
 rintro e w' ⟨rfl,rfl⟩
 obtain⟨r,hr⟩:∃r:ByteArray,r=⟨(Lib.trimPrefix s.data.toList [47]).toArray⟩:=⟨_,rfl⟩
 have hrl:r.data.toList=s.data.toList.tail:=by rw[hr,←HT.out]
 have HR:=Lib.hid hrl
 have hrs:r.size≤1000000:=by rw[Lib.size_eq,hrl,List.length_tail,←Lib.size_eq];omega
 rw[HP.out,HD.out]
 rw[show(⟨(Lib.trimPrefix s.data.toList (ByteArray.mk #[47]).data.toList).toArray⟩:ByteArray)=r from hr.symm]
 clear hrl hr
 gi_wp2_with fail
 refine wideCall ((callsIn_wide.2 (SplitSeq_slash _ _)).mono ?_)
 rintro e w' ⟨rfl,rfl⟩
 gi_wp2_with fail
 have hR:Boxed (w.alloc (.cells #[.bool false] 4)) w.heap.size 4 (.bool false):=Boxed.new _ _ _
 obtain⟨W0,hW0⟩:∃W0,w.alloc (.cells #[.bool false] 4)=W0:=⟨_,rfl⟩
 have hz0:W0.heap.size=w.heap.size+1:=by rw[←hW0];simp
 have hB0:Below w.heap.size w W0:=by rw[←hW0];exact below_a1 _ _
 rw[hW0]at hR ⊢
 obtain⟨WL,hWL⟩:∃WL,((W0.alloc (.cells #[.string r] 9)).alloc (.cells #[.string ⟨#[47]⟩] 9)).alloc (.cells #[.int .i64 0] 3)=WL:=⟨_,rfl⟩
 have hzL:WL.heap.size=w.heap.size+1+1+1+1:=by rw[←hWL];simp[hz0]
 have hBL:Below W0.heap.size W0 WL:=by rw[←hWL];exact below_a3 _ _ _ _
 have k0:Boxed WL (w.heap.size+1) 9 (.string r):=by rw[←hWL,←hz0];exact blk_a3_0 _ _ _ _
 have k1:Boxed WL (w.heap.size+1+1) 9 (.string ⟨#[47]⟩):=by rw[←hWL,←hz0];exact blk_a3_1 _ _ _ _
 have k2:Boxed WL (w.heap.size+1+1+1) 3 (.int .i64 0):=by rw[←hWL,←hz0];exact blk_a3_2 _ _ _ _
 have kR:Boxed WL w.heap.size 4 (.bool false):=blk_below hR hBL hR.lt
 have hBw:Below w.heap.size w WL:=hB0.trans (hBL.mono (by omega))
 rw[hWL]
 have HB0:=Lib.hid hz0
 have HBL:=Lib.hid hzL
 clear hW0 hWL hz0 hR hB0 hBL hzL
 refine wpIn_rangeFunc_st rfl hn.out (gf:=171) rfl trivial (enters_of Tryz.func171 (by kernel_rfl) rfl)
  (splitSeq1 (n - 1) r hrs (w.heap.size+1) (w.heap.size+1+1) (w.heap.size+1+1+1) WL k0 k1 k2 (by omega) (by omega))
  (fun b hb=>by have:=HBL.out;omega) Keep3.trans (fun W l o o' hl _ _=>by have:=HBL.out;exact keep3_put (N:=WL.heap.size) (by omega) (by omega) (by omega) W l o' hl) (Below.refl _ _) (fun _=>rfl)
  (fun pre W=>Boxed W w.heap.size 4 (.bool false)∧(∀p∈bls pre,nmL p=true)∧Below w.heap.size w W)
  (fun c pre W=>c= .ret∧Boxed W w.heap.size 4 (.bool false)∧(∃p∈bls pre,nmL p=false)∧Below w.heap.size w W)
  (fun s X Y h hm=>⟨hm.boxed h.1 (by omega),h.2.1,hm.under h.2.2 (Nat.le_refl _) (fun b hb=>by omega) (by have:=HBL.out;omega)⟩)
  (fun c s X Y h hm=>⟨h.1,hm.boxed h.2.1 (by omega),h.2.2.1,hm.under h.2.2.2 (Nat.le_refl _) (fun b hb=>by omega) (by have:=HBL.out;omega)⟩)
  ⟨kR,by simp[bls],hBw⟩
  (fun x=>{tmps:=#[.string s,undef, .pointer (some ⟨w.heap.size,0,none⟩), .string r, .bool true, .string x, .string s, .bool false, .tuple #[.string r, .bool true], .string s, .tuple #[.string r, .bool true], .string r, .bool true, .bool true, .bool false, .string r,
    .func (.func 171) #[] #[.pointer (some ⟨w.heap.size+1+1,0,none⟩), .pointer (some ⟨w.heap.size+1,0,none⟩), .pointer (some ⟨w.heap.size+1+1+1,0,none⟩)], .string x,undef,undef,undef],defers:=[]}) ?assign ?body ?done ?stop
 case assign=>
  intro l x W K hK
  gi_wp2
  exact hK
 case body=>
  rintro l pre x W ⟨hc,hnm,hbw⟩ _ hsz
  have hcell:=hc.cell
  have hfz:=hc.frozen
  have HN:=Lib.hid hnm
  have HZ:=Lib.hid hsz
  clear hnm hsz
  gi_wp2_with fail
  refine wideCall ((CallsIn.inRound l (callsIn_wide.2 (PName_any x W))).mono ?_)
  rintro e W' ⟨rfl,hb'⟩
  have hc':Boxed W' w.heap.size 4 (.bool false):=blk_below hc hb' hc.lt
  have hbw':Below w.heap.size w W':=hbw.trans (hb'.mono hbw.size)
  clear hcell hfz
  have hcell:=hc'.cell
  have hfz:=hc'.frozen
  have HX:Hid (bls (pre++[x])=bls pre++[x.data.toList]):=Lib.hid (by simp[bls])
  cases hnx:nmL x.data.toList with
  |true=>
    gi_wp2
    have h1:=HBL.out
    have h2:=HZ.out
    exact⟨keepsFrom_below hb',keep3_below hb' (by omega) (by omega) (by omega),hc',by rw[HX.out];intro p hp;rcases List.mem_append.1 hp with hp|hp;exact HN.out p hp;simp at hp;rw[hp];exact hnx,hbw'⟩
  |false=>
    gi_wp2
    have h1:=HBL.out
    exact⟨keepsFrom_set (keepsFrom_below hb') (by omega) _,rfl,hc'.set _,⟨x.data.toList,by rw[HX.out];simp,hnx⟩,hbw'.setCell (Nat.le_refl _) _⟩
 case done=>
  rintro D xs W hD hS ⟨hc,hnm,hbw⟩ hK
  have HS:=Lib.hid hS
  have HN:=Lib.hid hnm
  clear hS hnm
  have hcell:=hc.cell
  have hfz:=hc.frozen
  gi_wp2
  refine⟨by simp, .inl ⟨_,_,rfl,run_takeDeferred ((KeepsOthers.setCell _ _ _).same D _ hK rfl),?_⟩⟩
  have h1:=HBL.out
  have hcb:=(boxed_put (hc.set (.bool true)) (show w.heap.size≠D by omega) (.deferred none)).cell
  refine⟨.bool true,by simp[results,Tryz.f51,go_sem,hcb],by rw[HF.out,←HR.out,←HS.out,List.all_eq_true.2 HN.out],below_put (hbw.setCell (p:=⟨w.heap.size,0,none⟩) (Nat.le_refl _) _) (by omega) _⟩
 case stop=>
  rintro D c pre W hD hSp ⟨rfl,hc,hnm,hbw⟩ hK
  have HS:=Lib.hid hSp
  have HN:=Lib.hid hnm
  clear hSp hnm
  have hcell:=hc.cell
  gi_wp2
  refine⟨by simp, .inl ⟨_,_,rfl,run_takeDeferred hK,?_⟩⟩
  have h1:=HBL.out
  have hcb:=(boxed_put hc (show w.heap.size≠D by omega) (.deferred none)).cell
  refine⟨.bool false,by simp[results,Tryz.f51,go_sem,hcb],?_,below_put hbw (by omega) _⟩
  obtain⟨p,hp,hpf⟩:=HN.out
  rw[HF.out,←HR.out,List.all_eq_false.2 ⟨p,HS.out.subset hp,by simp[hpf]⟩]
theorem PClean_any(s:ByteArray)(w:World)(hs:s.size≤1000000):
    Calls Tryz.prog 51 #[.string s] w fun e w'=>e= .returned (.bool (cleanL s.data.toList))∧Below w.heap.size w w':=by
 by_cases h1:s.data.toList=[47]
 ·exact PClean_a s w (.inl h1)
 by_cases h2:s.data.toList.head?=some 47
 ·exact callsIn_wide.1 (PClean_b 6 (Lib.hid (by omega)) s w hs h1 h2)
 exact PClean_a s w (.inr h2)
end Go.Proofs.YtbglbmnhgbgelaaGreatDoor
namespace Go.Proofs.YtbglbmnhgbgelaaGreatDoor
open Go.RowKit
def flat{α:Type}(sz:Nat)(cell:α→Nat→Value)(xs:List α):List Value:=xs.flatMap fun x=>(List.range sz).map (cell x)
section
variable {α:Type}{sz:Nat}{cell:α→Nat→Value}
theorem flat_get(xs:List α):∀(i j:Nat) (x:α),xs[i]?=some x→j<sz→(flat sz cell xs)[i * sz+j]?=some (cell x j):=by
 induction xs with
 |nil=>intro i j x h;simp at h
 |cons y ys ih=>
   intro i j x h hj
   have e:flat sz cell (y::ys)=(List.range sz).map (cell y)++flat sz cell ys:=by simp[flat]
   rw[e]
   cases i with
   |zero=>
     simp at h
     subst h
     rw[List.getElem?_append_left (by simpa using hj)]
     simp[hj]
   |succ i=>
     rw[List.getElem?_append_right (by simp[Nat.add_mul];omega)]
     simp only[List.getElem?_cons_succ]at h
     have:=ih i j x h hj
     rw[←this]
     congr 1
     simp[Nat.add_mul]
     omega
def OwnL(sz:Nat)(cell:α→Nat→Value)(E:TypeId)(w:World)(base:Nat)(v:Value)(xs:List α):Prop:=
 w.ownsRow base E sz v xs.length (flat sz cell xs)
theorem OwnL.list{E:TypeId}{w:World}{base:Nat}{v:Value}{xs:List α}(h:OwnL sz cell E w base v xs)(hf:xs.length≤few){D:Nat→Prop}(hD:∀b,base≤b→b<w.heap.size→D b):ListR sz cell w D v xs:=by
 rcases h.2 with⟨rfl,hn⟩|⟨g,cap,cur,rfl,hb,hg,hnc,_,hcs,htake⟩
 ·obtain rfl:xs=[]:=List.eq_nil_of_length_eq_zero hn
  exact ListR.nil_
 refine⟨_,_,rfl,hnc,hf,fun _=>⟨g,0,rfl,hD g hb (Array.getElem?_eq_some_iff.1 hg).1,fun i x j hi hj=>?_⟩⟩
 have hlt:i * sz+j<xs.length * sz:=by
  have h1:=(List.getElem?_eq_some_iff.1 hi).1
  have h2:(i+1) * sz≤xs.length * sz:=Nat.mul_le_mul_right sz h1
  rw[Nat.add_mul]at h2
  omega
 rw[Nat.zero_add,cell_of_row w g _ cur E (0,0) hg,←flat_get xs i j x hi hj,←htake,List.getElem?_take,if_pos hlt]
 simp
end
theorem hasSuffix_slash(l:Bs):Lib.hasSuffix l [47]=decide (l.getLast?=some 47):=by
 unfold Lib.hasSuffix
 rw[Bool.eq_iff_iff,List.isSuffixOf_iff_suffix,decide_eq_true_iff]
 rcases List.eq_nil_or_concat l with rfl|⟨a,x,rfl⟩
 ·simp
 simp only[List.concat_eq_append,List.getLast?_concat,Option.some.injEq]
 constructor
 ·rintro⟨t,ht⟩
  have:=congrArg List.getLast? ht
  simpa[eq_comm]using this
 rintro rfl
 exact⟨a,rfl⟩
theorem pieces_len(l:Bs):(pieces l).length≤l.length+1:=by
 have h1:(pieces l).length≤(segs l).length:=List.length_filter_le _ _
 have h2:(segs l).length≤l.length+1:=by
  clear h1
  induction l with
  |nil=>simp[segs]
  |cons c t ih=>
    rw[segs_cons]
    split
    ·simp;omega
    split
    ·simp
    rename_i h
    rw[h]at ih
    simp at ih ⊢
    omega
 omega
theorem flat_str(xs:List Str):flat 1 strCell xs=xs.map Value.string:=by
 induction xs with
 |nil=>rfl
 |cons x xs ih=>
   unfold flat at ih ⊢
   rw[List.flatMap_cons,ih]
   rfl
theorem Tryz.infoStr:(Tryz.prog.info? 9).map (fun i=>(i.zero,i.size,i.bytes))=some (some (.string ⟨#[]⟩),1,16):=by kernel_rfl
set_option maxHeartbeats 400000 in
theorem Cut_yes(s:ByteArray)(w:World)(i:Nat)(hi:Lib.indexByte s.data.toList 47=i)(hlt:i<s.size)(hmax:s.size≤1000000):
    Calls Tryz.prog 175 #[.string s, .string ⟨#[47]⟩] w fun e w'=>e= .returned (.tuple #[.string (s.extract 0 i), .string (s.extract (i+1) s.size), .bool true])∧∃n,w'=w.drewN n:=by
 have HI:=Lib.hid hi
 clear hi
 have h1:Calls Tryz.prog 195 #[.string s, .string ⟨#[47]⟩] w fun e w'=>e= .returned (.tuple #[.string (s.extract 0 i), .string (s.extract (i+1) s.size), .bool true])∧∃n,w'=w.drewN n:=by
  go_enter Tryz.func195,Tryz.ntmps195
  go_wp2_with fail
  refine(Index_slash _ _).mono ?_
  rintro e w' ⟨rfl,rfl⟩
  rw[HI.out]
  go_wp2_with fail
  go_quiet (fail)
  go_wp2
  go_ret3
  exact⟨rfl,_,rfl⟩
 go_enter Tryz.func175,Tryz.ntmps175
 go_wp2_with fail
 refine h1.mono ?_
 rintro e w' ⟨rfl,n,rfl⟩
 go_wp2
 go_ret3
 exact⟨rfl,_,rfl⟩
set_option maxHeartbeats 400000 in
theorem Cut_no(s:ByteArray)(w:World)(hi:Lib.indexByte s.data.toList 47= -1):
    Calls Tryz.prog 175 #[.string s, .string ⟨#[47]⟩] w fun e w'=>e= .returned (.tuple #[.string s, .string ⟨#[]⟩, .bool false])∧w=w':=by
 have HI:=Lib.hid hi
 clear hi
 have h1:Calls Tryz.prog 195 #[.string s, .string ⟨#[47]⟩] w fun e w'=>e= .returned (.tuple #[.string s, .string ⟨#[]⟩, .bool false])∧w=w':=by
  go_enter Tryz.func195,Tryz.ntmps195
  go_wp2_with fail
  refine(Index_slash _ _).mono ?_
  rintro e w' ⟨rfl,rfl⟩
  rw[HI.out]
  go_wp2
  go_ret3
  exact⟨rfl,rfl⟩
 go_enter Tryz.func175,Tryz.ntmps175
 go_wp2_with fail
 refine h1.mono ?_
 rintro e w' ⟨rfl,rfl⟩
 go_wp2
 go_ret3
 exact⟨rfl,rfl⟩
end Go.Proofs.YtbglbmnhgbgelaaGreatDoor
namespace Go.Proofs.YtbglbmnhgbgelaaGreatDoor
open Go.RowKit Go.Shelf
attribute [local go_sem] Oper.semAt_some
def CutQ(s:Str)(w:World)(e:Ending)(w':World):Prop:=∃(p q:Str) (b:Bool) (n:Nat),e= .returned (.tuple #[.string p, .string q, .bool b])∧w'=w.drewN n∧pieces s.data.toList=one_ p.data.toList++pieces q.data.toList∧(0<s.size→q.size<s.size)
theorem Cut_any(s:ByteArray)(w:World)(hmax:s.size≤1000000):Calls Tryz.prog 175 #[.string s, .string ⟨#[47]⟩] w (CutQ s w):=by
 by_cases h:(47:UInt8)∈s.data.toList
 ·obtain⟨i,hi,hlt,hl,hn⟩:=index_some h
  have hlt':i<s.size:=by rw[Lib.size_eq];exact hlt
  refine(Cut_yes s w i hi hlt' hmax).mono ?_
  rintro e w' ⟨rfl,n,rfl⟩
  refine⟨_,_,_,n,rfl,rfl,?_,fun _=>size_lt_of_extract s i hlt'⟩
  rw[Lib.extract_data,Lib.extract_to_end]
  simp only[List.drop_zero,Nat.sub_zero]
  conv=>lhs;rw[hl]
  exact pieces_cut hn _
 refine(Cut_no s w (index_none h)).mono ?_
 rintro e w' ⟨rfl,rfl⟩
 refine⟨_,_,_,0,rfl,rfl,?_,fun h=>h⟩
 rw[pieces_none h]
 simp[pieces_nil]
theorem parts_any(s:ByteArray)(w:World):
    Calls Tryz.prog 131 #[.string s] w fun e w'=>
     e= .returned (.func (.func 174) #[] #[.pointer (some ⟨w.heap.size,0,none⟩)])∧w'=w.alloc (.cells #[.string s] 9):=by
 go_enter Tryz.func131,Tryz.ntmps131
 go_wp2
 go_ret
 exact⟨rfl,rfl⟩
theorem empty_iff(s:ByteArray):s.toList.isEmpty=decide (s.size=0):=by
 rw[toL,Lib.size_eq,Bool.eq_iff_iff,List.isEmpty_iff,decide_eq_true_iff,List.length_eq_zero_iff]
def Keep1(a:Nat)(X Y:World):Prop:=Y.heap[a]?=X.heap[a]?
set_option maxRecDepth 100000 in
set_option maxHeartbeats 1000000 in
theorem parts1(n:Nat)(s:ByteArray)(hs:s.size≤1000000)(b0:Nat)(w:World)(h0:Boxed w b0 9 (.string s)):
    SeqW Fence.wide n Tryz.prog 174 #[.pointer (some ⟨b0,0,none⟩)] (fun x:Str=>#[.string x]) (fun b=>b=b0) (Keep1 b0) (fun xs=>bls xs<+:pieces s.data.toList)
     (fun xs=>bls xs=pieces s.data.toList) (fun pre=>bls pre<+:pieces s.data.toList) w:=fun l J Jx W hW hJ hJx hY hst=>by
 have k0:Boxed W b0 9 (.string s):=blk_below h0 hW h0.lt
 refine callsIn_of_wp Tryz.func174 rfl trivial ?_ rfl
 simp only[Tryz.ntmps174,List.size_toArray,List.length_cons,List.length_nil,Nat.reduceAdd,Nat.reduceSub,Array.replicate_succ,Array.replicate_zero,List.push_toArray,List.append_toArray,List.nil_append,List.cons_append]
 gi_wp2
 gi_loopw [3] (fun _ wr=>∃(pre:List Str) (r:ByteArray),Boxed wr b0 9 (.string r)∧J pre wr∧Hid (bls pre++pieces r.data.toList=pieces s.data.toList)∧r.size≤s.size) (fun _ wr=>boxLen wr b0)
 case atStart=>exact⟨[],s,k0,hst,rfl,Nat.le_refl _⟩
 case round=>
  obtain⟨pre,r,m0,hj,hpre,hle⟩:=hrel
  clear k0 hst
  have c0:=m0.cell
  have f0:=m0.frozen
  by_cases hr:r.size=0
  ·have he:r.toList.isEmpty=true:=by rw[empty_iff];simp[hr]
   have he':r.toList=[]:=List.isEmpty_iff.1 he
   have HP:Hid (pieces r.data.toList=[]):=by rw[←toL,he'];exact Lib.hid pieces_nil
   gi_wp2
   go_end0
   exact⟨⟨_,rfl⟩, .inl ⟨pre,by rw[←hpre.out,HP.out];simp,hj⟩⟩
  have he:r.toList.isEmpty=false:=by rw[empty_iff];simp[hr]
  gi_wp2_with fail
  refine wideCall ((callsIn_wide.2 (Cut_any _ _ (by omega))).mono ?_)
  rintro e w' ⟨p,q,b,nd,rfl,rfl,hpq,hq⟩
  have hql:=hq (by omega)
  have HP:=Lib.hid hpq
  clear hpq hq
  have hj':J pre ((wr.drewN nd).setCell ⟨b0,0,none⟩ (.string q)):=hJ _ _ _ (hJ _ _ _ hj (Moves.below (below_drewN (Below.refl _ _) nd))) (Moves.set_ (own:=fun b=>b=b0) _ rfl _)
  have m0':Boxed ((wr.drewN nd).setCell ⟨b0,0,none⟩ (.string q)) b0 9 (.string q):=Boxed.set _ (show Boxed (wr.drewN nd) b0 9 (.string r) from m0)
  by_cases hp:p.size=0
  ·have hpe:p.toList.isEmpty=true:=by rw[empty_iff];simp[hp]
   have hpe':p.toList=[]:=List.isEmpty_iff.1 hpe
   have HO:Hid (one_ p.data.toList=[]):=by rw[←toL,hpe'];exact Lib.hid rfl
   gi_wp2
   refine⟨fun _ h=>(by cases h),?_⟩
   gi_wp2
   go_roundw
   case rel=>exact⟨pre,q,m0',hj',Lib.hid (by rw[←hpre.out,HP.out,HO.out];simp),by omega⟩
   case measure=>rw[boxLen_eq m0',boxLen_eq m0];exact hql
  have HO:Hid (one_ p.data.toList=[p.data.toList]):=Lib.hid (if_neg (fun e=>hp (by rw[Lib.size_eq,e];rfl)))
  have hpe:p.toList.isEmpty=false:=by rw[empty_iff];simp[hp]
  obtain⟨fn,tmps,assign,body,hy,hR⟩:=hY pre p _ hj' (by rw[←hpre.out,HP.out,HO.out];simp[bls])
  gi_wp2
  refine⟨(fun h=>by cases h),hR.mono ?_⟩
  rintro e W3 (⟨rfl,hJ3,hk3⟩|⟨rfl,hJx3⟩)
  ·have q0:Boxed W3 b0 9 (.string q):=hk3.trans m0'
   clear c0 f0 hy hR
   gi_wp2
   go_roundw
   case rel=>exact⟨pre++[p],q,q0,hJ3,Lib.hid (by rw[←hpre.out,HP.out,HO.out];simp[bls]),by omega⟩
   case measure=>rw[boxLen_eq q0,boxLen_eq m0];exact hql
  gi_wp2
  refine bodyPost_ret (results_none rfl _ _ _) rfl ?_
  exact⟨⟨_,rfl⟩, .inr ⟨pre++[p],by rw[←hpre.out,HP.out,HO.out];simp[bls],hJx3⟩⟩
end Go.Proofs.YtbglbmnhgbgelaaGreatDoor
namespace Go.Proofs.YtbglbmnhgbgelaaGreatDoor
open Go.RowKit Go.Shelf
attribute [local go_sem] Oper.semAt_some
theorem Moves.row{own:Nat→Prop}{B:Nat}{X Y:World}(h:Moves own B X Y){base e size k:Nat}{v:Value}{xs:List Value}(hr:X.ownsRow base e size v k xs)(ho:∀b,own b→b<base):Y.ownsRow base e size v k xs:=by
 refine⟨hr.1,?_⟩
 rcases hr.2 with h'|⟨g,cap,cur,hv,hg,hb,r⟩
 ·exact .inl h'
 refine .inr ⟨g,cap,cur,hv,hg,?_,r⟩
 exact(h.block g (Array.getElem?_eq_some_iff.1 hb).1 (fun e=>by have:=ho g e;omega) (.inr ⟨_,hb,rfl⟩)).trans hb
theorem appended_{W w1:World}{base B:Nat}{t e:TypeId}{size:Nat}{v v':Value}{k m:Nat}{xs ys:List Value}{tmp:Obj}
    (hv:Boxed W B t v) (hrow:W.ownsRow base e size v k xs) (hbase:base≤W.heap.size) (hB:B<base)
    (hown':w1.ownsRow base e size v' m ys) (hgrow:(W.alloc tmp).grownBy w1 v.ownBlock):
    Boxed w1 B t v∧Boxed (w1.setCell ⟨B,0,none⟩ v') B t v'∧(w1.setCell ⟨B,0,none⟩ v').ownsRow base e size v' m ys∧KeepsOthers W (w1.setCell ⟨B,0,none⟩ v')∧
     Below B W (w1.setCell ⟨B,0,none⟩ v')∧∀j,j<base→j≠B→(w1.setCell ⟨B,0,none⟩ v').heap[j]?=W.heap[j]?:=by
 have hne:∀j,j<base→some j≠v.ownBlock:=by
  intro j hj e
  have:=World.ownsRow.lt hrow j e.symm
  omega
 have hblk:∀j,j<base→w1.heap[j]?=W.heap[j]?:=fun j hj=>(hgrow.block j (by simp;omega) (hne j hj)).trans (Below.heap_alloc W tmp j (by omega))
 have hv1:Boxed w1 B t v:=(hblk B hB).trans hv
 refine⟨hv1,hv1.set v',ownsRow_setCell_below hown' hB v',?_,?_,fun j hj hj'=>(Below.heap_setCell w1 ⟨B,0,none⟩ v' j hj').trans (hblk j hj)⟩
 ·refine((KeepsOthers.alloc W tmp).trans (KeepsOthers.of_grownBy hgrow fun j o ej hj=>?_)).trans (KeepsOthers.setCell _ _ _)
  rcases(hrow.alloc tmp).2 with⟨rfl,_⟩|⟨g,cap,cur,rfl,_,hgb,_⟩
  ·simp[Value.ownBlock]at ej
  obtain rfl:g=j:=by simpa[Value.ownBlock]using ej
  rw[hgb]at hj;cases hj;rfl
 have hs:=hgrow.size
 simp at hs
 exact⟨hgrow.os,hgrow.tape,hgrow.output,by simp[World.setCell];omega,fun j hj=>(Below.heap_setCell w1 ⟨B,0,none⟩ v' j (by show j≠B;omega)).trans (hblk j (by omega))⟩
def SplitC(l:Bs)(w:World)(e:Ending)(w':World):Prop:=∃(v:Value) (ss:List Str),e= .returned (.tuple #[v, .bool (decide (l.head?=some 47)), .bool (decide (l.getLast?=some 47))])∧StrsR w' (Fresh w w') v ss∧bls ss=pieces l∧Below w.heap.size w w'∧∃A c,v= .slice A ss.length c∧c≤maxLen
set_option maxRecDepth 100000 in
set_option maxHeartbeats 2000000 in
theorem PSplit_b(n:Nat)(hn:Hid (1≤n))(s:ByteArray)(w:World)(hs:s.size≤60000):
    CallsIn Fence.wide n Tryz.prog 91 #[.string s] w (SplitC s.data.toList w):=by
 obtain⟨i0,hi,hz0,hz1,hz2⟩:=info_parts Tryz.infoStr
 refine callsIn_of_wp_marks Tryz.func91 rfl trivial ?_ rfl
 simp only[Tryz.ntmps91,List.size_toArray,List.length_cons,List.length_nil,Nat.reduceAdd,Nat.reduceSub,Array.replicate_succ,Array.replicate_zero,List.push_toArray,List.append_toArray,List.nil_append,List.cons_append]
 gi_wp2_with fail
 refine wideCall ((callsIn_wide.2 (parts_any _ _)).mono ?_)
 rintro e w' ⟨rfl,rfl⟩
 gi_wp2_with fail
 obtain⟨WL,hWL⟩:∃WL,(w.alloc (.cells #[.slice none 0 0] 63)).alloc (.cells #[.string s] 9)=WL:=⟨_,rfl⟩
 have hzL:WL.heap.size=w.heap.size+1+1:=by rw[←hWL];simp
 have hBw:Below w.heap.size w WL:=by rw[←hWL];exact below_a2 _ _ _
 have kR:Boxed WL w.heap.size 63 (.slice none 0 0):=by rw[←hWL];exact blk_a2_0 _ _ _
 have k0:Boxed WL (w.heap.size+1) 9 (.string s):=by rw[←hWL];exact blk_a2_1 _ _ _
 rw[hWL]
 have HZ:=Lib.hid hzL
 clear hWL hzL
 refine wpIn_rangeFunc_st rfl hn.out (gf:=174) rfl trivial (enters_of Tryz.func174 (by kernel_rfl) rfl)
  (parts1 (n - 1) s (by omega) (w.heap.size+1) WL k0)
  (fun b hb=>by have:=HZ.out;omega) (fun h k=>Eq.trans k h) (fun W l o o' hl _ _=>by have:=HZ.out;exact World.putObj_heap_other (by omega)) (Below.refl _ _) (fun _=>rfl)
  (fun pre W=>∃v,Boxed W w.heap.size 63 v∧W.ownsRow WL.heap.size 9 1 v pre.length (pre.map Value.string)∧Below w.heap.size w W)
  (fun _ _ _=>False)
  (fun s X Y h hm=>by
    obtain⟨v,h1,h2,h3⟩:=h
    have:=HZ.out
    exact⟨v,hm.boxed h1 (by omega),hm.row h2 (fun b hb=>by omega),hm.under h3 (Nat.le_refl _) (fun b hb=>by omega) (by omega)⟩)
  (fun _ _ _ _ h _=>h)
  ⟨_,kR,World.ownsRow_nil _ _ _ _,hBw⟩
  (fun x=>{tmps:=#[.string s,undef, .pointer (some ⟨w.heap.size,0,none⟩), .bool false, .bool false, .string x, .string s, .func (.func 174) #[] #[.pointer (some ⟨w.heap.size+1,0,none⟩)], .string x,undef,undef,undef,undef,undef,undef,undef,undef,undef],defers:=[]}) ?assign ?body ?done ?stop
 case assign=>
  intro l x W K hK
  gi_wp2
  exact hK
 case body=>
  rintro l pre x W ⟨v,hc,hrow,hbw⟩ hpf hsz
  have hcell:=hc.cell
  have HZW:=Lib.hid hsz
  have hpl:pre.length≤1000000:=by
   have h1:=hpf.length_le
   have h2:=pieces_len s.data.toList
   rw[←Lib.size_eq]at h2
   simp[bls]at h1
   omega
  have hmx:pre.length+1≤maxLen:=by unfold maxLen;omega
  clear hsz hpf
  gi_wp2_with (gi_at_builtin;refine wpListIn_append_own _ rfl _ _ 63 rfl WL.heap.size 9 i0 (.string ⟨#[]⟩) 1 16 Tryz.underlying63 hi hz0 hz1 hz2 rfl (by decide) _ _ _ rfl (hrow.alloc _) ⟨W.heap.size,0,none⟩ 1 1 [.string x] rfl rfl (cell_one_new _ _ _) (by simp[Value.oneCell']) (by omega) (by omega) (by have:=HZW.out;simp;omega) ?_;intro v' w1 hown' hgrow _;obtain⟨g',cap',rfl⟩:=ownsRow_succ hown';obtain⟨hv1,hv2,hr2,hk2,hb2,hj2⟩:=appended_ hc hrow (by have:=HZW.out;omega) (by have:=HZ.out;omega) hown' hgrow;have hc1:=hv1.cell;have hf1:=hv1.frozen)
  have h1:=HZ.out
  exact⟨hk2.from _,hj2 _ (by omega) (by omega),⟨_,hv2,by simpa using hr2,hbw.trans hb2⟩⟩
 case done=>
  rintro D xs W hD hS ⟨v,hc,hrow,hbw⟩ hK
  have HS:=Lib.hid hS
  clear hS
  obtain⟨A,cc,rfl⟩:∃A c,v= .slice A xs.length c:=by
   rcases hrow.2 with⟨rfl,hn⟩|⟨g,cap,cur,rfl,_⟩
   ·exact⟨none,0,by rw[hn]⟩
   exact⟨_,_,rfl⟩
  have hccm:cc≤maxLen:=by
   rcases hrow.2 with⟨h1,_⟩|⟨g,cap,cur,h1,h2,h3,h4,h5,_⟩
   ·injection h1 with _ _ h1
    rw[h1]
    exact Nat.zero_le _
   injection h1 with _ _ h1
   rw[h1]
   exact h5
  have hcell:=hc.cell
  have hfz:=hc.frozen
  gi_wp2_with fail
  refine wpIn_wide.2 ?_
  refine wp_region_still_tail 5 (by kernel_rfl) (by kernel_rfl) ?_
  simp only[List.take_succ_cons,List.take_zero,List.drop_succ_cons,List.drop_zero]
  still_step
  still_step
  still_call (Tryz.strings_HasPrefix _ _ _)
  still_step
  still_call (Tryz.strings_HasSuffix _ _ _ (by omega))
  refine wpStill_nil ?_
  change wpList _ _ _ _ _ W.drew
  have hc2:Boxed W.drew w.heap.size 63 (.slice A xs.length cc):=hc
  have hr2:W.drew.ownsRow WL.heap.size 9 1 (.slice A xs.length cc) xs.length (xs.map Value.string):=hrow
  have hb2:Below w.heap.size w W.drew:=hbw.drew
  have hK2:W.drew.heap[D]?=some (.deferred (some [])):=hK
  clear hc hrow hbw hK hcell hfz
  generalize W.drew=W2 at *
  have hcell:=hc2.cell
  have hfz:=hc2.frozen
  go_wp2
  gi_wp2
  refine⟨by simp, .inl ⟨_,_,rfl,run_takeDeferred ((KeepsOthers.setCell _ _ _).same D _ hK2 rfl),?_⟩⟩
  have h1:=HZ.out
  have hcb:=(boxed_put (hc2.set (.slice A xs.length cc)) (show w.heap.size≠D by omega) (.deferred none)).cell
  refine⟨.tuple #[.slice A xs.length cc, .bool (Lib.hasPrefix s.data.toList [47]), .bool (Lib.hasSuffix s.data.toList [47])],by simp[results,Tryz.f91,go_sem,hcb], .slice A xs.length cc,xs,by rw[hasPrefix_slash,hasSuffix_slash],?_,HS.out,below_put (hb2.setCell (p:=⟨w.heap.size,0,none⟩) (Nat.le_refl _) _) (by omega) _,A,cc,rfl,hccm⟩
  have hrow':=ownsRow_putObj (ownsRow_setCell_below hr2 (a:=⟨w.heap.size,0,none⟩) (by show w.heap.size<_;omega) (.slice A xs.length cc)) (.deferred none) ((KeepsOthers.setCell _ _ _).same D _ hK2 rfl) rfl
  have hlen:xs.length≤few:=by
   have h2:=pieces_len s.data.toList
   rw[←HS.out,←Lib.size_eq]at h2
   simp[bls]at h2
   unfold few
   omega
  refine OwnL.list (sz:=1) (cell:=strCell) (E:=9) (base:=WL.heap.size) ?_ hlen (fun b hb hlt=>⟨by omega,hlt⟩)
  unfold OwnL
  rw[flat_str]
  exact hrow'
 case stop=>
  rintro D c pre W hD hSp h hK
  exact h.elim
theorem PSplit_cap(s:ByteArray)(w:World)(hs:s.size≤60000):Calls Tryz.prog 91 #[.string s] w (SplitC s.data.toList w):=
 callsIn_wide.1 (PSplit_b 6 (Lib.hid (by omega)) s w hs)
end Go.Proofs.YtbglbmnhgbgelaaGreatDoor
namespace Go.Proofs.YtbglbmnhgbgelaaGreatDoor
open Go.RowKit
theorem run_app_full{P:Program}{St:Nat→Nat→Prop}{w:World}(hst:∀b o,St b o→b<w.heap.size){T T' sz bytes:Nat}(hE:elmOf P T=some (T',sz,bytes))(hby:bytes≤100000){rows new:List (List AV)}{A:Option Addr}{cap:Nat}{y:Value}
    (hs:fro St w (.sl sz rows none) (.slice A rows.length cap)) (hy:fro St w (.sl sz new none) y) (hsm:rows.length+new.length≤1000000) (rt:TypeId):
    ∃(v':Value) (w':World) (N:Nat→Nat→Prop),(Builtin.append_ #[T,T] rt #[.slice A rows.length rows.length,y]).run P w= .ok v' w'∧Below w.heap.size w w'∧(∀b o,N b o→w.heap.size≤b∧b<w'.heap.size)∧fro (fun b o=>St b o∨N b o) w' (.sl sz (rows++new) none) v':=by
 obtain⟨hu,inf,z,hinf,hz,hzs,hsz,hbts,hp⟩:=elm_spec hE
 obtain⟨A',cap',vs,e1,e2,e3,e4,e5⟩:=fro_flat hy
 obtain⟨A0,cap0,us,f1,f2,f3,f4,f5⟩:=fro_flat hs
 injection f1 with f1a f1b f1c
 subst f1a
 by_cases h0:new=[]
 ·subst h0
  refine⟨.slice A rows.length rows.length,w,fun _ _=>False,?_,Below.refl _ _,fun _ _ h=>h.elim,?_⟩
  ·rw[e1]
   rcases A' with _|ad<;>rcases A with _|ad0<;>simp[Builtin.append_,run_underlying hu,sizeOf,typeInfo,hinf,Builtin.lenOf,Builtin.firstCells,storeCells,loadCells,loadCellsFrom]
  rw[List.append_nil]
  have k:fro St w (.sl sz rows none) (.slice A rows.length rows.length):=by
   simp only[fro]at hs ⊢
   obtain⟨_,B,c,h1,h2,h3,h4⟩:=hs
   injection h1 with h1 _ _
   subst h1
   exact⟨trivial,_,_,rfl,Nat.le_refl _,Nat.le_trans h2 h3,h4⟩
  exact fro_mono (fun b o hb=>⟨.inl hb,rfl⟩) _ _ k
 obtain⟨b,off,q1,q2⟩:=e5 h0
 subst q1
 rw[e1]
 have hnl:0<new.length:=List.length_pos_iff.2 h0
 have hnews:∀j u,vs[j]?=some u→w.cell? ((⟨b,off,none⟩:Addr).add j)=some u:=fun j u hj=>by rw[Addr.add_mid];exact q2 j u hj
 have hbt:(rows.length+new.length) * bytes≤140737488355328:=by
  have:(rows.length+new.length) * bytes≤1000000 * 100000:=Nat.mul_le_mul hsm hby
  omega
 have key:∃v' w',(Builtin.append_ #[T,T] rt #[.slice A rows.length rows.length, .slice (some ⟨b,off,none⟩) new.length cap']).run P w= .ok v' w'∧w'.ownsRow w.heap.size T' sz v' (rows.length+new.length) (us++vs)∧w.grownBy w' none:=by
  by_cases hr0:rows=[]
  ·subst hr0
   have hus:us=[]:=List.eq_nil_of_length_eq_zero (by simpa using f4.1)
   subst hus
   rcases A with _|ad
   ·obtain⟨v',w',r1,r2,r3,r4,r5⟩:=run_append_own_at (P:=P) w w.heap.size T rt T' inf z sz bytes hu hinf hz hsz hbts hzs hp (.slice none 0 0) 0 [] (World.ownsRow_nil w _ _ _) ⟨b,off,none⟩ new.length cap' vs (by rw[e4.1]) hnews e4.2.2.1 (by simp at hsm;unfold maxLen;omega) (by simpa using hbt) (Nat.le_refl _)
    exact⟨v',w',by simpa using r1,by simpa using r2,by simpa[Value.ownBlock]using r3⟩
   obtain⟨v',w',r1,r2,r3⟩:=run_append_arg_grows (P:=P) w T rt T' inf z sz bytes hu hinf hz hsz hbts hzs hp ad 0 0 [] (by simp) (by simp) ⟨b,off,none⟩ new.length cap' vs (by rw[e4.1]) hnews (by omega) (by simp at hsm;unfold maxLen;omega) (by simpa using hbt)
   exact⟨v',w',by simpa using r1,by simpa using r2,r3⟩
  obtain⟨b0,off0,p1,p2⟩:=f5 hr0
  subst p1
  exact run_append_arg_grows (P:=P) w T rt T' inf z sz bytes hu hinf hz hsz hbts hzs hp ⟨b0,off0,none⟩ rows.length rows.length us (by rw[f4.1]) (fun j u hj=>by rw[Addr.add_mid];exact p2 j u hj) ⟨b,off,none⟩ new.length cap' vs (by rw[e4.1]) hnews (by omega) (by unfold maxLen;omega) hbt
 obtain⟨v',w',r1,r2,r3⟩:=key
 have hbel:Below w.heap.size w w':=⟨r3.os,r3.tape,r3.output,r3.size,fun k hk=>r3.block k hk (by simp)⟩
 have hlt:=World.ownsRow.lt r2
 refine⟨v',w',fun b _=>v'.ownBlock=some b,r1,hbel,fun b o hb=>hlt b hb,?_⟩
 have hflat:FlatR (fun b o=>St b o∨v'.ownBlock=some b) w' sz (rows++new) (us++vs):=(f4.append e4).mono fun b o hb=>⟨.inl hb,hbel.cell (p:=⟨b,o,none⟩) (hst b o hb)⟩
 rcases r2.2 with⟨c1,c2⟩|⟨gb,cp,cur,c1,c2,c3,c4,c5,c6,c7⟩
 ·omega
 subst c1
 simp only[fro]
 refine⟨trivial,_,cp,by rw[List.length_append],by rw[List.length_append];exact c4,c5, .inr ⟨gb,0,rfl,hflat.froR fun j u hj=>⟨.inr rfl,?_⟩⟩⟩
 have hj2:j<(rows.length+new.length) * sz:=by
  have:=(List.getElem?_eq_some_iff.1 hj).1
  rwa [r2.1]at this
 rw[Nat.zero_add]
 simp only[World.cell?,c3]
 rw[←c7,List.getElem?_take,if_pos hj2,Array.getElem?_toList]at hj
 simpa using hj
theorem eval_put{a:Act}{d n:Nat}(v:Value)(hn:a.tmps.size=n)(hd:d<n):(a.put (some d) v).eval (.tmp d)=v:=by
 show(a.put (some d) v).tmps.getD d undef=v
 simp[Act.put,hn,hd]
theorem eval_put_ne{a:Act}{d t:Nat}(v:Value)(h:d≠t):(a.put (some d) v).eval (.tmp t)=a.eval (.tmp t):=by
 show(a.put (some d) v).tmps.getD t undef=a.tmps.getD t undef
 simp[Act.put,Array.getElem?_setIfInBounds_ne h]
theorem al_app3{P:Program}{N:Dim}{ops:Array Oper}{Q:Exit→AS→Prop}{rest:List Oper}{l:List (Nat×AV)}{hh:AH}{d1 d2 d3:Nat}{ty1 ty2 ty3:TypeId}{pos1 pos2 pos3:String}{af1 af2 af3:Array Edge}{T:TypeId}{x hi mx y:Operand}{T' sz bytes:Nat}{rows new:List (List AV)}{tok tok':Option Nat}[hE:Elm P T T' sz bytes]{i j:Int}
    (h1:Nat.blt d1 N.n=true) (h2:Nat.blt d2 N.n=true) (h3:Nat.blt d3 N.n=true) (hne:Nat.beq d2 d1=false)
    (hx:evs (look l) x=some (.sl sz rows tok)) (hhi:evs (look l) hi=some (.v (.int .i64 i))) (hmx:evs (look l) mx=some (.v (.int .i64 j))) (hi':i=(rows.length:Int)) (hj':j=(rows.length:Int)) (hy:evs (look ((d1, .sl sz rows none)::l)) y=some (.sl sz new tok')) (hsm:rows.length+new.length≤1000000)
    (h:AL P N ops Q rest ⟨look ((d3, .sl sz (rows++new) none)::(d2, .sl sz new tok')::(d1, .sl sz rows none)::l),hh⟩):
    AL P N ops Q (⟨some d1, .slice T x none (some hi) (some mx),ty1,pos1,af1,none⟩::⟨some d2, .move y,ty2,pos2,af2,none⟩::⟨some d3, .call {callee:= .builtin .append,args:=#[.tmp d1, .tmp d2],argTypes:=#[T,T]},ty3,pos3,af3,none⟩::rest) ⟨look l,hh⟩:=by
 obtain⟨hu,inf,z,hinf,hz,hzs,hsz,hbts,hp⟩:=elm_spec hE.eq
 intro E a w hr
 obtain⟨G,g1,g2,g3,g4,g5⟩:=hr
 have kx:=fro_era _ _ (g2.ev hx)
 have ki:=g2.ev hhi
 have kj:=g2.ev hmx
 simp only[era]at kx
 simp only[rep]at ki kj
 subst hi' hj'
 obtain⟨A,cap,us,e1,e2,e3,e4,e5⟩:=fro_flat kx
 rw[e1]at kx
 refine wpList_plain rfl fun K hK=>?_
 have run1:(execOp a.eval ⟨some d1, .slice T x none (some hi) (some mx),ty1,pos1,af1,none⟩).run P w= .ok (.value (.slice A rows.length rows.length)) w:=by
  have hA:Option.map (fun x:Addr=>x.add 0) A=A:=by cases A with
   |none=>rfl
   |some ad=>cases ad;rfl
  have e0:(if rows.length=0 then A else Option.map (fun x:Addr=>x.add 0) A)=A:=by rw[hA];split<;>rfl
  simp[execOp,e1,ki,kj,Instr.sliceAt,Instr.slice,Instr.sliceBounds,Instr.sliceBound,asIntOf,run_underlying hu,sizeOf,typeInfo,hinf,hsz,e2,hA]
 refine upon_of (E:=E) (w:=w) (R:=fun x' h'=>x'= .v (.slice A rows.length rows.length)∧h'=hh) (G:=G) ?_ ?_
 ·rw[run1]
  exact⟨_,_,G,⟨rfl,rfl⟩,g1,Ext.refl G w,by simp only[rep]⟩
 rintro v1 w1 ⟨x1,h1',G1,⟨rfl,rfl⟩,k1,k2,k3⟩
 simp only[rep]at k3
 subst k3
 have kx1:fro G1.St w1 (.sl sz rows none) (.slice A rows.length cap):=fro_mono k2.st _ _ kx
 have kn1:fro G1.St w1 (.sl sz rows none) (.slice A rows.length rows.length):=by
  have:=kx1
  simp only[fro]at this ⊢
  obtain⟨_,B,c,q1,q2,q3,q4⟩:=this
  injection q1 with q1 _ _
  subst q1
  exact⟨trivial,_,_,rfl,Nat.le_refl _,Nat.le_trans q2 q3,q4⟩
 obtain⟨s1,s2,s3⟩:=g2.put (d:=some d1) (x:= .sl sz rows none) k2 g3 h1 (rep_fro _ _ kn1)
 apply hK
 refine wpList_plain rfl fun K2 hK2=>?_
 have ky:=s1.ev hy
 refine upon_of (E:=E) (R:=fun x' h'=>x'= .sl sz new tok'∧h'=h1') (G:=G1) (w:=w1) (r:= .ok (.value ((a.put (some d1) (.slice A rows.length rows.length)).eval y)) w1) ⟨_,_,G1,⟨rfl,rfl⟩,k1,Ext.refl G1 w1,ky⟩ ?_
 rintro v2 w2 ⟨x2,h2',G2,⟨rfl,rfl⟩,m1,m2,m3⟩
 obtain⟨t1,t2,t3⟩:=s1.put (d:=some d2) (x:= .sl sz new tok') m2 s2 h2 m3
 have kn2:fro G2.St w2 (.sl sz rows none) (.slice A rows.length rows.length):=fro_mono m2.st _ _ kn1
 have ky2:=fro_era _ _ m3
 simp only[era]at ky2
 apply hK2
 refine wpList_plain rfl fun K3 hK3=>?_
 obtain⟨v',w',Nw,r1,r2,r3,r4⟩:=run_app_full (P:=P) m1.stlt hE.eq hE.few kn2 ky2 hsm ty3
 obtain⟨u1,u2⟩:=m1.grow r2 Nw r3
 have hd12:d2≠d1:=fun e=>by rw[e,Nat.beq_refl]at hne;cases hne
 have q1:((a.put (some d1) (.slice A rows.length rows.length)).put (some d2) v2).eval (.tmp d1)= .slice A rows.length rows.length:=by
  rw[eval_put_ne _ hd12]
  exact eval_put _ g3 (Nat.le_of_ble_eq_true h1)
 have q2:((a.put (some d1) (.slice A rows.length rows.length)).put (some d2) v2).eval (.tmp d2)=v2:=eval_put _ s2 (Nat.le_of_ble_eq_true h2)
 refine upon_of (E:=E) (R:=fun x' h'=>x'= .sl sz (rows++new) none∧h'=h2') (G:=G2) (w:=w2) ?_ ?_
 ·simp only[execOp,resolve,invoke,builtin,Sem.run_bind,Sem.run_pure,Result.andThen_ok,List.map_toArray,List.map_cons,List.map_nil,q1,q2,r1]
  exact⟨_,_,_,⟨rfl,rfl⟩,u1,u2,rep_fro _ _ r4⟩
 rintro v3 w3 ⟨x3,h3',G3,⟨rfl,rfl⟩,n1,n2,n3⟩
 obtain⟨o1,o2,o3⟩:=t1.put (d:=some d3) (x:= .sl sz (rows++new) none) n2 t2 h3 n3
 apply hK3
 exact h E _ w3 ⟨G3,n1,o1,o2,o3.trans (t3.trans (s3.trans g4)),g5⟩
theorem Psplit(s:Str)(hs:s.size≤60000):AFn Tryz.prog 91 [.v (.string s)] (fun r=>r= .tup [.sl 1 ((splS s).map strA) none, .v (.bool (hdL s)), .v (.bool (lsL s))]):=by
 intro w St bl vs hr hv
 have hbl:bl=[]:=by have:=hr.bxlen;simpa using this
 subst hbl
 simp only[repL,rep]at hv
 obtain⟨z,zs,rfl,rfl,rfl⟩:=hv
 refine(PSplit_cap s w hs).mono ?_
 rintro e w' ⟨v,ss,rfl,hv,hp,hB,A,c,rfl,hc⟩
 obtain rfl:=splS_of (ps:=ss) hp
 obtain⟨k1,k2⟩:=hr.grow hB (fun b _=>Fresh w w' b) (fun b _ hb=>hb)
 refine⟨_,_,_,_,⟨rfl,rfl,rfl⟩,k1,k2,?_⟩
 simp only[rep,repL]
 refine⟨_,rfl,_,_,rfl,?_,_,_,rfl,rfl,_,_,rfl,rfl,rfl⟩
 obtain⟨A',c',h1,h2,h3,h4⟩:=hv
 injection h1 with h1 _ h1c
 subst h1 h1c
 simp only[fro]
 refine⟨trivial,A,c,by rw[List.length_map],by rw[List.length_map];exact h2,hc,?_⟩
 by_cases h0:(splS s).length=0
 ·exact .inl (by rw[List.eq_nil_of_length_eq_zero h0];rfl)
 obtain⟨b,off,rfl,hb,hcell⟩:=h4 (by omega)
 refine .inr ⟨b,off,rfl,froR_of fun i r hi=>?_⟩
 rw[List.getElem?_map]at hi
 cases hy:(splS s)[i]? with
 |none=>rw[hy]at hi;cases hi
 |some x=>
   rw[hy]at hi
   injection hi with hi
   subst hi
   refine⟨rfl,froC_of fun j av hj=>?_⟩
   match j,hj with
   |0,hj=>
     injection hj with hj
     subst hj
     exact⟨.inr hb, .string x,hcell i x 0 hy (by omega),rfl,by simp only[fro]⟩
   |j+1,hj=>simp[strA]at hj
def dirE(f:Fls)(a:Fil):Int:=match nodeL f a with
 |none=>2
 |some n=>if n.kind=2 then 0 else 20
def entP(f:Fls)(a:Fil)(name:Str):Fil×Bool:=match nodeL f a with
 |none=>((0,0),false)
 |some n=>match n.entries.find? (fun e:Ent=>decide (e.1=name))with
   |none=>((0,0),false)
   |some e=>((a.1,e.2),true)
theorem lkE_no{f:Fls}{a:Fil}{name:Str}(h:¬dirE f a=0):lookL f a name=((0,0),dirE f a):=by
 unfold dirE at h ⊢
 unfold lookL
 cases hn:nodeL f a with
 |none=>rfl
 |some n=>
   simp only[hn]at h ⊢
   by_cases hk:n.kind=2
   ·rw[if_pos hk]at h;exact absurd rfl h
   rw[if_neg hk,if_neg hk]
theorem lkE_two{f:Fls}{a:Fil}{name:Str}(h:dirE f a=0)(h2:(entP f a name).2=false):lookL f a name=((0,0),2):=by
 unfold dirE at h
 unfold entP at h2
 unfold lookL
 cases hn:nodeL f a with
 |none=>rfl
 |some n=>
   simp only[hn]at h h2 ⊢
   by_cases hk:n.kind=2
   ·rw[if_pos hk]
    cases hf:n.entries.find? (fun e:Ent=>decide (e.1=name))with
    |none=>rfl
    |some e=>rw[hf]at h2;cases h2
   rw[if_neg hk]at h;exact absurd h (by decide)
theorem lkE_yes{f:Fls}{a:Fil}{name:Str}(h:dirE f a=0)(h2:(entP f a name).2=true):lookL f a name=((entP f a name).1,0):=by
 unfold dirE at h
 unfold entP at h2 ⊢
 unfold lookL
 cases hn:nodeL f a with
 |none=>rw[hn]at h2;cases h2
 |some n=>
   simp only[hn]at h h2 ⊢
   by_cases hk:n.kind=2
   ·rw[if_pos hk]
    cases hf:n.entries.find? (fun e:Ent=>decide (e.1=name))with
    |none=>rw[hf]at h2;cases h2
    |some e=>rfl
   rw[if_neg hk]at h;exact absurd h (by decide)
def wkA(s:Spc)(fl:Bool)(w:Wk):List AV:=[.sl 2 (s.files.map dvcA) none, .sl 3 (s.mounts.map mntA) none, .sl 1 (w.ps.map strA) none, .v (.int .i64 w.at_.1), .v (.int .i64 w.at_.2), .v (.int .i64 w.dir.1), .v (.int .i64 w.dir.2), .v (.string w.name), .v (.bool w.missing), .v (.bool fl), .v (.int .i64 (w.links:Int))]
theorem PjoinT(d m:Str)(hd:d.size≤1000000)(hm:m.size≤1000000):AFn Tryz.prog 138 [.v (.string d), .v (.string m)] (fun r=>r= .v (.string (joinS d m))):=
 afn_of (us:=[.string d, .string m]) fun w=>(join_o d m w hd hm).mono fun e w' h=>by
  obtain⟨h1,rfl⟩:=h
  exact⟨h1,Below.refl _ _⟩
theorem PhasP(t:Str):AFn Tryz.prog 132 [.v (.string t), .v (.string ⟨#[47]⟩)] (fun r=>r= .v (.bool (hdL t))):=
 afn_of (us:=[.string t, .string ⟨#[47]⟩]) fun w=>(Tryz.strings_HasPrefix t ⟨#[47]⟩ w).mono fun e w' h=>by
  obtain⟨h1,rfl⟩:=h
  refine⟨?_,Below.refl _ _⟩
  rw[h1]
  unfold hdL
  rw[←hasPrefix_slash]
section
set_option maxRecDepth 10000
set_option maxHeartbeats 1000000
theorem PdirF(f:Fls)(a:Fil)(hf:FlsB f):AFn Tryz.prog 139 [.agg (flsA f), .agg (filA a)] (fun r=>r= .v (.int .i64 (dirE f a))):=by
 refine enter Tryz.func139 rfl rfl rfl rfl rfl 0 rfl ?_
 refine w_ (b_ (h:=b_ (h:=a_ (h:=e_ (w_ (l_ (h:=l_ (h:=?_))))))))
 refine al_p rfl (q_call (Pfind f a hf) ?_)
 rintro r (⟨e,rfl⟩|⟨n,e,rfl⟩)
 ·skip
  refine a_ (h:=e_ (q_ (aw_block (w_ (m_ (h:=?_))))))
  first|refine al_p rfl (st_eqPnil (by kernel_rfl) rfl rfl ?_)|refine al_p rfl (st_eqPfp (by kernel_rfl) rfl rfl ?_)
  refine a_ (h:=e_ (?_))
  refine aw_cond rfl (fun hb1=>?_) (fun hb1=>?_)
  ·have hc1:=bp hb1
   refine w_ (a_ (h:=e_ (aw_ret (x_blockR (x_thenR (?_))))))
   refine e_ret ?_
   rw[show dirE f a=2 by simp only[dirE,e]]
   rfl
  have hc1:=bp hb1
  exfalso;first|contradiction|omega
 skip
 refine a_ (h:=e_ (q_ (aw_block (w_ (m_ (h:=?_))))))
 first|refine al_p rfl (st_eqPnil (by kernel_rfl) rfl rfl ?_)|refine al_p rfl (st_eqPfp (by kernel_rfl) rfl rfl ?_)
 refine a_ (h:=e_ (?_))
 refine aw_cond rfl (fun hb2=>?_) (fun hb2=>?_)
 ·have hc2:=bp hb2
  exfalso;first|contradiction|omega
 have hc2:=bp hb2
 refine w_ (m_ (h:=k_ (h:=f_ (h:=l_ (h:=nq_ (h:=a_ (h:=e_ (?_))))))))
 refine aw_cond rfl (fun hb3=>?_) (fun hb3=>?_)
 ·have hc3:=bp hb3
  refine w_ (a_ (h:=e_ (aw_ret (x_blockR (x_thenR (?_))))))
  refine e_ret ?_
  rw[show dirE f a=20 by simp only[dirE,e];exact if_neg hc3]
  rfl
 have hc3:=bp hb3
 refine aw_skip (x_blockN (t_ (w_ (a_ (h:=e_ (aw_ret (?_)))))))
 refine e_ret ?_
 rw[show dirE f a=0 by simp only[dirE,e];exact if_pos hc3]
 rfl
theorem Pentry(f:Fls)(a:Fil)(name:Str)(hf:FlsB f):AFn Tryz.prog 140 [.agg (flsA f), .agg (filA a), .v (.string name)] (fun r=>r= .tup [.agg (filA (entP f a name).1), .v (.bool (entP f a name).2)]):=by
 have hen:=nodG_ents hf a
 refine enter Tryz.func140 rfl rfl rfl rfl rfl 0 rfl ?_
 refine w_ (b_ (h:=b_ (h:=al_ (h:=a_ (h:=e_ (w_ (l_ (h:=l_ (h:=?_)))))))))
 refine al_p rfl (q_call (Pfind f a hf) ?_)
 rintro r (⟨e,rfl⟩|⟨n,e,rfl⟩)
 ·skip
  refine a_ (h:=e_ (q_ (w_ (m_ (h:=?_)))))
  first|refine al_p rfl (st_eqPnil (by kernel_rfl) rfl rfl ?_)|refine al_p rfl (st_eqPfp (by kernel_rfl) rfl rfl ?_)
  refine e_ (?_)
  refine aw_cond rfl (fun hb1=>?_) (fun hb1=>?_)
  ·have hc1:=bp hb1
   refine w_ (bd_ (h:=s_ (h:=a_ (h:=e_ (aw_ret (x_thenR (?_)))))))
   refine e_ret ?_
   rw[show entP f a name=((0,0),false) by simp only[entP,e]]
   rfl
  have hc1:=bp hb1
  exfalso;first|contradiction|omega
 have hnl:n.entries.length≤1000:=by simpa[nodG,e]using hen
 refine a_ (h:=e_ (q_ (w_ (m_ (h:=?_)))))
 first|refine al_p rfl (st_eqPnil (by kernel_rfl) rfl rfl ?_)|refine al_p rfl (st_eqPfp (by kernel_rfl) rfl rfl ?_)
 refine e_ (?_)
 refine aw_cond rfl (fun hb2=>?_) (fun hb2=>?_)
 ·have hc2:=bp hb2
  exfalso;first|contradiction|omega
 have hc2:=bp hb2
 refine kt_ (q_ (w_ (m_ (h:=k_ (h:=f_ (h:=l_ (h:=n_ (h:=m_ (h:=e_ (aw_block (?_)))))))))))
 refine aw_loopW (fun m t=>∃j:Nat,j≤n.entries.length∧m=n.entries.length - j∧(∀i y,i<j→n.entries[i]?=some y→decide (y.1=name)=false)∧t=⟨look [(2, .v (.string name)),(4, .bp 1 0),(6, .bp 2 0),(20, .sl 2 (n.entries.map entA) none),(21, .v (.int .i64 ((n.entries.map entA).length:Int))),(22, .v (.int .i64 (j:Int)))],⟨[flsA f,filA a,[.v (.int .i64 0), .v (.int .i64 0)]],[]⟩⟩) (n.entries.length) ((wk 3 0)) (⟨0,by omega,rfl,fun i y hi=>by omega,rfl⟩) ?_
 rintro m t ⟨j,hj,rfl,ha,rfl⟩
 refine w_ (lt_ (h:=e_ (q_ (?_))))
 refine aw_cond rfl (fun hb3=>?_) (fun hb3=>?_)
 ·have hc3:=bp hb3
  obtain⟨hlt,x,hy,hrow, -⟩:=row_at entA hc3
  refine kt_ (q_ (aw_block (w_ (i_ (h:=l_ (h:=al_ (h:=s_ (h:=e_ (w_ (f_ (h:=l_ (h:=m_ (h:=eq_ (h:=e_ (?_)))))))))))))))
  refine aw_cond rfl (fun hb4=>?_) (fun hb4=>?_)
  ·have hc4:=bp hb4
   refine w_ (f_ (h:=l_ (h:=f_ (h:=l_ (h:=bd_ (h:=s_ (h:=a_ (h:=e_ (aw_ret (x_blockR (x_thenR (x_thenR (x_blockR (x_thenR (?_)))))))))))))))
   refine e_ret ?_
   rw[show entP f a name=((a.1,x.2),true) by simp only[entP,e];rw[find_at hy (by simpa using hc4) ha]]
   rfl
  have hc4:=bp hb4
  refine aw_skip (x_blockN (t_ (aw_region (ad_ (h:=m_ (h:=al_nil (?_)))))))
  refine x_then ?_
  refine⟨_,_,?_,⟨j+1,by omega,rfl,upto_snoc hy ha (by simpa using hc4),rfl⟩,(wk 3 0)⟩
  omega
 have hc3:=bp hb3
 have e3:=row_no entA hj hc3
 subst e3
 refine aw_exit (x_thenE (x_thenE (ABlock_out (t_ (w_ (bd_ (h:=s_ (h:=a_ (h:=e_ (aw_ret (?_)))))))))))
 refine e_ret ?_
 rw[show entP f a name=((0,0),false) by simp only[entP,e];rw[find_no ha]]
 rfl
theorem Plook(f:Fls)(a:Fil)(name:Str)(hf:FlsB f):AFn Tryz.prog 96 [.agg (flsA f), .agg (filA a), .v (.string name)] (fun r=>r= .tup [.agg (filA (lookL f a name).1), .v (.int .i64 (lookL f a name).2)]):=by
 refine enter Tryz.func96 rfl rfl rfl rfl rfl 0 rfl ?_
 refine w_ (b_ (h:=b_ (h:=al_ (h:=a_ (h:=e_ (q_ (w_ (l_ (h:=l_ (h:=?_))))))))))
 refine al_p rfl (q_call (PdirF f a hf) ?_)
 rintro r rfl
 refine a_ (h:=e_ (w_ (m_ (h:=nq_ (h:=e_ (?_))))))
 refine aw_cond rfl (fun hb1=>?_) (fun hb1=>?_)
 ·have hc1:=bp hb1
  refine w_ (bd_ (h:=m_ (h:=s_ (h:=a_ (h:=e_ (aw_ret (x_thenR (?_))))))))
  refine e_ret ?_
  rw[lkE_no hc1]
  rfl
 have hc1:=bp hb1
 refine kt_ (w_ (l_ (h:=l_ (h:=m_ (h:=?_)))))
 refine al_p rfl (q_call (Pentry f a name hf) ?_)
 rintro r rfl
 refine m_ (h:=x_ (h:=x_ (h:=al_ (h:=s_ (h:=a_ (h:=e_ (q_ (w_ (m_ (h:=nt_ (h:=e_ (?_))))))))))))
 refine aw_cond rfl (fun hb2=>?_) (fun hb2=>?_)
 ·have hc2:=bp hb2
  refine w_ (bd_ (h:=s_ (h:=a_ (h:=e_ (aw_ret (x_thenR (?_)))))))
  refine e_ret ?_
  rw[lkE_two hc1 (by simpa using hc2)]
  rfl
 have hc2:=bp hb2
 refine kt_ (w_ (l_ (h:=s_ (h:=a_ (h:=e_ (aw_ret (?_)))))))
 refine e_ret ?_
 rw[lkE_yes hc1 (by simpa using hc2)]
 rfl
theorem Proot(s:Spc)(hs:SpcB s):AFn Tryz.prog 92 [.agg (spcA s)] (fun r=>r= .agg (filA (rootD s))):=by
 refine enter Tryz.func92 rfl rfl rfl rfl rfl 0 rfl ?_
 refine w_ (b_ (h:=al_ (h:=e_ (w_ (l_ (h:=bd_ (h:=?_)))))))
 refine al_p rfl (q_call (Pdown s (0,1) hs) ?_)
 rintro r rfl
 refine s_ (h:=e_ (aw_ret (?_)))
 refine e_ret ?_
 rfl
theorem PdirW(s:Spc)(fl:Bool)(w:Wk)(hs:SpcB s):AFn Tryz.prog 93 [.fp (wkA s fl w)] (fun r=>r= .v (.bool (dirL s.files w.at_))):=by
 have hde:=dirL_eq s.files w.at_
 refine enter Tryz.func93 rfl rfl rfl rfl rfl 0 rfl ?_
 refine w_ (a_ (h:=e_ (q_ (yk_ ([]) 16 (h:=dm_ 0 (h:=dk_ 1 (h:=df_ 2 (h:=df_ 3 (h:=dl_ 4 (h:=dm_ 5 (h:=dk_ 6 (h:=df_ 7 (h:=dl_ 8 (h:=?_))))))))))))))
 refine c2_ 9 13 rfl rfl ?_ ?_
 ·refine q_call (Pnode s.files w.at_ hs.files) ?_
  rintro r rfl
  refine o_ (h:=?_)
  refine dm_ 10 (h:=dx_ 11 (h:=dx_ 12 (h:=?_)))
  refine c_ 13 rfl (s_alloc (by repeat constructor) ?_)
  refine o_ (h:=?_)
  refine c0_ 14 rfl (s_store rfl rfl rfl rfl rfl rfl (by repeat constructor) (by repeat constructor) ?_)
  refine o_ (h:=da_ 15 (h:=z_ (h:=t_ (w_ (m_ (h:=m_ (h:=?_)))))))
  refine al_gs true rfl rfl (fun hb1=>?_) (fun hb1=>?_)
  ·have hc1:=bp hb1
   refine f_ (h:=l_ (h:=eq_ (h:=pt_ (h:=a_ (h:=e_ (aw_ret (?_)))))))
   refine e_ret ?_
   first|(rw[hde,hb1];rfl)|(rw[hde,hb2];rfl)
  have hc1:=bp hb1
  refine g0_ (h:=g0_ (h:=g0_ (h:=pf_ (h:=a_ (h:=e_ (aw_ret (?_)))))))
  refine e_ret ?_
  first|(rw[hde,hb1];rfl)|(rw[hde,hb2];rfl)
 refine s_alloc (by repeat constructor) ?_
 refine o_ (h:=?_)
 refine c_ 9 rfl (q_call (Pnode s.files w.at_ hs.files) ?_)
 rintro r rfl
 refine o_ (h:=dm_ 10 (h:=dx_ 11 (h:=dx_ 12 (h:=?_))))
 refine c0_ 14 rfl (s_store rfl rfl rfl rfl rfl rfl (by repeat constructor) (by repeat constructor) ?_)
 refine o_ (h:=da_ 15 (h:=z_ (h:=t_ (w_ (m_ (h:=m_ (h:=?_)))))))
 refine al_gs true rfl rfl (fun hb2=>?_) (fun hb2=>?_)
 ·have hc2:=bp hb2
  refine f_ (h:=l_ (h:=eq_ (h:=pt_ (h:=a_ (h:=e_ (aw_ret (?_)))))))
  refine e_ret ?_
  first|(rw[hde,hb1];rfl)|(rw[hde,hb2];rfl)
 have hc2:=bp hb2
 refine g0_ (h:=g0_ (h:=g0_ (h:=pf_ (h:=a_ (h:=e_ (aw_ret (?_)))))))
 refine e_ret ?_
 first|(rw[hde,hb1];rfl)|(rw[hde,hb2];rfl)
theorem Pfound(s:Spc)(fl sl:Bool)(w:Wk)(hs:SpcN s)(hw:∀a,(whereP s a).1.size≤1000)(hn:w.name.size≤1000000):AFn Tryz.prog 95 [.fp (wkA s fl w), .v (.bool sl)] (fun r=>r= .agg (fndA (fndW s sl w))):=by
 refine enter Tryz.func95 rfl rfl rfl rfl rfl 0 rfl ?_
 refine w_ (al_ (h:=e_ (q_ (yk_ ([(0,fndA fnd0)]) 17 (h:=dm_ 0 (h:=dk_ 1 (h:=df_ 2 (h:=dl_ 3 (h:=dm_ 4 (h:=dk_ 5 (h:=df_ 6 (h:=dl_ 7 (h:=dm_ 8 (h:=dk_ 9 (h:=df_ 10 (h:=dl_ 11 (h:=dnt_ 12 (h:=dm_ 13 (h:=dbd_ 14 (h:=?_))))))))))))))))))))
 refine c_ 15 rfl (s_alloc (by repeat constructor) ?_)
 refine o_ (h:=?_)
 refine c0_ 16 rfl (s_store rfl rfl rfl rfl rfl rfl (by repeat constructor) (by repeat constructor) ?_)
 refine o_ (h:=z_ (h:=t_ (q_ (w_ (m_ (h:=k_ (h:=f_ (h:=l_ (h:=eq_ (h:=e_ (?_)))))))))))
 refine aw_cond rfl (fun hb1=>?_) (fun hb1=>?_)
 ·have hc1:=bp hb1
  refine q_ (yk_ ([(0,fndA fnd0)]) 12 (h:=dm_ 0 (h:=dk_ 1 (h:=df_ 2 (h:=dl_ 3 (h:=dm_ 4 (h:=dk_ 5 (h:=df_ 6 (h:=dl_ 7 (h:=df_ 8 (h:=?_)))))))))))
  refine c0_ 9 rfl (s_store rfl rfl rfl rfl rfl rfl (by repeat constructor) (by repeat constructor) ?_)
  refine o_ (h:=df_ 10 (h:=?_))
  refine c0_ 11 rfl (s_store rfl rfl rfl rfl rfl rfl (by repeat constructor) (by repeat constructor) ?_)
  refine o_ (h:=z_ (h:=t_ (q_ (yk_ ([(0,fndA fnd0)]) 12 (h:=dm_ 0 (h:=dk_ 1 (h:=df_ 2 (h:=dl_ 3 (h:=df_ 4 (h:=?_))))))))))
  refine c_ 5 rfl (st_loadBN rfl rfl rfl ?_)
  refine o_ (h:=?_)
  refine c_ 6 rfl (q_call (Pwhere hs w.at_) ?_)
  rintro r rfl
  refine o_ (h:=dm_ 7 (h:=dx_ 8 (h:=dx_ 9 (h:=df_ 10 (h:=?_)))))
  refine c0_ 11 rfl (s_store rfl rfl rfl rfl rfl rfl (by repeat constructor) (by repeat constructor) ?_)
  refine o_ (h:=z_ (h:=t_ (w_ (l_ (h:=s_ (h:=e_ (aw_ret (x_thenR (?_)))))))))
  refine e_ret ?_
  rw[show fndW s sl w=⟨w.at_,⟨#[]⟩,w.at_, !w.missing,sl,(whereP s w.at_).1⟩ from if_pos hc1,hc1]
  rfl
 have hc1:=bp hb1
 refine kt_ (q_ (w_ (f_ (h:=l_ (h:=e_ (?_))))))
 refine aw_cond rfl (fun hb2=>?_) (fun hb2=>?_)
 ·have hc2:=bp hb2
  refine aw_region (m_ (h:=k_ (h:=f_ (h:=l_ (h:=f_ (h:=s_ (h:=e_ (q_ (q_ (yr_ 12 (h:=dm_ 0 (h:=dk_ 1 (h:=df_ 2 (h:=dl_ 3 (h:=df_ 4 (h:=dl_ 5 (h:=?_)))))))))))))))))
  refine c_ 6 rfl (q_call (Pwhere hs w.dir) ?_)
  rintro r rfl
  refine o_ (h:=dm_ 7 (h:=dx_ 8 (h:=dx_ 9 (h:=da_ 10 (h:=da_ 11 (h:=z_ (h:=t_ (w_ (m_ (h:=e_ (?_)))))))))))
  refine aw_cond rfl (fun hb3=>?_) (fun hb3=>?_)
  ·have hc3:=bp hb3
   refine aw_region (m_ (h:=f_ (h:=l_ (h:=?_))))
   refine al_p rfl (q_call (PjoinT (whereP s w.dir).1 w.name (by have:=hw w.dir;omega) hn) ?_)
   rintro r rfl
   refine f_ (h:=s_ (h:=e_ (w_ (l_ (h:=s_ (h:=e_ (aw_ret (?_))))))))
   refine e_ret ?_
   rw[show fndW s sl w=⟨w.dir,w.name,w.at_, !w.missing,sl,joinS (whereP s w.dir).1 w.name⟩ by unfold fndW;rw[if_neg hc1,if_neg (by simp[hc2]),if_pos hc3]]
   rfl
  have hc3:=bp hb3
  refine kt_ (w_ (l_ (h:=s_ (h:=e_ (aw_ret (?_))))))
  refine e_ret ?_
  rw[show fndW s sl w=⟨w.dir,w.name,w.at_, !w.missing,sl,⟨#[]⟩⟩ by unfold fndW;rw[if_neg hc1,if_neg (by simp[hc2]),if_neg (by simp[hc3])]]
  rfl
 have hc2:=bp hb2
 refine kt_ (q_ (q_ (yr_ 12 (h:=dm_ 0 (h:=dk_ 1 (h:=df_ 2 (h:=dl_ 3 (h:=df_ 4 (h:=dl_ 5 (h:=?_))))))))))
 refine c_ 6 rfl (q_call (Pwhere hs w.dir) ?_)
 rintro r rfl
 refine o_ (h:=dm_ 7 (h:=dx_ 8 (h:=dx_ 9 (h:=da_ 10 (h:=da_ 11 (h:=z_ (h:=t_ (w_ (m_ (h:=e_ (?_)))))))))))
 refine aw_cond rfl (fun hb4=>?_) (fun hb4=>?_)
 ·have hc4:=bp hb4
  refine aw_region (m_ (h:=f_ (h:=l_ (h:=?_))))
  refine al_p rfl (q_call (PjoinT (whereP s w.dir).1 w.name (by have:=hw w.dir;omega) hn) ?_)
  rintro r rfl
  refine f_ (h:=s_ (h:=e_ (w_ (l_ (h:=s_ (h:=e_ (aw_ret (?_))))))))
  refine e_ret ?_
  rw[show fndW s sl w=⟨w.dir,w.name,(0,0), !w.missing,sl,joinS (whereP s w.dir).1 w.name⟩ by unfold fndW;rw[if_neg hc1,if_pos (by simp[hc2]),if_pos hc4]]
  rfl
 have hc4:=bp hb4
 refine kt_ (w_ (l_ (h:=s_ (h:=e_ (aw_ret (?_))))))
 refine e_ret ?_
 rw[show fndW s sl w=⟨w.dir,w.name,(0,0), !w.missing,sl,⟨#[]⟩⟩ by unfold fndW;rw[if_neg hc1,if_pos (by simp[hc2]),if_neg (by simp[hc4])]]
 rfl
end
def lnkW(s:Spc)(tg:Str)(rest:List Str)(w:Wk):Wk:=⟨splS tg++rest,if hdL tg=true then rootD s else w.at_,if hdL tg=true then(0,0)else w.dir,if hdL tg=true then⟨#[]⟩else w.name,w.missing,w.links+1⟩
theorem bp_wk(s:Spc)(fl:Bool)(w:Wk):bpLtL 0 0 (wkA s fl w)=true:=rfl
section
set_option maxRecDepth 10000
set_option maxHeartbeats 1000000
theorem Plink(s:Spc)(fl:Bool)(w:Wk)(tg:Str)(rest:List Str)(hs:SpcB s)(h8:w.links≤8)(htg:tg.size≤60000)(hrl:rest.length≤500000):AFnB Tryz.prog 136 [.bp 0 0, .v (.string tg), .sl 1 (rest.map strA) none] (wkA s fl w) (fun r row'=>(w.links=8∧r= .v (.int .i64 40)∧row'=wkA s fl w)∨(w.links≠8∧r= .v (.int .i64 0)∧row'=wkA s fl (lnkW s tg rest w))):=by
 have hpl:=splS_len tg
 refine enter Tryz.func136 rfl rfl rfl rfl rfl 1 rfl ?_
 refine w_ (a_ (h:=e_ (q_ (w_ (m_ (h:=k_ (h:=f_ (h:=l_ (h:=eq_ (h:=e_ (?_)))))))))))
 refine aw_cond rfl (fun hb1=>?_) (fun hb1=>?_)
 ·have hc1:=bp hb1
  refine w_ (a_ (h:=e_ (aw_ret (x_thenR (?_)))))
  refine rt_ none (h5:=(LeA.refl _)) (h6:=⟨_,rfl,rfl, .inl ⟨by omega,rfl,rfl⟩⟩)
 have hc1:=bp hb1
 refine kt_ (w_ (m_ (h:=k_ (h:=f_ (h:=l_ (h:=?_))))))
 refine al_p rfl (st_add64 rfl rfl (by omega) ?_)
 refine k_ (h:=f_ (h:=s_ (h:=e_ (w_ (m_ (h:=?_))))))
 refine al_p rfl (q_call (Psplit tg htg) ?_)
 rintro r rfl
 refine m_ (h:=x_ (h:=x_ (h:=x_ (h:=a_ (h:=a_ (h:=a_ (h:=e_ (w_ (m_ (h:=m_ (h:=m_ (h:=n_ (h:=m_ (h:=n_ (h:=?_)))))))))))))))
 refine al_app3 rfl rfl rfl rfl rfl rfl rfl rfl rfl rfl (by simp;omega) ?_
 refine k_ (h:=f_ (h:=s_ (h:=e_ (q_ (w_ (m_ (h:=?_)))))))
 refine al_p rfl (q_call (PhasP tg) ?_)
 rintro r rfl
 refine e_ (?_)
 refine aw_cond rfl (fun hb2=>?_) (fun hb2=>?_)
 ·have hc2:=bp hb2
  refine aw_region (m_ (h:=m_ (h:=m_ (h:=m_ (h:=k_ (h:=f_ (h:=l_ (h:=?_))))))))
  refine al_p rfl (q_call (Proot s hs) ?_)
  rintro r rfl
  refine bd_ (h:=k_ (h:=f_ (h:=s_ (h:=k_ (h:=f_ (h:=s_ (h:=k_ (h:=f_ (h:=s_ (h:=e_ (w_ (a_ (h:=e_ (aw_ret (?_)))))))))))))))
  refine rt_ none (h5:=(LeA.refl _)) (h6:=⟨_,rfl,rfl, .inr ⟨by omega,rfl,by simp only[wkA,lnkW,if_pos hc2,List.map_append];rfl⟩⟩)
 have hc2:=bp hb2
 refine kt_ (w_ (a_ (h:=e_ (aw_ret (?_)))))
 refine rt_ none (h5:=(LeA.refl _)) (h6:=⟨_,rfl,rfl, .inr ⟨by omega,rfl,by simp only[wkA,lnkW,hc2,if_neg (show¬false=true by simp),List.map_append];rfl⟩⟩)
theorem Pstep(s:Spc)(fl:Bool)(w:Wk)(p:Str)(ps:List Str)(hps:w.ps=p::ps)(hs:SpcB s)(hv:SpcV s)(h8:w.links≤8)(hrl:ps.length≤500000):AFnB Tryz.prog 94 [.bp 0 0] (wkA s fl w) (fun r row'=>(∃e,stp s fl p ps w= .inl e∧e≠0∧r= .v (.int .i64 e)∧row'=wkA s fl w)∨∃w',stp s fl p ps w= .inr w'∧r= .v (.int .i64 0)∧row'=wkA s fl w'):=by
 obtain⟨ps0,a,dr,nm,mi,lk⟩:=w
 simp only at hps h8
 subst hps
 have hml:(ps.map strA).length=ps.length:=by simp
 have htg:=nodG_target hv.files (lookL s.files a p).1
 refine enter Tryz.func94 rfl rfl rfl rfl rfl 1 rfl ?_
 refine w_ (a_ (h:=e_ (q_ (yk_ ([(0,wkA s fl ⟨p::ps,a,dr,nm,mi,lk⟩)]) 13 (h:=dm_ 0 (h:=dk_ 1 (h:=df_ 2 (h:=dl_ 3 (h:=?_)))))))))
 refine tk_ 4 rfl (fun _ hS=>st_index (n:=0) rfl rfl rfl rfl ⟨rfl,rfl⟩) ?_
 refine dl_ 5 (h:=dm_ 6 (h:=dk_ 7 (h:=df_ 8 (h:=dl_ 9 (h:=?_)))))
 refine tk_ 10 rfl (fun _ hS=>st_sliceLo (l:=1) rfl rfl rfl (by simp) ⟨rfl,rfl⟩) ?_
 refine da_ 11 (h:=da_ 12 (h:=z_ (h:=t_ (q_ (w_ (m_ (h:=?_)))))))
 refine al_p rfl (s_callR 1 rfl (.cons _ _ _ _ _ rfl (LeA.refl _) .nil) (PdirW s fl ⟨p::ps,a,dr,nm,mi,lk⟩ hs) ?_)
 rintro r rfl
 refine⟨rfl,?_⟩
 refine nt_ (h:=e_ (?_))
 refine aw_cond rfl (fun hb1=>?_) (fun hb1=>?_)
 ·have hc1:=bp hb1
  refine w_ (a_ (h:=e_ (aw_ret (x_thenR (?_)))))
  refine rt_ none (h5:=(LeA.refl _)) (h6:=⟨_,rfl,rfl, .inl ⟨20,by unfold stp;rw[if_pos hc1],by decide,rfl,rfl⟩⟩)
 have hc1:=bp hb1
 refine kt_ (q_ (w_ (m_ (h:=n_ (h:=gt_ (h:=e_ (?_)))))))
 refine aw_cond rfl (fun hb2=>?_) (fun hb2=>?_)
 ·have hc2:=bp hb2
  refine w_ (a_ (h:=e_ (aw_ret (x_thenR (?_)))))
  refine rt_ none (h5:=(LeA.refl _)) (h6:=⟨_,rfl,rfl, .inl ⟨36,by unfold stp;rw[if_neg (by simp[hc1]),if_pos (by omega)],by decide,rfl,rfl⟩⟩)
 have hc2:=bp hb2
 refine kt_ (q_ (w_ (m_ (h:=e_ (aw_block (q_ (aw_block (q_ (aw_block (q_ (q_ (w_ (eq_ (h:=a_ (h:=e_ (?_))))))))))))))))
 refine aw_cond rfl (fun hb3=>?_) (fun hb3=>?_)
 ·have hc3:=bp hb3
  refine aw_exit (x_thenE (x_thenE (ABlock_out (t_ (?_)))))
  refine aw_draw (fun h=>∃x y,h.bx=[[.sl 2 (s.files.map dvcA) none, .sl 3 (s.mounts.map mntA) none, .sl 1 ((p::ps).map strA) none,x,y, .v (.int .i64 dr.1), .v (.int .i64 dr.2), .v (.string nm), .v (.bool mi), .v (.bool fl), .v (.int .i64 (lk:Int))]]) 18 (by kernel_rfl) ?_
  refine aa_t (i:=0) rfl rfl (by kernel_rfl) (by first|rfl|exact wan_y rfl rfl (beq_tt ‹_›)|exact wan_y rfl rfl (beq_ff ‹_›)|exact wan_y rfl rfl (by simp[*])) (fun h0 hS=>st_move rfl ⟨rfl,rfl⟩) ⟨_,_,rfl⟩ ?_
  refine aa_t (i:=1) rfl rfl (by kernel_rfl) (by first|rfl|exact wan_y rfl rfl (beq_tt ‹_›)|exact wan_y rfl rfl (beq_ff ‹_›)|exact wan_y rfl rfl (by simp[*])) (fun h0 hS=>st_move rfl ⟨rfl,rfl⟩) ⟨_,_,rfl⟩ ?_
  first|refine aa_t (i:=2) rfl rfl (by kernel_rfl) (by first|rfl|exact wan_y rfl rfl (beq_tt ‹_›)|exact wan_y rfl rfl (beq_ff ‹_›)|exact wan_y rfl rfl (by simp[*])) (fun h0 hS=>st_nilB rfl ⟨rfl,rfl⟩) ⟨_,_,rfl⟩ ?_|refine aa_t (i:=2) rfl rfl (by kernel_rfl) (by first|rfl|exact wan_y rfl rfl (beq_tt ‹_›)|exact wan_y rfl rfl (beq_ff ‹_›)|exact wan_y rfl rfl (by simp[*])) (fun h0 hS=>st_nilF rfl ⟨rfl,rfl⟩) ⟨_,_,rfl⟩ ?_
  first|refine aa_t (i:=3) rfl rfl (by kernel_rfl) (by first|rfl|exact wan_y rfl rfl (beq_tt ‹_›)|exact wan_y rfl rfl (beq_ff ‹_›)|exact wan_y rfl rfl (by simp[*])) (fun h0 hS=>st_fieldB rfl ⟨rfl,rfl⟩) ⟨_,_,rfl⟩ ?_|refine aa_t (i:=3) rfl rfl (by kernel_rfl) (by first|rfl|exact wan_y rfl rfl (beq_tt ‹_›)|exact wan_y rfl rfl (beq_ff ‹_›)|exact wan_y rfl rfl (by simp[*])) (fun h0 hS=>st_fieldF rfl ⟨rfl,rfl⟩) ⟨_,_,rfl⟩ ?_
  first|refine aa_t (i:=4) rfl rfl (by kernel_rfl) (by first|rfl|exact wan_y rfl rfl (beq_tt ‹_›)|exact wan_y rfl rfl (beq_ff ‹_›)|exact wan_y rfl rfl (by simp[*])) (fun h0 hS=>by obtain⟨x,y,e⟩:=hS;exact st_loadBN (row:=[.sl 2 (s.files.map dvcA) none, .sl 3 (s.mounts.map mntA) none, .sl 1 ((p::ps).map strA) none,x,y, .v (.int .i64 dr.1), .v (.int .i64 dr.2), .v (.string nm), .v (.bool mi), .v (.bool fl), .v (.int .i64 (lk:Int))]) rfl (by rw[e];rfl) rfl (show _=AV.agg (spcA s)∧_ from⟨rfl,rfl⟩)) ⟨_,_,rfl⟩ ?_|refine aa_t (i:=4) rfl rfl (by kernel_rfl) (by first|rfl|exact wan_y rfl rfl (beq_tt ‹_›)|exact wan_y rfl rfl (beq_ff ‹_›)|exact wan_y rfl rfl (by simp[*])) (fun h0 hS=>st_loadB1 rfl rfl rfl ⟨rfl,rfl⟩) ⟨_,_,rfl⟩ ?_|refine aa_t (i:=4) rfl rfl (by kernel_rfl) (by first|rfl|exact wan_y rfl rfl (beq_tt ‹_›)|exact wan_y rfl rfl (beq_ff ‹_›)|exact wan_y rfl rfl (by simp[*])) (fun h0 hS=>st_loadBW rfl rfl rfl ⟨rfl,rfl⟩) ⟨_,_,rfl⟩ ?_|refine aa_t (i:=4) rfl rfl (by kernel_rfl) (by first|rfl|exact wan_y rfl rfl (beq_tt ‹_›)|exact wan_y rfl rfl (beq_ff ‹_›)|exact wan_y rfl rfl (by simp[*])) (fun h0 hS=>st_loadF1 rfl rfl ⟨rfl,rfl⟩) ⟨_,_,rfl⟩ ?_|refine aa_t (i:=4) rfl rfl (by kernel_rfl) (by first|rfl|exact wan_y rfl rfl (beq_tt ‹_›)|exact wan_y rfl rfl (beq_ff ‹_›)|exact wan_y rfl rfl (by simp[*])) (fun h0 hS=>st_loadFW rfl rfl ⟨rfl,rfl⟩) ⟨_,_,rfl⟩ ?_|refine aa_t (i:=4) rfl rfl (by kernel_rfl) (by first|rfl|exact wan_y rfl rfl (beq_tt ‹_›)|exact wan_y rfl rfl (beq_ff ‹_›)|exact wan_y rfl rfl (by simp[*])) (fun h0 hS=>st_loadBN rfl rfl rfl ⟨rfl,rfl⟩) ⟨_,_,rfl⟩ ?_|refine aa_t (i:=4) rfl rfl (by kernel_rfl) (by first|rfl|exact wan_y rfl rfl (beq_tt ‹_›)|exact wan_y rfl rfl (beq_ff ‹_›)|exact wan_y rfl rfl (by simp[*])) (fun h0 hS=>st_loadFN rfl rfl ⟨rfl,rfl⟩) ⟨_,_,rfl⟩ ?_
  refine aa_t (i:=5) rfl rfl (by kernel_rfl) (by first|rfl|exact wan_y rfl rfl (beq_tt ‹_›)|exact wan_y rfl rfl (beq_ff ‹_›)|exact wan_y rfl rfl (by simp[*])) (fun h0 hS=>st_move rfl ⟨rfl,rfl⟩) ⟨_,_,rfl⟩ ?_
  first|refine aa_t (i:=6) rfl rfl (by kernel_rfl) (by first|rfl|exact wan_y rfl rfl (beq_tt ‹_›)|exact wan_y rfl rfl (beq_ff ‹_›)|exact wan_y rfl rfl (by simp[*])) (fun h0 hS=>st_nilB rfl ⟨rfl,rfl⟩) ⟨_,_,rfl⟩ ?_|refine aa_t (i:=6) rfl rfl (by kernel_rfl) (by first|rfl|exact wan_y rfl rfl (beq_tt ‹_›)|exact wan_y rfl rfl (beq_ff ‹_›)|exact wan_y rfl rfl (by simp[*])) (fun h0 hS=>st_nilF rfl ⟨rfl,rfl⟩) ⟨_,_,rfl⟩ ?_
  first|refine aa_t (i:=7) rfl rfl (by kernel_rfl) (by first|rfl|exact wan_y rfl rfl (beq_tt ‹_›)|exact wan_y rfl rfl (beq_ff ‹_›)|exact wan_y rfl rfl (by simp[*])) (fun h0 hS=>st_fieldB rfl ⟨rfl,rfl⟩) ⟨_,_,rfl⟩ ?_|refine aa_t (i:=7) rfl rfl (by kernel_rfl) (by first|rfl|exact wan_y rfl rfl (beq_tt ‹_›)|exact wan_y rfl rfl (beq_ff ‹_›)|exact wan_y rfl rfl (by simp[*])) (fun h0 hS=>st_fieldF rfl ⟨rfl,rfl⟩) ⟨_,_,rfl⟩ ?_
  first|refine aa_t (i:=8) rfl rfl (by kernel_rfl) (by first|rfl|exact wan_y rfl rfl (beq_tt ‹_›)|exact wan_y rfl rfl (beq_ff ‹_›)|exact wan_y rfl rfl (by simp[*])) (fun h0 hS=>by obtain⟨x,y,e⟩:=hS;exact st_loadBN (row:=[.sl 2 (s.files.map dvcA) none, .sl 3 (s.mounts.map mntA) none, .sl 1 ((p::ps).map strA) none,x,y, .v (.int .i64 dr.1), .v (.int .i64 dr.2), .v (.string nm), .v (.bool mi), .v (.bool fl), .v (.int .i64 (lk:Int))]) rfl (by rw[e];rfl) rfl (show _=AV.agg (spcA s)∧_ from⟨rfl,rfl⟩)) ⟨_,_,rfl⟩ ?_|refine aa_t (i:=8) rfl rfl (by kernel_rfl) (by first|rfl|exact wan_y rfl rfl (beq_tt ‹_›)|exact wan_y rfl rfl (beq_ff ‹_›)|exact wan_y rfl rfl (by simp[*])) (fun h0 hS=>st_loadB1 rfl rfl rfl ⟨rfl,rfl⟩) ⟨_,_,rfl⟩ ?_|refine aa_t (i:=8) rfl rfl (by kernel_rfl) (by first|rfl|exact wan_y rfl rfl (beq_tt ‹_›)|exact wan_y rfl rfl (beq_ff ‹_›)|exact wan_y rfl rfl (by simp[*])) (fun h0 hS=>st_loadBW rfl rfl rfl ⟨rfl,rfl⟩) ⟨_,_,rfl⟩ ?_|refine aa_t (i:=8) rfl rfl (by kernel_rfl) (by first|rfl|exact wan_y rfl rfl (beq_tt ‹_›)|exact wan_y rfl rfl (beq_ff ‹_›)|exact wan_y rfl rfl (by simp[*])) (fun h0 hS=>st_loadF1 rfl rfl ⟨rfl,rfl⟩) ⟨_,_,rfl⟩ ?_|refine aa_t (i:=8) rfl rfl (by kernel_rfl) (by first|rfl|exact wan_y rfl rfl (beq_tt ‹_›)|exact wan_y rfl rfl (beq_ff ‹_›)|exact wan_y rfl rfl (by simp[*])) (fun h0 hS=>st_loadFW rfl rfl ⟨rfl,rfl⟩) ⟨_,_,rfl⟩ ?_|refine aa_t (i:=8) rfl rfl (by kernel_rfl) (by first|rfl|exact wan_y rfl rfl (beq_tt ‹_›)|exact wan_y rfl rfl (beq_ff ‹_›)|exact wan_y rfl rfl (by simp[*])) (fun h0 hS=>st_loadBN rfl rfl rfl ⟨rfl,rfl⟩) ⟨_,_,rfl⟩ ?_|refine aa_t (i:=8) rfl rfl (by kernel_rfl) (by first|rfl|exact wan_y rfl rfl (beq_tt ‹_›)|exact wan_y rfl rfl (beq_ff ‹_›)|exact wan_y rfl rfl (by simp[*])) (fun h0 hS=>st_loadFN rfl rfl ⟨rfl,rfl⟩) ⟨_,_,rfl⟩ ?_
  refine aa_t (i:=9) rfl rfl (by kernel_rfl) (by first|rfl|exact wan_y rfl rfl (beq_tt ‹_›)|exact wan_y rfl rfl (beq_ff ‹_›)|exact wan_y rfl rfl (by simp[*])) (fun h0 hS=>st_move rfl ⟨rfl,rfl⟩) ⟨_,_,rfl⟩ ?_
  first|refine aa_t (i:=10) rfl rfl (by kernel_rfl) (by first|rfl|exact wan_y rfl rfl (beq_tt ‹_›)|exact wan_y rfl rfl (beq_ff ‹_›)|exact wan_y rfl rfl (by simp[*])) (fun h0 hS=>st_nilB rfl ⟨rfl,rfl⟩) ⟨_,_,rfl⟩ ?_|refine aa_t (i:=10) rfl rfl (by kernel_rfl) (by first|rfl|exact wan_y rfl rfl (beq_tt ‹_›)|exact wan_y rfl rfl (beq_ff ‹_›)|exact wan_y rfl rfl (by simp[*])) (fun h0 hS=>st_nilF rfl ⟨rfl,rfl⟩) ⟨_,_,rfl⟩ ?_
  first|refine aa_t (i:=11) rfl rfl (by kernel_rfl) (by first|rfl|exact wan_y rfl rfl (beq_tt ‹_›)|exact wan_y rfl rfl (beq_ff ‹_›)|exact wan_y rfl rfl (by simp[*])) (fun h0 hS=>st_fieldB rfl ⟨rfl,rfl⟩) ⟨_,_,rfl⟩ ?_|refine aa_t (i:=11) rfl rfl (by kernel_rfl) (by first|rfl|exact wan_y rfl rfl (beq_tt ‹_›)|exact wan_y rfl rfl (beq_ff ‹_›)|exact wan_y rfl rfl (by simp[*])) (fun h0 hS=>st_fieldF rfl ⟨rfl,rfl⟩) ⟨_,_,rfl⟩ ?_
  first|refine c_ 12 rfl (st_loadB1 rfl rfl rfl ?_)|refine c_ 12 rfl (st_loadBW rfl rfl rfl ?_)|refine c_ 12 rfl (st_loadF1 rfl rfl ?_)|refine c_ 12 rfl (st_loadFW rfl rfl ?_)|refine c_ 12 rfl (st_loadBN rfl rfl rfl ?_)|refine c_ 12 rfl (st_loadFN rfl rfl ?_)
  refine⟨.inr ⟨_,_,rfl⟩,?_⟩
  refine c_ 13 rfl (q_call (PupS hs hv a) ?_)
  rintro r rfl
  refine⟨.inr ⟨_,_,rfl⟩,?_⟩
  refine c_ 14 rfl (q_call (Pdown s (upF s (s.mounts.length+1) a) hs) ?_)
  rintro r rfl
  refine⟨.inr ⟨_,_,rfl⟩,?_⟩
  first|refine aa_t (i:=15) rfl rfl (by kernel_rfl) (by first|rfl|exact wan_y rfl rfl (beq_tt ‹_›)|exact wan_y rfl rfl (beq_ff ‹_›)|exact wan_y rfl rfl (by simp[*])) (fun h0 hS=>st_nilB rfl ⟨rfl,rfl⟩) ⟨_,_,rfl⟩ ?_|refine aa_t (i:=15) rfl rfl (by kernel_rfl) (by first|rfl|exact wan_y rfl rfl (beq_tt ‹_›)|exact wan_y rfl rfl (beq_ff ‹_›)|exact wan_y rfl rfl (by simp[*])) (fun h0 hS=>st_nilF rfl ⟨rfl,rfl⟩) ⟨_,_,rfl⟩ ?_
  first|refine aa_t (i:=16) rfl rfl (by kernel_rfl) (by first|rfl|exact wan_y rfl rfl (beq_tt ‹_›)|exact wan_y rfl rfl (beq_ff ‹_›)|exact wan_y rfl rfl (by simp[*])) (fun h0 hS=>st_fieldB rfl ⟨rfl,rfl⟩) ⟨_,_,rfl⟩ ?_|refine aa_t (i:=16) rfl rfl (by kernel_rfl) (by first|rfl|exact wan_y rfl rfl (beq_tt ‹_›)|exact wan_y rfl rfl (beq_ff ‹_›)|exact wan_y rfl rfl (by simp[*])) (fun h0 hS=>st_fieldF rfl ⟨rfl,rfl⟩) ⟨_,_,rfl⟩ ?_
  refine c0_ 17 rfl (s_store rfl rfl rfl rfl rfl rfl (by repeat constructor) (by repeat constructor) ?_)
  refine⟨.inr ⟨_,_,rfl⟩,?_⟩
  refine z_ (h:=x_blockN (t_ (q_ (w_ (m_ (h:=m_ (h:=m_ (h:=m_ (h:=bd_ (h:=k_ (h:=f_ (h:=s_ (h:=k_ (h:=f_ (h:=s_ (h:=k_ (h:=f_ (h:=s_ (h:=e_ (w_ (a_ (h:=e_ (aw_ret (?_))))))))))))))))))))))))
  refine x_thenR (x_blockR (x_thenR (?_)))
  refine rt_ none (h5:=(LeA.refl _)) (h6:=⟨_,rfl,rfl, .inr ⟨⟨ps,itD s s.mounts.length (upF s (s.mounts.length+1) a),(0,0),⟨#[]⟩,mi,lk⟩,by unfold stp;rw[if_neg (by simp[hc1]),if_neg (by omega),if_pos hc3],rfl,rfl⟩⟩)
 have hc3:=bp hb3
 refine kt_ (w_ (eq_ (h:=a_ (h:=e_ (?_)))))
 refine aw_cond rfl (fun hb4=>?_) (fun hb4=>?_)
 ·have hc4:=bp hb4
  refine aw_exit (x_thenE (ABlock_far rfl (x_thenE (ABlock_out (t_ (q_ (w_ (m_ (h:=m_ (h:=m_ (h:=m_ (h:=bd_ (h:=k_ (h:=f_ (h:=s_ (h:=k_ (h:=f_ (h:=s_ (h:=k_ (h:=f_ (h:=s_ (h:=e_ (w_ (?_))))))))))))))))))))))))
  refine a_ (h:=e_ (aw_ret (x_thenR (x_blockR (x_thenR (?_))))))
  refine rt_ none (h5:=(LeA.refl _)) (h6:=⟨_,rfl,rfl, .inr ⟨⟨ps,a,(0,0),⟨#[]⟩,mi,lk⟩,by unfold stp;rw[if_neg (by simp[hc1]),if_neg (by omega),if_neg hc3,if_pos hc4],rfl,rfl⟩⟩)
 have hc4:=bp hb4
 refine kt_ (aw_exit (ABlock_far rfl (x_thenE (ABlock_far rfl (x_thenE (ABlock_out (t_ (q_ (w_ (m_ (h:=?_)))))))))))
 refine al_p rfl (q_call (Pname p) ?_)
 rintro r rfl
 refine nt_ (h:=e_ (?_))
 refine aw_cond rfl (fun hb5=>?_) (fun hb5=>?_)
 ·have hc5:=bp hb5
  refine w_ (a_ (h:=e_ (aw_ret (x_thenR (?_)))))
  refine rt_ none (h5:=(LeA.refl _)) (h6:=⟨_,rfl,rfl, .inl ⟨2,by unfold stp;rw[if_neg (by simp[hc1]),if_neg (by omega),if_neg hc3,if_neg hc4,if_pos hc5],by decide,rfl,rfl⟩⟩)
 have hc5:=bp hb5
 refine kt_ (?_)
 refine aw_mid (⟨look [(0, .bp 0 0),(3, .v (.string p)),(4, .sl 1 (ps.map strA) none),(5, .bp 1 0),(6, .v (.int .i64 (lookL s.files a p).2))],⟨[wkA s fl ⟨p::ps,a,dr,nm,mi,lk⟩,filA (lookL s.files a p).1],[]⟩⟩) ?_ ?_
 ·skip
  refine yk_ ([(0,wkA s fl ⟨p::ps,a,dr,nm,mi,lk⟩)]) 17 (h:=dm_ 0 (h:=dk_ 1 (h:=df_ 2 (h:=df_ 3 (h:=dl_ 4 (h:=dm_ 5 (h:=dk_ 6 (h:=df_ 7 (h:=dl_ 8 (h:=dm_ 9 (h:=?_)))))))))))
  refine c2_ 10 14 rfl rfl ?_ ?_
  ·refine q_call (Plook s.files a p hs.files) ?_
   rintro r rfl
   refine o_ (h:=?_)
   refine dm_ 11 (h:=dx_ 12 (h:=dx_ 13 (h:=?_)))
   refine c_ 14 rfl (s_alloc (by repeat constructor) ?_)
   refine o_ (h:=?_)
   refine c0_ 15 rfl (s_store rfl rfl rfl rfl rfl rfl (by repeat constructor) (by repeat constructor) ?_)
   refine o_ (h:=da_ 16 (h:=z_ (h:=?_)))
   refine x_then ?_
   first|(exfalso;first|contradiction|omega)|exact weak_of 2 0 rfl rfl rfl rfl (by repeat (first|exact Sub.nil|refine Sub.cons _ _ _ rfl rfl ?_|refine Sub.any _ _ ?_|refine Sub.sl _ _ _ _ _ rfl ?_|refine Sub.slnil _ _ _ rfl ?_|(apply Sub.of;(focus exact rfl);(focus exact LeA.of_eq (vb (by rfl)));(focus exact rfl))))
  refine s_alloc (by repeat constructor) ?_
  refine o_ (h:=?_)
  refine c_ 10 rfl (q_call (Plook s.files a p hs.files) ?_)
  rintro r rfl
  refine o_ (h:=dm_ 11 (h:=dx_ 12 (h:=dx_ 13 (h:=?_))))
  refine c0_ 15 rfl (s_store rfl rfl rfl rfl rfl rfl (by repeat constructor) (by repeat constructor) ?_)
  refine o_ (h:=da_ 16 (h:=z_ (h:=?_)))
  refine x_then ?_
  first|(exfalso;first|contradiction|omega)|exact weak_of 2 0 rfl rfl rfl rfl (by repeat (first|exact Sub.nil|refine Sub.cons _ _ _ rfl rfl ?_|refine Sub.any _ _ ?_|refine Sub.sl _ _ _ _ _ rfl ?_|refine Sub.slnil _ _ _ rfl ?_|(apply Sub.of;(focus exact rfl);(focus exact LeA.of_eq (vb (by rfl)));(focus exact rfl))))
 skip
 refine q_ (w_ (m_ (h:=nq_ (h:=e_ (?_)))))
 refine aw_cond rfl (fun hb6=>?_) (fun hb6=>?_)
 ·have hc6:=bp hb6
  refine q_ (w_ (m_ (h:=n_ (h:=gt_ (h:=e_ (?_))))))
  refine aw_cond rfl (fun hb7=>?_) (fun hb7=>?_)
  ·have hc7:=bp hb7
   have hps:ps≠[]:=fun e=>by rw[e]at hml hc7;simp at hc7
   refine w_ (a_ (h:=e_ (aw_ret (x_thenR (x_thenR (?_))))))
   refine rt_ none (h5:=(LeA.refl _)) (h6:=⟨_,rfl,rfl, .inl ⟨2,by unfold stp;rw[if_neg (by simp[hc1]),if_neg (by omega),if_neg hc3,if_neg hc4,if_neg (by simp[hc5]),if_pos hc6,if_pos hps],by decide,rfl,rfl⟩⟩)
  have hc7:=bp hb7
  have hps:¬ps≠[]:=fun e=>e (List.eq_nil_of_length_eq_zero (by omega))
  refine kt_ (w_ (m_ (h:=m_ (h:=m_ (h:=m_ (h:=m_ (h:=m_ (h:=k_ (h:=f_ (h:=l_ (h:=m_ (h:=k_ (h:=f_ (h:=s_ (h:=k_ (h:=f_ (h:=s_ (h:=k_ (h:=f_ (h:=s_ (h:=k_ (h:=f_ (h:=s_ (h:=?_))))))))))))))))))))))))
  refine e_ (w_ (a_ (h:=e_ (aw_ret (x_thenR (?_))))))
  refine rt_ none (h5:=(LeA.refl _)) (h6:=⟨_,rfl,rfl, .inr ⟨⟨ps,a,a,p,true,lk⟩,by unfold stp;rw[if_neg (by simp[hc1]),if_neg (by omega),if_neg hc3,if_neg hc4,if_neg (by simp[hc5]),if_pos hc6,if_neg hps],rfl,rfl⟩⟩)
 have hc6:=bp hb6
 refine kt_ (?_)
 refine aw_mid (⟨look [(0, .bp 0 0),(3, .v (.string p)),(4, .sl 1 (ps.map strA) none),(5, .bp 1 0),(7, .bp 2 0)],⟨[wkA s fl ⟨p::ps,a,dr,nm,mi,lk⟩,filA (lookL s.files a p).1,nodA (nodG s.files (lookL s.files a p).1)],[]⟩⟩) ?_ ?_
 ·skip
  refine yk_ ([(0,wkA s fl ⟨p::ps,a,dr,nm,mi,lk⟩),(1,filA (lookL s.files a p).1)]) 13 (h:=dm_ 0 (h:=dk_ 1 (h:=df_ 2 (h:=df_ 3 (h:=dl_ 4 (h:=dl_ 5 (h:=?_)))))))
  refine c2_ 6 10 rfl rfl ?_ ?_
  ·refine q_call (Pnode s.files (lookL s.files a p).1 hs.files) ?_
   rintro r rfl
   refine o_ (h:=?_)
   refine dm_ 7 (h:=dx_ 8 (h:=dx_ 9 (h:=?_)))
   refine c_ 10 rfl (s_alloc (by repeat constructor) ?_)
   refine o_ (h:=?_)
   refine c0_ 11 rfl (s_store rfl rfl rfl rfl rfl rfl (by repeat constructor) (by repeat constructor) ?_)
   refine o_ (h:=da_ 12 (h:=z_ (h:=?_)))
   refine x_then ?_
   first|(exfalso;first|contradiction|omega)|exact weak_of 3 0 rfl rfl rfl rfl (by repeat (first|exact Sub.nil|refine Sub.cons _ _ _ rfl rfl ?_|refine Sub.any _ _ ?_|refine Sub.sl _ _ _ _ _ rfl ?_|refine Sub.slnil _ _ _ rfl ?_|(apply Sub.of;(focus exact rfl);(focus exact LeA.of_eq (vb (by rfl)));(focus exact rfl))))
  refine s_alloc (by repeat constructor) ?_
  refine o_ (h:=?_)
  refine c_ 6 rfl (q_call (Pnode s.files (lookL s.files a p).1 hs.files) ?_)
  rintro r rfl
  refine o_ (h:=dm_ 7 (h:=dx_ 8 (h:=dx_ 9 (h:=?_))))
  refine c0_ 11 rfl (s_store rfl rfl rfl rfl rfl rfl (by repeat constructor) (by repeat constructor) ?_)
  refine o_ (h:=da_ 12 (h:=z_ (h:=?_)))
  refine x_then ?_
  first|(exfalso;first|contradiction|omega)|exact weak_of 3 0 rfl rfl rfl rfl (by repeat (first|exact Sub.nil|refine Sub.cons _ _ _ rfl rfl ?_|refine Sub.any _ _ ?_|refine Sub.sl _ _ _ _ _ rfl ?_|refine Sub.slnil _ _ _ rfl ?_|(apply Sub.of;(focus exact rfl);(focus exact LeA.of_eq (vb (by rfl)));(focus exact rfl))))
 skip
 refine q_ (?_)
 refine aw_mid (⟨look [(0, .bp 0 0),(3, .v (.string p)),(4, .sl 1 (ps.map strA) none),(5, .bp 1 0),(7, .bp 2 0),(122, .v (.bool (decide ((nodG s.files (lookL s.files a p).1).kind=3)&&(decide (0<((ps.map strA).length:Int))||fl))))],⟨[wkA s fl ⟨p::ps,a,dr,nm,mi,lk⟩,filA (lookL s.files a p).1,nodA (nodG s.files (lookL s.files a p).1)],[]⟩⟩) ?_ ?_
 ·skip
  refine aw_region (f_ (h:=l_ (h:=eq_ (h:=m_ (h:=?_)))))
  refine al_gs true rfl rfl (fun hb8=>?_) (fun hb8=>?_)
  ·have hc8:=bp hb8
   refine m_ (h:=n_ (h:=gt_ (h:=m_ (h:=?_))))
   refine al_gs false rfl rfl (fun hb9=>?_) (fun hb9=>?_)
   ·have hc9:=bp hb9
    refine g0_ (h:=g0_ (h:=g0_ (h:=g0_ (h:=pt_ (h:=pt_ (h:=al_nil (?_)))))))
    refine x_then ?_
    first|(exfalso;first|contradiction|omega)|exact weak_of 3 0 rfl rfl rfl rfl (by repeat (first|exact Sub.nil|refine Sub.cons _ _ _ rfl rfl ?_|refine Sub.any _ _ ?_|refine Sub.sl _ _ _ _ _ rfl ?_|refine Sub.slnil _ _ _ rfl ?_|(apply Sub.of;(focus exact rfl);(focus exact LeA.of_eq (vb (by first|(rw[hb8];rfl)|(rw[hb8,hb9];rfl))));(focus exact rfl))))
   have hc9:=bp hb9
   refine m_ (h:=k_ (h:=f_ (h:=l_ (h:=pf_ (h:=pt_ (h:=al_nil (?_)))))))
   refine x_then ?_
   first|(exfalso;first|contradiction|omega)|exact weak_of 3 0 rfl rfl rfl rfl (by repeat (first|exact Sub.nil|refine Sub.cons _ _ _ rfl rfl ?_|refine Sub.any _ _ ?_|refine Sub.sl _ _ _ _ _ rfl ?_|refine Sub.slnil _ _ _ rfl ?_|(apply Sub.of;(focus exact rfl);(focus exact LeA.of_eq (vb (by first|(rw[hb8];rfl)|(rw[hb8,hb9];rfl))));(focus exact rfl))))
  have hc8:=bp hb8
  refine g0_ (h:=g0_ (h:=g0_ (h:=g0_ (h:=gu_ (h:=gu_ (h:=gu_ (h:=gu_ (h:=g0_ (h:=pf_ (h:=al_nil (?_)))))))))))
  refine x_then ?_
  first|(exfalso;first|contradiction|omega)|exact weak_of 3 0 rfl rfl rfl rfl (by repeat (first|exact Sub.nil|refine Sub.cons _ _ _ rfl rfl ?_|refine Sub.any _ _ ?_|refine Sub.sl _ _ _ _ _ rfl ?_|refine Sub.slnil _ _ _ rfl ?_|(apply Sub.of;(focus exact rfl);(focus exact LeA.of_eq (vb (by first|(rw[hb8];rfl)|(rw[hb8,hb9];rfl))));(focus exact rfl))))
 skip
 refine aw_cond rfl (fun hb10=>?_) (fun hb10=>?_)
 ·have hc10:=bp hb10
  have hlk:(nodG s.files (lookL s.files a p).1).kind=3∧(ps≠[]∨fl=true):=by
   simp only[Bool.and_eq_true,Bool.or_eq_true,decide_eq_true_eq]at hc10
   exact⟨hc10.1,hc10.2.imp (fun h e=>by rw[e]at h;simp at h) id⟩
  refine w_ (m_ (h:=f_ (h:=l_ (h:=m_ (h:=?_)))))
  refine al_p rfl (s_callB 0 rfl (by repeat (first|exact ArgsB.nil|refine ArgsB.cons _ _ _ _ _ rfl rfl ?_)) rfl rfl (Plink s fl ⟨p::ps,a,dr,nm,mi,lk⟩ (nodG s.files (lookL s.files a p).1).target ps hs h8 (by omega) hrl) ?_)
  rintro r row2 (⟨h9,rfl,rfl⟩|⟨h9,rfl,rfl⟩)
  ·refine⟨bp_wk _ _ _,rfl,_,(by repeat constructor),?_⟩
   refine a_ (h:=e_ (aw_ret (x_thenR (?_))))
   refine rt_ none (h5:=(LeA.refl _)) (h6:=⟨_,rfl,rfl, .inl ⟨40,by unfold stp;rw[if_neg (by simp[hc1]),if_neg (by omega),if_neg hc3,if_neg hc4,if_neg (by simp[hc5]),if_neg (by simp[hc6]),if_pos hlk,if_pos h9],by decide,rfl,rfl⟩⟩)
  refine⟨bp_wk _ _ _,rfl,_,(by repeat constructor),?_⟩
  refine a_ (h:=e_ (aw_ret (x_thenR (?_))))
  refine rt_ none (h5:=(LeA.refl _)) (h6:=⟨_,rfl,rfl, .inr ⟨lnkW s (nodG s.files (lookL s.files a p).1).target ps ⟨p::ps,a,dr,nm,mi,lk⟩,by unfold stp;rw[if_neg (by simp[hc1]),if_neg (by omega),if_neg hc3,if_neg hc4,if_neg (by simp[hc5]),if_neg (by simp[hc6]),if_pos hlk,if_neg h9];rfl,rfl,rfl⟩⟩)
 have hc10:=bp hb10
 have hlk:¬((nodG s.files (lookL s.files a p).1).kind=3∧(ps≠[]∨fl=true)):=fun h=>by
  rw[decide_eq_true h.1,Bool.true_and,Bool.or_eq_false_iff]at hc10
  rcases h.2 with e|e
  ·exact e (List.eq_nil_of_length_eq_zero (by have:=of_decide_eq_false hc10.1;omega))
  rw[hc10.2]at e;cases e
 refine kt_ (w_ (m_ (h:=m_ (h:=m_ (h:=m_ (h:=m_ (h:=k_ (h:=f_ (h:=l_ (h:=m_ (h:=k_ (h:=f_ (h:=s_ (h:=k_ (h:=f_ (h:=s_ (h:=k_ (h:=f_ (h:=s_ (h:=e_ (q_ (?_))))))))))))))))))))))
 refine aw_draw (fun h=>∃x y r,h.bx=[[.sl 2 (s.files.map dvcA) none, .sl 3 (s.mounts.map mntA) none, .sl 1 (ps.map strA) none,x,y, .v (.int .i64 a.1), .v (.int .i64 a.2), .v (.string p), .v (.bool mi), .v (.bool fl), .v (.int .i64 (lk:Int))],filA (lookL s.files a p).1]++r) 10 (by kernel_rfl) ?_
 refine aa_t (i:=0) rfl rfl (by kernel_rfl) (by first|rfl|exact wan_y rfl rfl (beq_tt ‹_›)|exact wan_y rfl rfl (beq_ff ‹_›)|exact wan_y rfl rfl (by simp[*])) (fun h0 hS=>st_move rfl ⟨rfl,rfl⟩) ⟨_,_,_,rfl⟩ ?_
 refine aa_t (i:=1) rfl rfl (by kernel_rfl) (by first|rfl|exact wan_y rfl rfl (beq_tt ‹_›)|exact wan_y rfl rfl (beq_ff ‹_›)|exact wan_y rfl rfl (by simp[*])) (fun h0 hS=>st_move rfl ⟨rfl,rfl⟩) ⟨_,_,_,rfl⟩ ?_
 first|refine aa_t (i:=2) rfl rfl (by kernel_rfl) (by first|rfl|exact wan_y rfl rfl (beq_tt ‹_›)|exact wan_y rfl rfl (beq_ff ‹_›)|exact wan_y rfl rfl (by simp[*])) (fun h0 hS=>st_nilB rfl ⟨rfl,rfl⟩) ⟨_,_,_,rfl⟩ ?_|refine aa_t (i:=2) rfl rfl (by kernel_rfl) (by first|rfl|exact wan_y rfl rfl (beq_tt ‹_›)|exact wan_y rfl rfl (beq_ff ‹_›)|exact wan_y rfl rfl (by simp[*])) (fun h0 hS=>st_nilF rfl ⟨rfl,rfl⟩) ⟨_,_,_,rfl⟩ ?_
 first|refine aa_t (i:=3) rfl rfl (by kernel_rfl) (by first|rfl|exact wan_y rfl rfl (beq_tt ‹_›)|exact wan_y rfl rfl (beq_ff ‹_›)|exact wan_y rfl rfl (by simp[*])) (fun h0 hS=>st_fieldB rfl ⟨rfl,rfl⟩) ⟨_,_,_,rfl⟩ ?_|refine aa_t (i:=3) rfl rfl (by kernel_rfl) (by first|rfl|exact wan_y rfl rfl (beq_tt ‹_›)|exact wan_y rfl rfl (beq_ff ‹_›)|exact wan_y rfl rfl (by simp[*])) (fun h0 hS=>st_fieldF rfl ⟨rfl,rfl⟩) ⟨_,_,_,rfl⟩ ?_
 first|refine aa_t (i:=4) rfl rfl (by kernel_rfl) (by first|rfl|exact wan_y rfl rfl (beq_tt ‹_›)|exact wan_y rfl rfl (beq_ff ‹_›)|exact wan_y rfl rfl (by simp[*])) (fun h0 hS=>by obtain⟨x,y,r,e⟩:=hS;exact st_loadBN (row:=[.sl 2 (s.files.map dvcA) none, .sl 3 (s.mounts.map mntA) none, .sl 1 (ps.map strA) none,x,y, .v (.int .i64 a.1), .v (.int .i64 a.2), .v (.string p), .v (.bool mi), .v (.bool fl), .v (.int .i64 (lk:Int))]) rfl (by rw[e];rfl) rfl (show _=AV.agg (spcA s)∧_ from⟨rfl,rfl⟩)) ⟨_,_,_,rfl⟩ ?_|refine aa_t (i:=4) rfl rfl (by kernel_rfl) (by first|rfl|exact wan_y rfl rfl (beq_tt ‹_›)|exact wan_y rfl rfl (beq_ff ‹_›)|exact wan_y rfl rfl (by simp[*])) (fun h0 hS=>by obtain⟨x,y,r,e⟩:=hS;exact st_loadBW (row:=filA (lookL s.files a p).1) rfl (by rw[e];rfl) rfl ⟨rfl,rfl⟩) ⟨_,_,_,rfl⟩ ?_|refine aa_t (i:=4) rfl rfl (by kernel_rfl) (by first|rfl|exact wan_y rfl rfl (beq_tt ‹_›)|exact wan_y rfl rfl (beq_ff ‹_›)|exact wan_y rfl rfl (by simp[*])) (fun h0 hS=>st_loadB1 rfl rfl rfl ⟨rfl,rfl⟩) ⟨_,_,_,rfl⟩ ?_|refine aa_t (i:=4) rfl rfl (by kernel_rfl) (by first|rfl|exact wan_y rfl rfl (beq_tt ‹_›)|exact wan_y rfl rfl (beq_ff ‹_›)|exact wan_y rfl rfl (by simp[*])) (fun h0 hS=>st_loadBW rfl rfl rfl ⟨rfl,rfl⟩) ⟨_,_,_,rfl⟩ ?_|refine aa_t (i:=4) rfl rfl (by kernel_rfl) (by first|rfl|exact wan_y rfl rfl (beq_tt ‹_›)|exact wan_y rfl rfl (beq_ff ‹_›)|exact wan_y rfl rfl (by simp[*])) (fun h0 hS=>st_loadF1 rfl rfl ⟨rfl,rfl⟩) ⟨_,_,_,rfl⟩ ?_|refine aa_t (i:=4) rfl rfl (by kernel_rfl) (by first|rfl|exact wan_y rfl rfl (beq_tt ‹_›)|exact wan_y rfl rfl (beq_ff ‹_›)|exact wan_y rfl rfl (by simp[*])) (fun h0 hS=>st_loadFW rfl rfl ⟨rfl,rfl⟩) ⟨_,_,_,rfl⟩ ?_|refine aa_t (i:=4) rfl rfl (by kernel_rfl) (by first|rfl|exact wan_y rfl rfl (beq_tt ‹_›)|exact wan_y rfl rfl (beq_ff ‹_›)|exact wan_y rfl rfl (by simp[*])) (fun h0 hS=>st_loadBN rfl rfl rfl ⟨rfl,rfl⟩) ⟨_,_,_,rfl⟩ ?_|refine aa_t (i:=4) rfl rfl (by kernel_rfl) (by first|rfl|exact wan_y rfl rfl (beq_tt ‹_›)|exact wan_y rfl rfl (beq_ff ‹_›)|exact wan_y rfl rfl (by simp[*])) (fun h0 hS=>st_loadFN rfl rfl ⟨rfl,rfl⟩) ⟨_,_,_,rfl⟩ ?_
 first|refine aa_t (i:=5) rfl rfl (by kernel_rfl) (by first|rfl|exact wan_y rfl rfl (beq_tt ‹_›)|exact wan_y rfl rfl (beq_ff ‹_›)|exact wan_y rfl rfl (by simp[*])) (fun h0 hS=>by obtain⟨x,y,r,e⟩:=hS;exact st_loadBN (row:=[.sl 2 (s.files.map dvcA) none, .sl 3 (s.mounts.map mntA) none, .sl 1 (ps.map strA) none,x,y, .v (.int .i64 a.1), .v (.int .i64 a.2), .v (.string p), .v (.bool mi), .v (.bool fl), .v (.int .i64 (lk:Int))]) rfl (by rw[e];rfl) rfl (show _=AV.agg (spcA s)∧_ from⟨rfl,rfl⟩)) ⟨_,_,_,rfl⟩ ?_|refine aa_t (i:=5) rfl rfl (by kernel_rfl) (by first|rfl|exact wan_y rfl rfl (beq_tt ‹_›)|exact wan_y rfl rfl (beq_ff ‹_›)|exact wan_y rfl rfl (by simp[*])) (fun h0 hS=>by obtain⟨x,y,r,e⟩:=hS;exact st_loadBW (row:=filA (lookL s.files a p).1) rfl (by rw[e];rfl) rfl ⟨rfl,rfl⟩) ⟨_,_,_,rfl⟩ ?_|refine aa_t (i:=5) rfl rfl (by kernel_rfl) (by first|rfl|exact wan_y rfl rfl (beq_tt ‹_›)|exact wan_y rfl rfl (beq_ff ‹_›)|exact wan_y rfl rfl (by simp[*])) (fun h0 hS=>st_loadBW rfl rfl rfl ⟨rfl,rfl⟩) ⟨_,_,_,rfl⟩ ?_
 refine c_ 6 rfl (q_call (Pdown s (lookL s.files a p).1 hs) ?_)
 rintro r rfl
 refine⟨.inr ⟨_,_,_,rfl⟩,?_⟩
 first|refine aa_t (i:=7) rfl rfl (by kernel_rfl) (by first|rfl|exact wan_y rfl rfl (beq_tt ‹_›)|exact wan_y rfl rfl (beq_ff ‹_›)|exact wan_y rfl rfl (by simp[*])) (fun h0 hS=>st_nilB rfl ⟨rfl,rfl⟩) ⟨_,_,_,rfl⟩ ?_|refine aa_t (i:=7) rfl rfl (by kernel_rfl) (by first|rfl|exact wan_y rfl rfl (beq_tt ‹_›)|exact wan_y rfl rfl (beq_ff ‹_›)|exact wan_y rfl rfl (by simp[*])) (fun h0 hS=>st_nilF rfl ⟨rfl,rfl⟩) ⟨_,_,_,rfl⟩ ?_
 first|refine aa_t (i:=8) rfl rfl (by kernel_rfl) (by first|rfl|exact wan_y rfl rfl (beq_tt ‹_›)|exact wan_y rfl rfl (beq_ff ‹_›)|exact wan_y rfl rfl (by simp[*])) (fun h0 hS=>st_fieldB rfl ⟨rfl,rfl⟩) ⟨_,_,_,rfl⟩ ?_|refine aa_t (i:=8) rfl rfl (by kernel_rfl) (by first|rfl|exact wan_y rfl rfl (beq_tt ‹_›)|exact wan_y rfl rfl (beq_ff ‹_›)|exact wan_y rfl rfl (by simp[*])) (fun h0 hS=>st_fieldF rfl ⟨rfl,rfl⟩) ⟨_,_,_,rfl⟩ ?_
 refine c0_ 9 rfl (s_store rfl rfl rfl rfl rfl rfl (by repeat constructor) (by repeat constructor) ?_)
 refine⟨.inr ⟨_,_,_,rfl⟩,?_⟩
 refine z_ (h:=t_ (w_ (a_ (h:=e_ (aw_ret (?_))))))
 refine rt_ none (h5:=(LeA.refl _)) (h6:=⟨_,rfl,rfl, .inr ⟨⟨ps,itD s s.mounts.length (lookL s.files a p).1,a,p,mi,lk⟩,by unfold stp;rw[if_neg (by simp[hc1]),if_neg (by omega),if_neg hc3,if_neg hc4,if_neg (by simp[hc5]),if_neg (by simp[hc6]),if_neg hlk],rfl,rfl⟩⟩)
end
end Go.Proofs.YtbglbmnhgbgelaaGreatDoor
