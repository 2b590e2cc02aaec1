/-
  Part 14 of the proof of MountsValidP: what the statement's proof uses of the texts in wip/tpl.
-/
import Derived.OpenShut
import Derived.ChangeArms
import Derived.ChangeOld
import Derived.DataReads
import Derived.DataElems
import Derived.Test.YtgliiknfmlmddaaMv13
namespace Go.Proofs.Ytgliiknfmlmddaa
open Go.RowKit Go.Shelf
attribute [local go_sem] Oper.semAt_some

def seesP (s : Spc) (dir x : Fil) : Bool := match covL s x with
  | none => true
  | some d => decide (∃ y ∈ chainP s (mostL s.files) dir, y.1 = d)
def visP (s : Spc) (dir : Fil) : Bool := (whereP s dir).2 && (chainP s (mostL s.files) dir).all (seesP s dir)
set_option maxRecDepth 100000 in
set_option maxHeartbeats 4000000 in
theorem visible_o (n : Nat) (hn : Hid (4 ≤ n)) (s : Spc) (hs : SpcB s) (hnm : ∀ x, (nmoL s x).size ≤ 100) (hmo : mostL s.files ≤ 5000) (dir : Fil) (ds ms : Value) (w : World) (h : SpcIn s w.heap.size w ds ms) :
    CallsIn Fence.wide n Try.prog 32 #[.agg #[ds, ms], FilV dir] w fun e w' => e = .returned (.bool (visP s dir)) ∧ Below w.heap.size w w' := by
  have HWh := Lib.hid (fun X (hX : SpcIn s X.heap.size X ds ms) => where_o 4 (Lib.hid (Nat.le_refl _)) s hs hnm hmo dir ds ms X hX)
  clear hnm
  obtain ⟨wp, hwp⟩ : ∃ wp, whereP s dir = wp := ⟨_, rfl⟩
  obtain ⟨ws, wb⟩ := wp
  rw [hwp] at HWh
  have HWP := Lib.hid hwp
  clear hwp
  unfold FilV at HWh ⊢
  refine callsIn_of_wp_marks Try.func32 rfl trivial ?_ rfl
  simp only [Try.ntmps32, List.size_toArray, List.length_cons, List.length_nil, Nat.reduceAdd, Nat.reduceSub, Array.replicate_succ, Array.replicate_zero, List.push_toArray, List.append_toArray, List.nil_append, List.cons_append]
  gi_wp2_with fail
  obtain ⟨W3, hW3⟩ : ∃ W3, ((w.alloc (.cells #[ds, ms] 32)).alloc (.cells #[.int .i64 dir.1, .int .i64 dir.2] 24)).alloc (.cells #[.bool false] 4) = W3 := ⟨_, rfl⟩
  have hz3 : W3.heap.size = w.heap.size + 3 := by rw [← hW3]; simp
  have hB3 : Below w.heap.size w W3 := by rw [← hW3]; exact below_a3 _ _ _ _
  have kS : W3.heap[w.heap.size]? = some (.cells #[ds, ms] 32) := by rw [← hW3]; exact blk_a3_0 _ _ _ _
  have kD : W3.heap[w.heap.size + 1]? = some (.cells #[.int .i64 dir.1, .int .i64 dir.2] 24) := by rw [← hW3]; exact blk_a3_1 _ _ _ _
  have kE : Boxed W3 (w.heap.size + 1 + 1) 4 (.bool false) := by rw [← hW3]; exact blk_a3_2 _ _ _ _
  have hSp := h.below hB3 (Nat.le_refl _)
  rw [hW3]
  clear hW3
  refine wideCall ((callsIn_wide.2 (callsIn_wide.1 (HWh.out W3 (hSp.grow hB3.size)))).mono ?_)
  rintro e W5 ⟨rfl, hb5⟩
  have hz5 := hb5.size
  have k5S := blk_below kS hb5 (lt_some kS)
  have k5D := blk_below kD hb5 (lt_some kD)
  have k5E : Boxed W5 (w.heap.size + 1 + 1) 4 (.bool false) := blk_below kE hb5 (lt_some kE)
  have hB5 : Below w.heap.size w W5 := hB3.trans (hb5.mono hB3.size)
  have h5 := h.below hB5 (Nat.le_refl _)
  have HZ5 : Hid (w.heap.size + 3 ≤ W5.heap.size) := Lib.hid (by omega)
  clear kS kD kE hB3 hSp hb5 hz3 hz5
  obtain ⟨c0, f0⟩ := cells_of k5S
  obtain ⟨c1, f1⟩ := cells_of k5D
  have c3 := k5E.cell
  have f3 := k5E.frozen
  cases wb with
  | false =>
    have HV : Hid (visP s dir = false) := Lib.hid (by unfold visP; rw [HWP.out]; rfl)
    gi_wp2
    have hE := (k5E.set (.bool false)).cell
    refine ⟨.bool false, by simp [results, Try.f32, go_sem, hE], by rw [HV.out], hB5.setCell (by show w.heap.size ≤ w.heap.size + 1 + 1; omega) _⟩
  | true =>
    have HV : Hid (visP s dir = (chainP s (mostL s.files) dir).all (seesP s dir)) := Lib.hid (by unfold visP; rw [HWP.out]; rfl)
    gi_wp2_with fail
    refine wideCall ((callsIn_wide.2 (chain_any ds ms dir W5)).mono ?_)
    rintro e W9 ⟨rfl, hW9⟩
    have hB9 : Below W5.heap.size W5 W9 := by rw [hW9]; exact below_a2 _ _ _
    have hz9 : W9.heap.size = W5.heap.size + 2 := by rw [hW9]; simp
    have cS : W9.heap[W5.heap.size]? = some (.cells #[ds, ms] 32) := by rw [hW9]; exact blk_a2_0 _ _ _
    have cD : W9.heap[W5.heap.size + 1]? = some (.cells #[.int .i64 dir.1, .int .i64 dir.2] 24) := by rw [hW9]; exact blk_a2_1 _ _ _
    have k9S := blk_below k5S hB9 (lt_some k5S)
    have k9D := blk_below k5D hB9 (lt_some k5D)
    have k9E : Boxed W9 (w.heap.size + 1 + 1) 4 (.bool false) := blk_below k5E hB9 (lt_some k5E)
    have hBw : Below w.heap.size w W9 := hB5.trans (hB9.mono hB5.size)
    have kSp := h.below hBw (Nat.le_refl _)
    have HZ9 : Hid (W9.heap.size = W5.heap.size + 2) := Lib.hid hz9
    clear hW9 hB9 hB5 hz9 k5S k5D k5E c0 f0 c1 f1 c3 f3 h5
    gi_wp2_with fail
    refine wpIn_rangeFunc_sa rfl (by have := hn.out; omega) (gf := 86) rfl trivial (enters_of Try.func86 (by kernel_rfl) rfl)
      (chain1 (n - 1) s hs dir w.heap.size W5.heap.size (W5.heap.size + 1) ds ms W9 cS cD kSp (by have := HZ9.out; have := HZ5.out; omega) (by have := HZ9.out; have := HZ5.out; omega) (by omega))
      (fun b hb => by have := HZ9.out; omega) KeepC.trans (fun W l o o' hl ho hc => by have := HZ9.out; have := HZ5.out; exact keepC_put (B := W9.heap.size) (by omega) (by omega) (by omega) W l o o' hl ho hc) (Below.refl _ _) (fun _ => rfl)
      (fun pre W => W.heap[w.heap.size]? = some (.cells #[ds, ms] 32) ∧ W.heap[w.heap.size + 1]? = some (.cells #[.int .i64 dir.1, .int .i64 dir.2] 24) ∧ Boxed W (w.heap.size + 1 + 1) 4 (.bool false) ∧ pre.all (seesP s dir) = true ∧ Below w.heap.size w W)
      (fun c pre W => c = .ret ∧ Boxed W (w.heap.size + 1 + 1) 4 (.bool false) ∧ pre.all (seesP s dir) = false ∧ Below w.heap.size w W)
      (fun s X Y h hm => by
        obtain ⟨h1, h2, h3, h6, h7⟩ := h
        have z9 := HZ9.out
        have z5 := HZ5.out
        exact ⟨(hm.block _ (lt_some h1) (by omega) (.inr ⟨_, h1, rfl⟩)).trans h1, (hm.block _ (lt_some h2) (by omega) (.inr ⟨_, h2, rfl⟩)).trans h2, hm.boxed h3 (by omega), h6, hm.under h7 (Nat.le_refl _) (fun b hb => by omega) (by omega)⟩)
      (fun c s X Y h hm => by
        obtain ⟨h1, h3, h6, h7⟩ := h
        have z9 := HZ9.out
        have z5 := HZ5.out
        exact ⟨h1, hm.boxed h3 (by omega), h6, hm.under h7 (Nat.le_refl _) (fun b hb => by omega) (by omega)⟩)
      ⟨k9S, k9D, k9E, rfl, hBw⟩
      (fun x W => { tmps := #[.agg #[ds, ms], .agg #[.int .i64 dir.1, .int .i64 dir.2], .pointer (some ⟨w.heap.size, 0, none⟩), .pointer (some ⟨w.heap.size + 1, 0, none⟩), .pointer (some ⟨w.heap.size + 1 + 1, 0, none⟩), .string ws, .bool true, .pointer (some ⟨W.heap.size, 0, none⟩), undef, undef, .tuple #[.string ws, .bool true], .agg #[ds, ms], .agg #[.int .i64 dir.1, .int .i64 dir.2],
        .tuple #[.string ws, .bool true], .string ws, .bool true, .bool true, .bool false, .agg #[ds, ms], .agg #[.int .i64 dir.1, .int .i64 dir.2],
        .func (.func 86) #[] #[.pointer (some ⟨W5.heap.size, 0, none⟩), .pointer (some ⟨W5.heap.size + 1, 0, none⟩)], .agg #[.int .i64 x.1, .int .i64 x.2], undef, undef, undef, undef, undef, undef, undef, undef, undef, undef, undef, undef, undef, undef], defers := [] })
      (fun x W => W.alloc (.cells #[.int .i64 x.1, .int .i64 x.2] 24))
      (fun x W hsz => ⟨below_a1 _ _, by have := HZ9.out; have := HZ5.out; exact keepC_below (below_a1 _ _) (by omega) (by omega) (by omega)⟩) ?assign ?body ?done ?stop
    case assign =>
      intro l x W K hsz hK
      unfold FilV
      gi_wp2
      exact hK
    case body =>
      rintro l pre x W0 W ⟨c1, c2, cE, hall, hbw⟩ _ hsz hszW hcell _ _
      have cX := hcell _ _ (blk_a1_0 W0 (.cells #[.int .i64 x.1, .int .i64 x.2] 24)) rfl
      simp only [size_a1] at hszW
      have HN := Lib.hid hall
      have HZ := Lib.hid hsz
      clear hall hsz hcell k9S k9D k9E cS cD kSp
      obtain ⟨a1, b1⟩ := cells_of c1
      obtain ⟨aX, bX⟩ := cells_of cX
      gi_wp2_with fail
      refine wideCall ((CallsIn.inRound l (callsIn_wide.2 (cover_o (h.below hbw (Nat.le_refl _)) hs x))).mono ?_)
      rintro e W1 ⟨rfl, hb1⟩
      have HSE := Lib.hid (show seesP s dir x = (match covL s x with
        | none => true
        | some d => decide (∃ y ∈ chainP s (mostL s.files) dir, y.1 = d)) from rfl)
      obtain ⟨cv, hcv⟩ : ∃ cv, covL s x = cv := ⟨_, rfl⟩
      rw [hcv] at HSE ⊢
      have d1 := blk_below c1 hb1 (lt_some c1)
      have d2 := blk_below c2 hb1 (lt_some c2)
      have dE : Boxed W1 (w.heap.size + 1 + 1) 4 (.bool false) := blk_below cE hb1 (lt_some cE)
      have hw1 := hbw.trans (hb1.mono hbw.size)
      have HB1 := Lib.hid hb1
      clear a1 b1 aX bX c1 c2 cE cX hcv hb1
      obtain ⟨a1, b1⟩ := cells_of d1
      obtain ⟨a2, b2⟩ := cells_of d2
      have aE := dE.cell
      have bE := dE.frozen
      have HAL : Hid ((pre ++ [x]).all (seesP s dir) = seesP s dir x) := Lib.hid (by rw [List.all_append, HN.out]; simp)
      cases cv with
      | none =>
        gi_wp2_with fail
        refine ⟨trivial, ?_⟩
        gi_wp2
        have z9 := HZ9.out
        have z5 := HZ5.out
        have zz := HZ.out
        exact ⟨keepsFrom_below HB1.out, keepC_below HB1.out (by omega) (by omega) (by omega), d1, d2, dE, by rw [HAL.out, HSE.out], hw1⟩
      | some dv =>
        gi_wp2_with fail
        refine wideCall ((CallsIn.inRound l (callsIn_wide.2 (callsIn_wide.1 (crosses_o 4 (Lib.hid (by omega)) s hs dir dv ds ms W1 ((h.below hw1 (Nat.le_refl _)).grow hw1.size))))).mono ?_)
        rintro e W2 ⟨rfl, hb2⟩
        obtain ⟨cr, hcr⟩ : ∃ cr, decide (∃ y ∈ chainP s (mostL s.files) dir, y.1 = dv) = cr := ⟨_, rfl⟩
        simp only [hcr] at HSE ⊢
        have e1 := blk_below d1 hb2 (lt_some d1)
        have e2 := blk_below d2 hb2 (lt_some d2)
        have eE : Boxed W2 (w.heap.size + 1 + 1) 4 (.bool false) := blk_below dE hb2 (lt_some dE)
        have hw2 := hw1.trans (hb2.mono hw1.size)
        have HB2 := Lib.hid (HB1.out.trans (hb2.mono HB1.out.size))
        clear a1 b1 a2 b2 aE bE d1 d2 dE hb2 hcr
        have aE := eE.cell
        have bE := eE.frozen
        cases cr with
        | true =>
          gi_wp2
          have z9 := HZ9.out
          have z5 := HZ5.out
          have zz := HZ.out
          exact ⟨keepsFrom_below HB2.out, keepC_below HB2.out (by omega) (by omega) (by omega), e1, e2, eE, by rw [HAL.out, HSE.out], hw2⟩
        | false =>
          gi_wp2
          have z9 := HZ9.out
          have z5 := HZ5.out
          exact ⟨keepsFrom_set (keepsFrom_below HB2.out) (by omega) _, rfl, eE.set _, by rw [HAL.out, HSE.out], hw2.setCell (by show w.heap.size ≤ w.heap.size + 1 + 1; omega) _⟩
    case done =>
      rintro D xs W hD hS ⟨_, _, hc, hnm, hbw⟩ hK
      have HS := Lib.hid hS
      have HN := Lib.hid hnm
      clear hS hnm
      have hcell := hc.cell
      have hfz := hc.frozen
      gi_wp2
      have z9 := HZ9.out
      have z5 := HZ5.out
      refine ⟨by simp, .inl ⟨_, _, rfl, run_takeDeferred ((KeepsOthers.setCell _ _ _).same D _ hK rfl), ?_⟩⟩
      have hcb := (boxed_put (hc.set (.bool true)) (show w.heap.size + 1 + 1 ≠ D by omega) (.deferred none)).cell
      refine ⟨.bool true, by simp [results, Try.f32, go_sem, hcb], by rw [HV.out, ← HS.out, HN.out], below_put (hbw.setCell (p := ⟨w.heap.size + 1 + 1, 0, none⟩) (by show w.heap.size ≤ w.heap.size + 1 + 1; omega) _) (by omega) _⟩
    case stop =>
      rintro D c pre W hD hSp ⟨rfl, hc, hnm, hbw⟩ hK
      have HS := Lib.hid hSp
      have HN := Lib.hid hnm
      clear hSp hnm
      have hcell := hc.cell
      gi_wp2
      have z9 := HZ9.out
      have z5 := HZ5.out
      refine ⟨by simp, .inl ⟨_, _, rfl, run_takeDeferred hK, ?_⟩⟩
      have hcb := (boxed_put hc (show w.heap.size + 1 + 1 ≠ D by omega) (.deferred none)).cell
      refine ⟨.bool false, by simp [results, Try.f32, go_sem, hcb], ?_, below_put hbw (by omega) _⟩
      rw [HV.out]
      obtain ⟨t, ht⟩ := HS.out
      rw [← ht, List.all_append, HN.out]
      rfl
end Go.Proofs.Ytgliiknfmlmddaa
namespace Go.Proofs.Ytgliiknfmlmddaa
open Go.RowKit

theorem afn_spc {P : Program} {f : FuncId} {s : Spc} {xs : List AV} {us : List Value} {z : Value} {R : AV} (hx : ∀ (G : Gh) (w : World) (vs : List Value), repL G w xs vs → vs = us) (hR : ∀ (G : Gh) (w : World), rep G w R z)
    (h : ∀ (w : World) (ds ms : Value), SpcIn s w.heap.size w ds ms → Calls P f (.agg #[ds, ms] :: us).toArray w fun e w' => e = .returned z ∧ Below w.heap.size w w') : AFn P f (.agg (spcA s) :: xs) (fun r => r = R) := by
  intro w St bl vs hr hv
  simp only [repL] at hv
  obtain ⟨z0, zs, rfl, h1, h2⟩ := hv
  obtain rfl := hx _ _ _ h2
  simp only [rep, spcA, repL] at h1
  obtain ⟨ys, rfl, ds, _, rfl, h3, ms, _, rfl, h4, rfl⟩ := h1
  have hs : SpcIn s w.heap.size w ds ms := by
    refine ⟨Nat.le_refl _, ?_⟩
    refine froL_mono (St := St) (fun b o hb => ⟨hr.stlt b o hb, rfl⟩) _ _ ?_
    simp only [spcA, froL]
    exact ⟨_, _, rfl, h3, _, _, rfl, h4, rfl⟩
  refine (h w ds ms hs).mono ?_
  rintro e w' ⟨rfl, hb⟩
  obtain ⟨k1, k2⟩ := hr.below hb
  exact ⟨_, _, _, _, ⟨rfl, rfl, rfl⟩, k1, k2, hR _ _⟩
theorem repL_fil {G : Gh} {w : World} {a : Fil} {vs : List Value} (h : repL G w [.agg (filA a)] vs) : vs = [FilV a] := by
  simp only [repL, rep, filA] at h
  obtain ⟨_, _, rfl, ⟨_, rfl, _, _, rfl, rfl, _, _, rfl, rfl, rfl⟩, rfl⟩ := h
  rfl
structure SpcN (s : Spc) : Prop where
  b : SpcB s
  nm : ∀ x, (nmoL s x).size ≤ 100
  most : mostL s.files ≤ 5000
section
variable {s : Spc} (hs : SpcN s)
include hs
theorem Pwhere (a : Fil) : AFn Try.prog 23 [.agg (spcA s), .agg (filA a)] (fun r => r = .tup [.v (.string (whereP s a).1), .v (.bool (whereP s a).2)]) :=
  afn_spc (us := [FilV a]) (z := .tuple #[.string (whereP s a).1, .bool (whereP s a).2]) (fun _ _ _ h => repL_fil h) (fun G w => by simp only [rep, repL]; exact ⟨[_, _], rfl, _, _, rfl, rfl, _, _, rfl, rfl, rfl⟩)
    fun w ds ms h => callsIn_wide.1 (where_o 4 (Lib.hid (Nat.le_refl _)) s hs.b hs.nm hs.most a ds ms w h)
theorem Pvisible (a : Fil) : AFn Try.prog 32 [.agg (spcA s), .agg (filA a)] (fun r => r = .v (.bool (visP s a))) :=
  afn_spc (us := [FilV a]) (z := .bool (visP s a)) (fun _ _ _ h => repL_fil h) (fun G w => by simp only [rep])
    fun w ds ms h => callsIn_wide.1 (visible_o 4 (Lib.hid (Nat.le_refl _)) s hs.b hs.nm hs.most a ds ms w h)
end
theorem mem_nodG {f : Fls} {a : Fil} (h : hasG f a = true) : ∃ d ∈ f, nodG f a ∈ d.nodes := by
  obtain ⟨q, i, d, m, _, h2, h3, _, _, h6⟩ := at_ok h
  exact ⟨d, List.mem_of_getElem? h2, by rw [h6]; exact List.mem_of_getElem? h3⟩
theorem nameL_size {x : Str} (h : nameL x = true) : x.size ≤ 12 := by
  rw [name_eq] at h
  by_cases hc : x.size < 1 ∨ 12 < x.size
  · rw [if_pos hc] at h; cases h
  · omega
theorem nmo_size {s : Spc} (h : FlsV s.files) (x : Fil) : (nmoL s x).size ≤ 12 := by
  unfold nmoL
  cases hf : (abvL s x).entries.find? fun e : Ent => decide (e.2 = x.2) with
  | none => exact Nat.zero_le _
  | some e =>
    have hm := List.mem_of_find?_eq_some hf
    unfold abvL at hm
    by_cases hh : hasG s.files (x.1, (nodG s.files x).parent) = true
    · obtain ⟨d, hd, hn⟩ := mem_nodG hh
      exact nameL_size ((h.vd d hd).ent _ hn e hm).1
    · have : nodG s.files (x.1, (nodG s.files x).parent) = Nod.zero := by
        unfold hasG at hh
        cases hq : nodeL s.files (x.1, (nodG s.files x).parent) with
        | none => show (nodeL s.files (x.1, (nodG s.files x).parent)).getD Nod.zero = Nod.zero; rw [hq]; rfl
        | some m => rw [hq] at hh; exact absurd rfl hh
      rw [this] at hm
      cases hm
theorem most_le {f : Fls} (h : FlsV f) : mostL f ≤ 48 := by
  have : ∀ (l : Fls), (∀ d ∈ l, d.nodes.length ≤ 16) → mostL l ≤ l.length * 16 := by
    intro l
    induction l with
    | nil => intro _; simp [mostL]
    | cons d l ih =>
      intro h
      have h1 := ih fun d hd => h d (List.mem_cons_of_mem _ hd)
      have h2 := h d (List.mem_cons_self ..)
      simp only [mostL, List.map_cons, List.sum_cons, List.length_cons] at h1 ⊢
      omega
  have h1 := this f fun d hd => (h.vd d hd).len
  have h2 := h.few
  omega
def awNod : Nod := ⟨0, 2, 493, 0, 0, 0, ⟨#[]⟩, []⟩
def awF : Fls := (mkL (newL 2).1 (0, 1) ⟨#[97]⟩ awNod).1
def awS : Spc := ⟨awF, [(1, (0, 2))]⟩
theorem aw_make : mkL (newL 2).1 (0, 1) ⟨#[97]⟩ awNod = (awF, [((0, 1), ⟨#[97]⟩, (0, 0), (0, 2))], 0) := by kernel_rfl
theorem aw_add : addL ⟨awF, []⟩ 1 (0, 2) = (awS, 0) := by kernel_rfl
theorem aw_where : whereP awS (1, 1) = (⟨#[47, 97]⟩, true) := by kernel_rfl
theorem aw_cov : (covL awS (0, 2)).isSome = true := by kernel_rfl
theorem aw_vis : visP awS (0, 2) = false := by kernel_rfl
end Go.Proofs.Ytgliiknfmlmddaa
namespace Go.Proofs.Ytgliiknfmlmddaa
open Go.RowKit

section
set_option maxRecDepth 10000
set_option maxHeartbeats 1000000
theorem aw_fv : FlsV awF := by
  have h := (make_okay (new_valid (k := 2) (by omega) (by omega)).1 (0, 1) ⟨#[97]⟩ awNod)
  unfold Okay at h
  rw [aw_make] at h
  exact (h rfl).1
theorem aw_n : SpcN awS := ⟨⟨aw_fv.b, by decide⟩, fun x => by have := nmo_size (s := awS) aw_fv x; omega, by have := most_le aw_fv; exact Nat.le_trans this (by decide)⟩
theorem aw_le : LeA (.agg [.sl 2 (awF.map dvcA) none, .v (.slice none 0 0)]) (.agg (spcA ⟨awF, []⟩)) := LeA.agg (LeL.cons (LeA.refl _) (LeL.cons (LeA.nil _) LeL.nil))
theorem Lawake : AFn Try.prog 19 [] (fun r => r = .v (.bool true)) := by
  have hnew : AFn Try.prog 50 [.v (.int .i64 2)] (fun r => r = .tup [.agg (flsA (newL 2).1), .v (.int .i64 0)]) := Rnew 2
  have hmk : AFn Try.prog 51 [.agg (flsA (newL 2).1), .agg [.v (.int .i64 0), .v (.int .i64 1)], .v (.string ⟨#[97]⟩), .agg (nodA awNod)] (fun r => r = .tup [.agg (flsA awF), .sl 7 [chgA ((0, 1), ⟨#[97]⟩, (0, 0), (0, 2))] none, .v (.int .i64 0)]) :=
    (Rmake (newL 2).1 (0, 1) ⟨#[97]⟩ awNod (new_valid (k := 2) (by omega) (by omega)).1 (by decide) (by decide)).mono fun r hr => by rw [hr, aw_make]; rfl
  have had : AFn Try.prog 15 [.agg (spcA ⟨awF, []⟩), .v (.int .i64 1), .agg (filA (0, 2))] (fun r => r = .tup [.agg (spcA awS), .v (.int .i64 0)]) :=
    (Padd ⟨awF, []⟩ 1 (0, 2) ⟨aw_fv.b, by decide⟩ aw_fv.ne).mono fun r hr => by rw [hr, aw_add]; rfl
  have hwh : AFn Try.prog 23 [.agg (spcA awS), .agg (filA (1, 1))] (fun r => r = .tup [.v (.string ⟨#[47, 97]⟩), .v (.bool true)]) :=
    (Pwhere aw_n (1, 1)).mono fun r hr => by rw [hr, aw_where]
  have hcv : AFn Try.prog 26 [.agg (spcA awS), .agg (filA (0, 2))] (fun r => r = .v (.bool true)) :=
    (Pcovered awS (0, 2) aw_n.b).mono fun r hr => by rw [hr, aw_cov]
  have hvs : AFn Try.prog 32 [.agg (spcA awS), .agg (filA (0, 2))] (fun r => r = .v (.bool false)) :=
    (Pvisible aw_n (0, 2)).mono fun r hr => by rw [hr, aw_vis]
  refine enter Try.func19 rfl rfl rfl rfl rfl 0 rfl ?_
  refine w_ (a_ (h:=e_ (w_ (?_))))
  refine al_p rfl (q_call (hnew) ?_)
  rintro r rfl
  refine m_ (h:=x_ (h:=x_ (h:=al_ (h:=s_ (h:=a_ (h:=e_ (w_ (l_ (h:=bd_ (h:=?_))))))))))
  refine al_p rfl (st_le (y := .agg (nodA awNod)) (st_build (by repeat (first | exact FillA.nil _ | (apply FillA.cons; (focus exact rfl); (focus exact rfl); (focus exact rfl); (focus exact rfl); (focus exact rfl); (focus (repeat constructor))))) ⟨rfl, rfl⟩) (by repeat (first | exact LeA.refl _ | exact LeA.nil _ | exact LeL.refl _ | refine LeA.agg ?_ | refine LeA.tup ?_ | exact LeL.nil | refine LeL.cons ?_ ?_ | exact LeA.any _)) ?_)
  refine al_p rfl (q_call (hmk) ?_)
  rintro r rfl
  refine m_ (h:=x_ (h:=x_ (h:=x_ (h:=s_ (h:=a_ (h:=a_ (h:=e_ (q_ (yk_ ([(0, flsA awF)]) 13 (h:=?_))))))))))
  first | refine dl_ 0 (h:=?_) | refine tk_ 0 rfl (fun _ hS => st_loadF rfl rfl ⟨rfl, rfl⟩) ?_
  refine tk_ 1 rfl (fun _ hS => st_le (y := .agg (spcA ⟨awF, []⟩)) (st_build (by repeat (first | exact FillA.nil _ | (apply FillA.cons; (focus exact rfl); (focus exact rfl); (focus exact rfl); (focus exact rfl); (focus exact rfl); (focus (repeat constructor))))) ⟨rfl, rfl⟩) aw_le ⟨rfl, rfl⟩) ?_
  refine dm_ 2 (h:=di_ 3 (h:=df_ 4 (h:=?_)))
  first | refine dl_ 5 (h:=?_) | refine tk_ 5 rfl (fun _ hS => st_loadF rfl rfl ⟨rfl, rfl⟩) ?_
  refine c2_ 6 10 rfl rfl ?_ ?_
  · refine q_call (had) ?_
    rintro r rfl
    refine o_ (h:=?_)
    refine dm_ 7 (h:=dx_ 8 (h:=dx_ 9 (h:=?_)))
    refine c_ 10 rfl (s_alloc (by repeat constructor) ?_)
    refine o_ (h:=?_)
    refine c0_ 11 rfl (s_store rfl rfl rfl rfl rfl rfl (by repeat constructor) (by repeat constructor) ?_)
    refine o_ (h:=da_ 12 (h:=z_ (h:=t_ (w_ (l_ (h:=bd_ (h:=?_)))))))
    refine al_p rfl (q_call (hwh) ?_)
    rintro r rfl
    refine m_ (h:=x_ (h:=x_ (h:=a_ (h:=a_ (h:=e_ (q_ (yr_ 27 (h:=dm_ 0 (h:=deq_ 1 (h:=dm_ 2 (h:=?_)))))))))))
    refine aa_both (j := 2) rfl (fun hb1 => ?_) (fun hb1 => ?_)
    · have hc1 := bp hb1
      refine dm_ 3 (h:=dpt_ 4 (h:=dm_ 5 (h:=?_)))
      refine aa_both (j := 5) rfl (fun hb2 => ?_) (fun hb2 => ?_)
      · have hc2 := bp hb2
        refine dm_ 6 (h:=deq_ 7 (h:=dpt_ 8 (h:=dm_ 9 (h:=?_))))
        refine aa_both (j := 9) rfl (fun hb3 => ?_) (fun hb3 => ?_)
        · have hc3 := bp hb3
          refine dl_ 10 (h:=dm_ 11 (h:=di_ 12 (h:=df_ 13 (h:=dl_ 14 (h:=?_)))))
          refine c_ 15 rfl (q_call (hcv) ?_)
          rintro r rfl
          refine o_ (h:=dpt_ 16 (h:=dm_ 17 (h:=?_)))
          refine aa_both (j := 17) rfl (fun hb4 => ?_) (fun hb4 => ?_)
          · have hc4 := bp hb4
            refine dl_ 18 (h:=dm_ 19 (h:=di_ 20 (h:=df_ 21 (h:=dl_ 22 (h:=?_)))))
            refine c_ 23 rfl (q_call (hvs) ?_)
            rintro r rfl
            refine o_ (h:=dnt_ 24 (h:=dpt_ 25 (h:=da_ 26 (h:=z_ (h:=t_ (aw_ret (?_)))))))
            refine e_ret ?_
            first | rfl | (exfalso; simp_all)
          · have hc4 := bp hb4
            refine d0_ 18 (h:=d0_ 19 (h:=d0_ 20 (h:=d0_ 21 (h:=d0_ 22 (h:=d0_ 23 (h:=d0_ 24 (h:=dpf_ 25 (h:=da_ 26 (h:=z_ (h:=t_ (aw_ret (?_))))))))))))
            refine e_ret ?_
            first | rfl | (exfalso; simp_all)
        · have hc3 := bp hb3
          refine d0_ 10 (h:=d0_ 11 (h:=d0_ 12 (h:=d0_ 13 (h:=d0_ 14 (h:=d0_ 15 (h:=dpf_ 16 (h:=dm_ 17 (h:=d0_ 18 (h:=d0_ 19 (h:=d0_ 20 (h:=d0_ 21 (h:=d0_ 22 (h:=d0_ 23 (h:=d0_ 24 (h:=dpf_ 25 (h:=da_ 26 (h:=z_ (h:=t_ (aw_ret (?_))))))))))))))))))))
          refine e_ret ?_
          first | rfl | (exfalso; simp_all)
      · have hc2 := bp hb2
        refine d0_ 6 (h:=d0_ 7 (h:=dpf_ 8 (h:=dm_ 9 (h:=d0_ 10 (h:=d0_ 11 (h:=d0_ 12 (h:=d0_ 13 (h:=d0_ 14 (h:=d0_ 15 (h:=dpf_ 16 (h:=dm_ 17 (h:=d0_ 18 (h:=d0_ 19 (h:=d0_ 20 (h:=d0_ 21 (h:=d0_ 22 (h:=d0_ 23 (h:=d0_ 24 (h:=dpf_ 25 (h:=da_ 26 (h:=z_ (h:=t_ (aw_ret (?_))))))))))))))))))))))))
        refine e_ret ?_
        first | rfl | (exfalso; simp_all)
    · have hc1 := bp hb1
      refine d0_ 3 (h:=dpf_ 4 (h:=dm_ 5 (h:=d0_ 6 (h:=d0_ 7 (h:=dpf_ 8 (h:=dm_ 9 (h:=d0_ 10 (h:=d0_ 11 (h:=d0_ 12 (h:=d0_ 13 (h:=d0_ 14 (h:=d0_ 15 (h:=dpf_ 16 (h:=dm_ 17 (h:=d0_ 18 (h:=d0_ 19 (h:=d0_ 20 (h:=d0_ 21 (h:=d0_ 22 (h:=d0_ 23 (h:=d0_ 24 (h:=dpf_ 25 (h:=da_ 26 (h:=?_))))))))))))))))))))))))
      refine z_ (h:=t_ (aw_ret (?_)))
      refine e_ret ?_
      first | rfl | (exfalso; simp_all)
  · refine s_alloc (by repeat constructor) ?_
    refine o_ (h:=?_)
    refine c_ 6 rfl (q_call (had) ?_)
    rintro r rfl
    refine o_ (h:=dm_ 7 (h:=dx_ 8 (h:=dx_ 9 (h:=?_))))
    refine c0_ 11 rfl (s_store rfl rfl rfl rfl rfl rfl (by repeat constructor) (by repeat constructor) ?_)
    refine o_ (h:=da_ 12 (h:=z_ (h:=t_ (w_ (l_ (h:=bd_ (h:=?_)))))))
    refine al_p rfl (q_call (hwh) ?_)
    rintro r rfl
    refine m_ (h:=x_ (h:=x_ (h:=a_ (h:=a_ (h:=e_ (q_ (yr_ 27 (h:=dm_ 0 (h:=deq_ 1 (h:=dm_ 2 (h:=?_)))))))))))
    refine aa_both (j := 2) rfl (fun hb5 => ?_) (fun hb5 => ?_)
    · have hc5 := bp hb5
      refine dm_ 3 (h:=dpt_ 4 (h:=dm_ 5 (h:=?_)))
      refine aa_both (j := 5) rfl (fun hb6 => ?_) (fun hb6 => ?_)
      · have hc6 := bp hb6
        refine dm_ 6 (h:=deq_ 7 (h:=dpt_ 8 (h:=dm_ 9 (h:=?_))))
        refine aa_both (j := 9) rfl (fun hb7 => ?_) (fun hb7 => ?_)
        · have hc7 := bp hb7
          refine dl_ 10 (h:=dm_ 11 (h:=di_ 12 (h:=df_ 13 (h:=dl_ 14 (h:=?_)))))
          refine c_ 15 rfl (q_call (hcv) ?_)
          rintro r rfl
          refine o_ (h:=dpt_ 16 (h:=dm_ 17 (h:=?_)))
          refine aa_both (j := 17) rfl (fun hb8 => ?_) (fun hb8 => ?_)
          · have hc8 := bp hb8
            refine dl_ 18 (h:=dm_ 19 (h:=di_ 20 (h:=df_ 21 (h:=dl_ 22 (h:=?_)))))
            refine c_ 23 rfl (q_call (hvs) ?_)
            rintro r rfl
            refine o_ (h:=dnt_ 24 (h:=dpt_ 25 (h:=da_ 26 (h:=z_ (h:=t_ (aw_ret (?_)))))))
            refine e_ret ?_
            first | rfl | (exfalso; simp_all)
          · have hc8 := bp hb8
            refine d0_ 18 (h:=d0_ 19 (h:=d0_ 20 (h:=d0_ 21 (h:=d0_ 22 (h:=d0_ 23 (h:=d0_ 24 (h:=dpf_ 25 (h:=da_ 26 (h:=z_ (h:=t_ (aw_ret (?_))))))))))))
            refine e_ret ?_
            first | rfl | (exfalso; simp_all)
        · have hc7 := bp hb7
          refine d0_ 10 (h:=d0_ 11 (h:=d0_ 12 (h:=d0_ 13 (h:=d0_ 14 (h:=d0_ 15 (h:=dpf_ 16 (h:=dm_ 17 (h:=d0_ 18 (h:=d0_ 19 (h:=d0_ 20 (h:=d0_ 21 (h:=d0_ 22 (h:=d0_ 23 (h:=d0_ 24 (h:=dpf_ 25 (h:=da_ 26 (h:=z_ (h:=t_ (aw_ret (?_))))))))))))))))))))
          refine e_ret ?_
          first | rfl | (exfalso; simp_all)
      · have hc6 := bp hb6
        refine d0_ 6 (h:=d0_ 7 (h:=dpf_ 8 (h:=dm_ 9 (h:=d0_ 10 (h:=d0_ 11 (h:=d0_ 12 (h:=d0_ 13 (h:=d0_ 14 (h:=d0_ 15 (h:=dpf_ 16 (h:=dm_ 17 (h:=d0_ 18 (h:=d0_ 19 (h:=d0_ 20 (h:=d0_ 21 (h:=d0_ 22 (h:=d0_ 23 (h:=d0_ 24 (h:=dpf_ 25 (h:=da_ 26 (h:=z_ (h:=t_ (aw_ret (?_))))))))))))))))))))))))
        refine e_ret ?_
        first | rfl | (exfalso; simp_all)
    · have hc5 := bp hb5
      refine d0_ 3 (h:=dpf_ 4 (h:=dm_ 5 (h:=d0_ 6 (h:=d0_ 7 (h:=dpf_ 8 (h:=dm_ 9 (h:=d0_ 10 (h:=d0_ 11 (h:=d0_ 12 (h:=d0_ 13 (h:=d0_ 14 (h:=d0_ 15 (h:=dpf_ 16 (h:=dm_ 17 (h:=d0_ 18 (h:=d0_ 19 (h:=d0_ 20 (h:=d0_ 21 (h:=d0_ 22 (h:=d0_ 23 (h:=d0_ 24 (h:=dpf_ 25 (h:=da_ 26 (h:=?_))))))))))))))))))))))))
      refine z_ (h:=t_ (aw_ret (?_)))
      refine e_ret ?_
      first | rfl | (exfalso; simp_all)

end
end Go.Proofs.Ytgliiknfmlmddaa
namespace Go.Proofs.Ytgliiknfmlmddaa
open Go.RowKit

def StAll (w : World) : Nat → Nat → Prop := fun b _ => b < w.heap.size
def Opens (P : Program) (t : TypeId) (R : List AV → Prop) : Prop :=
  ∀ (H : Type) (enc : TypeId × Value → H) (w : World) (base : Nat) (spare : Nat → Bool) (held : Bool) (fuel : Nat) (cs : List Value) (x : DataW H × List MemPlace), DataW.trod enc P w base spare held fuel t cs = some x →
    ∃ row, R row ∧ froL (StAll w) w row cs ∧ ∀ u ∈ cs, u.oneCell' = true
section
variable {P : Program} {t : TypeId}
theorem Opens.mono {R R' : List AV → Prop} (h : Opens P t R) (hR : ∀ r, R r → R' r) : Opens P t R' := by
  intro H enc w base spare held fuel cs x hx
  obtain ⟨row, h1, h2⟩ := h H enc w base spare held fuel cs x hx
  exact ⟨row, hR _ h1, h2⟩
theorem opens_int {k : IntKind} (ht : P.underlying t = some (.int k)) : Opens P t fun r => ∃ n, r = [.v (.int k n)] ∧ (Lit.int k n).wf = true := by
  intro H enc w base spare held fuel cs x hx
  obtain ⟨b, rfl, _, hw⟩ := DataW.trod_int ht hx
  exact ⟨_, ⟨b, rfl, hw⟩, ⟨_, _, rfl, by simp only [fro], by simp only [froL]⟩, by simp [Value.oneCell']⟩
theorem froL_app {St : Nat → Nat → Prop} {w : World} : ∀ {xs ys : List AV} {us vs : List Value}, froL St w xs us → froL St w ys vs → froL St w (xs ++ ys) (us ++ vs)
  | [], _, _, _, h, k => by simp only [froL] at h; subst h; simpa using k
  | x :: xs, _, _, _, h, k => by
    simp only [froL] at h
    obtain ⟨z, zs, rfl, h1, h2⟩ := h
    simp only [List.cons_append, froL]
    exact ⟨z, _, rfl, h1, froL_app h2 k⟩
def CatR : List (List AV → Prop) → List AV → Prop
  | [], row => row = []
  | R :: Rs, row => ∃ a b, R a ∧ CatR Rs b ∧ row = a ++ b
inductive OpenF (P : Program) : Nat → List Field → List (List AV → Prop) → Nat → Prop
  | nil (n : Nat) : OpenF P n [] [] n
  | cons (off n m : Nat) (f : Field) (fs : List Field) (R : List AV → Prop) (Rs : List (List AV → Prop)) : f.offset = off → P.cellsOf f.type = n → Opens P f.type R → OpenF P (off + n) fs Rs m → OpenF P off (f :: fs) (R :: Rs) m
theorem OpenF.run {H : Type} {enc : TypeId × Value → H} {w : World} {base : Nat} {spare : Nat → Bool} {held : Bool} {fuel : Nat} {off m : Nat} {fs : List Field} {Rs : List (List AV → Prop)} (h : OpenF P off fs Rs m) :
    ∀ (cs : List Value), cs.length = m → (∀ f ∈ fs, ∃ y, DataW.trod enc P w base spare held fuel f.type ((cs.drop f.offset).take (P.cellsOf f.type)) = some y) → ∃ row, CatR Rs row ∧ froL (StAll w) w row (cs.drop off) ∧ ∀ u ∈ cs.drop off, u.oneCell' = true := by
  induction h with
  | nil n =>
    intro cs hl _
    have e : cs.drop n = [] := List.drop_eq_nil_of_le (by omega)
    exact ⟨[], rfl, by rw [e]; simp only [froL], by rw [e]; simp⟩
  | cons off n m f fs R Rs h1 h2 h3 _ ih =>
    intro cs hl hf
    obtain ⟨row, k1, k2, k3⟩ := ih cs hl (fun g hg => hf g (by simp [hg]))
    obtain ⟨y, hy⟩ := hf f (by simp)
    obtain ⟨a, a1, a2, a3⟩ := h3 _ _ _ _ _ _ _ _ _ hy
    rw [h1, h2] at a2 a3
    have e : cs.drop off = (cs.drop off).take n ++ cs.drop (off + n) := by rw [← List.drop_drop]; exact (List.take_append_drop n _).symm
    refine ⟨a ++ row, ⟨a, row, a1, k1, rfl⟩, ?_, ?_⟩
    · rw [e]; exact froL_app a2 k2
    · rw [e]
      intro u hu
      rcases List.mem_append.1 hu with hu | hu
      · exact a3 u hu
      · exact k3 u hu
theorem opens_struct {l : List Field} {Rs : List (List AV → Prop)} (ht : P.underlying t = some (.struct l.toArray)) (h : OpenF P 0 l Rs (P.cellsOf t)) : Opens P t (CatR Rs) := by
  intro H enc w base spare held fuel cs x hx
  obtain ⟨xs, n, rfl, _, hl, hxs, hf⟩ := DataW.trod_struct ht hx
  obtain ⟨row, k1, k2, k3⟩ := h.run (enc := enc) (w := w) (base := base) (spare := spare) (held := held) (fuel := n) cs hl (fun f hm => by
    obtain ⟨i, hi⟩ := List.getElem?_of_mem hm
    have h1 := hf i f (by simpa using hi)
    have hlt : i < xs.length := by rw [hxs]; simpa using (List.getElem?_eq_some_iff.1 hi).1
    exact ⟨xs[i], by rw [h1, List.getElem?_eq_getElem hlt]⟩)
  exact ⟨row, k1, by simpa using k2, by simpa using k3⟩
def structOf (P : Program) (t : TypeId) : Option (List (Nat × Nat × Nat) × Nat) :=
  match P.underlying t with
  | some (.struct fs) => some (fs.toList.map (fun f => (f.offset, f.type, P.cellsOf f.type)), P.cellsOf t)
  | _ => none
inductive OpenL (P : Program) : Nat → List (Nat × Nat × Nat) → List (List AV → Prop) → Nat → Prop
  | nil (n : Nat) : OpenL P n [] [] n
  | cons (off n m T : Nat) (l : List (Nat × Nat × Nat)) (R : List AV → Prop) (Rs : List (List AV → Prop)) : Opens P T R → OpenL P (off + n) l Rs m → OpenL P off ((off, T, n) :: l) (R :: Rs) m
theorem OpenL.fields {off m : Nat} {l : List (Nat × Nat × Nat)} {Rs : List (List AV → Prop)} (h : OpenL P off l Rs m) : ∀ fs : List Field, fs.map (fun f => (f.offset, f.type, P.cellsOf f.type)) = l → OpenF P off fs Rs m := by
  induction h with
  | nil n => intro fs e; rw [List.map_eq_nil_iff.1 e]; exact .nil n
  | cons off n m T l R Rs h1 _ ih =>
    intro fs e
    cases fs with
    | nil => cases e
    | cons f fs =>
      simp only [List.map_cons, List.cons.injEq, Prod.mk.injEq] at e
      obtain ⟨⟨e1, e2, e3⟩, e4⟩ := e
      subst e2
      exact .cons off n m f fs R Rs e1 e3 h1 (ih fs e4)
theorem opens_fields {l : List (Nat × Nat × Nat)} {n : Nat} {Rs : List (List AV → Prop)} (ht : structOf P t = some (l, n)) (h : OpenL P 0 l Rs n) : Opens P t (CatR Rs) := by
  unfold structOf at ht
  split at ht
  · rename_i fs hu
    simp only [Option.some.injEq, Prod.mk.injEq] at ht
    obtain ⟨e1, e2⟩ := ht
    subst e2
    exact opens_struct (l := fs.toList) (by simpa using hu) (h.fields _ e1)
  · cases ht
theorem cell_lt' {w : World} {b o : Nat} {v : Value} (h : w.cell? ⟨b, o, none⟩ = some v) : b < w.heap.size := by
  rcases Nat.lt_or_ge b w.heap.size with hlt | hge
  · exact hlt
  · simp [World.cell?, Array.getElem?_eq_none hge] at h
theorem froL_length' {St : Nat → Nat → Prop} {w : World} {xs : List AV} {ys : List Value} (h : froL St w xs ys) : ys.length = xs.length := repL_length (G := ⟨St, [], []⟩) (repL_fro (G := ⟨St, [], []⟩) _ _ h)
theorem opens_slice {e : TypeId} {n : Nat} {R : List AV → Prop} (ht : P.underlying t = some (.slice e)) (hc : P.cellsOf e = n) (hn : 0 < n) (h : Opens P e R) : Opens P t fun r => ∃ rows, r = [.sl n rows none] ∧ rows.length ≤ maxLen ∧ ∀ x ∈ rows, R x := by
  intro H enc w base spare held fuel cs x hx
  rcases DataW.trod_slice ht hx with ⟨rfl, _⟩ | ⟨⟨b, off, spot⟩, len, cap, elems, rest, m, rfl, rfl, _, hb, hl, hm, hlen, hel, _, _⟩
  · exact ⟨_, ⟨[], rfl, Nat.zero_le _, by simp⟩, ⟨_, _, rfl, by simp only [fro]; exact ⟨trivial, none, 0, rfl, Nat.le_refl _, Nat.zero_le _, .inl trivial⟩, by simp only [froL]⟩, by simp [Value.oneCell']⟩
  · have each : ∀ i, i < len → ∃ row cs', R row ∧ row.length = n ∧ froL (StAll w) w row cs' ∧ (∀ u ∈ cs', u.oneCell' = true) ∧ cs'.length = n ∧ ∀ j, j < n → w.cell? (Addr.add ⟨b, off, spot⟩ (i * n + j)) = cs'[j]? := by
      intro i hi
      have h1 := hel i hi
      rw [hc, List.getElem?_eq_getElem (by omega), Option.bind_eq_some_iff] at h1
      obtain ⟨cs', h2, h3⟩ := h1
      obtain ⟨row, r1, r2, r3⟩ := h _ _ _ _ _ _ _ _ _ h3
      obtain ⟨_, c1, c2⟩ := World.cells?_some h2
      refine ⟨row, cs', r1, by rw [← froL_length' r2, c1], r2, r3, c1, fun j hj => ?_⟩
      have := c2 j hj
      rwa [Addr.add_add] at this
    have hrows : ∃ rows : List (List AV), rows.length = len ∧ (∀ i, i < len → ∃ row cs', rows[i]? = some row ∧ R row ∧ row.length = n ∧ froL (StAll w) w row cs' ∧ (∀ u ∈ cs', u.oneCell' = true) ∧ cs'.length = n ∧ ∀ j, j < n → w.cell? (Addr.add ⟨b, off, spot⟩ (i * n + j)) = cs'[j]?) := by
      clear hel
      have : ∀ k, k ≤ len → ∃ rows : List (List AV), rows.length = k ∧ (∀ i, i < k → ∃ row cs', rows[i]? = some row ∧ R row ∧ row.length = n ∧ froL (StAll w) w row cs' ∧ (∀ u ∈ cs', u.oneCell' = true) ∧ cs'.length = n ∧ ∀ j, j < n → w.cell? (Addr.add ⟨b, off, spot⟩ (i * n + j)) = cs'[j]?) := by
        intro k
        induction k with
        | zero => intro _; exact ⟨[], rfl, fun i hi => by omega⟩
        | succ k ih =>
          intro hk
          obtain ⟨rows, e1, e2⟩ := ih (by omega)
          obtain ⟨row, cs', q⟩ := each k (by omega)
          refine ⟨rows ++ [row], by simp [e1], fun i hi => ?_⟩
          rcases Nat.lt_or_ge i k with hlt | hge
          · obtain ⟨row', cs'', q1, q2⟩ := e2 i hlt
            exact ⟨row', cs'', by rw [List.getElem?_append_left (by omega)]; exact q1, q2⟩
          · obtain rfl : i = k := by omega
            exact ⟨row, cs', by rw [List.getElem?_append_right (by omega), e1]; simp, q⟩
      exact this len (Nat.le_refl _)
    obtain ⟨rows, e1, e2⟩ := hrows
    refine ⟨_, ⟨rows, rfl, by omega, fun x hx => ?_⟩, ⟨_, _, rfl, ?_, by simp only [froL]⟩, by simp [Value.oneCell']⟩
    · obtain ⟨i, hi⟩ := List.getElem?_of_mem hx
      obtain ⟨row, _, q1, q2, _⟩ := e2 i (by rw [← e1]; exact (List.getElem?_eq_some_iff.1 hi).1)
      rw [hi] at q1
      injection q1 with q1
      subst q1
      exact q2
    · simp only [fro]
      refine ⟨trivial, some ⟨b, off, spot⟩, cap, by rw [e1], by omega, hm, ?_⟩
      rcases Nat.eq_zero_or_pos len with h0 | h0
      · left; exact List.eq_nil_of_length_eq_zero (by omega)
      · right
        have hspot : spot = none := by
          obtain ⟨_, cs', _, _, _, _, _, c3, c4⟩ := e2 0 h0
          have := c4 0 hn
          rw [List.getElem?_eq_getElem (by omega)] at this
          simpa [Addr.add] using World.cell?_spot this
        subst hspot
        refine ⟨b, off, rfl, ?_⟩
        have : ∀ (rs : List (List AV)) (k : Nat), (∀ i r, rs[i]? = some r → rows[k + i]? = some r) → froR (StAll w) w b n rs (off + k * n) := by
          intro rs
          induction rs with
          | nil => intro k _; simp only [froR]
          | cons r rs ih =>
            intro k hk
            simp only [froR]
            have h1 := hk 0 r rfl
            rw [Nat.add_zero] at h1
            obtain ⟨row, cs', q1, _, q3, q4, q5, q6, q7⟩ := e2 k (by rw [← e1]; exact (List.getElem?_eq_some_iff.1 h1).1)
            rw [h1] at q1
            injection q1 with q1
            subst q1
            refine ⟨⟨q3, froC_of fun i x hi => ?_⟩, ?_⟩
            · obtain ⟨u, u1, u2⟩ := froL_get q4 hi
              have hin : i < n := by rw [← q3]; exact (List.getElem?_eq_some_iff.1 hi).1
              have hc := q7 i hin
              rw [u1] at hc
              have hc' : w.cell? ⟨b, off + k * n + i, none⟩ = some u := by rw [Addr.add_mid] at hc; rwa [Nat.add_assoc]
              exact ⟨cell_lt' hc', u, hc', q5 u (List.mem_of_getElem? u1), u2⟩
            · have := ih (k + 1) (fun i r' hi => by
                have := hk (i + 1) r' (by simpa using hi)
                rwa [show k + 1 + i = k + (i + 1) by omega])
              rwa [show off + (k + 1) * n = off + k * n + n by rw [Nat.add_mul]; omega] at this
        simpa using this rows 0 (fun i r hi => by simpa using hi)
theorem rows_map {α : Type} {enc : α → List AV} {Q : α → Prop} : ∀ {rows : List (List AV)}, (∀ x ∈ rows, ∃ a, x = enc a ∧ Q a) → ∃ l : List α, rows = l.map enc ∧ ∀ a ∈ l, Q a
  | [], _ => ⟨[], rfl, by simp⟩
  | r :: rs, h => by
    obtain ⟨a, rfl, ha⟩ := h r (by simp)
    obtain ⟨l, rfl, hl⟩ := rows_map (rows := rs) fun x hx => h x (by simp [hx])
    exact ⟨a :: l, rfl, by simpa using ⟨ha, hl⟩⟩
theorem Opens.one {R : List AV → Prop} (h : Opens P t R) {H : Type} {enc : TypeId × Value → H} {w : World} {base : Nat} {spare : Nat → Bool} {held : Bool} {v : Value} {d : DataW H} {ps : List MemPlace} (hv : v.cells = #[v]) (hd : DataW.Trod enc P w base spare held t v d ps) :
    ∃ row, R row ∧ froL (StAll w) w row [v] := by
  obtain ⟨fuel, hf⟩ := hd
  rw [hv] at hf
  obtain ⟨row, h1, h2, _⟩ := h _ _ _ _ _ _ _ _ _ hf
  exact ⟨row, h1, h2⟩
end
end Go.Proofs.Ytgliiknfmlmddaa
namespace Go.Proofs.Ytgliiknfmlmddaa
open Go.RowKit

theorem opInts : Opens Try.prog 22 (fun r => ∃ l : List Int, r = [.sl 1 (l.map intA) none]) :=
  (opens_slice (n := 1) Try.underlying22 (by kernel_rfl) (by omega) (opens_int Try.underlying3)).mono (by
    rintro r ⟨rows, rfl, _, hr⟩
    obtain ⟨l, rfl, _⟩ := rows_map (enc := intA) (Q := fun _ => True) (fun x hx => by obtain ⟨t, rfl, _⟩ := hr x hx; exact ⟨t, rfl, trivial⟩)
    exact ⟨l, rfl⟩)
theorem ints_one {H : Type} {enc : TypeId × Value → H} {sp : Nat → Bool} {held : Bool} {base : Nat} {w : World} {a : Option Addr} {n c : Nat} {d : DataW H} {p : List MemPlace} (h : DataW.Trod enc Try.prog w base sp held 22 (.slice a n c) d p) :
    ∃ l : List Int, rep ⟨StAll w, [], []⟩ w (.sl 1 (l.map intA) none) (.slice a n c) := by
  obtain ⟨r0, ⟨l, rfl⟩, k0⟩ := opInts.one rfl h
  simp only [froL] at k0
  obtain ⟨_, _, e0, k0, rfl⟩ := k0
  injection e0 with e0
  subst e0
  exact ⟨l, rep_fro (G := ⟨StAll w, [], []⟩) _ _ k0⟩
end Go.Proofs.Ytgliiknfmlmddaa
namespace Go.Proofs.Ytgliiknfmlmddaa

theorem FlsV.t {f : Fls} (h : FlsV f) : FlsT f := by
  refine ⟨h.b, fun d hd n hn e he => ?_, fun d hd n hn => ?_⟩
  · have := nameL_size ((h.vd d hd).ent n hn e he).1
    omega
  · have hp := (h.vd d hd).plain n hn
    unfold plainL at hp
    split at hp
    · cases hp
    · split at hp
      · unfold targetL at hp
        simp only [Bool.and_eq_true, decide_eq_true_eq] at hp
        omega
      · have e := str_eq n.target ⟨#[]⟩
        rw [show (⟨#[]⟩ : ByteArray).toList = [] by rw [ByteArray.toList_eq]] at e
        have : n.target.toList = [] := by simpa using hp
        rw [this] at e
        have e2 : n.target = ⟨#[]⟩ := of_decide_eq_true e.symm
        rw [e2]
        exact Nat.zero_le _
theorem countP_lt {α : Type} {p q : α → Bool} : ∀ {l : List α}, (∀ x ∈ l, p x = true → q x = true) → ∀ {a : α}, a ∈ l → q a = true → p a = false → l.countP p < l.countP q
  | [], _, _, ha, _, _ => by cases ha
  | x :: l, h, a, ha, hq, hp => by
    have hle : l.countP p ≤ l.countP q := List.countP_mono_left fun y hy => h y (List.mem_cons_of_mem _ hy)
    rw [List.countP_cons, List.countP_cons]
    rcases List.mem_cons.1 ha with rfl | ha
    · rw [hq, hp]; simp; omega
    · have ih := countP_lt (fun y hy => h y (List.mem_cons_of_mem _ hy)) ha hq hp
      have := h x (List.mem_cons_self ..)
      cases hx : p x with
      | false => simp; omega
      | true => rw [this hx]; simp; omega
section
variable {d : Dvc} (hd : VD d)
include hd
theorem par_eq {n : Nod} (hn : n ∈ d.nodes) : parentL d n.ino = n.parent := by
  have h := node_asc (f := [d]) (a := (0, n.ino)) (q := 0) rfl rfl hd.asc hn rfl
  rw [nodeL_at (f := [d]) (a := (0, n.ino)) (k := 0) rfl rfl] at h
  unfold parentL
  rw [h]
theorem itP_one : ∀ k, itP d k 1 = 1 := by
  obtain ⟨r, rest, hr, h1, _, h3⟩ := hd.root
  have : parentL d 1 = 1 := by
    have := par_eq hd (n := r) (by rw [hr]; exact List.mem_cons_self ..)
    rw [h1, h3] at this
    exact this
  intro k
  induction k with
  | zero => rfl
  | succ k ih => rw [itP, this, ih]
theorem itP_end (rk : Int → Nat) (hrk : ∀ n ∈ d.nodes, n.ino ≠ 1 → n.kind = 2 → rk n.parent < rk n.ino) : ∀ (k : Nat) (n : Nod), n ∈ d.nodes → n.kind = 2 → d.nodes.countP (fun m => decide (m.ino ≠ 1 ∧ rk m.ino ≤ rk n.ino)) ≤ k → itP d k n.ino = 1 := by
  intro k
  induction k with
  | zero =>
    intro n hn _ hc
    by_cases h1 : n.ino = 1
    · rw [h1]; rfl
    · have : 0 < d.nodes.countP (fun m => decide (m.ino ≠ 1 ∧ rk m.ino ≤ rk n.ino)) := List.countP_pos_iff.2 ⟨n, hn, by simp [h1]⟩
      omega
  | succ k ih =>
    intro n hn hk hc
    by_cases h1 : n.ino = 1
    · rw [h1]; exact itP_one hd _
    · rw [itP, par_eq hd hn]
      obtain ⟨p, hp, hpi, e, he, _⟩ := hd.par n hn h1 hk
      have hpk : p.kind = 2 := by
        by_cases h : p.kind = 2
        · exact h
        · rw [(hd.leaf p hp h).2] at he; cases he
      rw [← hpi]
      refine ih p hp hpk ?_
      have hlt := hrk n hn h1 hk
      rw [← hpi] at hlt
      have : d.nodes.countP (fun m => decide (m.ino ≠ 1 ∧ rk m.ino ≤ rk p.ino)) < d.nodes.countP (fun m => decide (m.ino ≠ 1 ∧ rk m.ino ≤ rk n.ino)) := by
        refine countP_lt (fun x _ hx => ?_) hn (by simp [h1]) (decide_eq_false fun h => by omega)
        have := of_decide_eq_true hx
        exact decide_eq_true ⟨this.1, by omega⟩
      omega
theorem rch_true : rchR d = true := by
  obtain ⟨rk, hrk⟩ := hd.rank
  refine range_yes fun i hi => ?_
  unfold rchAt
  rw [List.getElem?_eq_getElem hi]
  simp only
  split
  · rename_i hk
    exact decide_eq_true (itP_end hd rk hrk _ _ (List.getElem_mem hi) hk List.countP_le_length)
  · rfl
theorem asc_get {i : Nat} {n y : Nod} (h0 : 0 < i) (h : d.nodes[i]? = some n) (hy : d.nodes[i - 1]? = some y) : y.ino < n.ino := by
  have := hd.asc
  unfold Asc at this
  obtain ⟨h1, e1⟩ := List.getElem?_eq_some_iff.1 h
  obtain ⟨h2, e2⟩ := List.getElem?_eq_some_iff.1 hy
  have := List.pairwise_iff_getElem.1 this (i - 1) i h2 h1 (by omega)
  rw [e1, e2] at this
  exact this
theorem sort_get {n : Nod} (hn : n ∈ d.nodes) {i : Nat} {x : Ent} (h0 : 0 < i) (h : n.entries[i]? = some x) : preE n.entries i x = false := by
  have hs := hd.sorted n hn
  unfold Sorted at hs
  unfold preE
  cases hy : n.entries[i - 1]? with
  | none => rfl
  | some y =>
    obtain ⟨h1, e1⟩ := List.getElem?_eq_some_iff.1 h
    obtain ⟨h2, e2⟩ := List.getElem?_eq_some_iff.1 hy
    have := List.pairwise_iff_getElem.1 hs (i - 1) i h2 h1 (by omega)
    rw [e1, e2] at this
    simp only
    rw [this]
    rfl
end
section
variable {f : Fls} (hv : FlsV f) {q : Nat} {d : Dvc} (hq : f[q]? = some d)
include hv hq
theorem vdq : VD d := hv.vd d (List.mem_of_getElem? hq)
theorem node_q {p : Nod} (hp : p ∈ d.nodes) : nodeL f ((q : Int), p.ino) = some p := node_asc (a := ((q : Int), p.ino)) rfl hq (vdq hv hq).asc hp rfl
theorem idx_q {p : Nod} (hp : p ∈ d.nodes) : ¬ indexL f ((q : Int), p.ino) < 0 := by
  rcases index_node f ((q : Int), p.ino) with h | ⟨k, i, d', n, _, _, _, _, h, _⟩
  · rw [node_q hv hq hp] at h; cases h.2
  · omega
theorem ents_true {n : Nod} (hn : n ∈ d.nodes) : entsR f (q : Int) n.entries = true := by
  have hd := vdq hv hq
  refine ents_yes (by have := hd.many n hn; omega) fun i hi => ?_
  have hx : n.entries[i]? = some n.entries[i] := List.getElem?_eq_getElem hi
  generalize n.entries[i] = x at hx
  obtain ⟨h1, h2, m, hm, h3⟩ := hd.ent n hn x (List.mem_of_getElem? hx)
  unfold entAt
  rw [hx]
  simp only
  rw [if_neg (by rw [h1]; simp), if_neg (fun h => by rw [sort_get hd hn h.1 hx] at h; cases h.2), if_neg h2, if_neg (by rw [← h3]; exact idx_q hv hq hm)]
theorem links_q {n : Nod} (hn : n ∈ d.nodes) : linksF f ((q : Int), n.ino) = cntN n.ino d.nodes := linksF_at (a := ((q : Int), n.ino)) rfl hq (node_q hv hq hn)
theorem dev_true : devR5 f (q : Int) d = true := by
  have hd := vdq hv hq
  obtain ⟨r, rest, hr, r1, r2, r3⟩ := hd.root
  have hlen := hd.len
  have hl1 : ¬ d.nodes.length < 1 := by rw [hr]; simp
  have hhd : headR d = true := by
    unfold headR
    rw [if_neg hl1, if_neg (by omega), if_neg (by have := hd.next2; omega), if_neg (by have := hd.nextM; omega), hr]
    simp [r1, r2, r3]
  rw [dev_yes hhd, rch_true hd]
  intro i hi
  have hx : d.nodes[i]? = some d.nodes[i] := List.getElem?_eq_getElem hi
  generalize d.nodes[i] = n at hx
  have hn := List.mem_of_getElem? hx
  unfold devAt
  rw [hx]
  simp only
  rw [if_neg (by have := hd.lt n hn; omega), if_neg (fun h => by
    unfold preN at h
    cases hy : d.nodes[i - 1]? with
    | none => rw [hy] at h; exact absurd h.2 (by simp)
    | some y =>
      rw [hy] at h
      have h1 := asc_get hd h.1 hx hy
      have h2 := of_decide_eq_true h.2
      omega), if_neg (by rw [hd.plain n hn]; simp), if_neg (fun h => by
    obtain ⟨h1, h2⟩ := hd.leaf n hn h.1
    rcases h.2 with h3 | h3
    · exact h3 h1
    · rw [h2] at h3; cases h3), if_neg (by rw [ents_true hv hq hn]; simp)]
  split
  · rfl
  · rename_i h0
    have h1 : n.ino ≠ 1 := by
      have hy : d.nodes[0]? = some r := by rw [hr]; rfl
      have : r.ino < n.ino := by
        have ha := hd.asc
        unfold Asc at ha
        obtain ⟨e1, e2⟩ := List.getElem?_eq_some_iff.1 hx
        obtain ⟨e3, e4⟩ := List.getElem?_eq_some_iff.1 hy
        have := List.pairwise_iff_getElem.1 ha 0 i e3 e1 (by omega)
        rw [e2, e4] at this
        exact this
      omega
    rw [links_q hv hq hn]
    split
    · rename_i hk
      obtain ⟨p, hp, hpi, e, he, hei⟩ := hd.par n hn h1 hk
      rw [if_neg (by rw [hd.one n hn h1 hk]; simp)]
      have hnd := node_q hv hq hp
      rw [hpi] at hnd
      have hh : hasG f ((q : Int), n.parent) = true := by unfold hasG; rw [hnd]; rfl
      have hg : nodG f ((q : Int), n.parent) = p := by unfold nodG; rw [hnd]; rfl
      rw [if_neg (by rw [hh]; simp), hg]
      unfold holdsL
      exact List.any_eq_true.2 ⟨e, he, by rw [hei]; simp⟩
    · rw [if_neg (by have := hd.link n hn h1; omega)]
theorem nods_true : nodsP d = true := by
  have hd := vdq hv hq
  obtain ⟨r, rest, hr, r1, r2, r3⟩ := hd.root
  have hlen := hd.len
  have hl1 : ¬ d.nodes.length < 1 := by rw [hr]; simp
  refine nods_yes ?_ fun i hi => ?_
  · unfold headP
    rw [if_neg (by have := hd.next2; omega), if_neg (by have := hd.nextM; omega), if_neg hl1, if_neg (by omega), hr]
    simp [r1, r2]
  · have hx : d.nodes[i]? = some d.nodes[i] := List.getElem?_eq_getElem hi
    generalize d.nodes[i] = n at hx
    have hn := List.mem_of_getElem? hx
    unfold nodPAt
    rw [hx]
    simp only
    have hnp : nodP n = true := by
      have hp := hd.plain n hn
      unfold plainL at hp
      split at hp
      · cases hp
      · rename_i hc
        have ha : attrP n.mode n.uid n.gid = true := decide_eq_true (by omega)
        have hem : ¬ n.kind = 2 → n.parent = 0 ∧ n.entries = [] := hd.leaf n hn
        have hen : entsP n.entries = true := by
          unfold entsP
          rw [if_neg (by have := hd.many n hn; omega)]
          refine range_yes fun i hi => ?_
          have hx : n.entries[i]? = some n.entries[i] := List.getElem?_eq_getElem hi
          generalize n.entries[i] = x at hx
          unfold entPAt
          rw [hx]
          simp only
          rw [if_neg (by rw [(hd.ent n hn x (List.mem_of_getElem? hx)).1]; simp), if_neg (fun h => by rw [sort_get hd hn h.1 hx] at h; cases h.2)]
        unfold nodP
        rw [if_neg (by rw [ha]; simp)]
        split at hp
        · rename_i h3
          obtain ⟨e1, e2⟩ := hem (by omega)
          rw [if_neg (by omega), if_pos h3, e1, e2, hp]
          rfl
        · rename_i h3
          have e := str_eq n.target ⟨#[]⟩
          rw [show (⟨#[]⟩ : ByteArray).toList = [] by rw [ByteArray.toList_eq]] at e
          have h5 : n.target.toList = [] := by simpa using hp
          rw [h5] at e
          have e2 : n.target = ⟨#[]⟩ := of_decide_eq_true e.symm
          rw [e2]
          by_cases h1 : n.kind = 1
          · obtain ⟨e3, e4⟩ := hem (by omega)
            rw [if_pos h1, e3, e4]
            rfl
          · rw [if_neg h1, if_neg h3, if_pos (by omega), hen]
            rfl
    rw [if_neg ?_, if_neg (by have := hd.lt n hn; omega), if_neg (by rw [hnp]; simp)]
    cases i with
    | zero =>
      rw [hr] at hx
      have : r = n := by simpa using hx
      show ¬ n.ino ≤ 0
      rw [← this, r1]
      omega
    | succ i =>
      show ¬ n.ino ≤ (match d.nodes[i]? with | some n => n.ino | none => 0)
      have hi' : d.nodes[i]? = some d.nodes[i] := List.getElem?_eq_getElem (by omega)
      have := asc_get hd (by omega) hx hi'
      rw [hi']
      simp only
      omega
end
end Go.Proofs.Ytgliiknfmlmddaa
namespace Go.Proofs.Ytgliiknfmlmddaa

theorem cnt_two {i : Int} {n p : Nod} (hne : n ≠ p) (h1 : 0 < cntE i n.entries) (h2 : 0 < cntE i p.entries) : ∀ {ns : List Nod}, n ∈ ns → p ∈ ns → 2 ≤ cntN i ns
  | [], hn, _ => by cases hn
  | x :: ns, hn, hp => by
    have pos : ∀ {m : Nod}, m ∈ ns → 0 < cntE i m.entries → 0 < cntN i ns := fun {m} hm h => by
      have : 0 < m.entries.countP (fun e : Ent => e.2 == i) := h
      obtain ⟨e, he, hi⟩ := List.countP_pos_iff.1 this
      exact cntN_pos.2 ⟨m, hm, e, he, by simpa using hi⟩
    rw [cntN_cons]
    rcases List.mem_cons.1 hn with e1 | hn'
    · subst e1
      rcases List.mem_cons.1 hp with e2 | hp
      · exact absurd e2.symm hne
      · have := pos hp h2
        omega
    · rcases List.mem_cons.1 hp with e2 | hp
      · subst e2
        have := pos hn' h1
        omega
      · have := cnt_two hne h1 h2 hn' hp
        omega
theorem cntE_at {i : Int} {es : List Ent} {e : Ent} (he : e ∈ es) (hi : e.2 = i) : 0 < cntE i es := List.countP_pos_iff.2 ⟨e, he, by rw [hi]; simp⟩
section
variable {f : Fls} (hv : FlsV f) {q : Nat} {d : Dvc} (hq : f[q]? = some d)
include hv hq
theorem below_end (rk : Int → Nat) (hrk : ∀ n ∈ d.nodes, n.ino ≠ 1 → n.kind = 2 → rk n.parent < rk n.ino) : ∀ (k : Nat) (n : Nod), n ∈ d.nodes → n.kind = 2 → d.nodes.countP (fun m => decide (m.ino ≠ 1 ∧ rk m.ino ≤ rk n.ino)) + 1 ≤ k → belowP f ((q : Int), 1) k ((q : Int), n.ino) = true := by
  have hd := vdq hv hq
  intro k
  induction k with
  | zero => intro n _ _ hc; omega
  | succ k ih =>
    intro n hn hk hc
    rw [below_succ]
    by_cases h1 : n.ino = 1
    · rw [if_pos (by rw [h1])]
    · rw [if_neg (fun e => h1 (Prod.mk.inj e).2), node_q hv hq hn]
      simp only
      rw [if_neg h1]
      obtain ⟨p, hp, hpi, e, he, _⟩ := hd.par n hn h1 hk
      have hpk : p.kind = 2 := by
        by_cases h : p.kind = 2
        · exact h
        · rw [(hd.leaf p hp h).2] at he; cases he
      rw [← hpi]
      refine ih p hp hpk ?_
      have hlt := hrk n hn h1 hk
      rw [← hpi] at hlt
      have : d.nodes.countP (fun m => decide (m.ino ≠ 1 ∧ rk m.ino ≤ rk p.ino)) < d.nodes.countP (fun m => decide (m.ino ≠ 1 ∧ rk m.ino ≤ rk n.ino)) := by
        refine countP_lt (fun x _ hx => ?_) hn (by simp [h1]) (decide_eq_false fun h => by omega)
        have := of_decide_eq_true hx
        exact decide_eq_true ⟨this.1, by omega⟩
      omega
theorem lnk_true : lnkP f (q : Int) d = true := by
  have hd := vdq hv hq
  obtain ⟨rk, hrk⟩ := hd.rank
  obtain ⟨r, rest, hr, r1, r2, r3⟩ := hd.root
  refine lnk_yes (fun j hj => ?_) fun j hj => ?_
  · have hx : d.nodes[j]? = some d.nodes[j] := List.getElem?_eq_getElem hj
    generalize d.nodes[j] = n at hx
    have hn := List.mem_of_getElem? hx
    unfold lnksAt
    rw [hx]
    refine range_yes fun i hi => ?_
    have he : n.entries[i]? = some n.entries[i] := List.getElem?_eq_getElem hi
    generalize n.entries[i] = x at he
    have hxm := List.mem_of_getElem? he
    obtain ⟨_, h2, m, hm, h3⟩ := hd.ent n hn x hxm
    unfold lnkAt
    rw [he]
    simp only
    rw [← h3, node_q hv hq hm]
    simp only
    rw [if_neg (by rw [h3]; exact h2), if_neg]
    rintro ⟨hk, hpar⟩
    have hm1 : m.ino ≠ 1 := by rw [h3]; exact h2
    obtain ⟨p, hp, hpi, e, hep, hei⟩ := hd.par m hm hm1 hk
    have hne : n ≠ p := fun h => hpar (by rw [← hpi, h])
    have h4 := cnt_two hne (cntE_at hxm h3.symm) (cntE_at hep hei) hn hp
    have h5 := hd.one m hm hm1 hk
    omega
  · have hx : d.nodes[j]? = some d.nodes[j] := List.getElem?_eq_getElem hj
    generalize d.nodes[j] = n at hx
    have hn := List.mem_of_getElem? hx
    unfold upAt
    rw [hx]
    simp only
    by_cases h1 : n.ino = 1
    · rw [if_pos h1]
      have hrm : r ∈ d.nodes := by rw [hr]; exact List.mem_cons_self ..
      rw [asc_eq hd.asc hn hrm (h1.trans r1.symm)]
      exact decide_eq_true r3
    · rw [if_neg h1, links_q hv hq hn, if_neg (by have := hd.link n hn h1; omega), if_neg]
      rintro ⟨hk, h⟩
      have h5 := hd.one n hn h1 hk
      rcases h with h | h
      · omega
      · have hlt : d.nodes.countP (fun m => decide (m.ino ≠ 1 ∧ rk m.ino ≤ rk n.ino)) < d.nodes.countP (fun _ => true) :=
          countP_lt (fun _ _ _ => rfl) (a := r) (by rw [hr]; exact List.mem_cons_self ..) rfl (by simp [r1])
        rw [List.countP_true] at hlt
        rw [below_end hv hq rk hrk _ n hn hk (by omega)] at h
        cases h
end
theorem vldR_true {f : Fls} (hv : FlsV f) (h0 : 0 < f.length) : vldR f = true := by
  unfold vldR
  rw [if_neg (by omega), if_neg (by have := hv.few; omega)]
  refine range_yes fun i hi => ?_
  unfold vldAt
  rw [List.getElem?_eq_getElem hi]
  exact dev_true hv (List.getElem?_eq_getElem hi)
theorem vldP_true {f : Fls} (hv : FlsV f) (h0 : 0 < f.length) : vldP f = true := by
  unfold vldP
  rw [if_neg (by omega), if_neg (by have := hv.few; omega)]
  refine range_yes fun i hi => ?_
  unfold vldPAt
  rw [List.getElem?_eq_getElem hi]
  simp only
  rw [nods_true hv (List.getElem?_eq_getElem hi), lnk_true hv (List.getElem?_eq_getElem hi)]
  rfl
theorem vldS_true {s : Spc} (hv : SpcV s) : vldS true s = true := by
  unfold vldS
  rw [Bool.true_and]
  refine range_yes fun i hi => ?_
  have hx : s.mounts[i]? = some s.mounts[i] := List.getElem?_eq_getElem hi
  generalize s.mounts[i] = m at hx
  have h := hv.mnt i m hx
  unfold mntAt
  rw [hx]
  simp only
  rw [if_neg (by have := h.dev1; omega), if_neg (by have := h.dev2; omega), if_neg (by rw [h.fresh]; simp), if_neg (by rw [h.dir]; simp), if_neg (by rw [h.there]; simp), if_neg (by rw [h.free]; simp)]
end Go.Proofs.Ytgliiknfmlmddaa
namespace Go.Proofs.Ytgliiknfmlmddaa
open Go.RowKit

theorem rowsB_put {sz cap q : Nat} {rows : List (List AV)} {r r' : List AV} (h : ∀ x ∈ rows, x.length = sz) (hq : rows[q]? = some r) (hr : r'.length = sz) (hp : 0 < sz) : SetAt (rowsB sz cap rows) (0 + q * sz) r' (rowsB sz cap (rows.set q r')) := by
  have hne : r' ≠ [] := fun e => by rw [e] at hr; simp at hr; omega
  have hrl : r.length = sz := h r (List.mem_of_getElem? hq)
  have h1 : SetAt r 0 r' r' := by
    have := SetAt.whole (xs := r') (l := r) (b := []) (by rw [hr, hrl])
    simpa using this
  have h2 := flat_set (k := 0) h hq h1 hne
  unfold rowsB
  rw [List.length_set, Nat.zero_add]
  simpa using SetAt.left h2 (List.replicate ((cap - rows.length) * sz) AV.any)
theorem rowsB_at {sz cap q : Nat} {rows : List (List AV)} {r : List AV} (h : ∀ x ∈ rows, x.length = sz) (hq : rows[q]? = some r) (hc : rows.length ≤ cap) : 0 + q * sz + sz ≤ (rowsB sz cap rows).length ∧ ((rowsB sz cap rows).drop (0 + q * sz)).take sz = r := by
  have hl := flat_len h
  have hql := (List.getElem?_eq_some_iff.1 hq).1
  have hrl : r.length = sz := h r (List.mem_of_getElem? hq)
  have hqs : q * sz + sz ≤ rows.length * sz := by
    rw [show q * sz + sz = (q + 1) * sz by rw [Nat.add_mul]; omega]
    exact Nat.mul_le_mul_right sz hql
  refine ⟨?_, ?_⟩
  · rw [rowsB_len h hc, Nat.zero_add]
    exact Nat.le_trans hqs (Nat.mul_le_mul_right sz hc)
  · refine List.ext_getElem? fun k => ?_
    rw [Nat.zero_add, List.getElem?_take]
    split
    · rename_i hk
      rw [List.getElem?_drop]
      unfold rowsB
      rw [List.getElem?_append_left (by omega), flat_get h hk, hq]
      rfl
    · rename_i hk
      rw [List.getElem?_eq_none (by omega)]
theorem swap_map (ms : List Mnt) (x y : Mnt) : ((ms.map mntA).set 0 (mntA y)).set 1 (mntA x) = ((ms.set 0 y).set 1 x).map mntA := by
  rw [List.map_set, List.map_set]
theorem PvS {s : Spc} (hs : SpcB s) (hv : FlsV s.files) (h0 : 0 < s.files.length) : AFn Try.prog 42 [.agg (spcA s)] (fun r => r = .v (.bool (vldS true s))) :=
  (Pvalid6 s hs hv.t).mono fun r hr => by rw [hr, vldP_true hv h0]
theorem RvS {s : Spc} (hs : SpcB s) (hv : FlsV s.files) (h0 : 0 < s.files.length) : AFn Try.prog 18 [.agg (spcA s)] (fun r => r = .v (.bool (vldS true s))) :=
  (Rvalid6 s hs hv.t).mono fun r hr => by rw [hr, vldR_true hv h0]
theorem Pvalid_ok {s : Spc} (hs : SpcB s) (hv : SpcV s) : AFn Try.prog 42 [.agg (spcA s)] (fun r => r = .v (.bool true)) :=
  (PvS hs hv.files hv.pos).mono fun r hr => by rw [hr, vldS_true hv]
section
set_option maxRecDepth 20000
set_option maxHeartbeats 2000000
theorem RspcF (s : Spc) (hs : SpcB s) : AFn Try.prog 40 [.agg (spcA s)] (fun r => r = .agg (spcA s)) := by
  have hfew := hs.few
  refine enter Try.func40 rfl rfl rfl rfl rfl 0 rfl ?_
  refine w_ (b_ (h:=al_ (h:=e_ (q_ (yk_ ([(0, spcA s)]) 8 (h:=df_ 0 (h:=?_)))))))
  first | refine dl_ 1 (h:=?_) | refine tk_ 1 rfl (fun _ hS => st_loadBE (row := spcA s) rfl (kb hS rfl) (Nat.le_of_ble_eq_true rfl) rfl ⟨rfl, rfl⟩) ?_
  refine df_ 3 (h:=?_)
  first | refine dl_ 4 (h:=?_) | refine tk_ 4 rfl (fun _ hS => st_loadBE (row := spcA s) rfl (kb hS rfl) (Nat.le_of_ble_eq_true rfl) rfl ⟨rfl, rfl⟩) ?_
  refine c_ 2 rfl (q_call (RcopyF s.files hs.files) ?_)
  rintro r rfl
  refine o_ (h:=?_)
  first | refine c_ 5 rfl (s_append rfl rfl rfl (by simp; omega) (by repeat constructor) ?_) | refine c_ 5 rfl (s_append0 rfl rfl (by simp; omega) (by repeat constructor) ?_)
  refine o_ (h:=dbd_ 6 (h:=?_))
  refine c0_ 7 rfl (s_store rfl rfl rfl rfl rfl rfl (by repeat constructor) (by repeat constructor) ?_)
  refine o_ (h:=z_ (h:=t_ (aw_ret (?_))))
  refine rt_ (r := .agg (spcA s)) none (h5 := ?_) (h6 := ⟨rfl, rfl, rfl⟩)
  exact LeA.agg (LeL.cons (LeA.refl _) (LeL.cons (LeA.tok _ _ _) LeL.nil))

theorem RspcBx (s : Spc) (hs : SpcB s) (hm0 : 0 < s.mounts.length) : ACall Try.prog 40 [.agg (spcA s)] [] (fun r b t => t = [] ∧ ∃ cap, s.mounts.length ≤ cap ∧ r = .agg [.sl 2 (s.files.map dvcA) none, .bs 2 0 3 s.mounts.length cap] ∧ b = [spcA s, [.sl 2 (s.files.map dvcA) none, .bs 2 0 3 s.mounts.length cap], rowsB 3 cap (s.mounts.map mntA)]) := by
  have hfew := hs.few
  have hml : (s.mounts.map mntA).length = s.mounts.length := by simp
  have src : ∀ h : AH, SrcA h 3 (.sl 3 (s.mounts.map mntA) none) s.mounts.length (s.mounts.map mntA).flatten := fun h => by rw [← hml]; exact SrcA.sl _ _
  refine enter Try.func40 rfl rfl rfl rfl rfl 3 rfl ?_
  refine w_ (b_ (h:=al_ (h:=e_ (q_ (yk_ ([(0, spcA s)]) 8 (h:=df_ 0 (h:=?_)))))))
  first | refine dl_ 1 (h:=?_) | refine tk_ 1 rfl (fun _ hS => st_loadBE (row := spcA s) rfl (kb hS rfl) (Nat.le_of_ble_eq_true rfl) rfl ⟨rfl, rfl⟩) ?_
  refine df_ 3 (h:=?_)
  first | refine dl_ 4 (h:=?_) | refine tk_ 4 rfl (fun _ hS => st_loadBE (row := spcA s) rfl (kb hS rfl) (Nat.le_of_ble_eq_true rfl) rfl ⟨rfl, rfl⟩) ?_
  refine c_ 2 rfl (q_call (RcopyF s.files hs.files) ?_)
  rintro r rfl
  refine o_ (h:=?_)
  refine c_ 5 rfl (st_append0B rfl rfl (src _) hm0 (by omega) ?_)
  rintro cap k bx2 hcp hs2
  rw [show (s.mounts.map mntA).flatten ++ List.replicate ((cap - s.mounts.length) * 3) AV.any = rowsB 3 cap (s.mounts.map mntA) by unfold rowsB; rw [hml]] at hs2
  obtain ⟨rfl, rfl⟩ : k = 2 ∧ bx2 = [_, _, _] := hs2.eq
  refine o_ (h:=dbd_ 6 (h:=?_))
  refine c0_ 7 rfl (s_store rfl rfl rfl rfl rfl rfl (by repeat constructor) (by repeat constructor) ?_)
  refine o_ (h:=z_ (h:=t_ (aw_ret (?_))))
  refine abody_ret (r := .agg [.sl 2 (s.files.map dvcA) none, .bs 2 0 3 s.mounts.length cap]) none (by repeat (first | exact ResA.nil | (apply ResA.tmp; (focus exact rfl)) | (apply ResA.cellN; (focus exact inferInstance); (focus exact rfl); (focus exact rfl); (focus exact rfl)) | (apply ResA.cell1; (focus exact inferInstance); (focus exact rfl); (focus exact rfl); (focus exact rfl)))) rfl rfl (by simp [bpLtB, bpLtL, bpLt, bp_plain (mnt_plain s.mounts), spcA]) (LeA.refl _) ⟨rfl, cap, hcp, rfl, rfl⟩

theorem back_new3 {bx : List (List AV)} (r0 r1 r2 : List AV) {r1' : List AV} (h0 : renL (backS [] bx.length) r0 = r0) (h1 : renL (backS [] bx.length) r1 = r1') (h2 : renL (backS [] bx.length) r2 = r2) : Back bx [] [r0, r1, r2] (bx ++ [r0, r1', r2]) := by
  refine ⟨by simp, fun i row _ h => ?_, fun k i row h => by simp at h, fun k row h => ?_⟩
  · rw [List.getElem?_append_left (List.getElem?_eq_some_iff.1 h).1]; exact h
  · rw [List.getElem?_append_right (by omega), show bx.length + k - bx.length = k by omega]
    simp only [List.length_nil, Nat.zero_add] at h
    match k, h with
    | 0, h => injection h with h; subst h; rw [h0]; rfl
    | 1, h => injection h with h; subst h; rw [h1]; rfl
    | 2, h => injection h with h; subst h; rw [h2]; rfl
    | k + 3, h => simp at h
theorem bp_mnts (n m cap : Nat) (ms : List Mnt) : bpLtL n m (rowsB 3 cap (ms.map mntA)) = true := bp_plain (mnt_plain ms)
theorem map_snoc (ms : List Mnt) (a : Mnt) : ms.map mntA ++ [mntA a] = (ms ++ [a]).map mntA := by simp
theorem len_snoc (ms : List Mnt) (a : Mnt) : (ms ++ [a]).length = ms.length + 1 := by simp
theorem renK_swap {g : Nat → Option Nat} {cap : Nat} (ms : List Mnt) (x y : Mnt) : renKL g (rowsB 3 cap (((ms.map mntA).set 0 (mntA y)).set 1 (mntA x))) = rowsB 3 cap (((ms.set 0 y).set 1 x).map mntA) := by
  rw [swap_map]
  exact renK_rows (mnt_plain _)
theorem Lvalid (l : List Int) (raw : List Mnt) : AFn Try.prog 10 [.sl 1 (l.map intA) none, .sl 3 (raw.map mntA) none] (fun r => r = .v (.bool true)) := by
  have hrl : (raw.map mntA).length = raw.length := by simp
  refine enter Try.func10 rfl rfl rfl rfl rfl 0 rfl ?_
  refine w_ (a_ (h:=e_ (q_ (w_ (m_ (h:=n_ (h:=gt_ (h:=e_ (?_)))))))))
  refine aw_cond rfl (fun hb1 => ?_) (fun hb1 => ?_)
  · have hc1 := bp hb1
    refine w_ (?_)
    refine al_p rfl (q_call (Lawake) ?_)
    rintro r rfl
    refine a_ (h:=e_ (aw_ret (x_thenR (?_))))
    refine e_ret ?_
    first | rfl | (exfalso; simp_all; done)
  · have hc1 := bp hb1
    refine kt_ (w_ (m_ (h:=?_)))
    refine al_p rfl (s_callN rfl (by repeat (first | exact Args.nil | refine Args.cons _ _ _ _ _ rfl (argOk_clean rfl) ?_ | refine Args.cons _ _ _ _ _ rfl (argOk_nil _) ?_ | refine Args.cons _ _ _ _ _ rfl (argOk_era _) ?_ | refine Args.cons _ _ _ _ _ rfl (argOk_le rfl (by repeat (first | exact LeA.refl _ | exact LeA.nil _ | exact LeL.refl _ | refine LeA.agg ?_ | refine LeA.tup ?_ | exact LeL.nil | refine LeL.cons ?_ ?_ | exact LeA.any _))) ?_)) rfl (Gnew l) (by repeat constructor) ?_)
    skip
    refine a_ (h:=e_ (w_ (m_ (h:=?_))))
    refine al_p rfl (s_gen 0 (hc := Gspace l _ (by omega)) (hR := ?_))
    rintro r a1 ha1 ⟨s, rfl, hv, hm⟩
    refine ⟨rfl, _, (by repeat constructor), ?_⟩
    have hsb := hv.b (show s.mounts.length ≤ 1000 by omega)
    have hrb : SpcB ⟨s.files, raw⟩ := ⟨hsb.files, by show raw.length ≤ 1000; omega⟩
    rcases Nat.eq_zero_or_pos s.mounts.length with hm0 | hm0
    · skip
      refine al_ (h:=s_ (h:=e_ (w_ (l_ (h:=?_)))))
      refine al_p rfl (s_callT rfl (by repeat (first | exact Args.nil | refine Args.cons _ _ _ _ _ rfl (argOk_clean rfl) ?_ | refine Args.cons _ _ _ _ _ rfl (argOk_nil _) ?_ | refine Args.cons _ _ _ _ _ rfl (argOk_era _) ?_ | refine Args.cons _ _ _ _ _ rfl (argOk_le rfl (by repeat (first | exact LeA.refl _ | exact LeA.nil _ | exact LeL.refl _ | refine LeA.agg ?_ | refine LeA.tup ?_ | exact LeL.nil | refine LeL.cons ?_ ?_ | exact LeA.any _))) ?_)) (RspcT s hsb) (fun _ => rfl) (by repeat constructor) ?_)
      refine al_ (h:=s_ (h:=e_ (?_)))
      refine aw_midI (fun t => ∃ (b : Nat) (dv : Int) (x : Fil), b ≤ 1200 ∧ t = ⟨look [(1, .sl 3 (raw.map mntA) none), (5, .bp 0 0), (6, .bp 1 0), (7, .bp 2 0)], ⟨[srcA l b, spcA s, [AV.sl 2 (s.files.map dvcA) none, AV.sl 3 ((s.mounts ++ [(dv, x)]).map mntA) (some 0)]], [(60, 3, (s.mounts ++ [(dv, x)]).map mntA)]⟩⟩) ?_ ?_
      · skip
        refine yk_ ([(1, spcA s), (2, [AV.sl 2 (s.files.map dvcA) none, AV.sl 3 (s.mounts.map mntA) (some 0)])]) 12 (h:=df_ 0 (h:=dl_ 1 (h:=dm_ 2 (h:=dm_ 4 (h:=df_ 5 (h:=dl_ 6 (h:=?_)))))))
        refine c_ 3 rfl (s_gen 0 (hc := Grange l _ (0) (3) (by omega) (by omega) (by omega) (by omega)) (hR := ?_))
        rintro r a1 ha1 ⟨k1, rfl, p1, q1⟩
        refine ⟨rfl, _, (by repeat constructor), ?_⟩
        refine o_ (h:=?_)
        refine c_ 7 rfl (s_gen 0 (hc := Gfile l _ s.files (by omega) hv.files.b hv.files.ne) (hR := ?_))
        rintro r a2 ha2 ⟨x2, rfl⟩
        refine ⟨rfl, _, (by repeat constructor), ?_⟩
        refine o_ (h:=dbd_ 8 (h:=dbs_ 9 (h:=?_)))
        first | refine c_ 10 rfl (s_append rfl rfl rfl (by simp <;> omega) (by repeat constructor) ?_) | refine c_ 10 rfl (s_append0 rfl rfl (by simp <;> omega) (by repeat constructor) ?_)
        refine o_ (h:=df_ 11 (h:=?_))
        refine c0_ 12 rfl (s_store rfl rfl rfl rfl rfl rfl (by repeat constructor) (by repeat constructor) ?_)
        refine o_ (h:=z_ (h:=?_))
        refine x_then ?_
        exact ⟨_, ⟨a2, k1, x2, by omega, rfl⟩, (by rw [← map_snoc]; exact (wk 3 1))⟩
      · rintro t ⟨b, dv, x, hb, rfl⟩
        have hyb : SpcB ⟨s.files, s.mounts ++ [(dv, x)]⟩ := ⟨hsb.files, by rw [len_snoc]; omega⟩
        refine w_ (l_ (h:=?_))
        refine al_p rfl (q_call (RspcF s hsb) ?_)
        rintro r rfl
        refine al_ (h:=s_ (h:=e_ (w_ (m_ (h:=f_ (h:=s_ (h:=e_ (q_ (w_ (f_ (h:=l_ (h:=n_ (h:=gt_ (h:=m_ (h:=?_)))))))))))))))
        refine al_gs true rfl rfl (fun hb2 => ?_) (fun hb2 => ?_)
        · have hc2 := bp hb2
          exfalso; simp at hc2; omega
        · have hc2 := bp hb2
          refine g0_ (h:=g0_ (h:=g0_ (h:=pf_ (h:=e_ (cn_ (h:=kt_ (q_ (yr_ 20 (h:=dl_ 0 (h:=?_))))))))))
          refine c_ 1 rfl (q_call (Pvalid_ok hsb hv) ?_)
          rintro r rfl
          refine o_ (h:=dm_ 2 (h:=?_))
          refine aa_both (j := 2) rfl (fun hb3 => ?_) (fun hb3 => ?_)
          · have hc3 := bp hb3
            refine dl_ 3 (h:=dl_ 5 (h:=?_))
            refine c_ 4 rfl (q_call (PvS hyb hv.files hv.pos) ?_)
            rintro r rfl
            refine o_ (h:=?_)
            refine c_ 6 rfl (q_call (RvS hyb hv.files hv.pos) ?_)
            rintro r rfl
            refine o_ (h:=deq_ 7 (h:=dpt_ 8 (h:=dm_ 9 (h:=?_))))
            refine aa_both (j := 9) rfl (fun hb4 => ?_) (fun hb4 => ?_)
            · have hc4 := bp hb4
              refine dl_ 10 (h:=dl_ 12 (h:=?_))
              refine c_ 11 rfl (q_call (PvS hrb hv.files hv.pos) ?_)
              rintro r rfl
              refine o_ (h:=?_)
              refine c_ 13 rfl (q_call (RvS hrb hv.files hv.pos) ?_)
              rintro r rfl
              refine o_ (h:=deq_ 14 (h:=dpt_ 15 (h:=dm_ 16 (h:=?_))))
              refine aa_both (j := 16) rfl (fun hb5 => ?_) (fun hb5 => ?_)
              · have hc5 := bp hb5
                refine c_ 17 rfl (q_call (Lawake) ?_)
                rintro r rfl
                refine o_ (h:=dpt_ 18 (h:=da_ 19 (h:=z_ (h:=t_ (aw_ret (?_))))))
                refine e_ret ?_
                first | rfl | (exfalso; simp_all; done)
              · have hc5 := bp hb5
                refine d0_ 17 (h:=dpf_ 18 (h:=da_ 19 (h:=z_ (h:=t_ (aw_ret (?_))))))
                refine e_ret ?_
                first | rfl | (exfalso; simp_all; done)
            · have hc4 := bp hb4
              refine d0_ 10 (h:=d0_ 11 (h:=d0_ 12 (h:=d0_ 13 (h:=d0_ 14 (h:=dpf_ 15 (h:=dm_ 16 (h:=d0_ 17 (h:=dpf_ 18 (h:=da_ 19 (h:=z_ (h:=t_ (aw_ret (?_)))))))))))))
              refine e_ret ?_
              first | rfl | (exfalso; simp_all; done)
          · have hc3 := bp hb3
            refine d0_ 3 (h:=d0_ 4 (h:=d0_ 5 (h:=d0_ 6 (h:=d0_ 7 (h:=dpf_ 8 (h:=dm_ 9 (h:=d0_ 10 (h:=d0_ 11 (h:=d0_ 12 (h:=d0_ 13 (h:=d0_ 14 (h:=dpf_ 15 (h:=dm_ 16 (h:=d0_ 17 (h:=dpf_ 18 (h:=da_ 19 (h:=z_ (h:=t_ (aw_ret (?_))))))))))))))))))))
            refine e_ret ?_
            first | rfl | (exfalso; simp_all; done)
    · skip
      refine al_ (h:=s_ (h:=e_ (?_)))
      refine aw_midI (fun t => ∃ cap, s.mounts.length ≤ cap ∧ t = ⟨look [(1, .sl 3 (raw.map mntA) none), (5, .bp 0 0), (6, .bp 1 0), (7, .bp 2 0)], ⟨[srcA l a1, spcA s, [AV.sl 2 (s.files.map dvcA) none, AV.bs 3 0 3 s.mounts.length cap], rowsB 3 cap (s.mounts.map mntA)], []⟩⟩) ?_ ?_
      · skip
        refine aw_region (l_ (h:=?_))
        refine al_p rfl (s_callM [] rfl (.cons _ _ _ _ _ rfl (LeA.refl _) .nil) (by decide) .nil (RspcBx s hsb hm0) ?_)
        rintro r bc tc ⟨rfl, cap, hcap, rfl, rfl⟩
        refine ⟨rfl, _, (back_new3 (spcA s) _ _ rfl rfl (ren_rows (mnt_plain s.mounts)) : Back _ [] _ [_, _, _, [.sl 2 (s.files.map dvcA) none, .bs 4 0 3 s.mounts.length cap], _]), ?_⟩
        refine al_ (h:=s_ (h:=al_nil (?_)))
        refine x_then ?_
        exact ⟨_, ⟨cap, hcap, rfl⟩, weak_ren [0, 1, 5, 4] (fun i hi => absurd hi (Nat.not_lt_zero i)) (by decide) (.cons _ _ _ _ _ rfl rfl (.cons _ _ _ _ _ rfl rfl (.cons _ _ _ _ _ rfl rfl (.cons _ _ _ _ _ rfl (renK_rows (mnt_plain s.mounts)) .nil)))) (.cons _ _ _ _ rfl (LeA.refl _) (.cons _ _ _ _ rfl (LeA.refl _) (.cons _ _ _ _ rfl (LeA.refl _) (.cons _ _ _ _ rfl (LeA.refl _) .nil))))⟩
      · rintro t ⟨cap, hcap, rfl⟩
        refine aw_midI (fun t => ∃ (b : Nat) (ms : List Mnt) (cap : Nat), b ≤ 1200 ∧ 2 ≤ ms.length ∧ ms.length ≤ 10 ∧ ms.length ≤ cap ∧ t = ⟨look [(1, .sl 3 (raw.map mntA) none), (5, .bp 0 0), (6, .bp 1 0), (7, .bp 2 0)], ⟨[srcA l b, spcA s, [AV.sl 2 (s.files.map dvcA) none, AV.bs 3 0 3 ms.length cap], rowsB 3 cap (ms.map mntA)], []⟩⟩) ?_ ?_
        · skip
          refine yk_ ([(1, spcA s), (2, [AV.sl 2 (s.files.map dvcA) none, AV.bs 3 0 3 s.mounts.length cap])]) 12 (h:=df_ 0 (h:=dl_ 1 (h:=dm_ 2 (h:=dm_ 4 (h:=df_ 5 (h:=dl_ 6 (h:=?_)))))))
          refine c_ 3 rfl (s_gen 0 (hc := Grange l _ (0) (3) (by omega) (by omega) (by omega) (by omega)) (hR := ?_))
          rintro r a3 ha3 ⟨k3, rfl, p3, q3⟩
          refine ⟨rfl, _, (by repeat constructor), ?_⟩
          refine o_ (h:=?_)
          refine c_ 7 rfl (s_gen 0 (hc := Gfile l _ s.files (by omega) hv.files.b hv.files.ne) (hR := ?_))
          rintro r a4 ha4 ⟨x4, rfl⟩
          refine ⟨rfl, _, (by repeat constructor), ?_⟩
          refine o_ (h:=dbd_ 8 (h:=dbs_ 9 (h:=?_)))
          refine c_ 10 rfl (st_appendB rfl rfl rfl (by rw [rowsB_len (mnt_three _) (by simpa using hcap)]; omega) (SrcA.sl _ _) (Nat.le_refl 1) (by show s.mounts.length + 1 ≤ _; omega) ?_ ?_)
          · rintro hg row2 bx2 hs2 hb2
            have hg1 : s.mounts.length + 1 ≤ cap := hg
            rw [show s.mounts.length = (s.mounts.map mntA).length from (List.length_map ..).symm] at hs2
            have e2 := rowsB_push (r := mntA (k3, x4)) (mnt_three s.mounts) rfl (by omega) (by simpa using hg1) hs2
            rw [map_snoc] at e2
            subst e2
            obtain rfl : bx2 = [_, _, _, _] := hb2.one.2
            refine o_ (h:=?_)
            refine df_ 11 (h:=?_)
            refine c0_ 12 rfl (s_store rfl rfl rfl rfl rfl rfl (by repeat constructor) (by repeat constructor) ?_)
            refine o_ (h:=z_ (h:=?_))
            refine x_then ?_
            first | (refine ⟨_, ⟨a4, s.mounts ++ [(k3, x4)], cap, ?_, ?_, ?_, ?_, rfl⟩, (by rw [len_snoc]; exact weak_of 4 0 rfl rfl rfl (by simp [bpLtB, bpLtL, bpLt, bp_mnts, spcA, srcA, -List.map_append]) (by repeat (first | exact Sub.nil | refine Sub.cons _ _ _ rfl rfl ?_ | refine Sub.any _ _ ?_ | refine Sub.sl _ _ _ _ _ rfl ?_ | refine Sub.slnil _ _ _ rfl ?_)))⟩ <;> (try rw [len_snoc]) <;> omega) | (refine ⟨_, ⟨a4, s.mounts ++ [(k3, x4)], cap3, ?_, ?_, ?_, ?_, rfl⟩, (by rw [len_snoc]; exact weak_ren [0, 1, 2, 4] (fun i hi => absurd hi (Nat.not_lt_zero i)) (by decide) (.cons _ _ _ _ _ rfl rfl (.cons _ _ _ _ _ rfl rfl (.cons _ _ _ _ _ rfl rfl (.cons _ _ _ _ _ rfl (renK_rows (mnt_plain _)) .nil)))) (.cons _ _ _ _ rfl (LeA.refl _) (.cons _ _ _ _ rfl (LeA.refl _) (.cons _ _ _ _ rfl (LeA.refl _) (.cons _ _ _ _ rfl (LeA.refl _) .nil)))))⟩ <;> (try rw [len_snoc]) <;> omega)
          · rintro hg cap3 k bx2 hcp3 hs2
            have hg1 : s.mounts.length + 1 ≤ cap3 := hcp3
            obtain ⟨rfl, e2⟩ := hs2.eq
            have e3 := rowsB_new (cap := cap3) (cap0 := cap) (r := mntA (k3, x4)) (mnt_three s.mounts) (n := s.mounts.length) (by simp)
            rw [map_snoc] at e3
            rw [show bx2 = [_, _, _, _, rowsB 3 cap3 ((s.mounts ++ [(k3, x4)]).map mntA)] from e2.trans (congrArg (fun x => [_, _, _, _, x]) e3)]
            refine o_ (h:=?_)
            refine df_ 11 (h:=?_)
            refine c0_ 12 rfl (s_store rfl rfl rfl rfl rfl rfl (by repeat constructor) (by repeat constructor) ?_)
            refine o_ (h:=z_ (h:=?_))
            refine x_then ?_
            first | (refine ⟨_, ⟨a4, s.mounts ++ [(k3, x4)], cap, ?_, ?_, ?_, ?_, rfl⟩, (by rw [len_snoc]; exact weak_of 4 0 rfl rfl rfl (by simp [bpLtB, bpLtL, bpLt, bp_mnts, spcA, srcA, -List.map_append]) (by repeat (first | exact Sub.nil | refine Sub.cons _ _ _ rfl rfl ?_ | refine Sub.any _ _ ?_ | refine Sub.sl _ _ _ _ _ rfl ?_ | refine Sub.slnil _ _ _ rfl ?_)))⟩ <;> (try rw [len_snoc]) <;> omega) | (refine ⟨_, ⟨a4, s.mounts ++ [(k3, x4)], cap3, ?_, ?_, ?_, ?_, rfl⟩, (by rw [len_snoc]; exact weak_ren [0, 1, 2, 4] (fun i hi => absurd hi (Nat.not_lt_zero i)) (by decide) (.cons _ _ _ _ _ rfl rfl (.cons _ _ _ _ _ rfl rfl (.cons _ _ _ _ _ rfl rfl (.cons _ _ _ _ _ rfl (renK_rows (mnt_plain _)) .nil)))) (.cons _ _ _ _ rfl (LeA.refl _) (.cons _ _ _ _ rfl (LeA.refl _) (.cons _ _ _ _ rfl (LeA.refl _) (.cons _ _ _ _ rfl (LeA.refl _) .nil)))))⟩ <;> (try rw [len_snoc]) <;> omega)
        · rintro t ⟨b, ms, cap, hb, hm2, hm10, hmc, rfl⟩
          refine w_ (l_ (h:=?_))
          refine al_p rfl (q_call (RspcF s hsb) ?_)
          rintro r rfl
          refine al_ (h:=s_ (h:=e_ (w_ (m_ (h:=f_ (h:=s_ (h:=e_ (?_))))))))
          refine aw_midI (fun t => ∃ ms : List Mnt, ms.length ≤ 10 ∧ t = ⟨look [(6, .bp 0 0), (7, .bp 1 0), (8, .bp 2 0)], ⟨[spcA s, spcA ⟨s.files, ms⟩, spcA ⟨s.files, raw⟩], []⟩⟩) ?_ ?_
          · skip
            refine w_ (f_ (h:=l_ (h:=?_)))
            refine al_p rfl (st_lenB rfl ?_)
            refine gt_ (h:=m_ (h:=?_))
            refine al_gs true rfl rfl (fun hb6 => ?_) (fun hb6 => ?_)
            · have hc6 := bp hb6
              obtain ⟨m0, h0⟩ : ∃ x, ms[0]? = some x := ⟨_, List.getElem?_eq_getElem (by omega)⟩
              obtain ⟨m1, h1⟩ : ∃ x, ms[1]? = some x := ⟨_, List.getElem?_eq_getElem (by omega)⟩
              have hy0 : (ms.map mntA)[0]? = some (mntA m0) := by rw [List.getElem?_map, h0]; rfl
              have hy1 : (ms.map mntA)[1]? = some (mntA m1) := by rw [List.getElem?_map, h1]; rfl
              have hset0 := rowsB_put (sz := 3) (cap := cap) (r' := mntA m1) (mnt_three ms) hy0 rfl (by omega)
              have hset1 := rowsB_put (sz := 3) (cap := cap) (q := 1) (r := mntA m1) (r' := mntA m0) (rows := (ms.map mntA).set 0 (mntA m1)) (by rw [← List.map_set]; exact mnt_three _) (by rw [List.getElem?_set_ne (by omega)]; exact hy1) rfl (by omega)
              refine m_ (h:=?_)
              refine g_y (s_gen 0 (hc := Gn l _ (2) (by omega) (by omega)) (hR := ?_))
              rintro r a5 ha5 ⟨k5, rfl, p5, q5, o5⟩
              refine ⟨rfl, _, (by repeat constructor), ?_⟩
              refine eq_ (h:=pt_ (h:=e_ (?_)))
              refine aw_cond rfl (fun hb7 => ?_) (fun hb7 => ?_)
              · have hc7 := bp hb7
                obtain ⟨m0, h0⟩ : ∃ x, ms[0]? = some x := ⟨_, List.getElem?_eq_getElem (by omega)⟩
                obtain ⟨m1, h1⟩ : ∃ x, ms[1]? = some x := ⟨_, List.getElem?_eq_getElem (by omega)⟩
                have hy0 : (ms.map mntA)[0]? = some (mntA m0) := by rw [List.getElem?_map, h0]; rfl
                have hy1 : (ms.map mntA)[1]? = some (mntA m1) := by rw [List.getElem?_map, h1]; rfl
                have hset0 := rowsB_put (sz := 3) (cap := cap) (r' := mntA m1) (mnt_three ms) hy0 rfl (by omega)
                have hset1 := rowsB_put (sz := 3) (cap := cap) (q := 1) (r := mntA m1) (r' := mntA m0) (rows := (ms.map mntA).set 0 (mntA m1)) (by rw [← List.map_set]; exact mnt_three _) (by rw [List.getElem?_set_ne (by omega)]; exact hy1) rfl (by omega)
                refine yk_ ([(2, [AV.sl 2 (s.files.map dvcA) none, AV.bs 3 0 3 ms.length cap])]) 15 (h:=df_ 0 (h:=dl_ 1 (h:=df_ 2 (h:=dl_ 3 (h:=df_ 4 (h:=dl_ 5 (h:=?_)))))))
                refine tk_ 6 rfl (fun _ hS => st_indexS (m := 1) rfl rfl rfl (by omega) ⟨rfl, rfl⟩) ?_
                refine df_ 8 (h:=dl_ 9 (h:=?_))
                refine tk_ 10 rfl (fun _ hS => st_indexS (m := 0) rfl rfl rfl (by omega) ⟨rfl, rfl⟩) ?_
                refine c2_ 7 11 rfl rfl ?_ ?_
                · refine st_loadBE rfl rfl (rowsB_at (mnt_three ms) hy1 (by simpa using hmc)).1 (rowsB_at (mnt_three ms) hy1 (by simpa using hmc)).2 ?_
                  refine o_ (h:=?_)
                  refine c_ 11 rfl (st_loadBE rfl rfl (rowsB_at (mnt_three ms) hy0 (by simpa using hmc)).1 (rowsB_at (mnt_three ms) hy0 (by simpa using hmc)).2 ?_)
                  refine o_ (h:=?_)
                  refine tk_ 12 rfl (fun _ hS => st_indexS (m := 0) rfl rfl rfl (by omega) ⟨rfl, rfl⟩) ?_
                  refine c0_ 13 rfl (s_store rfl rfl rfl rfl rfl rfl hset0 (by repeat constructor) ?_)
                  refine o_ (h:=?_)
                  refine tk_ 14 rfl (fun _ hS => st_indexS (m := 1) rfl rfl rfl (by omega) ⟨rfl, rfl⟩) ?_
                  refine c0_ 15 rfl (s_store rfl rfl rfl rfl rfl rfl hset1 (by repeat constructor) ?_)
                  refine o_ (h:=z_ (h:=?_))
                  refine x_then ?_
                  first | exact ⟨_, ⟨ms, (by omega), rfl⟩, Weak.trans (s' := ⟨look [(6, .bp 0 0), (7, .bp 1 0), (8, .bp 2 0)], ⟨[spcA s, [AV.sl 2 (s.files.map dvcA) none, AV.bs 3 0 3 ms.length cap], spcA ⟨s.files, raw⟩, rowsB 3 cap ((ms).map mntA)], []⟩⟩) (by exact weak_ren [1, 2, 4, 3] (fun i hi => absurd hi (Nat.not_lt_zero i)) (by decide) (.cons _ _ _ _ _ rfl rfl (.cons _ _ _ _ _ rfl rfl (.cons _ _ _ _ _ rfl rfl (.cons _ _ _ _ _ rfl (renK_rows (mnt_plain _)) .nil)))) (.cons _ _ _ _ rfl (LeA.refl _) (.cons _ _ _ _ rfl (LeA.refl _) (.cons _ _ _ _ rfl (LeA.refl _) .nil)))) (weak_fz 3 1 rfl (congrArg (fun x : AV => ([spcA s, [AV.sl 2 (s.files.map dvcA) none, x], spcA ⟨s.files, raw⟩] : List (List AV))) (liv_rows (n := 3) (j := 3) (sz := 3) (m := ms.length) (cap0 := cap) (cap := cap) (rows := (ms).map mntA) (Nat.le_of_ble_eq_true rfl) (frz_plain (n := 3) (k := 0) (j := 3) (Nat.le_of_ble_eq_true rfl) rfl (mnt_plain _)) (mnt_three _) (by simp) (by simpa using hmc))) (.cons _ _ _ _ rfl (LeA.refl _) (.cons _ _ _ _ rfl (LeA.refl _) (.cons _ _ _ _ rfl (LeA.refl _) .nil))))⟩ | exact ⟨_, ⟨(ms.set 0 m1).set 1 m0, (by rw [List.length_set, List.length_set]; omega), rfl⟩, Weak.trans (s' := ⟨look [(6, .bp 0 0), (7, .bp 1 0), (8, .bp 2 0)], ⟨[spcA s, [AV.sl 2 (s.files.map dvcA) none, AV.bs 3 0 3 ms.length cap], spcA ⟨s.files, raw⟩, rowsB 3 cap (((ms.set 0 m1).set 1 m0).map mntA)], []⟩⟩) (by exact weak_ren [1, 2, 4, 3] (fun i hi => absurd hi (Nat.not_lt_zero i)) (by decide) (.cons _ _ _ _ _ rfl rfl (.cons _ _ _ _ _ rfl rfl (.cons _ _ _ _ _ rfl rfl (.cons _ _ _ _ _ rfl (renK_swap ms m0 m1) .nil)))) (.cons _ _ _ _ rfl (LeA.refl _) (.cons _ _ _ _ rfl (LeA.refl _) (.cons _ _ _ _ rfl (LeA.refl _) .nil)))) (weak_fz 3 1 rfl (congrArg (fun x : AV => ([spcA s, [AV.sl 2 (s.files.map dvcA) none, x], spcA ⟨s.files, raw⟩] : List (List AV))) (liv_rows (n := 3) (j := 3) (sz := 3) (m := ms.length) (cap0 := cap) (cap := cap) (rows := ((ms.set 0 m1).set 1 m0).map mntA) (Nat.le_of_ble_eq_true rfl) (frz_plain (n := 3) (k := 0) (j := 3) (Nat.le_of_ble_eq_true rfl) rfl (mnt_plain _)) (mnt_three _) (by simp) (by simpa using hmc))) (.cons _ _ _ _ rfl (LeA.refl _) (.cons _ _ _ _ rfl (LeA.refl _) (.cons _ _ _ _ rfl (LeA.refl _) .nil))))⟩
                · refine st_loadBE rfl rfl (rowsB_at (mnt_three ms) hy0 (by simpa using hmc)).1 (rowsB_at (mnt_three ms) hy0 (by simpa using hmc)).2 ?_
                  refine o_ (h:=?_)
                  refine c_ 7 rfl (st_loadBE rfl rfl (rowsB_at (mnt_three ms) hy1 (by simpa using hmc)).1 (rowsB_at (mnt_three ms) hy1 (by simpa using hmc)).2 ?_)
                  refine o_ (h:=?_)
                  refine tk_ 12 rfl (fun _ hS => st_indexS (m := 0) rfl rfl rfl (by omega) ⟨rfl, rfl⟩) ?_
                  refine c0_ 13 rfl (s_store rfl rfl rfl rfl rfl rfl hset0 (by repeat constructor) ?_)
                  refine o_ (h:=?_)
                  refine tk_ 14 rfl (fun _ hS => st_indexS (m := 1) rfl rfl rfl (by omega) ⟨rfl, rfl⟩) ?_
                  refine c0_ 15 rfl (s_store rfl rfl rfl rfl rfl rfl hset1 (by repeat constructor) ?_)
                  refine o_ (h:=z_ (h:=?_))
                  refine x_then ?_
                  first | exact ⟨_, ⟨ms, (by omega), rfl⟩, Weak.trans (s' := ⟨look [(6, .bp 0 0), (7, .bp 1 0), (8, .bp 2 0)], ⟨[spcA s, [AV.sl 2 (s.files.map dvcA) none, AV.bs 3 0 3 ms.length cap], spcA ⟨s.files, raw⟩, rowsB 3 cap ((ms).map mntA)], []⟩⟩) (by exact weak_ren [1, 2, 4, 3] (fun i hi => absurd hi (Nat.not_lt_zero i)) (by decide) (.cons _ _ _ _ _ rfl rfl (.cons _ _ _ _ _ rfl rfl (.cons _ _ _ _ _ rfl rfl (.cons _ _ _ _ _ rfl (renK_rows (mnt_plain _)) .nil)))) (.cons _ _ _ _ rfl (LeA.refl _) (.cons _ _ _ _ rfl (LeA.refl _) (.cons _ _ _ _ rfl (LeA.refl _) .nil)))) (weak_fz 3 1 rfl (congrArg (fun x : AV => ([spcA s, [AV.sl 2 (s.files.map dvcA) none, x], spcA ⟨s.files, raw⟩] : List (List AV))) (liv_rows (n := 3) (j := 3) (sz := 3) (m := ms.length) (cap0 := cap) (cap := cap) (rows := (ms).map mntA) (Nat.le_of_ble_eq_true rfl) (frz_plain (n := 3) (k := 0) (j := 3) (Nat.le_of_ble_eq_true rfl) rfl (mnt_plain _)) (mnt_three _) (by simp) (by simpa using hmc))) (.cons _ _ _ _ rfl (LeA.refl _) (.cons _ _ _ _ rfl (LeA.refl _) (.cons _ _ _ _ rfl (LeA.refl _) .nil))))⟩ | exact ⟨_, ⟨(ms.set 0 m1).set 1 m0, (by rw [List.length_set, List.length_set]; omega), rfl⟩, Weak.trans (s' := ⟨look [(6, .bp 0 0), (7, .bp 1 0), (8, .bp 2 0)], ⟨[spcA s, [AV.sl 2 (s.files.map dvcA) none, AV.bs 3 0 3 ms.length cap], spcA ⟨s.files, raw⟩, rowsB 3 cap (((ms.set 0 m1).set 1 m0).map mntA)], []⟩⟩) (by exact weak_ren [1, 2, 4, 3] (fun i hi => absurd hi (Nat.not_lt_zero i)) (by decide) (.cons _ _ _ _ _ rfl rfl (.cons _ _ _ _ _ rfl rfl (.cons _ _ _ _ _ rfl rfl (.cons _ _ _ _ _ rfl (renK_swap ms m0 m1) .nil)))) (.cons _ _ _ _ rfl (LeA.refl _) (.cons _ _ _ _ rfl (LeA.refl _) (.cons _ _ _ _ rfl (LeA.refl _) .nil)))) (weak_fz 3 1 rfl (congrArg (fun x : AV => ([spcA s, [AV.sl 2 (s.files.map dvcA) none, x], spcA ⟨s.files, raw⟩] : List (List AV))) (liv_rows (n := 3) (j := 3) (sz := 3) (m := ms.length) (cap0 := cap) (cap := cap) (rows := ((ms.set 0 m1).set 1 m0).map mntA) (Nat.le_of_ble_eq_true rfl) (frz_plain (n := 3) (k := 0) (j := 3) (Nat.le_of_ble_eq_true rfl) rfl (mnt_plain _)) (mnt_three _) (by simp) (by simpa using hmc))) (.cons _ _ _ _ rfl (LeA.refl _) (.cons _ _ _ _ rfl (LeA.refl _) (.cons _ _ _ _ rfl (LeA.refl _) .nil))))⟩
              · have hc7 := bp hb7
                refine aw_skip (?_)
                refine x_then ?_
                first | exact ⟨_, ⟨ms, (by omega), rfl⟩, Weak.trans (s' := ⟨look [(6, .bp 0 0), (7, .bp 1 0), (8, .bp 2 0)], ⟨[spcA s, [AV.sl 2 (s.files.map dvcA) none, AV.bs 3 0 3 ms.length cap], spcA ⟨s.files, raw⟩, rowsB 3 cap ((ms).map mntA)], []⟩⟩) (by exact weak_ren [1, 2, 4, 3] (fun i hi => absurd hi (Nat.not_lt_zero i)) (by decide) (.cons _ _ _ _ _ rfl rfl (.cons _ _ _ _ _ rfl rfl (.cons _ _ _ _ _ rfl rfl (.cons _ _ _ _ _ rfl (renK_rows (mnt_plain _)) .nil)))) (.cons _ _ _ _ rfl (LeA.refl _) (.cons _ _ _ _ rfl (LeA.refl _) (.cons _ _ _ _ rfl (LeA.refl _) .nil)))) (weak_fz 3 1 rfl (congrArg (fun x : AV => ([spcA s, [AV.sl 2 (s.files.map dvcA) none, x], spcA ⟨s.files, raw⟩] : List (List AV))) (liv_rows (n := 3) (j := 3) (sz := 3) (m := ms.length) (cap0 := cap) (cap := cap) (rows := (ms).map mntA) (Nat.le_of_ble_eq_true rfl) (frz_plain (n := 3) (k := 0) (j := 3) (Nat.le_of_ble_eq_true rfl) rfl (mnt_plain _)) (mnt_three _) (by simp) (by simpa using hmc))) (.cons _ _ _ _ rfl (LeA.refl _) (.cons _ _ _ _ rfl (LeA.refl _) (.cons _ _ _ _ rfl (LeA.refl _) .nil))))⟩ | exact ⟨_, ⟨(ms.set 0 m1).set 1 m0, (by rw [List.length_set, List.length_set]; omega), rfl⟩, Weak.trans (s' := ⟨look [(6, .bp 0 0), (7, .bp 1 0), (8, .bp 2 0)], ⟨[spcA s, [AV.sl 2 (s.files.map dvcA) none, AV.bs 3 0 3 ms.length cap], spcA ⟨s.files, raw⟩, rowsB 3 cap (((ms.set 0 m1).set 1 m0).map mntA)], []⟩⟩) (by exact weak_ren [1, 2, 4, 3] (fun i hi => absurd hi (Nat.not_lt_zero i)) (by decide) (.cons _ _ _ _ _ rfl rfl (.cons _ _ _ _ _ rfl rfl (.cons _ _ _ _ _ rfl rfl (.cons _ _ _ _ _ rfl (renK_swap ms m0 m1) .nil)))) (.cons _ _ _ _ rfl (LeA.refl _) (.cons _ _ _ _ rfl (LeA.refl _) (.cons _ _ _ _ rfl (LeA.refl _) .nil)))) (weak_fz 3 1 rfl (congrArg (fun x : AV => ([spcA s, [AV.sl 2 (s.files.map dvcA) none, x], spcA ⟨s.files, raw⟩] : List (List AV))) (liv_rows (n := 3) (j := 3) (sz := 3) (m := ms.length) (cap0 := cap) (cap := cap) (rows := ((ms.set 0 m1).set 1 m0).map mntA) (Nat.le_of_ble_eq_true rfl) (frz_plain (n := 3) (k := 0) (j := 3) (Nat.le_of_ble_eq_true rfl) rfl (mnt_plain _)) (mnt_three _) (by simp) (by simpa using hmc))) (.cons _ _ _ _ rfl (LeA.refl _) (.cons _ _ _ _ rfl (LeA.refl _) (.cons _ _ _ _ rfl (LeA.refl _) .nil))))⟩
            · have hc6 := bp hb6
              exfalso; simp at hc6; omega
          · rintro t ⟨ms, hm10, rfl⟩
            have hyb : SpcB ⟨s.files, ms⟩ := ⟨hsb.files, by show ms.length ≤ 1000; omega⟩
            refine q_ (yr_ 20 (h:=dl_ 0 (h:=?_)))
            refine c_ 1 rfl (q_call (Pvalid_ok hsb hv) ?_)
            rintro r rfl
            refine o_ (h:=dm_ 2 (h:=?_))
            refine aa_both (j := 2) rfl (fun hb8 => ?_) (fun hb8 => ?_)
            · have hc8 := bp hb8
              refine dl_ 3 (h:=dl_ 5 (h:=?_))
              refine c_ 4 rfl (q_call (PvS hyb hv.files hv.pos) ?_)
              rintro r rfl
              refine o_ (h:=?_)
              refine c_ 6 rfl (q_call (RvS hyb hv.files hv.pos) ?_)
              rintro r rfl
              refine o_ (h:=deq_ 7 (h:=dpt_ 8 (h:=dm_ 9 (h:=?_))))
              refine aa_both (j := 9) rfl (fun hb9 => ?_) (fun hb9 => ?_)
              · have hc9 := bp hb9
                refine dl_ 10 (h:=dl_ 12 (h:=?_))
                refine c_ 11 rfl (q_call (PvS hrb hv.files hv.pos) ?_)
                rintro r rfl
                refine o_ (h:=?_)
                refine c_ 13 rfl (q_call (RvS hrb hv.files hv.pos) ?_)
                rintro r rfl
                refine o_ (h:=deq_ 14 (h:=dpt_ 15 (h:=dm_ 16 (h:=?_))))
                refine aa_both (j := 16) rfl (fun hb10 => ?_) (fun hb10 => ?_)
                · have hc10 := bp hb10
                  refine c_ 17 rfl (q_call (Lawake) ?_)
                  rintro r rfl
                  refine o_ (h:=dpt_ 18 (h:=da_ 19 (h:=z_ (h:=t_ (aw_ret (?_))))))
                  refine e_ret ?_
                  first | rfl | (exfalso; simp_all; done)
                · have hc10 := bp hb10
                  refine d0_ 17 (h:=dpf_ 18 (h:=da_ 19 (h:=z_ (h:=t_ (aw_ret (?_))))))
                  refine e_ret ?_
                  first | rfl | (exfalso; simp_all; done)
              · have hc9 := bp hb9
                refine d0_ 10 (h:=d0_ 11 (h:=d0_ 12 (h:=d0_ 13 (h:=d0_ 14 (h:=dpf_ 15 (h:=dm_ 16 (h:=d0_ 17 (h:=dpf_ 18 (h:=da_ 19 (h:=z_ (h:=t_ (aw_ret (?_)))))))))))))
                refine e_ret ?_
                first | rfl | (exfalso; simp_all; done)
            · have hc8 := bp hb8
              refine d0_ 3 (h:=d0_ 4 (h:=d0_ 5 (h:=d0_ 6 (h:=d0_ 7 (h:=dpf_ 8 (h:=dm_ 9 (h:=d0_ 10 (h:=d0_ 11 (h:=d0_ 12 (h:=d0_ 13 (h:=d0_ 14 (h:=dpf_ 15 (h:=dm_ 16 (h:=d0_ 17 (h:=dpf_ 18 (h:=da_ 19 (h:=z_ (h:=t_ (aw_ret (?_))))))))))))))))))))
              refine e_ret ?_
              first | rfl | (exfalso; simp_all; done)

end
end Go.Proofs.Ytgliiknfmlmddaa
namespace Go.Proofs.Ytgliiknfmlmddaa
open Go.RowKit

abbrev IsI (r : List AV) : Prop := ∃ n, r = [.v (.int .i64 n)] ∧ (Lit.int .i64 n).wf = true
theorem opI : Opens Try.prog 3 IsI := opens_int Try.underlying3
theorem opFile : Opens Try.prog 24 (fun r => ∃ x : Fil, r = filA x) :=
  (opens_fields (l := [(0, 3, 1), (1, 3, 1)]) (n := 2) (by kernel_rfl) (.cons _ _ _ _ _ _ _ opI (.cons _ _ _ _ _ _ _ opI (.nil _)))).mono (by
    rintro r ⟨_, _, ⟨a, rfl, _⟩, ⟨_, _, ⟨b, rfl, _⟩, rfl, rfl⟩, rfl⟩
    exact ⟨(a, b), rfl⟩)
end Go.Proofs.Ytgliiknfmlmddaa
namespace Go.Proofs.Ytgliiknfmlmddaa
open Go.RowKit
theorem opMount : Opens Try.prog 60 (fun r => ∃ x : Mnt, r = mntA x) :=
  (opens_fields (l := [(0, 3, 1), (1, 24, 2)]) (n := 3) (by kernel_rfl) (.cons _ _ _ _ _ _ _ opI (.cons _ _ _ _ _ _ _ opFile (.nil _)))).mono (by
    rintro r ⟨_, _, ⟨a, rfl, _⟩, ⟨_, _, ⟨b, rfl⟩, rfl, rfl⟩, rfl⟩
    exact ⟨(a, b), rfl⟩)
theorem opMounts : Opens Try.prog 30 (fun r => ∃ l : List Mnt, r = [.sl 3 (l.map mntA) none]) :=
  (opens_slice (n := 3) Try.underlying30 (by kernel_rfl) (by omega) opMount).mono (by
    rintro r ⟨rows, rfl, _, hr⟩
    obtain ⟨l, rfl, _⟩ := rows_map (enc := mntA) (Q := fun _ => True) (fun x hx => by obtain ⟨t, rfl⟩ := hr x hx; exact ⟨t, rfl, trivial⟩)
    exact ⟨l, rfl⟩)
theorem MountsValid_walk {H : Type} {enc : TypeId × Value → H} {sp : Nat → Bool} {held : Bool} {base : Nat} (a : Option Addr) (n c : Nat) (a2 : Option Addr) (n2 c2 : Nat) (w : World) {d d2 : DataW H} {p p2 : List MemPlace} (h : DataW.Trod enc Try.prog w base sp held 22 (.slice a n c) d p) (h2 : DataW.Trod enc Try.prog w base sp held 30 (.slice a2 n2 c2) d2 p2) :
    Calls Try.prog 10 #[.slice a n c, .slice a2 n2 c2] w fun e w' => e = .returned (.bool true) ∧ Below w.heap.size w w' := by
  obtain ⟨l, k⟩ := ints_one h
  obtain ⟨r2, ⟨raw, rfl⟩, k2⟩ := opMounts.one rfl h2
  simp only [froL] at k2
  obtain ⟨_, _, e2, k2, rfl⟩ := k2
  injection e2 with e2
  subst e2
  refine calls_of (vs := [.slice a n c, .slice a2 n2 c2]) (Lvalid l raw) (StAll w) (fun b o h => h) ?_
  simp only [repL]
  exact ⟨_, _, rfl, k, _, _, rfl, rep_fro (G := ⟨StAll w, [], []⟩) _ _ k2, rfl⟩
end Go.Proofs.Ytgliiknfmlmddaa
