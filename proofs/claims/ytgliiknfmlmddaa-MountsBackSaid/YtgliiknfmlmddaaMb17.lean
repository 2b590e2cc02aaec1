/-
  Part 17 of the proof of MountsBackP: what the statement's proof uses of the texts in wip/tpl.
-/
import Derived.Test.YtgliiknfmlmddaaMb16
namespace Go.Proofs.Ytgliiknfmlmddaa
open Go.RowKit

theorem clone_row {sz cap : Nat} {rows : List (List AV)} : (([] : List AV).drop 0).take (0 * sz) ++ rows.flatten ++ List.replicate ((cap - (0 + rows.length)) * sz) .any = rowsB sz cap rows := by
  unfold rowsB
  simp
theorem mnt_plain (l : List Mnt) : ∀ r ∈ l.map mntA, ∀ x ∈ r, ∃ v, x = .v v := by
  intro r hr x hx
  obtain ⟨c, _, rfl⟩ := List.mem_map.1 hr
  simp [mntA] at hx
  rcases hx with h | h | h <;> exact ⟨_, h⟩
theorem mnt_three (l : List Mnt) : ∀ r ∈ l.map mntA, r.length = 3 := by
  intro r hr
  obtain ⟨c, _, rfl⟩ := List.mem_map.1 hr
  rfl
theorem bp_plain {n m sz cap : Nat} {rows : List (List AV)} (h : ∀ r ∈ rows, ∀ x ∈ r, ∃ v, x = .v v) : bpLtL n m (rowsB sz cap rows) = true :=
  bpLt_rowsB fun r hr => bpLtL_all.2 fun x hx => by obtain ⟨v, rfl⟩ := h r hr x hx; rfl
theorem map_plain {F : AV → AV} (hany : F .any = .any) (hv : ∀ x, F (.v x) = .v x) {sz cap : Nat} {rows : List (List AV)} (h : ∀ r ∈ rows, ∀ x ∈ r, ∃ v, x = .v v) : (rowsB sz cap rows).map F = rowsB sz cap rows := by
  rw [rowsB_map F hany]
  congr 1
  conv => rhs; rw [← List.map_id rows]
  apply List.map_congr_left
  intro r hr
  conv => rhs; rw [id, ← List.map_id r]
  apply List.map_congr_left
  intro x hx
  obtain ⟨v, rfl⟩ := h r hr x hx
  exact hv v
theorem ren_rows {g : Nat → Option Nat} {sz cap : Nat} {rows : List (List AV)} (h : ∀ r ∈ rows, ∀ x ∈ r, ∃ v, x = .v v) : renL g (rowsB sz cap rows) = rowsB sz cap rows := by
  rw [renL_map]
  exact map_plain rfl (fun _ => rfl) h
theorem liv_plain {n : Nat} {g : Nat → Option (List AV)} {sz cap : Nat} {rows : List (List AV)} (h : ∀ r ∈ rows, ∀ x ∈ r, ∃ v, x = .v v) : livL n g (rowsB sz cap rows) = rowsB sz cap rows := by
  rw [livL_map]
  exact map_plain rfl (fun _ => rfl) h
theorem NB_same {ns : List Nod} {cap j : Nat} {n : Nod} (h : ns[j]? = some n) : SetAt (NB ns cap) (0 + j * 8 + 7) [.sl 2 (n.entries.map entA) none] (NB ns cap) := by
  have key := NB_set (cap1 := cap) (n' := n) (k := 7) (cs := [.sl 2 (n.entries.map entA) none]) h (by repeat constructor) (by simp)
  have e : ns.set j n = ns := by
    obtain ⟨h1, h2⟩ := List.getElem?_eq_some_iff.1 h
    rw [← h2, List.set_getElem_self]
  rwa [e] at key
theorem back_newR {bx : List (List AV)} (r1 r2 : List AV) (h1 : renL (backS [] bx.length) r1 = r1) (h2 : renL (backS [] bx.length) r2 = r2) : Back bx [] [r1, r2] (bx ++ [r1, r2]) := by
  refine ⟨by simp, fun i row _ h => ?_, fun k i row h => by simp at h, fun k row h => ?_⟩
  · rw [List.getElem?_append_left (List.getElem?_eq_some_iff.1 h).1]; exact h
  · rw [List.getElem?_append_right (by omega), show bx.length + k - bx.length = k by omega]
    simp only [List.length_nil, Nat.zero_add] at h
    match k, h with
    | 0, h => injection h with h; subst h; rw [h1]; rfl
    | 1, h => injection h with h; subst h; rw [h2]; rfl
    | k + 2, h => simp at h
section
set_option maxRecDepth 10000
set_option maxHeartbeats 1000000
theorem PcloneN (ns : List Nod) (h1 : ns.length ≤ 1000) (h0 : 0 < ns.length) : ACall Try.prog 75 [.sl 8 (ns.map nodA) none] [] (fun r b t => t = [] ∧ ∃ cap, ns.length ≤ cap ∧ r = .bs 1 0 8 ns.length cap ∧ b = [[], NB ns cap]) := by
  have hml : (ns.map nodA).length = ns.length := by simp
  refine enter Try.func75 rfl rfl rfl rfl rfl 2 rfl ?_
  refine p_sr (fun K hK => ?_)
  refine p_as ?_
  refine al_nil (x_then (hK _ ?_))
  clear hK K
  refine aw_seq (fun K hK => ?_)
  refine p_sr (fun K hK => ?_)
  refine p_mv ?_
  refine al_p rfl (st_eqNil rfl rfl ?_)
  intro b hb
  refine al_nil (x_then (hK _ ?_))
  clear hK K
  refine aw_cond rfl (fun hb1 => ?_) (fun hb1 => ?_)
  · have hc1 := bp hb1
    exfalso
    have := hb hb1
    rw [this] at hml
    simp at hml
    omega
  · have hc1 := bp hb1
    refine aw_skip ?_
    refine x_then ?_
    refine hK _ ?_
    clear hK K
    refine p_sr (fun K hK => ?_)
    refine al_p rfl (st_slit0B (k := 0) (by repeat constructor) ?_)
    refine p_mv ?_
    refine al_p rfl (st_appendB rfl rfl rfl (Nat.le_of_ble_eq_true rfl) (SrcA.sl _ _) (by omega) (by omega) (fun h => absurd h (by omega)) ?_)
    rintro hg cap k bx2 hcp hs
    rw [clone_row] at hs
    obtain ⟨rfl, rfl⟩ : k = 1 ∧ bx2 = [_, NB ns cap] := hs.eq
    refine p_as ?_
    refine al_nil (x_then (hK _ ?_))
    clear hK K
    refine aw_ret ?_
    refine abody_ret (r := .bs 1 0 8 ns.length cap) none (by repeat (first | exact ResA.nil | (apply ResA.tmp; (focus exact rfl)) | (apply ResA.cellN; (focus exact inferInstance); (focus exact rfl); (focus exact rfl); (focus exact rfl)) | (apply ResA.cell1; (focus exact inferInstance); (focus exact rfl); (focus exact rfl); (focus exact rfl)))) rfl rfl (by simp [bpLtB, bpLtL, bp_NB]) (LeA.of_eq (by rw [show reT none (tupA [AV.bs 1 0 8 (0 + (ns.map nodA).length) cap]) = AV.bs 1 0 8 (0 + (ns.map nodA).length) cap from rfl, hml, Nat.zero_add])) ⟨rfl, cap, by omega, rfl, rfl⟩

theorem PcloneE (es : List Ent) (h1 : es.length ≤ 1000) : AFn Try.prog 76 [.sl 2 (es.map entA) none] (fun x => x = .sl 2 (es.map entA) none) := by
  refine enter Try.func76 rfl rfl rfl rfl rfl 0 rfl ?_
  refine p_sr (fun K hK => ?_)
  refine p_as ?_
  refine al_nil (x_then (hK _ ?_))
  clear hK K
  refine aw_seq (fun K hK => ?_)
  refine p_sr (fun K hK => ?_)
  refine p_mv ?_
  refine al_p rfl (st_eqNil rfl rfl ?_)
  intro b hb
  refine al_nil (x_then (hK _ ?_))
  clear hK K
  refine aw_cond rfl (fun hb1 => ?_) (fun hb1 => ?_)
  · have hc1 := bp hb1
    refine p_sr (fun K hK => ?_)
    refine p_as ?_
    refine al_nil (x_then (hK _ ?_))
    clear hK K
    refine aw_ret ?_
    refine x_thenR ?_
    clear hK K
    refine abody_ret (xs := [.v (.slice none 0 0)]) (r := .sl 2 [] none) none (by repeat (first | exact ResA.nil | (apply ResA.tmp; (focus exact rfl)) | (apply ResA.cellN; (focus exact inferInstance); (focus exact rfl); (focus exact rfl); (focus exact rfl)) | (apply ResA.cell1; (focus exact inferInstance); (focus exact rfl); (focus exact rfl); (focus exact rfl)))) rfl rfl rfl (LeA.nil _) ⟨rfl, rfl, ?_⟩
    rw [hb hc1]
  · have hc1 := bp hb1
    refine aw_skip ?_
    refine x_then ?_
    refine hK _ ?_
    clear hK K
    refine p_sr (fun K hK => ?_)
    refine al_p rfl (s_slit0 (by repeat constructor) ?_)
    refine p_mv ?_
    first | refine al_p rfl (s_append rfl rfl rfl (by simp <;> omega) (by repeat constructor) ?_) | refine al_p rfl (s_append0 rfl rfl (by simp <;> omega) (by repeat constructor) ?_)
    refine p_as ?_
    refine al_nil (x_then (hK _ ?_))
    clear hK K
    refine aw_ret ?_
    refine e_ret ?_
    rfl

theorem PcloneMT (ms : List Mnt) (h1 : ms.length ≤ 1000) : AFnT Try.prog 74 [.sl 3 (ms.map mntA) none] (fun g => .sl 3 (ms.map mntA) g) (60, 3, ms.map mntA) := by
  refine enter Try.func74 rfl rfl rfl rfl rfl 0 rfl ?_
  refine p_sr (fun K hK => ?_)
  refine p_as ?_
  refine al_nil (x_then (hK _ ?_))
  clear hK K
  refine aw_seq (fun K hK => ?_)
  refine p_sr (fun K hK => ?_)
  refine p_mv ?_
  refine al_p rfl (st_eqNil rfl rfl ?_)
  intro b hb
  refine al_nil (x_then (hK _ ?_))
  clear hK K
  refine aw_cond rfl (fun hb1 => ?_) (fun hb1 => ?_)
  · have hc1 := bp hb1
    refine aw_midI (fun t => t = ⟨look [(2, .v (.slice none 0 0))], ⟨[], []⟩⟩) ?_ ?_
    · skip
      refine aw_region ?_
      refine p_as ?_
      refine al_nil ?_
      refine x_then ?_
      exact ⟨_, rfl, (wk 0 0)⟩
    · rintro t rfl
      refine aw_nilTok 2 60 3 rfl (by repeat constructor) ?_
      rw [hb hb1]
      refine aw_ret ?_
      refine x_thenR ?_
      clear hK K
      refine abody_ret (some 0) (by repeat (first | exact ResA.nil | (apply ResA.tmp; (focus exact rfl)) | (apply ResA.cellN; (focus exact inferInstance); (focus exact rfl); (focus exact rfl); (focus exact rfl)) | (apply ResA.cell1; (focus exact inferInstance); (focus exact rfl); (focus exact rfl); (focus exact rfl)))) rfl rfl rfl (LeA.refl _) ⟨rfl, rfl, rfl⟩
  · have hc1 := bp hb1
    refine aw_skip ?_
    refine x_then ?_
    refine hK _ ?_
    clear hK K
    refine p_sr (fun K hK => ?_)
    refine al_p rfl (s_slit0 (by repeat constructor) ?_)
    refine p_mv ?_
    first | refine al_p rfl (s_append rfl rfl rfl (by simp <;> omega) (by repeat constructor) ?_) | refine al_p rfl (s_append0 rfl rfl (by simp <;> omega) (by repeat constructor) ?_)
    refine p_as ?_
    refine al_nil (x_then (hK _ ?_))
    clear hK K
    refine aw_ret ?_
    refine abody_ret (some 0) (by repeat (first | exact ResA.nil | (apply ResA.tmp; (focus exact rfl)) | (apply ResA.cellN; (focus exact inferInstance); (focus exact rfl); (focus exact rfl); (focus exact rfl)) | (apply ResA.cell1; (focus exact inferInstance); (focus exact rfl); (focus exact rfl); (focus exact rfl)))) rfl rfl rfl (LeA.refl _) ⟨rfl, rfl, rfl⟩

theorem PcloneMB (ms : List Mnt) (h1 : ms.length ≤ 1000) (h0 : 0 < ms.length) : ACall Try.prog 74 [.sl 3 (ms.map mntA) none] [] (fun r b t => t = [] ∧ ∃ cap, ms.length ≤ cap ∧ r = .bs 1 0 3 ms.length cap ∧ b = [[], rowsB 3 cap (ms.map mntA)]) := by
  have hml : (ms.map mntA).length = ms.length := by simp
  refine enter Try.func74 rfl rfl rfl rfl rfl 2 rfl ?_
  refine p_sr (fun K hK => ?_)
  refine p_as ?_
  refine al_nil (x_then (hK _ ?_))
  clear hK K
  refine aw_seq (fun K hK => ?_)
  refine p_sr (fun K hK => ?_)
  refine p_mv ?_
  refine al_p rfl (st_eqNil rfl rfl ?_)
  intro b hb
  refine al_nil (x_then (hK _ ?_))
  clear hK K
  refine aw_cond rfl (fun hb1 => ?_) (fun hb1 => ?_)
  · have hc1 := bp hb1
    exfalso
    have := hb hb1
    rw [this] at hml
    simp at hml
    omega
  · have hc1 := bp hb1
    refine aw_skip ?_
    refine x_then ?_
    refine hK _ ?_
    clear hK K
    refine p_sr (fun K hK => ?_)
    refine al_p rfl (st_slit0B (k := 0) (by repeat constructor) ?_)
    refine p_mv ?_
    refine al_p rfl (st_appendB rfl rfl rfl (Nat.le_of_ble_eq_true rfl) (SrcA.sl _ _) (by omega) (by omega) (fun h => absurd h (by omega)) ?_)
    rintro hg cap k bx2 hcp hs
    rw [clone_row] at hs
    obtain ⟨rfl, rfl⟩ : k = 1 ∧ bx2 = [_, rowsB 3 cap (ms.map mntA)] := hs.eq
    refine p_as ?_
    refine al_nil (x_then (hK _ ?_))
    clear hK K
    refine aw_ret ?_
    refine abody_ret (r := .bs 1 0 3 ms.length cap) none (by repeat (first | exact ResA.nil | (apply ResA.tmp; (focus exact rfl)) | (apply ResA.cellN; (focus exact inferInstance); (focus exact rfl); (focus exact rfl); (focus exact rfl)) | (apply ResA.cell1; (focus exact inferInstance); (focus exact rfl); (focus exact rfl); (focus exact rfl)))) rfl rfl (by simp [bpLtB, bpLtL, bp_plain (mnt_plain ms)]) (LeA.of_eq (by rw [show reT none (tupA [AV.bs 1 0 3 (0 + (ms.map mntA).length) cap]) = AV.bs 1 0 3 (0 + (ms.map mntA).length) cap from rfl, hml, Nat.zero_add])) ⟨rfl, cap, by omega, rfl, rfl⟩

theorem PspcT (s : Spc) (hs : SpcB s) (hne : ∀ d ∈ s.files, 0 < d.nodes.length) : AFnT Try.prog 46 [.agg (spcA s)] (fun g => .agg [.sl 2 (s.files.map dvcA) none, .sl 3 (s.mounts.map mntA) g]) (60, 3, s.mounts.map mntA) := by
  have hm := hs.few
  have hfew := hs.files.few
  refine enter Try.func46 rfl rfl rfl rfl rfl 0 rfl ?_
  refine p_sr (fun K hK => ?_)
  first | refine al_p rfl (s_boxA rfl rfl (by repeat constructor) ?_) | refine al_p rfl (s_box rfl rfl (by repeat constructor) ?_)
  refine al_p rfl (s_alloc (by repeat constructor) ?_)
  refine al_nil (x_then (hK _ ?_))
  clear hK K
  refine p_sr (fun K hK => ?_)
  refine al_p rfl (st_fieldB rfl ?_)
  refine al_p rfl (st_loadB1 rfl rfl rfl ?_)
  refine al_p rfl (s_callT rfl (by repeat (first | exact Args.nil | refine Args.cons _ _ _ _ _ rfl (argOk_clean rfl) ?_ | refine Args.cons _ _ _ _ _ rfl (argOk_nil _) ?_ | refine Args.cons _ _ _ _ _ rfl (argOk_era _) ?_ | refine Args.cons _ _ _ _ _ rfl (argOk_le rfl (by repeat (first | exact LeA.refl _ | exact LeA.nil _ | exact LeL.refl _ | refine LeA.agg ?_ | refine LeA.tup ?_ | exact LeL.nil | refine LeL.cons ?_ ?_ | exact LeA.any _))) ?_)) (PcloneMT s.mounts hm) (fun _ => rfl) (by repeat constructor) ?_)
  refine p_bd ?_
  refine al_p rfl (s_alloc (by repeat constructor) ?_)
  refine p_st ?_
  refine al_nil (x_then (hK _ ?_))
  clear hK K
  refine aw_seq (fun K hK => ?_)
  refine p_sr (fun K hK => ?_)
  refine al_p rfl (st_fieldB rfl ?_)
  refine al_p rfl (st_fieldB rfl ?_)
  refine al_p rfl (st_loadB1 rfl rfl rfl ?_)
  first | refine al_p rfl (st_len rfl ?_) | refine al_p rfl (st_lenS (by kernel_rfl) rfl ?_) | refine al_p rfl (st_len0 rfl ?_)
  refine p_mv ?_
  refine al_nil (x_then (hK _ ?_))
  clear hK K
  refine aw_block ?_
  refine aw_nilTokB 2 0 68 2 rfl rfl (by repeat constructor) (by repeat constructor) (by repeat constructor) ?_
  refine aw_loopW (fun m t => ∃ j : Nat, j ≤ s.files.length ∧ m = s.files.length - j ∧ t = ⟨look [(2, .bp 1 0), (3, .bp 2 0), (14, .sl 2 (s.files.map dvcA) none), (15, .v (.int .i64 ((s.files.map dvcA).length : Int))), (16, .v (.int .i64 (j : Int)))], ⟨[spcA s, [.v (.slice none 0 0), .v (.slice none 0 0)], [.sl 2 ((s.files.take j).map dvcA) (some 1), .sl 3 (s.mounts.map mntA) (some 0)]], [(60, 3, s.mounts.map mntA), (68, 2, (s.files.take j).map dvcA)]⟩⟩) (s.files.length) ((wk 3 2)) (⟨0, Nat.zero_le _, rfl, rfl⟩) ?_
  rintro m t ⟨j, hj, rfl, rfl⟩
  refine p_sr (fun K hK => ?_)
  first | refine al_p rfl (st_lss rfl rfl ?_) | refine al_p rfl (st_lssS rfl rfl ?_)
  refine al_nil (x_then (hK _ ?_))
  clear hK K
  refine aw_seq (fun K hK => ?_)
  refine aw_cond rfl (fun hb1 => ?_) (fun hb1 => ?_)
  · have hc1 := bp hb1
    obtain ⟨hlt, d, hd, hrow, e⟩ := row_at dvcA hc1
    have hdn := hs.files.nodes d (List.mem_of_getElem? hd)
    have hdp := hne d (List.mem_of_getElem? hd)
    refine aw_skip ?_
    refine x_then ?_
    refine hK _ ?_
    clear hK K
    refine aw_seq (fun K hK => ?_)
    refine aw_block ?_
    refine p_sr (fun K hK => ?_)
    refine al_p rfl (st_index rfl rfl rfl (by first | assumption | rfl) ?_)
    refine al_p rfl (st_loadFW rfl rfl ?_)
    refine al_p rfl (s_alloc (by repeat constructor) ?_)
    refine p_st ?_
    refine al_nil (x_then (hK _ ?_))
    clear hK K
    refine p_sr (fun K hK => ?_)
    refine al_p rfl (st_fieldB rfl ?_)
    refine al_p rfl (st_loadB1 rfl rfl rfl ?_)
    refine al_p rfl (s_callM [] rfl (.cons _ _ _ _ _ rfl (LeA.refl _) .nil) (by decide) .nil (PcloneN d.nodes hdn hdp) ?_)
    rintro r bc tc ⟨rfl, cap, hcap, rfl, rfl⟩
    refine ⟨rfl, _, (back_newR [] (NB d.nodes cap) (by simp [renL]) (ren_NB _ _ _) : Back _ [] _ [_, _, _, _, _, _]), ?_⟩
    refine p_as ?_
    refine al_nil (x_then (hK _ ?_))
    clear hK K
    refine aw_midI (fun t => t = ⟨look [(2, .bp 1 0), (3, .bp 2 0), (14, .sl 2 (s.files.map dvcA) none), (15, .v (.int .i64 ((s.files.map dvcA).length : Int))), (16, .v (.int .i64 (j : Int))), (5, .bp 3 0), (6, .sl 8 (d.nodes.map nodA) none)], ⟨[spcA s, [.v (.slice none 0 0), .v (.slice none 0 0)], [.sl 2 ((s.files.take j).map dvcA) (some 1), .sl 3 (s.mounts.map mntA) (some 0)], dvcA d], [(60, 3, s.mounts.map mntA), (68, 2, (s.files.take j).map dvcA)]⟩⟩) ?_ ?_
    · skip
      refine p_sr (fun K hK => ?_)
      refine p_mv ?_
      refine al_p rfl (st_lenB rfl ?_)
      refine p_mv ?_
      refine al_nil (x_then (hK _ ?_))
      clear hK K
      refine aw_block ?_
      refine aw_loopW (fun m t => ∃ i : Nat, i ≤ d.nodes.length ∧ m = d.nodes.length - i ∧ t = ⟨look [(2, .bp 1 0), (3, .bp 2 0), (14, .sl 2 (s.files.map dvcA) none), (15, .v (.int .i64 ((s.files.map dvcA).length : Int))), (16, .v (.int .i64 (j : Int))), (5, .bp 3 0), (6, .bs 5 0 8 d.nodes.length cap), (24, .v (.int .i64 (d.nodes.length : Int))), (25, .v (.int .i64 (i : Int)))], ⟨[spcA s, [.v (.slice none 0 0), .v (.slice none 0 0)], [.sl 2 ((s.files.take j).map dvcA) (some 1), .sl 3 (s.mounts.map mntA) (some 0)], dvcA d, [], NB d.nodes cap], [(60, 3, s.mounts.map mntA), (68, 2, (s.files.take j).map dvcA)]⟩⟩) (d.nodes.length) (weak_of 6 2 rfl rfl rfl (by simp [bpLtB, bpLtL, bpLt, bp_NB, bp_plain (mnt_plain s.mounts), spcA, dvcA]) (by repeat (first | exact Sub.nil | refine Sub.cons _ _ _ rfl rfl ?_ | refine Sub.any _ _ ?_ | refine Sub.sl _ _ _ _ _ rfl ?_ | refine Sub.slnil _ _ _ rfl ?_))) (⟨0, Nat.zero_le _, rfl, rfl⟩) ?_
      rintro m t ⟨i, hi, rfl, rfl⟩
      refine p_sr (fun K hK => ?_)
      first | refine al_p rfl (st_lss rfl rfl ?_) | refine al_p rfl (st_lssS rfl rfl ?_)
      refine al_nil (x_then (hK _ ?_))
      clear hK K
      refine aw_seq (fun K hK => ?_)
      refine aw_cond rfl (fun hb2 => ?_) (fun hb2 => ?_)
      · have hc2 := bp hb2
        have hil : i < d.nodes.length := by omega
        obtain ⟨n, hy⟩ : ∃ n, d.nodes[i]? = some n := ⟨_, List.getElem?_eq_getElem hil⟩
        have hen := hs.files.ents d (List.mem_of_getElem? hd) n (List.mem_of_getElem? hy)
        refine aw_skip ?_
        refine x_then ?_
        refine hK _ ?_
        clear hK K
        refine aw_seq (fun K hK => ?_)
        refine aw_block ?_
        refine p_sr (fun K hK => ?_)
        refine p_mv ?_
        refine p_as ?_
        refine al_nil (x_then (hK _ ?_))
        clear hK K
        refine aw_region ?_
        refine p_mv ?_
        refine p_mv ?_
        refine p_mv ?_
        refine p_mv ?_
        refine al_p rfl (st_indexS (m := i) rfl rfl rfl hil ?_)
        refine al_p rfl (st_fieldB rfl ?_)
        refine al_p rfl (st_loadB1 rfl rfl (NB_get hy rfl) ?_)
        refine al_p rfl (q_call (PcloneE n.entries hen) ?_)
        rintro r rfl
        refine al_p rfl (st_indexS (m := i) rfl rfl rfl hil ?_)
        refine al_p rfl (st_fieldB rfl ?_)
        refine al_p0 (s_store rfl rfl rfl rfl rfl rfl (NB_same hy) (by repeat constructor) ?_)
        refine al_nil ?_
        refine x_blockN ?_
        refine x_then ?_
        refine hK _ ?_
        clear hK K
        refine aw_region ?_
        first | refine al_p rfl (st_add64 rfl rfl (by omega) ?_) | refine al_p rfl (st_addS rfl rfl (by omega) ?_) | refine al_p rfl (st_add rfl rfl ?_)
        refine p_mv ?_
        refine al_nil ?_
        refine x_then ?_
        refine ⟨_, _, ?_, ⟨i + 1, by omega, rfl, rfl⟩, weak_of 6 2 rfl rfl rfl (by simp [bpLtB, bpLtL, bpLt, bp_NB, bp_plain (mnt_plain s.mounts), spcA, dvcA]) ((by repeat (first | exact Sub.nil | refine Sub.cons _ _ _ rfl rfl ?_ | refine Sub.any _ _ ?_ | refine Sub.sl _ _ _ _ _ rfl ?_ | refine Sub.slnil _ _ _ rfl ?_)))⟩
        omega
      · have hc2 := bp hb2
        refine aw_exit ?_
        refine x_thenE ?_
        clear hK K
        refine x_thenE ?_
        refine ABlock_out ?_
        refine x_then ?_
        exact ⟨_, rfl, weak_fz 4 1 rfl rfl (.cons _ _ _ _ rfl (LeA.refl _) (.cons _ _ _ _ rfl (LeA.refl _) (.cons _ _ _ _ rfl (LeA.refl _) (.cons _ _ _ _ rfl (LeA.refl _) (.cons _ _ _ _ rfl (LeA.refl _) (.cons _ _ _ _ rfl (LeA.refl _) (.cons _ _ _ _ rfl (LeA.of_eq (liv_rows (rows := d.nodes.map nodA) (Nat.le_of_ble_eq_true rfl) (frz_NB (n := 4) (k := 0) (j := 5) (Nat.le_of_ble_eq_true rfl) rfl) (nods_eight _) (by simp) (by simpa using hcap))) .nil)))))))⟩
    · rintro t rfl
      refine aw_region ?_
      refine al_p rfl (st_fieldB rfl ?_)
      refine al_p rfl (st_fieldB rfl ?_)
      refine al_p rfl (st_loadB1 rfl rfl rfl ?_)
      refine al_p rfl (st_fieldB rfl ?_)
      refine al_p rfl (st_loadB1 rfl rfl rfl ?_)
      refine p_mv ?_
      refine p_bd ?_
      refine al_p rfl (st_slit (by repeat (first | exact DenseA.nil _ | (apply DenseA.cons; (focus exact rfl); (focus exact rfl); (focus exact rfl); (focus exact rfl)) | (apply DenseA.consE; (focus exact rfl); (focus exact rfl); (focus exact rfl)))) rfl rfl rfl rfl ?_)
      first | refine al_p rfl (s_append rfl rfl rfl (by simp; omega) (by repeat constructor) ?_) | refine al_p rfl (s_append0 rfl rfl (by simp; omega) (by repeat constructor) ?_)
      refine al_p rfl (st_fieldB rfl ?_)
      refine al_p rfl (st_fieldB rfl ?_)
      refine p_st ?_
      refine al_nil ?_
      refine x_blockN ?_
      refine x_then ?_
      refine hK _ ?_
      clear hK K
      refine aw_region ?_
      first | refine al_p rfl (st_add64 rfl rfl (by omega) ?_) | refine al_p rfl (st_addS rfl rfl (by omega) ?_) | refine al_p rfl (st_add rfl rfl ?_)
      refine p_mv ?_
      refine al_nil ?_
      refine x_then ?_
      refine ⟨_, _, ?_, ⟨j + 1, by omega, rfl, rfl⟩, (by rw [e]; exact weak_of 3 2 rfl rfl rfl rfl ((by repeat (first | exact Sub.nil | refine Sub.cons _ _ _ rfl rfl ?_ | refine Sub.any _ _ ?_ | refine Sub.sl _ _ _ _ _ rfl ?_ | refine Sub.slnil _ _ _ rfl ?_))))⟩
      omega
  · have hc1 := bp hb1
    have e := row_no dvcA hj hc1
    subst e
    rw [List.take_length]
    refine aw_exit ?_
    refine x_thenE ?_
    clear hK K
    refine x_thenE ?_
    refine ABlock_out ?_
    refine x_then ?_
    refine hK _ ?_
    clear hK K
    refine p_sr (fun K hK => ?_)
    refine al_p rfl (st_loadBW rfl rfl rfl ?_)
    refine p_st ?_
    refine al_nil (x_then (hK _ ?_))
    clear hK K
    refine aw_ret ?_
    refine abody_ret (some 0) (by repeat (first | exact ResA.nil | (apply ResA.tmp; (focus exact rfl)) | (apply ResA.cellN; (focus exact inferInstance); (focus exact rfl); (focus exact rfl); (focus exact rfl)) | (apply ResA.cell1; (focus exact inferInstance); (focus exact rfl); (focus exact rfl); (focus exact rfl)))) rfl rfl rfl (LeA.refl _) ⟨rfl, rfl, rfl⟩

theorem PspcB (s : Spc) (hs : SpcB s) (hne : ∀ d ∈ s.files, 0 < d.nodes.length) (hm0 : 0 < s.mounts.length) : ACall Try.prog 46 [.agg (spcA s)] [] (fun r b t => t = [] ∧ ∃ cap, s.mounts.length ≤ cap ∧ r = .agg [.sl 2 (s.files.map dvcA) none, .bs 3 0 3 s.mounts.length cap] ∧ b = [spcA s, [.sl 2 (s.files.map dvcA) none, .bs 3 0 3 s.mounts.length cap], [], rowsB 3 cap (s.mounts.map mntA)]) := by
  have hm := hs.few
  have hfew := hs.files.few
  refine enter Try.func46 rfl rfl rfl rfl rfl 4 rfl ?_
  refine p_sr (fun K hK => ?_)
  first | refine al_p rfl (s_boxA rfl rfl (by repeat constructor) ?_) | refine al_p rfl (s_box rfl rfl (by repeat constructor) ?_)
  refine al_p rfl (s_alloc (by repeat constructor) ?_)
  refine al_nil (x_then (hK _ ?_))
  clear hK K
  refine p_sr (fun K hK => ?_)
  refine al_p rfl (st_fieldB rfl ?_)
  refine al_p rfl (st_loadB1 rfl rfl rfl ?_)
  refine al_p rfl (s_callM [] rfl (.cons _ _ _ _ _ rfl (LeA.refl _) .nil) (by decide) .nil (PcloneMB s.mounts hm hm0) ?_)
  rintro r bc tc ⟨rfl, cap0, hcap0, rfl, rfl⟩
  refine ⟨rfl, _, (back_newR [] (rowsB 3 cap0 (s.mounts.map mntA)) (by simp [renL]) (ren_rows (mnt_plain s.mounts)) : Back _ [] _ [_, _, _, _]), ?_⟩
  refine p_bd ?_
  refine al_p rfl (s_alloc (by repeat constructor) ?_)
  refine p_st ?_
  refine al_nil (x_then (hK _ ?_))
  clear hK K
  refine aw_seq (fun K hK => ?_)
  refine p_sr (fun K hK => ?_)
  refine al_p rfl (st_fieldB rfl ?_)
  refine al_p rfl (st_fieldB rfl ?_)
  refine al_p rfl (st_loadB1 rfl rfl rfl ?_)
  first | refine al_p rfl (st_len rfl ?_) | refine al_p rfl (st_lenS (by kernel_rfl) rfl ?_) | refine al_p rfl (st_len0 rfl ?_)
  refine p_mv ?_
  refine al_nil (x_then (hK _ ?_))
  clear hK K
  refine aw_block ?_
  refine aw_nilTokB 4 0 68 2 rfl rfl (by repeat constructor) (by repeat constructor) (by repeat constructor) ?_
  refine aw_loopW (fun m t => ∃ j : Nat, j ≤ s.files.length ∧ m = s.files.length - j ∧ t = ⟨look [(2, .bp 1 0), (3, .bp 4 0), (14, .sl 2 (s.files.map dvcA) none), (15, .v (.int .i64 ((s.files.map dvcA).length : Int))), (16, .v (.int .i64 (j : Int)))], ⟨[spcA s, [.v (.slice none 0 0), .v (.slice none 0 0)], [], rowsB 3 cap0 (s.mounts.map mntA), [.sl 2 ((s.files.take j).map dvcA) (some 0), .bs 3 0 3 s.mounts.length cap0]], [(68, 2, (s.files.take j).map dvcA)]⟩⟩) (s.files.length) (weak_of 5 1 rfl rfl rfl (by simp [bpLtB, bpLtL, bpLt, bp_NB, bp_plain (mnt_plain s.mounts), spcA, dvcA, ren, backS]) (by repeat (first | exact Sub.nil | refine Sub.cons _ _ _ rfl rfl ?_ | refine Sub.any _ _ ?_ | refine Sub.sl _ _ _ _ _ rfl ?_ | refine Sub.slnil _ _ _ rfl ?_))) (⟨0, Nat.zero_le _, rfl, rfl⟩) ?_
  rintro m t ⟨j, hj, rfl, rfl⟩
  refine p_sr (fun K hK => ?_)
  first | refine al_p rfl (st_lss rfl rfl ?_) | refine al_p rfl (st_lssS rfl rfl ?_)
  refine al_nil (x_then (hK _ ?_))
  clear hK K
  refine aw_seq (fun K hK => ?_)
  refine aw_cond rfl (fun hb1 => ?_) (fun hb1 => ?_)
  · have hc1 := bp hb1
    obtain ⟨hlt, d, hd, hrow, e⟩ := row_at dvcA hc1
    have hdn := hs.files.nodes d (List.mem_of_getElem? hd)
    have hdp := hne d (List.mem_of_getElem? hd)
    refine aw_skip ?_
    refine x_then ?_
    refine hK _ ?_
    clear hK K
    refine aw_seq (fun K hK => ?_)
    refine aw_block ?_
    refine p_sr (fun K hK => ?_)
    refine al_p rfl (st_index rfl rfl rfl (by first | assumption | rfl) ?_)
    refine al_p rfl (st_loadFW rfl rfl ?_)
    refine al_p rfl (s_alloc (by repeat constructor) ?_)
    refine p_st ?_
    refine al_nil (x_then (hK _ ?_))
    clear hK K
    refine p_sr (fun K hK => ?_)
    refine al_p rfl (st_fieldB rfl ?_)
    refine al_p rfl (st_loadB1 rfl rfl rfl ?_)
    refine al_p rfl (s_callM [] rfl (.cons _ _ _ _ _ rfl (LeA.refl _) .nil) (by decide) .nil (PcloneN d.nodes hdn hdp) ?_)
    rintro r bc tc ⟨rfl, cap, hcap, rfl, rfl⟩
    refine ⟨rfl, _, (back_newR [] (NB d.nodes cap) (by simp [renL]) (ren_NB _ _ _) : Back _ [] _ [_, _, _, _, _, _, _, _]), ?_⟩
    refine p_as ?_
    refine al_nil (x_then (hK _ ?_))
    clear hK K
    refine aw_midI (fun t => t = ⟨look [(2, .bp 1 0), (3, .bp 4 0), (14, .sl 2 (s.files.map dvcA) none), (15, .v (.int .i64 ((s.files.map dvcA).length : Int))), (16, .v (.int .i64 (j : Int))), (5, .bp 5 0), (6, .sl 8 (d.nodes.map nodA) none)], ⟨[spcA s, [.v (.slice none 0 0), .v (.slice none 0 0)], [], rowsB 3 cap0 (s.mounts.map mntA), [.sl 2 ((s.files.take j).map dvcA) (some 0), .bs 3 0 3 s.mounts.length cap0], dvcA d], [(68, 2, (s.files.take j).map dvcA)]⟩⟩) ?_ ?_
    · skip
      refine p_sr (fun K hK => ?_)
      refine p_mv ?_
      refine al_p rfl (st_lenB rfl ?_)
      refine p_mv ?_
      refine al_nil (x_then (hK _ ?_))
      clear hK K
      refine aw_block ?_
      refine aw_loopW (fun m t => ∃ i : Nat, i ≤ d.nodes.length ∧ m = d.nodes.length - i ∧ t = ⟨look [(2, .bp 1 0), (3, .bp 4 0), (14, .sl 2 (s.files.map dvcA) none), (15, .v (.int .i64 ((s.files.map dvcA).length : Int))), (16, .v (.int .i64 (j : Int))), (5, .bp 5 0), (6, .bs 7 0 8 d.nodes.length cap), (24, .v (.int .i64 (d.nodes.length : Int))), (25, .v (.int .i64 (i : Int)))], ⟨[spcA s, [.v (.slice none 0 0), .v (.slice none 0 0)], [], rowsB 3 cap0 (s.mounts.map mntA), [.sl 2 ((s.files.take j).map dvcA) (some 0), .bs 3 0 3 s.mounts.length cap0], dvcA d, [], NB d.nodes cap], [(68, 2, (s.files.take j).map dvcA)]⟩⟩) (d.nodes.length) (weak_of 8 1 rfl rfl rfl (by simp [bpLtB, bpLtL, bpLt, bp_NB, bp_plain (mnt_plain s.mounts), spcA, dvcA, ren, backS]) (by repeat (first | exact Sub.nil | refine Sub.cons _ _ _ rfl rfl ?_ | refine Sub.any _ _ ?_ | refine Sub.sl _ _ _ _ _ rfl ?_ | refine Sub.slnil _ _ _ rfl ?_))) (⟨0, Nat.zero_le _, rfl, rfl⟩) ?_
      rintro m t ⟨i, hi, rfl, rfl⟩
      refine p_sr (fun K hK => ?_)
      first | refine al_p rfl (st_lss rfl rfl ?_) | refine al_p rfl (st_lssS rfl rfl ?_)
      refine al_nil (x_then (hK _ ?_))
      clear hK K
      refine aw_seq (fun K hK => ?_)
      refine aw_cond rfl (fun hb2 => ?_) (fun hb2 => ?_)
      · have hc2 := bp hb2
        have hil : i < d.nodes.length := by omega
        obtain ⟨n, hy⟩ : ∃ n, d.nodes[i]? = some n := ⟨_, List.getElem?_eq_getElem hil⟩
        have hen := hs.files.ents d (List.mem_of_getElem? hd) n (List.mem_of_getElem? hy)
        refine aw_skip ?_
        refine x_then ?_
        refine hK _ ?_
        clear hK K
        refine aw_seq (fun K hK => ?_)
        refine aw_block ?_
        refine p_sr (fun K hK => ?_)
        refine p_mv ?_
        refine p_as ?_
        refine al_nil (x_then (hK _ ?_))
        clear hK K
        refine aw_region ?_
        refine p_mv ?_
        refine p_mv ?_
        refine p_mv ?_
        refine p_mv ?_
        refine al_p rfl (st_indexS (m := i) rfl rfl rfl hil ?_)
        refine al_p rfl (st_fieldB rfl ?_)
        refine al_p rfl (st_loadB1 rfl rfl (NB_get hy rfl) ?_)
        refine al_p rfl (q_call (PcloneE n.entries hen) ?_)
        rintro r rfl
        refine al_p rfl (st_indexS (m := i) rfl rfl rfl hil ?_)
        refine al_p rfl (st_fieldB rfl ?_)
        refine al_p0 (s_store rfl rfl rfl rfl rfl rfl (NB_same hy) (by repeat constructor) ?_)
        refine al_nil ?_
        refine x_blockN ?_
        refine x_then ?_
        refine hK _ ?_
        clear hK K
        refine aw_region ?_
        first | refine al_p rfl (st_add64 rfl rfl (by omega) ?_) | refine al_p rfl (st_addS rfl rfl (by omega) ?_) | refine al_p rfl (st_add rfl rfl ?_)
        refine p_mv ?_
        refine al_nil ?_
        refine x_then ?_
        refine ⟨_, _, ?_, ⟨i + 1, by omega, rfl, rfl⟩, weak_of 8 1 rfl rfl rfl (by simp [bpLtB, bpLtL, bpLt, bp_NB, bp_plain (mnt_plain s.mounts), spcA, dvcA, ren, backS]) ((by repeat (first | exact Sub.nil | refine Sub.cons _ _ _ rfl rfl ?_ | refine Sub.any _ _ ?_ | refine Sub.sl _ _ _ _ _ rfl ?_ | refine Sub.slnil _ _ _ rfl ?_)))⟩
        omega
      · have hc2 := bp hb2
        refine aw_exit ?_
        refine x_thenE ?_
        clear hK K
        refine x_thenE ?_
        refine ABlock_out ?_
        refine x_then ?_
        exact ⟨_, rfl, weak_fz 6 1 rfl (congrArg (fun x => [spcA s, [.v (.slice none 0 0), .v (.slice none 0 0)], [], x, [.sl 2 ((s.files.take j).map dvcA) (some 0), .bs 3 0 3 s.mounts.length cap0], dvcA d]) (liv_plain (mnt_plain s.mounts))) (.cons _ _ _ _ rfl (LeA.refl _) (.cons _ _ _ _ rfl (LeA.refl _) (.cons _ _ _ _ rfl (LeA.refl _) (.cons _ _ _ _ rfl (LeA.refl _) (.cons _ _ _ _ rfl (LeA.refl _) (.cons _ _ _ _ rfl (LeA.refl _) (.cons _ _ _ _ rfl (LeA.of_eq (liv_rows (rows := d.nodes.map nodA) (Nat.le_of_ble_eq_true rfl) (frz_NB (n := 6) (k := 0) (j := 7) (Nat.le_of_ble_eq_true rfl) rfl) (nods_eight _) (by simp) (by simpa using hcap))) .nil)))))))⟩
    · rintro t rfl
      refine aw_region ?_
      refine al_p rfl (st_fieldB rfl ?_)
      refine al_p rfl (st_fieldB rfl ?_)
      refine al_p rfl (st_loadB1 rfl rfl rfl ?_)
      refine al_p rfl (st_fieldB rfl ?_)
      refine al_p rfl (st_loadB1 rfl rfl rfl ?_)
      refine p_mv ?_
      refine p_bd ?_
      refine al_p rfl (st_slit (by repeat (first | exact DenseA.nil _ | (apply DenseA.cons; (focus exact rfl); (focus exact rfl); (focus exact rfl); (focus exact rfl)) | (apply DenseA.consE; (focus exact rfl); (focus exact rfl); (focus exact rfl)))) rfl rfl rfl rfl ?_)
      first | refine al_p rfl (s_append rfl rfl rfl (by simp; omega) (by repeat constructor) ?_) | refine al_p rfl (s_append0 rfl rfl (by simp; omega) (by repeat constructor) ?_)
      refine al_p rfl (st_fieldB rfl ?_)
      refine al_p rfl (st_fieldB rfl ?_)
      refine p_st ?_
      refine al_nil ?_
      refine x_blockN ?_
      refine x_then ?_
      refine hK _ ?_
      clear hK K
      refine aw_region ?_
      first | refine al_p rfl (st_add64 rfl rfl (by omega) ?_) | refine al_p rfl (st_addS rfl rfl (by omega) ?_) | refine al_p rfl (st_add rfl rfl ?_)
      refine p_mv ?_
      refine al_nil ?_
      refine x_then ?_
      refine ⟨_, _, ?_, ⟨j + 1, by omega, rfl, rfl⟩, (by rw [e]; exact weak_of 5 1 rfl rfl rfl (by simp [bpLtB, bpLtL, bpLt, bp_NB, bp_plain (mnt_plain s.mounts), spcA, dvcA, ren, backS]) ((by repeat (first | exact Sub.nil | refine Sub.cons _ _ _ rfl rfl ?_ | refine Sub.any _ _ ?_ | refine Sub.sl _ _ _ _ _ rfl ?_ | refine Sub.slnil _ _ _ rfl ?_))))⟩
      omega
  · have hc1 := bp hb1
    have e := row_no dvcA hj hc1
    subst e
    rw [List.take_length]
    refine aw_exit ?_
    refine x_thenE ?_
    clear hK K
    refine x_thenE ?_
    refine ABlock_out ?_
    refine x_then ?_
    refine hK _ ?_
    clear hK K
    refine p_sr (fun K hK => ?_)
    refine al_p rfl (st_le (y := .agg [.sl 2 (s.files.map dvcA) none, .bs 3 0 3 s.mounts.length cap0]) (st_loadBW rfl rfl rfl ⟨rfl, rfl⟩) (LeA.agg (.cons (LeA.tok _ _ _) (.cons (LeA.refl _) .nil))) ?_)
    refine p_st ?_
    refine al_nil (x_then (hK _ ?_))
    clear hK K
    refine aw_ret ?_
    refine abody_ret (r := .agg [.sl 2 (s.files.map dvcA) none, .bs 3 0 3 s.mounts.length cap0]) none (by repeat (first | exact ResA.nil | (apply ResA.tmp; (focus exact rfl)) | (apply ResA.cellN; (focus exact inferInstance); (focus exact rfl); (focus exact rfl); (focus exact rfl)) | (apply ResA.cell1; (focus exact inferInstance); (focus exact rfl); (focus exact rfl); (focus exact rfl)))) rfl rfl (by simp [bpLtB, bpLtL, bpLt, bp_plain (mnt_plain s.mounts), spcA]) (LeA.refl _) ⟨rfl, cap0, hcap0, rfl, rfl⟩

end
end Go.Proofs.Ytgliiknfmlmddaa
namespace Go.Proofs.Ytgliiknfmlmddaa
open Go.RowKit

theorem back_one {bx : List (List AV)} {i0 : Nat} (h0 : i0 < bx.length) {r : List AV} (hr : renL (backS [i0] bx.length) r = r) : Back bx [i0] [r] (bx.set i0 r) := by
  refine ⟨by simp, fun i row hi h => ?_, fun k i row h hk => ?_, fun k row h => by simp at h⟩
  · simp only [List.mem_cons, List.not_mem_nil, or_false] at hi
    rw [List.getElem?_set_ne (Ne.symm hi)]; exact h
  · match k, h, hk with
    | 0, h, hk => simp at h hk; subst h; subst hk; rw [List.getElem?_set_self h0, hr]
    | k + 1, h, _ => simp at h
theorem back_newQ {bx : List (List AV)} (n : Nat) (hn : bx.length = n) (r0 r1 r2 r3 : List AV) {r1' : List AV} (h0 : renL (backS [] bx.length) r0 = r0) (h1 : renL (backS [] bx.length) r1 = r1') (h2 : renL (backS [] bx.length) r2 = r2) (h3 : renL (backS [] bx.length) r3 = r3) : Back bx [] [r0, r1, r2, r3] (bx ++ [r0, r1', r2, r3]) := by
  have _ := hn
  refine ⟨by simp, fun i row _ h => ?_, fun k i row h => by simp at h, fun k row h => ?_⟩
  · rw [List.getElem?_append_left (List.getElem?_eq_some_iff.1 h).1]; exact h
  · rw [List.getElem?_append_right (by omega), show bx.length + k - bx.length = k by omega]
    simp only [List.length_nil, Nat.zero_add] at h
    match k, h with
    | 0, h => injection h with h; subst h; rw [h0]; rfl
    | 1, h => injection h with h; subst h; rw [h1]; rfl
    | 2, h => injection h with h; subst h; rw [h2]; rfl
    | 3, h => injection h with h; subst h; rw [h3]; rfl
    | k + 4, h => simp at h
theorem renK_rows {g : Nat → Option Nat} {sz cap : Nat} {rows : List (List AV)} (h : ∀ r ∈ rows, ∀ x ∈ r, ∃ v, x = .v v) : renKL g (rowsB sz cap rows) = rowsB sz cap rows := by
  rw [renKL_map]
  exact map_plain rfl (fun _ => rfl) h
def keepM (dev : Int) (ms : List Mnt) : List Mnt := ms.filter fun m => decide (m.1 ≠ dev)
theorem keepM_at {ms : List Mnt} {j : Nat} {x : Mnt} (h : ms[j]? = some x) (dev : Int) : keepM dev (ms.take (j + 1)) = keepM dev (ms.take j) ++ (if x.1 = dev then [] else [x]) := by
  unfold keepM
  rw [List.take_add_one, h, List.filter_append]
  by_cases e : x.1 = dev <;> simp [e]
theorem keepM_all {ms : List Mnt} {dev : Int} (h : ∀ m ∈ ms, m.1 ≠ dev) : keepM dev ms = ms := by
  unfold keepM
  rw [List.filter_eq_self]
  intro m hm
  simpa using h m hm
theorem take_set {α : Type} {l : List α} {i : Nat} {x : α} (h : i < l.length) : (l.set i x).take (i + 1) = l.take i ++ [x] := by
  rw [List.take_succ_eq_append_getElem (by simpa using h), List.getElem_set_self]
  congr 1
  apply List.ext_getElem?
  intro k
  rw [List.getElem?_take, List.getElem?_take]
  split
  · rw [List.getElem?_set_ne (by omega)]
  · rfl
theorem drop_set {α : Type} {l : List α} {i j : Nat} {x : α} (h : i < j) : (l.set i x).drop j = l.drop j := by
  apply List.ext_getElem?
  intro k
  rw [List.getElem?_drop, List.getElem?_drop, List.getElem?_set_ne (by omega)]
theorem drop_get {α : Type} {l l' : List α} {j : Nat} (h : l.drop j = l'.drop j) : l[j]? = l'[j]? ∧ l.drop (j + 1) = l'.drop (j + 1) := by
  have h1 := congrArg (fun x => x[0]?) h
  simp only [List.getElem?_drop, Nat.add_zero] at h1
  refine ⟨h1, ?_⟩
  rw [← List.drop_drop, ← List.drop_drop, h]
theorem mnt_set {rows : List Mnt} {cap i : Nat} {y x : Mnt} (h : rows[i]? = some y) : SetAt (rowsB 3 cap (rows.map mntA)) (0 + i * 3) (mntA x) (rowsB 3 cap ((rows.set i x).map mntA)) := by
  have key := rowsB_set (cap := cap) (q := i) (k := 0) (r := mntA y) (r' := mntA x) (cs := mntA x) (mnt_three rows) (by rw [List.getElem?_map, h]; rfl) (by repeat constructor) (by simp [mntA])
  rw [← List.map_set] at key
  exact key
theorem bp1 (l : List Mnt) (cap : Nat) : bpLtB 1 0 [rowsB 3 cap (l.map mntA)] = true := by
  show (bpLtL 1 0 (rowsB 3 cap (l.map mntA)) && true) = true
  rw [bp_plain (mnt_plain _)]
  rfl
theorem mnt_cut {rows : List Mnt} {cap i : Nat} (hi : i ≤ rows.length) (hc : rows.length ≤ cap) : (rowsB 3 cap (rows.map mntA)).take (0 + i * 3) ++ List.replicate ((rowsB 3 cap (rows.map mntA)).length - (0 + i * 3)) .any = rowsB 3 cap ((rows.take i).map mntA) := by
  have hl := rowsB_len (mnt_three rows) (sz := 3) (cap := cap) (by simpa using hc)
  rw [hl]
  have h1 : (rowsB 3 cap (rows.map mntA)).take (0 + i * 3) = ((rows.take i).map mntA).flatten := by
    unfold rowsB
    rw [Nat.zero_add, List.take_append_of_le_length (by rw [flat_len (mnt_three rows)]; simp; omega)]
    conv => lhs; rw [← List.take_append_drop i rows, List.map_append, List.flatten_append]
    rw [List.take_left' (by rw [flat_len (mnt_three _)]; simp [hi])]
  rw [h1]
  unfold rowsB
  congr 1
  congr 1
  simp [Nat.sub_mul, hi]
section
set_option maxRecDepth 10000
set_option maxHeartbeats 1000000
theorem Padd (s : Spc) (dev : Int) (a : Fil) (hs : SpcB s) (hne : ∀ d ∈ s.files, 0 < d.nodes.length) : AFn Try.prog 15 [.agg (spcA s), .v (.int .i64 dev), .agg (filA a)] (fun r => r = spcR (addL s dev a)) := by
  have hfew := hs.few
  refine enter Try.func15 rfl rfl rfl rfl rfl 0 rfl ?_
  refine p_sr (fun K hK => ?_)
  first | refine al_p rfl (s_boxA rfl rfl (by repeat constructor) ?_) | refine al_p rfl (s_box rfl rfl (by repeat constructor) ?_)
  first | refine al_p rfl (s_boxA rfl rfl (by repeat constructor) ?_) | refine al_p rfl (s_box rfl rfl (by repeat constructor) ?_)
  refine al_p rfl (s_alloc (by repeat constructor) ?_)
  refine p_as ?_
  refine al_nil (x_then (hK _ ?_))
  clear hK K
  refine aw_seq (fun K hK => ?_)
  refine p_sr (fun K hK => ?_)
  refine al_p rfl (st_loadBW rfl rfl rfl ?_)
  refine p_mv ?_
  refine al_p rfl (q_call (PdeviceM s dev hs) ?_)
  rintro r rfl
  refine al_p rfl (st_not rfl ?_)
  refine al_nil (x_then (hK _ ?_))
  clear hK K
  refine aw_cond rfl (fun hb1 => ?_) (fun hb1 => ?_)
  · have hc1 := bp hb1
    refine p_sr (fun K hK => ?_)
    refine p_bd ?_
    refine p_st ?_
    refine p_as ?_
    refine al_nil (x_then (hK _ ?_))
    clear hK K
    refine aw_ret ?_
    refine x_thenR ?_
    clear hK K
    refine abody_ret (r := spcR (addL s dev a)) none (by repeat (first | exact ResA.nil | (apply ResA.tmp; (focus exact rfl)) | (apply ResA.cellN; (focus exact inferInstance); (focus exact rfl); (focus exact rfl); (focus exact rfl)) | (apply ResA.cell1; (focus exact inferInstance); (focus exact rfl); (focus exact rfl); (focus exact rfl)))) rfl rfl rfl ?_ ⟨rfl, rfl, rfl⟩
    rw [addL, if_pos (by omega)]
    exact sperr_le _
  · have hc1 := bp hb1
    refine aw_skip ?_
    refine x_then ?_
    refine hK _ ?_
    clear hK K
    refine p_sr (fun K hK => ?_)
    refine al_p rfl (st_fieldB rfl ?_)
    refine al_p rfl (st_loadBN rfl rfl rfl ?_)
    refine al_p rfl (st_loadBW rfl rfl rfl ?_)
    refine al_p rfl (q_call (Pnode s.files a hs.files) ?_)
    rintro r rfl
    refine p_mv ?_
    refine al_p rfl (st_extract rfl rfl ?_)
    refine al_p rfl (st_extract rfl rfl ?_)
    refine al_p rfl (s_alloc (by repeat constructor) ?_)
    refine p_st ?_
    refine p_as ?_
    refine al_nil (x_then (hK _ ?_))
    clear hK K
    refine aw_seq (fun K hK => ?_)
    refine aw_block ?_
    refine p_sr (fun K hK => ?_)
    refine p_mv ?_
    refine al_p rfl (st_not rfl ?_)
    refine p_as ?_
    refine al_nil (x_then (hK _ ?_))
    clear hK K
    refine aw_cond rfl (fun hb2 => ?_) (fun hb2 => ?_)
    · have hc2 := bp hb2
      refine p_sr (fun K hK => ?_)
      refine p_bd ?_
      refine p_st ?_
      refine p_as ?_
      refine al_nil (x_then (hK _ ?_))
      clear hK K
      refine aw_ret ?_
      refine x_blockR ?_
      refine x_thenR ?_
      clear hK K
      refine abody_ret (r := spcR (addL s dev a)) none (by repeat (first | exact ResA.nil | (apply ResA.tmp; (focus exact rfl)) | (apply ResA.cellN; (focus exact inferInstance); (focus exact rfl); (focus exact rfl); (focus exact rfl)) | (apply ResA.cell1; (focus exact inferInstance); (focus exact rfl); (focus exact rfl); (focus exact rfl)))) rfl rfl rfl ?_ ⟨rfl, rfl, rfl⟩
      rw [addL, if_neg (by omega), if_pos hc2]
      exact sperr_le _
    · have hc2 := bp hb2
      refine p_sr (fun K hK => ?_)
      refine al_p rfl (st_fieldB rfl ?_)
      refine al_p rfl (st_loadB1 rfl rfl rfl ?_)
      first | refine al_p rfl (st_neq rfl rfl ?_) | refine al_p rfl (st_neqS rfl rfl ?_) | refine al_p rfl (st_neqB (by kernel_rfl) rfl rfl ?_)
      refine p_as ?_
      refine al_nil (x_then (hK _ ?_))
      clear hK K
      refine aw_cond rfl (fun hb3 => ?_) (fun hb3 => ?_)
      · have hc3 := bp hb3
        refine p_sr (fun K hK => ?_)
        refine p_bd ?_
        refine p_st ?_
        refine p_as ?_
        refine al_nil (x_then (hK _ ?_))
        clear hK K
        refine aw_ret ?_
        refine x_blockR ?_
        refine x_thenR ?_
        clear hK K
        refine abody_ret (r := spcR (addL s dev a)) none (by repeat (first | exact ResA.nil | (apply ResA.tmp; (focus exact rfl)) | (apply ResA.cellN; (focus exact inferInstance); (focus exact rfl); (focus exact rfl); (focus exact rfl)) | (apply ResA.cell1; (focus exact inferInstance); (focus exact rfl); (focus exact rfl); (focus exact rfl)))) rfl rfl rfl ?_ ⟨rfl, rfl, rfl⟩
        rw [addL, if_neg (by omega), if_neg (by simp [hc2]), if_pos hc3]
        exact sperr_le _
      · have hc3 := bp hb3
        refine p_sr (fun K hK => ?_)
        refine al_p rfl (st_loadBW rfl rfl rfl ?_)
        refine al_p rfl (st_fieldB rfl ?_)
        refine al_p rfl (st_loadB1 rfl rfl rfl ?_)
        refine al_p rfl (q_call (Pmounted s a.1 hs) ?_)
        rintro r rfl
        refine al_p rfl (st_not rfl ?_)
        refine p_mv ?_
        refine al_gs false rfl rfl (fun hb4 => ?_) (fun hb4 => ?_)
        · have hc4 := bp hb4
          refine g_n ?_
          refine g_n ?_
          refine g_n ?_
          refine g_n ?_
          refine al_p rfl (p_t ?_)
          refine p_as ?_
          refine al_nil (x_then (hK _ ?_))
          clear hK K
          refine aw_cy rfl (by first | rfl | assumption | simp [*]) ?_
          refine p_sr (fun K hK => ?_)
          refine p_bd ?_
          refine p_st ?_
          refine p_as ?_
          refine al_nil (x_then (hK _ ?_))
          clear hK K
          refine aw_ret ?_
          refine x_blockR ?_
          refine x_thenR ?_
          clear hK K
          refine abody_ret (r := spcR (addL s dev a)) none (by repeat (first | exact ResA.nil | (apply ResA.tmp; (focus exact rfl)) | (apply ResA.cellN; (focus exact inferInstance); (focus exact rfl); (focus exact rfl); (focus exact rfl)) | (apply ResA.cell1; (focus exact inferInstance); (focus exact rfl); (focus exact rfl); (focus exact rfl)))) rfl rfl rfl ?_ ⟨rfl, rfl, rfl⟩
          rw [addL, if_neg (by omega), if_neg (by simp [hc2]), if_neg (by simp [hc3]), if_pos (.inl hc4)]
          exact sperr_le _
        · have hc4 := bp hb4
          refine g_y (st_fieldB rfl ?_)
          refine g_y (st_loadB1 rfl rfl rfl ?_)
          refine g_y (st_move rfl ?_)
          first | refine g_y (st_eql rfl rfl ?_) | refine g_y (st_eqlS rfl rfl ?_) | refine g_y (st_eqlB (by kernel_rfl) rfl rfl ?_)
          refine al_p rfl (p_f ?_)
          refine p_as ?_
          refine al_nil (x_then (hK _ ?_))
          clear hK K
          refine aw_cond rfl (fun hb5 => ?_) (fun hb5 => ?_)
          · have hc5 := bp hb5
            refine p_sr (fun K hK => ?_)
            refine p_bd ?_
            refine p_st ?_
            refine p_as ?_
            refine al_nil (x_then (hK _ ?_))
            clear hK K
            refine aw_ret ?_
            refine x_blockR ?_
            refine x_thenR ?_
            clear hK K
            refine abody_ret (r := spcR (addL s dev a)) none (by repeat (first | exact ResA.nil | (apply ResA.tmp; (focus exact rfl)) | (apply ResA.cellN; (focus exact inferInstance); (focus exact rfl); (focus exact rfl); (focus exact rfl)) | (apply ResA.cell1; (focus exact inferInstance); (focus exact rfl); (focus exact rfl); (focus exact rfl)))) rfl rfl rfl ?_ ⟨rfl, rfl, rfl⟩
            rw [addL, if_neg (by omega), if_neg (by simp [hc2]), if_neg (by simp [hc3]), if_pos (.inr hc5)]
            exact sperr_le _
          · have hc5 := bp hb5
            refine p_sr (fun K hK => ?_)
            refine al_p rfl (st_loadBW rfl rfl rfl ?_)
            refine p_mv ?_
            refine al_p rfl (q_call (Pmounted s dev hs) ?_)
            rintro r rfl
            refine p_mv ?_
            refine al_gs false rfl rfl (fun hb6 => ?_) (fun hb6 => ?_)
            · have hc6 := bp hb6
              refine g_n ?_
              refine g_n ?_
              refine g_n ?_
              refine al_p rfl (p_t ?_)
              refine p_as ?_
              refine al_nil (x_then (hK _ ?_))
              clear hK K
              refine aw_cy rfl (by first | rfl | assumption | simp [*]) ?_
              refine p_sr (fun K hK => ?_)
              refine p_bd ?_
              refine p_st ?_
              refine p_as ?_
              refine al_nil (x_then (hK _ ?_))
              clear hK K
              refine aw_ret ?_
              refine x_blockR ?_
              refine x_thenR ?_
              clear hK K
              refine abody_ret (r := spcR (addL s dev a)) none (by repeat (first | exact ResA.nil | (apply ResA.tmp; (focus exact rfl)) | (apply ResA.cellN; (focus exact inferInstance); (focus exact rfl); (focus exact rfl); (focus exact rfl)) | (apply ResA.cell1; (focus exact inferInstance); (focus exact rfl); (focus exact rfl); (focus exact rfl)))) rfl rfl rfl ?_ ⟨rfl, rfl, rfl⟩
              rw [addL, if_neg (by omega), if_neg (by simp [hc2]), if_neg (by simp [hc3]), if_neg (by simp [hc4, hc5]), if_pos (.inl hc6)]
              exact sperr_le _
            · have hc6 := bp hb6
              refine g_y (st_loadBW rfl rfl rfl ?_)
              refine g_y (st_loadBW rfl rfl rfl ?_)
              refine g_y (q_call (Pcovered s a hs) ?_)
              rintro r rfl
              refine al_p rfl (p_f ?_)
              refine p_as ?_
              refine al_nil (x_then (hK _ ?_))
              clear hK K
              refine aw_cond rfl (fun hb7 => ?_) (fun hb7 => ?_)
              · have hc7 := bp hb7
                refine p_sr (fun K hK => ?_)
                refine p_bd ?_
                refine p_st ?_
                refine p_as ?_
                refine al_nil (x_then (hK _ ?_))
                clear hK K
                refine aw_ret ?_
                refine x_blockR ?_
                refine x_thenR ?_
                clear hK K
                refine abody_ret (r := spcR (addL s dev a)) none (by repeat (first | exact ResA.nil | (apply ResA.tmp; (focus exact rfl)) | (apply ResA.cellN; (focus exact inferInstance); (focus exact rfl); (focus exact rfl); (focus exact rfl)) | (apply ResA.cell1; (focus exact inferInstance); (focus exact rfl); (focus exact rfl); (focus exact rfl)))) rfl rfl rfl ?_ ⟨rfl, rfl, rfl⟩
                rw [addL, if_neg (by omega), if_neg (by simp [hc2]), if_neg (by simp [hc3]), if_neg (by simp [hc4, hc5]), if_pos (.inr hc7)]
                exact sperr_le _
              · have hc7 := bp hb7
                refine aw_skip ?_
                refine x_blockN ?_
                refine x_then ?_
                refine hK _ ?_
                clear hK K
                refine p_sr (fun K hK => ?_)
                refine al_p rfl (st_loadBW rfl rfl rfl ?_)
                refine al_p rfl (s_callT rfl (by repeat (first | exact Args.nil | refine Args.cons _ _ _ _ _ rfl (argOk_clean rfl) ?_ | refine Args.cons _ _ _ _ _ rfl (argOk_nil _) ?_ | refine Args.cons _ _ _ _ _ rfl (argOk_era _) ?_ | refine Args.cons _ _ _ _ _ rfl (argOk_le rfl (by repeat (first | exact LeA.refl _ | exact LeA.nil _ | exact LeL.refl _ | refine LeA.agg ?_ | refine LeA.tup ?_ | exact LeL.nil | refine LeL.cons ?_ ?_ | exact LeA.any _))) ?_)) (PspcT s hs hne) (fun _ => rfl) (by repeat constructor) ?_)
                refine p_st ?_
                refine al_nil (x_then (hK _ ?_))
                clear hK K
                refine p_sr (fun K hK => ?_)
                refine al_p rfl (st_fieldB rfl ?_)
                refine al_p rfl (st_loadB1 rfl rfl rfl ?_)
                refine p_mv ?_
                refine al_p rfl (st_loadBW rfl rfl rfl ?_)
                refine p_bd ?_
                refine al_p rfl (st_slit (by repeat (first | exact DenseA.nil _ | (apply DenseA.cons; (focus exact rfl); (focus exact rfl); (focus exact rfl); (focus exact rfl)) | (apply DenseA.consE; (focus exact rfl); (focus exact rfl); (focus exact rfl)))) rfl rfl rfl rfl ?_)
                first | refine al_p rfl (s_append rfl rfl rfl (by simp; omega) (by repeat constructor) ?_) | refine al_p rfl (s_append0 rfl rfl (by simp; omega) (by repeat constructor) ?_)
                refine al_p rfl (st_fieldB rfl ?_)
                refine p_st ?_
                refine al_nil (x_then (hK _ ?_))
                clear hK K
                refine p_sr (fun K hK => ?_)
                refine al_p rfl (st_loadBW rfl rfl rfl ?_)
                refine p_st ?_
                refine p_as ?_
                refine al_nil (x_then (hK _ ?_))
                clear hK K
                refine aw_ret ?_
                refine e_ret ?_
                rw [addL, if_neg (by omega), if_neg (by simp [hc2]), if_neg (by simp [hc3]), if_neg (by simp [hc4, hc5]), if_neg (by simp [hc6, hc7])]
                simp only [spcR, spcA, List.map_append]
                rfl

theorem PremF (x : Mnt) (dev : Int) : AFn Try.prog 68 [.agg (mntA x), .fp [.v (.int .i64 dev)]] (fun r => r = .v (.bool (decide (x.1 = dev)))) := by
  refine enter Try.func68 rfl rfl rfl rfl rfl 0 rfl ?_
  refine p_sr (fun K hK => ?_)
  first | refine al_p rfl (s_boxA rfl rfl (by repeat constructor) ?_) | refine al_p rfl (s_box rfl rfl (by repeat constructor) ?_)
  refine p_as ?_
  refine al_nil (x_then (hK _ ?_))
  clear hK K
  refine p_sr (fun K hK => ?_)
  refine al_p rfl (st_fieldB rfl ?_)
  refine al_p rfl (st_loadB1 rfl rfl rfl ?_)
  first | refine al_p rfl (st_loadB1 rfl rfl rfl ?_) | refine al_p rfl (st_loadBW rfl rfl rfl ?_) | refine al_p rfl (st_loadF1 rfl rfl ?_) | refine al_p rfl (st_loadFW rfl rfl ?_) | refine al_p rfl (st_loadBN rfl rfl rfl ?_) | refine al_p rfl (st_loadFN rfl rfl ?_)
  first | refine al_p rfl (st_eql rfl rfl ?_) | refine al_p rfl (st_eqlS rfl rfl ?_) | refine al_p rfl (st_eqlB (by kernel_rfl) rfl rfl ?_)
  refine p_as ?_
  refine al_nil (x_then (hK _ ?_))
  clear hK K
  refine aw_ret ?_
  refine e_ret ?_
  rfl

theorem PidxM (ms : List Mnt) (dev : Int) (hm : ms.length ≤ 1000) : AFn Try.prog 89 [.sl 3 (ms.map mntA) none, .fn 68 [.fp [.v (.int .i64 dev)]]] (fun r => r = .v (.int .i64 (idxBy (fun m : Mnt => decide (m.1 = dev)) ms))) := by
  refine enter Try.func89 rfl rfl rfl rfl rfl 0 rfl ?_
  refine p_sr (fun K hK => ?_)
  refine p_as ?_
  refine al_nil (x_then (hK _ ?_))
  clear hK K
  refine aw_seq (fun K hK => ?_)
  refine p_sr (fun K hK => ?_)
  refine p_mv ?_
  first | refine al_p rfl (st_len rfl ?_) | refine al_p rfl (st_lenS (by kernel_rfl) rfl ?_) | refine al_p rfl (st_len0 rfl ?_)
  refine p_mv ?_
  refine al_nil (x_then (hK _ ?_))
  clear hK K
  refine aw_block ?_
  refine aw_loopW (fun m t => ∃ j : Nat, j ≤ ms.length ∧ m = ms.length - j ∧ (∀ i y, i < j → ms[i]? = some y → decide (y.1 = dev) = false) ∧ t = ⟨look [(0, .sl 3 (ms.map mntA) none), (1, .fn 68 [.fp [.v (.int .i64 dev)]]), (7, .v (.int .i64 ((ms.map mntA).length : Int))), (8, .v (.int .i64 (j : Int)))], ⟨[], []⟩⟩) (ms.length) ((wk 0 0)) (⟨0, by omega, rfl, fun i y hi => by omega, rfl⟩) ?_
  rintro m t ⟨j, hj, rfl, ha, rfl⟩
  refine p_sr (fun K hK => ?_)
  first | refine al_p rfl (st_lss rfl rfl ?_) | refine al_p rfl (st_lssS rfl rfl ?_)
  refine al_nil (x_then (hK _ ?_))
  clear hK K
  refine aw_seq (fun K hK => ?_)
  refine aw_cond rfl (fun hb1 => ?_) (fun hb1 => ?_)
  · have hc1 := bp hb1
    obtain ⟨hlt, x, hy, hrow, -⟩ := row_at mntA hc1
    refine aw_skip ?_
    refine x_then ?_
    refine hK _ ?_
    clear hK K
    refine aw_seq (fun K hK => ?_)
    refine aw_block ?_
    refine p_sr (fun K hK => ?_)
    refine p_mv ?_
    refine p_as ?_
    refine al_nil (x_then (hK _ ?_))
    clear hK K
    refine p_sr (fun K hK => ?_)
    refine p_mv ?_
    refine p_mv ?_
    refine p_mv ?_
    refine al_p rfl (st_index rfl rfl rfl (by first | assumption | rfl) ?_)
    refine al_p rfl (st_loadFW rfl rfl ?_)
    refine al_p rfl (st_callC (cy := []) (ys := [.agg (mntA x)]) rfl (by repeat (first | exact Args.nil | refine Args.cons _ _ _ _ _ rfl (argOk_clean rfl) ?_ | refine Args.cons _ _ _ _ _ rfl (argOk_nil _) ?_ | refine Args.cons _ _ _ _ _ rfl (argOk_era _) ?_ | refine Args.cons _ _ _ _ _ rfl (argOk_le rfl (by repeat (first | exact LeA.refl _ | exact LeA.nil _ | exact LeL.refl _ | refine LeA.agg ?_ | refine LeA.tup ?_ | exact LeL.nil | refine LeL.cons ?_ ?_ | exact LeA.any _))) ?_)) rfl rfl (PremF x dev) ?_)
    rintro r rfl
    refine al_nil (x_then (hK _ ?_))
    clear hK K
    refine aw_cond rfl (fun hb2 => ?_) (fun hb2 => ?_)
    · have hc2 := bp hb2
      refine p_sr (fun K hK => ?_)
      refine p_mv ?_
      refine p_as ?_
      refine al_nil (x_then (hK _ ?_))
      clear hK K
      refine aw_ret ?_
      refine x_blockR ?_
      refine x_thenR ?_
      clear hK K
      refine x_thenR ?_
      refine x_blockR ?_
      refine x_thenR ?_
      clear hK K
      refine e_ret ?_
      exact vi (idxBy_first hy (decide_eq_true hc2) ha).symm
    · have hc2 := bp hb2
      refine aw_skip ?_
      refine x_blockN ?_
      refine x_then ?_
      refine hK _ ?_
      clear hK K
      refine aw_region ?_
      first | refine al_p rfl (st_add64 rfl rfl (by omega) ?_) | refine al_p rfl (st_addS rfl rfl (by omega) ?_) | refine al_p rfl (st_add rfl rfl ?_)
      refine p_mv ?_
      refine al_nil ?_
      refine x_then ?_
      refine ⟨_, _, ?_, ⟨j + 1, by omega, rfl, upto_snoc hy ha (decide_eq_false hc2), rfl⟩, (wk 0 0)⟩
      omega
  · have hc1 := bp hb1
    have e3 := row_no mntA hj hc1
    subst e3
    refine aw_exit ?_
    refine x_thenE ?_
    clear hK K
    refine x_thenE ?_
    refine ABlock_out ?_
    refine x_then ?_
    refine hK _ ?_
    clear hK K
    refine p_sr (fun K hK => ?_)
    refine p_as ?_
    refine al_nil (x_then (hK _ ?_))
    clear hK K
    refine aw_ret ?_
    refine e_ret ?_
    exact vi (idxBy_none ha).symm

theorem PdelM (ms : List Mnt) (dev : Int) (cap : Nat) (hm : ms.length ≤ 1000) (hcap : ms.length ≤ cap) (hex : ∃ m ∈ ms, m.1 = dev) : ACall Try.prog 67 [.bs 0 0 3 ms.length cap, .fn 68 [.fp [.v (.int .i64 dev)]]] [rowsB 3 cap (ms.map mntA)] (fun r b t => t = [] ∧ r = .bs 0 0 3 (keepM dev ms).length cap ∧ b = [rowsB 3 cap ((keepM dev ms).map mntA)]) := by
  obtain ⟨k, hk, y, hky, hkd, hkf⟩ : ∃ k : Nat, idxBy (fun m : Mnt => decide (m.1 = dev)) ms = (k : Int) ∧ ∃ y, ms[k]? = some y ∧ y.1 = dev ∧ ∀ i z, i < k → ms[i]? = some z → z.1 ≠ dev := by
    obtain ⟨m, hm1, hm2⟩ := hex
    cases h : ms.findIdx? (fun m : Mnt => decide (m.1 = dev)) with
    | none => rw [List.findIdx?_eq_none_iff] at h; have := h m hm1; simp [hm2] at this
    | some k =>
      obtain ⟨hl, hp, hf⟩ := List.findIdx?_eq_some_iff_getElem.1 h
      refine ⟨k, by unfold idxBy; rw [h], ms[k], List.getElem?_eq_getElem hl, by simpa using hp, fun i z hi hz => ?_⟩
      have h1 := hf i hi
      obtain ⟨l2, e2⟩ := List.getElem?_eq_some_iff.1 hz
      rw [e2] at h1
      simpa using h1
  have hkl := (List.getElem?_eq_some_iff.1 hky).1
  have hk0 : keepM dev (ms.take (k + 1)) = ms.take k := by
    rw [keepM_at hky, if_pos hkd, List.append_nil]
    refine keepM_all fun m hm => ?_
    obtain ⟨i, hi⟩ := List.getElem?_of_mem hm
    rw [List.getElem?_take] at hi
    split at hi
    · exact hkf i m (by assumption) hi
    · cases hi
  refine enter Try.func67 rfl rfl rfl rfl rfl 1 rfl ?_
  refine p_sr (fun K hK => ?_)
  refine p_as ?_
  refine al_nil (x_then (hK _ ?_))
  clear hK K
  refine p_sr (fun K hK => ?_)
  refine p_mv ?_
  refine p_mv ?_
  refine al_p rfl (s_callR 1 rfl (.cons _ _ _ _ _ rfl (LeA.of_eq (lowG_rows (rows := ms.map mntA) (frz_plain (n := 0) (k := 0) (j := 0) (Nat.zero_le _) rfl (mnt_plain ms)) (mnt_three ms) (by simp) (by simpa using hcap))) (.cons _ _ _ _ _ rfl (LeA.refl _) .nil)) (PidxM ms dev hm) ?_)
  rintro r rfl
  refine ⟨rfl, ?_⟩
  rw [hk]
  refine p_as ?_
  refine al_nil (x_then (hK _ ?_))
  clear hK K
  refine aw_seq (fun K hK => ?_)
  refine p_sr (fun K hK => ?_)
  refine p_mv ?_
  first | refine al_p rfl (st_eql rfl rfl ?_) | refine al_p rfl (st_eqlS rfl rfl ?_) | refine al_p rfl (st_eqlB (by kernel_rfl) rfl rfl ?_)
  refine al_nil (x_then (hK _ ?_))
  clear hK K
  refine aw_cond rfl (fun hb1 => ?_) (fun hb1 => ?_)
  · have hc1 := bp hb1
    exfalso
    omega
  · have hc1 := bp hb1
    refine aw_skip ?_
    refine x_then ?_
    refine hK _ ?_
    clear hK K
    refine aw_seq (fun K hK => ?_)
    refine p_sr (fun K hK => ?_)
    refine p_mv ?_
    refine al_p rfl (st_add64 rfl rfl (by omega) ?_)
    refine p_as ?_
    refine al_nil (x_then (hK _ ?_))
    clear hK K
    refine aw_block ?_
    refine aw_loopW (fun m t => ∃ (i j : Nat) (rows : List Mnt), j ≤ ms.length ∧ m = ms.length - j ∧ i < j ∧ rows.length = ms.length ∧ keepM dev (ms.take j) = rows.take i ∧ rows.drop j = ms.drop j ∧ t = ⟨look [(0, .bs 0 0 3 ms.length cap), (1, .fn 68 [.fp [.v (.int .i64 dev)]]), (5, .v (.int .i64 (i : Int))), (6, .v (.int .i64 (j : Int)))], ⟨[rowsB 3 cap (rows.map mntA)], []⟩⟩) (ms.length - (k + 1)) (weak_of 1 0 rfl rfl rfl (by simp [bpLtB, bp_plain (mnt_plain ms)]) (by repeat (first | exact Sub.nil | refine Sub.cons _ _ _ rfl rfl ?_ | refine Sub.any _ _ ?_ | refine Sub.sl _ _ _ _ _ rfl ?_ | refine Sub.slnil _ _ _ rfl ?_))) (⟨k, k + 1, ms, by omega, rfl, by omega, rfl, hk0, rfl, rfl⟩) ?_
    rintro m t ⟨i, j, rows, hj, rfl, hij, hrl, hkp, hdr, rfl⟩
    refine aw_seq (fun K hK => ?_)
    refine p_sr (fun K hK => ?_)
    refine p_mv ?_
    refine p_mv ?_
    refine al_p rfl (st_lenB rfl ?_)
    first | refine al_p rfl (st_lss rfl rfl ?_) | refine al_p rfl (st_lssS rfl rfl ?_)
    refine al_nil (x_then (hK _ ?_))
    clear hK K
    refine aw_cond rfl (fun hb2 => ?_) (fun hb2 => ?_)
    · have hc2 := bp hb2
      have hjl : j < ms.length := by omega
      obtain ⟨x, hx⟩ : ∃ x, ms[j]? = some x := ⟨_, List.getElem?_eq_getElem hjl⟩
      obtain ⟨hd1, hd2⟩ := drop_get hdr
      have hrx : rows[j]? = some x := hd1.trans hx
      have hkx := keepM_at hx dev
      obtain ⟨z, hz⟩ : ∃ z, rows[i]? = some z := ⟨_, List.getElem?_eq_getElem (by omega)⟩
      refine aw_skip ?_
      refine x_then ?_
      refine hK _ ?_
      clear hK K
      refine aw_seq (fun K hK => ?_)
      refine aw_block ?_
      refine p_sr (fun K hK => ?_)
      refine p_mv ?_
      refine p_mv ?_
      refine al_p rfl (st_indexS (m := j) rfl rfl rfl hjl ?_)
      refine al_p rfl (st_loadBE rfl rfl (by rw [rowsB_len (mnt_three rows) (by simp; omega)]; omega) (rowsB_row (mnt_three rows) (by rw [List.getElem?_map, hrx]; rfl)) ?_)
      refine al_p rfl (s_alloc (by repeat constructor) ?_)
      refine p_st ?_
      refine al_nil (x_then (hK _ ?_))
      clear hK K
      refine p_sr (fun K hK => ?_)
      refine p_mv ?_
      refine al_p rfl (st_loadBW rfl rfl rfl ?_)
      refine al_p rfl (st_callC (cy := []) (ys := [.agg (mntA x)]) rfl (by repeat (first | exact Args.nil | refine Args.cons _ _ _ _ _ rfl (argOk_clean rfl) ?_ | refine Args.cons _ _ _ _ _ rfl (argOk_nil _) ?_ | refine Args.cons _ _ _ _ _ rfl (argOk_era _) ?_ | refine Args.cons _ _ _ _ _ rfl (argOk_le rfl (by repeat (first | exact LeA.refl _ | exact LeA.nil _ | exact LeL.refl _ | refine LeA.agg ?_ | refine LeA.tup ?_ | exact LeL.nil | refine LeL.cons ?_ ?_ | exact LeA.any _))) ?_)) rfl rfl (PremF x dev) ?_)
      rintro r rfl
      refine al_p rfl (st_not rfl ?_)
      refine al_nil (x_then (hK _ ?_))
      clear hK K
      refine aw_cond rfl (fun hb3 => ?_) (fun hb3 => ?_)
      · have hc3 := bp hb3
        rw [if_neg hc3] at hkx
        refine p_sr (fun K hK => ?_)
        refine p_mv ?_
        refine p_mv ?_
        refine al_p rfl (st_loadBW rfl rfl rfl ?_)
        refine al_p rfl (st_indexS (m := i) rfl rfl rfl (by omega) ?_)
        refine al_p0 (s_store rfl rfl rfl rfl rfl rfl (mnt_set hz) (by repeat constructor) ?_)
        refine al_nil (x_then (hK _ ?_))
        clear hK K
        refine aw_region ?_
        refine p_mv ?_
        refine al_p rfl (st_add64 rfl rfl (by omega) ?_)
        refine p_as ?_
        refine al_nil ?_
        refine x_blockN ?_
        refine x_then ?_
        refine hK _ ?_
        clear hK K
        refine aw_region ?_
        refine p_mv ?_
        first | refine al_p rfl (st_add64 rfl rfl (by omega) ?_) | refine al_p rfl (st_addS rfl rfl (by omega) ?_) | refine al_p rfl (st_add rfl rfl ?_)
        refine p_as ?_
        refine al_nil ?_
        refine x_then ?_
        first | exact ⟨ms.length - (j + 1), _, by omega, ⟨i + 1, j + 1, rows.set i x, by omega, rfl, by omega, by simpa using hrl, (by rw [hkx, hkp, take_set (by omega)]), (by rw [drop_set (by omega)]; exact hd2), rfl⟩, weak_of 1 0 rfl rfl rfl (bp1 _ _) ((by repeat (first | exact Sub.nil | refine Sub.cons _ _ _ rfl rfl ?_ | refine Sub.any _ _ ?_ | refine Sub.sl _ _ _ _ _ rfl ?_ | refine Sub.slnil _ _ _ rfl ?_)))⟩ | exact ⟨ms.length - (j + 1), _, by omega, ⟨i, j + 1, rows, by omega, rfl, by omega, hrl, (by rw [hkx, hkp]), hd2, rfl⟩, weak_of 1 0 rfl rfl rfl (bp1 _ _) ((by repeat (first | exact Sub.nil | refine Sub.cons _ _ _ rfl rfl ?_ | refine Sub.any _ _ ?_ | refine Sub.sl _ _ _ _ _ rfl ?_ | refine Sub.slnil _ _ _ rfl ?_)))⟩
      · have hc3 := bp hb3
        rw [if_pos hc3, List.append_nil] at hkx
        refine aw_skip ?_
        refine x_blockN ?_
        refine x_then ?_
        refine hK _ ?_
        clear hK K
        refine aw_region ?_
        refine p_mv ?_
        first | refine al_p rfl (st_add64 rfl rfl (by omega) ?_) | refine al_p rfl (st_addS rfl rfl (by omega) ?_) | refine al_p rfl (st_add rfl rfl ?_)
        refine p_as ?_
        refine al_nil ?_
        refine x_then ?_
        first | exact ⟨ms.length - (j + 1), _, by omega, ⟨i + 1, j + 1, rows.set i x, by omega, rfl, by omega, by simpa using hrl, (by rw [hkx, hkp, take_set (by omega)]), (by rw [drop_set (by omega)]; exact hd2), rfl⟩, weak_of 1 0 rfl rfl rfl (bp1 _ _) ((by repeat (first | exact Sub.nil | refine Sub.cons _ _ _ rfl rfl ?_ | refine Sub.any _ _ ?_ | refine Sub.sl _ _ _ _ _ rfl ?_ | refine Sub.slnil _ _ _ rfl ?_)))⟩ | exact ⟨ms.length - (j + 1), _, by omega, ⟨i, j + 1, rows, by omega, rfl, by omega, hrl, (by rw [hkx, hkp]), hd2, rfl⟩, weak_of 1 0 rfl rfl rfl (bp1 _ _) ((by repeat (first | exact Sub.nil | refine Sub.cons _ _ _ rfl rfl ?_ | refine Sub.any _ _ ?_ | refine Sub.sl _ _ _ _ _ rfl ?_ | refine Sub.slnil _ _ _ rfl ?_)))⟩
    · have hc2 := bp hb2
      obtain rfl : j = ms.length := by omega
      rw [List.take_length] at hkp
      refine aw_exit ?_
      refine x_thenE ?_
      clear hK K
      refine x_thenE ?_
      refine ABlock_out ?_
      refine x_then ?_
      refine hK _ ?_
      clear hK K
      refine p_sr (fun K hK => ?_)
      refine p_mv ?_
      refine p_mv ?_
      refine al_p rfl (st_sliceLoB (l := i) rfl rfl rfl (by omega) ?_)
      refine al_p0 (st_clearB rfl rfl (by omega) (by rw [rowsB_len (mnt_three rows) (by simp; omega)]; omega) (by repeat constructor) ?_)
      refine al_nil (x_then (hK _ ?_))
      clear hK K
      refine p_sr (fun K hK => ?_)
      refine p_mv ?_
      refine p_mv ?_
      refine al_p rfl (st_sliceHiB (k := i) rfl rfl rfl (by omega) ?_)
      refine p_as ?_
      refine al_nil (x_then (hK _ ?_))
      clear hK K
      refine aw_ret ?_
      refine abody_ret (r := .bs 0 0 3 (keepM dev ms).length cap) none (by repeat (first | exact ResA.nil | (apply ResA.tmp; (focus exact rfl)) | (apply ResA.cellN; (focus exact inferInstance); (focus exact rfl); (focus exact rfl); (focus exact rfl)) | (apply ResA.cell1; (focus exact inferInstance); (focus exact rfl); (focus exact rfl); (focus exact rfl)))) rfl rfl (by rw [mnt_cut (by omega) (by omega)]; show (bpLtL 1 0 (rowsB 3 cap ((rows.take i).map mntA)) && true) = true; rw [bp_plain (mnt_plain _)]; rfl) (LeA.of_eq (by rw [hkp, List.length_take, Nat.min_eq_left (by omega)]; rfl)) ⟨rfl, rfl, by rw [mnt_cut (by omega) (by omega), hkp]; rfl⟩

end
end Go.Proofs.Ytgliiknfmlmddaa
namespace Go.Proofs.Ytgliiknfmlmddaa
open Go.RowKit

theorem onL_mem {s : Spc} {dev : Int} (h : mtdL s dev = true) (h0 : dev ≠ 0) : ∃ m ∈ s.mounts, m.1 = dev := by
  unfold mtdL onL at h
  simp only [h0, decide_false, Bool.or_false, Option.isSome_map] at h
  obtain ⟨m, hm⟩ := Option.isSome_iff_exists.1 h
  have h1 := List.find?_some hm
  exact ⟨m, List.mem_of_find?_eq_some hm, by simpa using h1⟩
theorem SpcV.apart {s : Spc} (h : SpcV s) : ∀ m ∈ s.mounts, m.1 ≠ m.2.1 := by
  intro m hm e
  obtain ⟨i, hi⟩ := List.getElem?_of_mem hm
  have k := h.mnt i m hi
  have h1 := k.fresh
  have h2 := k.there
  rw [← e, h1] at h2
  cases h2
section
set_option maxRecDepth 10000
set_option maxHeartbeats 1000000
theorem Premove (s : Spc) (dev : Int) (hs : SpcB s) (hne : ∀ d ∈ s.files, 0 < d.nodes.length) (hap : ∀ m ∈ s.mounts, m.1 ≠ m.2.1) : AFn Try.prog 36 [.agg (spcA s), .v (.int .i64 dev)] (fun r => r = spcR (remL s dev)) := by
  have hfew := hs.few
  have hml : (s.mounts.map mntA).length = s.mounts.length := by simp
  refine enter Try.func36 rfl rfl rfl rfl rfl 0 rfl ?_
  refine p_sr (fun K hK => ?_)
  first | refine al_p rfl (s_boxA rfl rfl (by repeat constructor) ?_) | refine al_p rfl (s_box rfl rfl (by repeat constructor) ?_)
  first | refine al_p rfl (s_boxA rfl rfl (by repeat constructor) ?_) | refine al_p rfl (s_box rfl rfl (by repeat constructor) ?_)
  refine al_p rfl (s_alloc (by repeat constructor) ?_)
  refine p_as ?_
  refine al_nil (x_then (hK _ ?_))
  clear hK K
  refine aw_seq (fun K hK => ?_)
  refine p_sr (fun K hK => ?_)
  refine al_p rfl (st_loadB1 rfl rfl rfl ?_)
  first | refine al_p rfl (st_eql rfl rfl ?_) | refine al_p rfl (st_eqlS rfl rfl ?_) | refine al_p rfl (st_eqlB (by kernel_rfl) rfl rfl ?_)
  refine p_mv ?_
  refine al_gs false rfl rfl (fun hb1 => ?_) (fun hb1 => ?_)
  · have hc1 := bp hb1
    refine g_n ?_
    refine g_n ?_
    refine g_n ?_
    refine g_n ?_
    refine al_p rfl (p_t ?_)
    refine al_nil (x_then (hK _ ?_))
    clear hK K
    refine aw_cy rfl (by first | rfl | assumption | simp [*]) ?_
    refine p_sr (fun K hK => ?_)
    refine p_bd ?_
    refine p_st ?_
    refine p_as ?_
    refine al_nil (x_then (hK _ ?_))
    clear hK K
    refine aw_ret ?_
    refine x_thenR ?_
    clear hK K
    refine abody_ret (r := spcR (remL s dev)) none (by repeat (first | exact ResA.nil | (apply ResA.tmp; (focus exact rfl)) | (apply ResA.cellN; (focus exact inferInstance); (focus exact rfl); (focus exact rfl); (focus exact rfl)) | (apply ResA.cell1; (focus exact inferInstance); (focus exact rfl); (focus exact rfl); (focus exact rfl)))) rfl rfl rfl ?_ ⟨rfl, rfl, rfl⟩
    rw [remL, if_pos (.inl hc1)]
    exact sperr_le _
  · have hc1 := bp hb1
    refine g_y (st_loadBW rfl rfl rfl ?_)
    refine g_y (st_loadB1 rfl rfl rfl ?_)
    refine g_y (q_call (Pmounted s dev hs) ?_)
    rintro r rfl
    refine g_y (st_not rfl ?_)
    refine al_p rfl (p_f ?_)
    refine al_nil (x_then (hK _ ?_))
    clear hK K
    refine aw_cond rfl (fun hb2 => ?_) (fun hb2 => ?_)
    · have hc2 := bp hb2
      refine p_sr (fun K hK => ?_)
      refine p_bd ?_
      refine p_st ?_
      refine p_as ?_
      refine al_nil (x_then (hK _ ?_))
      clear hK K
      refine aw_ret ?_
      refine x_thenR ?_
      clear hK K
      refine abody_ret (r := spcR (remL s dev)) none (by repeat (first | exact ResA.nil | (apply ResA.tmp; (focus exact rfl)) | (apply ResA.cellN; (focus exact inferInstance); (focus exact rfl); (focus exact rfl); (focus exact rfl)) | (apply ResA.cell1; (focus exact inferInstance); (focus exact rfl); (focus exact rfl); (focus exact rfl)))) rfl rfl rfl ?_ ⟨rfl, rfl, rfl⟩
      rw [remL, if_pos (.inr hc2)]
      exact sperr_le _
    · have hc2 := bp hb2
      refine aw_skip ?_
      refine x_then ?_
      refine hK _ ?_
      clear hK K
      refine aw_seq (fun K hK => ?_)
      refine p_sr (fun K hK => ?_)
      refine al_p rfl (st_fieldB rfl ?_)
      refine al_p rfl (st_loadB1 rfl rfl rfl ?_)
      first | refine al_p rfl (st_len rfl ?_) | refine al_p rfl (st_lenS (by kernel_rfl) rfl ?_) | refine al_p rfl (st_len0 rfl ?_)
      refine p_mv ?_
      refine al_nil (x_then (hK _ ?_))
      clear hK K
      refine aw_block ?_
      refine aw_loopW (fun m t => ∃ j : Nat, j ≤ s.mounts.length ∧ m = s.mounts.length - j ∧ (∀ i y, i < j → s.mounts[i]? = some y → decide (y.2.1 = dev) = false) ∧ t = ⟨look [(2, .bp 0 0), (3, .bp 1 0), (4, .bp 2 0), (18, .sl 3 (s.mounts.map mntA) none), (19, .v (.int .i64 ((s.mounts.map mntA).length : Int))), (20, .v (.int .i64 (j : Int)))], ⟨[spcA s, [.v (.int .i64 dev)], [.v (.slice none 0 0), .v (.slice none 0 0)]], []⟩⟩) (s.mounts.length) ((wk 3 0)) (⟨0, by omega, rfl, fun i y hi => by omega, rfl⟩) ?_
      rintro m t ⟨j, hj, rfl, ha, rfl⟩
      refine p_sr (fun K hK => ?_)
      first | refine al_p rfl (st_lss rfl rfl ?_) | refine al_p rfl (st_lssS rfl rfl ?_)
      refine al_nil (x_then (hK _ ?_))
      clear hK K
      refine aw_seq (fun K hK => ?_)
      refine aw_cond rfl (fun hb3 => ?_) (fun hb3 => ?_)
      · have hc3 := bp hb3
        obtain ⟨hlt, x, hy, hrow, -⟩ := row_at mntA hc3
        have hxa := hap x (List.mem_of_getElem? hy)
        refine aw_skip ?_
        refine x_then ?_
        refine hK _ ?_
        clear hK K
        refine aw_seq (fun K hK => ?_)
        refine aw_block ?_
        refine p_sr (fun K hK => ?_)
        refine al_p rfl (st_index rfl rfl rfl (by first | assumption | rfl) ?_)
        refine al_p rfl (st_loadFW rfl rfl ?_)
        refine al_p rfl (s_alloc (by repeat constructor) ?_)
        refine p_st ?_
        refine al_nil (x_then (hK _ ?_))
        clear hK K
        refine p_sr (fun K hK => ?_)
        refine al_p rfl (st_fieldB rfl ?_)
        refine al_p rfl (st_loadB1 rfl rfl rfl ?_)
        refine al_p rfl (st_loadB1 rfl rfl rfl ?_)
        first | refine al_p rfl (st_neq rfl rfl ?_) | refine al_p rfl (st_neqS rfl rfl ?_) | refine al_p rfl (st_neqB (by kernel_rfl) rfl rfl ?_)
        refine p_mv ?_
        refine al_gs true rfl rfl (fun hb4 => ?_) (fun hb4 => ?_)
        · have hc4 := bp hb4
          refine g_y (st_fieldB rfl ?_)
          refine g_y (st_fieldB rfl ?_)
          refine g_y (st_loadB1 rfl rfl rfl ?_)
          refine g_y (st_loadB1 rfl rfl rfl ?_)
          first | refine g_y (st_eql rfl rfl ?_) | refine g_y (st_eqlS rfl rfl ?_) | refine g_y (st_eqlB (by kernel_rfl) rfl rfl ?_)
          refine al_p rfl (p_t ?_)
          refine al_nil (x_then (hK _ ?_))
          clear hK K
          refine aw_cond rfl (fun hb5 => ?_) (fun hb5 => ?_)
          · have hc5 := bp hb5
            have hany : (s.mounts.any fun m => decide (m.2.1 = dev)) = true := any_at hy (decide_eq_true hc5)
            refine p_sr (fun K hK => ?_)
            refine p_bd ?_
            refine p_st ?_
            refine p_as ?_
            refine al_nil (x_then (hK _ ?_))
            clear hK K
            refine aw_ret ?_
            refine x_blockR ?_
            refine x_thenR ?_
            clear hK K
            refine x_thenR ?_
            refine x_blockR ?_
            refine x_thenR ?_
            clear hK K
            refine abody_ret (r := spcR (remL s dev)) none (by repeat (first | exact ResA.nil | (apply ResA.tmp; (focus exact rfl)) | (apply ResA.cellN; (focus exact inferInstance); (focus exact rfl); (focus exact rfl); (focus exact rfl)) | (apply ResA.cell1; (focus exact inferInstance); (focus exact rfl); (focus exact rfl); (focus exact rfl)))) rfl rfl rfl ?_ ⟨rfl, rfl, rfl⟩
            rw [remL, if_neg (by simp [hc1, hc2]), if_pos hany]
            exact sperr_le _
          · have hc5 := bp hb5
            have hno : decide (x.2.1 = dev) = false := decide_eq_false hc5
            refine aw_skip ?_
            refine x_blockN ?_
            refine x_then ?_
            refine hK _ ?_
            clear hK K
            refine aw_region ?_
            first | refine al_p rfl (st_add64 rfl rfl (by omega) ?_) | refine al_p rfl (st_addS rfl rfl (by omega) ?_) | refine al_p rfl (st_add rfl rfl ?_)
            refine p_mv ?_
            refine al_nil ?_
            refine x_then ?_
            refine ⟨_, _, ?_, ⟨j + 1, by omega, rfl, upto_snoc hy ha hno, rfl⟩, (wk 3 0)⟩
            omega
        · have hc4 := bp hb4
          have hno : decide (x.2.1 = dev) = false := decide_eq_false (fun h => hxa (hc4.trans h.symm))
          refine g_n ?_
          refine g_n ?_
          refine g_n ?_
          refine g_n ?_
          refine g_n ?_
          refine al_p rfl (p_f ?_)
          refine al_nil (x_then (hK _ ?_))
          clear hK K
          refine aw_cn rfl (by first | rfl | assumption | simp [*]) ?_
          refine aw_skip ?_
          refine x_blockN ?_
          refine x_then ?_
          refine hK _ ?_
          clear hK K
          refine aw_region ?_
          first | refine al_p rfl (st_add64 rfl rfl (by omega) ?_) | refine al_p rfl (st_addS rfl rfl (by omega) ?_) | refine al_p rfl (st_add rfl rfl ?_)
          refine p_mv ?_
          refine al_nil ?_
          refine x_then ?_
          refine ⟨_, _, ?_, ⟨j + 1, by omega, rfl, upto_snoc hy ha hno, rfl⟩, (wk 3 0)⟩
          omega
      · have hc3 := bp hb3
        have e3 := row_no mntA hj hc3
        subst e3
        have hany : (s.mounts.any fun m => decide (m.2.1 = dev)) = false := any_no ha
        obtain ⟨xm, hxm, hxd⟩ := onL_mem hc2 hc1
        have hex : ∃ m ∈ s.mounts, m.1 = dev := ⟨xm, hxm, hxd⟩
        have hpos : 0 < s.mounts.length := List.length_pos_of_mem hxm
        refine aw_exit ?_
        refine x_thenE ?_
        clear hK K
        refine x_thenE ?_
        refine ABlock_out ?_
        refine x_then ?_
        refine hK _ ?_
        clear hK K
        refine aw_midI (fun t => ∃ cap, s.mounts.length ≤ cap ∧ t = ⟨look [(2, .bp 0 0), (3, .fp [.v (.int .i64 dev)]), (4, .bp 1 0)], ⟨[[.sl 2 (s.files.map dvcA) none, .bs 2 0 3 s.mounts.length cap], [.v (.slice none 0 0), .v (.slice none 0 0)], rowsB 3 cap (s.mounts.map mntA)], []⟩⟩) ?_ ?_
        · skip
          refine aw_region ?_
          refine al_p rfl (st_loadBW rfl rfl rfl ?_)
          refine al_p rfl (s_callM [] rfl (.cons _ _ _ _ _ rfl (LeA.refl _) .nil) (by decide) .nil (PspcB s hs hne hpos) ?_)
          rintro r bc tc ⟨rfl, cap, hcap, rfl, rfl⟩
          refine ⟨rfl, _, (back_newQ 3 rfl (spcA s) _ _ _ rfl rfl rfl (ren_rows (mnt_plain s.mounts)) : Back _ [] _ [_, _, _, _, [.sl 2 (s.files.map dvcA) none, .bs 6 0 3 s.mounts.length cap], _, _]), ?_⟩
          refine p_st ?_
          refine al_nil ?_
          refine x_then ?_
          refine ⟨_, ⟨cap, hcap, rfl⟩, Weak.trans (s' := ⟨look [(2, .bp 0 0), (3, .bp 3 0), (4, .bp 1 0)], ⟨[[AV.sl 2 (s.files.map dvcA) none, AV.bs 2 0 3 s.mounts.length cap], [AV.v (.slice none 0 0), AV.v (.slice none 0 0)], rowsB 3 cap (s.mounts.map mntA), [AV.v (.int .i64 dev)]], []⟩⟩) ?_ ?_⟩
          · exact weak_ren [0, 2, 6, 1] (fun i hi => absurd hi (Nat.not_lt_zero i)) (by decide) (.cons _ _ _ _ _ rfl rfl (.cons _ _ _ _ _ rfl rfl (.cons _ _ _ _ _ rfl (renK_rows (mnt_plain s.mounts)) (.cons _ _ _ _ _ rfl rfl .nil)))) (.cons _ _ _ _ rfl (LeA.refl _) (.cons _ _ _ _ rfl (LeA.refl _) (.cons _ _ _ _ rfl (LeA.refl _) .nil)))
          · exact weak_fz 3 1 rfl (congrArg (fun x : List AV => ([[AV.sl 2 (s.files.map dvcA) none, AV.bs 2 0 3 s.mounts.length cap], [AV.v (.slice none 0 0), AV.v (.slice none 0 0)], x] : List (List AV))) (liv_plain (cap := cap) (mnt_plain s.mounts))) (.cons _ _ _ _ rfl (LeA.refl _) (.cons _ _ _ _ rfl (LeA.refl _) (.cons _ _ _ _ rfl (LeA.refl _) .nil)))
        · rintro t ⟨cap, hcap, rfl⟩
          refine p_sr (fun K hK => ?_)
          refine al_p rfl (st_fieldB rfl ?_)
          refine al_p rfl (st_loadB1 rfl rfl rfl ?_)
          refine al_p rfl (st_makeFunc rfl ?_)
          refine al_p rfl (s_callM [2] rfl (.cons _ _ _ _ _ rfl (LeA.refl _) (.cons _ _ _ _ _ rfl (LeA.refl _) .nil)) (by decide) (.cons _ _ _ _ _ rfl (ren_rows (mnt_plain s.mounts)) .nil) (PdelM s.mounts dev cap hfew hcap hex) ?_)
          rintro r bc tc ⟨rfl, rfl, rfl⟩
          refine ⟨rfl, _, (back_one (Nat.le_of_ble_eq_true rfl) (ren_rows (mnt_plain _)) : Back _ [2] _ [_, _, _]), ?_⟩
          refine al_p rfl (st_fieldB rfl ?_)
          refine p_st ?_
          refine al_nil (x_then (hK _ ?_))
          clear hK K
          refine aw_midI (fun t => t = ⟨look [(4, .bp 1 0), (5, .v (.int .i64 0))], ⟨[spcA ⟨s.files, keepM dev s.mounts⟩, spcA ⟨s.files, keepM dev s.mounts⟩], []⟩⟩) ?_ ?_
          · skip
            refine aw_region ?_
            refine al_p rfl (st_loadBW rfl rfl rfl ?_)
            refine p_st ?_
            refine p_as ?_
            refine al_nil ?_
            refine x_then ?_
            exact ⟨_, rfl, weak_fz 2 1 rfl (congrArg (fun x : AV => ([[AV.sl 2 (s.files.map dvcA) none, x], [AV.sl 2 (s.files.map dvcA) none, x]] : List (List AV))) (liv_rows (n := 2) (j := 2) (sz := 3) (m := (keepM dev s.mounts).length) (cap0 := cap) (cap := cap) (rows := (keepM dev s.mounts).map mntA) (Nat.le_of_ble_eq_true rfl) (frz_plain (n := 2) (k := 0) (j := 2) (Nat.le_of_ble_eq_true rfl) rfl (mnt_plain _)) (mnt_three _) (by simp) (by have : (keepM dev s.mounts).length ≤ s.mounts.length := List.length_filter_le _ _; simp; omega))) (.cons _ _ _ _ rfl (LeA.refl _) (.cons _ _ _ _ rfl (LeA.refl _) .nil))⟩
          · rintro t rfl
            refine aw_ret ?_
            refine e_ret ?_
            rw [remL, if_neg (by simp [hc1, hc2]), if_neg (by simp [hany])]
            rfl

end
end Go.Proofs.Ytgliiknfmlmddaa
namespace Go.Proofs.Ytgliiknfmlmddaa
open Go.RowKit

theorem afn_spc {P : Program} {f : FuncId} {s : Spc} {xs : List AV} {us : List Value} {z : Value} {R : AV} (hx : ∀ (G : Gh) (w : World) (vs : List Value), repL G w xs vs → vs = us) (hR : ∀ (G : Gh) (w : World), rep G w R z)
    (h : ∀ (w : World) (ds ms : Value), SpcIn s w.heap.size w ds ms → Calls P f (.agg #[ds, ms] :: us).toArray w fun e w' => e = .returned z ∧ Below w.heap.size w w') : AFn P f (.agg (spcA s) :: xs) (fun r => r = R) := by
  intro w St bl vs hr hv
  simp only [repL] at hv
  obtain ⟨z0, zs, rfl, h1, h2⟩ := hv
  obtain rfl := hx _ _ _ h2
  simp only [rep, spcA, repL] at h1
  obtain ⟨ys, rfl, ds, _, rfl, h3, ms, _, rfl, h4, rfl⟩ := h1
  have hs : SpcIn s w.heap.size w ds ms := by
    refine ⟨Nat.le_refl _, ?_⟩
    refine froL_mono (St := St) (fun b o hb => ⟨hr.stlt b o hb, rfl⟩) _ _ ?_
    simp only [spcA, froL]
    exact ⟨_, _, rfl, h3, _, _, rfl, h4, rfl⟩
  refine (h w ds ms hs).mono ?_
  rintro e w' ⟨rfl, hb⟩
  obtain ⟨k1, k2⟩ := hr.below hb
  exact ⟨_, _, _, _, ⟨rfl, rfl, rfl⟩, k1, k2, hR _ _⟩
theorem repL_fil {G : Gh} {w : World} {a : Fil} {vs : List Value} (h : repL G w [.agg (filA a)] vs) : vs = [FilV a] := by
  simp only [repL, rep, filA] at h
  obtain ⟨_, _, rfl, ⟨_, rfl, _, _, rfl, rfl, _, _, rfl, rfl, rfl⟩, rfl⟩ := h
  rfl
structure SpcN (s : Spc) : Prop where
  b : SpcB s
  nm : ∀ x, (nmoL s x).size ≤ 100
  most : mostL s.files ≤ 5000
section
variable {s : Spc} (hs : SpcN s)
include hs
theorem Pwhere (a : Fil) : AFn Try.prog 23 [.agg (spcA s), .agg (filA a)] (fun r => r = .tup [.v (.string (whereP s a).1), .v (.bool (whereP s a).2)]) :=
  afn_spc (us := [FilV a]) (z := .tuple #[.string (whereP s a).1, .bool (whereP s a).2]) (fun _ _ _ h => repL_fil h) (fun G w => by simp only [rep, repL]; exact ⟨[_, _], rfl, _, _, rfl, rfl, _, _, rfl, rfl, rfl⟩)
    fun w ds ms h => callsIn_wide.1 (where_o 4 (Lib.hid (Nat.le_refl _)) s hs.b hs.nm hs.most a ds ms w h)
theorem Pvisible (a : Fil) : AFn Try.prog 32 [.agg (spcA s), .agg (filA a)] (fun r => r = .v (.bool (visP s a))) :=
  afn_spc (us := [FilV a]) (z := .bool (visP s a)) (fun _ _ _ h => repL_fil h) (fun G w => by simp only [rep])
    fun w ds ms h => callsIn_wide.1 (visible_o 4 (Lib.hid (Nat.le_refl _)) s hs.b hs.nm hs.most a ds ms w h)
end
theorem mem_nodG {f : Fls} {a : Fil} (h : hasG f a = true) : ∃ d ∈ f, nodG f a ∈ d.nodes := by
  obtain ⟨q, i, d, m, _, h2, h3, _, _, h6⟩ := at_ok h
  exact ⟨d, List.mem_of_getElem? h2, by rw [h6]; exact List.mem_of_getElem? h3⟩
theorem nameL_size {x : Str} (h : nameL x = true) : x.size ≤ 12 := by
  rw [name_eq] at h
  by_cases hc : x.size < 1 ∨ 12 < x.size
  · rw [if_pos hc] at h; cases h
  · omega
theorem nmo_size {s : Spc} (h : FlsV s.files) (x : Fil) : (nmoL s x).size ≤ 12 := by
  unfold nmoL
  cases hf : (abvL s x).entries.find? fun e : Ent => decide (e.2 = x.2) with
  | none => exact Nat.zero_le _
  | some e =>
    have hm := List.mem_of_find?_eq_some hf
    unfold abvL at hm
    by_cases hh : hasG s.files (x.1, (nodG s.files x).parent) = true
    · obtain ⟨d, hd, hn⟩ := mem_nodG hh
      exact nameL_size ((h.vd d hd).ent _ hn e hm).1
    · have : nodG s.files (x.1, (nodG s.files x).parent) = Nod.zero := by
        unfold hasG at hh
        cases hq : nodeL s.files (x.1, (nodG s.files x).parent) with
        | none => show (nodeL s.files (x.1, (nodG s.files x).parent)).getD Nod.zero = Nod.zero; rw [hq]; rfl
        | some m => rw [hq] at hh; exact absurd rfl hh
      rw [this] at hm
      cases hm
theorem most_le {f : Fls} (h : FlsV f) : mostL f ≤ 48 := by
  have : ∀ (l : Fls), (∀ d ∈ l, d.nodes.length ≤ 16) → mostL l ≤ l.length * 16 := by
    intro l
    induction l with
    | nil => intro _; simp [mostL]
    | cons d l ih =>
      intro h
      have h1 := ih fun d hd => h d (List.mem_cons_of_mem _ hd)
      have h2 := h d (List.mem_cons_self ..)
      simp only [mostL, List.map_cons, List.sum_cons, List.length_cons] at h1 ⊢
      omega
  have h1 := this f fun d hd => (h.vd d hd).len
  have h2 := h.few
  omega
def awNod : Nod := ⟨0, 2, 493, 0, 0, 0, ⟨#[]⟩, []⟩
def awF : Fls := (mkL (newL 2).1 (0, 1) ⟨#[97]⟩ awNod).1
def awS : Spc := ⟨awF, [(1, (0, 2))]⟩
theorem aw_make : mkL (newL 2).1 (0, 1) ⟨#[97]⟩ awNod = (awF, [((0, 1), ⟨#[97]⟩, (0, 0), (0, 2))], 0) := by kernel_rfl
theorem aw_add : addL ⟨awF, []⟩ 1 (0, 2) = (awS, 0) := by kernel_rfl
theorem aw_where : whereP awS (1, 1) = (⟨#[47, 97]⟩, true) := by kernel_rfl
theorem aw_cov : (covL awS (0, 2)).isSome = true := by kernel_rfl
theorem aw_vis : visP awS (0, 2) = false := by kernel_rfl
end Go.Proofs.Ytgliiknfmlmddaa
