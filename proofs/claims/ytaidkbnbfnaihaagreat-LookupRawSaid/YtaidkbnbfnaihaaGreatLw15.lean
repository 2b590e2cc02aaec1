/-
  Part 15 of the proof of LookupRawP: what the statement's proof uses of the texts in wip/tpl.
-/
import Derived.Test.YtaidkbnbfnaihaaGreatLw14
namespace Go.Proofs.YtaidkbnbfnaihaaGreat
open Go.RowKit

theorem root_is {s : Spc} (hv : SpcV s) : dirL s.files (rootD s) = true := (where_ok ((vis_iff hv _).1 (vis_down hv (wvis_root hv (root_dir hv (Int.le_refl 0) (by have := hv.pos; omega))))).1.1).1
theorem name_short {s : Spc} (fl : Bool) {p : Str} {ps : List Str} {w w' : Wk} (hn : w.name.size ≤ 12) (h : stp s fl p ps w = .inr w') : w'.name.size ≤ 12 := by
  unfold stp at h
  split at h
  · cases h
  · split at h
    · cases h
    · rename_i h2
      split at h
      · injection h with h; subst h; exact Nat.zero_le _
      · split at h
        · injection h with h; subst h; exact Nat.zero_le _
        · split at h
          · cases h
          · split at h
            · split at h
              · cases h
              · injection h with h; subst h; exact Nat.le_of_not_lt h2
            · split at h
              · split at h
                · cases h
                · injection h with h; subst h
                  show ByteArray.size (if _ then _ else _) ≤ 12
                  split
                  · exact Nat.zero_le _
                  · exact hn
              · injection h with h; subst h; exact Nat.le_of_not_lt h2
theorem rest_few {s : Spc} (hv : FlsV s.files) (fl : Bool) {p : Str} {ps : List Str} {w w' : Wk} (hl : w.links ≤ 8) (h : stp s fl p ps w = .inr w') : w'.links ≤ 8 ∧ (8 - w'.links) * 200 + w'.ps.length < (8 - w.links) * 200 + (ps.length + 1) := by
  unfold stp at h
  split at h
  · cases h
  · split at h
    · cases h
    · split at h
      · injection h with h; subst h; exact ⟨hl, by simp only; omega⟩
      · split at h
        · injection h with h; subst h; exact ⟨hl, by simp only; omega⟩
        · split at h
          · cases h
          · split at h
            · split at h
              · cases h
              · injection h with h; subst h; exact ⟨hl, by simp only; omega⟩
            · split at h
              · split at h
                · cases h
                · rename_i h9
                  injection h with h; subst h
                  have ht := nodG_target hv (lookL s.files w.at_ p).1
                  have hs := splS_len (nodG s.files (lookL s.files w.at_ p).1).target
                  refine ⟨by simp only; omega, ?_⟩
                  simp only [List.length_append]
                  have : (8 - w.links) * 200 = (8 - (w.links + 1)) * 200 + 200 := by
                    rw [show 8 - w.links = (8 - (w.links + 1)) + 1 by omega, Nat.add_mul]
                  omega
              · injection h with h; subst h; exact ⟨hl, by simp only; omega⟩
theorem find_long {s : Spc} {start : Fil} {p : Str} {fl : Bool} (h1 : ¬ p = ⟨#[]⟩) (h2 : 128 < p.size) : findL s start p fl = (fnd0, 36) := by unfold findL; rw [if_neg h1, if_pos h2]
section
variable {s : Spc} {start a : Fil} {p : Str} {fl : Bool} (h1 : ¬ p = ⟨#[]⟩) (h2 : ¬ 128 < p.size) (ha : (if hdL p = true then rootD s else start) = a)
include h1 h2 ha
theorem find_nodir (hd : dirL s.files a = false) : findL s start p fl = (fnd0, 2) := by
  unfold findL
  rw [if_neg h1, if_neg h2, ha, if_pos hd]
variable (hd : dirL s.files a = true)
include hd
theorem find_err {e : Int} {τ : Lk} (h : lkT s (fl || lsL p) (lk0 (splS p) a) = (e, τ)) (he : e ≠ 0) : findL s start p fl = (fnd0, e) := by
  unfold findL
  rw [if_neg h1, if_neg h2, ha, if_neg (by simp [hd]), h, if_pos he]
theorem find_slash {τ : Lk} (h : lkT s (fl || lsL p) (lk0 (splS p) a) = (0, τ)) (hs : lsL p = true ∧ τ.ex = true ∧ dirL s.files τ.file = false) : findL s start p fl = (fnd0, 20) := by
  unfold findL
  rw [if_neg h1, if_neg h2, ha, if_neg (by simp [hd]), h, if_neg (by simp), if_pos hs]
theorem find_ok {τ : Lk} (h : lkT s (fl || lsL p) (lk0 (splS p) a) = (0, τ)) (hs : ¬ (lsL p = true ∧ τ.ex = true ∧ dirL s.files τ.file = false)) : findL s start p fl = (fndOf s (lsL p) τ, 0) := by
  unfold findL
  rw [if_neg h1, if_neg h2, ha, if_neg (by simp [hd]), h, if_neg (by simp), if_neg hs]
end
theorem sim0 (ps : List Str) (a d : Fil) (hd : ps = [] → True) : Sim ⟨ps, a, d, ⟨#[]⟩, false, 0⟩ (lk0 ps a) := by
  have _ := hd
  exact ⟨rfl, rfl, rfl, fun _ => rfl, fun h => (by cases h), fun _ _ => ⟨fun _ => ⟨rfl, rfl⟩, fun h => absurd rfl h⟩⟩
def Run (s : Spc) (F : Bool) (σ0 : Lk) (w : Wk) : Prop := w.links ≤ 8 ∧ w.name.size ≤ 12 ∧ ∃ σ, Sim w σ ∧ lkT s F σ = lkT s F σ0
theorem run_step {s : Spc} (hv : SpcV s) {F : Bool} {σ0 : Lk} {w : Wk} {p : Str} {ps : List Str} (hps : w.ps = p :: ps) (h : Run s F σ0 w) : (∀ e, stp s F p ps w = .inl e → lkT s F σ0 = (e, lkZ)) ∧ ∀ w', stp s F p ps w = .inr w' → Run s F σ0 w' := by
  obtain ⟨h8, hn, σ, hS, hT⟩ := h
  have hm : w.missing = false := by
    cases hm : w.missing with
    | false => rfl
    | true => have := (hS.gone hm).2.1; rw [hps] at this; cases this
  have h8σ : σ.links ≤ 8 := by rw [← hS.links]; exact h8
  have hc := lkT_cons hv.files (fl := F) h8σ (hS.ps.symm.trans hps)
  rcases sim_step hv F (p := p) (ps := ps) hS hm with ⟨e, q1, q2⟩ | ⟨w1, τ, q1, q2, q3⟩
  · refine ⟨fun e' he => ?_, fun w' hw => by rw [q1] at hw; cases hw⟩
    rw [q1] at he
    injection he with he
    subst he
    rw [← hT, hc, q2]
  · refine ⟨fun e' he => by (rw [q1] at he; cases he), fun w' hw => ?_⟩
    have k1 := rest_few hv.files F h8 hw
    have k2 := name_short F hn hw
    rw [q1] at hw
    injection hw with hw
    subst hw
    refine ⟨k1.1, k2, τ, q3, ?_⟩
    rw [← hT, hc, q2]
theorem run_end {s : Spc} (hv : SpcV s) {F : Bool} {σ0 : Lk} {w : Wk} (hps : w.ps = []) (h : Run s F σ0 w) : ∃ σ, lkT s F σ0 = (0, σ) ∧ σ.ex = !w.missing ∧ (w.missing = false → σ.file = w.at_) ∧ ∀ sl, fndW s sl w = fndOf s sl σ := by
  obtain ⟨h8, hn, σ, hS, hT⟩ := h
  exact ⟨σ, by rw [← hT]; exact lkT_nil (hS.ps.symm.trans hps), hS.ex, fun hm => (hS.here hm).symm, fun sl => sim_end hv hS hps⟩
section
set_option maxRecDepth 10000
set_option maxHeartbeats 1000000
theorem Pfind7 (s : Spc) (start : Fil) (p : Str) (fl : Bool) (hs : SpcN s) (hv : SpcV s) (hp : p.size ≤ 1000000) : AFn Tryz.prog 14 [.agg (spcA s), .agg (filA start), .v (.string p), .v (.bool fl)] (fun r => r = .tup [.agg (fndA (findL s start p fl).1), .v (.int .i64 (findL s start p fl).2)]) := by
  have hw := where_size hv
  have hri := root_is hv
  refine enter Tryz.func14 rfl rfl rfl rfl rfl 0 rfl ?_
  refine w_ (b_ (h:=b_ (h:=al_ (h:=a_ (h:=e_ (q_ (aw_block (w_ (m_ (h:=eq_ (h:=a_ (h:=e_ (?_)))))))))))))
  refine aw_cond rfl (fun hb1 => ?_) (fun hb1 => ?_)
  · have hc1 := bp hb1
    refine w_ (bd_ (h:=s_ (h:=a_ (h:=e_ (aw_ret (x_blockR (x_thenR (?_))))))))
    refine e_ret ?_
    rw [show findL s start p fl = (fnd0, 2) from if_pos hc1]
    rfl
  · have hc1 := bp hb1
    refine w_ (m_ (h:=n_ (h:=gt_ (h:=a_ (h:=e_ (?_))))))
    refine aw_cond rfl (fun hb2 => ?_) (fun hb2 => ?_)
    · have hc2 := bp hb2
      refine w_ (bd_ (h:=s_ (h:=a_ (h:=e_ (aw_ret (x_blockR (x_thenR (?_))))))))
      refine e_ret ?_
      rw [find_long hc1 (by omega)]
      rfl
    · have hc2 := bp hb2
      refine aw_skip (x_blockN (t_ (w_ (m_ (h:=?_)))))
      refine al_p rfl (q_call (Psplit p (by omega)) ?_)
      rintro r rfl
      refine m_ (h:=x_ (h:=x_ (h:=x_ (h:=a_ (h:=a_ (h:=a_ (h:=e_ (?_))))))))
      refine aw_midI (fun t => t = ⟨look [(2, .v (.string p)), (4, .bp 0 0), (5, .bp 1 0), (8, .bp 2 0), (11, .v (.bool (hdL p))), (12, .v (.bool (lsL p))), (13, .bp 3 0)], ⟨[spcA s, filA start, fndA fnd0, wkA s (fl || lsL p) ⟨splS p, start, (0, 0), ⟨#[]⟩, false, 0⟩], []⟩⟩) ?_ ?_
      · skip
        refine aw_region (l_ (h:=m_ (h:=l_ (h:=m_ (h:=m_ (h:=?_))))))
        refine al_gs false rfl rfl (fun hb3 => ?_) (fun hb3 => ?_)
        · have hc3 := bp hb3
          refine g0_ (h:=pt_ (h:=bd_ (h:=al_ (h:=s_ (h:=al_nil (?_))))))
          refine x_then ?_
          first | (rw [hb3]; exact ⟨_, rfl, (wk 4 0)⟩) | exact ⟨_, rfl, (wk 4 0)⟩
        · have hc3 := bp hb3
          refine m_ (h:=pf_ (h:=bd_ (h:=al_ (h:=s_ (h:=al_nil (?_))))))
          refine x_then ?_
          first | (rw [hb3]; exact ⟨_, rfl, (wk 4 0)⟩) | exact ⟨_, rfl, (wk 4 0)⟩
      · rintro t rfl
        refine aw_midI (fun t => ∃ a, (if hdL p = true then rootD s else start) = a ∧ dirL s.files a = true ∧ t = ⟨look [(4, .bp 0 0), (8, .bp 2 0), (12, .v (.bool (lsL p))), (13, .bp 3 0)], ⟨[spcA s, filA start, fndA fnd0, wkA s (fl || lsL p) ⟨splS p, a, (0, 0), ⟨#[]⟩, false, 0⟩], []⟩⟩) ?_ ?_
        · skip
          refine w_ (m_ (h:=e_ (?_)))
          refine aw_cond rfl (fun hb4 => ?_) (fun hb4 => ?_)
          · have hc4 := bp hb4
            refine aw_region (l_ (h:=?_))
            refine al_p rfl (q_call (Proot s hs.b) ?_)
            rintro r rfl
            refine f_ (h:=s_ (h:=al_nil (?_)))
            refine x_then ?_
            first | exact ⟨_, ⟨rootD s, if_pos hc4, hri, rfl⟩, (wk 4 0)⟩ | exact ⟨_, ⟨start, if_neg (by simp [hc4]), by simpa using hc5, rfl⟩, (wk 4 0)⟩
          · have hc4 := bp hb4
            refine w_ (?_)
            refine al_p rfl (s_callR 1 rfl (.cons _ _ _ _ _ rfl (LeA.refl _) .nil) (PdirW s (fl || lsL p) ⟨splS p, start, (0, 0), ⟨#[]⟩, false, 0⟩ hs.b) ?_)
            rintro r rfl
            refine ⟨rfl, ?_⟩
            refine nt_ (h:=e_ (?_))
            refine aw_cond rfl (fun hb5 => ?_) (fun hb5 => ?_)
            · have hc5 := bp hb5
              refine w_ (bd_ (h:=s_ (h:=a_ (h:=e_ (aw_ret (x_thenR (?_)))))))
              refine e_ret ?_
              rw [find_nodir hc1 (by omega) (if_neg (by simp [hc4])) (by simpa using hc5)]
              rfl
            · have hc5 := bp hb5
              refine aw_skip (?_)
              refine x_then ?_
              first | exact ⟨_, ⟨rootD s, if_pos hc4, hri, rfl⟩, (wk 4 0)⟩ | exact ⟨_, ⟨start, if_neg (by simp [hc4]), by simpa using hc5, rfl⟩, (wk 4 0)⟩
        · rintro t ⟨a, ha, had, rfl⟩
          refine q_ (aw_block (?_))
          refine aw_loopW (fun m t => ∃ w, Run s (fl || lsL p) (lk0 (splS p) a) w ∧ m = (8 - w.links) * 200 + w.ps.length ∧ m ≤ 1600 + (p.size + 1) ∧ t = ⟨look [(4, .bp 0 0), (8, .bp 2 0), (12, .v (.bool (lsL p))), (13, .bp 3 0)], ⟨[spcA s, filA start, fndA fnd0, wkA s (fl || lsL p) w], []⟩⟩) ((8 - 0) * 200 + (splS p).length) ((wk 4 0)) (⟨_, ⟨Nat.zero_le _, Nat.zero_le _, _, sim0 (splS p) a (0, 0) (fun _ => trivial), rfl⟩, rfl, by have := splS_len p; omega, rfl⟩) ?_
          rintro m t ⟨w, hR, rfl, hm, rfl⟩
          have hml : (w.ps.map strA).length = w.ps.length := by simp
          refine q_ (w_ (f_ (h:=l_ (h:=n_ (h:=gt_ (h:=e_ (?_)))))))
          refine aw_cond rfl (fun hb6 => ?_) (fun hb6 => ?_)
          · have hc6 := bp hb6
            obtain ⟨q, qs, hqs⟩ : ∃ q qs, w.ps = q :: qs := by
              cases hq : w.ps with
              | nil => rw [hq] at hml hc6; simp at hc6
              | cons q qs => exact ⟨q, qs, rfl⟩
            have hql : w.ps.length = qs.length + 1 := by rw [hqs]; rfl
            refine kt_ (aw_block (w_ (?_)))
            refine al_p rfl (s_callB 3 rfl (by repeat (first | exact ArgsB.nil | refine ArgsB.cons _ _ _ _ _ rfl rfl ?_)) rfl rfl (Pstep s (fl || lsL p) w q qs hqs hs.b hv hR.1 (by omega)) ?_)
            rintro r row2 (⟨e, he, he0, rfl, rfl⟩ | ⟨w2, hw2, rfl, rfl⟩)
            · refine ⟨bp_wk _ _ _, rfl, _, (by repeat constructor), ?_⟩
              refine a_ (h:=e_ (w_ (m_ (h:=nq_ (h:=e_ (?_))))))
              refine aw_cond rfl (fun hb7 => ?_) (fun hb7 => ?_)
              · have hc7 := bp hb7
                refine w_ (bd_ (h:=m_ (h:=s_ (h:=a_ (h:=e_ (aw_ret (x_blockR (x_thenR (x_blockR (x_thenR (?_)))))))))))
                refine e_ret ?_
                rw [find_err hc1 (by omega) ha had ((run_step hv hqs hR).1 e he) he0]
                rfl
              · have hc7 := bp hb7
                exact absurd hc7 he0
            · refine ⟨bp_wk _ _ _, rfl, _, (by repeat constructor), ?_⟩
              refine a_ (h:=e_ (w_ (m_ (h:=nq_ (h:=e_ (?_))))))
              refine aw_cond rfl (fun hb8 => ?_) (fun hb8 => ?_)
              · have hc8 := bp hb8
                exact absurd rfl hc8
              · have hc8 := bp hb8
                refine aw_skip (x_blockN (?_))
                refine x_then ?_
                exact ⟨(8 - w2.links) * 200 + w2.ps.length, _, (by have := (rest_few hv.files _ hR.1 hw2).2; omega), ⟨w2, (run_step hv hqs hR).2 w2 hw2, rfl, by have := (rest_few hv.files _ hR.1 hw2).2; omega, rfl⟩, (wk 4 0)⟩
          · have hc6 := bp hb6
            have hps : w.ps = [] := List.eq_nil_of_length_eq_zero (by omega)
            obtain ⟨σ, hT, hσx, hσf, hσe⟩ := run_end hv hps hR
            refine aw_exit (x_thenE (x_thenE (ABlock_out (t_ (q_ (?_))))))
            refine aw_mid (⟨look [(8, .bp 2 0), (12, .v (.bool (lsL p))), (13, .bp 3 0), (63, .v (.bool (lsL p && (!w.missing && !dirL s.files w.at_))))], ⟨[spcA s, filA start, fndA fnd0, wkA s (fl || lsL p) w], []⟩⟩) ?_ ?_
            · skip
              refine aw_region (m_ (h:=m_ (h:=?_)))
              refine al_gs true rfl rfl (fun hb9 => ?_) (fun hb9 => ?_)
              · have hc9 := bp hb9
                refine f_ (h:=l_ (h:=nt_ (h:=pt_ (h:=m_ (h:=?_)))))
                refine al_gs true rfl rfl (fun hb10 => ?_) (fun hb10 => ?_)
                · have hc10 := bp hb10
                  refine g_y (s_callR 1 rfl (.cons _ _ _ _ _ rfl (LeA.refl _) .nil) (PdirW s (fl || lsL p) w hs.b) ?_)
                  rintro r rfl
                  refine ⟨rfl, ?_⟩
                  refine nt_ (h:=pt_ (h:=al_nil (?_)))
                  refine x_then ?_
                  first | (exfalso; first | contradiction | omega) | exact weak_of 4 0 rfl rfl rfl rfl (by repeat (first | exact Sub.nil | refine Sub.cons _ _ _ rfl rfl ?_ | refine Sub.any _ _ ?_ | refine Sub.sl _ _ _ _ _ rfl ?_ | refine Sub.slnil _ _ _ rfl ?_ | (apply Sub.of; (focus exact rfl); (focus exact LeA.of_eq (vb (by first | (rw [hb9]; rfl) | (rw [hb9, hb10]; rfl)))); (focus exact rfl))))
                · have hc10 := bp hb10
                  refine g0_ (h:=g0_ (h:=pf_ (h:=al_nil (?_))))
                  refine x_then ?_
                  first | (exfalso; first | contradiction | omega) | exact weak_of 4 0 rfl rfl rfl rfl (by repeat (first | exact Sub.nil | refine Sub.cons _ _ _ rfl rfl ?_ | refine Sub.any _ _ ?_ | refine Sub.sl _ _ _ _ _ rfl ?_ | refine Sub.slnil _ _ _ rfl ?_ | (apply Sub.of; (focus exact rfl); (focus exact LeA.of_eq (vb (by first | (rw [hb9]; rfl) | (rw [hb9, hb10]; rfl)))); (focus exact rfl))))
              · have hc9 := bp hb9
                refine g0_ (h:=g0_ (h:=g0_ (h:=pf_ (h:=m_ (h:=g0_ (h:=g0_ (h:=pf_ (h:=al_nil (?_)))))))))
                refine x_then ?_
                first | (exfalso; first | contradiction | omega) | exact weak_of 4 0 rfl rfl rfl rfl (by repeat (first | exact Sub.nil | refine Sub.cons _ _ _ rfl rfl ?_ | refine Sub.any _ _ ?_ | refine Sub.sl _ _ _ _ _ rfl ?_ | refine Sub.slnil _ _ _ rfl ?_ | (apply Sub.of; (focus exact rfl); (focus exact LeA.of_eq (vb (by first | (rw [hb9]; rfl) | (rw [hb9, hb10]; rfl)))); (focus exact rfl))))
            · skip
              refine aw_cond rfl (fun hb11 => ?_) (fun hb11 => ?_)
              · have hc11 := bp hb11
                refine w_ (bd_ (h:=s_ (h:=a_ (h:=e_ (aw_ret (x_thenR (?_)))))))
                refine e_ret ?_
                rw [find_slash hc1 (by omega) ha had hT (by simp only [Bool.and_eq_true, Bool.not_eq_true'] at hc11; exact ⟨hc11.1, by rw [hσx, hc11.2.1]; rfl, by rw [hσf hc11.2.1]; exact hc11.2.2⟩)]
                rfl
              · have hc11 := bp hb11
                refine kt_ (w_ (m_ (h:=?_)))
                refine al_p rfl (s_callR 1 rfl (.cons _ _ _ _ _ rfl (LeA.refl _) (.cons _ _ _ _ _ rfl (LeA.refl _) .nil)) (Pfound s (fl || lsL p) (lsL p) w hs hw (by have := hR.2.1; omega)) ?_)
                rintro r rfl
                refine ⟨rfl, ?_⟩
                refine s_ (h:=a_ (h:=e_ (aw_ret (?_))))
                refine e_ret ?_
                rw [find_ok hc1 (by omega) ha had hT (fun h => by
                  obtain ⟨h1, h2, h3⟩ := h
                  rw [hσx] at h2
                  have hm2 : w.missing = false := by simpa using h2
                  rw [hσf hm2] at h3
                  rw [h1, h2, h3] at hc11
                  cases hc11), ← hσe]
                rfl

end
end Go.Proofs.YtaidkbnbfnaihaaGreat
namespace Go.Proofs.YtaidkbnbfnaihaaGreat
open Go.RowKit

theorem flsV_spc {f : Fls} (h : FlsV f) (h0 : 0 < f.length) : SpcV ⟨f, []⟩ := ⟨h, h0, fun i m hm => by cases hm⟩
theorem aw7_le : LeA (.agg [.sl 2 (aw7F2.map dvcA) none, .v (.slice none 0 0)]) (.agg (spcA ⟨aw7F2, []⟩)) := LeA.agg (LeL.cons (LeA.refl _) (LeL.cons (LeA.nil _) LeL.nil))
theorem aw7_spc : SpcV ⟨aw7F2, []⟩ := flsV_spc aw7_valid.2 (by decide +kernel)
section
set_option maxRecDepth 10000
set_option maxHeartbeats 1000000
theorem Lawake7 : AFn Tryz.prog 5 [] (fun r => r = .v (.bool true)) := by
  have hnew : AFn Tryz.prog 12 [.v (.int .i64 1)] (fun r => r = .tup [.agg (flsA (newL 1).1), .v (.int .i64 0)]) := Rnew 1
  obtain ⟨c1, hmk1⟩ : ∃ c1, AFn Tryz.prog 13 [.agg (flsA (newL 1).1), .agg [.v (.int .i64 0), .v (.int .i64 1)], .v (.string ⟨#[102]⟩), .agg (nodA ⟨0, 1, 420, 0, 0, 0, ⟨#[]⟩, []⟩)] (fun r => r = .tup [.agg (flsA aw7F1), .sl 7 (List.map chgA c1) none, .v (.int .i64 0)]) :=
    ⟨_, (Rmake (newL 1).1 (0, 1) ⟨#[102]⟩ ⟨0, 1, 420, 0, 0, 0, ⟨#[]⟩, []⟩ new_valid1 (by decide) (by decide)).mono fun r hr => by rw [hr]; unfold chgR; rw [aw7_make.1]; rfl⟩
  obtain ⟨c2, hmk2⟩ : ∃ c2, AFn Tryz.prog 13 [.agg (flsA aw7F1), .agg [.v (.int .i64 0), .v (.int .i64 1)], .v (.string ⟨#[108]⟩), .agg (nodA ⟨0, 3, 511, 0, 0, 0, ⟨#[102]⟩, []⟩)] (fun r => r = .tup [.agg (flsA aw7F2), .sl 7 (List.map chgA c2) none, .v (.int .i64 0)]) :=
    ⟨_, (Rmake aw7F1 (0, 1) ⟨#[108]⟩ ⟨0, 3, 511, 0, 0, 0, ⟨#[102]⟩, []⟩ aw7_valid.1 (by decide) (by decide)).mono fun r hr => by rw [hr]; unfold chgR; rw [aw7_make.2]; rfl⟩
  obtain ⟨⟨d1, n1, ⟨f1, g1⟩, e1, s1, p1⟩, hx1⟩ : ∃ x : Fnd, (findL ⟨aw7F2, []⟩ (0, 1) ⟨#[47, 108]⟩ true).1 = x := ⟨_, rfl⟩
  obtain ⟨⟨d2, n2, ⟨f2, g2⟩, e2, s2, p2⟩, hx2⟩ : ∃ x : Fnd, (findL ⟨aw7F2, []⟩ (0, 1) ⟨#[47, 108]⟩ false).1 = x := ⟨_, rfl⟩
  obtain ⟨y1, y2, y3⟩ := aw7_yes
  obtain ⟨z1, z2, z3⟩ := aw7_no
  rw [hx1] at y2 y3
  rw [hx2] at z2 z3
  simp only at y2 y3 z2 z3
  subst y2 y3 z2 z3
  have hf1 : AFn Tryz.prog 14 [.agg (spcA ⟨aw7F2, []⟩), .agg [.v (.int .i64 0), .v (.int .i64 1)], .v (.string ⟨#[47, 108]⟩), .v (.bool true)] (fun r => r = .tup [.agg (fndA ⟨d1, n1, (f1, 2), e1, s1, ⟨#[47, 102]⟩⟩), .v (.int .i64 0)]) :=
    (Pfind7 ⟨aw7F2, []⟩ (0, 1) ⟨#[47, 108]⟩ true (aw7_spc.n (by decide)) aw7_spc (by decide)).mono fun r hr => by rw [hr, hx1, y1]
  have hf2 : AFn Tryz.prog 14 [.agg (spcA ⟨aw7F2, []⟩), .agg [.v (.int .i64 0), .v (.int .i64 1)], .v (.string ⟨#[47, 108]⟩), .v (.bool false)] (fun r => r = .tup [.agg (fndA ⟨d2, n2, (f2, 3), e2, s2, ⟨#[47, 108]⟩⟩), .v (.int .i64 0)]) :=
    (Pfind7 ⟨aw7F2, []⟩ (0, 1) ⟨#[47, 108]⟩ false (aw7_spc.n (by decide)) aw7_spc (by decide)).mono fun r hr => by rw [hr, hx2, z1]
  clear hx1 hx2 y1 z1
  refine enter Tryz.func5 rfl rfl rfl rfl rfl 0 rfl ?_
  refine w_ (a_ (h:=e_ (w_ (?_))))
  refine al_p rfl (q_call (hnew) ?_)
  rintro r rfl
  refine m_ (h:=x_ (h:=x_ (h:=al_ (h:=s_ (h:=a_ (h:=e_ (w_ (bd_ (h:=al_ (h:=s_ (h:=e_ (w_ (l_ (h:=l_ (h:=?_)))))))))))))))
  refine al_p rfl (st_le (y := .agg (nodA ⟨0, 1, 420, 0, 0, 0, ⟨#[]⟩, []⟩)) (st_build (by repeat (first | exact FillA.nil _ | (apply FillA.cons; (focus exact rfl); (focus exact rfl); (focus exact rfl); (focus exact rfl); (focus exact rfl); (focus (repeat constructor))))) ⟨rfl, rfl⟩) (by repeat (first | exact LeA.refl _ | exact LeA.nil _ | exact LeL.refl _ | refine LeA.agg ?_ | refine LeA.tup ?_ | exact LeL.nil | refine LeL.cons ?_ ?_ | exact LeA.any _)) ?_)
  refine al_p rfl (q_call (hmk1) ?_)
  rintro r rfl
  refine m_ (h:=x_ (h:=x_ (h:=x_ (h:=s_ (h:=e_ (w_ (l_ (h:=l_ (h:=?_)))))))))
  refine al_p rfl (st_le (y := .agg (nodA ⟨0, 3, 511, 0, 0, 0, ⟨#[102]⟩, []⟩)) (st_build (by repeat (first | exact FillA.nil _ | (apply FillA.cons; (focus exact rfl); (focus exact rfl); (focus exact rfl); (focus exact rfl); (focus exact rfl); (focus (repeat constructor))))) ⟨rfl, rfl⟩) (by repeat (first | exact LeA.refl _ | exact LeA.nil _ | exact LeL.refl _ | refine LeA.agg ?_ | refine LeA.tup ?_ | exact LeL.nil | refine LeL.cons ?_ ?_ | exact LeA.any _)) ?_)
  refine al_p rfl (q_call (hmk2) ?_)
  rintro r rfl
  refine m_ (h:=x_ (h:=x_ (h:=x_ (h:=s_ (h:=e_ (w_ (l_ (h:=?_))))))))
  refine al_p rfl (st_le (y := .agg (spcA ⟨aw7F2, []⟩)) (st_build (by repeat (first | exact FillA.nil _ | (apply FillA.cons; (focus exact rfl); (focus exact rfl); (focus exact rfl); (focus exact rfl); (focus exact rfl); (focus (repeat constructor))))) ⟨rfl, rfl⟩) aw7_le ?_)
  refine l_ (h:=?_)
  refine al_p rfl (q_call (hf1) ?_)
  rintro r rfl
  refine m_ (h:=x_ (h:=x_ (h:=al_ (h:=s_ (h:=a_ (h:=e_ (w_ (l_ (h:=?_)))))))))
  refine al_p rfl (st_le (y := .agg (spcA ⟨aw7F2, []⟩)) (st_build (by repeat (first | exact FillA.nil _ | (apply FillA.cons; (focus exact rfl); (focus exact rfl); (focus exact rfl); (focus exact rfl); (focus exact rfl); (focus (repeat constructor))))) ⟨rfl, rfl⟩) aw7_le ?_)
  refine l_ (h:=?_)
  refine al_p rfl (q_call (hf2) ?_)
  rintro r rfl
  refine m_ (h:=x_ (h:=x_ (h:=al_ (h:=s_ (h:=a_ (h:=e_ (w_ (m_ (h:=eq_ (h:=m_ (h:=?_)))))))))))
  refine al_gs true rfl rfl (fun hb1 => ?_) (fun hb1 => ?_)
  · have hc1 := bp hb1
    refine m_ (h:=eq_ (h:=pt_ (h:=m_ (h:=?_))))
    refine al_gs true rfl rfl (fun hb2 => ?_) (fun hb2 => ?_)
    · have hc2 := bp hb2
      refine f_ (h:=l_ (h:=eq_ (h:=pt_ (h:=m_ (h:=?_)))))
      refine al_gs true rfl rfl (fun hb3 => ?_) (fun hb3 => ?_)
      · have hc3 := bp hb3
        refine f_ (h:=l_ (h:=eq_ (h:=pt_ (h:=m_ (h:=?_)))))
        refine al_gs true rfl rfl (fun hb4 => ?_) (fun hb4 => ?_)
        · have hc4 := bp hb4
          refine f_ (h:=f_ (h:=l_ (h:=eq_ (h:=pt_ (h:=m_ (h:=?_))))))
          refine al_gs true rfl rfl (fun hb5 => ?_) (fun hb5 => ?_)
          · have hc5 := bp hb5
            refine f_ (h:=f_ (h:=l_ (h:=eq_ (h:=pt_ (h:=a_ (h:=e_ (aw_ret (?_))))))))
            refine e_ret ?_
            first | rfl | (exfalso; simp_all)
          · have hc5 := bp hb5
            refine g0_ (h:=g0_ (h:=g0_ (h:=g0_ (h:=pf_ (h:=a_ (h:=e_ (aw_ret (?_))))))))
            refine e_ret ?_
            first | rfl | (exfalso; simp_all)
        · have hc4 := bp hb4
          refine g0_ (h:=g0_ (h:=g0_ (h:=g0_ (h:=pf_ (h:=m_ (h:=g0_ (h:=g0_ (h:=g0_ (h:=g0_ (h:=pf_ (h:=a_ (h:=e_ (aw_ret (?_))))))))))))))
          refine e_ret ?_
          first | rfl | (exfalso; simp_all)
      · have hc3 := bp hb3
        refine g0_ (h:=g0_ (h:=g0_ (h:=pf_ (h:=m_ (h:=g0_ (h:=g0_ (h:=g0_ (h:=g0_ (h:=pf_ (h:=m_ (h:=g0_ (h:=g0_ (h:=g0_ (h:=g0_ (h:=pf_ (h:=a_ (h:=e_ (aw_ret (?_)))))))))))))))))))
        refine e_ret ?_
        first | rfl | (exfalso; simp_all)
    · have hc2 := bp hb2
      refine g0_ (h:=g0_ (h:=g0_ (h:=pf_ (h:=m_ (h:=g0_ (h:=g0_ (h:=g0_ (h:=pf_ (h:=m_ (h:=g0_ (h:=g0_ (h:=g0_ (h:=g0_ (h:=pf_ (h:=m_ (h:=g0_ (h:=g0_ (h:=g0_ (h:=g0_ (h:=pf_ (h:=a_ (h:=e_ (aw_ret (?_))))))))))))))))))))))))
      refine e_ret ?_
      first | rfl | (exfalso; simp_all)
  · have hc1 := bp hb1
    refine g0_ (h:=g0_ (h:=pf_ (h:=m_ (h:=g0_ (h:=g0_ (h:=g0_ (h:=pf_ (h:=m_ (h:=g0_ (h:=g0_ (h:=g0_ (h:=pf_ (h:=m_ (h:=g0_ (h:=g0_ (h:=g0_ (h:=g0_ (h:=pf_ (h:=m_ (h:=g0_ (h:=g0_ (h:=g0_ (h:=g0_ (h:=?_))))))))))))))))))))))))
    refine pf_ (h:=a_ (h:=e_ (aw_ret (?_))))
    refine e_ret ?_
    first | rfl | (exfalso; simp_all)

end
end Go.Proofs.YtaidkbnbfnaihaaGreat
namespace Go.Proofs.YtaidkbnbfnaihaaGreat
open Go.RowKit

def fndV (x : Fnd) : List Value := [.int .i64 x.dir.1, .int .i64 x.dir.2, .string x.name, .int .i64 x.file.1, .int .i64 x.file.2, .bool x.ex, .bool x.slash, .string x.path]
set_option maxRecDepth 10000 in
set_option maxHeartbeats 1000000 in
theorem eqFnd (x : Fnd) (w : World) : (binOp .eql 52 (.agg (fndV x).toArray) (.agg (fndV x).toArray)).run Tryz.prog w = .ok (.bool true) w := by
  have u3 := Tryz.underlying3
  have a3 := Tryz.isAgg3
  have z3 := Tryz.sizeOf3
  have u4 := Tryz.underlying4
  have a4 := Tryz.isAgg4
  have z4 := Tryz.sizeOf4
  have u9 := Tryz.underlying9
  have a9 := Tryz.isAgg9
  have z9 := Tryz.sizeOf9
  have u5 := Tryz.underlying35
  have a5 := Tryz.isAgg35
  have z5 := Tryz.sizeOf35
  have hS : Tryz.prog.underlying 52 = some (.struct (Tryz.prog.fieldsOf 52)) := by kernel_rfl
  have hp : Tryz.prog.stoodInHeld 52 = false := by kernel_rfl
  have hSF : Tryz.prog.underlying 35 = some (.struct (Tryz.prog.fieldsOf 35)) := by kernel_rfl
  have hpF : Tryz.prog.stoodInHeld 35 = false := by kernel_rfl
  have eF : ∀ (d : Nat) (a b : Int) (w : World), (Op.equalIn (d + 2) 35 (.agg #[.int .i64 a, .int .i64 b]) (.agg #[.int .i64 a, .int .i64 b])).run Tryz.prog w = .ok true w := by
    intro d a b w
    rw [run_equalIn_agg w (d + 1) 35 _ _ hSF hpF]
    simp only [Program.fieldsOf, Tryz.underlying35]
    go_simp
  have e : ∀ w, (Op.equalIn 10000 52 (.agg (fndV x).toArray) (.agg (fndV x).toArray)).run Tryz.prog w = .ok true w := by
    intro w
    rw [show (10000 : Nat) = 9999 + 1 from rfl, run_equalIn_agg w 9999 52 _ _ hS hp]
    simp only [Program.fieldsOf, Tryz.underlying52, fndV]
    go_simp
  rw [run_eql_struct, e]
  rfl
theorem allV_fnd (x : Fnd) : AllV (fndA x) (fndV x) := by repeat constructor
theorem st_eqF {ev : Operand → Option AV} {h : AH} {R : AV → AH → Prop} {d : Option Tmp} {ty : TypeId} {pos : String} {af : Array Edge} {gd : Option (Nat × Bool)} {yT : TypeId} {x y : Operand} (z : Fnd) (hx : ev x = some (.agg (fndA z))) (hy : ev y = some (.agg (fndA z))) (hR : R (.v (.bool true)) h) : AStep Tryz.prog ⟨d, .binOp .eql 52 x y yT, ty, pos, af, gd⟩ ev h R :=
  st_binA hx hy (allV_fnd z) (allV_fnd z) (fun w => eqFnd z w) (by kernel_rfl) hR
end Go.Proofs.YtaidkbnbfnaihaaGreat
namespace Go.Proofs.YtaidkbnbfnaihaaGreat
open Go.RowKit

section
set_option maxRecDepth 20000
set_option maxHeartbeats 2000000
theorem RdownS {s : Spc} (hs : SpcB s) (hv : SpcV s) (a : Fil) : AFn Tryz.prog 42 [.agg (spcA s), .agg (filA a)] (fun r => r = .agg (filA (itD s s.mounts.length a))) :=
  (Rdown s a hs).mono fun r hr => by rw [hr, down_eq hv]
end
end Go.Proofs.YtaidkbnbfnaihaaGreat
namespace Go.Proofs.YtaidkbnbfnaihaaGreat
open Go.RowKit

def outA (σ : Lk) : List AV := fndA ⟨σ.dir, σ.name, σ.file, σ.ex, false, ⟨#[]⟩⟩
theorem rstep {s : Spc} (hv : FlsV s.files) {F : Bool} {q : Str} {qs : List Str} {da : Fil} {na : Str} {a : Fil} {ea : Bool} {lk : Nat} (h8 : lk ≤ 8) : (∀ e, lkS s F q qs a lk = .inl e → lkT s F ⟨q :: qs, da, na, a, ea, lk⟩ = (e, lkZ)) ∧ ∀ τ, lkS s F q qs a lk = .inr τ → τ.links ≤ 8 ∧ lkT s F ⟨q :: qs, da, na, a, ea, lk⟩ = lkT s F τ ∧ lkM τ < (8 - lk) * 200 + (qs.length + 1) := by
  have hc := lkT_cons hv (fl := F) (σ := ⟨q :: qs, da, na, a, ea, lk⟩) (p := q) (ps := qs) h8 rfl
  refine ⟨fun e he => ?_, fun τ hτ => ?_⟩
  · rw [hc]; simp only [he]
  · obtain ⟨h1, h2⟩ := lk_less hv h8 hτ
    refine ⟨h1, ?_, h2⟩
    rw [hc]; simp only [hτ]
section
set_option maxRecDepth 10000
set_option maxHeartbeats 1000000
theorem Rroot7 (s : Spc) (hs : SpcB s) (hv : SpcV s) : AFn Tryz.prog 40 [.agg (spcA s)] (fun r => r = .agg (filA (rootD s))) := by
  refine enter Tryz.func40 rfl rfl rfl rfl rfl 0 rfl ?_
  refine w_ (b_ (h:=al_ (h:=e_ (w_ (l_ (h:=bd_ (h:=?_)))))))
  refine al_p rfl (q_call (RdownS hs hv (0, 1)) ?_)
  rintro r rfl
  refine s_ (h:=e_ (aw_ret (?_)))
  refine e_ret ?_
  rfl

theorem Rfind7 (s : Spc) (start : Fil) (p : Str) (fl : Bool) (hs : SpcN s) (hv : SpcV s) (hp : p.size ≤ 100000) : AFn Tryz.prog 18 [.agg (spcA s), .agg (filA start), .v (.string p), .v (.bool fl)] (fun r => r = .tup [.agg (fndA (findL s start p fl).1), .v (.int .i64 (findL s start p fl).2)]) := by
  have hw := where_size hv
  have hsp := splS_len p
  refine enter Tryz.func18 rfl rfl rfl rfl rfl 0 rfl ?_
  refine w_ (b_ (h:=b_ (h:=al_ (h:=a_ (h:=e_ (w_ (m_ (h:=?_))))))))
  refine al_p rfl (q_call (Rsplit p hp) ?_)
  rintro r ⟨ps, hps, rfl⟩
  obtain rfl := splS_of hps
  clear hps
  refine m_ (h:=x_ (h:=x_ (h:=x_ (h:=a_ (h:=a_ (h:=a_ (h:=e_ (q_ (w_ (m_ (h:=eq_ (h:=e_ (?_)))))))))))))
  refine aw_cond rfl (fun hb1 => ?_) (fun hb1 => ?_)
  · have hc1 := bp hb1
    refine w_ (bd_ (h:=s_ (h:=a_ (h:=e_ (aw_ret (x_thenR (?_)))))))
    refine e_ret ?_
    rw [show findL s start p fl = (fnd0, 2) from if_pos hc1]
    rfl
  · have hc1 := bp hb1
    refine kt_ (q_ (w_ (m_ (h:=n_ (h:=gt_ (h:=e_ (?_)))))))
    refine aw_cond rfl (fun hb2 => ?_) (fun hb2 => ?_)
    · have hc2 := bp hb2
      refine w_ (bd_ (h:=s_ (h:=a_ (h:=e_ (aw_ret (x_thenR (?_)))))))
      refine e_ret ?_
      rw [find_long hc1 (by omega)]
      rfl
    · have hc2 := bp hb2
      refine kt_ (w_ (l_ (h:=al_ (h:=s_ (h:=e_ (?_))))))
      refine aw_midI (fun t => ∃ a, (if hdL p = true then rootD s else start) = a ∧ t = ⟨look [(3, .v (.bool fl)), (4, .bp 0 0), (8, .bp 2 0), (10, .sl 1 ((splS p).map strA) none), (12, .v (.bool (lsL p))), (13, .bp 3 0)], ⟨[spcA s, filA start, fndA fnd0, filA a], []⟩⟩) ?_ ?_
      · skip
        refine w_ (m_ (h:=e_ (?_)))
        refine aw_cond rfl (fun hb3 => ?_) (fun hb3 => ?_)
        · have hc3 := bp hb3
          refine aw_region (l_ (h:=?_))
          refine al_p rfl (q_call (Rroot7 s hs.b hv) ?_)
          rintro r rfl
          refine s_ (h:=al_nil (?_))
          refine x_then ?_
          first | exact ⟨_, ⟨rootD s, if_pos hc3, rfl⟩, (wk 4 0)⟩ | exact ⟨_, ⟨start, if_neg (by simp [hc3]), rfl⟩, (wk 4 0)⟩
        · have hc3 := bp hb3
          refine aw_skip (?_)
          refine x_then ?_
          first | exact ⟨_, ⟨rootD s, if_pos hc3, rfl⟩, (wk 4 0)⟩ | exact ⟨_, ⟨start, if_neg (by simp [hc3]), rfl⟩, (wk 4 0)⟩
      · rintro t ⟨a0, ha, rfl⟩
        refine q_ (w_ (f_ (h:=l_ (h:=l_ (h:=?_)))))
        refine al_p rfl (q_call (Rdir s.files a0 hs.b.files) ?_)
        rintro r rfl
        refine nt_ (h:=e_ (?_))
        refine aw_cond rfl (fun hb4 => ?_) (fun hb4 => ?_)
        · have hc4 := bp hb4
          refine w_ (bd_ (h:=s_ (h:=a_ (h:=e_ (aw_ret (x_thenR (?_)))))))
          refine e_ret ?_
          rw [find_nodir hc1 (by omega) ha (by simpa using hc4)]
          rfl
        · have hc4 := bp hb4
          have had : dirL s.files a0 = true := by simpa using hc4
          refine kt_ (w_ (l_ (h:=l_ (h:=bd_ (h:=al_ (h:=s_ (h:=e_ (w_ (a_ (h:=e_ (?_)))))))))))
          refine aw_midI (fun t => ∃ (τ : Lk) (d : Fil), lkT s (fl || lsL p) (lk0 (splS p) a0) = (0, τ) ∧ τ.name.size ≤ 1000 ∧ t = ⟨look [(4, .bp 0 0), (8, .bp 2 0), (12, .v (.bool (lsL p))), (14, .bp 4 0)], ⟨[spcA s, filA start, fndA fnd0, filA d, outA τ], []⟩⟩) ?_ ?_
          · skip
            refine aw_block (?_)
            refine aw_loopW (fun m t => ∃ (σ : Lk) (d : Fil), σ.links ≤ 8 ∧ σ.name.size ≤ 12 ∧ lkT s (fl || lsL p) σ = lkT s (fl || lsL p) (lk0 (splS p) a0) ∧ m = lkM σ ∧ m ≤ 1729 ∧ t = ⟨look [(3, .v (.bool fl)), (4, .bp 0 0), (8, .bp 2 0), (10, .sl 1 (σ.ps.map strA) none), (12, .v (.bool (lsL p))), (13, .bp 3 0), (14, .bp 4 0), (15, .v (.int .i64 (σ.links : Int)))], ⟨[spcA s, filA start, fndA fnd0, filA d, outA σ], []⟩⟩) (lkM (lk0 (splS p) a0)) ((wk 5 0)) (⟨_, a0, Nat.zero_le _, Nat.zero_le _, rfl, rfl, by show (8 - 0) * 200 + (splS p).length ≤ 1729; omega, rfl⟩) ?_
            rintro m t ⟨⟨ps0, da, na, a, ea, lk⟩, d, h8, hna, hT, rfl, hm, rfl⟩
            have hm : (8 - lk) * 200 + ps0.length ≤ 1729 := hm
            have h8 : lk ≤ 8 := h8
            have hml : (ps0.map strA).length = ps0.length := by simp
            refine q_ (w_ (m_ (h:=n_ (h:=gt_ (h:=e_ (?_))))))
            refine aw_cond rfl (fun hb5 => ?_) (fun hb5 => ?_)
            · have hc5 := bp hb5
              obtain ⟨q, qs, hps⟩ : ∃ q qs, ps0 = q :: qs := by
                cases ps0 with
                | nil => simp at hc5
                | cons q qs => exact ⟨q, qs, rfl⟩
              subst hps
              have hml : (qs.map strA).length = qs.length := by simp
              have hmq : (8 - lk) * 200 + (qs.length + 1) ≤ 1729 := hm
              have htg := nodG_target hv.files (lookL s.files a q).1
              have htp := splS_len (nodG s.files (lookL s.files a q).1).target
              refine kt_ (aw_block (w_ (m_ (h:=?_))))
              refine al_p rfl (st_index (n := 0) rfl rfl rfl rfl ?_)
              refine l_ (h:=a_ (h:=e_ (?_)))
              refine aw_mid (⟨look [(3, .v (.bool fl)), (4, .bp 0 0), (8, .bp 2 0), (10, .sl 1 (qs.map strA) none), (12, .v (.bool (lsL p))), (13, .bp 3 0), (14, .bp 4 0), (15, .v (.int .i64 (lk : Int))), (16, .v (.string q))], ⟨[spcA s, filA start, fndA fnd0, filA d, outA ⟨q :: qs, da, na, a, ea, lk⟩], []⟩⟩) ?_ ?_
              · skip
                refine aw_region (m_ (h:=?_))
                refine al_p rfl (st_sliceLo (l := 1) rfl rfl rfl (by simp) ?_)
                refine a_ (h:=al_nil (?_))
                refine x_then ?_
                first | (exfalso; first | contradiction | omega) | exact weak_of 5 0 rfl rfl rfl rfl (by repeat (first | exact Sub.nil | refine Sub.cons _ _ _ rfl rfl ?_ | refine Sub.any _ _ ?_ | refine Sub.sl _ _ _ _ _ rfl ?_ | refine Sub.slnil _ _ _ rfl ?_ | (apply Sub.of; (focus exact rfl); (focus exact LeA.of_eq (vb (by rfl))); (focus exact rfl))))
              · skip
                refine w_ (f_ (h:=l_ (h:=s_ (h:=e_ (q_ (w_ (f_ (h:=l_ (h:=l_ (h:=?_))))))))))
                refine al_p rfl (q_call (Rdir s.files a hs.b.files) ?_)
                rintro r rfl
                refine nt_ (h:=e_ (?_))
                refine aw_cond rfl (fun hb6 => ?_) (fun hb6 => ?_)
                · have hc6 := bp hb6
                  have hst : lkS s (fl || lsL p) q qs a lk = .inl 20 := by unfold lkS; rw [if_pos hc6]
                  refine w_ (bd_ (h:=s_ (h:=a_ (h:=e_ (aw_ret (x_thenR (x_blockR (x_thenR (x_blockR (x_thenR (?_)))))))))))
                  refine e_ret ?_
                  rw [find_err hc1 (by omega) ha had (hT.symm.trans ((rstep (F := fl || lsL p) (da := da) (na := na) (ea := ea) hv.files h8).1 _ hst)) (by decide)]
                  rfl
                · have hc6 := bp hb6
                  refine kt_ (q_ (w_ (m_ (h:=n_ (h:=gt_ (h:=e_ (?_)))))))
                  refine aw_cond rfl (fun hb7 => ?_) (fun hb7 => ?_)
                  · have hc7 := bp hb7
                    have hst : lkS s (fl || lsL p) q qs a lk = .inl 36 := by unfold lkS; rw [if_neg (by simp [hc6]), if_pos (by omega)]
                    refine w_ (bd_ (h:=s_ (h:=a_ (h:=e_ (aw_ret (x_thenR (x_blockR (x_thenR (x_blockR (x_thenR (?_)))))))))))
                    refine e_ret ?_
                    rw [find_err hc1 (by omega) ha had (hT.symm.trans ((rstep (F := fl || lsL p) (da := da) (na := na) (ea := ea) hv.files h8).1 _ hst)) (by decide)]
                    rfl
                  · have hc7 := bp hb7
                    have hq12 : q.size ≤ 12 := by omega
                    refine kt_ (q_ (w_ (m_ (h:=eq_ (h:=m_ (h:=?_))))))
                    refine al_gs false rfl rfl (fun hb8 => ?_) (fun hb8 => ?_)
                    · have hc8 := bp hb8
                      refine g0_ (h:=g0_ (h:=pt_ (h:=e_ (cy_ (h:=q_ (w_ (m_ (h:=eq_ (h:=e_ (?_))))))))))
                      refine aw_cond rfl (fun hb9 => ?_) (fun hb9 => ?_)
                      · have hc9 := bp hb9
                        rw [hc8] at hc9
                        exact absurd hc9 (by decide)
                      · have hc9 := bp hb9
                        have hst : lkS s (fl || lsL p) q qs a lk = .inr ⟨qs, a, ⟨#[]⟩, a, true, lk⟩ := by unfold lkS; rw [if_neg (by simp [hc6]), if_neg (by omega), if_pos hc8]
                        refine kt_ (w_ (l_ (h:=l_ (h:=bd_ (h:=s_ (h:=e_ (aw_exit (x_thenE (ABlock_out (?_))))))))))
                        refine x_then ?_
                        obtain ⟨g1, g2, g3⟩ := (rstep (F := fl || lsL p) (da := da) (na := na) (ea := ea) hv.files h8).2 _ hst
                        exact ⟨_, _, g3, ⟨_, _, g1, (by first | exact Nat.zero_le _ | exact hq12), g2.symm.trans hT, rfl, Nat.le_trans (Nat.le_of_lt g3) hmq, rfl⟩, (by (try simp only [List.map_append]); exact weak_of 5 0 rfl rfl rfl rfl ((by repeat (first | exact Sub.nil | refine Sub.cons _ _ _ rfl rfl ?_ | refine Sub.any _ _ ?_ | refine Sub.sl _ _ _ _ _ rfl ?_ | refine Sub.slnil _ _ _ rfl ?_))))⟩
                    · have hc8 := bp hb8
                      refine m_ (h:=eq_ (h:=pf_ (h:=e_ (?_))))
                      refine aw_cond rfl (fun hb10 => ?_) (fun hb10 => ?_)
                      · have hc10 := bp hb10
                        refine q_ (w_ (m_ (h:=eq_ (h:=e_ (?_)))))
                        refine aw_cond rfl (fun hb11 => ?_) (fun hb11 => ?_)
                        · have hc11 := bp hb11
                          have hst : lkS s (fl || lsL p) q qs a lk = .inr ⟨qs, itD s s.mounts.length (upF s (s.mounts.length + 1) a), ⟨#[]⟩, itD s s.mounts.length (upF s (s.mounts.length + 1) a), true, lk⟩ := by unfold lkS; rw [if_neg (by simp [hc6]), if_neg (by omega), if_neg hc8, if_pos hc11]
                          refine yk_ ([(0, spcA s), (3, filA a)]) 5 (h:=dl_ 0 (h:=dl_ 1 (h:=dl_ 2 (h:=?_))))
                          refine c_ 3 rfl (q_call (Rup hs.b hv (s.mounts.length + 1) a (by have := pos_le (s := s) a.1; omega)) ?_)
                          rintro r rfl
                          refine o_ (h:=?_)
                          refine c_ 4 rfl (q_call (RdownS hs.b hv (upF s (s.mounts.length + 1) a)) ?_)
                          rintro r rfl
                          refine o_ (h:=?_)
                          refine c0_ 5 rfl (s_store rfl rfl rfl rfl rfl rfl (by repeat constructor) (by repeat constructor) ?_)
                          refine o_ (h:=z_ (h:=t_ (w_ (l_ (h:=l_ (h:=bd_ (h:=s_ (h:=e_ (aw_exit (x_thenE (ABlock_out (?_))))))))))))
                          refine x_then ?_
                          obtain ⟨g1, g2, g3⟩ := (rstep (F := fl || lsL p) (da := da) (na := na) (ea := ea) hv.files h8).2 _ hst
                          exact ⟨_, _, g3, ⟨_, _, g1, (by first | exact Nat.zero_le _ | exact hq12), g2.symm.trans hT, rfl, Nat.le_trans (Nat.le_of_lt g3) hmq, rfl⟩, (by (try simp only [List.map_append]); exact weak_of 5 0 rfl rfl rfl rfl ((by repeat (first | exact Sub.nil | refine Sub.cons _ _ _ rfl rfl ?_ | refine Sub.any _ _ ?_ | refine Sub.sl _ _ _ _ _ rfl ?_ | refine Sub.slnil _ _ _ rfl ?_))))⟩
                        · have hc11 := bp hb11
                          exact absurd hc10 hc11
                      · have hc10 := bp hb10
                        refine kt_ (w_ (f_ (h:=l_ (h:=l_ (h:=m_ (h:=?_))))))
                        refine al_p rfl (q_call (Rlook s.files a q hs.b.files) ?_)
                        rintro r rfl
                        refine m_ (h:=x_ (h:=x_ (h:=al_ (h:=s_ (h:=a_ (h:=e_ (q_ (w_ (m_ (h:=nq_ (h:=e_ (?_))))))))))))
                        refine aw_cond rfl (fun hb12 => ?_) (fun hb12 => ?_)
                        · have hc12 := bp hb12
                          refine q_ (w_ (m_ (h:=n_ (h:=gt_ (h:=m_ (h:=?_))))))
                          refine al_gs false rfl rfl (fun hb13 => ?_) (fun hb13 => ?_)
                          · have hc13 := bp hb13
                            have hne : qs ≠ [] := fun e => by rw [e] at hc13; simp at hc13
                            have hst : lkS s (fl || lsL p) q qs a lk = .inl 2 := by unfold lkS; rw [if_neg (by simp [hc6]), if_neg (by omega), if_neg hc8, if_neg hc10, if_pos hc12, if_pos (.inl hne)]
                            refine g0_ (h:=g0_ (h:=g0_ (h:=pt_ (h:=e_ (cy_ (h:=w_ (bd_ (h:=s_ (h:=a_ (h:=e_ (aw_ret (x_thenR (x_thenR (x_blockR (x_thenR (x_blockR (x_thenR (?_))))))))))))))))))
                            refine e_ret ?_
                            rw [find_err hc1 (by omega) ha had (hT.symm.trans ((rstep (F := fl || lsL p) (da := da) (na := na) (ea := ea) hv.files h8).1 _ hst)) (by decide)]
                            rfl
                          · have hc13 := bp hb13
                            have hne : ¬ qs ≠ [] := fun e => e (List.eq_nil_of_length_eq_zero (by omega))
                            refine m_ (h:=?_)
                            refine g_y (q_call (Rname q (by omega)) ?_)
                            rintro r rfl
                            refine nt_ (h:=pf_ (h:=e_ (?_)))
                            refine aw_cond rfl (fun hb14 => ?_) (fun hb14 => ?_)
                            · have hc14 := bp hb14
                              have hst : lkS s (fl || lsL p) q qs a lk = .inl 2 := by unfold lkS; rw [if_neg (by simp [hc6]), if_neg (by omega), if_neg hc8, if_neg hc10, if_pos hc12, if_pos (.inr hc14)]
                              refine w_ (bd_ (h:=s_ (h:=a_ (h:=e_ (aw_ret (x_thenR (x_thenR (x_blockR (x_thenR (x_blockR (x_thenR (?_))))))))))))
                              refine e_ret ?_
                              rw [find_err hc1 (by omega) ha had (hT.symm.trans ((rstep (F := fl || lsL p) (da := da) (na := na) (ea := ea) hv.files h8).1 _ hst)) (by decide)]
                              rfl
                            · have hc14 := bp hb14
                              have hst : lkS s (fl || lsL p) q qs a lk = .inr ⟨[], a, q, (0, 0), false, lk⟩ := by unfold lkS; rw [if_neg (by simp [hc6]), if_neg (by omega), if_neg hc8, if_neg hc10, if_pos hc12, if_neg (fun e => e.elim hne (by simp [hc14]))]
                              have hfin := hT.symm.trans (((rstep (F := fl || lsL p) (da := da) (na := na) (ea := ea) hv.files h8).2 _ hst).2.1.trans (lkT_nil rfl))
                              refine kt_ (w_ (l_ (h:=m_ (h:=bd_ (h:=s_ (h:=e_ (aw_exit (x_thenE (ABlock_far rfl (x_thenE (ABlock_out (?_))))))))))))
                              refine x_then ?_
                              exact ⟨_, ⟨_, _, hfin, (by first | exact Nat.le_trans hna (by decide) | exact Nat.le_trans hq12 (by decide)), rfl⟩, (wk 5 0)⟩
                        · have hc12 := bp hb12
                          refine kt_ (w_ (f_ (h:=l_ (h:=l_ (h:=?_)))))
                          refine al_p rfl (q_call (Rnode s.files (lookL s.files a q).1 hs.b.files) ?_)
                          rintro r rfl
                          refine m_ (h:=x_ (h:=x_ (h:=al_ (h:=s_ (h:=a_ (h:=e_ (q_ (?_))))))))
                          refine aw_mid (⟨look [(3, .v (.bool fl)), (4, .bp 0 0), (8, .bp 2 0), (10, .sl 1 (qs.map strA) none), (12, .v (.bool (lsL p))), (13, .bp 3 0), (14, .bp 4 0), (15, .v (.int .i64 (lk : Int))), (16, .v (.string q)), (17, .bp 5 0), (19, .bp 6 0), (130, .v (.bool (decide ((nodG s.files (lookL s.files a q).1).kind = 3) && (decide (0 < ((qs.map strA).length : Int)) || (fl || lsL p)))))], ⟨[spcA s, filA start, fndA fnd0, filA a, outA ⟨q :: qs, da, na, a, ea, lk⟩, filA (lookL s.files a q).1, nodA (nodG s.files (lookL s.files a q).1)], []⟩⟩) ?_ ?_
                          · skip
                            refine aw_region (f_ (h:=l_ (h:=eq_ (h:=m_ (h:=?_)))))
                            refine al_gs true rfl rfl (fun hb15 => ?_) (fun hb15 => ?_)
                            · have hc15 := bp hb15
                              refine m_ (h:=n_ (h:=gt_ (h:=m_ (h:=?_))))
                              refine al_gs false rfl rfl (fun hb16 => ?_) (fun hb16 => ?_)
                              · have hc16 := bp hb16
                                refine g0_ (h:=pt_ (h:=m_ (h:=g0_ (h:=pt_ (h:=pt_ (h:=al_nil (?_)))))))
                                refine x_then ?_
                                first | (exfalso; first | contradiction | omega) | exact weak_of 7 0 rfl rfl rfl rfl (by repeat (first | exact Sub.nil | refine Sub.cons _ _ _ rfl rfl ?_ | refine Sub.any _ _ ?_ | refine Sub.sl _ _ _ _ _ rfl ?_ | refine Sub.slnil _ _ _ rfl ?_ | (apply Sub.of; (focus exact rfl); (focus exact LeA.of_eq (vb (by first | (rw [hb15]; rfl) | (rw [hb15, hb16]; rfl) | (rw [hb15, hb16, hb17]; rfl)))); (focus exact rfl))))
                              · have hc16 := bp hb16
                                refine m_ (h:=pf_ (h:=m_ (h:=?_)))
                                refine al_gs false rfl rfl (fun hb17 => ?_) (fun hb17 => ?_)
                                · have hc17 := bp hb17
                                  refine g0_ (h:=pt_ (h:=pt_ (h:=al_nil (?_))))
                                  refine x_then ?_
                                  first | (exfalso; first | contradiction | omega) | exact weak_of 7 0 rfl rfl rfl rfl (by repeat (first | exact Sub.nil | refine Sub.cons _ _ _ rfl rfl ?_ | refine Sub.any _ _ ?_ | refine Sub.sl _ _ _ _ _ rfl ?_ | refine Sub.slnil _ _ _ rfl ?_ | (apply Sub.of; (focus exact rfl); (focus exact LeA.of_eq (vb (by first | (rw [hb15]; rfl) | (rw [hb15, hb16]; rfl) | (rw [hb15, hb16, hb17]; rfl)))); (focus exact rfl))))
                                · have hc17 := bp hb17
                                  refine m_ (h:=pf_ (h:=pt_ (h:=al_nil (?_))))
                                  refine x_then ?_
                                  first | (exfalso; first | contradiction | omega) | exact weak_of 7 0 rfl rfl rfl rfl (by repeat (first | exact Sub.nil | refine Sub.cons _ _ _ rfl rfl ?_ | refine Sub.any _ _ ?_ | refine Sub.sl _ _ _ _ _ rfl ?_ | refine Sub.slnil _ _ _ rfl ?_ | (apply Sub.of; (focus exact rfl); (focus exact LeA.of_eq (vb (by first | (rw [hb15]; rfl) | (rw [hb15, hb16]; rfl) | (rw [hb15, hb16, hb17]; rfl)))); (focus exact rfl))))
                            · have hc15 := bp hb15
                              refine g0_ (h:=g0_ (h:=g0_ (h:=g0_ (h:=gu_ (h:=g0_ (h:=g0_ (h:=gu_ (h:=g0_ (h:=pf_ (h:=al_nil (?_)))))))))))
                              refine x_then ?_
                              first | (exfalso; first | contradiction | omega) | exact weak_of 7 0 rfl rfl rfl rfl (by repeat (first | exact Sub.nil | refine Sub.cons _ _ _ rfl rfl ?_ | refine Sub.any _ _ ?_ | refine Sub.sl _ _ _ _ _ rfl ?_ | refine Sub.slnil _ _ _ rfl ?_ | (apply Sub.of; (focus exact rfl); (focus exact LeA.of_eq (vb (by first | (rw [hb15]; rfl) | (rw [hb15, hb16]; rfl) | (rw [hb15, hb16, hb17]; rfl)))); (focus exact rfl))))
                          · skip
                            refine aw_cond rfl (fun hb18 => ?_) (fun hb18 => ?_)
                            · have hc18 := bp hb18
                              have hlk : (nodG s.files (lookL s.files a q).1).kind = 3 ∧ (qs ≠ [] ∨ (fl || lsL p) = true) := by
                                rw [Bool.and_eq_true, decide_eq_true_eq, Bool.or_eq_true, decide_eq_true_eq] at hc18
                                exact ⟨hc18.1, hc18.2.imp (fun h e => by rw [e] at h; simp at h) id⟩
                              refine q_ (w_ (m_ (h:=eq_ (h:=e_ (?_)))))
                              refine aw_cond rfl (fun hb19 => ?_) (fun hb19 => ?_)
                              · have hc19 := bp hb19
                                have hst : lkS s (fl || lsL p) q qs a lk = .inl 40 := by unfold lkS; rw [if_neg (by simp [hc6]), if_neg (by omega), if_neg hc8, if_neg hc10, if_neg (by simp [hc12]), if_pos hlk, if_pos (by omega)]
                                refine w_ (bd_ (h:=s_ (h:=a_ (h:=e_ (aw_ret (x_thenR (x_thenR (x_blockR (x_thenR (x_blockR (x_thenR (?_))))))))))))
                                refine e_ret ?_
                                rw [find_err hc1 (by omega) ha had (hT.symm.trans ((rstep (F := fl || lsL p) (da := da) (na := na) (ea := ea) hv.files h8).1 _ hst)) (by decide)]
                                rfl
                              · have hc19 := bp hb19
                                refine kt_ (w_ (m_ (h:=?_)))
                                refine al_p rfl (st_add64 rfl rfl (by omega) ?_)
                                refine a_ (h:=e_ (w_ (f_ (h:=l_ (h:=?_)))))
                                refine al_p rfl (q_call (Rsplit (nodG s.files (lookL s.files a q).1).target (by omega)) ?_)
                                rintro r ⟨ps, hps, rfl⟩
                                obtain rfl := splS_of hps
                                clear hps
                                refine m_ (h:=x_ (h:=x_ (h:=x_ (h:=a_ (h:=a_ (h:=a_ (h:=e_ (q_ (w_ (m_ (h:=e_ (?_))))))))))))
                                refine aw_cond rfl (fun hb20 => ?_) (fun hb20 => ?_)
                                · have hc20 := bp hb20
                                  have hst : lkS s (fl || lsL p) q qs a lk = .inr ⟨splS (nodG s.files (lookL s.files a q).1).target ++ qs, rootD s, ⟨#[]⟩, rootD s, true, lk + 1⟩ := by unfold lkS; rw [if_neg (by simp [hc6]), if_neg (by omega), if_neg hc8, if_neg hc10, if_neg (by simp [hc12]), if_pos hlk, if_neg (by omega), if_pos hc20]
                                  refine aw_region (l_ (h:=?_))
                                  refine al_p rfl (q_call (Rroot7 s hs.b hv) ?_)
                                  rintro r rfl
                                  refine s_ (h:=e_ (w_ (m_ (h:=ap_ (h:=m_ (h:=ap_ (h:=a_ (h:=e_ (w_ (l_ (h:=l_ (h:=bd_ (h:=s_ (h:=e_ (aw_exit (x_thenE (ABlock_out (?_))))))))))))))))))
                                  refine x_then ?_
                                  obtain ⟨g1, g2, g3⟩ := (rstep (F := fl || lsL p) (da := da) (na := na) (ea := ea) hv.files h8).2 _ hst
                                  exact ⟨_, _, g3, ⟨_, _, g1, (by first | exact Nat.zero_le _ | exact hq12), g2.symm.trans hT, rfl, Nat.le_trans (Nat.le_of_lt g3) hmq, rfl⟩, (by (try simp only [List.map_append]); exact weak_of 5 0 rfl rfl rfl rfl ((by repeat (first | exact Sub.nil | refine Sub.cons _ _ _ rfl rfl ?_ | refine Sub.any _ _ ?_ | refine Sub.sl _ _ _ _ _ rfl ?_ | refine Sub.slnil _ _ _ rfl ?_))))⟩
                                · have hc20 := bp hb20
                                  have hst : lkS s (fl || lsL p) q qs a lk = .inr ⟨splS (nodG s.files (lookL s.files a q).1).target ++ qs, a, ⟨#[]⟩, a, true, lk + 1⟩ := by unfold lkS; rw [if_neg (by simp [hc6]), if_neg (by omega), if_neg hc8, if_neg hc10, if_neg (by simp [hc12]), if_pos hlk, if_neg (by omega), if_neg (by simp [hc20])]
                                  refine kt_ (w_ (m_ (h:=ap_ (h:=m_ (h:=ap_ (h:=a_ (h:=e_ (w_ (l_ (h:=l_ (h:=bd_ (h:=s_ (h:=e_ (aw_exit (x_thenE (ABlock_out (?_)))))))))))))))))
                                  refine x_then ?_
                                  obtain ⟨g1, g2, g3⟩ := (rstep (F := fl || lsL p) (da := da) (na := na) (ea := ea) hv.files h8).2 _ hst
                                  exact ⟨_, _, g3, ⟨_, _, g1, (by first | exact Nat.zero_le _ | exact hq12), g2.symm.trans hT, rfl, Nat.le_trans (Nat.le_of_lt g3) hmq, rfl⟩, (by (try simp only [List.map_append]); exact weak_of 5 0 rfl rfl rfl rfl ((by repeat (first | exact Sub.nil | refine Sub.cons _ _ _ rfl rfl ?_ | refine Sub.any _ _ ?_ | refine Sub.sl _ _ _ _ _ rfl ?_ | refine Sub.slnil _ _ _ rfl ?_))))⟩
                            · have hc18 := bp hb18
                              have hlk : ¬ ((nodG s.files (lookL s.files a q).1).kind = 3 ∧ (qs ≠ [] ∨ (fl || lsL p) = true)) := fun h => by
                                rw [decide_eq_true h.1, Bool.true_and, Bool.or_eq_false_iff] at hc18
                                rcases h.2 with e | e
                                · exact e (List.eq_nil_of_length_eq_zero (by have := of_decide_eq_false hc18.1; omega))
                                · rw [hc18.2] at e; cases e
                              have hst : lkS s (fl || lsL p) q qs a lk = .inr ⟨qs, a, q, itD s s.mounts.length (lookL s.files a q).1, true, lk⟩ := by unfold lkS; rw [if_neg (by simp [hc6]), if_neg (by omega), if_neg hc8, if_neg hc10, if_neg (by simp [hc12]), if_neg hlk]
                              refine kt_ (yk_ ([(0, spcA s), (3, filA a), (5, filA (lookL s.files a q).1)]) 6 (h:=dl_ 0 (h:=dm_ 1 (h:=dl_ 2 (h:=dl_ 3 (h:=?_))))))
                              refine c_ 4 rfl (q_call (RdownS hs.b hv (lookL s.files a q).1) ?_)
                              rintro r rfl
                              refine o_ (h:=dbd_ 5 (h:=?_))
                              refine c0_ 6 rfl (s_store rfl rfl rfl rfl rfl rfl (by repeat constructor) (by repeat constructor) ?_)
                              refine o_ (h:=z_ (h:=x_blockN (?_)))
                              refine x_then ?_
                              obtain ⟨g1, g2, g3⟩ := (rstep (F := fl || lsL p) (da := da) (na := na) (ea := ea) hv.files h8).2 _ hst
                              exact ⟨_, _, g3, ⟨_, _, g1, (by first | exact Nat.zero_le _ | exact hq12), g2.symm.trans hT, rfl, Nat.le_trans (Nat.le_of_lt g3) hmq, rfl⟩, (by (try simp only [List.map_append]); exact weak_of 5 0 rfl rfl rfl rfl ((by repeat (first | exact Sub.nil | refine Sub.cons _ _ _ rfl rfl ?_ | refine Sub.any _ _ ?_ | refine Sub.sl _ _ _ _ _ rfl ?_ | refine Sub.slnil _ _ _ rfl ?_))))⟩
            · have hc5 := bp hb5
              have hc5 : ¬ (0 : Int) < ((ps0.map strA).length : Int) := hc5
              have e5 : ps0 = [] := List.eq_nil_of_length_eq_zero (by omega)
              subst e5
              have hfin := hT.symm.trans (lkT_nil (s := s) (fl := fl || lsL p) (σ := ⟨[], da, na, a, ea, lk⟩) rfl)
              refine aw_exit (x_thenE (x_thenE (ABlock_out (?_))))
              refine x_then ?_
              exact ⟨_, ⟨_, _, hfin, (by first | exact Nat.le_trans hna (by decide) | exact Nat.le_trans hq12 (by decide)), rfl⟩, (wk 5 0)⟩
          · rintro t ⟨τ, d, hT, hnm, rfl⟩
            refine q_ (?_)
            refine aw_mid (⟨look [(4, .bp 0 0), (8, .bp 2 0), (12, .v (.bool (lsL p))), (14, .bp 4 0), (171, .v (.bool (lsL p && (τ.ex && !dirL s.files τ.file))))], ⟨[spcA s, filA start, fndA fnd0, filA d, outA τ], []⟩⟩) ?_ ?_
            · skip
              refine aw_region (m_ (h:=m_ (h:=?_)))
              refine al_gs true rfl rfl (fun hb21 => ?_) (fun hb21 => ?_)
              · have hc21 := bp hb21
                refine f_ (h:=l_ (h:=pt_ (h:=m_ (h:=?_))))
                refine al_gs true rfl rfl (fun hb22 => ?_) (fun hb22 => ?_)
                · have hc22 := bp hb22
                  have hx : τ.ex = true := hb22
                  refine f_ (h:=l_ (h:=f_ (h:=l_ (h:=?_))))
                  refine g_y (q_call (Rdir s.files τ.file hs.b.files) ?_)
                  rintro r rfl
                  refine nt_ (h:=pt_ (h:=al_nil (?_)))
                  refine x_then ?_
                  first | (exfalso; first | contradiction | omega) | exact weak_of 5 0 rfl rfl rfl rfl (by repeat (first | exact Sub.nil | refine Sub.cons _ _ _ rfl rfl ?_ | refine Sub.any _ _ ?_ | refine Sub.sl _ _ _ _ _ rfl ?_ | refine Sub.slnil _ _ _ rfl ?_ | (apply Sub.of; (focus exact rfl); (focus exact LeA.of_eq (vb (by first | (rw [hb21]; rfl) | (rw [hb21, hx]; rfl)))); (focus exact rfl))))
                · have hc22 := bp hb22
                  have hx : τ.ex = false := hb22
                  refine g0_ (h:=g0_ (h:=g0_ (h:=g0_ (h:=g0_ (h:=g0_ (h:=pf_ (h:=al_nil (?_))))))))
                  refine x_then ?_
                  first | (exfalso; first | contradiction | omega) | exact weak_of 5 0 rfl rfl rfl rfl (by repeat (first | exact Sub.nil | refine Sub.cons _ _ _ rfl rfl ?_ | refine Sub.any _ _ ?_ | refine Sub.sl _ _ _ _ _ rfl ?_ | refine Sub.slnil _ _ _ rfl ?_ | (apply Sub.of; (focus exact rfl); (focus exact LeA.of_eq (vb (by first | (rw [hb21]; rfl) | (rw [hb21, hx]; rfl)))); (focus exact rfl))))
              · have hc21 := bp hb21
                refine g0_ (h:=g0_ (h:=pf_ (h:=m_ (h:=g0_ (h:=g0_ (h:=g0_ (h:=g0_ (h:=g0_ (h:=g0_ (h:=pf_ (h:=al_nil (?_))))))))))))
                refine x_then ?_
                first | (exfalso; first | contradiction | omega) | exact weak_of 5 0 rfl rfl rfl rfl (by repeat (first | exact Sub.nil | refine Sub.cons _ _ _ rfl rfl ?_ | refine Sub.any _ _ ?_ | refine Sub.sl _ _ _ _ _ rfl ?_ | refine Sub.slnil _ _ _ rfl ?_ | (apply Sub.of; (focus exact rfl); (focus exact LeA.of_eq (vb (by first | (rw [hb21]; rfl) | (rw [hb21, hx]; rfl)))); (focus exact rfl))))
            · skip
              refine aw_cond rfl (fun hb23 => ?_) (fun hb23 => ?_)
              · have hc23 := bp hb23
                refine w_ (bd_ (h:=s_ (h:=a_ (h:=e_ (aw_ret (x_thenR (?_)))))))
                refine e_ret ?_
                rw [find_slash hc1 (by omega) ha had hT (by simp only [Bool.and_eq_true, Bool.not_eq_true'] at hc23; exact hc23)]
                rfl
              · have hc23 := bp hb23
                refine kt_ (w_ (m_ (h:=f_ (h:=s_ (h:=e_ (q_ (w_ (l_ (h:=f_ (h:=l_ (h:=?_)))))))))))
                refine al_p rfl (q_call (Rwhere hs.b hv τ.dir) ?_)
                rintro r rfl
                refine m_ (h:=x_ (h:=x_ (h:=a_ (h:=a_ (h:=e_ (w_ (m_ (h:=e_ (?_)))))))))
                refine aw_cond rfl (fun hb24 => ?_) (fun hb24 => ?_)
                · have hc24 := bp hb24
                  refine w_ (m_ (h:=f_ (h:=s_ (h:=e_ (w_ (f_ (h:=l_ (h:=nq_ (h:=e_ (?_))))))))))
                  refine aw_cond rfl (fun hb25 => ?_) (fun hb25 => ?_)
                  · have hc25 := bp hb25
                    refine aw_region (m_ (h:=f_ (h:=l_ (h:=?_))))
                    refine al_p rfl (q_call (RjoinR (whereP s τ.dir).1 τ.name (by have := hw τ.dir; omega) (by omega)) ?_)
                    rintro r rfl
                    refine f_ (h:=s_ (h:=e_ (w_ (l_ (h:=s_ (h:=a_ (h:=e_ (aw_ret (?_)))))))))
                    refine e_ret ?_
                    rw [find_ok hc1 (by omega) ha had hT (fun h => by rw [h.1, h.2.1, h.2.2] at hc23; cases hc23), show fndOf s (lsL p) τ = ⟨τ.dir, τ.name, τ.file, τ.ex, lsL p, joinS (whereP s τ.dir).1 τ.name⟩ by unfold fndOf; rw [if_pos hc24, if_neg hc25]]
                    rfl
                  · have hc25 := bp hb25
                    refine kt_ (w_ (l_ (h:=s_ (h:=a_ (h:=e_ (aw_ret (?_)))))))
                    refine e_ret ?_
                    rw [find_ok hc1 (by omega) ha had hT (fun h => by rw [h.1, h.2.1, h.2.2] at hc23; cases hc23), show fndOf s (lsL p) τ = ⟨τ.dir, τ.name, τ.file, τ.ex, lsL p, (whereP s τ.dir).1⟩ by unfold fndOf; rw [if_pos hc24, if_pos hc25]]
                    rfl
                · have hc24 := bp hb24
                  refine kt_ (w_ (l_ (h:=s_ (h:=a_ (h:=e_ (aw_ret (?_)))))))
                  refine e_ret ?_
                  rw [find_ok hc1 (by omega) ha had hT (fun h => by rw [h.1, h.2.1, h.2.2] at hc23; cases hc23), show fndOf s (lsL p) τ = ⟨τ.dir, τ.name, τ.file, τ.ex, lsL p, ⟨#[]⟩⟩ by unfold fndOf; rw [if_neg (by simp [hc24])]]
                  rfl

end
end Go.Proofs.YtaidkbnbfnaihaaGreat
namespace Go.Proofs.YtaidkbnbfnaihaaGreat
open Go.RowKit

section
set_option maxRecDepth 10000
set_option maxHeartbeats 2000000
theorem Lagrees (s : Spc) (st : Fil) (p : Str) (fl : Bool) (hs : SpcN s) (hv : SpcV s) (hp : p.size ≤ 1000) : AFn Tryz.prog 8 [.agg (spcA s), .agg (filA st), .v (.string p), .v (.bool fl)] (fun r => r = .v (.bool true)) := by
  have hr : AFn Tryz.prog 18 [.agg (spcA s), .agg (filA st), .v (.string p), .v (.bool fl)] (fun r => r = .tup [.agg (fndA (findL s st p fl).1), .v (.int .i64 (findL s st p fl).2)]) := Rfind7 s st p fl hs hv (by omega)
  refine enter Tryz.func8 rfl rfl rfl rfl rfl 0 rfl ?_
  refine w_ (b_ (h:=b_ (h:=a_ (h:=e_ (w_ (l_ (h:=l_ (h:=m_ (h:=m_ (h:=?_))))))))))
  refine al_p rfl (q_call (Pfind7 s st p fl hs hv (by omega)) ?_)
  rintro r rfl
  refine m_ (h:=x_ (h:=x_ (h:=al_ (h:=s_ (h:=a_ (h:=e_ (w_ (l_ (h:=l_ (h:=m_ (h:=m_ (h:=?_))))))))))))
  refine al_p rfl (q_call (hr) ?_)
  rintro r rfl
  refine m_ (h:=x_ (h:=x_ (h:=al_ (h:=s_ (h:=a_ (h:=e_ (w_ (m_ (h:=m_ (h:=eq_ (h:=m_ (h:=?_))))))))))))
  refine al_gs true rfl rfl (fun hb1 => ?_) (fun hb1 => ?_)
  · have hc1 := bp hb1
    refine l_ (h:=l_ (h:=?_))
    refine g_y (st_eqF (findL s st p fl).1 rfl rfl ?_)
    refine pt_ (h:=a_ (h:=e_ (aw_ret (?_))))
    refine e_ret ?_
    first | rfl | exact absurd rfl hc1
  · have hc1 := bp hb1
    refine g0_ (h:=g0_ (h:=g0_ (h:=pf_ (h:=a_ (h:=e_ (aw_ret (?_)))))))
    refine e_ret ?_
    first | rfl | exact absurd rfl hc1

theorem Lraw7 (l : List Int) (p : Str) (dev ino : Int) (fl : Bool) : AFn Tryz.prog 3 [.sl 1 (l.map intA) none, .v (.string p), .v (.int .i64 dev), .v (.int .i64 ino), .v (.bool fl)] (fun r => r = .v (.bool true)) := by
  refine enter Tryz.func3 rfl rfl rfl rfl rfl 0 rfl ?_
  refine w_ (a_ (h:=e_ (q_ (w_ (m_ (h:=n_ (h:=gt_ (h:=e_ (?_)))))))))
  refine aw_cond rfl (fun hb1 => ?_) (fun hb1 => ?_)
  · have hc1 := bp hb1
    refine w_ (?_)
    refine al_p rfl (q_call (Lawake7) ?_)
    rintro r rfl
    refine a_ (h:=e_ (aw_ret (x_thenR (?_))))
    refine e_ret ?_
    first | rfl | (exfalso; first | contradiction | omega | (simp_all; done))
  · have hc1 := bp hb1
    refine kt_ (w_ (m_ (h:=?_)))
    refine al_p rfl (s_callN rfl (by repeat (first | exact Args.nil | refine Args.cons _ _ _ _ _ rfl (argOk_clean rfl) ?_ | refine Args.cons _ _ _ _ _ rfl (argOk_nil _) ?_ | refine Args.cons _ _ _ _ _ rfl (argOk_era _) ?_ | refine Args.cons _ _ _ _ _ rfl (argOk_le rfl (by repeat (first | exact LeA.refl _ | exact LeA.nil _ | exact LeL.refl _ | refine LeA.agg ?_ | refine LeA.tup ?_ | exact LeL.nil | refine LeL.cons ?_ ?_ | exact LeA.any _))) ?_)) rfl (Gnew l) (by repeat constructor) ?_)
    skip
    refine a_ (h:=e_ (w_ (m_ (h:=?_))))
    refine al_p rfl (s_gen 0 (hc := Gspace l _ (by omega)) (hR := ?_))
    rintro r a1 ha1 ⟨s, rfl, hv, hm⟩
    refine ⟨rfl, _, (by repeat constructor), ?_⟩
    have hsb := hv.b (show s.mounts.length ≤ 1000 by omega)
    have hsn := hv.n (show s.mounts.length ≤ 1000 by omega)
    refine al_ (h:=s_ (h:=e_ (q_ (yk_ ([(1, spcA s)]) 29 (h:=?_)))))
    first | refine dl_ 0 (h:=?_) | refine tk_ 0 rfl (fun _ hS => st_loadBE (row := spcA s) rfl (kb hS rfl) (Nat.le_of_ble_eq_true rfl) rfl ⟨rfl, rfl⟩) ?_
    refine dm_ 1 (h:=dm_ 2 (h:=dbd_ 3 (h:=dm_ 4 (h:=dm_ 5 (h:=?_)))))
    refine c_ 6 rfl (q_call (Lagrees s (dev, ino) p fl hsn hv (by omega)) ?_)
    rintro r rfl
    refine o_ (h:=dm_ 7 (h:=?_))
    refine aa_both (j := 7) rfl (fun hb2 => ?_) (fun hb2 => ?_)
    · have hc2 := bp hb2
      first | refine dl_ 8 (h:=?_) | refine tk_ 8 rfl (fun _ hS => st_loadBE (row := spcA s) rfl (kb hS rfl) (Nat.le_of_ble_eq_true rfl) rfl ⟨rfl, rfl⟩) ?_
      refine dm_ 9 (h:=df_ 10 (h:=?_))
      first | refine dl_ 11 (h:=?_) | refine tk_ 11 rfl (fun _ hS => st_loadBE (row := spcA s) rfl (kb hS rfl) (Nat.le_of_ble_eq_true rfl) rfl ⟨rfl, rfl⟩) ?_
      refine dm_ 13 (h:=dm_ 14 (h:=?_))
      refine c_ 12 rfl (s_gen 0 (hc := Gfile l _ s.files (by omega) hv.files.b hv.files.ne) (hR := ?_))
      rintro r a2 ha2 ⟨x2, rfl⟩
      refine ⟨rfl, _, (by repeat constructor), ?_⟩
      refine o_ (h:=?_)
      refine c_ 15 rfl (q_call (Lagrees s _ p fl hsn hv (by omega)) ?_)
      rintro r rfl
      refine o_ (h:=dpt_ 16 (h:=dm_ 17 (h:=?_)))
      refine aa_both (j := 17) rfl (fun hb3 => ?_) (fun hb3 => ?_)
      · have hc3 := bp hb3
        first | refine dl_ 18 (h:=?_) | refine tk_ 18 rfl (fun _ hS => st_loadBE (row := spcA s) rfl (kb hS rfl) (Nat.le_of_ble_eq_true rfl) rfl ⟨rfl, rfl⟩) ?_
        refine dbd_ 19 (h:=dm_ 20 (h:=?_))
        refine tk_ 21 rfl (fun _ hS => st_addS rfl rfl (by show 3 + p.size ≤ _; omega) ⟨rfl, rfl⟩) ?_
        refine dm_ 22 (h:=?_)
        refine c_ 23 rfl (q_call (Lagrees s (0, 1) (⟨#[47, 97, 47]⟩ ++ p) fl hsn hv (by rw [ByteArray.size_append]; show 3 + p.size ≤ _; omega)) ?_)
        rintro r rfl
        refine o_ (h:=dpt_ 24 (h:=dm_ 25 (h:=?_)))
        refine aa_both (j := 25) rfl (fun hb4 => ?_) (fun hb4 => ?_)
        · have hc4 := bp hb4
          refine c_ 26 rfl (q_call (Lawake7) ?_)
          rintro r rfl
          refine o_ (h:=dpt_ 27 (h:=da_ 28 (h:=z_ (h:=t_ (aw_ret (?_))))))
          refine e_ret ?_
          first | rfl | (exfalso; first | contradiction | omega | (simp_all; done))
        · have hc4 := bp hb4
          refine d0_ 26 (h:=dpf_ 27 (h:=da_ 28 (h:=z_ (h:=t_ (aw_ret (?_))))))
          refine e_ret ?_
          first | rfl | (exfalso; first | contradiction | omega | (simp_all; done))
      · have hc3 := bp hb3
        refine d0_ 18 (h:=d0_ 19 (h:=d0_ 20 (h:=d0_ 21 (h:=d0_ 22 (h:=d0_ 23 (h:=dpf_ 24 (h:=dm_ 25 (h:=d0_ 26 (h:=dpf_ 27 (h:=da_ 28 (h:=z_ (h:=t_ (aw_ret (?_))))))))))))))
        refine e_ret ?_
        first | rfl | (exfalso; first | contradiction | omega | (simp_all; done))
    · have hc2 := bp hb2
      refine d0_ 8 (h:=d0_ 9 (h:=d0_ 10 (h:=d0_ 11 (h:=d0_ 12 (h:=d0_ 13 (h:=d0_ 14 (h:=d0_ 15 (h:=dpf_ 16 (h:=dm_ 17 (h:=d0_ 18 (h:=d0_ 19 (h:=d0_ 20 (h:=d0_ 21 (h:=d0_ 22 (h:=d0_ 23 (h:=dpf_ 24 (h:=dm_ 25 (h:=d0_ 26 (h:=dpf_ 27 (h:=da_ 28 (h:=z_ (h:=t_ (aw_ret (?_))))))))))))))))))))))))
      refine e_ret ?_
      first | rfl | (exfalso; first | contradiction | omega | (simp_all; done))

end
end Go.Proofs.YtaidkbnbfnaihaaGreat
namespace Go.Proofs.YtaidkbnbfnaihaaGreat
open Go.RowKit
theorem LookupRaw_walk {H : Type} {enc : TypeId × Value → H} {sp : Nat → Bool} {held : Bool} {base : Nat} (a : Option Addr) (n c : Nat) (s : ByteArray) (dev ino : Int) (b : Bool) (w : World) {d : DataW H} {p : List MemPlace} (h : DataW.Trod enc Tryz.prog w base sp held 22 (.slice a n c) d p) (_ : s.size ≤ maxLen) (_ : -9223372036854775808 ≤ dev) (_ : dev ≤ 9223372036854775807) (_ : -9223372036854775808 ≤ ino) (_ : ino ≤ 9223372036854775807) :
    Calls Tryz.prog 3 #[.slice a n c, .string s, .int .i64 dev, .int .i64 ino, .bool b] w fun e w' => e = .returned (.bool true) ∧ Below w.heap.size w w' := walk_intsv [.string s, .int .i64 dev, .int .i64 ino, .bool b] (fun l => Lraw7 l s dev ino b) a n c w h
end Go.Proofs.YtaidkbnbfnaihaaGreat
