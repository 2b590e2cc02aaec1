/-
  Part 15 of the proof of LookupDotsP: what the statement's proof uses of the texts in wip/tpl.
-/
import Derived.Test.YtaidkbnbfnaihaaLd14
namespace Go.Proofs.Ytaidkbnbfnaihaa
open Go.RowKit

theorem root_is {s : Spc} (hv : SpcV s) : dirL s.files (rootD s) = true := (where_ok ((vis_iff hv _).1 (vis_down hv (wvis_root hv (root_dir hv (Int.le_refl 0) (by have := hv.pos; omega))))).1.1).1
theorem name_short {s : Spc} (fl : Bool) {p : Str} {ps : List Str} {w w' : Wk} (hn : w.name.size ≤ 12) (h : stp s fl p ps w = .inr w') : w'.name.size ≤ 12 := by
  unfold stp at h
  split at h
  · cases h
  · split at h
    · cases h
    · rename_i h2
      split at h
      · injection h with h; subst h; exact Nat.zero_le _
      · split at h
        · injection h with h; subst h; exact Nat.zero_le _
        · split at h
          · cases h
          · split at h
            · split at h
              · cases h
              · injection h with h; subst h; exact Nat.le_of_not_lt h2
            · split at h
              · split at h
                · cases h
                · injection h with h; subst h
                  show ByteArray.size (if _ then _ else _) ≤ 12
                  split
                  · exact Nat.zero_le _
                  · exact hn
              · injection h with h; subst h; exact Nat.le_of_not_lt h2
theorem rest_few {s : Spc} (hv : FlsV s.files) (fl : Bool) {p : Str} {ps : List Str} {w w' : Wk} (hl : w.links ≤ 8) (h : stp s fl p ps w = .inr w') : w'.links ≤ 8 ∧ (8 - w'.links) * 200 + w'.ps.length < (8 - w.links) * 200 + (ps.length + 1) := by
  unfold stp at h
  split at h
  · cases h
  · split at h
    · cases h
    · split at h
      · injection h with h; subst h; exact ⟨hl, by simp only; omega⟩
      · split at h
        · injection h with h; subst h; exact ⟨hl, by simp only; omega⟩
        · split at h
          · cases h
          · split at h
            · split at h
              · cases h
              · injection h with h; subst h; exact ⟨hl, by simp only; omega⟩
            · split at h
              · split at h
                · cases h
                · rename_i h9
                  injection h with h; subst h
                  have ht := nodG_target hv (lookL s.files w.at_ p).1
                  have hs := splS_len (nodG s.files (lookL s.files w.at_ p).1).target
                  refine ⟨by simp only; omega, ?_⟩
                  simp only [List.length_append]
                  have : (8 - w.links) * 200 = (8 - (w.links + 1)) * 200 + 200 := by
                    rw [show 8 - w.links = (8 - (w.links + 1)) + 1 by omega, Nat.add_mul]
                  omega
              · injection h with h; subst h; exact ⟨hl, by simp only; omega⟩
theorem find_long {s : Spc} {start : Fil} {p : Str} {fl : Bool} (h1 : ¬ p = ⟨#[]⟩) (h2 : 128 < p.size) : findL s start p fl = (fnd0, 36) := by unfold findL; rw [if_neg h1, if_pos h2]
section
variable {s : Spc} {start a : Fil} {p : Str} {fl : Bool} (h1 : ¬ p = ⟨#[]⟩) (h2 : ¬ 128 < p.size) (ha : (if hdL p = true then rootD s else start) = a)
include h1 h2 ha
theorem find_nodir (hd : dirL s.files a = false) : findL s start p fl = (fnd0, 2) := by
  unfold findL
  rw [if_neg h1, if_neg h2, ha, if_pos hd]
variable (hd : dirL s.files a = true)
include hd
theorem find_err {e : Int} {τ : Lk} (h : lkT s (fl || lsL p) (lk0 (splS p) a) = (e, τ)) (he : e ≠ 0) : findL s start p fl = (fnd0, e) := by
  unfold findL
  rw [if_neg h1, if_neg h2, ha, if_neg (by simp [hd]), h, if_pos he]
theorem find_slash {τ : Lk} (h : lkT s (fl || lsL p) (lk0 (splS p) a) = (0, τ)) (hs : lsL p = true ∧ τ.ex = true ∧ dirL s.files τ.file = false) : findL s start p fl = (fnd0, 20) := by
  unfold findL
  rw [if_neg h1, if_neg h2, ha, if_neg (by simp [hd]), h, if_neg (by simp), if_pos hs]
theorem find_ok {τ : Lk} (h : lkT s (fl || lsL p) (lk0 (splS p) a) = (0, τ)) (hs : ¬ (lsL p = true ∧ τ.ex = true ∧ dirL s.files τ.file = false)) : findL s start p fl = (fndOf s (lsL p) τ, 0) := by
  unfold findL
  rw [if_neg h1, if_neg h2, ha, if_neg (by simp [hd]), h, if_neg (by simp), if_neg hs]
end
theorem sim0 (ps : List Str) (a d : Fil) (hd : ps = [] → True) : Sim ⟨ps, a, d, ⟨#[]⟩, false, 0⟩ (lk0 ps a) := by
  have _ := hd
  exact ⟨rfl, rfl, rfl, fun _ => rfl, fun h => (by cases h), fun _ _ => ⟨fun _ => ⟨rfl, rfl⟩, fun h => absurd rfl h⟩⟩
def Run (s : Spc) (F : Bool) (σ0 : Lk) (w : Wk) : Prop := w.links ≤ 8 ∧ w.name.size ≤ 12 ∧ ∃ σ, Sim w σ ∧ lkT s F σ = lkT s F σ0
theorem run_step {s : Spc} (hv : SpcV s) {F : Bool} {σ0 : Lk} {w : Wk} {p : Str} {ps : List Str} (hps : w.ps = p :: ps) (h : Run s F σ0 w) : (∀ e, stp s F p ps w = .inl e → lkT s F σ0 = (e, lkZ)) ∧ ∀ w', stp s F p ps w = .inr w' → Run s F σ0 w' := by
  obtain ⟨h8, hn, σ, hS, hT⟩ := h
  have hm : w.missing = false := by
    cases hm : w.missing with
    | false => rfl
    | true => have := (hS.gone hm).2.1; rw [hps] at this; cases this
  have h8σ : σ.links ≤ 8 := by rw [← hS.links]; exact h8
  have hc := lkT_cons hv.files (fl := F) h8σ (hS.ps.symm.trans hps)
  rcases sim_step hv F (p := p) (ps := ps) hS hm with ⟨e, q1, q2⟩ | ⟨w1, τ, q1, q2, q3⟩
  · refine ⟨fun e' he => ?_, fun w' hw => by rw [q1] at hw; cases hw⟩
    rw [q1] at he
    injection he with he
    subst he
    rw [← hT, hc, q2]
  · refine ⟨fun e' he => by (rw [q1] at he; cases he), fun w' hw => ?_⟩
    have k1 := rest_few hv.files F h8 hw
    have k2 := name_short F hn hw
    rw [q1] at hw
    injection hw with hw
    subst hw
    refine ⟨k1.1, k2, τ, q3, ?_⟩
    rw [← hT, hc, q2]
theorem run_end {s : Spc} (hv : SpcV s) {F : Bool} {σ0 : Lk} {w : Wk} (hps : w.ps = []) (h : Run s F σ0 w) : ∃ σ, lkT s F σ0 = (0, σ) ∧ σ.ex = !w.missing ∧ (w.missing = false → σ.file = w.at_) ∧ ∀ sl, fndW s sl w = fndOf s sl σ := by
  obtain ⟨h8, hn, σ, hS, hT⟩ := h
  exact ⟨σ, by rw [← hT]; exact lkT_nil (hS.ps.symm.trans hps), hS.ex, fun hm => (hS.here hm).symm, fun sl => sim_end hv hS hps⟩
section
set_option maxRecDepth 10000
set_option maxHeartbeats 1000000
theorem Pfind7 (s : Spc) (start : Fil) (p : Str) (fl : Bool) (hs : SpcN s) (hv : SpcV s) (hp : p.size ≤ 1000000) : AFn Try.prog 11 [.agg (spcA s), .agg (filA start), .v (.string p), .v (.bool fl)] (fun r => r = .tup [.agg (fndA (findL s start p fl).1), .v (.int .i64 (findL s start p fl).2)]) := by
  have hw := where_size hv
  have hri := root_is hv
  refine enter Try.func11 rfl rfl rfl rfl rfl 0 rfl ?_
  refine w_ (b_ (h:=b_ (h:=al_ (h:=a_ (h:=e_ (q_ (aw_block (w_ (m_ (h:=eq_ (h:=a_ (h:=e_ (?_)))))))))))))
  refine aw_cond rfl (fun hb1 => ?_) (fun hb1 => ?_)
  · have hc1 := bp hb1
    refine w_ (bd_ (h:=s_ (h:=a_ (h:=e_ (aw_ret (x_blockR (x_thenR (?_))))))))
    refine e_ret ?_
    rw [show findL s start p fl = (fnd0, 2) from if_pos hc1]
    rfl
  · have hc1 := bp hb1
    refine w_ (m_ (h:=n_ (h:=gt_ (h:=a_ (h:=e_ (?_))))))
    refine aw_cond rfl (fun hb2 => ?_) (fun hb2 => ?_)
    · have hc2 := bp hb2
      refine w_ (bd_ (h:=s_ (h:=a_ (h:=e_ (aw_ret (x_blockR (x_thenR (?_))))))))
      refine e_ret ?_
      rw [find_long hc1 (by omega)]
      rfl
    · have hc2 := bp hb2
      refine aw_skip (x_blockN (t_ (w_ (m_ (h:=?_)))))
      refine al_p rfl (q_call (Psplit p (by omega)) ?_)
      rintro r rfl
      refine m_ (h:=x_ (h:=x_ (h:=x_ (h:=a_ (h:=a_ (h:=a_ (h:=e_ (?_))))))))
      refine aw_midI (fun t => t = ⟨look [(2, .v (.string p)), (4, .bp 0 0), (5, .bp 1 0), (8, .bp 2 0), (11, .v (.bool (hdL p))), (12, .v (.bool (lsL p))), (13, .bp 3 0)], ⟨[spcA s, filA start, fndA fnd0, wkA s (fl || lsL p) ⟨splS p, start, (0, 0), ⟨#[]⟩, false, 0⟩], []⟩⟩) ?_ ?_
      · skip
        refine aw_region (l_ (h:=m_ (h:=l_ (h:=m_ (h:=m_ (h:=?_))))))
        refine al_gs false rfl rfl (fun hb3 => ?_) (fun hb3 => ?_)
        · have hc3 := bp hb3
          refine g0_ (h:=pt_ (h:=bd_ (h:=al_ (h:=s_ (h:=al_nil (?_))))))
          refine x_then ?_
          first | (rw [hb3]; exact ⟨_, rfl, (wk 4 0)⟩) | exact ⟨_, rfl, (wk 4 0)⟩
        · have hc3 := bp hb3
          refine m_ (h:=pf_ (h:=bd_ (h:=al_ (h:=s_ (h:=al_nil (?_))))))
          refine x_then ?_
          first | (rw [hb3]; exact ⟨_, rfl, (wk 4 0)⟩) | exact ⟨_, rfl, (wk 4 0)⟩
      · rintro t rfl
        refine aw_midI (fun t => ∃ a, (if hdL p = true then rootD s else start) = a ∧ dirL s.files a = true ∧ t = ⟨look [(4, .bp 0 0), (8, .bp 2 0), (12, .v (.bool (lsL p))), (13, .bp 3 0)], ⟨[spcA s, filA start, fndA fnd0, wkA s (fl || lsL p) ⟨splS p, a, (0, 0), ⟨#[]⟩, false, 0⟩], []⟩⟩) ?_ ?_
        · skip
          refine w_ (m_ (h:=e_ (?_)))
          refine aw_cond rfl (fun hb4 => ?_) (fun hb4 => ?_)
          · have hc4 := bp hb4
            refine aw_region (l_ (h:=?_))
            refine al_p rfl (q_call (Proot s hs.b) ?_)
            rintro r rfl
            refine f_ (h:=s_ (h:=al_nil (?_)))
            refine x_then ?_
            first | exact ⟨_, ⟨rootD s, if_pos hc4, hri, rfl⟩, (wk 4 0)⟩ | exact ⟨_, ⟨start, if_neg (by simp [hc4]), by simpa using hc5, rfl⟩, (wk 4 0)⟩
          · have hc4 := bp hb4
            refine w_ (?_)
            refine al_p rfl (s_callR 1 rfl (.cons _ _ _ _ _ rfl (LeA.refl _) .nil) (PdirW s (fl || lsL p) ⟨splS p, start, (0, 0), ⟨#[]⟩, false, 0⟩ hs.b) ?_)
            rintro r rfl
            refine ⟨rfl, ?_⟩
            refine nt_ (h:=e_ (?_))
            refine aw_cond rfl (fun hb5 => ?_) (fun hb5 => ?_)
            · have hc5 := bp hb5
              refine w_ (bd_ (h:=s_ (h:=a_ (h:=e_ (aw_ret (x_thenR (?_)))))))
              refine e_ret ?_
              rw [find_nodir hc1 (by omega) (if_neg (by simp [hc4])) (by simpa using hc5)]
              rfl
            · have hc5 := bp hb5
              refine aw_skip (?_)
              refine x_then ?_
              first | exact ⟨_, ⟨rootD s, if_pos hc4, hri, rfl⟩, (wk 4 0)⟩ | exact ⟨_, ⟨start, if_neg (by simp [hc4]), by simpa using hc5, rfl⟩, (wk 4 0)⟩
        · rintro t ⟨a, ha, had, rfl⟩
          refine q_ (aw_block (?_))
          refine aw_loopW (fun m t => ∃ w, Run s (fl || lsL p) (lk0 (splS p) a) w ∧ m = (8 - w.links) * 200 + w.ps.length ∧ m ≤ 1600 + (p.size + 1) ∧ t = ⟨look [(4, .bp 0 0), (8, .bp 2 0), (12, .v (.bool (lsL p))), (13, .bp 3 0)], ⟨[spcA s, filA start, fndA fnd0, wkA s (fl || lsL p) w], []⟩⟩) ((8 - 0) * 200 + (splS p).length) ((wk 4 0)) (⟨_, ⟨Nat.zero_le _, Nat.zero_le _, _, sim0 (splS p) a (0, 0) (fun _ => trivial), rfl⟩, rfl, by have := splS_len p; omega, rfl⟩) ?_
          rintro m t ⟨w, hR, rfl, hm, rfl⟩
          have hml : (w.ps.map strA).length = w.ps.length := by simp
          refine q_ (w_ (f_ (h:=l_ (h:=n_ (h:=gt_ (h:=e_ (?_)))))))
          refine aw_cond rfl (fun hb6 => ?_) (fun hb6 => ?_)
          · have hc6 := bp hb6
            obtain ⟨q, qs, hqs⟩ : ∃ q qs, w.ps = q :: qs := by
              cases hq : w.ps with
              | nil => rw [hq] at hml hc6; simp at hc6
              | cons q qs => exact ⟨q, qs, rfl⟩
            have hql : w.ps.length = qs.length + 1 := by rw [hqs]; rfl
            refine kt_ (aw_block (w_ (?_)))
            refine al_p rfl (s_callB 3 rfl (by repeat (first | exact ArgsB.nil | refine ArgsB.cons _ _ _ _ _ rfl rfl ?_)) rfl rfl (Pstep s (fl || lsL p) w q qs hqs hs.b hv hR.1 (by omega)) ?_)
            rintro r row2 (⟨e, he, he0, rfl, rfl⟩ | ⟨w2, hw2, rfl, rfl⟩)
            · refine ⟨bp_wk _ _ _, rfl, _, (by repeat constructor), ?_⟩
              refine a_ (h:=e_ (w_ (m_ (h:=nq_ (h:=e_ (?_))))))
              refine aw_cond rfl (fun hb7 => ?_) (fun hb7 => ?_)
              · have hc7 := bp hb7
                refine w_ (bd_ (h:=m_ (h:=s_ (h:=a_ (h:=e_ (aw_ret (x_blockR (x_thenR (x_blockR (x_thenR (?_)))))))))))
                refine e_ret ?_
                rw [find_err hc1 (by omega) ha had ((run_step hv hqs hR).1 e he) he0]
                rfl
              · have hc7 := bp hb7
                exact absurd hc7 he0
            · refine ⟨bp_wk _ _ _, rfl, _, (by repeat constructor), ?_⟩
              refine a_ (h:=e_ (w_ (m_ (h:=nq_ (h:=e_ (?_))))))
              refine aw_cond rfl (fun hb8 => ?_) (fun hb8 => ?_)
              · have hc8 := bp hb8
                exact absurd rfl hc8
              · have hc8 := bp hb8
                refine aw_skip (x_blockN (?_))
                refine x_then ?_
                exact ⟨(8 - w2.links) * 200 + w2.ps.length, _, (by have := (rest_few hv.files _ hR.1 hw2).2; omega), ⟨w2, (run_step hv hqs hR).2 w2 hw2, rfl, by have := (rest_few hv.files _ hR.1 hw2).2; omega, rfl⟩, (wk 4 0)⟩
          · have hc6 := bp hb6
            have hps : w.ps = [] := List.eq_nil_of_length_eq_zero (by omega)
            obtain ⟨σ, hT, hσx, hσf, hσe⟩ := run_end hv hps hR
            refine aw_exit (x_thenE (x_thenE (ABlock_out (t_ (q_ (?_))))))
            refine aw_mid (⟨look [(8, .bp 2 0), (12, .v (.bool (lsL p))), (13, .bp 3 0), (63, .v (.bool (lsL p && (!w.missing && !dirL s.files w.at_))))], ⟨[spcA s, filA start, fndA fnd0, wkA s (fl || lsL p) w], []⟩⟩) ?_ ?_
            · skip
              refine aw_region (m_ (h:=m_ (h:=?_)))
              refine al_gs true rfl rfl (fun hb9 => ?_) (fun hb9 => ?_)
              · have hc9 := bp hb9
                refine f_ (h:=l_ (h:=nt_ (h:=pt_ (h:=m_ (h:=?_)))))
                refine al_gs true rfl rfl (fun hb10 => ?_) (fun hb10 => ?_)
                · have hc10 := bp hb10
                  refine g_y (s_callR 1 rfl (.cons _ _ _ _ _ rfl (LeA.refl _) .nil) (PdirW s (fl || lsL p) w hs.b) ?_)
                  rintro r rfl
                  refine ⟨rfl, ?_⟩
                  refine nt_ (h:=pt_ (h:=al_nil (?_)))
                  refine x_then ?_
                  first | (exfalso; first | contradiction | omega) | exact weak_of 4 0 rfl rfl rfl rfl (by repeat (first | exact Sub.nil | refine Sub.cons _ _ _ rfl rfl ?_ | refine Sub.any _ _ ?_ | refine Sub.sl _ _ _ _ _ rfl ?_ | refine Sub.slnil _ _ _ rfl ?_ | (apply Sub.of; (focus exact rfl); (focus exact LeA.of_eq (vb (by first | (rw [hb9]; rfl) | (rw [hb9, hb10]; rfl)))); (focus exact rfl))))
                · have hc10 := bp hb10
                  refine g0_ (h:=g0_ (h:=pf_ (h:=al_nil (?_))))
                  refine x_then ?_
                  first | (exfalso; first | contradiction | omega) | exact weak_of 4 0 rfl rfl rfl rfl (by repeat (first | exact Sub.nil | refine Sub.cons _ _ _ rfl rfl ?_ | refine Sub.any _ _ ?_ | refine Sub.sl _ _ _ _ _ rfl ?_ | refine Sub.slnil _ _ _ rfl ?_ | (apply Sub.of; (focus exact rfl); (focus exact LeA.of_eq (vb (by first | (rw [hb9]; rfl) | (rw [hb9, hb10]; rfl)))); (focus exact rfl))))
              · have hc9 := bp hb9
                refine g0_ (h:=g0_ (h:=g0_ (h:=pf_ (h:=m_ (h:=g0_ (h:=g0_ (h:=pf_ (h:=al_nil (?_)))))))))
                refine x_then ?_
                first | (exfalso; first | contradiction | omega) | exact weak_of 4 0 rfl rfl rfl rfl (by repeat (first | exact Sub.nil | refine Sub.cons _ _ _ rfl rfl ?_ | refine Sub.any _ _ ?_ | refine Sub.sl _ _ _ _ _ rfl ?_ | refine Sub.slnil _ _ _ rfl ?_ | (apply Sub.of; (focus exact rfl); (focus exact LeA.of_eq (vb (by first | (rw [hb9]; rfl) | (rw [hb9, hb10]; rfl)))); (focus exact rfl))))
            · skip
              refine aw_cond rfl (fun hb11 => ?_) (fun hb11 => ?_)
              · have hc11 := bp hb11
                refine w_ (bd_ (h:=s_ (h:=a_ (h:=e_ (aw_ret (x_thenR (?_)))))))
                refine e_ret ?_
                rw [find_slash hc1 (by omega) ha had hT (by simp only [Bool.and_eq_true, Bool.not_eq_true'] at hc11; exact ⟨hc11.1, by rw [hσx, hc11.2.1]; rfl, by rw [hσf hc11.2.1]; exact hc11.2.2⟩)]
                rfl
              · have hc11 := bp hb11
                refine kt_ (w_ (m_ (h:=?_)))
                refine al_p rfl (s_callR 1 rfl (.cons _ _ _ _ _ rfl (LeA.refl _) (.cons _ _ _ _ _ rfl (LeA.refl _) .nil)) (Pfound s (fl || lsL p) (lsL p) w hs hw (by have := hR.2.1; omega)) ?_)
                rintro r rfl
                refine ⟨rfl, ?_⟩
                refine s_ (h:=a_ (h:=e_ (aw_ret (?_))))
                refine e_ret ?_
                rw [find_ok hc1 (by omega) ha had hT (fun h => by
                  obtain ⟨h1, h2, h3⟩ := h
                  rw [hσx] at h2
                  have hm2 : w.missing = false := by simpa using h2
                  rw [hσf hm2] at h3
                  rw [h1, h2, h3] at hc11
                  cases hc11), ← hσe]
                rfl

end
end Go.Proofs.Ytaidkbnbfnaihaa
namespace Go.Proofs.Ytaidkbnbfnaihaa
open Go.RowKit

theorem flsV_spc {f : Fls} (h : FlsV f) (h0 : 0 < f.length) : SpcV ⟨f, []⟩ := ⟨h, h0, fun i m hm => by cases hm⟩
theorem aw7_le : LeA (.agg [.sl 2 (aw7F2.map dvcA) none, .v (.slice none 0 0)]) (.agg (spcA ⟨aw7F2, []⟩)) := LeA.agg (LeL.cons (LeA.refl _) (LeL.cons (LeA.nil _) LeL.nil))
theorem aw7_spc : SpcV ⟨aw7F2, []⟩ := flsV_spc aw7_valid.2 (by decide +kernel)
section
set_option maxRecDepth 10000
set_option maxHeartbeats 1000000
theorem Lawake7 : AFn Try.prog 16 [] (fun r => r = .v (.bool true)) := by
  have hnew : AFn Try.prog 21 [.v (.int .i64 1)] (fun r => r = .tup [.agg (flsA (newL 1).1), .v (.int .i64 0)]) := Rnew 1
  obtain ⟨c1, hmk1⟩ : ∃ c1, AFn Try.prog 19 [.agg (flsA (newL 1).1), .agg [.v (.int .i64 0), .v (.int .i64 1)], .v (.string ⟨#[102]⟩), .agg (nodA ⟨0, 1, 420, 0, 0, 0, ⟨#[]⟩, []⟩)] (fun r => r = .tup [.agg (flsA aw7F1), .sl 7 (List.map chgA c1) none, .v (.int .i64 0)]) :=
    ⟨_, (Rmake (newL 1).1 (0, 1) ⟨#[102]⟩ ⟨0, 1, 420, 0, 0, 0, ⟨#[]⟩, []⟩ new_valid1 (by decide) (by decide)).mono fun r hr => by rw [hr]; unfold chgR; rw [aw7_make.1]; rfl⟩
  obtain ⟨c2, hmk2⟩ : ∃ c2, AFn Try.prog 19 [.agg (flsA aw7F1), .agg [.v (.int .i64 0), .v (.int .i64 1)], .v (.string ⟨#[108]⟩), .agg (nodA ⟨0, 3, 511, 0, 0, 0, ⟨#[102]⟩, []⟩)] (fun r => r = .tup [.agg (flsA aw7F2), .sl 7 (List.map chgA c2) none, .v (.int .i64 0)]) :=
    ⟨_, (Rmake aw7F1 (0, 1) ⟨#[108]⟩ ⟨0, 3, 511, 0, 0, 0, ⟨#[102]⟩, []⟩ aw7_valid.1 (by decide) (by decide)).mono fun r hr => by rw [hr]; unfold chgR; rw [aw7_make.2]; rfl⟩
  obtain ⟨⟨d1, n1, ⟨f1, g1⟩, e1, s1, p1⟩, hx1⟩ : ∃ x : Fnd, (findL ⟨aw7F2, []⟩ (0, 1) ⟨#[47, 108]⟩ true).1 = x := ⟨_, rfl⟩
  obtain ⟨⟨d2, n2, ⟨f2, g2⟩, e2, s2, p2⟩, hx2⟩ : ∃ x : Fnd, (findL ⟨aw7F2, []⟩ (0, 1) ⟨#[47, 108]⟩ false).1 = x := ⟨_, rfl⟩
  obtain ⟨y1, y2, y3⟩ := aw7_yes
  obtain ⟨z1, z2, z3⟩ := aw7_no
  rw [hx1] at y2 y3
  rw [hx2] at z2 z3
  simp only at y2 y3 z2 z3
  subst y2 y3 z2 z3
  have hf1 : AFn Try.prog 11 [.agg (spcA ⟨aw7F2, []⟩), .agg [.v (.int .i64 0), .v (.int .i64 1)], .v (.string ⟨#[47, 108]⟩), .v (.bool true)] (fun r => r = .tup [.agg (fndA ⟨d1, n1, (f1, 2), e1, s1, ⟨#[47, 102]⟩⟩), .v (.int .i64 0)]) :=
    (Pfind7 ⟨aw7F2, []⟩ (0, 1) ⟨#[47, 108]⟩ true (aw7_spc.n (by decide)) aw7_spc (by decide)).mono fun r hr => by rw [hr, hx1, y1]
  have hf2 : AFn Try.prog 11 [.agg (spcA ⟨aw7F2, []⟩), .agg [.v (.int .i64 0), .v (.int .i64 1)], .v (.string ⟨#[47, 108]⟩), .v (.bool false)] (fun r => r = .tup [.agg (fndA ⟨d2, n2, (f2, 3), e2, s2, ⟨#[47, 108]⟩⟩), .v (.int .i64 0)]) :=
    (Pfind7 ⟨aw7F2, []⟩ (0, 1) ⟨#[47, 108]⟩ false (aw7_spc.n (by decide)) aw7_spc (by decide)).mono fun r hr => by rw [hr, hx2, z1]
  clear hx1 hx2 y1 z1
  refine enter Try.func16 rfl rfl rfl rfl rfl 0 rfl ?_
  refine w_ (a_ (h:=e_ (w_ (?_))))
  refine al_p rfl (q_call (hnew) ?_)
  rintro r rfl
  refine m_ (h:=x_ (h:=x_ (h:=al_ (h:=s_ (h:=a_ (h:=e_ (w_ (bd_ (h:=al_ (h:=s_ (h:=e_ (w_ (l_ (h:=l_ (h:=?_)))))))))))))))
  refine al_p rfl (st_le (y := .agg (nodA ⟨0, 1, 420, 0, 0, 0, ⟨#[]⟩, []⟩)) (st_build (by repeat (first | exact FillA.nil _ | (apply FillA.cons; (focus exact rfl); (focus exact rfl); (focus exact rfl); (focus exact rfl); (focus exact rfl); (focus (repeat constructor))))) ⟨rfl, rfl⟩) (by repeat (first | exact LeA.refl _ | exact LeA.nil _ | exact LeL.refl _ | refine LeA.agg ?_ | refine LeA.tup ?_ | exact LeL.nil | refine LeL.cons ?_ ?_ | exact LeA.any _)) ?_)
  refine al_p rfl (q_call (hmk1) ?_)
  rintro r rfl
  refine m_ (h:=x_ (h:=x_ (h:=x_ (h:=s_ (h:=e_ (w_ (l_ (h:=l_ (h:=?_)))))))))
  refine al_p rfl (st_le (y := .agg (nodA ⟨0, 3, 511, 0, 0, 0, ⟨#[102]⟩, []⟩)) (st_build (by repeat (first | exact FillA.nil _ | (apply FillA.cons; (focus exact rfl); (focus exact rfl); (focus exact rfl); (focus exact rfl); (focus exact rfl); (focus (repeat constructor))))) ⟨rfl, rfl⟩) (by repeat (first | exact LeA.refl _ | exact LeA.nil _ | exact LeL.refl _ | refine LeA.agg ?_ | refine LeA.tup ?_ | exact LeL.nil | refine LeL.cons ?_ ?_ | exact LeA.any _)) ?_)
  refine al_p rfl (q_call (hmk2) ?_)
  rintro r rfl
  refine m_ (h:=x_ (h:=x_ (h:=x_ (h:=s_ (h:=e_ (w_ (l_ (h:=?_))))))))
  refine al_p rfl (st_le (y := .agg (spcA ⟨aw7F2, []⟩)) (st_build (by repeat (first | exact FillA.nil _ | (apply FillA.cons; (focus exact rfl); (focus exact rfl); (focus exact rfl); (focus exact rfl); (focus exact rfl); (focus (repeat constructor))))) ⟨rfl, rfl⟩) aw7_le ?_)
  refine l_ (h:=?_)
  refine al_p rfl (q_call (hf1) ?_)
  rintro r rfl
  refine m_ (h:=x_ (h:=x_ (h:=al_ (h:=s_ (h:=a_ (h:=e_ (w_ (l_ (h:=?_)))))))))
  refine al_p rfl (st_le (y := .agg (spcA ⟨aw7F2, []⟩)) (st_build (by repeat (first | exact FillA.nil _ | (apply FillA.cons; (focus exact rfl); (focus exact rfl); (focus exact rfl); (focus exact rfl); (focus exact rfl); (focus (repeat constructor))))) ⟨rfl, rfl⟩) aw7_le ?_)
  refine l_ (h:=?_)
  refine al_p rfl (q_call (hf2) ?_)
  rintro r rfl
  refine m_ (h:=x_ (h:=x_ (h:=al_ (h:=s_ (h:=a_ (h:=e_ (w_ (m_ (h:=eq_ (h:=m_ (h:=?_)))))))))))
  refine al_gs true rfl rfl (fun hb1 => ?_) (fun hb1 => ?_)
  · have hc1 := bp hb1
    refine m_ (h:=eq_ (h:=pt_ (h:=m_ (h:=?_))))
    refine al_gs true rfl rfl (fun hb2 => ?_) (fun hb2 => ?_)
    · have hc2 := bp hb2
      refine f_ (h:=l_ (h:=eq_ (h:=pt_ (h:=m_ (h:=?_)))))
      refine al_gs true rfl rfl (fun hb3 => ?_) (fun hb3 => ?_)
      · have hc3 := bp hb3
        refine f_ (h:=l_ (h:=eq_ (h:=pt_ (h:=m_ (h:=?_)))))
        refine al_gs true rfl rfl (fun hb4 => ?_) (fun hb4 => ?_)
        · have hc4 := bp hb4
          refine f_ (h:=f_ (h:=l_ (h:=eq_ (h:=pt_ (h:=m_ (h:=?_))))))
          refine al_gs true rfl rfl (fun hb5 => ?_) (fun hb5 => ?_)
          · have hc5 := bp hb5
            refine f_ (h:=f_ (h:=l_ (h:=eq_ (h:=pt_ (h:=a_ (h:=e_ (aw_ret (?_))))))))
            refine e_ret ?_
            first | rfl | (exfalso; simp_all)
          · have hc5 := bp hb5
            refine g0_ (h:=g0_ (h:=g0_ (h:=g0_ (h:=pf_ (h:=a_ (h:=e_ (aw_ret (?_))))))))
            refine e_ret ?_
            first | rfl | (exfalso; simp_all)
        · have hc4 := bp hb4
          refine g0_ (h:=g0_ (h:=g0_ (h:=g0_ (h:=pf_ (h:=m_ (h:=g0_ (h:=g0_ (h:=g0_ (h:=g0_ (h:=pf_ (h:=a_ (h:=e_ (aw_ret (?_))))))))))))))
          refine e_ret ?_
          first | rfl | (exfalso; simp_all)
      · have hc3 := bp hb3
        refine g0_ (h:=g0_ (h:=g0_ (h:=pf_ (h:=m_ (h:=g0_ (h:=g0_ (h:=g0_ (h:=g0_ (h:=pf_ (h:=m_ (h:=g0_ (h:=g0_ (h:=g0_ (h:=g0_ (h:=pf_ (h:=a_ (h:=e_ (aw_ret (?_)))))))))))))))))))
        refine e_ret ?_
        first | rfl | (exfalso; simp_all)
    · have hc2 := bp hb2
      refine g0_ (h:=g0_ (h:=g0_ (h:=pf_ (h:=m_ (h:=g0_ (h:=g0_ (h:=g0_ (h:=pf_ (h:=m_ (h:=g0_ (h:=g0_ (h:=g0_ (h:=g0_ (h:=pf_ (h:=m_ (h:=g0_ (h:=g0_ (h:=g0_ (h:=g0_ (h:=pf_ (h:=a_ (h:=e_ (aw_ret (?_))))))))))))))))))))))))
      refine e_ret ?_
      first | rfl | (exfalso; simp_all)
  · have hc1 := bp hb1
    refine g0_ (h:=g0_ (h:=pf_ (h:=m_ (h:=g0_ (h:=g0_ (h:=g0_ (h:=pf_ (h:=m_ (h:=g0_ (h:=g0_ (h:=g0_ (h:=pf_ (h:=m_ (h:=g0_ (h:=g0_ (h:=g0_ (h:=g0_ (h:=pf_ (h:=m_ (h:=g0_ (h:=g0_ (h:=g0_ (h:=g0_ (h:=?_))))))))))))))))))))))))
    refine pf_ (h:=a_ (h:=e_ (aw_ret (?_))))
    refine e_ret ?_
    first | rfl | (exfalso; simp_all)

end
end Go.Proofs.Ytaidkbnbfnaihaa
namespace Go.Proofs.Ytaidkbnbfnaihaa
open Go.RowKit

def fndV (x : Fnd) : List Value := [.int .i64 x.dir.1, .int .i64 x.dir.2, .string x.name, .int .i64 x.file.1, .int .i64 x.file.2, .bool x.ex, .bool x.slash, .string x.path]
set_option maxRecDepth 10000 in
set_option maxHeartbeats 1000000 in
theorem eqFnd (x : Fnd) (w : World) : (binOp .eql 35 (.agg (fndV x).toArray) (.agg (fndV x).toArray)).run Try.prog w = .ok (.bool true) w := by
  have u3 := Try.underlying3
  have a3 := Try.isAgg3
  have z3 := Try.sizeOf3
  have u4 := Try.underlying4
  have a4 := Try.isAgg4
  have z4 := Try.sizeOf4
  have u9 := Try.underlying9
  have a9 := Try.isAgg9
  have z9 := Try.sizeOf9
  have u5 := Try.underlying33
  have a5 := Try.isAgg33
  have z5 := Try.sizeOf33
  have hS : Try.prog.underlying 35 = some (.struct (Try.prog.fieldsOf 35)) := by kernel_rfl
  have hp : Try.prog.stoodInHeld 35 = false := by kernel_rfl
  have hSF : Try.prog.underlying 33 = some (.struct (Try.prog.fieldsOf 33)) := by kernel_rfl
  have hpF : Try.prog.stoodInHeld 33 = false := by kernel_rfl
  have eF : ∀ (d : Nat) (a b : Int) (w : World), (Op.equalIn (d + 2) 33 (.agg #[.int .i64 a, .int .i64 b]) (.agg #[.int .i64 a, .int .i64 b])).run Try.prog w = .ok true w := by
    intro d a b w
    rw [run_equalIn_agg w (d + 1) 33 _ _ hSF hpF]
    simp only [Program.fieldsOf, Try.underlying33]
    go_simp
  have e : ∀ w, (Op.equalIn 10000 35 (.agg (fndV x).toArray) (.agg (fndV x).toArray)).run Try.prog w = .ok true w := by
    intro w
    rw [show (10000 : Nat) = 9999 + 1 from rfl, run_equalIn_agg w 9999 35 _ _ hS hp]
    simp only [Program.fieldsOf, Try.underlying35, fndV]
    go_simp
  rw [run_eql_struct, e]
  rfl
theorem allV_fnd (x : Fnd) : AllV (fndA x) (fndV x) := by repeat constructor
theorem st_eqF {ev : Operand → Option AV} {h : AH} {R : AV → AH → Prop} {d : Option Tmp} {ty : TypeId} {pos : String} {af : Array Edge} {gd : Option (Nat × Bool)} {yT : TypeId} {x y : Operand} (z : Fnd) (hx : ev x = some (.agg (fndA z))) (hy : ev y = some (.agg (fndA z))) (hR : R (.v (.bool true)) h) : AStep Try.prog ⟨d, .binOp .eql 35 x y yT, ty, pos, af, gd⟩ ev h R :=
  st_binA hx hy (allV_fnd z) (allV_fnd z) (fun w => eqFnd z w) (by kernel_rfl) hR
end Go.Proofs.Ytaidkbnbfnaihaa
namespace Go.Proofs.Ytaidkbnbfnaihaa

def seps : List Str := [⟨#[47]⟩, ⟨#[47, 46, 47]⟩, ⟨#[47, 47]⟩, ⟨#[47, 46, 47, 46, 47, 47]⟩]
def qst (ab : Bool) : Str := if ab = true then ⟨#[47, 47, 46, 47]⟩ else ⟨#[]⟩
theorem Dots.app {ps qs : List Str} (h : Dots ps qs) {ps' qs' : List Str} (h' : Dots ps' qs') (hne : ps' ≠ []) : Dots (ps ++ ps') (qs ++ qs') := by
  induction h with
  | nil => exact h'
  | same _ ih => exact .same ih
  | dot _ hn ih => exact .dot ih (fun e => hn (List.append_eq_nil_iff.1 e).1)
theorem bsL_app (a b : List Str) : bsL (a ++ b) = bsL a ++ bsL b := by unfold bsL; rw [List.map_append]
structure Pce (p : Str) : Prop where
  free : (47 : UInt8) ∉ p.data.toList
  ne : p.data.toList ≠ []
theorem pce_of {s p : Str} (h : p ∈ splS s) : Pce p := by
  have hm : p.data.toList ∈ pieces s.data.toList := by
    rw [← bls_splS]
    exact List.mem_map.2 ⟨p, h, rfl⟩
  exact ⟨pieces_free hm, pieces_ne hm⟩
theorem Pce.one {p : Str} (h : Pce p) : pieces p.data.toList = [p.data.toList] := by
  rw [pieces_none h.free]
  unfold one_
  rw [if_neg h.ne]
theorem pieces_dot (t : Bs) : pieces (46 :: 47 :: t) = [46] :: pieces t := by
  simp [pieces, segs, ne_]
theorem pieces_sl (t : Bs) : pieces (47 :: t) = pieces t := by
  have := pieces_app [] t
  rw [pieces_nil] at this
  simpa using this
theorem spl_st {p : Str} (h : Pce p) (ab : Bool) : splS (qst ab ++ p) = (if ab = true then [dot1] else []) ++ [p] := by
  refine (splS_of ?_).symm
  cases ab with
  | true =>
    have e : (qst true ++ p).data.toList = 47 :: 47 :: 46 :: 47 :: p.data.toList := by simp [qst]
    rw [e, pieces_sl, pieces_sl, pieces_dot, h.one]
    rfl
  | false =>
    have e : (qst false ++ p).data.toList = p.data.toList := by simp [qst]
    rw [e, h.one]
    rfl
theorem spl_sep {q p : Str} (h : Pce p) {x : Str} (hx : x ∈ seps) : ∃ M, (∀ m ∈ M, m = dot1) ∧ splS (q ++ x ++ p) = splS q ++ (M ++ [p]) := by
  simp only [seps, List.mem_cons, List.not_mem_nil, or_false] at hx
  have key : ∀ (M : List Str) (t : Bs), (q ++ x ++ p).data.toList = q.data.toList ++ 47 :: t → pieces t = bsL M ++ [p.data.toList] → splS (q ++ x ++ p) = splS q ++ (M ++ [p]) := by
    intro M t e1 e2
    refine (splS_of ?_).symm
    rw [bsL_app, bls_splS, bsL_app, e1, pieces_app, e2]
    rfl
  rcases hx with rfl | rfl | rfl | rfl
  · exact ⟨[], by simp, key [] p.data.toList (by simp) (by rw [h.one]; rfl)⟩
  · exact ⟨[dot1], by simp, key [dot1] (46 :: 47 :: p.data.toList) (by simp) (by rw [pieces_dot, h.one]; rfl)⟩
  · exact ⟨[], by simp, key [] (47 :: p.data.toList) (by simp) (by rw [pieces_sl, h.one]; rfl)⟩
  · exact ⟨[dot1, dot1], by simp, key [dot1, dot1] (46 :: 47 :: 46 :: 47 :: 47 :: p.data.toList) (by simp) (by rw [pieces_dot, pieces_dot, pieces_sl, h.one]; rfl)⟩
theorem dots_one {M : List Str} (hM : ∀ m ∈ M, m = dot1) (p : Str) : Dots [p] (M ++ [p]) := by
  induction M with
  | nil => exact .same .nil
  | cons m M ih =>
    rw [hM m (List.mem_cons_self ..)]
    exact .dot (ih fun m h => hM m (List.mem_cons_of_mem _ h)) (by simp)
structure DotQ (ab : Bool) (P : List Str) (i : Nat) (q : Str) : Prop where
  d : Dots (P.take i) (splS q)
  hd : hdL q = ab
  ls : lsL q = false
  ne : 0 < q.size
theorem ls_free {q p : Str} (h : Pce p) : lsL (q ++ p) = false := by
  unfold lsL
  refine decide_eq_false fun e => ?_
  rw [show (q ++ p).data.toList = q.data.toList ++ p.data.toList by simp, List.getLast?_append] at e
  cases hl : p.data.toList.getLast? with
  | none => exact h.ne (List.getLast?_eq_none_iff.1 hl)
  | some c =>
    rw [hl] at e
    injection e with e
    subst e
    exact h.free (List.mem_of_getLast? hl)
theorem hd_app {q p : Str} (h : 0 < q.size) : hdL (q ++ p) = hdL q := by
  unfold hdL
  rw [show (q ++ p).data.toList = q.data.toList ++ p.data.toList by simp, List.head?_append]
  cases hq : q.data.toList with
  | nil => rw [Lib.size_eq, hq] at h; exact absurd h (by simp)
  | cons c t => rfl
theorem dq_one {ab : Bool} {P : List Str} {p : Str} (h : Pce p) (hp : P[0]? = some p) : DotQ ab P 1 (qst ab ++ p) := by
  refine ⟨?_, ?_, ls_free h, ?_⟩
  · rw [spl_st h, List.take_add_one, hp]
    exact dots_one (M := if ab = true then [dot1] else []) (fun m hm => by cases ab <;> simp at hm; exact hm) p
  · cases ab with
    | true => rfl
    | false =>
      unfold hdL
      refine decide_eq_false fun e => ?_
      rw [show (qst false ++ p).data.toList = p.data.toList by simp [qst]] at e
      exact h.free (List.mem_of_head? e)
  · rw [ByteArray.size_append]
    have : 0 < p.size := by rw [Lib.size_eq]; exact List.length_pos_iff.2 h.ne
    omega
theorem dq_step {ab : Bool} {P : List Str} {i : Nat} {q p x : Str} (h : DotQ ab P i q) (hP : Pce p) (hp : P[i]? = some p) (hx : x ∈ seps) : DotQ ab P (i + 1) (q ++ x ++ p) := by
  obtain ⟨M, h1, h2⟩ := spl_sep (q := q) hP hx
  have hs : 0 < (q ++ x).size := by rw [ByteArray.size_append]; have := h.ne; omega
  refine ⟨?_, by rw [hd_app hs, hd_app h.ne]; exact h.hd, ls_free hP, by rw [ByteArray.size_append]; omega⟩
  rw [h2, List.take_add_one, hp]
  exact h.d.app (dots_one h1 p) (by simp)
theorem dq_end {P : List Str} {p q : Str} (hP : P = splS p) (h : DotQ (hdL p) P P.length q) : Dots (splS p) (splS (if lsL p = true then q ++ ⟨#[47, 47]⟩ else q)) ∧ hdL (if lsL p = true then q ++ ⟨#[47, 47]⟩ else q) = hdL p ∧ lsL (if lsL p = true then q ++ ⟨#[47, 47]⟩ else q) = lsL p ∧ (if lsL p = true then q ++ ⟨#[47, 47]⟩ else q) ≠ ⟨#[]⟩ := by
  subst hP
  have hd := h.d
  rw [List.take_length] at hd
  have ne : ∀ r : Str, q ++ r ≠ ⟨#[]⟩ := fun r e => by
    have k := h.ne
    have := congrArg ByteArray.size e
    rw [ByteArray.size_append] at this
    have z : (⟨#[]⟩ : Str).size = 0 := rfl
    omega
  cases hl : lsL p with
  | false =>
    simp only [Bool.false_eq_true, if_false]
    exact ⟨hd, h.hd, h.ls, fun e => ne ⟨#[]⟩ (by rw [e]; rfl)⟩
  | true =>
    simp only [if_true]
    refine ⟨?_, by rw [hd_app h.ne]; exact h.hd, ?_, ne _⟩
    · have : splS (q ++ ⟨#[47, 47]⟩) = splS q := by
        refine (splS_of ?_).symm
        rw [bls_splS, show (q ++ (⟨#[47, 47]⟩ : Str)).data.toList = q.data.toList ++ 47 :: [47] by simp, pieces_app, pieces_sl, pieces_nil, List.append_nil]
      rw [this]
      exact hd
    · unfold lsL
      rw [show (q ++ (⟨#[47, 47]⟩ : Str)).data.toList = q.data.toList ++ [47, 47] by simp, List.getLast?_append]
      rfl
theorem sep_at {m : Nat} (h : m < 4) : ∃ x : Str, x ∈ seps ∧ x.size ≤ 6 ∧ (seps.map strA)[m]? = some (strA x) := by
  match m, h with
  | 0, _ => exact ⟨_, by simp [seps], by decide, rfl⟩
  | 1, _ => exact ⟨⟨#[47, 46, 47]⟩, by simp [seps], by decide, rfl⟩
  | 2, _ => exact ⟨⟨#[47, 47]⟩, by simp [seps], by decide, rfl⟩
  | 3, _ => exact ⟨⟨#[47, 46, 47, 46, 47, 47]⟩, by simp [seps], by decide, rfl⟩
theorem spl_ne {p : Str} (h : 0 < (splS p).length) : p ≠ ⟨#[]⟩ := fun e => by
  subst e
  exact absurd h (by decide)
theorem qst_size (ab : Bool) : (qst ab).size ≤ 4 := by cases ab <;> decide
end Go.Proofs.Ytaidkbnbfnaihaa
namespace Go.Proofs.Ytaidkbnbfnaihaa
open Go.RowKit

section
set_option maxRecDepth 10000
set_option maxHeartbeats 2000000
theorem Ldots7 (l : List Int) : AFn Try.prog 8 [.sl 1 (l.map intA) none] (fun r => r = .v (.bool true)) := by
  refine enter Try.func8 rfl rfl rfl rfl rfl 0 rfl ?_
  refine w_ (a_ (h:=e_ (w_ (m_ (h:=?_)))))
  refine al_p rfl (s_callN rfl (by repeat (first | exact Args.nil | refine Args.cons _ _ _ _ _ rfl (argOk_clean rfl) ?_ | refine Args.cons _ _ _ _ _ rfl (argOk_nil _) ?_ | refine Args.cons _ _ _ _ _ rfl (argOk_era _) ?_ | refine Args.cons _ _ _ _ _ rfl (argOk_le rfl (by repeat (first | exact LeA.refl _ | exact LeA.nil _ | exact LeL.refl _ | refine LeA.agg ?_ | refine LeA.tup ?_ | exact LeL.nil | refine LeL.cons ?_ ?_ | exact LeA.any _))) ?_)) rfl (Gnew l) (by repeat constructor) ?_)
  skip
  refine a_ (h:=e_ (w_ (m_ (h:=?_))))
  refine al_p rfl (s_gen 0 (hc := Gspace l _ (by omega)) (hR := ?_))
  rintro r a1 ha1 ⟨s, rfl, hv, hm⟩
  refine ⟨rfl, _, (by repeat constructor), ?_⟩
  have hsb := hv.b (show s.mounts.length ≤ 1000 by omega)
  have hsn := hv.n (show s.mounts.length ≤ 1000 by omega)
  refine al_ (h:=s_ (h:=e_ (?_)))
  refine aw_midI (fun t => ∃ (b : Nat) (p : Str) (st : Fil) (fl : Bool), b ≤ a1 + 100 ∧ p.size ≤ 58 ∧ t = ⟨look [(3, .bp 0 0), (4, .bp 1 0), (5, .v (.string p)), (6, .bp 2 0), (7, .v (.bool fl))], ⟨[srcA l b, spcA s, filA st], []⟩⟩) ?_ ?_
  · skip
    refine yk_ ([(1, spcA s)]) 13 (h:=dm_ 0 (h:=dm_ 2 (h:=df_ 3 (h:=?_))))
    first | refine dl_ 4 (h:=?_) | refine tk_ 4 rfl (fun _ hS => st_loadBE (row := spcA s) rfl (kb hS rfl) (Nat.le_of_ble_eq_true rfl) rfl ⟨rfl, rfl⟩) ?_
    refine dm_ 6 (h:=?_)
    refine c2_ 1 9 rfl rfl ?_ ?_
    · refine s_gen 0 (hc := Gpath l _ (by omega)) (hR := ?_)
      rintro r a2 ha2 ⟨p, rfl, hp⟩
      refine ⟨rfl, _, (by repeat constructor), ?_⟩
      refine o_ (h:=?_)
      refine c2_ 5 9 rfl rfl ?_ ?_
      · refine s_gen 0 (hc := Gfile l _ s.files (by omega) hv.files.b hv.files.ne) (hR := ?_)
        rintro r a3 ha3 ⟨x3, rfl⟩
        refine ⟨rfl, _, (by repeat constructor), ?_⟩
        refine o_ (h:=?_)
        refine c2_ 7 9 rfl rfl ?_ ?_
        · refine s_gen 0 (hc := Gn l _ (2) (by omega) (by omega)) (hR := ?_)
          rintro r a4 ha4 ⟨k4, rfl, p4, q4, o4⟩
          refine ⟨rfl, _, (by repeat constructor), ?_⟩
          refine o_ (h:=?_)
          refine deq_ 8 (h:=?_)
          refine c_ 9 rfl (s_alloc (by repeat constructor) ?_)
          refine o_ (h:=da_ 10 (h:=?_))
          refine c0_ 11 rfl (s_store rfl rfl rfl rfl rfl rfl (by repeat constructor) (by repeat constructor) ?_)
          refine o_ (h:=da_ 12 (h:=z_ (h:=?_)))
          refine x_then ?_
          refine ⟨_, ⟨_, _, _, _, ?_, hp, rfl⟩, (wk 3 0)⟩
          omega
        · refine s_alloc (by repeat constructor) ?_
          refine o_ (h:=?_)
          refine c_ 7 rfl (s_gen 0 (hc := Gn l _ (2) (by omega) (by omega)) (hR := ?_))
          rintro r a5 ha5 ⟨k5, rfl, p5, q5, o5⟩
          refine ⟨rfl, _, (by repeat constructor), ?_⟩
          refine o_ (h:=deq_ 8 (h:=da_ 10 (h:=?_)))
          refine c0_ 11 rfl (s_store rfl rfl rfl rfl rfl rfl (by repeat constructor) (by repeat constructor) ?_)
          refine o_ (h:=da_ 12 (h:=z_ (h:=?_)))
          refine x_then ?_
          refine ⟨_, ⟨_, _, _, _, ?_, hp, rfl⟩, (wk 3 0)⟩
          omega
      · refine s_alloc (by repeat constructor) ?_
        refine o_ (h:=?_)
        refine c_ 5 rfl (s_gen 0 (hc := Gfile l _ s.files (by omega) hv.files.b hv.files.ne) (hR := ?_))
        rintro r a6 ha6 ⟨x6, rfl⟩
        refine ⟨rfl, _, (by repeat constructor), ?_⟩
        refine o_ (h:=?_)
        refine c_ 7 rfl (s_gen 0 (hc := Gn l _ (2) (by omega) (by omega)) (hR := ?_))
        rintro r a7 ha7 ⟨k7, rfl, p7, q7, o7⟩
        refine ⟨rfl, _, (by repeat constructor), ?_⟩
        refine o_ (h:=deq_ 8 (h:=da_ 10 (h:=?_)))
        refine c0_ 11 rfl (s_store rfl rfl rfl rfl rfl rfl (by repeat constructor) (by repeat constructor) ?_)
        refine o_ (h:=da_ 12 (h:=z_ (h:=?_)))
        refine x_then ?_
        refine ⟨_, ⟨_, _, _, _, ?_, hp, rfl⟩, (wk 3 0)⟩
        omega
    · refine s_alloc (by repeat constructor) ?_
      refine o_ (h:=?_)
      refine c_ 1 rfl (s_gen 0 (hc := Gpath l _ (by omega)) (hR := ?_))
      rintro r a8 ha8 ⟨p, rfl, hp⟩
      refine ⟨rfl, _, (by repeat constructor), ?_⟩
      refine o_ (h:=?_)
      refine c_ 5 rfl (s_gen 0 (hc := Gfile l _ s.files (by omega) hv.files.b hv.files.ne) (hR := ?_))
      rintro r a9 ha9 ⟨x9, rfl⟩
      refine ⟨rfl, _, (by repeat constructor), ?_⟩
      refine o_ (h:=?_)
      refine c_ 7 rfl (s_gen 0 (hc := Gn l _ (2) (by omega) (by omega)) (hR := ?_))
      rintro r a10 ha10 ⟨k10, rfl, p10, q10, o10⟩
      refine ⟨rfl, _, (by repeat constructor), ?_⟩
      refine o_ (h:=deq_ 8 (h:=da_ 10 (h:=?_)))
      refine c0_ 11 rfl (s_store rfl rfl rfl rfl rfl rfl (by repeat constructor) (by repeat constructor) ?_)
      refine o_ (h:=da_ 12 (h:=z_ (h:=?_)))
      refine x_then ?_
      refine ⟨_, ⟨_, _, _, _, ?_, hp, rfl⟩, (wk 3 0)⟩
      omega
  · rintro t ⟨b, p, st, fl, hb, hp, rfl⟩
    refine w_ (m_ (h:=?_))
    refine al_p rfl (q_call (Rsplit p (by omega)) ?_)
    rintro r ⟨ps, hps, rfl⟩
    obtain rfl := splS_of hps
    have hml : ((splS p).map strA).length = (splS p).length := by simp
    have hpl := splS_len p
    refine m_ (h:=x_ (h:=x_ (h:=x_ (h:=a_ (h:=a_ (h:=a_ (h:=e_ (q_ (w_ (m_ (h:=n_ (h:=eq_ (h:=e_ (?_))))))))))))))
    refine aw_cond rfl (fun hb1 => ?_) (fun hb1 => ?_)
    · have hc1 := bp hb1
      refine w_ (?_)
      refine al_p rfl (q_call (Lawake7) ?_)
      rintro r rfl
      refine a_ (h:=e_ (aw_ret (x_thenR (?_))))
      refine e_ret ?_
      first | rfl | (exfalso; first | contradiction | omega | (simp_all; done))
    · have hc1 := bp hb1
      refine kt_ (w_ (a_ (h:=e_ (?_))))
      refine aw_midI (fun t => t = ⟨look [(3, .bp 0 0), (4, .bp 1 0), (5, .v (.string p)), (6, .bp 2 0), (7, .v (.bool fl)), (8, .sl 1 ((splS p).map strA) none), (10, .v (.bool (lsL p))), (11, .v (.string (qst (hdL p))))], ⟨[srcA l b, spcA s, filA st], []⟩⟩) ?_ ?_
      · skip
        refine w_ (m_ (h:=e_ (?_)))
        refine aw_cond rfl (fun hb2 => ?_) (fun hb2 => ?_)
        · have hc2 := bp hb2
          refine aw_region (a_ (h:=al_nil (?_)))
          refine x_then ?_
          (rw [hc2]; exact ⟨_, rfl, (wk 3 0)⟩)
        · have hc2 := bp hb2
          refine aw_skip (?_)
          refine x_then ?_
          (rw [hc2]; exact ⟨_, rfl, (wk 3 0)⟩)
      · rintro t rfl
        refine q_ (w_ (a_ (h:=e_ (aw_block (?_)))))
        refine aw_loopW (fun n t => ∃ (i : Nat) (q : Str) (a : Nat), i ≤ (splS p).length ∧ n = (splS p).length - i ∧ ((i = 0 ∧ q = qst (hdL p)) ∨ (0 < i ∧ DotQ (hdL p) (splS p) i q)) ∧ q.size ≤ 4 + i * 70 ∧ a ≤ b + i ∧ t = ⟨look [(3, .bp 0 0), (4, .bp 1 0), (5, .v (.string p)), (6, .bp 2 0), (7, .v (.bool fl)), (8, .sl 1 ((splS p).map strA) none), (10, .v (.bool (lsL p))), (11, .v (.string q)), (12, .v (.int .i64 (i : Int)))], ⟨[srcA l a, spcA s, filA st], []⟩⟩) ((splS p).length) ((wk 3 0)) (⟨0, _, _, by omega, rfl, .inl ⟨rfl, rfl⟩, by have := qst_size (hdL p); omega, by omega, rfl⟩) ?_
        rintro n t ⟨i, q, a, hi, rfl, hI, hqs, ha, rfl⟩
        refine q_ (w_ (m_ (h:=m_ (h:=n_ (h:=lt_ (h:=e_ (?_)))))))
        refine aw_cond rfl (fun hb3 => ?_) (fun hb3 => ?_)
        · have hc3 := bp hb3
          obtain ⟨hlt, y, hy, hrow, -⟩ := row_at (l := splS p) strA hc3
          have hpy := pce_of (List.mem_of_getElem? hy)
          have hys := piece_mem (bls_splS p) hy
          refine kt_ (q_ (aw_block (q_ (w_ (m_ (h:=gt_ (h:=e_ (?_))))))))
          refine aw_cond rfl (fun hb4 => ?_) (fun hb4 => ?_)
          · have hc4 := bp hb4
            refine aw_region (m_ (h:=bs_ (h:=m_ (h:=?_))))
            refine al_p rfl (s_gen 0 (hc := Gn l _ (4) (by omega) (by omega)) (hR := ?_))
            rintro r a11 ha11 ⟨k11, rfl, p11, q11, o11⟩
            refine ⟨rfl, _, (by repeat constructor), ?_⟩
            obtain ⟨m, rfl⟩ := Int.eq_ofNat_of_zero_le p11
            obtain ⟨x, hx, hx6, hsx⟩ := sep_at (m := m) (by have := q11 (by omega); omega)
            refine al_p rfl (st_index (n := m) rfl rfl rfl hsx ?_)
            refine l_ (h:=?_)
            refine al_p rfl (st_addS rfl rfl (by omega) ?_)
            refine a_ (h:=e_ (aw_region (m_ (h:=m_ (h:=m_ (h:=?_))))))
            refine al_p rfl (st_index (n := i) rfl rfl rfl hrow ?_)
            refine l_ (h:=?_)
            refine al_p rfl (st_addS rfl rfl (by first | omega | (rw [ByteArray.size_append]; omega)) ?_)
            refine a_ (h:=al_nil (x_blockN (t_ (aw_region (m_ (h:=ad_ (h:=a_ (h:=al_nil (?_)))))))))
            refine x_then ?_
            first | (refine ⟨(splS p).length - (i + 1), _, ?_, ⟨i + 1, _, _, ?_, rfl, .inr ⟨?_, dq_step (hI.resolve_left (fun h => by omega)).2 hpy hy hx⟩, ?_, ?_, rfl⟩, (wk 3 0)⟩ <;> first | omega | (rw [ByteArray.size_append, ByteArray.size_append]; omega)) | (refine ⟨(splS p).length - (i + 1), _, ?_, ⟨i + 1, _, _, ?_, rfl, .inr ⟨?_, (by rw [hi0] at hy ⊢; exact dq_one hpy hy)⟩, ?_, ?_, rfl⟩, (wk 3 0)⟩ <;> first | omega | (rw [ByteArray.size_append]; omega))
          · have hc4 := bp hb4
            have hi0 : i = 0 := by omega
            have hq0 : q = qst (hdL p) := (hI.resolve_right (fun h => by omega)).2
            subst hq0
            refine kt_ (aw_region (m_ (h:=m_ (h:=m_ (h:=?_)))))
            refine al_p rfl (st_index (n := i) rfl rfl rfl hrow ?_)
            refine l_ (h:=?_)
            refine al_p rfl (st_addS rfl rfl (by first | omega | (rw [ByteArray.size_append]; omega)) ?_)
            refine a_ (h:=al_nil (x_blockN (t_ (aw_region (m_ (h:=ad_ (h:=a_ (h:=al_nil (?_)))))))))
            refine x_then ?_
            first | (refine ⟨(splS p).length - (i + 1), _, ?_, ⟨i + 1, _, _, ?_, rfl, .inr ⟨?_, dq_step (hI.resolve_left (fun h => by omega)).2 hpy hy hx⟩, ?_, ?_, rfl⟩, (wk 3 0)⟩ <;> first | omega | (rw [ByteArray.size_append, ByteArray.size_append]; omega)) | (refine ⟨(splS p).length - (i + 1), _, ?_, ⟨i + 1, _, _, ?_, rfl, .inr ⟨?_, (by rw [hi0] at hy ⊢; exact dq_one hpy hy)⟩, ?_, ?_, rfl⟩, (wk 3 0)⟩ <;> first | omega | (rw [ByteArray.size_append]; omega))
        · have hc3 := bp hb3
          have e3 : i = (splS p).length := by omega
          have hdq : DotQ (hdL p) (splS p) (splS p).length q := by
            rcases hI with ⟨h0, _⟩ | ⟨_, h⟩
            · omega
            · rw [← e3]; exact h
          have hQ := dq_end rfl hdq
          refine aw_exit (x_thenE (x_thenE (ABlock_out (t_ (?_)))))
          refine aw_midI (fun t => ∃ Q : Str, Q.size ≤ 100000 ∧ Dots (splS p) (splS Q) ∧ hdL Q = hdL p ∧ lsL Q = lsL p ∧ Q ≠ ⟨#[]⟩ ∧ t = ⟨look [(4, .bp 0 0), (5, .v (.string p)), (6, .bp 1 0), (7, .v (.bool fl)), (11, .v (.string Q))], ⟨[spcA s, filA st], []⟩⟩) ?_ ?_
          · skip
            refine w_ (m_ (h:=e_ (?_)))
            refine aw_cond rfl (fun hb5 => ?_) (fun hb5 => ?_)
            · have hc5 := bp hb5
              rw [if_pos hc5] at hQ
              have hQs : (q ++ ⟨#[47, 47]⟩ : Str).size ≤ 100000 := by rw [ByteArray.size_append]; show q.size + 2 ≤ _; omega
              refine aw_region (m_ (h:=?_))
              refine al_p rfl (st_addS rfl rfl (by show q.size + 2 ≤ _; omega) ?_)
              refine a_ (h:=al_nil (?_))
              refine x_then ?_
              exact ⟨_, ⟨_, hQs, hQ.1, hQ.2.1, hQ.2.2.1, hQ.2.2.2, rfl⟩, wr_ [1, 2]⟩
            · have hc5 := bp hb5
              rw [if_neg (by simp [hc5])] at hQ
              have hQs : q.size ≤ 100000 := by omega
              refine aw_skip (?_)
              refine x_then ?_
              exact ⟨_, ⟨_, hQs, hQ.1, hQ.2.1, hQ.2.2.1, hQ.2.2.2, rfl⟩, wr_ [1, 2]⟩
          · rintro t ⟨Q, hQs, hQ1, hQ2, hQ3, hQ4, rfl⟩
            refine w_ (l_ (h:=l_ (h:=m_ (h:=m_ (h:=?_)))))
            refine al_p rfl (q_call (Pfind7 s st p fl hsn hv (by omega)) ?_)
            rintro r rfl
            refine m_ (h:=x_ (h:=x_ (h:=al_ (h:=s_ (h:=a_ (h:=e_ (w_ (l_ (h:=l_ (h:=m_ (h:=m_ (h:=?_))))))))))))
            refine al_p rfl (q_call (Pfind7 s st Q fl hsn hv (by omega)) ?_)
            rintro r rfl
            refine m_ (h:=x_ (h:=x_ (h:=al_ (h:=s_ (h:=a_ (h:=e_ (w_ (m_ (h:=n_ (h:=gt_ (h:=m_ (h:=?_))))))))))))
            refine al_gs false rfl rfl (fun hb6 => ?_) (fun hb6 => ?_)
            · have hc6 := bp hb6
              refine g0_ (h:=g0_ (h:=g0_ (h:=g0_ (h:=gu_ (h:=gu_ (h:=gu_ (h:=g0_ (h:=pt_ (h:=m_ (h:=?_))))))))))
              refine g_y (q_call (Lawake7) ?_)
              rintro r rfl
              refine pt_ (h:=a_ (h:=e_ (aw_ret (?_))))
              refine e_ret ?_
              first | rfl | (exfalso; first | contradiction | omega | (simp_all; done))
            · have hc6 := bp hb6
              have hdl := dots_law hv (spl_ne (by omega)) hQ4 (by omega) (by omega) hQ2 hQ3 hQ1 st fl
              rw [hdl]
              refine m_ (h:=m_ (h:=eq_ (h:=m_ (h:=?_))))
              refine al_gs true rfl rfl (fun hb7 => ?_) (fun hb7 => ?_)
              · have hc7 := bp hb7
                refine l_ (h:=l_ (h:=?_))
                refine g_y (st_eqF (findL s st p fl).1 rfl rfl ?_)
                refine pt_ (h:=pf_ (h:=m_ (h:=?_)))
                refine al_gs true rfl rfl (fun hb8 => ?_) (fun hb8 => ?_)
                · have hc8 := bp hb8
                  refine g_y (q_call (Lawake7) ?_)
                  rintro r rfl
                  refine pt_ (h:=a_ (h:=e_ (aw_ret (?_))))
                  refine e_ret ?_
                  first | rfl | (exfalso; first | contradiction | omega | (simp_all; done))
                · have hc8 := bp hb8
                  refine g0_ (h:=pf_ (h:=a_ (h:=e_ (aw_ret (?_)))))
                  refine e_ret ?_
                  first | rfl | (exfalso; first | contradiction | omega | (simp_all; done))
              · have hc7 := bp hb7
                refine g0_ (h:=g0_ (h:=g0_ (h:=pf_ (h:=pf_ (h:=m_ (h:=g0_ (h:=pf_ (h:=a_ (h:=e_ (aw_ret (?_)))))))))))
                refine e_ret ?_
                first | rfl | (exfalso; first | contradiction | omega | (simp_all; done))

end
end Go.Proofs.Ytaidkbnbfnaihaa
namespace Go.Proofs.Ytaidkbnbfnaihaa
open Go.RowKit
theorem LookupDots_walk {H : Type} {enc : TypeId × Value → H} {sp : Nat → Bool} {held : Bool} {base : Nat} (a : Option Addr) (n c : Nat) (w : World) {d : DataW H} {p : List MemPlace} (h : DataW.Trod enc Try.prog w base sp held 22 (.slice a n c) d p) :
    Calls Try.prog 8 #[.slice a n c] w fun e w' => e = .returned (.bool true) ∧ Below w.heap.size w w' := walk_ints Ldots7 a n c w h
end Go.Proofs.Ytaidkbnbfnaihaa
