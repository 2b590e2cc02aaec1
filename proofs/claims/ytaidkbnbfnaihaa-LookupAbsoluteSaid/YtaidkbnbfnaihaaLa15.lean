/-
  Part 15 of the proof of LookupAbsoluteP: what the statement's proof uses of the texts in wip/tpl.
-/
import Derived.Test.YtaidkbnbfnaihaaLa14
namespace Go.Proofs.Ytaidkbnbfnaihaa
open Go.RowKit

theorem root_is {s : Spc} (hv : SpcV s) : dirL s.files (rootD s) = true := (where_ok ((vis_iff hv _).1 (vis_down hv (wvis_root hv (root_dir hv (Int.le_refl 0) (by have := hv.pos; omega))))).1.1).1
theorem name_short {s : Spc} (fl : Bool) {p : Str} {ps : List Str} {w w' : Wk} (hn : w.name.size ≤ 12) (h : stp s fl p ps w = .inr w') : w'.name.size ≤ 12 := by
  unfold stp at h
  split at h
  · cases h
  · split at h
    · cases h
    · rename_i h2
      split at h
      · injection h with h; subst h; exact Nat.zero_le _
      · split at h
        · injection h with h; subst h; exact Nat.zero_le _
        · split at h
          · cases h
          · split at h
            · split at h
              · cases h
              · injection h with h; subst h; exact Nat.le_of_not_lt h2
            · split at h
              · split at h
                · cases h
                · injection h with h; subst h
                  show ByteArray.size (if _ then _ else _) ≤ 12
                  split
                  · exact Nat.zero_le _
                  · exact hn
              · injection h with h; subst h; exact Nat.le_of_not_lt h2
theorem rest_few {s : Spc} (hv : FlsV s.files) (fl : Bool) {p : Str} {ps : List Str} {w w' : Wk} (hl : w.links ≤ 8) (h : stp s fl p ps w = .inr w') : w'.links ≤ 8 ∧ (8 - w'.links) * 200 + w'.ps.length < (8 - w.links) * 200 + (ps.length + 1) := by
  unfold stp at h
  split at h
  · cases h
  · split at h
    · cases h
    · split at h
      · injection h with h; subst h; exact ⟨hl, by simp only; omega⟩
      · split at h
        · injection h with h; subst h; exact ⟨hl, by simp only; omega⟩
        · split at h
          · cases h
          · split at h
            · split at h
              · cases h
              · injection h with h; subst h; exact ⟨hl, by simp only; omega⟩
            · split at h
              · split at h
                · cases h
                · rename_i h9
                  injection h with h; subst h
                  have ht := nodG_target hv (lookL s.files w.at_ p).1
                  have hs := splS_len (nodG s.files (lookL s.files w.at_ p).1).target
                  refine ⟨by simp only; omega, ?_⟩
                  simp only [List.length_append]
                  have : (8 - w.links) * 200 = (8 - (w.links + 1)) * 200 + 200 := by
                    rw [show 8 - w.links = (8 - (w.links + 1)) + 1 by omega, Nat.add_mul]
                  omega
              · injection h with h; subst h; exact ⟨hl, by simp only; omega⟩
theorem find_long {s : Spc} {start : Fil} {p : Str} {fl : Bool} (h1 : ¬ p = ⟨#[]⟩) (h2 : 128 < p.size) : findL s start p fl = (fnd0, 36) := by unfold findL; rw [if_neg h1, if_pos h2]
section
variable {s : Spc} {start a : Fil} {p : Str} {fl : Bool} (h1 : ¬ p = ⟨#[]⟩) (h2 : ¬ 128 < p.size) (ha : (if hdL p = true then rootD s else start) = a)
include h1 h2 ha
theorem find_nodir (hd : dirL s.files a = false) : findL s start p fl = (fnd0, 2) := by
  unfold findL
  rw [if_neg h1, if_neg h2, ha, if_pos hd]
variable (hd : dirL s.files a = true)
include hd
theorem find_err {e : Int} {τ : Lk} (h : lkT s (fl || lsL p) (lk0 (splS p) a) = (e, τ)) (he : e ≠ 0) : findL s start p fl = (fnd0, e) := by
  unfold findL
  rw [if_neg h1, if_neg h2, ha, if_neg (by simp [hd]), h, if_pos he]
theorem find_slash {τ : Lk} (h : lkT s (fl || lsL p) (lk0 (splS p) a) = (0, τ)) (hs : lsL p = true ∧ τ.ex = true ∧ dirL s.files τ.file = false) : findL s start p fl = (fnd0, 20) := by
  unfold findL
  rw [if_neg h1, if_neg h2, ha, if_neg (by simp [hd]), h, if_neg (by simp), if_pos hs]
theorem find_ok {τ : Lk} (h : lkT s (fl || lsL p) (lk0 (splS p) a) = (0, τ)) (hs : ¬ (lsL p = true ∧ τ.ex = true ∧ dirL s.files τ.file = false)) : findL s start p fl = (fndOf s (lsL p) τ, 0) := by
  unfold findL
  rw [if_neg h1, if_neg h2, ha, if_neg (by simp [hd]), h, if_neg (by simp), if_neg hs]
end
theorem sim0 (ps : List Str) (a d : Fil) (hd : ps = [] → True) : Sim ⟨ps, a, d, ⟨#[]⟩, false, 0⟩ (lk0 ps a) := by
  have _ := hd
  exact ⟨rfl, rfl, rfl, fun _ => rfl, fun h => (by cases h), fun _ _ => ⟨fun _ => ⟨rfl, rfl⟩, fun h => absurd rfl h⟩⟩
def Run (s : Spc) (F : Bool) (σ0 : Lk) (w : Wk) : Prop := w.links ≤ 8 ∧ w.name.size ≤ 12 ∧ ∃ σ, Sim w σ ∧ lkT s F σ = lkT s F σ0
theorem run_step {s : Spc} (hv : SpcV s) {F : Bool} {σ0 : Lk} {w : Wk} {p : Str} {ps : List Str} (hps : w.ps = p :: ps) (h : Run s F σ0 w) : (∀ e, stp s F p ps w = .inl e → lkT s F σ0 = (e, lkZ)) ∧ ∀ w', stp s F p ps w = .inr w' → Run s F σ0 w' := by
  obtain ⟨h8, hn, σ, hS, hT⟩ := h
  have hm : w.missing = false := by
    cases hm : w.missing with
    | false => rfl
    | true => have := (hS.gone hm).2.1; rw [hps] at this; cases this
  have h8σ : σ.links ≤ 8 := by rw [← hS.links]; exact h8
  have hc := lkT_cons hv.files (fl := F) h8σ (hS.ps.symm.trans hps)
  rcases sim_step hv F (p := p) (ps := ps) hS hm with ⟨e, q1, q2⟩ | ⟨w1, τ, q1, q2, q3⟩
  · refine ⟨fun e' he => ?_, fun w' hw => by rw [q1] at hw; cases hw⟩
    rw [q1] at he
    injection he with he
    subst he
    rw [← hT, hc, q2]
  · refine ⟨fun e' he => by (rw [q1] at he; cases he), fun w' hw => ?_⟩
    have k1 := rest_few hv.files F h8 hw
    have k2 := name_short F hn hw
    rw [q1] at hw
    injection hw with hw
    subst hw
    refine ⟨k1.1, k2, τ, q3, ?_⟩
    rw [← hT, hc, q2]
theorem run_end {s : Spc} (hv : SpcV s) {F : Bool} {σ0 : Lk} {w : Wk} (hps : w.ps = []) (h : Run s F σ0 w) : ∃ σ, lkT s F σ0 = (0, σ) ∧ σ.ex = !w.missing ∧ (w.missing = false → σ.file = w.at_) ∧ ∀ sl, fndW s sl w = fndOf s sl σ := by
  obtain ⟨h8, hn, σ, hS, hT⟩ := h
  exact ⟨σ, by rw [← hT]; exact lkT_nil (hS.ps.symm.trans hps), hS.ex, fun hm => (hS.here hm).symm, fun sl => sim_end hv hS hps⟩
section
set_option maxRecDepth 10000
set_option maxHeartbeats 1000000
theorem Pfind7 (s : Spc) (start : Fil) (p : Str) (fl : Bool) (hs : SpcN s) (hv : SpcV s) (hp : p.size ≤ 1000000) : AFn Try.prog 11 [.agg (spcA s), .agg (filA start), .v (.string p), .v (.bool fl)] (fun r => r = .tup [.agg (fndA (findL s start p fl).1), .v (.int .i64 (findL s start p fl).2)]) := by
  have hw := where_size hv
  have hri := root_is hv
  refine enter Try.func11 rfl rfl rfl rfl rfl 0 rfl ?_
  refine w_ (b_ (h:=b_ (h:=al_ (h:=a_ (h:=e_ (q_ (aw_block (w_ (m_ (h:=eq_ (h:=a_ (h:=e_ (?_)))))))))))))
  refine aw_cond rfl (fun hb1 => ?_) (fun hb1 => ?_)
  · have hc1 := bp hb1
    refine w_ (bd_ (h:=s_ (h:=a_ (h:=e_ (aw_ret (x_blockR (x_thenR (?_))))))))
    refine e_ret ?_
    rw [show findL s start p fl = (fnd0, 2) from if_pos hc1]
    rfl
  · have hc1 := bp hb1
    refine w_ (m_ (h:=n_ (h:=gt_ (h:=a_ (h:=e_ (?_))))))
    refine aw_cond rfl (fun hb2 => ?_) (fun hb2 => ?_)
    · have hc2 := bp hb2
      refine w_ (bd_ (h:=s_ (h:=a_ (h:=e_ (aw_ret (x_blockR (x_thenR (?_))))))))
      refine e_ret ?_
      rw [find_long hc1 (by omega)]
      rfl
    · have hc2 := bp hb2
      refine aw_skip (x_blockN (t_ (w_ (m_ (h:=?_)))))
      refine al_p rfl (q_call (Psplit p (by omega)) ?_)
      rintro r rfl
      refine m_ (h:=x_ (h:=x_ (h:=x_ (h:=a_ (h:=a_ (h:=a_ (h:=e_ (?_))))))))
      refine aw_midI (fun t => t = ⟨look [(2, .v (.string p)), (4, .bp 0 0), (5, .bp 1 0), (8, .bp 2 0), (11, .v (.bool (hdL p))), (12, .v (.bool (lsL p))), (13, .bp 3 0)], ⟨[spcA s, filA start, fndA fnd0, wkA s (fl || lsL p) ⟨splS p, start, (0, 0), ⟨#[]⟩, false, 0⟩], []⟩⟩) ?_ ?_
      · skip
        refine aw_region (l_ (h:=m_ (h:=l_ (h:=m_ (h:=m_ (h:=?_))))))
        refine al_gs false rfl rfl (fun hb3 => ?_) (fun hb3 => ?_)
        · have hc3 := bp hb3
          refine g0_ (h:=pt_ (h:=bd_ (h:=al_ (h:=s_ (h:=al_nil (?_))))))
          refine x_then ?_
          first | (rw [hb3]; exact ⟨_, rfl, (wk 4 0)⟩) | exact ⟨_, rfl, (wk 4 0)⟩
        · have hc3 := bp hb3
          refine m_ (h:=pf_ (h:=bd_ (h:=al_ (h:=s_ (h:=al_nil (?_))))))
          refine x_then ?_
          first | (rw [hb3]; exact ⟨_, rfl, (wk 4 0)⟩) | exact ⟨_, rfl, (wk 4 0)⟩
      · rintro t rfl
        refine aw_midI (fun t => ∃ a, (if hdL p = true then rootD s else start) = a ∧ dirL s.files a = true ∧ t = ⟨look [(4, .bp 0 0), (8, .bp 2 0), (12, .v (.bool (lsL p))), (13, .bp 3 0)], ⟨[spcA s, filA start, fndA fnd0, wkA s (fl || lsL p) ⟨splS p, a, (0, 0), ⟨#[]⟩, false, 0⟩], []⟩⟩) ?_ ?_
        · skip
          refine w_ (m_ (h:=e_ (?_)))
          refine aw_cond rfl (fun hb4 => ?_) (fun hb4 => ?_)
          · have hc4 := bp hb4
            refine aw_region (l_ (h:=?_))
            refine al_p rfl (q_call (Proot s hs.b) ?_)
            rintro r rfl
            refine f_ (h:=s_ (h:=al_nil (?_)))
            refine x_then ?_
            first | exact ⟨_, ⟨rootD s, if_pos hc4, hri, rfl⟩, (wk 4 0)⟩ | exact ⟨_, ⟨start, if_neg (by simp [hc4]), by simpa using hc5, rfl⟩, (wk 4 0)⟩
          · have hc4 := bp hb4
            refine w_ (?_)
            refine al_p rfl (s_callR 1 rfl (.cons _ _ _ _ _ rfl (LeA.refl _) .nil) (PdirW s (fl || lsL p) ⟨splS p, start, (0, 0), ⟨#[]⟩, false, 0⟩ hs.b) ?_)
            rintro r rfl
            refine ⟨rfl, ?_⟩
            refine nt_ (h:=e_ (?_))
            refine aw_cond rfl (fun hb5 => ?_) (fun hb5 => ?_)
            · have hc5 := bp hb5
              refine w_ (bd_ (h:=s_ (h:=a_ (h:=e_ (aw_ret (x_thenR (?_)))))))
              refine e_ret ?_
              rw [find_nodir hc1 (by omega) (if_neg (by simp [hc4])) (by simpa using hc5)]
              rfl
            · have hc5 := bp hb5
              refine aw_skip (?_)
              refine x_then ?_
              first | exact ⟨_, ⟨rootD s, if_pos hc4, hri, rfl⟩, (wk 4 0)⟩ | exact ⟨_, ⟨start, if_neg (by simp [hc4]), by simpa using hc5, rfl⟩, (wk 4 0)⟩
        · rintro t ⟨a, ha, had, rfl⟩
          refine q_ (aw_block (?_))
          refine aw_loopW (fun m t => ∃ w, Run s (fl || lsL p) (lk0 (splS p) a) w ∧ m = (8 - w.links) * 200 + w.ps.length ∧ m ≤ 1600 + (p.size + 1) ∧ t = ⟨look [(4, .bp 0 0), (8, .bp 2 0), (12, .v (.bool (lsL p))), (13, .bp 3 0)], ⟨[spcA s, filA start, fndA fnd0, wkA s (fl || lsL p) w], []⟩⟩) ((8 - 0) * 200 + (splS p).length) ((wk 4 0)) (⟨_, ⟨Nat.zero_le _, Nat.zero_le _, _, sim0 (splS p) a (0, 0) (fun _ => trivial), rfl⟩, rfl, by have := splS_len p; omega, rfl⟩) ?_
          rintro m t ⟨w, hR, rfl, hm, rfl⟩
          have hml : (w.ps.map strA).length = w.ps.length := by simp
          refine q_ (w_ (f_ (h:=l_ (h:=n_ (h:=gt_ (h:=e_ (?_)))))))
          refine aw_cond rfl (fun hb6 => ?_) (fun hb6 => ?_)
          · have hc6 := bp hb6
            obtain ⟨q, qs, hqs⟩ : ∃ q qs, w.ps = q :: qs := by
              cases hq : w.ps with
              | nil => rw [hq] at hml hc6; simp at hc6
              | cons q qs => exact ⟨q, qs, rfl⟩
            have hql : w.ps.length = qs.length + 1 := by rw [hqs]; rfl
            refine kt_ (aw_block (w_ (?_)))
            refine al_p rfl (s_callB 3 rfl (by repeat (first | exact ArgsB.nil | refine ArgsB.cons _ _ _ _ _ rfl rfl ?_)) rfl rfl (Pstep s (fl || lsL p) w q qs hqs hs.b hv hR.1 (by omega)) ?_)
            rintro r row2 (⟨e, he, he0, rfl, rfl⟩ | ⟨w2, hw2, rfl, rfl⟩)
            · refine ⟨bp_wk _ _ _, rfl, _, (by repeat constructor), ?_⟩
              refine a_ (h:=e_ (w_ (m_ (h:=nq_ (h:=e_ (?_))))))
              refine aw_cond rfl (fun hb7 => ?_) (fun hb7 => ?_)
              · have hc7 := bp hb7
                refine w_ (bd_ (h:=m_ (h:=s_ (h:=a_ (h:=e_ (aw_ret (x_blockR (x_thenR (x_blockR (x_thenR (?_)))))))))))
                refine e_ret ?_
                rw [find_err hc1 (by omega) ha had ((run_step hv hqs hR).1 e he) he0]
                rfl
              · have hc7 := bp hb7
                exact absurd hc7 he0
            · refine ⟨bp_wk _ _ _, rfl, _, (by repeat constructor), ?_⟩
              refine a_ (h:=e_ (w_ (m_ (h:=nq_ (h:=e_ (?_))))))
              refine aw_cond rfl (fun hb8 => ?_) (fun hb8 => ?_)
              · have hc8 := bp hb8
                exact absurd rfl hc8
              · have hc8 := bp hb8
                refine aw_skip (x_blockN (?_))
                refine x_then ?_
                exact ⟨(8 - w2.links) * 200 + w2.ps.length, _, (by have := (rest_few hv.files _ hR.1 hw2).2; omega), ⟨w2, (run_step hv hqs hR).2 w2 hw2, rfl, by have := (rest_few hv.files _ hR.1 hw2).2; omega, rfl⟩, (wk 4 0)⟩
          · have hc6 := bp hb6
            have hps : w.ps = [] := List.eq_nil_of_length_eq_zero (by omega)
            obtain ⟨σ, hT, hσx, hσf, hσe⟩ := run_end hv hps hR
            refine aw_exit (x_thenE (x_thenE (ABlock_out (t_ (q_ (?_))))))
            refine aw_mid (⟨look [(8, .bp 2 0), (12, .v (.bool (lsL p))), (13, .bp 3 0), (63, .v (.bool (lsL p && (!w.missing && !dirL s.files w.at_))))], ⟨[spcA s, filA start, fndA fnd0, wkA s (fl || lsL p) w], []⟩⟩) ?_ ?_
            · skip
              refine aw_region (m_ (h:=m_ (h:=?_)))
              refine al_gs true rfl rfl (fun hb9 => ?_) (fun hb9 => ?_)
              · have hc9 := bp hb9
                refine f_ (h:=l_ (h:=nt_ (h:=pt_ (h:=m_ (h:=?_)))))
                refine al_gs true rfl rfl (fun hb10 => ?_) (fun hb10 => ?_)
                · have hc10 := bp hb10
                  refine g_y (s_callR 1 rfl (.cons _ _ _ _ _ rfl (LeA.refl _) .nil) (PdirW s (fl || lsL p) w hs.b) ?_)
                  rintro r rfl
                  refine ⟨rfl, ?_⟩
                  refine nt_ (h:=pt_ (h:=al_nil (?_)))
                  refine x_then ?_
                  first | (exfalso; first | contradiction | omega) | exact weak_of 4 0 rfl rfl rfl rfl (by repeat (first | exact Sub.nil | refine Sub.cons _ _ _ rfl rfl ?_ | refine Sub.any _ _ ?_ | refine Sub.sl _ _ _ _ _ rfl ?_ | refine Sub.slnil _ _ _ rfl ?_ | (apply Sub.of; (focus exact rfl); (focus exact LeA.of_eq (vb (by first | (rw [hb9]; rfl) | (rw [hb9, hb10]; rfl)))); (focus exact rfl))))
                · have hc10 := bp hb10
                  refine g0_ (h:=g0_ (h:=pf_ (h:=al_nil (?_))))
                  refine x_then ?_
                  first | (exfalso; first | contradiction | omega) | exact weak_of 4 0 rfl rfl rfl rfl (by repeat (first | exact Sub.nil | refine Sub.cons _ _ _ rfl rfl ?_ | refine Sub.any _ _ ?_ | refine Sub.sl _ _ _ _ _ rfl ?_ | refine Sub.slnil _ _ _ rfl ?_ | (apply Sub.of; (focus exact rfl); (focus exact LeA.of_eq (vb (by first | (rw [hb9]; rfl) | (rw [hb9, hb10]; rfl)))); (focus exact rfl))))
              · have hc9 := bp hb9
                refine g0_ (h:=g0_ (h:=g0_ (h:=pf_ (h:=m_ (h:=g0_ (h:=g0_ (h:=pf_ (h:=al_nil (?_)))))))))
                refine x_then ?_
                first | (exfalso; first | contradiction | omega) | exact weak_of 4 0 rfl rfl rfl rfl (by repeat (first | exact Sub.nil | refine Sub.cons _ _ _ rfl rfl ?_ | refine Sub.any _ _ ?_ | refine Sub.sl _ _ _ _ _ rfl ?_ | refine Sub.slnil _ _ _ rfl ?_ | (apply Sub.of; (focus exact rfl); (focus exact LeA.of_eq (vb (by first | (rw [hb9]; rfl) | (rw [hb9, hb10]; rfl)))); (focus exact rfl))))
            · skip
              refine aw_cond rfl (fun hb11 => ?_) (fun hb11 => ?_)
              · have hc11 := bp hb11
                refine w_ (bd_ (h:=s_ (h:=a_ (h:=e_ (aw_ret (x_thenR (?_)))))))
                refine e_ret ?_
                rw [find_slash hc1 (by omega) ha had hT (by simp only [Bool.and_eq_true, Bool.not_eq_true'] at hc11; exact ⟨hc11.1, by rw [hσx, hc11.2.1]; rfl, by rw [hσf hc11.2.1]; exact hc11.2.2⟩)]
                rfl
              · have hc11 := bp hb11
                refine kt_ (w_ (m_ (h:=?_)))
                refine al_p rfl (s_callR 1 rfl (.cons _ _ _ _ _ rfl (LeA.refl _) (.cons _ _ _ _ _ rfl (LeA.refl _) .nil)) (Pfound s (fl || lsL p) (lsL p) w hs hw (by have := hR.2.1; omega)) ?_)
                rintro r rfl
                refine ⟨rfl, ?_⟩
                refine s_ (h:=a_ (h:=e_ (aw_ret (?_))))
                refine e_ret ?_
                rw [find_ok hc1 (by omega) ha had hT (fun h => by
                  obtain ⟨h1, h2, h3⟩ := h
                  rw [hσx] at h2
                  have hm2 : w.missing = false := by simpa using h2
                  rw [hσf hm2] at h3
                  rw [h1, h2, h3] at hc11
                  cases hc11), ← hσe]
                rfl

end
end Go.Proofs.Ytaidkbnbfnaihaa
namespace Go.Proofs.Ytaidkbnbfnaihaa
open Go.RowKit

theorem flsV_spc {f : Fls} (h : FlsV f) (h0 : 0 < f.length) : SpcV ⟨f, []⟩ := ⟨h, h0, fun i m hm => by cases hm⟩
theorem aw7_le : LeA (.agg [.sl 2 (aw7F2.map dvcA) none, .v (.slice none 0 0)]) (.agg (spcA ⟨aw7F2, []⟩)) := LeA.agg (LeL.cons (LeA.refl _) (LeL.cons (LeA.nil _) LeL.nil))
theorem aw7_spc : SpcV ⟨aw7F2, []⟩ := flsV_spc aw7_valid.2 (by decide +kernel)
section
set_option maxRecDepth 10000
set_option maxHeartbeats 1000000
theorem Lawake7 : AFn Try.prog 16 [] (fun r => r = .v (.bool true)) := by
  have hnew : AFn Try.prog 21 [.v (.int .i64 1)] (fun r => r = .tup [.agg (flsA (newL 1).1), .v (.int .i64 0)]) := Rnew 1
  obtain ⟨c1, hmk1⟩ : ∃ c1, AFn Try.prog 19 [.agg (flsA (newL 1).1), .agg [.v (.int .i64 0), .v (.int .i64 1)], .v (.string ⟨#[102]⟩), .agg (nodA ⟨0, 1, 420, 0, 0, 0, ⟨#[]⟩, []⟩)] (fun r => r = .tup [.agg (flsA aw7F1), .sl 7 (List.map chgA c1) none, .v (.int .i64 0)]) :=
    ⟨_, (Rmake (newL 1).1 (0, 1) ⟨#[102]⟩ ⟨0, 1, 420, 0, 0, 0, ⟨#[]⟩, []⟩ new_valid1 (by decide) (by decide)).mono fun r hr => by rw [hr]; unfold chgR; rw [aw7_make.1]; rfl⟩
  obtain ⟨c2, hmk2⟩ : ∃ c2, AFn Try.prog 19 [.agg (flsA aw7F1), .agg [.v (.int .i64 0), .v (.int .i64 1)], .v (.string ⟨#[108]⟩), .agg (nodA ⟨0, 3, 511, 0, 0, 0, ⟨#[102]⟩, []⟩)] (fun r => r = .tup [.agg (flsA aw7F2), .sl 7 (List.map chgA c2) none, .v (.int .i64 0)]) :=
    ⟨_, (Rmake aw7F1 (0, 1) ⟨#[108]⟩ ⟨0, 3, 511, 0, 0, 0, ⟨#[102]⟩, []⟩ aw7_valid.1 (by decide) (by decide)).mono fun r hr => by rw [hr]; unfold chgR; rw [aw7_make.2]; rfl⟩
  obtain ⟨⟨d1, n1, ⟨f1, g1⟩, e1, s1, p1⟩, hx1⟩ : ∃ x : Fnd, (findL ⟨aw7F2, []⟩ (0, 1) ⟨#[47, 108]⟩ true).1 = x := ⟨_, rfl⟩
  obtain ⟨⟨d2, n2, ⟨f2, g2⟩, e2, s2, p2⟩, hx2⟩ : ∃ x : Fnd, (findL ⟨aw7F2, []⟩ (0, 1) ⟨#[47, 108]⟩ false).1 = x := ⟨_, rfl⟩
  obtain ⟨y1, y2, y3⟩ := aw7_yes
  obtain ⟨z1, z2, z3⟩ := aw7_no
  rw [hx1] at y2 y3
  rw [hx2] at z2 z3
  simp only at y2 y3 z2 z3
  subst y2 y3 z2 z3
  have hf1 : AFn Try.prog 11 [.agg (spcA ⟨aw7F2, []⟩), .agg [.v (.int .i64 0), .v (.int .i64 1)], .v (.string ⟨#[47, 108]⟩), .v (.bool true)] (fun r => r = .tup [.agg (fndA ⟨d1, n1, (f1, 2), e1, s1, ⟨#[47, 102]⟩⟩), .v (.int .i64 0)]) :=
    (Pfind7 ⟨aw7F2, []⟩ (0, 1) ⟨#[47, 108]⟩ true (aw7_spc.n (by decide)) aw7_spc (by decide)).mono fun r hr => by rw [hr, hx1, y1]
  have hf2 : AFn Try.prog 11 [.agg (spcA ⟨aw7F2, []⟩), .agg [.v (.int .i64 0), .v (.int .i64 1)], .v (.string ⟨#[47, 108]⟩), .v (.bool false)] (fun r => r = .tup [.agg (fndA ⟨d2, n2, (f2, 3), e2, s2, ⟨#[47, 108]⟩⟩), .v (.int .i64 0)]) :=
    (Pfind7 ⟨aw7F2, []⟩ (0, 1) ⟨#[47, 108]⟩ false (aw7_spc.n (by decide)) aw7_spc (by decide)).mono fun r hr => by rw [hr, hx2, z1]
  clear hx1 hx2 y1 z1
  refine enter Try.func16 rfl rfl rfl rfl rfl 0 rfl ?_
  refine w_ (a_ (h:=e_ (w_ (?_))))
  refine al_p rfl (q_call (hnew) ?_)
  rintro r rfl
  refine m_ (h:=x_ (h:=x_ (h:=al_ (h:=s_ (h:=a_ (h:=e_ (w_ (bd_ (h:=al_ (h:=s_ (h:=e_ (w_ (l_ (h:=l_ (h:=?_)))))))))))))))
  refine al_p rfl (st_le (y := .agg (nodA ⟨0, 1, 420, 0, 0, 0, ⟨#[]⟩, []⟩)) (st_build (by repeat (first | exact FillA.nil _ | (apply FillA.cons; (focus exact rfl); (focus exact rfl); (focus exact rfl); (focus exact rfl); (focus exact rfl); (focus (repeat constructor))))) ⟨rfl, rfl⟩) (by repeat (first | exact LeA.refl _ | exact LeA.nil _ | exact LeL.refl _ | refine LeA.agg ?_ | refine LeA.tup ?_ | exact LeL.nil | refine LeL.cons ?_ ?_ | exact LeA.any _)) ?_)
  refine al_p rfl (q_call (hmk1) ?_)
  rintro r rfl
  refine m_ (h:=x_ (h:=x_ (h:=x_ (h:=s_ (h:=e_ (w_ (l_ (h:=l_ (h:=?_)))))))))
  refine al_p rfl (st_le (y := .agg (nodA ⟨0, 3, 511, 0, 0, 0, ⟨#[102]⟩, []⟩)) (st_build (by repeat (first | exact FillA.nil _ | (apply FillA.cons; (focus exact rfl); (focus exact rfl); (focus exact rfl); (focus exact rfl); (focus exact rfl); (focus (repeat constructor))))) ⟨rfl, rfl⟩) (by repeat (first | exact LeA.refl _ | exact LeA.nil _ | exact LeL.refl _ | refine LeA.agg ?_ | refine LeA.tup ?_ | exact LeL.nil | refine LeL.cons ?_ ?_ | exact LeA.any _)) ?_)
  refine al_p rfl (q_call (hmk2) ?_)
  rintro r rfl
  refine m_ (h:=x_ (h:=x_ (h:=x_ (h:=s_ (h:=e_ (w_ (l_ (h:=?_))))))))
  refine al_p rfl (st_le (y := .agg (spcA ⟨aw7F2, []⟩)) (st_build (by repeat (first | exact FillA.nil _ | (apply FillA.cons; (focus exact rfl); (focus exact rfl); (focus exact rfl); (focus exact rfl); (focus exact rfl); (focus (repeat constructor))))) ⟨rfl, rfl⟩) aw7_le ?_)
  refine l_ (h:=?_)
  refine al_p rfl (q_call (hf1) ?_)
  rintro r rfl
  refine m_ (h:=x_ (h:=x_ (h:=al_ (h:=s_ (h:=a_ (h:=e_ (w_ (l_ (h:=?_)))))))))
  refine al_p rfl (st_le (y := .agg (spcA ⟨aw7F2, []⟩)) (st_build (by repeat (first | exact FillA.nil _ | (apply FillA.cons; (focus exact rfl); (focus exact rfl); (focus exact rfl); (focus exact rfl); (focus exact rfl); (focus (repeat constructor))))) ⟨rfl, rfl⟩) aw7_le ?_)
  refine l_ (h:=?_)
  refine al_p rfl (q_call (hf2) ?_)
  rintro r rfl
  refine m_ (h:=x_ (h:=x_ (h:=al_ (h:=s_ (h:=a_ (h:=e_ (w_ (m_ (h:=eq_ (h:=m_ (h:=?_)))))))))))
  refine al_gs true rfl rfl (fun hb1 => ?_) (fun hb1 => ?_)
  · have hc1 := bp hb1
    refine m_ (h:=eq_ (h:=pt_ (h:=m_ (h:=?_))))
    refine al_gs true rfl rfl (fun hb2 => ?_) (fun hb2 => ?_)
    · have hc2 := bp hb2
      refine f_ (h:=l_ (h:=eq_ (h:=pt_ (h:=m_ (h:=?_)))))
      refine al_gs true rfl rfl (fun hb3 => ?_) (fun hb3 => ?_)
      · have hc3 := bp hb3
        refine f_ (h:=l_ (h:=eq_ (h:=pt_ (h:=m_ (h:=?_)))))
        refine al_gs true rfl rfl (fun hb4 => ?_) (fun hb4 => ?_)
        · have hc4 := bp hb4
          refine f_ (h:=f_ (h:=l_ (h:=eq_ (h:=pt_ (h:=m_ (h:=?_))))))
          refine al_gs true rfl rfl (fun hb5 => ?_) (fun hb5 => ?_)
          · have hc5 := bp hb5
            refine f_ (h:=f_ (h:=l_ (h:=eq_ (h:=pt_ (h:=a_ (h:=e_ (aw_ret (?_))))))))
            refine e_ret ?_
            first | rfl | (exfalso; simp_all)
          · have hc5 := bp hb5
            refine g0_ (h:=g0_ (h:=g0_ (h:=g0_ (h:=pf_ (h:=a_ (h:=e_ (aw_ret (?_))))))))
            refine e_ret ?_
            first | rfl | (exfalso; simp_all)
        · have hc4 := bp hb4
          refine g0_ (h:=g0_ (h:=g0_ (h:=g0_ (h:=pf_ (h:=m_ (h:=g0_ (h:=g0_ (h:=g0_ (h:=g0_ (h:=pf_ (h:=a_ (h:=e_ (aw_ret (?_))))))))))))))
          refine e_ret ?_
          first | rfl | (exfalso; simp_all)
      · have hc3 := bp hb3
        refine g0_ (h:=g0_ (h:=g0_ (h:=pf_ (h:=m_ (h:=g0_ (h:=g0_ (h:=g0_ (h:=g0_ (h:=pf_ (h:=m_ (h:=g0_ (h:=g0_ (h:=g0_ (h:=g0_ (h:=pf_ (h:=a_ (h:=e_ (aw_ret (?_)))))))))))))))))))
        refine e_ret ?_
        first | rfl | (exfalso; simp_all)
    · have hc2 := bp hb2
      refine g0_ (h:=g0_ (h:=g0_ (h:=pf_ (h:=m_ (h:=g0_ (h:=g0_ (h:=g0_ (h:=pf_ (h:=m_ (h:=g0_ (h:=g0_ (h:=g0_ (h:=g0_ (h:=pf_ (h:=m_ (h:=g0_ (h:=g0_ (h:=g0_ (h:=g0_ (h:=pf_ (h:=a_ (h:=e_ (aw_ret (?_))))))))))))))))))))))))
      refine e_ret ?_
      first | rfl | (exfalso; simp_all)
  · have hc1 := bp hb1
    refine g0_ (h:=g0_ (h:=pf_ (h:=m_ (h:=g0_ (h:=g0_ (h:=g0_ (h:=pf_ (h:=m_ (h:=g0_ (h:=g0_ (h:=g0_ (h:=pf_ (h:=m_ (h:=g0_ (h:=g0_ (h:=g0_ (h:=g0_ (h:=pf_ (h:=m_ (h:=g0_ (h:=g0_ (h:=g0_ (h:=g0_ (h:=?_))))))))))))))))))))))))
    refine pf_ (h:=a_ (h:=e_ (aw_ret (?_))))
    refine e_ret ?_
    first | rfl | (exfalso; simp_all)

end
end Go.Proofs.Ytaidkbnbfnaihaa
namespace Go.Proofs.Ytaidkbnbfnaihaa
open Go.RowKit

def fndV (x : Fnd) : List Value := [.int .i64 x.dir.1, .int .i64 x.dir.2, .string x.name, .int .i64 x.file.1, .int .i64 x.file.2, .bool x.ex, .bool x.slash, .string x.path]
set_option maxRecDepth 10000 in
set_option maxHeartbeats 1000000 in
theorem eqFnd (x : Fnd) (w : World) : (binOp .eql 35 (.agg (fndV x).toArray) (.agg (fndV x).toArray)).run Try.prog w = .ok (.bool true) w := by
  have u3 := Try.underlying3
  have a3 := Try.isAgg3
  have z3 := Try.sizeOf3
  have u4 := Try.underlying4
  have a4 := Try.isAgg4
  have z4 := Try.sizeOf4
  have u9 := Try.underlying9
  have a9 := Try.isAgg9
  have z9 := Try.sizeOf9
  have u5 := Try.underlying33
  have a5 := Try.isAgg33
  have z5 := Try.sizeOf33
  have hS : Try.prog.underlying 35 = some (.struct (Try.prog.fieldsOf 35)) := by kernel_rfl
  have hp : Try.prog.stoodInHeld 35 = false := by kernel_rfl
  have hSF : Try.prog.underlying 33 = some (.struct (Try.prog.fieldsOf 33)) := by kernel_rfl
  have hpF : Try.prog.stoodInHeld 33 = false := by kernel_rfl
  have eF : ∀ (d : Nat) (a b : Int) (w : World), (Op.equalIn (d + 2) 33 (.agg #[.int .i64 a, .int .i64 b]) (.agg #[.int .i64 a, .int .i64 b])).run Try.prog w = .ok true w := by
    intro d a b w
    rw [run_equalIn_agg w (d + 1) 33 _ _ hSF hpF]
    simp only [Program.fieldsOf, Try.underlying33]
    go_simp
  have e : ∀ w, (Op.equalIn 10000 35 (.agg (fndV x).toArray) (.agg (fndV x).toArray)).run Try.prog w = .ok true w := by
    intro w
    rw [show (10000 : Nat) = 9999 + 1 from rfl, run_equalIn_agg w 9999 35 _ _ hS hp]
    simp only [Program.fieldsOf, Try.underlying35, fndV]
    go_simp
  rw [run_eql_struct, e]
  rfl
theorem allV_fnd (x : Fnd) : AllV (fndA x) (fndV x) := by repeat constructor
theorem st_eqF {ev : Operand → Option AV} {h : AH} {R : AV → AH → Prop} {d : Option Tmp} {ty : TypeId} {pos : String} {af : Array Edge} {gd : Option (Nat × Bool)} {yT : TypeId} {x y : Operand} (z : Fnd) (hx : ev x = some (.agg (fndA z))) (hy : ev y = some (.agg (fndA z))) (hR : R (.v (.bool true)) h) : AStep Try.prog ⟨d, .binOp .eql 35 x y yT, ty, pos, af, gd⟩ ev h R :=
  st_binA hx hy (allV_fnd z) (allV_fnd z) (fun w => eqFnd z w) (by kernel_rfl) hR
end Go.Proofs.Ytaidkbnbfnaihaa
namespace Go.Proofs.Ytaidkbnbfnaihaa
open Go.RowKit

section
set_option maxRecDepth 10000
set_option maxHeartbeats 2000000
theorem Labsolute7 (l : List Int) : AFn Try.prog 5 [.sl 1 (l.map intA) none] (fun r => r = .v (.bool true)) := by
  refine enter Try.func5 rfl rfl rfl rfl rfl 0 rfl ?_
  refine w_ (a_ (h:=e_ (w_ (m_ (h:=?_)))))
  refine al_p rfl (s_callN rfl (by repeat (first | exact Args.nil | refine Args.cons _ _ _ _ _ rfl (argOk_clean rfl) ?_ | refine Args.cons _ _ _ _ _ rfl (argOk_nil _) ?_ | refine Args.cons _ _ _ _ _ rfl (argOk_era _) ?_ | refine Args.cons _ _ _ _ _ rfl (argOk_le rfl (by repeat (first | exact LeA.refl _ | exact LeA.nil _ | exact LeL.refl _ | refine LeA.agg ?_ | refine LeA.tup ?_ | exact LeL.nil | refine LeL.cons ?_ ?_ | exact LeA.any _))) ?_)) rfl (Gnew l) (by repeat constructor) ?_)
  skip
  refine a_ (h:=e_ (w_ (m_ (h:=?_))))
  refine al_p rfl (s_gen 0 (hc := Gspace l _ (by omega)) (hR := ?_))
  rintro r a1 ha1 ⟨s, rfl, hv, hm⟩
  refine ⟨rfl, _, (by repeat constructor), ?_⟩
  have hsb := hv.b (show s.mounts.length ≤ 1000 by omega)
  have hsn := hv.n (show s.mounts.length ≤ 1000 by omega)
  have hw := where_size hv
  refine al_ (h:=s_ (h:=e_ (w_ (m_ (h:=?_)))))
  refine al_p rfl (s_gen 0 (hc := Gpath l _ (by omega)) (hR := ?_))
  rintro r a2 ha2 ⟨p, rfl, hp⟩
  refine ⟨rfl, _, (by repeat constructor), ?_⟩
  refine m_ (h:=?_)
  refine al_p rfl (s_gen 0 (hc := Gn l _ (2) (by omega) (by omega)) (hR := ?_))
  rintro r a3 ha3 ⟨k3, rfl, p3, q3, o3⟩
  refine ⟨rfl, _, (by repeat constructor), ?_⟩
  refine eq_ (h:=a_ (h:=a_ (h:=e_ (?_))))
  refine aw_midI (fun t => ∃ (b : Nat) (x y : Fil) (fl : Bool), t = ⟨look [(3, .bp 0 0), (4, .bp 1 0), (5, .v (.string p)), (6, .v (.bool fl)), (7, .bp 2 0), (8, .bp 3 0)], ⟨[srcA l b, spcA s, filA x, filA y], []⟩⟩) ?_ ?_
  · skip
    refine yk_ ([(1, spcA s)]) 12 (h:=dm_ 0 (h:=df_ 1 (h:=?_)))
    first | refine dl_ 2 (h:=?_) | refine tk_ 2 rfl (fun _ hS => st_loadBE (row := spcA s) rfl (kb hS rfl) (Nat.le_of_ble_eq_true rfl) rfl ⟨rfl, rfl⟩) ?_
    refine dm_ 4 (h:=df_ 5 (h:=?_))
    first | refine dl_ 6 (h:=?_) | refine tk_ 6 rfl (fun _ hS => st_loadBE (row := spcA s) rfl (kb hS rfl) (Nat.le_of_ble_eq_true rfl) rfl ⟨rfl, rfl⟩) ?_
    refine cm_ 3 (ao_ 3 rfl ?_ (ao_ 8 rfl ?_ (ao_ 9 rfl ?_ ao_n)))
    · refine s_gen 0 (hc := Gfile l _ s.files (by omega) hv.files.b hv.files.ne) (hR := ?_)
      rintro r a4 ha4 ⟨x4, rfl⟩
      refine ⟨rfl, _, (by repeat constructor), ?_⟩
      refine o_ (h:=?_)
      refine cm_ 7 (ao_ 7 rfl ?_ (ao_ 8 rfl ?_ (ao_ 9 rfl ?_ ao_n)))
      · refine s_gen 0 (hc := Gfile l _ s.files (by omega) hv.files.b hv.files.ne) (hR := ?_)
        rintro r a5 ha5 ⟨x5, rfl⟩
        refine ⟨rfl, _, (by repeat constructor), ?_⟩
        refine o_ (h:=?_)
        refine c2_ 8 9 rfl rfl ?_ ?_
        · refine s_alloc (by repeat constructor) ?_
          refine o_ (h:=?_)
          refine c_ 9 rfl (s_alloc (by repeat constructor) ?_)
          refine o_ (h:=?_)
          refine c0_ 10 rfl (s_store rfl rfl rfl rfl rfl rfl (by repeat constructor) (by repeat constructor) ?_)
          refine o_ (h:=?_)
          refine c0_ 11 rfl (s_store rfl rfl rfl rfl rfl rfl (by repeat constructor) (by repeat constructor) ?_)
          refine o_ (h:=z_ (h:=?_))
          refine x_then ?_
          exact ⟨_, ⟨_, _, _, _, rfl⟩, wr_ [0, 1, 2, 3]⟩
        · refine s_alloc (by repeat constructor) ?_
          refine o_ (h:=?_)
          refine c_ 8 rfl (s_alloc (by repeat constructor) ?_)
          refine o_ (h:=?_)
          refine c0_ 10 rfl (s_store rfl rfl rfl rfl rfl rfl (by repeat constructor) (by repeat constructor) ?_)
          refine o_ (h:=?_)
          refine c0_ 11 rfl (s_store rfl rfl rfl rfl rfl rfl (by repeat constructor) (by repeat constructor) ?_)
          refine o_ (h:=z_ (h:=?_))
          refine x_then ?_
          exact ⟨_, ⟨_, _, _, _, rfl⟩, wr_ [0, 1, 3, 2]⟩
      · refine s_alloc (by repeat constructor) ?_
        refine o_ (h:=?_)
        refine c2_ 7 9 rfl rfl ?_ ?_
        · refine s_gen 0 (hc := Gfile l _ s.files (by omega) hv.files.b hv.files.ne) (hR := ?_)
          rintro r a6 ha6 ⟨x6, rfl⟩
          refine ⟨rfl, _, (by repeat constructor), ?_⟩
          refine o_ (h:=?_)
          refine c_ 9 rfl (s_alloc (by repeat constructor) ?_)
          refine o_ (h:=?_)
          refine c0_ 10 rfl (s_store rfl rfl rfl rfl rfl rfl (by repeat constructor) (by repeat constructor) ?_)
          refine o_ (h:=?_)
          refine c0_ 11 rfl (s_store rfl rfl rfl rfl rfl rfl (by repeat constructor) (by repeat constructor) ?_)
          refine o_ (h:=z_ (h:=?_))
          refine x_then ?_
          exact ⟨_, ⟨_, _, _, _, rfl⟩, wr_ [0, 1, 2, 3]⟩
        · refine s_alloc (by repeat constructor) ?_
          refine o_ (h:=?_)
          refine c_ 7 rfl (s_gen 0 (hc := Gfile l _ s.files (by omega) hv.files.b hv.files.ne) (hR := ?_))
          rintro r a7 ha7 ⟨x7, rfl⟩
          refine ⟨rfl, _, (by repeat constructor), ?_⟩
          refine o_ (h:=?_)
          refine c0_ 10 rfl (s_store rfl rfl rfl rfl rfl rfl (by repeat constructor) (by repeat constructor) ?_)
          refine o_ (h:=?_)
          refine c0_ 11 rfl (s_store rfl rfl rfl rfl rfl rfl (by repeat constructor) (by repeat constructor) ?_)
          refine o_ (h:=z_ (h:=?_))
          refine x_then ?_
          exact ⟨_, ⟨_, _, _, _, rfl⟩, wr_ [0, 1, 2, 3]⟩
      · refine s_alloc (by repeat constructor) ?_
        refine o_ (h:=?_)
        refine c2_ 7 8 rfl rfl ?_ ?_
        · refine s_gen 0 (hc := Gfile l _ s.files (by omega) hv.files.b hv.files.ne) (hR := ?_)
          rintro r a8 ha8 ⟨x8, rfl⟩
          refine ⟨rfl, _, (by repeat constructor), ?_⟩
          refine o_ (h:=?_)
          refine c_ 8 rfl (s_alloc (by repeat constructor) ?_)
          refine o_ (h:=?_)
          refine c0_ 10 rfl (s_store rfl rfl rfl rfl rfl rfl (by repeat constructor) (by repeat constructor) ?_)
          refine o_ (h:=?_)
          refine c0_ 11 rfl (s_store rfl rfl rfl rfl rfl rfl (by repeat constructor) (by repeat constructor) ?_)
          refine o_ (h:=z_ (h:=?_))
          refine x_then ?_
          exact ⟨_, ⟨_, _, _, _, rfl⟩, wr_ [0, 1, 3, 2]⟩
        · refine s_alloc (by repeat constructor) ?_
          refine o_ (h:=?_)
          refine c_ 7 rfl (s_gen 0 (hc := Gfile l _ s.files (by omega) hv.files.b hv.files.ne) (hR := ?_))
          rintro r a9 ha9 ⟨x9, rfl⟩
          refine ⟨rfl, _, (by repeat constructor), ?_⟩
          refine o_ (h:=?_)
          refine c0_ 10 rfl (s_store rfl rfl rfl rfl rfl rfl (by repeat constructor) (by repeat constructor) ?_)
          refine o_ (h:=?_)
          refine c0_ 11 rfl (s_store rfl rfl rfl rfl rfl rfl (by repeat constructor) (by repeat constructor) ?_)
          refine o_ (h:=z_ (h:=?_))
          refine x_then ?_
          exact ⟨_, ⟨_, _, _, _, rfl⟩, wr_ [0, 1, 3, 2]⟩
    · refine s_alloc (by repeat constructor) ?_
      refine o_ (h:=?_)
      refine c2_ 3 9 rfl rfl ?_ ?_
      · refine s_gen 0 (hc := Gfile l _ s.files (by omega) hv.files.b hv.files.ne) (hR := ?_)
        rintro r a10 ha10 ⟨x10, rfl⟩
        refine ⟨rfl, _, (by repeat constructor), ?_⟩
        refine o_ (h:=?_)
        refine c2_ 7 9 rfl rfl ?_ ?_
        · refine s_gen 0 (hc := Gfile l _ s.files (by omega) hv.files.b hv.files.ne) (hR := ?_)
          rintro r a11 ha11 ⟨x11, rfl⟩
          refine ⟨rfl, _, (by repeat constructor), ?_⟩
          refine o_ (h:=?_)
          refine c_ 9 rfl (s_alloc (by repeat constructor) ?_)
          refine o_ (h:=?_)
          refine c0_ 10 rfl (s_store rfl rfl rfl rfl rfl rfl (by repeat constructor) (by repeat constructor) ?_)
          refine o_ (h:=?_)
          refine c0_ 11 rfl (s_store rfl rfl rfl rfl rfl rfl (by repeat constructor) (by repeat constructor) ?_)
          refine o_ (h:=z_ (h:=?_))
          refine x_then ?_
          exact ⟨_, ⟨_, _, _, _, rfl⟩, wr_ [0, 1, 2, 3]⟩
        · refine s_alloc (by repeat constructor) ?_
          refine o_ (h:=?_)
          refine c_ 7 rfl (s_gen 0 (hc := Gfile l _ s.files (by omega) hv.files.b hv.files.ne) (hR := ?_))
          rintro r a12 ha12 ⟨x12, rfl⟩
          refine ⟨rfl, _, (by repeat constructor), ?_⟩
          refine o_ (h:=?_)
          refine c0_ 10 rfl (s_store rfl rfl rfl rfl rfl rfl (by repeat constructor) (by repeat constructor) ?_)
          refine o_ (h:=?_)
          refine c0_ 11 rfl (s_store rfl rfl rfl rfl rfl rfl (by repeat constructor) (by repeat constructor) ?_)
          refine o_ (h:=z_ (h:=?_))
          refine x_then ?_
          exact ⟨_, ⟨_, _, _, _, rfl⟩, wr_ [0, 1, 2, 3]⟩
      · refine s_alloc (by repeat constructor) ?_
        refine o_ (h:=?_)
        refine c_ 3 rfl (s_gen 0 (hc := Gfile l _ s.files (by omega) hv.files.b hv.files.ne) (hR := ?_))
        rintro r a13 ha13 ⟨x13, rfl⟩
        refine ⟨rfl, _, (by repeat constructor), ?_⟩
        refine o_ (h:=?_)
        refine c_ 7 rfl (s_gen 0 (hc := Gfile l _ s.files (by omega) hv.files.b hv.files.ne) (hR := ?_))
        rintro r a14 ha14 ⟨x14, rfl⟩
        refine ⟨rfl, _, (by repeat constructor), ?_⟩
        refine o_ (h:=?_)
        refine c0_ 10 rfl (s_store rfl rfl rfl rfl rfl rfl (by repeat constructor) (by repeat constructor) ?_)
        refine o_ (h:=?_)
        refine c0_ 11 rfl (s_store rfl rfl rfl rfl rfl rfl (by repeat constructor) (by repeat constructor) ?_)
        refine o_ (h:=z_ (h:=?_))
        refine x_then ?_
        exact ⟨_, ⟨_, _, _, _, rfl⟩, wr_ [0, 1, 2, 3]⟩
    · refine s_alloc (by repeat constructor) ?_
      refine o_ (h:=?_)
      refine c2_ 3 8 rfl rfl ?_ ?_
      · refine s_gen 0 (hc := Gfile l _ s.files (by omega) hv.files.b hv.files.ne) (hR := ?_)
        rintro r a15 ha15 ⟨x15, rfl⟩
        refine ⟨rfl, _, (by repeat constructor), ?_⟩
        refine o_ (h:=?_)
        refine c2_ 7 8 rfl rfl ?_ ?_
        · refine s_gen 0 (hc := Gfile l _ s.files (by omega) hv.files.b hv.files.ne) (hR := ?_)
          rintro r a16 ha16 ⟨x16, rfl⟩
          refine ⟨rfl, _, (by repeat constructor), ?_⟩
          refine o_ (h:=?_)
          refine c_ 8 rfl (s_alloc (by repeat constructor) ?_)
          refine o_ (h:=?_)
          refine c0_ 10 rfl (s_store rfl rfl rfl rfl rfl rfl (by repeat constructor) (by repeat constructor) ?_)
          refine o_ (h:=?_)
          refine c0_ 11 rfl (s_store rfl rfl rfl rfl rfl rfl (by repeat constructor) (by repeat constructor) ?_)
          refine o_ (h:=z_ (h:=?_))
          refine x_then ?_
          exact ⟨_, ⟨_, _, _, _, rfl⟩, wr_ [0, 1, 3, 2]⟩
        · refine s_alloc (by repeat constructor) ?_
          refine o_ (h:=?_)
          refine c_ 7 rfl (s_gen 0 (hc := Gfile l _ s.files (by omega) hv.files.b hv.files.ne) (hR := ?_))
          rintro r a17 ha17 ⟨x17, rfl⟩
          refine ⟨rfl, _, (by repeat constructor), ?_⟩
          refine o_ (h:=?_)
          refine c0_ 10 rfl (s_store rfl rfl rfl rfl rfl rfl (by repeat constructor) (by repeat constructor) ?_)
          refine o_ (h:=?_)
          refine c0_ 11 rfl (s_store rfl rfl rfl rfl rfl rfl (by repeat constructor) (by repeat constructor) ?_)
          refine o_ (h:=z_ (h:=?_))
          refine x_then ?_
          exact ⟨_, ⟨_, _, _, _, rfl⟩, wr_ [0, 1, 3, 2]⟩
      · refine s_alloc (by repeat constructor) ?_
        refine o_ (h:=?_)
        refine c_ 3 rfl (s_gen 0 (hc := Gfile l _ s.files (by omega) hv.files.b hv.files.ne) (hR := ?_))
        rintro r a18 ha18 ⟨x18, rfl⟩
        refine ⟨rfl, _, (by repeat constructor), ?_⟩
        refine o_ (h:=?_)
        refine c_ 7 rfl (s_gen 0 (hc := Gfile l _ s.files (by omega) hv.files.b hv.files.ne) (hR := ?_))
        rintro r a19 ha19 ⟨x19, rfl⟩
        refine ⟨rfl, _, (by repeat constructor), ?_⟩
        refine o_ (h:=?_)
        refine c0_ 10 rfl (s_store rfl rfl rfl rfl rfl rfl (by repeat constructor) (by repeat constructor) ?_)
        refine o_ (h:=?_)
        refine c0_ 11 rfl (s_store rfl rfl rfl rfl rfl rfl (by repeat constructor) (by repeat constructor) ?_)
        refine o_ (h:=z_ (h:=?_))
        refine x_then ?_
        exact ⟨_, ⟨_, _, _, _, rfl⟩, wr_ [0, 1, 3, 2]⟩
  · rintro t ⟨b, x, y, fl, rfl⟩
    refine w_ (l_ (h:=l_ (h:=m_ (h:=m_ (h:=?_)))))
    refine al_p rfl (q_call (Pfind7 s x p fl hsn hv (by omega)) ?_)
    rintro r rfl
    refine m_ (h:=x_ (h:=x_ (h:=al_ (h:=s_ (h:=a_ (h:=e_ (w_ (l_ (h:=l_ (h:=m_ (h:=m_ (h:=?_))))))))))))
    refine al_p rfl (q_call (Pfind7 s y p fl hsn hv (by omega)) ?_)
    rintro r rfl
    refine m_ (h:=x_ (h:=x_ (h:=al_ (h:=s_ (h:=a_ (h:=e_ (q_ (w_ (m_ (h:=n_ (h:=gt_ (h:=m_ (h:=?_)))))))))))))
    refine al_gs true rfl rfl (fun hb1 => ?_) (fun hb1 => ?_)
    · have hc1 := bp hb1
      refine m_ (h:=?_)
      refine g_y (st_strIdx (n := 0) Try.underlying9 rfl rfl rfl (by omega) ?_)
      refine eq_ (h:=pt_ (h:=e_ (?_)))
      refine aw_cond rfl (fun hb2 => ?_) (fun hb2 => ?_)
      · have hc2 := bp hb2
        rw [absolute_abs hv (show hdL p = true by rw [hd_pos (by omega)]; exact decide_eq_true hc2) y x fl]
        refine w_ (m_ (h:=m_ (h:=eq_ (h:=m_ (h:=?_)))))
        refine al_gs true rfl rfl (fun hb3 => ?_) (fun hb3 => ?_)
        · have hc3 := bp hb3
          refine l_ (h:=l_ (h:=?_))
          refine g_y (st_eqF (findL s x p fl).1 rfl rfl ?_)
          refine pt_ (h:=m_ (h:=?_))
          refine al_gs true rfl rfl (fun hb4 => ?_) (fun hb4 => ?_)
          · have hc4 := bp hb4
            refine g_y (q_call (Lawake7) ?_)
            rintro r rfl
            refine pt_ (h:=a_ (h:=e_ (aw_ret (x_thenR (?_)))))
            refine e_ret ?_
            first | rfl | (exfalso; first | omega | (simp_all; done))
          · have hc4 := bp hb4
            refine g0_ (h:=pf_ (h:=a_ (h:=e_ (aw_ret (x_thenR (?_))))))
            refine e_ret ?_
            first | rfl | (exfalso; first | omega | (simp_all; done))
        · have hc3 := bp hb3
          refine g0_ (h:=g0_ (h:=g0_ (h:=pf_ (h:=m_ (h:=g0_ (h:=pf_ (h:=a_ (h:=e_ (aw_ret (x_thenR (?_)))))))))))
          refine e_ret ?_
          first | rfl | (exfalso; first | omega | (simp_all; done))
      · have hc2 := bp hb2
        have hph : hdL p = false := by rw [hd_pos (by omega)]; exact decide_eq_false hc2
        refine kt_ (w_ (l_ (h:=l_ (h:=?_))))
        refine al_p rfl (q_call (Rwhere hsb hv x) ?_)
        rintro r rfl
        refine m_ (h:=x_ (h:=x_ (h:=a_ (h:=a_ (h:=e_ (w_ (m_ (h:=m_ (h:=?_)))))))))
        refine al_p rfl (q_call (RjoinR (whereP s x).1 p (by have := hw x; omega) (by omega)) ?_)
        rintro r rfl
        refine a_ (h:=e_ (q_ (w_ (m_ (h:=nt_ (h:=m_ (h:=?_)))))))
        refine al_gs false rfl rfl (fun hb5 => ?_) (fun hb5 => ?_)
        · have hc5 := bp hb5
          refine g0_ (h:=g0_ (h:=pt_ (h:=m_ (h:=g0_ (h:=g0_ (h:=g0_ (h:=g0_ (h:=pt_ (h:=m_ (h:=g0_ (h:=g0_ (h:=g0_ (h:=pt_ (h:=e_ (cy_ (h:=w_ (?_)))))))))))))))))
          refine al_p rfl (q_call (Lawake7) ?_)
          rintro r rfl
          refine a_ (h:=e_ (aw_ret (x_thenR (?_))))
          refine e_ret ?_
          first | rfl | (exfalso; first | omega | (simp_all; done))
        · have hc5 := bp hb5
          refine m_ (h:=eq_ (h:=pf_ (h:=m_ (h:=?_))))
          refine al_gs false rfl rfl (fun hb6 => ?_) (fun hb6 => ?_)
          · have hc6 := bp hb6
            refine g0_ (h:=g0_ (h:=g0_ (h:=g0_ (h:=pt_ (h:=m_ (h:=g0_ (h:=g0_ (h:=g0_ (h:=pt_ (h:=e_ (cy_ (h:=w_ (?_)))))))))))))
            refine al_p rfl (q_call (Lawake7) ?_)
            rintro r rfl
            refine a_ (h:=e_ (aw_ret (x_thenR (?_))))
            refine e_ret ?_
            first | rfl | (exfalso; first | omega | (simp_all; done))
          · have hc6 := bp hb6
            refine l_ (h:=l_ (h:=?_))
            refine g_y (q_call (Rvisible hsb hv x) ?_)
            rintro r rfl
            refine nt_ (h:=pf_ (h:=m_ (h:=?_)))
            refine al_gs false rfl rfl (fun hb7 => ?_) (fun hb7 => ?_)
            · have hc7 := bp hb7
              refine g0_ (h:=g0_ (h:=g0_ (h:=pt_ (h:=e_ (cy_ (h:=w_ (?_)))))))
              refine al_p rfl (q_call (Lawake7) ?_)
              rintro r rfl
              refine a_ (h:=e_ (aw_ret (x_thenR (?_))))
              refine e_ret ?_
              first | rfl | (exfalso; first | omega | (simp_all; done))
            · have hc7 := bp hb7
              refine m_ (h:=n_ (h:=gt_ (h:=pf_ (h:=e_ (?_)))))
              refine aw_cond rfl (fun hb8 => ?_) (fun hb8 => ?_)
              · have hc8 := bp hb8
                refine w_ (?_)
                refine al_p rfl (q_call (Lawake7) ?_)
                rintro r rfl
                refine a_ (h:=e_ (aw_ret (x_thenR (?_))))
                refine e_ret ?_
                first | rfl | (exfalso; first | omega | (simp_all; done))
              · have hc8 := bp hb8
                refine kt_ (w_ (l_ (h:=l_ (h:=m_ (h:=m_ (h:=?_))))))
                refine al_p rfl (q_call (Pfind7 s x (joinS (whereP s x).1 p) fl hsn hv (by have := jn_size (whereP s x).1 p; have := hw x; omega)) ?_)
                rintro r rfl
                rw [absolute_rel hv hc7 hc6 hph (by omega) x fl]
                refine m_ (h:=x_ (h:=x_ (h:=al_ (h:=s_ (h:=a_ (h:=e_ (w_ (m_ (h:=m_ (h:=eq_ (h:=m_ (h:=?_))))))))))))
                refine al_gs true rfl rfl (fun hb9 => ?_) (fun hb9 => ?_)
                · have hc9 := bp hb9
                  refine l_ (h:=l_ (h:=?_))
                  refine g_y (st_eqF (findL s x p fl).1 rfl rfl ?_)
                  refine pt_ (h:=m_ (h:=?_))
                  refine al_gs true rfl rfl (fun hb10 => ?_) (fun hb10 => ?_)
                  · have hc10 := bp hb10
                    refine g_y (q_call (Lawake7) ?_)
                    rintro r rfl
                    refine pt_ (h:=a_ (h:=e_ (aw_ret (?_))))
                    refine e_ret ?_
                    first | rfl | (exfalso; first | omega | (simp_all; done))
                  · have hc10 := bp hb10
                    refine g0_ (h:=pf_ (h:=a_ (h:=e_ (aw_ret (?_)))))
                    refine e_ret ?_
                    first | rfl | (exfalso; first | omega | (simp_all; done))
                · have hc9 := bp hb9
                  refine g0_ (h:=g0_ (h:=g0_ (h:=pf_ (h:=m_ (h:=g0_ (h:=pf_ (h:=a_ (h:=e_ (aw_ret (?_))))))))))
                  refine e_ret ?_
                  first | rfl | (exfalso; first | omega | (simp_all; done))
    · have hc1 := bp hb1
      have hp00 : p = ⟨#[]⟩ := str_nil (List.eq_nil_of_length_eq_zero (by rw [← Lib.size_eq]; omega))
      refine g0_ (h:=g0_ (h:=g0_ (h:=pf_ (h:=e_ (cn_ (h:=kt_ (w_ (l_ (h:=l_ (h:=?_))))))))))
      refine al_p rfl (q_call (Rwhere hsb hv x) ?_)
      rintro r rfl
      refine m_ (h:=x_ (h:=x_ (h:=a_ (h:=a_ (h:=e_ (w_ (m_ (h:=m_ (h:=?_)))))))))
      refine al_p rfl (q_call (RjoinR (whereP s x).1 p (by have := hw x; omega) (by omega)) ?_)
      rintro r rfl
      refine a_ (h:=e_ (q_ (w_ (m_ (h:=nt_ (h:=m_ (h:=?_)))))))
      refine al_gs false rfl rfl (fun hb11 => ?_) (fun hb11 => ?_)
      · have hc11 := bp hb11
        refine g0_ (h:=g0_ (h:=pt_ (h:=m_ (h:=g0_ (h:=g0_ (h:=g0_ (h:=g0_ (h:=pt_ (h:=m_ (h:=g0_ (h:=g0_ (h:=g0_ (h:=pt_ (h:=e_ (cy_ (h:=w_ (?_)))))))))))))))))
        refine al_p rfl (q_call (Lawake7) ?_)
        rintro r rfl
        refine a_ (h:=e_ (aw_ret (x_thenR (?_))))
        refine e_ret ?_
        first | rfl | (exfalso; first | omega | (simp_all; done))
      · have hc11 := bp hb11
        refine m_ (h:=eq_ (h:=pf_ (h:=m_ (h:=?_))))
        refine al_gs false rfl rfl (fun hb12 => ?_) (fun hb12 => ?_)
        · have hc12 := bp hb12
          refine g0_ (h:=g0_ (h:=g0_ (h:=g0_ (h:=pt_ (h:=m_ (h:=g0_ (h:=g0_ (h:=g0_ (h:=pt_ (h:=e_ (cy_ (h:=w_ (?_)))))))))))))
          refine al_p rfl (q_call (Lawake7) ?_)
          rintro r rfl
          refine a_ (h:=e_ (aw_ret (x_thenR (?_))))
          refine e_ret ?_
          first | rfl | (exfalso; first | omega | (simp_all; done))
        · have hc12 := bp hb12
          exact absurd hp00 hc12

end
end Go.Proofs.Ytaidkbnbfnaihaa
namespace Go.Proofs.Ytaidkbnbfnaihaa
open Go.RowKit
theorem LookupAbsolute_walk {H : Type} {enc : TypeId × Value → H} {sp : Nat → Bool} {held : Bool} {base : Nat} (a : Option Addr) (n c : Nat) (w : World) {d : DataW H} {p : List MemPlace} (h : DataW.Trod enc Try.prog w base sp held 22 (.slice a n c) d p) :
    Calls Try.prog 5 #[.slice a n c] w fun e w' => e = .returned (.bool true) ∧ Below w.heap.size w w' := walk_ints Labsolute7 a n c w h
end Go.Proofs.Ytaidkbnbfnaihaa
