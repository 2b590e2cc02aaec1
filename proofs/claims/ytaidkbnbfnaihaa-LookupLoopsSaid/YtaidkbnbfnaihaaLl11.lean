/-
  Part 11 of the proof of LookupLoopsP: what the statement's proof uses of the texts in wip/tpl.
-/
import Derived.Test.YtaidkbnbfnaihaaLl10
namespace Go.Proofs.Ytaidkbnbfnaihaa
open Go.RowKit

def lnkW (s : Spc) (tg : Str) (rest : List Str) (w : Wk) : Wk := ⟨splS tg ++ rest, if hdL tg = true then rootD s else w.at_, if hdL tg = true then (0, 0) else w.dir, if hdL tg = true then ⟨#[]⟩ else w.name, w.missing, w.links + 1⟩
theorem bp_wk (s : Spc) (fl : Bool) (w : Wk) : bpLtL 0 0 (wkA s fl w) = true := rfl
section
set_option maxRecDepth 10000
set_option maxHeartbeats 1000000
theorem Plink (s : Spc) (fl : Bool) (w : Wk) (tg : Str) (rest : List Str) (hs : SpcB s) (h8 : w.links ≤ 8) (htg : tg.size ≤ 60000) (hrl : rest.length ≤ 500000) : AFnB Try.prog 58 [.bp 0 0, .v (.string tg), .sl 1 (rest.map strA) none] (wkA s fl w) (fun r row' => (w.links = 8 ∧ r = .v (.int .i64 40) ∧ row' = wkA s fl w) ∨ (w.links ≠ 8 ∧ r = .v (.int .i64 0) ∧ row' = wkA s fl (lnkW s tg rest w))) := by
  have hpl := splS_len tg
  refine enter Try.func58 rfl rfl rfl rfl rfl 1 rfl ?_
  refine w_ (a_ (h:=e_ (q_ (w_ (m_ (h:=k_ (h:=f_ (h:=l_ (h:=eq_ (h:=e_ (?_)))))))))))
  refine aw_cond rfl (fun hb1 => ?_) (fun hb1 => ?_)
  · have hc1 := bp hb1
    refine w_ (a_ (h:=e_ (aw_ret (x_thenR (?_)))))
    refine rt_ none (h5 := (LeA.refl _)) (h6 := ⟨_, rfl, rfl, .inl ⟨by omega, rfl, rfl⟩⟩)
  · have hc1 := bp hb1
    refine kt_ (w_ (m_ (h:=k_ (h:=f_ (h:=l_ (h:=?_))))))
    refine al_p rfl (st_add64 rfl rfl (by omega) ?_)
    refine k_ (h:=f_ (h:=s_ (h:=e_ (w_ (m_ (h:=?_))))))
    refine al_p rfl (q_call (Psplit tg htg) ?_)
    rintro r rfl
    refine m_ (h:=x_ (h:=x_ (h:=x_ (h:=a_ (h:=a_ (h:=a_ (h:=e_ (w_ (m_ (h:=m_ (h:=m_ (h:=n_ (h:=m_ (h:=n_ (h:=?_)))))))))))))))
    refine al_app3 rfl rfl rfl rfl rfl rfl rfl rfl rfl rfl (by simp; omega) ?_
    refine k_ (h:=f_ (h:=s_ (h:=e_ (q_ (w_ (m_ (h:=?_)))))))
    refine al_p rfl (q_call (PhasP tg) ?_)
    rintro r rfl
    refine e_ (?_)
    refine aw_cond rfl (fun hb2 => ?_) (fun hb2 => ?_)
    · have hc2 := bp hb2
      refine aw_region (m_ (h:=m_ (h:=m_ (h:=m_ (h:=k_ (h:=f_ (h:=l_ (h:=?_))))))))
      refine al_p rfl (q_call (Proot s hs) ?_)
      rintro r rfl
      refine bd_ (h:=k_ (h:=f_ (h:=s_ (h:=k_ (h:=f_ (h:=s_ (h:=k_ (h:=f_ (h:=s_ (h:=e_ (w_ (a_ (h:=e_ (aw_ret (?_)))))))))))))))
      refine rt_ none (h5 := (LeA.refl _)) (h6 := ⟨_, rfl, rfl, .inr ⟨by omega, rfl, by simp only [wkA, lnkW, if_pos hc2, List.map_append]; rfl⟩⟩)
    · have hc2 := bp hb2
      refine kt_ (w_ (a_ (h:=e_ (aw_ret (?_)))))
      refine rt_ none (h5 := (LeA.refl _)) (h6 := ⟨_, rfl, rfl, .inr ⟨by omega, rfl, by simp only [wkA, lnkW, hc2, if_neg (show ¬ false = true by simp), List.map_append]; rfl⟩⟩)

theorem Pstep (s : Spc) (fl : Bool) (w : Wk) (p : Str) (ps : List Str) (hps : w.ps = p :: ps) (hs : SpcB s) (hv : SpcV s) (h8 : w.links ≤ 8) (hrl : ps.length ≤ 500000) : AFnB Try.prog 29 [.bp 0 0] (wkA s fl w) (fun r row' => (∃ e, stp s fl p ps w = .inl e ∧ e ≠ 0 ∧ r = .v (.int .i64 e) ∧ row' = wkA s fl w) ∨ ∃ w', stp s fl p ps w = .inr w' ∧ r = .v (.int .i64 0) ∧ row' = wkA s fl w') := by
  obtain ⟨ps0, a, dr, nm, mi, lk⟩ := w
  simp only at hps h8
  subst hps
  have hml : (ps.map strA).length = ps.length := by simp
  have htg := nodG_target hv.files (lookL s.files a p).1
  refine enter Try.func29 rfl rfl rfl rfl rfl 1 rfl ?_
  refine w_ (a_ (h:=e_ (q_ (yk_ ([(0, wkA s fl ⟨p :: ps, a, dr, nm, mi, lk⟩)]) 13 (h:=dm_ 0 (h:=dk_ 1 (h:=df_ 2 (h:=dl_ 3 (h:=?_)))))))))
  refine tk_ 4 rfl (fun _ hS => st_index (n := 0) rfl rfl rfl rfl ⟨rfl, rfl⟩) ?_
  refine dl_ 5 (h:=dm_ 6 (h:=dk_ 7 (h:=df_ 8 (h:=dl_ 9 (h:=?_)))))
  refine tk_ 10 rfl (fun _ hS => st_sliceLo (l := 1) rfl rfl rfl (by simp) ⟨rfl, rfl⟩) ?_
  refine da_ 11 (h:=da_ 12 (h:=z_ (h:=t_ (q_ (w_ (m_ (h:=?_)))))))
  refine al_p rfl (s_callR 1 rfl (.cons _ _ _ _ _ rfl (LeA.refl _) .nil) (PdirW s fl ⟨p :: ps, a, dr, nm, mi, lk⟩ hs) ?_)
  rintro r rfl
  refine ⟨rfl, ?_⟩
  refine nt_ (h:=e_ (?_))
  refine aw_cond rfl (fun hb1 => ?_) (fun hb1 => ?_)
  · have hc1 := bp hb1
    refine w_ (a_ (h:=e_ (aw_ret (x_thenR (?_)))))
    refine rt_ none (h5 := (LeA.refl _)) (h6 := ⟨_, rfl, rfl, .inl ⟨20, by unfold stp; rw [if_pos hc1], by decide, rfl, rfl⟩⟩)
  · have hc1 := bp hb1
    refine kt_ (q_ (w_ (m_ (h:=n_ (h:=gt_ (h:=e_ (?_)))))))
    refine aw_cond rfl (fun hb2 => ?_) (fun hb2 => ?_)
    · have hc2 := bp hb2
      refine w_ (a_ (h:=e_ (aw_ret (x_thenR (?_)))))
      refine rt_ none (h5 := (LeA.refl _)) (h6 := ⟨_, rfl, rfl, .inl ⟨36, by unfold stp; rw [if_neg (by simp [hc1]), if_pos (by omega)], by decide, rfl, rfl⟩⟩)
    · have hc2 := bp hb2
      refine kt_ (q_ (w_ (m_ (h:=e_ (aw_block (q_ (aw_block (q_ (aw_block (q_ (q_ (w_ (eq_ (h:=a_ (h:=e_ (?_))))))))))))))))
      refine aw_cond rfl (fun hb3 => ?_) (fun hb3 => ?_)
      · have hc3 := bp hb3
        refine aw_exit (x_thenE (x_thenE (ABlock_out (t_ (?_)))))
        refine aw_draw (fun h => ∃ x y, h.bx = [[.sl 2 (s.files.map dvcA) none, .sl 3 (s.mounts.map mntA) none, .sl 1 ((p :: ps).map strA) none, x, y, .v (.int .i64 dr.1), .v (.int .i64 dr.2), .v (.string nm), .v (.bool mi), .v (.bool fl), .v (.int .i64 (lk : Int))]]) 18 (by kernel_rfl) ?_
        refine aa_t (i := 0) rfl rfl (by kernel_rfl) (by first | rfl | exact wan_y rfl rfl (beq_tt ‹_›) | exact wan_y rfl rfl (beq_ff ‹_›) | exact wan_y rfl rfl (by simp [*])) (fun h0 hS => st_move rfl ⟨rfl, rfl⟩) ⟨_, _, rfl⟩ ?_
        refine aa_t (i := 1) rfl rfl (by kernel_rfl) (by first | rfl | exact wan_y rfl rfl (beq_tt ‹_›) | exact wan_y rfl rfl (beq_ff ‹_›) | exact wan_y rfl rfl (by simp [*])) (fun h0 hS => st_move rfl ⟨rfl, rfl⟩) ⟨_, _, rfl⟩ ?_
        first | refine aa_t (i := 2) rfl rfl (by kernel_rfl) (by first | rfl | exact wan_y rfl rfl (beq_tt ‹_›) | exact wan_y rfl rfl (beq_ff ‹_›) | exact wan_y rfl rfl (by simp [*])) (fun h0 hS => st_nilB rfl ⟨rfl, rfl⟩) ⟨_, _, rfl⟩ ?_ | refine aa_t (i := 2) rfl rfl (by kernel_rfl) (by first | rfl | exact wan_y rfl rfl (beq_tt ‹_›) | exact wan_y rfl rfl (beq_ff ‹_›) | exact wan_y rfl rfl (by simp [*])) (fun h0 hS => st_nilF rfl ⟨rfl, rfl⟩) ⟨_, _, rfl⟩ ?_
        first | refine aa_t (i := 3) rfl rfl (by kernel_rfl) (by first | rfl | exact wan_y rfl rfl (beq_tt ‹_›) | exact wan_y rfl rfl (beq_ff ‹_›) | exact wan_y rfl rfl (by simp [*])) (fun h0 hS => st_fieldB rfl ⟨rfl, rfl⟩) ⟨_, _, rfl⟩ ?_ | refine aa_t (i := 3) rfl rfl (by kernel_rfl) (by first | rfl | exact wan_y rfl rfl (beq_tt ‹_›) | exact wan_y rfl rfl (beq_ff ‹_›) | exact wan_y rfl rfl (by simp [*])) (fun h0 hS => st_fieldF rfl ⟨rfl, rfl⟩) ⟨_, _, rfl⟩ ?_
        first | refine aa_t (i := 4) rfl rfl (by kernel_rfl) (by first | rfl | exact wan_y rfl rfl (beq_tt ‹_›) | exact wan_y rfl rfl (beq_ff ‹_›) | exact wan_y rfl rfl (by simp [*])) (fun h0 hS => by obtain ⟨x, y, e⟩ := hS; exact st_loadBN (row := [.sl 2 (s.files.map dvcA) none, .sl 3 (s.mounts.map mntA) none, .sl 1 ((p :: ps).map strA) none, x, y, .v (.int .i64 dr.1), .v (.int .i64 dr.2), .v (.string nm), .v (.bool mi), .v (.bool fl), .v (.int .i64 (lk : Int))]) rfl (by rw [e]; rfl) rfl (show _ = AV.agg (spcA s) ∧ _ from ⟨rfl, rfl⟩)) ⟨_, _, rfl⟩ ?_ | refine aa_t (i := 4) rfl rfl (by kernel_rfl) (by first | rfl | exact wan_y rfl rfl (beq_tt ‹_›) | exact wan_y rfl rfl (beq_ff ‹_›) | exact wan_y rfl rfl (by simp [*])) (fun h0 hS => st_loadB1 rfl rfl rfl ⟨rfl, rfl⟩) ⟨_, _, rfl⟩ ?_ | refine aa_t (i := 4) rfl rfl (by kernel_rfl) (by first | rfl | exact wan_y rfl rfl (beq_tt ‹_›) | exact wan_y rfl rfl (beq_ff ‹_›) | exact wan_y rfl rfl (by simp [*])) (fun h0 hS => st_loadBW rfl rfl rfl ⟨rfl, rfl⟩) ⟨_, _, rfl⟩ ?_ | refine aa_t (i := 4) rfl rfl (by kernel_rfl) (by first | rfl | exact wan_y rfl rfl (beq_tt ‹_›) | exact wan_y rfl rfl (beq_ff ‹_›) | exact wan_y rfl rfl (by simp [*])) (fun h0 hS => st_loadF1 rfl rfl ⟨rfl, rfl⟩) ⟨_, _, rfl⟩ ?_ | refine aa_t (i := 4) rfl rfl (by kernel_rfl) (by first | rfl | exact wan_y rfl rfl (beq_tt ‹_›) | exact wan_y rfl rfl (beq_ff ‹_›) | exact wan_y rfl rfl (by simp [*])) (fun h0 hS => st_loadFW rfl rfl ⟨rfl, rfl⟩) ⟨_, _, rfl⟩ ?_ | refine aa_t (i := 4) rfl rfl (by kernel_rfl) (by first | rfl | exact wan_y rfl rfl (beq_tt ‹_›) | exact wan_y rfl rfl (beq_ff ‹_›) | exact wan_y rfl rfl (by simp [*])) (fun h0 hS => st_loadBN rfl rfl rfl ⟨rfl, rfl⟩) ⟨_, _, rfl⟩ ?_ | refine aa_t (i := 4) rfl rfl (by kernel_rfl) (by first | rfl | exact wan_y rfl rfl (beq_tt ‹_›) | exact wan_y rfl rfl (beq_ff ‹_›) | exact wan_y rfl rfl (by simp [*])) (fun h0 hS => st_loadFN rfl rfl ⟨rfl, rfl⟩) ⟨_, _, rfl⟩ ?_
        refine aa_t (i := 5) rfl rfl (by kernel_rfl) (by first | rfl | exact wan_y rfl rfl (beq_tt ‹_›) | exact wan_y rfl rfl (beq_ff ‹_›) | exact wan_y rfl rfl (by simp [*])) (fun h0 hS => st_move rfl ⟨rfl, rfl⟩) ⟨_, _, rfl⟩ ?_
        first | refine aa_t (i := 6) rfl rfl (by kernel_rfl) (by first | rfl | exact wan_y rfl rfl (beq_tt ‹_›) | exact wan_y rfl rfl (beq_ff ‹_›) | exact wan_y rfl rfl (by simp [*])) (fun h0 hS => st_nilB rfl ⟨rfl, rfl⟩) ⟨_, _, rfl⟩ ?_ | refine aa_t (i := 6) rfl rfl (by kernel_rfl) (by first | rfl | exact wan_y rfl rfl (beq_tt ‹_›) | exact wan_y rfl rfl (beq_ff ‹_›) | exact wan_y rfl rfl (by simp [*])) (fun h0 hS => st_nilF rfl ⟨rfl, rfl⟩) ⟨_, _, rfl⟩ ?_
        first | refine aa_t (i := 7) rfl rfl (by kernel_rfl) (by first | rfl | exact wan_y rfl rfl (beq_tt ‹_›) | exact wan_y rfl rfl (beq_ff ‹_›) | exact wan_y rfl rfl (by simp [*])) (fun h0 hS => st_fieldB rfl ⟨rfl, rfl⟩) ⟨_, _, rfl⟩ ?_ | refine aa_t (i := 7) rfl rfl (by kernel_rfl) (by first | rfl | exact wan_y rfl rfl (beq_tt ‹_›) | exact wan_y rfl rfl (beq_ff ‹_›) | exact wan_y rfl rfl (by simp [*])) (fun h0 hS => st_fieldF rfl ⟨rfl, rfl⟩) ⟨_, _, rfl⟩ ?_
        first | refine aa_t (i := 8) rfl rfl (by kernel_rfl) (by first | rfl | exact wan_y rfl rfl (beq_tt ‹_›) | exact wan_y rfl rfl (beq_ff ‹_›) | exact wan_y rfl rfl (by simp [*])) (fun h0 hS => by obtain ⟨x, y, e⟩ := hS; exact st_loadBN (row := [.sl 2 (s.files.map dvcA) none, .sl 3 (s.mounts.map mntA) none, .sl 1 ((p :: ps).map strA) none, x, y, .v (.int .i64 dr.1), .v (.int .i64 dr.2), .v (.string nm), .v (.bool mi), .v (.bool fl), .v (.int .i64 (lk : Int))]) rfl (by rw [e]; rfl) rfl (show _ = AV.agg (spcA s) ∧ _ from ⟨rfl, rfl⟩)) ⟨_, _, rfl⟩ ?_ | refine aa_t (i := 8) rfl rfl (by kernel_rfl) (by first | rfl | exact wan_y rfl rfl (beq_tt ‹_›) | exact wan_y rfl rfl (beq_ff ‹_›) | exact wan_y rfl rfl (by simp [*])) (fun h0 hS => st_loadB1 rfl rfl rfl ⟨rfl, rfl⟩) ⟨_, _, rfl⟩ ?_ | refine aa_t (i := 8) rfl rfl (by kernel_rfl) (by first | rfl | exact wan_y rfl rfl (beq_tt ‹_›) | exact wan_y rfl rfl (beq_ff ‹_›) | exact wan_y rfl rfl (by simp [*])) (fun h0 hS => st_loadBW rfl rfl rfl ⟨rfl, rfl⟩) ⟨_, _, rfl⟩ ?_ | refine aa_t (i := 8) rfl rfl (by kernel_rfl) (by first | rfl | exact wan_y rfl rfl (beq_tt ‹_›) | exact wan_y rfl rfl (beq_ff ‹_›) | exact wan_y rfl rfl (by simp [*])) (fun h0 hS => st_loadF1 rfl rfl ⟨rfl, rfl⟩) ⟨_, _, rfl⟩ ?_ | refine aa_t (i := 8) rfl rfl (by kernel_rfl) (by first | rfl | exact wan_y rfl rfl (beq_tt ‹_›) | exact wan_y rfl rfl (beq_ff ‹_›) | exact wan_y rfl rfl (by simp [*])) (fun h0 hS => st_loadFW rfl rfl ⟨rfl, rfl⟩) ⟨_, _, rfl⟩ ?_ | refine aa_t (i := 8) rfl rfl (by kernel_rfl) (by first | rfl | exact wan_y rfl rfl (beq_tt ‹_›) | exact wan_y rfl rfl (beq_ff ‹_›) | exact wan_y rfl rfl (by simp [*])) (fun h0 hS => st_loadBN rfl rfl rfl ⟨rfl, rfl⟩) ⟨_, _, rfl⟩ ?_ | refine aa_t (i := 8) rfl rfl (by kernel_rfl) (by first | rfl | exact wan_y rfl rfl (beq_tt ‹_›) | exact wan_y rfl rfl (beq_ff ‹_›) | exact wan_y rfl rfl (by simp [*])) (fun h0 hS => st_loadFN rfl rfl ⟨rfl, rfl⟩) ⟨_, _, rfl⟩ ?_
        refine aa_t (i := 9) rfl rfl (by kernel_rfl) (by first | rfl | exact wan_y rfl rfl (beq_tt ‹_›) | exact wan_y rfl rfl (beq_ff ‹_›) | exact wan_y rfl rfl (by simp [*])) (fun h0 hS => st_move rfl ⟨rfl, rfl⟩) ⟨_, _, rfl⟩ ?_
        first | refine aa_t (i := 10) rfl rfl (by kernel_rfl) (by first | rfl | exact wan_y rfl rfl (beq_tt ‹_›) | exact wan_y rfl rfl (beq_ff ‹_›) | exact wan_y rfl rfl (by simp [*])) (fun h0 hS => st_nilB rfl ⟨rfl, rfl⟩) ⟨_, _, rfl⟩ ?_ | refine aa_t (i := 10) rfl rfl (by kernel_rfl) (by first | rfl | exact wan_y rfl rfl (beq_tt ‹_›) | exact wan_y rfl rfl (beq_ff ‹_›) | exact wan_y rfl rfl (by simp [*])) (fun h0 hS => st_nilF rfl ⟨rfl, rfl⟩) ⟨_, _, rfl⟩ ?_
        first | refine aa_t (i := 11) rfl rfl (by kernel_rfl) (by first | rfl | exact wan_y rfl rfl (beq_tt ‹_›) | exact wan_y rfl rfl (beq_ff ‹_›) | exact wan_y rfl rfl (by simp [*])) (fun h0 hS => st_fieldB rfl ⟨rfl, rfl⟩) ⟨_, _, rfl⟩ ?_ | refine aa_t (i := 11) rfl rfl (by kernel_rfl) (by first | rfl | exact wan_y rfl rfl (beq_tt ‹_›) | exact wan_y rfl rfl (beq_ff ‹_›) | exact wan_y rfl rfl (by simp [*])) (fun h0 hS => st_fieldF rfl ⟨rfl, rfl⟩) ⟨_, _, rfl⟩ ?_
        first | refine c_ 12 rfl (st_loadB1 rfl rfl rfl ?_) | refine c_ 12 rfl (st_loadBW rfl rfl rfl ?_) | refine c_ 12 rfl (st_loadF1 rfl rfl ?_) | refine c_ 12 rfl (st_loadFW rfl rfl ?_) | refine c_ 12 rfl (st_loadBN rfl rfl rfl ?_) | refine c_ 12 rfl (st_loadFN rfl rfl ?_)
        refine ⟨.inr ⟨_, _, rfl⟩, ?_⟩
        refine c_ 13 rfl (q_call (PupS hs hv a) ?_)
        rintro r rfl
        refine ⟨.inr ⟨_, _, rfl⟩, ?_⟩
        refine c_ 14 rfl (q_call (Pdown s (upF s (s.mounts.length + 1) a) hs) ?_)
        rintro r rfl
        refine ⟨.inr ⟨_, _, rfl⟩, ?_⟩
        first | refine aa_t (i := 15) rfl rfl (by kernel_rfl) (by first | rfl | exact wan_y rfl rfl (beq_tt ‹_›) | exact wan_y rfl rfl (beq_ff ‹_›) | exact wan_y rfl rfl (by simp [*])) (fun h0 hS => st_nilB rfl ⟨rfl, rfl⟩) ⟨_, _, rfl⟩ ?_ | refine aa_t (i := 15) rfl rfl (by kernel_rfl) (by first | rfl | exact wan_y rfl rfl (beq_tt ‹_›) | exact wan_y rfl rfl (beq_ff ‹_›) | exact wan_y rfl rfl (by simp [*])) (fun h0 hS => st_nilF rfl ⟨rfl, rfl⟩) ⟨_, _, rfl⟩ ?_
        first | refine aa_t (i := 16) rfl rfl (by kernel_rfl) (by first | rfl | exact wan_y rfl rfl (beq_tt ‹_›) | exact wan_y rfl rfl (beq_ff ‹_›) | exact wan_y rfl rfl (by simp [*])) (fun h0 hS => st_fieldB rfl ⟨rfl, rfl⟩) ⟨_, _, rfl⟩ ?_ | refine aa_t (i := 16) rfl rfl (by kernel_rfl) (by first | rfl | exact wan_y rfl rfl (beq_tt ‹_›) | exact wan_y rfl rfl (beq_ff ‹_›) | exact wan_y rfl rfl (by simp [*])) (fun h0 hS => st_fieldF rfl ⟨rfl, rfl⟩) ⟨_, _, rfl⟩ ?_
        refine c0_ 17 rfl (s_store rfl rfl rfl rfl rfl rfl (by repeat constructor) (by repeat constructor) ?_)
        refine ⟨.inr ⟨_, _, rfl⟩, ?_⟩
        refine z_ (h:=x_blockN (t_ (q_ (w_ (m_ (h:=m_ (h:=m_ (h:=m_ (h:=bd_ (h:=k_ (h:=f_ (h:=s_ (h:=k_ (h:=f_ (h:=s_ (h:=k_ (h:=f_ (h:=s_ (h:=e_ (w_ (a_ (h:=e_ (aw_ret (?_))))))))))))))))))))))))
        refine x_thenR (x_blockR (x_thenR (?_)))
        refine rt_ none (h5 := (LeA.refl _)) (h6 := ⟨_, rfl, rfl, .inr ⟨⟨ps, itD s s.mounts.length (upF s (s.mounts.length + 1) a), (0, 0), ⟨#[]⟩, mi, lk⟩, by unfold stp; rw [if_neg (by simp [hc1]), if_neg (by omega), if_pos hc3], rfl, rfl⟩⟩)
      · have hc3 := bp hb3
        refine kt_ (w_ (eq_ (h:=a_ (h:=e_ (?_)))))
        refine aw_cond rfl (fun hb4 => ?_) (fun hb4 => ?_)
        · have hc4 := bp hb4
          refine aw_exit (x_thenE (ABlock_far rfl (x_thenE (ABlock_out (t_ (q_ (w_ (m_ (h:=m_ (h:=m_ (h:=m_ (h:=bd_ (h:=k_ (h:=f_ (h:=s_ (h:=k_ (h:=f_ (h:=s_ (h:=k_ (h:=f_ (h:=s_ (h:=e_ (w_ (?_))))))))))))))))))))))))
          refine a_ (h:=e_ (aw_ret (x_thenR (x_blockR (x_thenR (?_))))))
          refine rt_ none (h5 := (LeA.refl _)) (h6 := ⟨_, rfl, rfl, .inr ⟨⟨ps, a, (0, 0), ⟨#[]⟩, mi, lk⟩, by unfold stp; rw [if_neg (by simp [hc1]), if_neg (by omega), if_neg hc3, if_pos hc4], rfl, rfl⟩⟩)
        · have hc4 := bp hb4
          refine kt_ (aw_exit (ABlock_far rfl (x_thenE (ABlock_far rfl (x_thenE (ABlock_out (t_ (q_ (w_ (m_ (h:=?_)))))))))))
          refine al_p rfl (q_call (Pname p) ?_)
          rintro r rfl
          refine nt_ (h:=e_ (?_))
          refine aw_cond rfl (fun hb5 => ?_) (fun hb5 => ?_)
          · have hc5 := bp hb5
            refine w_ (a_ (h:=e_ (aw_ret (x_thenR (?_)))))
            refine rt_ none (h5 := (LeA.refl _)) (h6 := ⟨_, rfl, rfl, .inl ⟨2, by unfold stp; rw [if_neg (by simp [hc1]), if_neg (by omega), if_neg hc3, if_neg hc4, if_pos hc5], by decide, rfl, rfl⟩⟩)
          · have hc5 := bp hb5
            refine kt_ (?_)
            refine aw_mid (⟨look [(0, .bp 0 0), (3, .v (.string p)), (4, .sl 1 (ps.map strA) none), (5, .bp 1 0), (6, .v (.int .i64 (lookL s.files a p).2))], ⟨[wkA s fl ⟨p :: ps, a, dr, nm, mi, lk⟩, filA (lookL s.files a p).1], []⟩⟩) ?_ ?_
            · skip
              refine yk_ ([(0, wkA s fl ⟨p :: ps, a, dr, nm, mi, lk⟩)]) 17 (h:=dm_ 0 (h:=dk_ 1 (h:=df_ 2 (h:=df_ 3 (h:=dl_ 4 (h:=dm_ 5 (h:=dk_ 6 (h:=df_ 7 (h:=dl_ 8 (h:=dm_ 9 (h:=?_)))))))))))
              refine c2_ 10 14 rfl rfl ?_ ?_
              · refine q_call (Plook s.files a p hs.files) ?_
                rintro r rfl
                refine o_ (h:=?_)
                refine dm_ 11 (h:=dx_ 12 (h:=dx_ 13 (h:=?_)))
                refine c_ 14 rfl (s_alloc (by repeat constructor) ?_)
                refine o_ (h:=?_)
                refine c0_ 15 rfl (s_store rfl rfl rfl rfl rfl rfl (by repeat constructor) (by repeat constructor) ?_)
                refine o_ (h:=da_ 16 (h:=z_ (h:=?_)))
                refine x_then ?_
                first | (exfalso; first | contradiction | omega) | exact weak_of 2 0 rfl rfl rfl rfl (by repeat (first | exact Sub.nil | refine Sub.cons _ _ _ rfl rfl ?_ | refine Sub.any _ _ ?_ | refine Sub.sl _ _ _ _ _ rfl ?_ | refine Sub.slnil _ _ _ rfl ?_ | (apply Sub.of; (focus exact rfl); (focus exact LeA.of_eq (vb (by rfl))); (focus exact rfl))))
              · refine s_alloc (by repeat constructor) ?_
                refine o_ (h:=?_)
                refine c_ 10 rfl (q_call (Plook s.files a p hs.files) ?_)
                rintro r rfl
                refine o_ (h:=dm_ 11 (h:=dx_ 12 (h:=dx_ 13 (h:=?_))))
                refine c0_ 15 rfl (s_store rfl rfl rfl rfl rfl rfl (by repeat constructor) (by repeat constructor) ?_)
                refine o_ (h:=da_ 16 (h:=z_ (h:=?_)))
                refine x_then ?_
                first | (exfalso; first | contradiction | omega) | exact weak_of 2 0 rfl rfl rfl rfl (by repeat (first | exact Sub.nil | refine Sub.cons _ _ _ rfl rfl ?_ | refine Sub.any _ _ ?_ | refine Sub.sl _ _ _ _ _ rfl ?_ | refine Sub.slnil _ _ _ rfl ?_ | (apply Sub.of; (focus exact rfl); (focus exact LeA.of_eq (vb (by rfl))); (focus exact rfl))))
            · skip
              refine q_ (w_ (m_ (h:=nq_ (h:=e_ (?_)))))
              refine aw_cond rfl (fun hb6 => ?_) (fun hb6 => ?_)
              · have hc6 := bp hb6
                refine q_ (w_ (m_ (h:=n_ (h:=gt_ (h:=e_ (?_))))))
                refine aw_cond rfl (fun hb7 => ?_) (fun hb7 => ?_)
                · have hc7 := bp hb7
                  have hps : ps ≠ [] := fun e => by rw [e] at hml hc7; simp at hc7
                  refine w_ (a_ (h:=e_ (aw_ret (x_thenR (x_thenR (?_))))))
                  refine rt_ none (h5 := (LeA.refl _)) (h6 := ⟨_, rfl, rfl, .inl ⟨2, by unfold stp; rw [if_neg (by simp [hc1]), if_neg (by omega), if_neg hc3, if_neg hc4, if_neg (by simp [hc5]), if_pos hc6, if_pos hps], by decide, rfl, rfl⟩⟩)
                · have hc7 := bp hb7
                  have hps : ¬ ps ≠ [] := fun e => e (List.eq_nil_of_length_eq_zero (by omega))
                  refine kt_ (w_ (m_ (h:=m_ (h:=m_ (h:=m_ (h:=m_ (h:=m_ (h:=k_ (h:=f_ (h:=l_ (h:=m_ (h:=k_ (h:=f_ (h:=s_ (h:=k_ (h:=f_ (h:=s_ (h:=k_ (h:=f_ (h:=s_ (h:=k_ (h:=f_ (h:=s_ (h:=?_))))))))))))))))))))))))
                  refine e_ (w_ (a_ (h:=e_ (aw_ret (x_thenR (?_))))))
                  refine rt_ none (h5 := (LeA.refl _)) (h6 := ⟨_, rfl, rfl, .inr ⟨⟨ps, a, a, p, true, lk⟩, by unfold stp; rw [if_neg (by simp [hc1]), if_neg (by omega), if_neg hc3, if_neg hc4, if_neg (by simp [hc5]), if_pos hc6, if_neg hps], rfl, rfl⟩⟩)
              · have hc6 := bp hb6
                refine kt_ (?_)
                refine aw_mid (⟨look [(0, .bp 0 0), (3, .v (.string p)), (4, .sl 1 (ps.map strA) none), (5, .bp 1 0), (7, .bp 2 0)], ⟨[wkA s fl ⟨p :: ps, a, dr, nm, mi, lk⟩, filA (lookL s.files a p).1, nodA (nodG s.files (lookL s.files a p).1)], []⟩⟩) ?_ ?_
                · skip
                  refine yk_ ([(0, wkA s fl ⟨p :: ps, a, dr, nm, mi, lk⟩), (1, filA (lookL s.files a p).1)]) 13 (h:=dm_ 0 (h:=dk_ 1 (h:=df_ 2 (h:=df_ 3 (h:=dl_ 4 (h:=dl_ 5 (h:=?_)))))))
                  refine c2_ 6 10 rfl rfl ?_ ?_
                  · refine q_call (Pnode s.files (lookL s.files a p).1 hs.files) ?_
                    rintro r rfl
                    refine o_ (h:=?_)
                    refine dm_ 7 (h:=dx_ 8 (h:=dx_ 9 (h:=?_)))
                    refine c_ 10 rfl (s_alloc (by repeat constructor) ?_)
                    refine o_ (h:=?_)
                    refine c0_ 11 rfl (s_store rfl rfl rfl rfl rfl rfl (by repeat constructor) (by repeat constructor) ?_)
                    refine o_ (h:=da_ 12 (h:=z_ (h:=?_)))
                    refine x_then ?_
                    first | (exfalso; first | contradiction | omega) | exact weak_of 3 0 rfl rfl rfl rfl (by repeat (first | exact Sub.nil | refine Sub.cons _ _ _ rfl rfl ?_ | refine Sub.any _ _ ?_ | refine Sub.sl _ _ _ _ _ rfl ?_ | refine Sub.slnil _ _ _ rfl ?_ | (apply Sub.of; (focus exact rfl); (focus exact LeA.of_eq (vb (by rfl))); (focus exact rfl))))
                  · refine s_alloc (by repeat constructor) ?_
                    refine o_ (h:=?_)
                    refine c_ 6 rfl (q_call (Pnode s.files (lookL s.files a p).1 hs.files) ?_)
                    rintro r rfl
                    refine o_ (h:=dm_ 7 (h:=dx_ 8 (h:=dx_ 9 (h:=?_))))
                    refine c0_ 11 rfl (s_store rfl rfl rfl rfl rfl rfl (by repeat constructor) (by repeat constructor) ?_)
                    refine o_ (h:=da_ 12 (h:=z_ (h:=?_)))
                    refine x_then ?_
                    first | (exfalso; first | contradiction | omega) | exact weak_of 3 0 rfl rfl rfl rfl (by repeat (first | exact Sub.nil | refine Sub.cons _ _ _ rfl rfl ?_ | refine Sub.any _ _ ?_ | refine Sub.sl _ _ _ _ _ rfl ?_ | refine Sub.slnil _ _ _ rfl ?_ | (apply Sub.of; (focus exact rfl); (focus exact LeA.of_eq (vb (by rfl))); (focus exact rfl))))
                · skip
                  refine q_ (?_)
                  refine aw_mid (⟨look [(0, .bp 0 0), (3, .v (.string p)), (4, .sl 1 (ps.map strA) none), (5, .bp 1 0), (7, .bp 2 0), (122, .v (.bool (decide ((nodG s.files (lookL s.files a p).1).kind = 3) && (decide (0 < ((ps.map strA).length : Int)) || fl))))], ⟨[wkA s fl ⟨p :: ps, a, dr, nm, mi, lk⟩, filA (lookL s.files a p).1, nodA (nodG s.files (lookL s.files a p).1)], []⟩⟩) ?_ ?_
                  · skip
                    refine aw_region (f_ (h:=l_ (h:=eq_ (h:=m_ (h:=?_)))))
                    refine al_gs true rfl rfl (fun hb8 => ?_) (fun hb8 => ?_)
                    · have hc8 := bp hb8
                      refine m_ (h:=n_ (h:=gt_ (h:=m_ (h:=?_))))
                      refine al_gs false rfl rfl (fun hb9 => ?_) (fun hb9 => ?_)
                      · have hc9 := bp hb9
                        refine g0_ (h:=g0_ (h:=g0_ (h:=g0_ (h:=pt_ (h:=pt_ (h:=al_nil (?_)))))))
                        refine x_then ?_
                        first | (exfalso; first | contradiction | omega) | exact weak_of 3 0 rfl rfl rfl rfl (by repeat (first | exact Sub.nil | refine Sub.cons _ _ _ rfl rfl ?_ | refine Sub.any _ _ ?_ | refine Sub.sl _ _ _ _ _ rfl ?_ | refine Sub.slnil _ _ _ rfl ?_ | (apply Sub.of; (focus exact rfl); (focus exact LeA.of_eq (vb (by first | (rw [hb8]; rfl) | (rw [hb8, hb9]; rfl)))); (focus exact rfl))))
                      · have hc9 := bp hb9
                        refine m_ (h:=k_ (h:=f_ (h:=l_ (h:=pf_ (h:=pt_ (h:=al_nil (?_)))))))
                        refine x_then ?_
                        first | (exfalso; first | contradiction | omega) | exact weak_of 3 0 rfl rfl rfl rfl (by repeat (first | exact Sub.nil | refine Sub.cons _ _ _ rfl rfl ?_ | refine Sub.any _ _ ?_ | refine Sub.sl _ _ _ _ _ rfl ?_ | refine Sub.slnil _ _ _ rfl ?_ | (apply Sub.of; (focus exact rfl); (focus exact LeA.of_eq (vb (by first | (rw [hb8]; rfl) | (rw [hb8, hb9]; rfl)))); (focus exact rfl))))
                    · have hc8 := bp hb8
                      refine g0_ (h:=g0_ (h:=g0_ (h:=g0_ (h:=gu_ (h:=gu_ (h:=gu_ (h:=gu_ (h:=g0_ (h:=pf_ (h:=al_nil (?_)))))))))))
                      refine x_then ?_
                      first | (exfalso; first | contradiction | omega) | exact weak_of 3 0 rfl rfl rfl rfl (by repeat (first | exact Sub.nil | refine Sub.cons _ _ _ rfl rfl ?_ | refine Sub.any _ _ ?_ | refine Sub.sl _ _ _ _ _ rfl ?_ | refine Sub.slnil _ _ _ rfl ?_ | (apply Sub.of; (focus exact rfl); (focus exact LeA.of_eq (vb (by first | (rw [hb8]; rfl) | (rw [hb8, hb9]; rfl)))); (focus exact rfl))))
                  · skip
                    refine aw_cond rfl (fun hb10 => ?_) (fun hb10 => ?_)
                    · have hc10 := bp hb10
                      have hlk : (nodG s.files (lookL s.files a p).1).kind = 3 ∧ (ps ≠ [] ∨ fl = true) := by
                        simp only [Bool.and_eq_true, Bool.or_eq_true, decide_eq_true_eq] at hc10
                        exact ⟨hc10.1, hc10.2.imp (fun h e => by rw [e] at h; simp at h) id⟩
                      refine w_ (m_ (h:=f_ (h:=l_ (h:=m_ (h:=?_)))))
                      refine al_p rfl (s_callB 0 rfl (by repeat (first | exact ArgsB.nil | refine ArgsB.cons _ _ _ _ _ rfl rfl ?_)) rfl rfl (Plink s fl ⟨p :: ps, a, dr, nm, mi, lk⟩ (nodG s.files (lookL s.files a p).1).target ps hs h8 (by omega) hrl) ?_)
                      rintro r row2 (⟨h9, rfl, rfl⟩ | ⟨h9, rfl, rfl⟩)
                      · refine ⟨bp_wk _ _ _, rfl, _, (by repeat constructor), ?_⟩
                        refine a_ (h:=e_ (aw_ret (x_thenR (?_))))
                        refine rt_ none (h5 := (LeA.refl _)) (h6 := ⟨_, rfl, rfl, .inl ⟨40, by unfold stp; rw [if_neg (by simp [hc1]), if_neg (by omega), if_neg hc3, if_neg hc4, if_neg (by simp [hc5]), if_neg (by simp [hc6]), if_pos hlk, if_pos h9], by decide, rfl, rfl⟩⟩)
                      · refine ⟨bp_wk _ _ _, rfl, _, (by repeat constructor), ?_⟩
                        refine a_ (h:=e_ (aw_ret (x_thenR (?_))))
                        refine rt_ none (h5 := (LeA.refl _)) (h6 := ⟨_, rfl, rfl, .inr ⟨lnkW s (nodG s.files (lookL s.files a p).1).target ps ⟨p :: ps, a, dr, nm, mi, lk⟩, by unfold stp; rw [if_neg (by simp [hc1]), if_neg (by omega), if_neg hc3, if_neg hc4, if_neg (by simp [hc5]), if_neg (by simp [hc6]), if_pos hlk, if_neg h9]; rfl, rfl, rfl⟩⟩)
                    · have hc10 := bp hb10
                      have hlk : ¬ ((nodG s.files (lookL s.files a p).1).kind = 3 ∧ (ps ≠ [] ∨ fl = true)) := fun h => by
                        rw [decide_eq_true h.1, Bool.true_and, Bool.or_eq_false_iff] at hc10
                        rcases h.2 with e | e
                        · exact e (List.eq_nil_of_length_eq_zero (by have := of_decide_eq_false hc10.1; omega))
                        · rw [hc10.2] at e; cases e
                      refine kt_ (w_ (m_ (h:=m_ (h:=m_ (h:=m_ (h:=m_ (h:=k_ (h:=f_ (h:=l_ (h:=m_ (h:=k_ (h:=f_ (h:=s_ (h:=k_ (h:=f_ (h:=s_ (h:=k_ (h:=f_ (h:=s_ (h:=e_ (q_ (?_))))))))))))))))))))))
                      refine aw_draw (fun h => ∃ x y r, h.bx = [[.sl 2 (s.files.map dvcA) none, .sl 3 (s.mounts.map mntA) none, .sl 1 (ps.map strA) none, x, y, .v (.int .i64 a.1), .v (.int .i64 a.2), .v (.string p), .v (.bool mi), .v (.bool fl), .v (.int .i64 (lk : Int))], filA (lookL s.files a p).1] ++ r) 10 (by kernel_rfl) ?_
                      refine aa_t (i := 0) rfl rfl (by kernel_rfl) (by first | rfl | exact wan_y rfl rfl (beq_tt ‹_›) | exact wan_y rfl rfl (beq_ff ‹_›) | exact wan_y rfl rfl (by simp [*])) (fun h0 hS => st_move rfl ⟨rfl, rfl⟩) ⟨_, _, _, rfl⟩ ?_
                      refine aa_t (i := 1) rfl rfl (by kernel_rfl) (by first | rfl | exact wan_y rfl rfl (beq_tt ‹_›) | exact wan_y rfl rfl (beq_ff ‹_›) | exact wan_y rfl rfl (by simp [*])) (fun h0 hS => st_move rfl ⟨rfl, rfl⟩) ⟨_, _, _, rfl⟩ ?_
                      first | refine aa_t (i := 2) rfl rfl (by kernel_rfl) (by first | rfl | exact wan_y rfl rfl (beq_tt ‹_›) | exact wan_y rfl rfl (beq_ff ‹_›) | exact wan_y rfl rfl (by simp [*])) (fun h0 hS => st_nilB rfl ⟨rfl, rfl⟩) ⟨_, _, _, rfl⟩ ?_ | refine aa_t (i := 2) rfl rfl (by kernel_rfl) (by first | rfl | exact wan_y rfl rfl (beq_tt ‹_›) | exact wan_y rfl rfl (beq_ff ‹_›) | exact wan_y rfl rfl (by simp [*])) (fun h0 hS => st_nilF rfl ⟨rfl, rfl⟩) ⟨_, _, _, rfl⟩ ?_
                      first | refine aa_t (i := 3) rfl rfl (by kernel_rfl) (by first | rfl | exact wan_y rfl rfl (beq_tt ‹_›) | exact wan_y rfl rfl (beq_ff ‹_›) | exact wan_y rfl rfl (by simp [*])) (fun h0 hS => st_fieldB rfl ⟨rfl, rfl⟩) ⟨_, _, _, rfl⟩ ?_ | refine aa_t (i := 3) rfl rfl (by kernel_rfl) (by first | rfl | exact wan_y rfl rfl (beq_tt ‹_›) | exact wan_y rfl rfl (beq_ff ‹_›) | exact wan_y rfl rfl (by simp [*])) (fun h0 hS => st_fieldF rfl ⟨rfl, rfl⟩) ⟨_, _, _, rfl⟩ ?_
                      first | refine aa_t (i := 4) rfl rfl (by kernel_rfl) (by first | rfl | exact wan_y rfl rfl (beq_tt ‹_›) | exact wan_y rfl rfl (beq_ff ‹_›) | exact wan_y rfl rfl (by simp [*])) (fun h0 hS => by obtain ⟨x, y, r, e⟩ := hS; exact st_loadBN (row := [.sl 2 (s.files.map dvcA) none, .sl 3 (s.mounts.map mntA) none, .sl 1 (ps.map strA) none, x, y, .v (.int .i64 a.1), .v (.int .i64 a.2), .v (.string p), .v (.bool mi), .v (.bool fl), .v (.int .i64 (lk : Int))]) rfl (by rw [e]; rfl) rfl (show _ = AV.agg (spcA s) ∧ _ from ⟨rfl, rfl⟩)) ⟨_, _, _, rfl⟩ ?_ | refine aa_t (i := 4) rfl rfl (by kernel_rfl) (by first | rfl | exact wan_y rfl rfl (beq_tt ‹_›) | exact wan_y rfl rfl (beq_ff ‹_›) | exact wan_y rfl rfl (by simp [*])) (fun h0 hS => by obtain ⟨x, y, r, e⟩ := hS; exact st_loadBW (row := filA (lookL s.files a p).1) rfl (by rw [e]; rfl) rfl ⟨rfl, rfl⟩) ⟨_, _, _, rfl⟩ ?_ | refine aa_t (i := 4) rfl rfl (by kernel_rfl) (by first | rfl | exact wan_y rfl rfl (beq_tt ‹_›) | exact wan_y rfl rfl (beq_ff ‹_›) | exact wan_y rfl rfl (by simp [*])) (fun h0 hS => st_loadB1 rfl rfl rfl ⟨rfl, rfl⟩) ⟨_, _, _, rfl⟩ ?_ | refine aa_t (i := 4) rfl rfl (by kernel_rfl) (by first | rfl | exact wan_y rfl rfl (beq_tt ‹_›) | exact wan_y rfl rfl (beq_ff ‹_›) | exact wan_y rfl rfl (by simp [*])) (fun h0 hS => st_loadBW rfl rfl rfl ⟨rfl, rfl⟩) ⟨_, _, _, rfl⟩ ?_ | refine aa_t (i := 4) rfl rfl (by kernel_rfl) (by first | rfl | exact wan_y rfl rfl (beq_tt ‹_›) | exact wan_y rfl rfl (beq_ff ‹_›) | exact wan_y rfl rfl (by simp [*])) (fun h0 hS => st_loadF1 rfl rfl ⟨rfl, rfl⟩) ⟨_, _, _, rfl⟩ ?_ | refine aa_t (i := 4) rfl rfl (by kernel_rfl) (by first | rfl | exact wan_y rfl rfl (beq_tt ‹_›) | exact wan_y rfl rfl (beq_ff ‹_›) | exact wan_y rfl rfl (by simp [*])) (fun h0 hS => st_loadFW rfl rfl ⟨rfl, rfl⟩) ⟨_, _, _, rfl⟩ ?_ | refine aa_t (i := 4) rfl rfl (by kernel_rfl) (by first | rfl | exact wan_y rfl rfl (beq_tt ‹_›) | exact wan_y rfl rfl (beq_ff ‹_›) | exact wan_y rfl rfl (by simp [*])) (fun h0 hS => st_loadBN rfl rfl rfl ⟨rfl, rfl⟩) ⟨_, _, _, rfl⟩ ?_ | refine aa_t (i := 4) rfl rfl (by kernel_rfl) (by first | rfl | exact wan_y rfl rfl (beq_tt ‹_›) | exact wan_y rfl rfl (beq_ff ‹_›) | exact wan_y rfl rfl (by simp [*])) (fun h0 hS => st_loadFN rfl rfl ⟨rfl, rfl⟩) ⟨_, _, _, rfl⟩ ?_
                      first | refine aa_t (i := 5) rfl rfl (by kernel_rfl) (by first | rfl | exact wan_y rfl rfl (beq_tt ‹_›) | exact wan_y rfl rfl (beq_ff ‹_›) | exact wan_y rfl rfl (by simp [*])) (fun h0 hS => by obtain ⟨x, y, r, e⟩ := hS; exact st_loadBN (row := [.sl 2 (s.files.map dvcA) none, .sl 3 (s.mounts.map mntA) none, .sl 1 (ps.map strA) none, x, y, .v (.int .i64 a.1), .v (.int .i64 a.2), .v (.string p), .v (.bool mi), .v (.bool fl), .v (.int .i64 (lk : Int))]) rfl (by rw [e]; rfl) rfl (show _ = AV.agg (spcA s) ∧ _ from ⟨rfl, rfl⟩)) ⟨_, _, _, rfl⟩ ?_ | refine aa_t (i := 5) rfl rfl (by kernel_rfl) (by first | rfl | exact wan_y rfl rfl (beq_tt ‹_›) | exact wan_y rfl rfl (beq_ff ‹_›) | exact wan_y rfl rfl (by simp [*])) (fun h0 hS => by obtain ⟨x, y, r, e⟩ := hS; exact st_loadBW (row := filA (lookL s.files a p).1) rfl (by rw [e]; rfl) rfl ⟨rfl, rfl⟩) ⟨_, _, _, rfl⟩ ?_ | refine aa_t (i := 5) rfl rfl (by kernel_rfl) (by first | rfl | exact wan_y rfl rfl (beq_tt ‹_›) | exact wan_y rfl rfl (beq_ff ‹_›) | exact wan_y rfl rfl (by simp [*])) (fun h0 hS => st_loadBW rfl rfl rfl ⟨rfl, rfl⟩) ⟨_, _, _, rfl⟩ ?_
                      refine c_ 6 rfl (q_call (Pdown s (lookL s.files a p).1 hs) ?_)
                      rintro r rfl
                      refine ⟨.inr ⟨_, _, _, rfl⟩, ?_⟩
                      first | refine aa_t (i := 7) rfl rfl (by kernel_rfl) (by first | rfl | exact wan_y rfl rfl (beq_tt ‹_›) | exact wan_y rfl rfl (beq_ff ‹_›) | exact wan_y rfl rfl (by simp [*])) (fun h0 hS => st_nilB rfl ⟨rfl, rfl⟩) ⟨_, _, _, rfl⟩ ?_ | refine aa_t (i := 7) rfl rfl (by kernel_rfl) (by first | rfl | exact wan_y rfl rfl (beq_tt ‹_›) | exact wan_y rfl rfl (beq_ff ‹_›) | exact wan_y rfl rfl (by simp [*])) (fun h0 hS => st_nilF rfl ⟨rfl, rfl⟩) ⟨_, _, _, rfl⟩ ?_
                      first | refine aa_t (i := 8) rfl rfl (by kernel_rfl) (by first | rfl | exact wan_y rfl rfl (beq_tt ‹_›) | exact wan_y rfl rfl (beq_ff ‹_›) | exact wan_y rfl rfl (by simp [*])) (fun h0 hS => st_fieldB rfl ⟨rfl, rfl⟩) ⟨_, _, _, rfl⟩ ?_ | refine aa_t (i := 8) rfl rfl (by kernel_rfl) (by first | rfl | exact wan_y rfl rfl (beq_tt ‹_›) | exact wan_y rfl rfl (beq_ff ‹_›) | exact wan_y rfl rfl (by simp [*])) (fun h0 hS => st_fieldF rfl ⟨rfl, rfl⟩) ⟨_, _, _, rfl⟩ ?_
                      refine c0_ 9 rfl (s_store rfl rfl rfl rfl rfl rfl (by repeat constructor) (by repeat constructor) ?_)
                      refine ⟨.inr ⟨_, _, _, rfl⟩, ?_⟩
                      refine z_ (h:=t_ (w_ (a_ (h:=e_ (aw_ret (?_))))))
                      refine rt_ none (h5 := (LeA.refl _)) (h6 := ⟨_, rfl, rfl, .inr ⟨⟨ps, itD s s.mounts.length (lookL s.files a p).1, a, p, mi, lk⟩, by unfold stp; rw [if_neg (by simp [hc1]), if_neg (by omega), if_neg hc3, if_neg hc4, if_neg (by simp [hc5]), if_neg (by simp [hc6]), if_neg hlk], rfl, rfl⟩⟩)

end
end Go.Proofs.Ytaidkbnbfnaihaa
namespace Go.Proofs.Ytaidkbnbfnaihaa
open Go.RowKit

theorem root_is {s : Spc} (hv : SpcV s) : dirL s.files (rootD s) = true := (where_ok ((vis_iff hv _).1 (vis_down hv (wvis_root hv (root_dir hv (Int.le_refl 0) (by have := hv.pos; omega))))).1.1).1
theorem name_short {s : Spc} (fl : Bool) {p : Str} {ps : List Str} {w w' : Wk} (hn : w.name.size ≤ 12) (h : stp s fl p ps w = .inr w') : w'.name.size ≤ 12 := by
  unfold stp at h
  split at h
  · cases h
  · split at h
    · cases h
    · rename_i h2
      split at h
      · injection h with h; subst h; exact Nat.zero_le _
      · split at h
        · injection h with h; subst h; exact Nat.zero_le _
        · split at h
          · cases h
          · split at h
            · split at h
              · cases h
              · injection h with h; subst h; exact Nat.le_of_not_lt h2
            · split at h
              · split at h
                · cases h
                · injection h with h; subst h
                  show ByteArray.size (if _ then _ else _) ≤ 12
                  split
                  · exact Nat.zero_le _
                  · exact hn
              · injection h with h; subst h; exact Nat.le_of_not_lt h2
theorem rest_few {s : Spc} (hv : FlsV s.files) (fl : Bool) {p : Str} {ps : List Str} {w w' : Wk} (hl : w.links ≤ 8) (h : stp s fl p ps w = .inr w') : w'.links ≤ 8 ∧ (8 - w'.links) * 200 + w'.ps.length < (8 - w.links) * 200 + (ps.length + 1) := by
  unfold stp at h
  split at h
  · cases h
  · split at h
    · cases h
    · split at h
      · injection h with h; subst h; exact ⟨hl, by simp only; omega⟩
      · split at h
        · injection h with h; subst h; exact ⟨hl, by simp only; omega⟩
        · split at h
          · cases h
          · split at h
            · split at h
              · cases h
              · injection h with h; subst h; exact ⟨hl, by simp only; omega⟩
            · split at h
              · split at h
                · cases h
                · rename_i h9
                  injection h with h; subst h
                  have ht := nodG_target hv (lookL s.files w.at_ p).1
                  have hs := splS_len (nodG s.files (lookL s.files w.at_ p).1).target
                  refine ⟨by simp only; omega, ?_⟩
                  simp only [List.length_append]
                  have : (8 - w.links) * 200 = (8 - (w.links + 1)) * 200 + 200 := by
                    rw [show 8 - w.links = (8 - (w.links + 1)) + 1 by omega, Nat.add_mul]
                  omega
              · injection h with h; subst h; exact ⟨hl, by simp only; omega⟩
theorem find_long {s : Spc} {start : Fil} {p : Str} {fl : Bool} (h1 : ¬ p = ⟨#[]⟩) (h2 : 128 < p.size) : findL s start p fl = (fnd0, 36) := by unfold findL; rw [if_neg h1, if_pos h2]
section
variable {s : Spc} {start a : Fil} {p : Str} {fl : Bool} (h1 : ¬ p = ⟨#[]⟩) (h2 : ¬ 128 < p.size) (ha : (if hdL p = true then rootD s else start) = a)
include h1 h2 ha
theorem find_nodir (hd : dirL s.files a = false) : findL s start p fl = (fnd0, 2) := by
  unfold findL
  rw [if_neg h1, if_neg h2, ha, if_pos hd]
variable (hd : dirL s.files a = true)
include hd
theorem find_err {e : Int} {τ : Lk} (h : lkT s (fl || lsL p) (lk0 (splS p) a) = (e, τ)) (he : e ≠ 0) : findL s start p fl = (fnd0, e) := by
  unfold findL
  rw [if_neg h1, if_neg h2, ha, if_neg (by simp [hd]), h, if_pos he]
theorem find_slash {τ : Lk} (h : lkT s (fl || lsL p) (lk0 (splS p) a) = (0, τ)) (hs : lsL p = true ∧ τ.ex = true ∧ dirL s.files τ.file = false) : findL s start p fl = (fnd0, 20) := by
  unfold findL
  rw [if_neg h1, if_neg h2, ha, if_neg (by simp [hd]), h, if_neg (by simp), if_pos hs]
theorem find_ok {τ : Lk} (h : lkT s (fl || lsL p) (lk0 (splS p) a) = (0, τ)) (hs : ¬ (lsL p = true ∧ τ.ex = true ∧ dirL s.files τ.file = false)) : findL s start p fl = (fndOf s (lsL p) τ, 0) := by
  unfold findL
  rw [if_neg h1, if_neg h2, ha, if_neg (by simp [hd]), h, if_neg (by simp), if_neg hs]
end
theorem sim0 (ps : List Str) (a d : Fil) (hd : ps = [] → True) : Sim ⟨ps, a, d, ⟨#[]⟩, false, 0⟩ (lk0 ps a) := by
  have _ := hd
  exact ⟨rfl, rfl, rfl, fun _ => rfl, fun h => (by cases h), fun _ _ => ⟨fun _ => ⟨rfl, rfl⟩, fun h => absurd rfl h⟩⟩
def Run (s : Spc) (F : Bool) (σ0 : Lk) (w : Wk) : Prop := w.links ≤ 8 ∧ w.name.size ≤ 12 ∧ ∃ σ, Sim w σ ∧ lkT s F σ = lkT s F σ0
theorem run_step {s : Spc} (hv : SpcV s) {F : Bool} {σ0 : Lk} {w : Wk} {p : Str} {ps : List Str} (hps : w.ps = p :: ps) (h : Run s F σ0 w) : (∀ e, stp s F p ps w = .inl e → lkT s F σ0 = (e, lkZ)) ∧ ∀ w', stp s F p ps w = .inr w' → Run s F σ0 w' := by
  obtain ⟨h8, hn, σ, hS, hT⟩ := h
  have hm : w.missing = false := by
    cases hm : w.missing with
    | false => rfl
    | true => have := (hS.gone hm).2.1; rw [hps] at this; cases this
  have h8σ : σ.links ≤ 8 := by rw [← hS.links]; exact h8
  have hc := lkT_cons hv.files (fl := F) h8σ (hS.ps.symm.trans hps)
  rcases sim_step hv F (p := p) (ps := ps) hS hm with ⟨e, q1, q2⟩ | ⟨w1, τ, q1, q2, q3⟩
  · refine ⟨fun e' he => ?_, fun w' hw => by rw [q1] at hw; cases hw⟩
    rw [q1] at he
    injection he with he
    subst he
    rw [← hT, hc, q2]
  · refine ⟨fun e' he => by (rw [q1] at he; cases he), fun w' hw => ?_⟩
    have k1 := rest_few hv.files F h8 hw
    have k2 := name_short F hn hw
    rw [q1] at hw
    injection hw with hw
    subst hw
    refine ⟨k1.1, k2, τ, q3, ?_⟩
    rw [← hT, hc, q2]
theorem run_end {s : Spc} (hv : SpcV s) {F : Bool} {σ0 : Lk} {w : Wk} (hps : w.ps = []) (h : Run s F σ0 w) : ∃ σ, lkT s F σ0 = (0, σ) ∧ σ.ex = !w.missing ∧ (w.missing = false → σ.file = w.at_) ∧ ∀ sl, fndW s sl w = fndOf s sl σ := by
  obtain ⟨h8, hn, σ, hS, hT⟩ := h
  exact ⟨σ, by rw [← hT]; exact lkT_nil (hS.ps.symm.trans hps), hS.ex, fun hm => (hS.here hm).symm, fun sl => sim_end hv hS hps⟩
section
set_option maxRecDepth 10000
set_option maxHeartbeats 1000000
theorem Pfind7 (s : Spc) (start : Fil) (p : Str) (fl : Bool) (hs : SpcN s) (hv : SpcV s) (hp : p.size ≤ 1000000) : AFn Try.prog 11 [.agg (spcA s), .agg (filA start), .v (.string p), .v (.bool fl)] (fun r => r = .tup [.agg (fndA (findL s start p fl).1), .v (.int .i64 (findL s start p fl).2)]) := by
  have hw := where_size hv
  have hri := root_is hv
  refine enter Try.func11 rfl rfl rfl rfl rfl 0 rfl ?_
  refine w_ (b_ (h:=b_ (h:=al_ (h:=a_ (h:=e_ (q_ (aw_block (w_ (m_ (h:=eq_ (h:=a_ (h:=e_ (?_)))))))))))))
  refine aw_cond rfl (fun hb1 => ?_) (fun hb1 => ?_)
  · have hc1 := bp hb1
    refine w_ (bd_ (h:=s_ (h:=a_ (h:=e_ (aw_ret (x_blockR (x_thenR (?_))))))))
    refine e_ret ?_
    rw [show findL s start p fl = (fnd0, 2) from if_pos hc1]
    rfl
  · have hc1 := bp hb1
    refine w_ (m_ (h:=n_ (h:=gt_ (h:=a_ (h:=e_ (?_))))))
    refine aw_cond rfl (fun hb2 => ?_) (fun hb2 => ?_)
    · have hc2 := bp hb2
      refine w_ (bd_ (h:=s_ (h:=a_ (h:=e_ (aw_ret (x_blockR (x_thenR (?_))))))))
      refine e_ret ?_
      rw [find_long hc1 (by omega)]
      rfl
    · have hc2 := bp hb2
      refine aw_skip (x_blockN (t_ (w_ (m_ (h:=?_)))))
      refine al_p rfl (q_call (Psplit p (by omega)) ?_)
      rintro r rfl
      refine m_ (h:=x_ (h:=x_ (h:=x_ (h:=a_ (h:=a_ (h:=a_ (h:=e_ (?_))))))))
      refine aw_midI (fun t => t = ⟨look [(2, .v (.string p)), (4, .bp 0 0), (5, .bp 1 0), (8, .bp 2 0), (11, .v (.bool (hdL p))), (12, .v (.bool (lsL p))), (13, .bp 3 0)], ⟨[spcA s, filA start, fndA fnd0, wkA s (fl || lsL p) ⟨splS p, start, (0, 0), ⟨#[]⟩, false, 0⟩], []⟩⟩) ?_ ?_
      · skip
        refine aw_region (l_ (h:=m_ (h:=l_ (h:=m_ (h:=m_ (h:=?_))))))
        refine al_gs false rfl rfl (fun hb3 => ?_) (fun hb3 => ?_)
        · have hc3 := bp hb3
          refine g0_ (h:=pt_ (h:=bd_ (h:=al_ (h:=s_ (h:=al_nil (?_))))))
          refine x_then ?_
          first | (rw [hb3]; exact ⟨_, rfl, (wk 4 0)⟩) | exact ⟨_, rfl, (wk 4 0)⟩
        · have hc3 := bp hb3
          refine m_ (h:=pf_ (h:=bd_ (h:=al_ (h:=s_ (h:=al_nil (?_))))))
          refine x_then ?_
          first | (rw [hb3]; exact ⟨_, rfl, (wk 4 0)⟩) | exact ⟨_, rfl, (wk 4 0)⟩
      · rintro t rfl
        refine aw_midI (fun t => ∃ a, (if hdL p = true then rootD s else start) = a ∧ dirL s.files a = true ∧ t = ⟨look [(4, .bp 0 0), (8, .bp 2 0), (12, .v (.bool (lsL p))), (13, .bp 3 0)], ⟨[spcA s, filA start, fndA fnd0, wkA s (fl || lsL p) ⟨splS p, a, (0, 0), ⟨#[]⟩, false, 0⟩], []⟩⟩) ?_ ?_
        · skip
          refine w_ (m_ (h:=e_ (?_)))
          refine aw_cond rfl (fun hb4 => ?_) (fun hb4 => ?_)
          · have hc4 := bp hb4
            refine aw_region (l_ (h:=?_))
            refine al_p rfl (q_call (Proot s hs.b) ?_)
            rintro r rfl
            refine f_ (h:=s_ (h:=al_nil (?_)))
            refine x_then ?_
            first | exact ⟨_, ⟨rootD s, if_pos hc4, hri, rfl⟩, (wk 4 0)⟩ | exact ⟨_, ⟨start, if_neg (by simp [hc4]), by simpa using hc5, rfl⟩, (wk 4 0)⟩
          · have hc4 := bp hb4
            refine w_ (?_)
            refine al_p rfl (s_callR 1 rfl (.cons _ _ _ _ _ rfl (LeA.refl _) .nil) (PdirW s (fl || lsL p) ⟨splS p, start, (0, 0), ⟨#[]⟩, false, 0⟩ hs.b) ?_)
            rintro r rfl
            refine ⟨rfl, ?_⟩
            refine nt_ (h:=e_ (?_))
            refine aw_cond rfl (fun hb5 => ?_) (fun hb5 => ?_)
            · have hc5 := bp hb5
              refine w_ (bd_ (h:=s_ (h:=a_ (h:=e_ (aw_ret (x_thenR (?_)))))))
              refine e_ret ?_
              rw [find_nodir hc1 (by omega) (if_neg (by simp [hc4])) (by simpa using hc5)]
              rfl
            · have hc5 := bp hb5
              refine aw_skip (?_)
              refine x_then ?_
              first | exact ⟨_, ⟨rootD s, if_pos hc4, hri, rfl⟩, (wk 4 0)⟩ | exact ⟨_, ⟨start, if_neg (by simp [hc4]), by simpa using hc5, rfl⟩, (wk 4 0)⟩
        · rintro t ⟨a, ha, had, rfl⟩
          refine q_ (aw_block (?_))
          refine aw_loopW (fun m t => ∃ w, Run s (fl || lsL p) (lk0 (splS p) a) w ∧ m = (8 - w.links) * 200 + w.ps.length ∧ m ≤ 1600 + (p.size + 1) ∧ t = ⟨look [(4, .bp 0 0), (8, .bp 2 0), (12, .v (.bool (lsL p))), (13, .bp 3 0)], ⟨[spcA s, filA start, fndA fnd0, wkA s (fl || lsL p) w], []⟩⟩) ((8 - 0) * 200 + (splS p).length) ((wk 4 0)) (⟨_, ⟨Nat.zero_le _, Nat.zero_le _, _, sim0 (splS p) a (0, 0) (fun _ => trivial), rfl⟩, rfl, by have := splS_len p; omega, rfl⟩) ?_
          rintro m t ⟨w, hR, rfl, hm, rfl⟩
          have hml : (w.ps.map strA).length = w.ps.length := by simp
          refine q_ (w_ (f_ (h:=l_ (h:=n_ (h:=gt_ (h:=e_ (?_)))))))
          refine aw_cond rfl (fun hb6 => ?_) (fun hb6 => ?_)
          · have hc6 := bp hb6
            obtain ⟨q, qs, hqs⟩ : ∃ q qs, w.ps = q :: qs := by
              cases hq : w.ps with
              | nil => rw [hq] at hml hc6; simp at hc6
              | cons q qs => exact ⟨q, qs, rfl⟩
            have hql : w.ps.length = qs.length + 1 := by rw [hqs]; rfl
            refine kt_ (aw_block (w_ (?_)))
            refine al_p rfl (s_callB 3 rfl (by repeat (first | exact ArgsB.nil | refine ArgsB.cons _ _ _ _ _ rfl rfl ?_)) rfl rfl (Pstep s (fl || lsL p) w q qs hqs hs.b hv hR.1 (by omega)) ?_)
            rintro r row2 (⟨e, he, he0, rfl, rfl⟩ | ⟨w2, hw2, rfl, rfl⟩)
            · refine ⟨bp_wk _ _ _, rfl, _, (by repeat constructor), ?_⟩
              refine a_ (h:=e_ (w_ (m_ (h:=nq_ (h:=e_ (?_))))))
              refine aw_cond rfl (fun hb7 => ?_) (fun hb7 => ?_)
              · have hc7 := bp hb7
                refine w_ (bd_ (h:=m_ (h:=s_ (h:=a_ (h:=e_ (aw_ret (x_blockR (x_thenR (x_blockR (x_thenR (?_)))))))))))
                refine e_ret ?_
                rw [find_err hc1 (by omega) ha had ((run_step hv hqs hR).1 e he) he0]
                rfl
              · have hc7 := bp hb7
                exact absurd hc7 he0
            · refine ⟨bp_wk _ _ _, rfl, _, (by repeat constructor), ?_⟩
              refine a_ (h:=e_ (w_ (m_ (h:=nq_ (h:=e_ (?_))))))
              refine aw_cond rfl (fun hb8 => ?_) (fun hb8 => ?_)
              · have hc8 := bp hb8
                exact absurd rfl hc8
              · have hc8 := bp hb8
                refine aw_skip (x_blockN (?_))
                refine x_then ?_
                exact ⟨(8 - w2.links) * 200 + w2.ps.length, _, (by have := (rest_few hv.files _ hR.1 hw2).2; omega), ⟨w2, (run_step hv hqs hR).2 w2 hw2, rfl, by have := (rest_few hv.files _ hR.1 hw2).2; omega, rfl⟩, (wk 4 0)⟩
          · have hc6 := bp hb6
            have hps : w.ps = [] := List.eq_nil_of_length_eq_zero (by omega)
            obtain ⟨σ, hT, hσx, hσf, hσe⟩ := run_end hv hps hR
            refine aw_exit (x_thenE (x_thenE (ABlock_out (t_ (q_ (?_))))))
            refine aw_mid (⟨look [(8, .bp 2 0), (12, .v (.bool (lsL p))), (13, .bp 3 0), (63, .v (.bool (lsL p && (!w.missing && !dirL s.files w.at_))))], ⟨[spcA s, filA start, fndA fnd0, wkA s (fl || lsL p) w], []⟩⟩) ?_ ?_
            · skip
              refine aw_region (m_ (h:=m_ (h:=?_)))
              refine al_gs true rfl rfl (fun hb9 => ?_) (fun hb9 => ?_)
              · have hc9 := bp hb9
                refine f_ (h:=l_ (h:=nt_ (h:=pt_ (h:=m_ (h:=?_)))))
                refine al_gs true rfl rfl (fun hb10 => ?_) (fun hb10 => ?_)
                · have hc10 := bp hb10
                  refine g_y (s_callR 1 rfl (.cons _ _ _ _ _ rfl (LeA.refl _) .nil) (PdirW s (fl || lsL p) w hs.b) ?_)
                  rintro r rfl
                  refine ⟨rfl, ?_⟩
                  refine nt_ (h:=pt_ (h:=al_nil (?_)))
                  refine x_then ?_
                  first | (exfalso; first | contradiction | omega) | exact weak_of 4 0 rfl rfl rfl rfl (by repeat (first | exact Sub.nil | refine Sub.cons _ _ _ rfl rfl ?_ | refine Sub.any _ _ ?_ | refine Sub.sl _ _ _ _ _ rfl ?_ | refine Sub.slnil _ _ _ rfl ?_ | (apply Sub.of; (focus exact rfl); (focus exact LeA.of_eq (vb (by first | (rw [hb9]; rfl) | (rw [hb9, hb10]; rfl)))); (focus exact rfl))))
                · have hc10 := bp hb10
                  refine g0_ (h:=g0_ (h:=pf_ (h:=al_nil (?_))))
                  refine x_then ?_
                  first | (exfalso; first | contradiction | omega) | exact weak_of 4 0 rfl rfl rfl rfl (by repeat (first | exact Sub.nil | refine Sub.cons _ _ _ rfl rfl ?_ | refine Sub.any _ _ ?_ | refine Sub.sl _ _ _ _ _ rfl ?_ | refine Sub.slnil _ _ _ rfl ?_ | (apply Sub.of; (focus exact rfl); (focus exact LeA.of_eq (vb (by first | (rw [hb9]; rfl) | (rw [hb9, hb10]; rfl)))); (focus exact rfl))))
              · have hc9 := bp hb9
                refine g0_ (h:=g0_ (h:=g0_ (h:=pf_ (h:=m_ (h:=g0_ (h:=g0_ (h:=pf_ (h:=al_nil (?_)))))))))
                refine x_then ?_
                first | (exfalso; first | contradiction | omega) | exact weak_of 4 0 rfl rfl rfl rfl (by repeat (first | exact Sub.nil | refine Sub.cons _ _ _ rfl rfl ?_ | refine Sub.any _ _ ?_ | refine Sub.sl _ _ _ _ _ rfl ?_ | refine Sub.slnil _ _ _ rfl ?_ | (apply Sub.of; (focus exact rfl); (focus exact LeA.of_eq (vb (by first | (rw [hb9]; rfl) | (rw [hb9, hb10]; rfl)))); (focus exact rfl))))
            · skip
              refine aw_cond rfl (fun hb11 => ?_) (fun hb11 => ?_)
              · have hc11 := bp hb11
                refine w_ (bd_ (h:=s_ (h:=a_ (h:=e_ (aw_ret (x_thenR (?_)))))))
                refine e_ret ?_
                rw [find_slash hc1 (by omega) ha had hT (by simp only [Bool.and_eq_true, Bool.not_eq_true'] at hc11; exact ⟨hc11.1, by rw [hσx, hc11.2.1]; rfl, by rw [hσf hc11.2.1]; exact hc11.2.2⟩)]
                rfl
              · have hc11 := bp hb11
                refine kt_ (w_ (m_ (h:=?_)))
                refine al_p rfl (s_callR 1 rfl (.cons _ _ _ _ _ rfl (LeA.refl _) (.cons _ _ _ _ _ rfl (LeA.refl _) .nil)) (Pfound s (fl || lsL p) (lsL p) w hs hw (by have := hR.2.1; omega)) ?_)
                rintro r rfl
                refine ⟨rfl, ?_⟩
                refine s_ (h:=a_ (h:=e_ (aw_ret (?_))))
                refine e_ret ?_
                rw [find_ok hc1 (by omega) ha had hT (fun h => by
                  obtain ⟨h1, h2, h3⟩ := h
                  rw [hσx] at h2
                  have hm2 : w.missing = false := by simpa using h2
                  rw [hσf hm2] at h3
                  rw [h1, h2, h3] at hc11
                  cases hc11), ← hσe]
                rfl

end
end Go.Proofs.Ytaidkbnbfnaihaa
namespace Go.Proofs.Ytaidkbnbfnaihaa
open Go.RowKit

theorem flsV_spc {f : Fls} (h : FlsV f) (h0 : 0 < f.length) : SpcV ⟨f, []⟩ := ⟨h, h0, fun i m hm => by cases hm⟩
theorem aw7_le : LeA (.agg [.sl 2 (aw7F2.map dvcA) none, .v (.slice none 0 0)]) (.agg (spcA ⟨aw7F2, []⟩)) := LeA.agg (LeL.cons (LeA.refl _) (LeL.cons (LeA.nil _) LeL.nil))
theorem aw7_spc : SpcV ⟨aw7F2, []⟩ := flsV_spc aw7_valid.2 (by decide +kernel)
section
set_option maxRecDepth 10000
set_option maxHeartbeats 1000000
theorem Lawake7 : AFn Try.prog 16 [] (fun r => r = .v (.bool true)) := by
  have hnew : AFn Try.prog 21 [.v (.int .i64 1)] (fun r => r = .tup [.agg (flsA (newL 1).1), .v (.int .i64 0)]) := Rnew 1
  obtain ⟨c1, hmk1⟩ : ∃ c1, AFn Try.prog 19 [.agg (flsA (newL 1).1), .agg [.v (.int .i64 0), .v (.int .i64 1)], .v (.string ⟨#[102]⟩), .agg (nodA ⟨0, 1, 420, 0, 0, 0, ⟨#[]⟩, []⟩)] (fun r => r = .tup [.agg (flsA aw7F1), .sl 7 (List.map chgA c1) none, .v (.int .i64 0)]) :=
    ⟨_, (Rmake (newL 1).1 (0, 1) ⟨#[102]⟩ ⟨0, 1, 420, 0, 0, 0, ⟨#[]⟩, []⟩ new_valid1 (by decide) (by decide)).mono fun r hr => by rw [hr]; unfold chgR; rw [aw7_make.1]; rfl⟩
  obtain ⟨c2, hmk2⟩ : ∃ c2, AFn Try.prog 19 [.agg (flsA aw7F1), .agg [.v (.int .i64 0), .v (.int .i64 1)], .v (.string ⟨#[108]⟩), .agg (nodA ⟨0, 3, 511, 0, 0, 0, ⟨#[102]⟩, []⟩)] (fun r => r = .tup [.agg (flsA aw7F2), .sl 7 (List.map chgA c2) none, .v (.int .i64 0)]) :=
    ⟨_, (Rmake aw7F1 (0, 1) ⟨#[108]⟩ ⟨0, 3, 511, 0, 0, 0, ⟨#[102]⟩, []⟩ aw7_valid.1 (by decide) (by decide)).mono fun r hr => by rw [hr]; unfold chgR; rw [aw7_make.2]; rfl⟩
  obtain ⟨⟨d1, n1, ⟨f1, g1⟩, e1, s1, p1⟩, hx1⟩ : ∃ x : Fnd, (findL ⟨aw7F2, []⟩ (0, 1) ⟨#[47, 108]⟩ true).1 = x := ⟨_, rfl⟩
  obtain ⟨⟨d2, n2, ⟨f2, g2⟩, e2, s2, p2⟩, hx2⟩ : ∃ x : Fnd, (findL ⟨aw7F2, []⟩ (0, 1) ⟨#[47, 108]⟩ false).1 = x := ⟨_, rfl⟩
  obtain ⟨y1, y2, y3⟩ := aw7_yes
  obtain ⟨z1, z2, z3⟩ := aw7_no
  rw [hx1] at y2 y3
  rw [hx2] at z2 z3
  simp only at y2 y3 z2 z3
  subst y2 y3 z2 z3
  have hf1 : AFn Try.prog 11 [.agg (spcA ⟨aw7F2, []⟩), .agg [.v (.int .i64 0), .v (.int .i64 1)], .v (.string ⟨#[47, 108]⟩), .v (.bool true)] (fun r => r = .tup [.agg (fndA ⟨d1, n1, (f1, 2), e1, s1, ⟨#[47, 102]⟩⟩), .v (.int .i64 0)]) :=
    (Pfind7 ⟨aw7F2, []⟩ (0, 1) ⟨#[47, 108]⟩ true (aw7_spc.n (by decide)) aw7_spc (by decide)).mono fun r hr => by rw [hr, hx1, y1]
  have hf2 : AFn Try.prog 11 [.agg (spcA ⟨aw7F2, []⟩), .agg [.v (.int .i64 0), .v (.int .i64 1)], .v (.string ⟨#[47, 108]⟩), .v (.bool false)] (fun r => r = .tup [.agg (fndA ⟨d2, n2, (f2, 3), e2, s2, ⟨#[47, 108]⟩⟩), .v (.int .i64 0)]) :=
    (Pfind7 ⟨aw7F2, []⟩ (0, 1) ⟨#[47, 108]⟩ false (aw7_spc.n (by decide)) aw7_spc (by decide)).mono fun r hr => by rw [hr, hx2, z1]
  clear hx1 hx2 y1 z1
  refine enter Try.func16 rfl rfl rfl rfl rfl 0 rfl ?_
  refine w_ (a_ (h:=e_ (w_ (?_))))
  refine al_p rfl (q_call (hnew) ?_)
  rintro r rfl
  refine m_ (h:=x_ (h:=x_ (h:=al_ (h:=s_ (h:=a_ (h:=e_ (w_ (bd_ (h:=al_ (h:=s_ (h:=e_ (w_ (l_ (h:=l_ (h:=?_)))))))))))))))
  refine al_p rfl (st_le (y := .agg (nodA ⟨0, 1, 420, 0, 0, 0, ⟨#[]⟩, []⟩)) (st_build (by repeat (first | exact FillA.nil _ | (apply FillA.cons; (focus exact rfl); (focus exact rfl); (focus exact rfl); (focus exact rfl); (focus exact rfl); (focus (repeat constructor))))) ⟨rfl, rfl⟩) (by repeat (first | exact LeA.refl _ | exact LeA.nil _ | exact LeL.refl _ | refine LeA.agg ?_ | refine LeA.tup ?_ | exact LeL.nil | refine LeL.cons ?_ ?_ | exact LeA.any _)) ?_)
  refine al_p rfl (q_call (hmk1) ?_)
  rintro r rfl
  refine m_ (h:=x_ (h:=x_ (h:=x_ (h:=s_ (h:=e_ (w_ (l_ (h:=l_ (h:=?_)))))))))
  refine al_p rfl (st_le (y := .agg (nodA ⟨0, 3, 511, 0, 0, 0, ⟨#[102]⟩, []⟩)) (st_build (by repeat (first | exact FillA.nil _ | (apply FillA.cons; (focus exact rfl); (focus exact rfl); (focus exact rfl); (focus exact rfl); (focus exact rfl); (focus (repeat constructor))))) ⟨rfl, rfl⟩) (by repeat (first | exact LeA.refl _ | exact LeA.nil _ | exact LeL.refl _ | refine LeA.agg ?_ | refine LeA.tup ?_ | exact LeL.nil | refine LeL.cons ?_ ?_ | exact LeA.any _)) ?_)
  refine al_p rfl (q_call (hmk2) ?_)
  rintro r rfl
  refine m_ (h:=x_ (h:=x_ (h:=x_ (h:=s_ (h:=e_ (w_ (l_ (h:=?_))))))))
  refine al_p rfl (st_le (y := .agg (spcA ⟨aw7F2, []⟩)) (st_build (by repeat (first | exact FillA.nil _ | (apply FillA.cons; (focus exact rfl); (focus exact rfl); (focus exact rfl); (focus exact rfl); (focus exact rfl); (focus (repeat constructor))))) ⟨rfl, rfl⟩) aw7_le ?_)
  refine l_ (h:=?_)
  refine al_p rfl (q_call (hf1) ?_)
  rintro r rfl
  refine m_ (h:=x_ (h:=x_ (h:=al_ (h:=s_ (h:=a_ (h:=e_ (w_ (l_ (h:=?_)))))))))
  refine al_p rfl (st_le (y := .agg (spcA ⟨aw7F2, []⟩)) (st_build (by repeat (first | exact FillA.nil _ | (apply FillA.cons; (focus exact rfl); (focus exact rfl); (focus exact rfl); (focus exact rfl); (focus exact rfl); (focus (repeat constructor))))) ⟨rfl, rfl⟩) aw7_le ?_)
  refine l_ (h:=?_)
  refine al_p rfl (q_call (hf2) ?_)
  rintro r rfl
  refine m_ (h:=x_ (h:=x_ (h:=al_ (h:=s_ (h:=a_ (h:=e_ (w_ (m_ (h:=eq_ (h:=m_ (h:=?_)))))))))))
  refine al_gs true rfl rfl (fun hb1 => ?_) (fun hb1 => ?_)
  · have hc1 := bp hb1
    refine m_ (h:=eq_ (h:=pt_ (h:=m_ (h:=?_))))
    refine al_gs true rfl rfl (fun hb2 => ?_) (fun hb2 => ?_)
    · have hc2 := bp hb2
      refine f_ (h:=l_ (h:=eq_ (h:=pt_ (h:=m_ (h:=?_)))))
      refine al_gs true rfl rfl (fun hb3 => ?_) (fun hb3 => ?_)
      · have hc3 := bp hb3
        refine f_ (h:=l_ (h:=eq_ (h:=pt_ (h:=m_ (h:=?_)))))
        refine al_gs true rfl rfl (fun hb4 => ?_) (fun hb4 => ?_)
        · have hc4 := bp hb4
          refine f_ (h:=f_ (h:=l_ (h:=eq_ (h:=pt_ (h:=m_ (h:=?_))))))
          refine al_gs true rfl rfl (fun hb5 => ?_) (fun hb5 => ?_)
          · have hc5 := bp hb5
            refine f_ (h:=f_ (h:=l_ (h:=eq_ (h:=pt_ (h:=a_ (h:=e_ (aw_ret (?_))))))))
            refine e_ret ?_
            first | rfl | (exfalso; simp_all)
          · have hc5 := bp hb5
            refine g0_ (h:=g0_ (h:=g0_ (h:=g0_ (h:=pf_ (h:=a_ (h:=e_ (aw_ret (?_))))))))
            refine e_ret ?_
            first | rfl | (exfalso; simp_all)
        · have hc4 := bp hb4
          refine g0_ (h:=g0_ (h:=g0_ (h:=g0_ (h:=pf_ (h:=m_ (h:=g0_ (h:=g0_ (h:=g0_ (h:=g0_ (h:=pf_ (h:=a_ (h:=e_ (aw_ret (?_))))))))))))))
          refine e_ret ?_
          first | rfl | (exfalso; simp_all)
      · have hc3 := bp hb3
        refine g0_ (h:=g0_ (h:=g0_ (h:=pf_ (h:=m_ (h:=g0_ (h:=g0_ (h:=g0_ (h:=g0_ (h:=pf_ (h:=m_ (h:=g0_ (h:=g0_ (h:=g0_ (h:=g0_ (h:=pf_ (h:=a_ (h:=e_ (aw_ret (?_)))))))))))))))))))
        refine e_ret ?_
        first | rfl | (exfalso; simp_all)
    · have hc2 := bp hb2
      refine g0_ (h:=g0_ (h:=g0_ (h:=pf_ (h:=m_ (h:=g0_ (h:=g0_ (h:=g0_ (h:=pf_ (h:=m_ (h:=g0_ (h:=g0_ (h:=g0_ (h:=g0_ (h:=pf_ (h:=m_ (h:=g0_ (h:=g0_ (h:=g0_ (h:=g0_ (h:=pf_ (h:=a_ (h:=e_ (aw_ret (?_))))))))))))))))))))))))
      refine e_ret ?_
      first | rfl | (exfalso; simp_all)
  · have hc1 := bp hb1
    refine g0_ (h:=g0_ (h:=pf_ (h:=m_ (h:=g0_ (h:=g0_ (h:=g0_ (h:=pf_ (h:=m_ (h:=g0_ (h:=g0_ (h:=g0_ (h:=pf_ (h:=m_ (h:=g0_ (h:=g0_ (h:=g0_ (h:=g0_ (h:=pf_ (h:=m_ (h:=g0_ (h:=g0_ (h:=g0_ (h:=g0_ (h:=?_))))))))))))))))))))))))
    refine pf_ (h:=a_ (h:=e_ (aw_ret (?_))))
    refine e_ret ?_
    first | rfl | (exfalso; simp_all)

end
end Go.Proofs.Ytaidkbnbfnaihaa
namespace Go.Proofs.Ytaidkbnbfnaihaa
open Go.RowKit

theorem st_min {P : Program} {ev : Operand → Option AV} {h : AH} {R : AV → AH → Prop} {d : Option Tmp} {ty : TypeId} {pos : String} {af : Array Edge} {gd : Option (Nat × Bool)} {ats : Array TypeId} {x y : Operand} {k k' : IntKind} {a b : Int} (hx : ev x = some (.v (.int k a))) (hy : ev y = some (.v (.int k' b))) (hR : R (.v (.int k (if b < a then b else a))) h) : AStep P ⟨d, .call { callee := .builtin .min, args := #[x, y], argTypes := ats }, ty, pos, af, gd⟩ ev h R :=
  st_val (fun _ G w ec _ he => ⟨.int k (if b < a then b else a), by
    have h1 := he x (by simp [Op.operands, Call.operands]) _ hx
    have h2 := he y (by simp [Op.operands, Call.operands]) _ hy
    simp only [rep] at h1 h2
    simp [execOp, resolve, invoke, builtin, h1, h2, run_min_int2], by simp only [rep]⟩) hR
theorem lp_row {j : Nat} (h : j < 12) : (lpNames.map strA)[j]? = some (strA (lpLast (j + 1))) := by
  have hl : j < lpNames.length := h
  rw [List.getElem?_map, List.getElem?_eq_getElem hl]
  simp [lpLast, List.getD, hl]
theorem spc0_le (f : Fls) : LeA (.agg [.sl 2 (f.map dvcA) none, .v (.slice none 0 0)]) (.agg (spcA ⟨f, []⟩)) := LeA.agg (LeL.cons (LeA.refl _) (LeL.cons (LeA.nil _) LeL.nil))
theorem lpNod_le (t : Str) : LeA (.agg [.v (.int .i64 0), .v (.int .i64 3), .v (.int .i64 0), .v (.int .i64 0), .v (.int .i64 0), .v (.int .i64 0), .v (.string t), .v (.slice none 0 0)]) (.agg (nodA (lpNod t))) := LeA.agg (LeL.cons (LeA.refl _) (LeL.cons (LeA.refl _) (LeL.cons (LeA.refl _) (LeL.cons (LeA.refl _) (LeL.cons (LeA.refl _) (LeL.cons (LeA.refl _) (LeL.cons (LeA.refl _) (LeL.cons (LeA.nil _) LeL.nil))))))))
theorem lp_size : ∀ j, j ≤ 12 → (lpLast j).size ≤ 1 := by decide
set_option maxRecDepth 100000 in
theorem lp_len : ∀ i < 11, 0 < (lpF i).length := by decide +kernel
set_option maxRecDepth 100000 in
theorem lp_lenZ : ∀ i < 11, 0 < (lpZ i).length := by decide +kernel
section
set_option maxRecDepth 10000
set_option maxHeartbeats 2000000
theorem Lloops7 (n : Int) (hn : 0 ≤ n ∧ n < 256) : AFn Try.prog 7 [.v (.int .u8 n)] (fun r => r = .v (.bool true)) := by
  obtain ⟨k, hk, hk12⟩ : ∃ k : Nat, n.tmod 12 = k ∧ k < 12 := by
    have h1 := Int.emod_nonneg n (show (12 : Int) ≠ 0 by decide)
    have h2 := Int.emod_lt_of_pos n (show (0 : Int) < 12 by decide)
    exact ⟨(n % 12).toNat, by rw [Int.tmod_eq_emod_of_nonneg hn.1]; omega, by omega⟩
  have hnew : AFn Try.prog 21 [.v (.int .i64 1)] (fun r => r = .tup [.agg (flsA (newL 1).1), .v (.int .i64 0)]) := Rnew 1
  obtain ⟨c0, hmk0⟩ : ∃ c0, AFn Try.prog 19 [.agg (flsA (newL 1).1), .agg (filA (0, 1)), .v (.string ⟨#[102]⟩), .agg (nodA lpFile)] (fun r => r = .tup [.agg (flsA (lpF 0)), .sl 7 (List.map chgA c0) none, .v (.int .i64 0)]) :=
    ⟨_, (Rmake (newL 1).1 (0, 1) ⟨#[102]⟩ lpFile new_valid1 (by decide) (by decide)).mono fun r hr => by rw [hr]; unfold chgR; rw [lp_make0]; rfl⟩
  have hmk : ∀ j, j < 10 → AFn Try.prog 19 [.agg (flsA (lpF j)), .agg (filA (0, 1)), .v (.string (lpLast (j + 1))), .agg (nodA (lpNod (lpLast j)))] (fun r => r = .tup [.agg (flsA (lpF (j + 1))), .sl 7 (List.map chgA (mkL (lpF j) (0, 1) (lpLast (j + 1)) (lpNod (lpLast j))).2.1) none, .v (.int .i64 0)]) := fun j hj =>
    (Rmake (lpF j) (0, 1) (lpLast (j + 1)) (lpNod (lpLast j)) (lp_valid j (by omega)) (by have := lp_size (j + 1) (by omega); omega) (by have := lp_size j (by omega); show (lpLast j).size ≤ _; omega)).mono fun r hr => by rw [hr]; unfold chgR; rw [lp_make j hj]; rfl
  have hmz : ∀ j, j < 11 → AFn Try.prog 19 [.agg (flsA (lpF j)), .agg (filA (0, 1)), .v (.string ⟨#[122]⟩), .agg (nodA (lpNod ⟨#[47, 122]⟩))] (fun r => r = .tup [.agg (flsA (lpZ j)), .sl 7 (List.map chgA (mkL (lpF j) (0, 1) ⟨#[122]⟩ (lpNod ⟨#[47, 122]⟩)).2.1) none, .v (.int .i64 0)]) := fun j hj =>
    (Rmake (lpF j) (0, 1) ⟨#[122]⟩ (lpNod ⟨#[47, 122]⟩) (lp_valid j (by omega)) (by decide) (by decide)).mono fun r hr => by rw [hr]; unfold chgR; rw [lp_makeZ j hj]; rfl
  have hsp : ∀ f, FlsV f → 0 < f.length → SpcV ⟨f, []⟩ := fun f h h0 => flsV_spc h h0
  have hfd : ∀ j, j < 11 → ∃ (A : Fnd) (e : Int), ((e = 0 ∧ j ≤ 8 ∧ A.name = ⟨#[102]⟩) ∨ (e = 40 ∧ 8 < j)) ∧ AFn Try.prog 11 [.agg (spcA ⟨lpF j, []⟩), .agg (filA (0, 1)), .v (.string (lpLast j)), .v (.bool true)] (fun r => r = .tup [.agg (fndA A), .v (.int .i64 e)]) := by
    intro j hj
    have hv := hsp (lpF j) (lp_valid j (by omega)) (lp_len j (by omega))
    refine ⟨(findL ⟨lpF j, []⟩ (0, 1) (lpLast j) true).1, (findL ⟨lpF j, []⟩ (0, 1) (lpLast j) true).2, ?_, Pfind7 ⟨lpF j, []⟩ (0, 1) (lpLast j) true (hv.n (Nat.zero_le 1000)) hv (by have := lp_size j (by omega); omega)⟩
    rw [lp_find j hj]
    by_cases h8 : j ≤ 8
    · rw [if_pos h8]; exact .inl ⟨rfl, h8, lp_name j hj h8⟩
    · rw [if_neg h8]; exact .inr ⟨rfl, by omega⟩
  have hfz : ∀ j, j < 11 → ∀ (b : Bool), ∃ A : Fnd, AFn Try.prog 11 [.agg (spcA ⟨lpZ j, []⟩), .agg (filA (0, 1)), .v (.string ⟨#[122]⟩), .v (.bool b)] (fun r => r = .tup [.agg (fndA A), .v (.int .i64 (if b = true then 40 else 0))]) := by
    intro j hj b
    have hv := hsp (lpZ j) (lp_validZ hj) (lp_lenZ j hj)
    refine ⟨(findL ⟨lpZ j, []⟩ (0, 1) ⟨#[122]⟩ b).1, (Pfind7 ⟨lpZ j, []⟩ (0, 1) ⟨#[122]⟩ b (hv.n (Nat.zero_le 1000)) hv (by decide)).mono fun r hr => ?_⟩
    rw [hr]
    cases b with
    | true => rw [lp_loop j hj]; rfl
    | false => rw [lp_link j hj]; rfl
  refine enter Try.func7 rfl rfl rfl rfl rfl 0 rfl ?_
  refine w_ (a_ (h:=e_ (?_)))
  refine aw_midI (fun t => t = ⟨look [(3, .v (.int .i64 (k : Int)))], ⟨[], []⟩⟩) ?_ ?_
  · skip
    refine aw_region (m_ (h:=?_))
    refine al_p rfl (st_rem rfl rfl (by decide) ?_)
    refine al_p rfl (st_conv rfl Try.underlying5 Try.underlying3 ?_)
    refine a_ (h:=al_nil (?_))
    refine x_then ?_
    rw [hk, show IntKind.i64.wrap (k : Int) = (k : Int) by rw [IntKind.wrap_i64]; omega]
    exact ⟨_, rfl, (wk 0 0)⟩
  · rintro t rfl
    refine w_ (?_)
    refine al_p rfl (q_call (hnew) ?_)
    rintro r rfl
    refine m_ (h:=x_ (h:=x_ (h:=al_ (h:=s_ (h:=a_ (h:=e_ (w_ (bd_ (h:=al_ (h:=s_ (h:=e_ (w_ (l_ (h:=l_ (h:=?_)))))))))))))))
    refine al_p rfl (st_le (y := .agg (nodA lpFile)) (st_build (by repeat (first | exact FillA.nil _ | (apply FillA.cons; (focus exact rfl); (focus exact rfl); (focus exact rfl); (focus exact rfl); (focus exact rfl); (focus (repeat constructor))))) ⟨rfl, rfl⟩) (by repeat (first | exact LeA.refl _ | exact LeA.nil _ | exact LeL.refl _ | refine LeA.agg ?_ | refine LeA.tup ?_ | exact LeL.nil | refine LeL.cons ?_ ?_ | exact LeA.any _)) ?_)
    refine al_p rfl (q_call (hmk0) ?_)
    rintro r rfl
    refine m_ (h:=x_ (h:=x_ (h:=x_ (h:=s_ (h:=e_ (w_ (a_ (h:=e_ (w_ (bs_ (h:=a_ (h:=e_ (w_ (a_ (h:=e_ (q_ (w_ (a_ (h:=e_ (aw_block (?_)))))))))))))))))))))
    refine aw_loopW (fun m t => ∃ j : Nat, j ≤ k ∧ j ≤ 10 ∧ m = 10 - j ∧ t = ⟨look [(3, .v (.int .i64 (k : Int))), (4, .bp 0 0), (6, .bp 1 0), (7, .v (.string (lpLast j))), (8, .sl 1 (lpNames.map strA) none), (10, .v (.int .i64 (j : Int)))], ⟨[flsA (lpF j), filA (0, 1)], []⟩⟩) (10) ((wk 2 0)) (⟨0, by omega, by omega, rfl, rfl⟩) ?_
    rintro m t ⟨j, hjk, hj10, rfl, rfl⟩
    have hrow := lp_row (j := j) (by omega)
    refine q_ (w_ (m_ (h:=m_ (h:=lt_ (h:=m_ (h:=?_))))))
    refine al_gs true rfl rfl (fun hb1 => ?_) (fun hb1 => ?_)
    · have hc1 := bp hb1
      refine m_ (h:=lt_ (h:=pt_ (h:=e_ (?_))))
      refine aw_cond rfl (fun hb2 => ?_) (fun hb2 => ?_)
      · have hc2 := bp hb2
        refine kt_ (q_ (aw_block (q_ (yk_ ([(1, filA (0, 1))]) 15 (h:=dl_ 1 (h:=dm_ 2 (h:=dm_ 3 (h:=?_))))))))
        refine tk_ 4 rfl (fun _ hS => st_index (n := j) rfl rfl rfl hrow ⟨rfl, rfl⟩) ?_
        refine dl_ 5 (h:=dm_ 6 (h:=?_))
        refine tk_ 7 rfl (fun _ hS => st_le (y := .agg (nodA (lpNod (lpLast j)))) (st_build (by repeat (first | exact FillA.nil _ | (apply FillA.cons; (focus exact rfl); (focus exact rfl); (focus exact rfl); (focus exact rfl); (focus exact rfl); (focus (repeat constructor))))) ⟨rfl, rfl⟩) (lpNod_le _) ⟨rfl, rfl⟩) ?_
        refine c_ 0 rfl (st_loadBW rfl rfl rfl ?_)
        refine o_ (h:=?_)
        refine c_ 8 rfl (q_call (hmk j (by omega)) ?_)
        rintro r rfl
        refine o_ (h:=dm_ 9 (h:=dx_ 10 (h:=dx_ 11 (h:=dx_ 12 (h:=?_)))))
        refine c0_ 13 rfl (s_store rfl rfl rfl rfl rfl rfl (by repeat constructor) (by repeat constructor) ?_)
        refine o_ (h:=da_ 14 (h:=z_ (h:=t_ (q_ (w_ (m_ (h:=nq_ (h:=e_ (?_)))))))))
        refine aw_cond rfl (fun hb3 => ?_) (fun hb3 => ?_)
        · have hc3 := bp hb3
          refine w_ (?_)
          refine al_p rfl (q_call (Lawake7) ?_)
          rintro r rfl
          refine a_ (h:=e_ (aw_ret (x_thenR (x_blockR (x_thenR (x_thenR (x_blockR (x_thenR (?_)))))))))
          refine e_ret ?_
          first | rfl | (exfalso; first | contradiction | omega | (rcases hA with ⟨h1, h2, h3⟩ | ⟨h1, h2⟩ <;> simp_all <;> omega) | (simp_all; done))
        · have hc3 := bp hb3
          refine kt_ (aw_region (m_ (h:=m_ (h:=?_))))
          refine al_p rfl (st_index (n := j) rfl rfl rfl hrow ?_)
          refine l_ (h:=a_ (h:=al_nil (x_blockN (t_ (aw_region (m_ (h:=ad_ (h:=a_ (h:=al_nil (?_))))))))))
          refine x_then ?_
          refine ⟨_, _, ?_, ⟨j + 1, by omega, by omega, rfl, rfl⟩, (wk 2 0)⟩
          omega
      · have hc2 := bp hb2
        refine aw_exit (x_thenE (x_thenE (ABlock_out (t_ (?_)))))
        refine aw_midI (fun t => t = ⟨look [(3, .v (.int .i64 (j : Int))), (4, .bp 0 0), (6, .bp 1 0), (7, .v (.string (lpLast j)))], ⟨[flsA (lpF j), filA (0, 1)], []⟩⟩) ?_ ?_
        · skip
          refine aw_region (m_ (h:=?_))
          refine al_p rfl (st_min rfl rfl ?_)
          refine a_ (h:=al_nil (?_))
          refine x_then ?_
          rw [show (if (10 : Int) < (k : Int) then (10 : Int) else (k : Int)) = (j : Int) by split <;> omega]
          exact ⟨_, rfl, (wk 2 0)⟩
        · rintro t rfl
          obtain ⟨A, e, hA, hfd⟩ := hfd j (by omega)
          obtain ⟨Z1, hz1⟩ := hfz j (by omega) true
          obtain ⟨Z2, hz2⟩ := hfz j (by omega) false
          refine w_ (l_ (h:=?_))
          refine al_p rfl (st_le (y := .agg (spcA ⟨lpF j, []⟩)) (st_build (by repeat (first | exact FillA.nil _ | (apply FillA.cons; (focus exact rfl); (focus exact rfl); (focus exact rfl); (focus exact rfl); (focus exact rfl); (focus (repeat constructor))))) ⟨rfl, rfl⟩) (spc0_le _) ?_)
          refine l_ (h:=m_ (h:=?_))
          refine al_p rfl (q_call (hfd) ?_)
          rintro r rfl
          refine m_ (h:=x_ (h:=x_ (h:=al_ (h:=s_ (h:=a_ (h:=e_ (?_)))))))
          refine aw_midI (fun t => t = ⟨look [(4, .bp 0 0), (6, .bp 1 0)], ⟨[flsA (lpF j), filA (0, 1)], []⟩⟩) ?_ ?_
          · skip
            refine w_ (m_ (h:=eq_ (h:=m_ (h:=le_ (h:=nq_ (h:=m_ (h:=?_)))))))
            refine al_gs false rfl rfl (fun hb4 => ?_) (fun hb4 => ?_)
            · have hc4 := bp hb4
              refine g0_ (h:=g0_ (h:=g0_ (h:=gu_ (h:=gu_ (h:=g0_ (h:=pt_ (h:=m_ (h:=g0_ (h:=g0_ (h:=g0_ (h:=gu_ (h:=gu_ (h:=gu_ (h:=g0_ (h:=pt_ (h:=e_ (cy_ (h:=w_ (a_ (h:=e_ (aw_ret (x_thenR (?_)))))))))))))))))))))))
              refine e_ret ?_
              first | rfl | (exfalso; first | contradiction | omega | (rcases hA with ⟨h1, h2, h3⟩ | ⟨h1, h2⟩ <;> simp_all <;> omega) | (simp_all; done))
            · have hc4 := bp hb4
              refine m_ (h:=nq_ (h:=m_ (h:=?_)))
              refine al_gs true rfl rfl (fun hb5 => ?_) (fun hb5 => ?_)
              · have hc5 := bp hb5
                refine m_ (h:=nq_ (h:=pt_ (h:=pf_ (h:=m_ (h:=?_)))))
                refine al_gs false rfl rfl (fun hb6 => ?_) (fun hb6 => ?_)
                · have hc6 := bp hb6
                  refine g0_ (h:=g0_ (h:=g0_ (h:=gu_ (h:=gu_ (h:=gu_ (h:=g0_ (h:=pt_ (h:=e_ (cy_ (h:=w_ (a_ (h:=e_ (aw_ret (x_thenR (?_)))))))))))))))
                  refine e_ret ?_
                  first | rfl | (exfalso; first | contradiction | omega | (rcases hA with ⟨h1, h2, h3⟩ | ⟨h1, h2⟩ <;> simp_all <;> omega) | (simp_all; done))
                · have hc6 := bp hb6
                  refine m_ (h:=eq_ (h:=m_ (h:=g0_ (h:=g0_ (h:=g0_ (h:=pf_ (h:=pf_ (h:=e_ (cn_ (h:=aw_skip (?_)))))))))))
                  refine x_then ?_
                  exact ⟨_, rfl, (wk 2 0)⟩
              · have hc5 := bp hb5
                refine g0_ (h:=g0_ (h:=pf_ (h:=pf_ (h:=m_ (h:=m_ (h:=eq_ (h:=m_ (h:=f_ (h:=l_ (h:=nq_ (h:=pt_ (h:=pf_ (h:=e_ (?_))))))))))))))
                refine aw_cond rfl (fun hb7 => ?_) (fun hb7 => ?_)
                · have hc7 := bp hb7
                  refine w_ (a_ (h:=e_ (aw_ret (x_thenR (?_)))))
                  refine e_ret ?_
                  first | rfl | (exfalso; first | contradiction | omega | (rcases hA with ⟨h1, h2, h3⟩ | ⟨h1, h2⟩ <;> simp_all <;> omega) | (simp_all; done))
                · have hc7 := bp hb7
                  refine aw_skip (?_)
                  refine x_then ?_
                  exact ⟨_, rfl, (wk 2 0)⟩
          · rintro t rfl
            refine w_ (l_ (h:=l_ (h:=?_)))
            refine al_p rfl (st_le (y := .agg (nodA (lpNod ⟨#[47, 122]⟩))) (st_build (by repeat (first | exact FillA.nil _ | (apply FillA.cons; (focus exact rfl); (focus exact rfl); (focus exact rfl); (focus exact rfl); (focus exact rfl); (focus (repeat constructor))))) ⟨rfl, rfl⟩) (by repeat (first | exact LeA.refl _ | exact LeA.nil _ | exact LeL.refl _ | refine LeA.agg ?_ | refine LeA.tup ?_ | exact LeL.nil | refine LeL.cons ?_ ?_ | exact LeA.any _)) ?_)
            refine al_p rfl (q_call (hmz j (by omega)) ?_)
            rintro r rfl
            refine m_ (h:=x_ (h:=x_ (h:=x_ (h:=s_ (h:=e_ (w_ (l_ (h:=?_))))))))
            refine al_p rfl (st_le (y := .agg (spcA ⟨lpZ j, []⟩)) (st_build (by repeat (first | exact FillA.nil _ | (apply FillA.cons; (focus exact rfl); (focus exact rfl); (focus exact rfl); (focus exact rfl); (focus exact rfl); (focus (repeat constructor))))) ⟨rfl, rfl⟩) (spc0_le _) ?_)
            refine l_ (h:=?_)
            refine al_p rfl (q_call (hz1) ?_)
            rintro r rfl
            refine m_ (h:=x_ (h:=x_ (h:=al_ (h:=s_ (h:=a_ (h:=e_ (w_ (l_ (h:=?_)))))))))
            refine al_p rfl (st_le (y := .agg (spcA ⟨lpZ j, []⟩)) (st_build (by repeat (first | exact FillA.nil _ | (apply FillA.cons; (focus exact rfl); (focus exact rfl); (focus exact rfl); (focus exact rfl); (focus exact rfl); (focus (repeat constructor))))) ⟨rfl, rfl⟩) (spc0_le _) ?_)
            refine l_ (h:=?_)
            refine al_p rfl (q_call (hz2) ?_)
            rintro r rfl
            refine m_ (h:=x_ (h:=x_ (h:=al_ (h:=s_ (h:=a_ (h:=e_ (w_ (m_ (h:=eq_ (h:=m_ (h:=?_)))))))))))
            refine al_gs true rfl rfl (fun hb8 => ?_) (fun hb8 => ?_)
            · have hc8 := bp hb8
              refine m_ (h:=eq_ (h:=pt_ (h:=m_ (h:=?_))))
              refine al_gs true rfl rfl (fun hb9 => ?_) (fun hb9 => ?_)
              · have hc9 := bp hb9
                refine g_y (q_call (Lawake7) ?_)
                rintro r rfl
                refine pt_ (h:=a_ (h:=e_ (aw_ret (?_))))
                refine e_ret ?_
                first | rfl | (exfalso; first | contradiction | omega | (rcases hA with ⟨h1, h2, h3⟩ | ⟨h1, h2⟩ <;> simp_all <;> omega) | (simp_all; done))
              · have hc9 := bp hb9
                refine g0_ (h:=pf_ (h:=a_ (h:=e_ (aw_ret (?_)))))
                refine e_ret ?_
                first | rfl | (exfalso; first | contradiction | omega | (rcases hA with ⟨h1, h2, h3⟩ | ⟨h1, h2⟩ <;> simp_all <;> omega) | (simp_all; done))
            · have hc8 := bp hb8
              refine g0_ (h:=g0_ (h:=pf_ (h:=m_ (h:=g0_ (h:=pf_ (h:=a_ (h:=e_ (aw_ret (?_)))))))))
              refine e_ret ?_
              first | rfl | (exfalso; first | contradiction | omega | (rcases hA with ⟨h1, h2, h3⟩ | ⟨h1, h2⟩ <;> simp_all <;> omega) | (simp_all; done))
    · have hc1 := bp hb1
      refine g0_ (h:=g0_ (h:=pf_ (h:=e_ (cn_ (h:=aw_exit (x_thenE (x_thenE (ABlock_out (t_ (?_))))))))))
      refine aw_midI (fun t => t = ⟨look [(3, .v (.int .i64 (j : Int))), (4, .bp 0 0), (6, .bp 1 0), (7, .v (.string (lpLast j)))], ⟨[flsA (lpF j), filA (0, 1)], []⟩⟩) ?_ ?_
      · skip
        refine aw_region (m_ (h:=?_))
        refine al_p rfl (st_min rfl rfl ?_)
        refine a_ (h:=al_nil (?_))
        refine x_then ?_
        rw [show (if (10 : Int) < (k : Int) then (10 : Int) else (k : Int)) = (j : Int) by split <;> omega]
        exact ⟨_, rfl, (wk 2 0)⟩
      · rintro t rfl
        obtain ⟨A, e, hA, hfd⟩ := hfd j (by omega)
        obtain ⟨Z1, hz1⟩ := hfz j (by omega) true
        obtain ⟨Z2, hz2⟩ := hfz j (by omega) false
        refine w_ (l_ (h:=?_))
        refine al_p rfl (st_le (y := .agg (spcA ⟨lpF j, []⟩)) (st_build (by repeat (first | exact FillA.nil _ | (apply FillA.cons; (focus exact rfl); (focus exact rfl); (focus exact rfl); (focus exact rfl); (focus exact rfl); (focus (repeat constructor))))) ⟨rfl, rfl⟩) (spc0_le _) ?_)
        refine l_ (h:=m_ (h:=?_))
        refine al_p rfl (q_call (hfd) ?_)
        rintro r rfl
        refine m_ (h:=x_ (h:=x_ (h:=al_ (h:=s_ (h:=a_ (h:=e_ (?_)))))))
        refine aw_midI (fun t => t = ⟨look [(4, .bp 0 0), (6, .bp 1 0)], ⟨[flsA (lpF j), filA (0, 1)], []⟩⟩) ?_ ?_
        · skip
          refine w_ (m_ (h:=eq_ (h:=m_ (h:=le_ (h:=nq_ (h:=m_ (h:=?_)))))))
          refine al_gs false rfl rfl (fun hb10 => ?_) (fun hb10 => ?_)
          · have hc10 := bp hb10
            refine g0_ (h:=g0_ (h:=g0_ (h:=gu_ (h:=gu_ (h:=g0_ (h:=pt_ (h:=m_ (h:=g0_ (h:=g0_ (h:=g0_ (h:=gu_ (h:=gu_ (h:=gu_ (h:=g0_ (h:=pt_ (h:=e_ (cy_ (h:=w_ (a_ (h:=e_ (aw_ret (x_thenR (?_)))))))))))))))))))))))
            refine e_ret ?_
            first | rfl | (exfalso; first | contradiction | omega | (rcases hA with ⟨h1, h2, h3⟩ | ⟨h1, h2⟩ <;> simp_all <;> omega) | (simp_all; done))
          · have hc10 := bp hb10
            refine m_ (h:=nq_ (h:=m_ (h:=?_)))
            refine al_gs true rfl rfl (fun hb11 => ?_) (fun hb11 => ?_)
            · have hc11 := bp hb11
              refine m_ (h:=nq_ (h:=pt_ (h:=pf_ (h:=m_ (h:=?_)))))
              refine al_gs false rfl rfl (fun hb12 => ?_) (fun hb12 => ?_)
              · have hc12 := bp hb12
                refine g0_ (h:=g0_ (h:=g0_ (h:=gu_ (h:=gu_ (h:=gu_ (h:=g0_ (h:=pt_ (h:=e_ (cy_ (h:=w_ (a_ (h:=e_ (aw_ret (x_thenR (?_)))))))))))))))
                refine e_ret ?_
                first | rfl | (exfalso; first | contradiction | omega | (rcases hA with ⟨h1, h2, h3⟩ | ⟨h1, h2⟩ <;> simp_all <;> omega) | (simp_all; done))
              · have hc12 := bp hb12
                refine m_ (h:=eq_ (h:=m_ (h:=g0_ (h:=g0_ (h:=g0_ (h:=pf_ (h:=pf_ (h:=e_ (cn_ (h:=aw_skip (?_)))))))))))
                refine x_then ?_
                exact ⟨_, rfl, (wk 2 0)⟩
            · have hc11 := bp hb11
              refine g0_ (h:=g0_ (h:=pf_ (h:=pf_ (h:=m_ (h:=m_ (h:=eq_ (h:=m_ (h:=f_ (h:=l_ (h:=nq_ (h:=pt_ (h:=pf_ (h:=e_ (?_))))))))))))))
              refine aw_cond rfl (fun hb13 => ?_) (fun hb13 => ?_)
              · have hc13 := bp hb13
                refine w_ (a_ (h:=e_ (aw_ret (x_thenR (?_)))))
                refine e_ret ?_
                first | rfl | (exfalso; first | contradiction | omega | (rcases hA with ⟨h1, h2, h3⟩ | ⟨h1, h2⟩ <;> simp_all <;> omega) | (simp_all; done))
              · have hc13 := bp hb13
                refine aw_skip (?_)
                refine x_then ?_
                exact ⟨_, rfl, (wk 2 0)⟩
        · rintro t rfl
          refine w_ (l_ (h:=l_ (h:=?_)))
          refine al_p rfl (st_le (y := .agg (nodA (lpNod ⟨#[47, 122]⟩))) (st_build (by repeat (first | exact FillA.nil _ | (apply FillA.cons; (focus exact rfl); (focus exact rfl); (focus exact rfl); (focus exact rfl); (focus exact rfl); (focus (repeat constructor))))) ⟨rfl, rfl⟩) (by repeat (first | exact LeA.refl _ | exact LeA.nil _ | exact LeL.refl _ | refine LeA.agg ?_ | refine LeA.tup ?_ | exact LeL.nil | refine LeL.cons ?_ ?_ | exact LeA.any _)) ?_)
          refine al_p rfl (q_call (hmz j (by omega)) ?_)
          rintro r rfl
          refine m_ (h:=x_ (h:=x_ (h:=x_ (h:=s_ (h:=e_ (w_ (l_ (h:=?_))))))))
          refine al_p rfl (st_le (y := .agg (spcA ⟨lpZ j, []⟩)) (st_build (by repeat (first | exact FillA.nil _ | (apply FillA.cons; (focus exact rfl); (focus exact rfl); (focus exact rfl); (focus exact rfl); (focus exact rfl); (focus (repeat constructor))))) ⟨rfl, rfl⟩) (spc0_le _) ?_)
          refine l_ (h:=?_)
          refine al_p rfl (q_call (hz1) ?_)
          rintro r rfl
          refine m_ (h:=x_ (h:=x_ (h:=al_ (h:=s_ (h:=a_ (h:=e_ (w_ (l_ (h:=?_)))))))))
          refine al_p rfl (st_le (y := .agg (spcA ⟨lpZ j, []⟩)) (st_build (by repeat (first | exact FillA.nil _ | (apply FillA.cons; (focus exact rfl); (focus exact rfl); (focus exact rfl); (focus exact rfl); (focus exact rfl); (focus (repeat constructor))))) ⟨rfl, rfl⟩) (spc0_le _) ?_)
          refine l_ (h:=?_)
          refine al_p rfl (q_call (hz2) ?_)
          rintro r rfl
          refine m_ (h:=x_ (h:=x_ (h:=al_ (h:=s_ (h:=a_ (h:=e_ (w_ (m_ (h:=eq_ (h:=m_ (h:=?_)))))))))))
          refine al_gs true rfl rfl (fun hb14 => ?_) (fun hb14 => ?_)
          · have hc14 := bp hb14
            refine m_ (h:=eq_ (h:=pt_ (h:=m_ (h:=?_))))
            refine al_gs true rfl rfl (fun hb15 => ?_) (fun hb15 => ?_)
            · have hc15 := bp hb15
              refine g_y (q_call (Lawake7) ?_)
              rintro r rfl
              refine pt_ (h:=a_ (h:=e_ (aw_ret (?_))))
              refine e_ret ?_
              first | rfl | (exfalso; first | contradiction | omega | (rcases hA with ⟨h1, h2, h3⟩ | ⟨h1, h2⟩ <;> simp_all <;> omega) | (simp_all; done))
            · have hc15 := bp hb15
              refine g0_ (h:=pf_ (h:=a_ (h:=e_ (aw_ret (?_)))))
              refine e_ret ?_
              first | rfl | (exfalso; first | contradiction | omega | (rcases hA with ⟨h1, h2, h3⟩ | ⟨h1, h2⟩ <;> simp_all <;> omega) | (simp_all; done))
          · have hc14 := bp hb14
            refine g0_ (h:=g0_ (h:=pf_ (h:=m_ (h:=g0_ (h:=pf_ (h:=a_ (h:=e_ (aw_ret (?_)))))))))
            refine e_ret ?_
            first | rfl | (exfalso; first | contradiction | omega | (rcases hA with ⟨h1, h2, h3⟩ | ⟨h1, h2⟩ <;> simp_all <;> omega) | (simp_all; done))

end
end Go.Proofs.Ytaidkbnbfnaihaa
namespace Go.Proofs.Ytaidkbnbfnaihaa
open Go.RowKit
theorem LookupLoops_walk (n : Int) (w : World) (h0 : 0 ≤ n) (h1 : n ≤ 255) : Calls Try.prog 7 #[.int .u8 n] w fun e w' => e = .returned (.bool true) ∧ Below w.heap.size w w' :=
  calls_vals [.int .u8 n] (Lloops7 n ⟨h0, by omega⟩) w
end Go.Proofs.Ytaidkbnbfnaihaa
