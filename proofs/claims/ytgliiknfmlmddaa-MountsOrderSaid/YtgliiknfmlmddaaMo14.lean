/-
  Part 14 of the proof of MountsOrderP: what the statement's proof uses of the texts in wip/tpl.
-/
import Derived.Test.YtgliiknfmlmddaaMo13
namespace Go.Proofs.Ytgliiknfmlmddaa
open Go.RowKit

structure Ord (s : Spc) (W : Fil → Fil → Bool) : Prop where
  refl : ∀ a, W a a = dirL s.files a
  anti : ∀ a b, W a b = true → W b a = true → a = b
  trans : ∀ a b c, W a b = true → W b c = true → W a c = true
  root : ∀ a, (whereP s a).2 = true → W (0, 1) a = true
  calls : ∀ a b, AFn Try.prog 20 [.agg (spcA s), .agg (filA a), .agg (filA b)] (fun r => r = .v (.bool (W a b)))
theorem ord_of {s : Spc} (hv : SpcV s) (hs : SpcB s) : ∃ W, Ord s W := by
  refine ⟨fun a b => decide (a ∈ chainP s (mostL s.files) b), within_refl hv, fun a b h1 h2 => within_anti hv (of_decide_eq_true h1) (of_decide_eq_true h2), fun a b c h1 h2 => decide_eq_true (within_trans hv (of_decide_eq_true h1) (of_decide_eq_true h2)), fun a h => ?_, fun a b => Pwithin s hs a b⟩
  unfold whereP at h
  split at h
  · rename_i c
    exact decide_eq_true c.2.2
  · cases h
section
set_option maxRecDepth 10000
set_option maxHeartbeats 2000000
theorem Lorder (l : List Int) : AFn Try.prog 5 [.sl 1 (l.map intA) none] (fun r => r = .v (.bool true)) := by
  refine enter Try.func5 rfl rfl rfl rfl rfl 0 rfl ?_
  refine w_ (a_ (h:=e_ (w_ (m_ (h:=?_)))))
  refine al_p rfl (s_callN rfl (by repeat (first | exact Args.nil | refine Args.cons _ _ _ _ _ rfl (argOk_clean rfl) ?_ | refine Args.cons _ _ _ _ _ rfl (argOk_nil _) ?_ | refine Args.cons _ _ _ _ _ rfl (argOk_era _) ?_ | refine Args.cons _ _ _ _ _ rfl (argOk_le rfl (by repeat (first | exact LeA.refl _ | exact LeA.nil _ | exact LeL.refl _ | refine LeA.agg ?_ | refine LeA.tup ?_ | exact LeL.nil | refine LeL.cons ?_ ?_ | exact LeA.any _))) ?_)) rfl (Gnew l) (by repeat constructor) ?_)
  skip
  refine a_ (h:=e_ (w_ (m_ (h:=?_))))
  refine al_p rfl (s_gen 0 (hc := Gspace l _ (by omega)) (hR := ?_))
  rintro r a1 ha1 ⟨s, rfl, hv, hm⟩
  refine ⟨rfl, _, (by repeat constructor), ?_⟩
  have hsb := hv.b (show s.mounts.length ≤ 1000 by omega)
  have hsn := hv.n (show s.mounts.length ≤ 1000 by omega)
  obtain ⟨W, hW⟩ := ord_of hv hsb
  refine al_ (h:=s_ (h:=e_ (?_)))
  refine aw_midI (fun t => ∃ (b : Nat) (x y z : Fil), t = ⟨look [(3, .bp 0 0), (4, .bp 1 0), (5, .bp 2 0), (6, .bp 3 0), (7, .bp 4 0)], ⟨[srcA l b, spcA s, filA x, filA y, filA z], []⟩⟩) ?_ ?_
  · skip
    refine yk_ ([(1, spcA s)]) 18 (h:=dm_ 0 (h:=df_ 1 (h:=?_)))
    first | refine dl_ 2 (h:=?_) | refine tk_ 2 rfl (fun _ hS => st_loadBE (row := spcA s) rfl (kb hS rfl) (Nat.le_of_ble_eq_true rfl) rfl ⟨rfl, rfl⟩) ?_
    refine dm_ 4 (h:=df_ 5 (h:=?_))
    first | refine dl_ 6 (h:=?_) | refine tk_ 6 rfl (fun _ hS => st_loadBE (row := spcA s) rfl (kb hS rfl) (Nat.le_of_ble_eq_true rfl) rfl ⟨rfl, rfl⟩) ?_
    refine dm_ 8 (h:=df_ 9 (h:=?_))
    first | refine dl_ 10 (h:=?_) | refine tk_ 10 rfl (fun _ hS => st_loadBE (row := spcA s) rfl (kb hS rfl) (Nat.le_of_ble_eq_true rfl) rfl ⟨rfl, rfl⟩) ?_
    refine cm_ 3 (ao_ 3 rfl ?_ (ao_ 12 rfl ?_ (ao_ 13 rfl ?_ (ao_ 14 rfl ?_ ao_n))))
    · refine s_gen 0 (hc := Gfile l _ s.files (by omega) hv.files.b hv.files.ne) (hR := ?_)
      rintro r a2 ha2 ⟨x2, rfl⟩
      refine ⟨rfl, _, (by repeat constructor), ?_⟩
      refine o_ (h:=?_)
      refine cm_ 7 (ao_ 7 rfl ?_ (ao_ 12 rfl ?_ (ao_ 13 rfl ?_ (ao_ 14 rfl ?_ ao_n))))
      · refine s_gen 0 (hc := Gfile l _ s.files (by omega) hv.files.b hv.files.ne) (hR := ?_)
        rintro r a3 ha3 ⟨x3, rfl⟩
        refine ⟨rfl, _, (by repeat constructor), ?_⟩
        refine o_ (h:=?_)
        refine cm_ 11 (ao_ 11 rfl ?_ (ao_ 12 rfl ?_ (ao_ 13 rfl ?_ (ao_ 14 rfl ?_ ao_n))))
        · refine s_gen 0 (hc := Gfile l _ s.files (by omega) hv.files.b hv.files.ne) (hR := ?_)
          rintro r a4 ha4 ⟨x4, rfl⟩
          refine ⟨rfl, _, (by repeat constructor), ?_⟩
          refine o_ (h:=?_)
          refine cm_ 12 (ao_ 12 rfl ?_ (ao_ 13 rfl ?_ (ao_ 14 rfl ?_ ao_n)))
          · refine s_alloc (by repeat constructor) ?_
            refine o_ (h:=?_)
            refine c2_ 13 14 rfl rfl ?_ ?_
            · refine s_alloc (by repeat constructor) ?_
              refine o_ (h:=?_)
              refine c_ 14 rfl (s_alloc (by repeat constructor) ?_)
              refine o_ (h:=?_)
              refine c0_ 15 rfl (s_store rfl rfl rfl rfl rfl rfl (by repeat constructor) (by repeat constructor) ?_)
              refine o_ (h:=?_)
              refine c0_ 16 rfl (s_store rfl rfl rfl rfl rfl rfl (by repeat constructor) (by repeat constructor) ?_)
              refine o_ (h:=?_)
              refine c0_ 17 rfl (s_store rfl rfl rfl rfl rfl rfl (by repeat constructor) (by repeat constructor) ?_)
              refine o_ (h:=z_ (h:=?_))
              refine x_then ?_
              exact ⟨_, ⟨_, _, _, _, rfl⟩, wr_ [0, 1, 2, 3, 4]⟩
            · refine s_alloc (by repeat constructor) ?_
              refine o_ (h:=?_)
              refine c_ 13 rfl (s_alloc (by repeat constructor) ?_)
              refine o_ (h:=?_)
              refine c0_ 15 rfl (s_store rfl rfl rfl rfl rfl rfl (by repeat constructor) (by repeat constructor) ?_)
              refine o_ (h:=?_)
              refine c0_ 16 rfl (s_store rfl rfl rfl rfl rfl rfl (by repeat constructor) (by repeat constructor) ?_)
              refine o_ (h:=?_)
              refine c0_ 17 rfl (s_store rfl rfl rfl rfl rfl rfl (by repeat constructor) (by repeat constructor) ?_)
              refine o_ (h:=z_ (h:=?_))
              refine x_then ?_
              exact ⟨_, ⟨_, _, _, _, rfl⟩, wr_ [0, 1, 2, 4, 3]⟩
          · refine s_alloc (by repeat constructor) ?_
            refine o_ (h:=?_)
            refine c2_ 12 14 rfl rfl ?_ ?_
            · refine s_alloc (by repeat constructor) ?_
              refine o_ (h:=?_)
              refine c_ 14 rfl (s_alloc (by repeat constructor) ?_)
              refine o_ (h:=?_)
              refine c0_ 15 rfl (s_store rfl rfl rfl rfl rfl rfl (by repeat constructor) (by repeat constructor) ?_)
              refine o_ (h:=?_)
              refine c0_ 16 rfl (s_store rfl rfl rfl rfl rfl rfl (by repeat constructor) (by repeat constructor) ?_)
              refine o_ (h:=?_)
              refine c0_ 17 rfl (s_store rfl rfl rfl rfl rfl rfl (by repeat constructor) (by repeat constructor) ?_)
              refine o_ (h:=z_ (h:=?_))
              refine x_then ?_
              exact ⟨_, ⟨_, _, _, _, rfl⟩, wr_ [0, 1, 3, 2, 4]⟩
            · refine s_alloc (by repeat constructor) ?_
              refine o_ (h:=?_)
              refine c_ 12 rfl (s_alloc (by repeat constructor) ?_)
              refine o_ (h:=?_)
              refine c0_ 15 rfl (s_store rfl rfl rfl rfl rfl rfl (by repeat constructor) (by repeat constructor) ?_)
              refine o_ (h:=?_)
              refine c0_ 16 rfl (s_store rfl rfl rfl rfl rfl rfl (by repeat constructor) (by repeat constructor) ?_)
              refine o_ (h:=?_)
              refine c0_ 17 rfl (s_store rfl rfl rfl rfl rfl rfl (by repeat constructor) (by repeat constructor) ?_)
              refine o_ (h:=z_ (h:=?_))
              refine x_then ?_
              exact ⟨_, ⟨_, _, _, _, rfl⟩, wr_ [0, 1, 4, 2, 3]⟩
          · refine s_alloc (by repeat constructor) ?_
            refine o_ (h:=?_)
            refine c2_ 12 13 rfl rfl ?_ ?_
            · refine s_alloc (by repeat constructor) ?_
              refine o_ (h:=?_)
              refine c_ 13 rfl (s_alloc (by repeat constructor) ?_)
              refine o_ (h:=?_)
              refine c0_ 15 rfl (s_store rfl rfl rfl rfl rfl rfl (by repeat constructor) (by repeat constructor) ?_)
              refine o_ (h:=?_)
              refine c0_ 16 rfl (s_store rfl rfl rfl rfl rfl rfl (by repeat constructor) (by repeat constructor) ?_)
              refine o_ (h:=?_)
              refine c0_ 17 rfl (s_store rfl rfl rfl rfl rfl rfl (by repeat constructor) (by repeat constructor) ?_)
              refine o_ (h:=z_ (h:=?_))
              refine x_then ?_
              exact ⟨_, ⟨_, _, _, _, rfl⟩, wr_ [0, 1, 3, 4, 2]⟩
            · refine s_alloc (by repeat constructor) ?_
              refine o_ (h:=?_)
              refine c_ 12 rfl (s_alloc (by repeat constructor) ?_)
              refine o_ (h:=?_)
              refine c0_ 15 rfl (s_store rfl rfl rfl rfl rfl rfl (by repeat constructor) (by repeat constructor) ?_)
              refine o_ (h:=?_)
              refine c0_ 16 rfl (s_store rfl rfl rfl rfl rfl rfl (by repeat constructor) (by repeat constructor) ?_)
              refine o_ (h:=?_)
              refine c0_ 17 rfl (s_store rfl rfl rfl rfl rfl rfl (by repeat constructor) (by repeat constructor) ?_)
              refine o_ (h:=z_ (h:=?_))
              refine x_then ?_
              exact ⟨_, ⟨_, _, _, _, rfl⟩, wr_ [0, 1, 4, 3, 2]⟩
        · refine s_alloc (by repeat constructor) ?_
          refine o_ (h:=?_)
          refine cm_ 11 (ao_ 11 rfl ?_ (ao_ 13 rfl ?_ (ao_ 14 rfl ?_ ao_n)))
          · refine s_gen 0 (hc := Gfile l _ s.files (by omega) hv.files.b hv.files.ne) (hR := ?_)
            rintro r a5 ha5 ⟨x5, rfl⟩
            refine ⟨rfl, _, (by repeat constructor), ?_⟩
            refine o_ (h:=?_)
            refine c2_ 13 14 rfl rfl ?_ ?_
            · refine s_alloc (by repeat constructor) ?_
              refine o_ (h:=?_)
              refine c_ 14 rfl (s_alloc (by repeat constructor) ?_)
              refine o_ (h:=?_)
              refine c0_ 15 rfl (s_store rfl rfl rfl rfl rfl rfl (by repeat constructor) (by repeat constructor) ?_)
              refine o_ (h:=?_)
              refine c0_ 16 rfl (s_store rfl rfl rfl rfl rfl rfl (by repeat constructor) (by repeat constructor) ?_)
              refine o_ (h:=?_)
              refine c0_ 17 rfl (s_store rfl rfl rfl rfl rfl rfl (by repeat constructor) (by repeat constructor) ?_)
              refine o_ (h:=z_ (h:=?_))
              refine x_then ?_
              exact ⟨_, ⟨_, _, _, _, rfl⟩, wr_ [0, 1, 2, 3, 4]⟩
            · refine s_alloc (by repeat constructor) ?_
              refine o_ (h:=?_)
              refine c_ 13 rfl (s_alloc (by repeat constructor) ?_)
              refine o_ (h:=?_)
              refine c0_ 15 rfl (s_store rfl rfl rfl rfl rfl rfl (by repeat constructor) (by repeat constructor) ?_)
              refine o_ (h:=?_)
              refine c0_ 16 rfl (s_store rfl rfl rfl rfl rfl rfl (by repeat constructor) (by repeat constructor) ?_)
              refine o_ (h:=?_)
              refine c0_ 17 rfl (s_store rfl rfl rfl rfl rfl rfl (by repeat constructor) (by repeat constructor) ?_)
              refine o_ (h:=z_ (h:=?_))
              refine x_then ?_
              exact ⟨_, ⟨_, _, _, _, rfl⟩, wr_ [0, 1, 2, 4, 3]⟩
          · refine s_alloc (by repeat constructor) ?_
            refine o_ (h:=?_)
            refine c2_ 11 14 rfl rfl ?_ ?_
            · refine s_gen 0 (hc := Gfile l _ s.files (by omega) hv.files.b hv.files.ne) (hR := ?_)
              rintro r a6 ha6 ⟨x6, rfl⟩
              refine ⟨rfl, _, (by repeat constructor), ?_⟩
              refine o_ (h:=?_)
              refine c_ 14 rfl (s_alloc (by repeat constructor) ?_)
              refine o_ (h:=?_)
              refine c0_ 15 rfl (s_store rfl rfl rfl rfl rfl rfl (by repeat constructor) (by repeat constructor) ?_)
              refine o_ (h:=?_)
              refine c0_ 16 rfl (s_store rfl rfl rfl rfl rfl rfl (by repeat constructor) (by repeat constructor) ?_)
              refine o_ (h:=?_)
              refine c0_ 17 rfl (s_store rfl rfl rfl rfl rfl rfl (by repeat constructor) (by repeat constructor) ?_)
              refine o_ (h:=z_ (h:=?_))
              refine x_then ?_
              exact ⟨_, ⟨_, _, _, _, rfl⟩, wr_ [0, 1, 2, 3, 4]⟩
            · refine s_alloc (by repeat constructor) ?_
              refine o_ (h:=?_)
              refine c_ 11 rfl (s_gen 0 (hc := Gfile l _ s.files (by omega) hv.files.b hv.files.ne) (hR := ?_))
              rintro r a7 ha7 ⟨x7, rfl⟩
              refine ⟨rfl, _, (by repeat constructor), ?_⟩
              refine o_ (h:=?_)
              refine c0_ 15 rfl (s_store rfl rfl rfl rfl rfl rfl (by repeat constructor) (by repeat constructor) ?_)
              refine o_ (h:=?_)
              refine c0_ 16 rfl (s_store rfl rfl rfl rfl rfl rfl (by repeat constructor) (by repeat constructor) ?_)
              refine o_ (h:=?_)
              refine c0_ 17 rfl (s_store rfl rfl rfl rfl rfl rfl (by repeat constructor) (by repeat constructor) ?_)
              refine o_ (h:=z_ (h:=?_))
              refine x_then ?_
              exact ⟨_, ⟨_, _, _, _, rfl⟩, wr_ [0, 1, 2, 3, 4]⟩
          · refine s_alloc (by repeat constructor) ?_
            refine o_ (h:=?_)
            refine c2_ 11 13 rfl rfl ?_ ?_
            · refine s_gen 0 (hc := Gfile l _ s.files (by omega) hv.files.b hv.files.ne) (hR := ?_)
              rintro r a8 ha8 ⟨x8, rfl⟩
              refine ⟨rfl, _, (by repeat constructor), ?_⟩
              refine o_ (h:=?_)
              refine c_ 13 rfl (s_alloc (by repeat constructor) ?_)
              refine o_ (h:=?_)
              refine c0_ 15 rfl (s_store rfl rfl rfl rfl rfl rfl (by repeat constructor) (by repeat constructor) ?_)
              refine o_ (h:=?_)
              refine c0_ 16 rfl (s_store rfl rfl rfl rfl rfl rfl (by repeat constructor) (by repeat constructor) ?_)
              refine o_ (h:=?_)
              refine c0_ 17 rfl (s_store rfl rfl rfl rfl rfl rfl (by repeat constructor) (by repeat constructor) ?_)
              refine o_ (h:=z_ (h:=?_))
              refine x_then ?_
              exact ⟨_, ⟨_, _, _, _, rfl⟩, wr_ [0, 1, 2, 4, 3]⟩
            · refine s_alloc (by repeat constructor) ?_
              refine o_ (h:=?_)
              refine c_ 11 rfl (s_gen 0 (hc := Gfile l _ s.files (by omega) hv.files.b hv.files.ne) (hR := ?_))
              rintro r a9 ha9 ⟨x9, rfl⟩
              refine ⟨rfl, _, (by repeat constructor), ?_⟩
              refine o_ (h:=?_)
              refine c0_ 15 rfl (s_store rfl rfl rfl rfl rfl rfl (by repeat constructor) (by repeat constructor) ?_)
              refine o_ (h:=?_)
              refine c0_ 16 rfl (s_store rfl rfl rfl rfl rfl rfl (by repeat constructor) (by repeat constructor) ?_)
              refine o_ (h:=?_)
              refine c0_ 17 rfl (s_store rfl rfl rfl rfl rfl rfl (by repeat constructor) (by repeat constructor) ?_)
              refine o_ (h:=z_ (h:=?_))
              refine x_then ?_
              exact ⟨_, ⟨_, _, _, _, rfl⟩, wr_ [0, 1, 2, 4, 3]⟩
        · refine s_alloc (by repeat constructor) ?_
          refine o_ (h:=?_)
          refine cm_ 11 (ao_ 11 rfl ?_ (ao_ 12 rfl ?_ (ao_ 14 rfl ?_ ao_n)))
          · refine s_gen 0 (hc := Gfile l _ s.files (by omega) hv.files.b hv.files.ne) (hR := ?_)
            rintro r a10 ha10 ⟨x10, rfl⟩
            refine ⟨rfl, _, (by repeat constructor), ?_⟩
            refine o_ (h:=?_)
            refine c2_ 12 14 rfl rfl ?_ ?_
            · refine s_alloc (by repeat constructor) ?_
              refine o_ (h:=?_)
              refine c_ 14 rfl (s_alloc (by repeat constructor) ?_)
              refine o_ (h:=?_)
              refine c0_ 15 rfl (s_store rfl rfl rfl rfl rfl rfl (by repeat constructor) (by repeat constructor) ?_)
              refine o_ (h:=?_)
              refine c0_ 16 rfl (s_store rfl rfl rfl rfl rfl rfl (by repeat constructor) (by repeat constructor) ?_)
              refine o_ (h:=?_)
              refine c0_ 17 rfl (s_store rfl rfl rfl rfl rfl rfl (by repeat constructor) (by repeat constructor) ?_)
              refine o_ (h:=z_ (h:=?_))
              refine x_then ?_
              exact ⟨_, ⟨_, _, _, _, rfl⟩, wr_ [0, 1, 3, 2, 4]⟩
            · refine s_alloc (by repeat constructor) ?_
              refine o_ (h:=?_)
              refine c_ 12 rfl (s_alloc (by repeat constructor) ?_)
              refine o_ (h:=?_)
              refine c0_ 15 rfl (s_store rfl rfl rfl rfl rfl rfl (by repeat constructor) (by repeat constructor) ?_)
              refine o_ (h:=?_)
              refine c0_ 16 rfl (s_store rfl rfl rfl rfl rfl rfl (by repeat constructor) (by repeat constructor) ?_)
              refine o_ (h:=?_)
              refine c0_ 17 rfl (s_store rfl rfl rfl rfl rfl rfl (by repeat constructor) (by repeat constructor) ?_)
              refine o_ (h:=z_ (h:=?_))
              refine x_then ?_
              exact ⟨_, ⟨_, _, _, _, rfl⟩, wr_ [0, 1, 4, 2, 3]⟩
          · refine s_alloc (by repeat constructor) ?_
            refine o_ (h:=?_)
            refine c2_ 11 14 rfl rfl ?_ ?_
            · refine s_gen 0 (hc := Gfile l _ s.files (by omega) hv.files.b hv.files.ne) (hR := ?_)
              rintro r a11 ha11 ⟨x11, rfl⟩
              refine ⟨rfl, _, (by repeat constructor), ?_⟩
              refine o_ (h:=?_)
              refine c_ 14 rfl (s_alloc (by repeat constructor) ?_)
              refine o_ (h:=?_)
              refine c0_ 15 rfl (s_store rfl rfl rfl rfl rfl rfl (by repeat constructor) (by repeat constructor) ?_)
              refine o_ (h:=?_)
              refine c0_ 16 rfl (s_store rfl rfl rfl rfl rfl rfl (by repeat constructor) (by repeat constructor) ?_)
              refine o_ (h:=?_)
              refine c0_ 17 rfl (s_store rfl rfl rfl rfl rfl rfl (by repeat constructor) (by repeat constructor) ?_)
              refine o_ (h:=z_ (h:=?_))
              refine x_then ?_
              exact ⟨_, ⟨_, _, _, _, rfl⟩, wr_ [0, 1, 3, 2, 4]⟩
            · refine s_alloc (by repeat constructor) ?_
              refine o_ (h:=?_)
              refine c_ 11 rfl (s_gen 0 (hc := Gfile l _ s.files (by omega) hv.files.b hv.files.ne) (hR := ?_))
              rintro r a12 ha12 ⟨x12, rfl⟩
              refine ⟨rfl, _, (by repeat constructor), ?_⟩
              refine o_ (h:=?_)
              refine c0_ 15 rfl (s_store rfl rfl rfl rfl rfl rfl (by repeat constructor) (by repeat constructor) ?_)
              refine o_ (h:=?_)
              refine c0_ 16 rfl (s_store rfl rfl rfl rfl rfl rfl (by repeat constructor) (by repeat constructor) ?_)
              refine o_ (h:=?_)
              refine c0_ 17 rfl (s_store rfl rfl rfl rfl rfl rfl (by repeat constructor) (by repeat constructor) ?_)
              refine o_ (h:=z_ (h:=?_))
              refine x_then ?_
              exact ⟨_, ⟨_, _, _, _, rfl⟩, wr_ [0, 1, 3, 2, 4]⟩
          · refine s_alloc (by repeat constructor) ?_
            refine o_ (h:=?_)
            refine c2_ 11 12 rfl rfl ?_ ?_
            · refine s_gen 0 (hc := Gfile l _ s.files (by omega) hv.files.b hv.files.ne) (hR := ?_)
              rintro r a13 ha13 ⟨x13, rfl⟩
              refine ⟨rfl, _, (by repeat constructor), ?_⟩
              refine o_ (h:=?_)
              refine c_ 12 rfl (s_alloc (by repeat constructor) ?_)
              refine o_ (h:=?_)
              refine c0_ 15 rfl (s_store rfl rfl rfl rfl rfl rfl (by repeat constructor) (by repeat constructor) ?_)
              refine o_ (h:=?_)
              refine c0_ 16 rfl (s_store rfl rfl rfl rfl rfl rfl (by repeat constructor) (by repeat constructor) ?_)
              refine o_ (h:=?_)
              refine c0_ 17 rfl (s_store rfl rfl rfl rfl rfl rfl (by repeat constructor) (by repeat constructor) ?_)
              refine o_ (h:=z_ (h:=?_))
              refine x_then ?_
              exact ⟨_, ⟨_, _, _, _, rfl⟩, wr_ [0, 1, 4, 2, 3]⟩
            · refine s_alloc (by repeat constructor) ?_
              refine o_ (h:=?_)
              refine c_ 11 rfl (s_gen 0 (hc := Gfile l _ s.files (by omega) hv.files.b hv.files.ne) (hR := ?_))
              rintro r a14 ha14 ⟨x14, rfl⟩
              refine ⟨rfl, _, (by repeat constructor), ?_⟩
              refine o_ (h:=?_)
              refine c0_ 15 rfl (s_store rfl rfl rfl rfl rfl rfl (by repeat constructor) (by repeat constructor) ?_)
              refine o_ (h:=?_)
              refine c0_ 16 rfl (s_store rfl rfl rfl rfl rfl rfl (by repeat constructor) (by repeat constructor) ?_)
              refine o_ (h:=?_)
              refine c0_ 17 rfl (s_store rfl rfl rfl rfl rfl rfl (by repeat constructor) (by repeat constructor) ?_)
              refine o_ (h:=z_ (h:=?_))
              refine x_then ?_
              exact ⟨_, ⟨_, _, _, _, rfl⟩, wr_ [0, 1, 4, 2, 3]⟩
        · refine s_alloc (by repeat constructor) ?_
          refine o_ (h:=?_)
          refine cm_ 11 (ao_ 11 rfl ?_ (ao_ 12 rfl ?_ (ao_ 13 rfl ?_ ao_n)))
          · refine s_gen 0 (hc := Gfile l _ s.files (by omega) hv.files.b hv.files.ne) (hR := ?_)
            rintro r a15 ha15 ⟨x15, rfl⟩
            refine ⟨rfl, _, (by repeat constructor), ?_⟩
            refine o_ (h:=?_)
            refine c2_ 12 13 rfl rfl ?_ ?_
            · refine s_alloc (by repeat constructor) ?_
              refine o_ (h:=?_)
              refine c_ 13 rfl (s_alloc (by repeat constructor) ?_)
              refine o_ (h:=?_)
              refine c0_ 15 rfl (s_store rfl rfl rfl rfl rfl rfl (by repeat constructor) (by repeat constructor) ?_)
              refine o_ (h:=?_)
              refine c0_ 16 rfl (s_store rfl rfl rfl rfl rfl rfl (by repeat constructor) (by repeat constructor) ?_)
              refine o_ (h:=?_)
              refine c0_ 17 rfl (s_store rfl rfl rfl rfl rfl rfl (by repeat constructor) (by repeat constructor) ?_)
              refine o_ (h:=z_ (h:=?_))
              refine x_then ?_
              exact ⟨_, ⟨_, _, _, _, rfl⟩, wr_ [0, 1, 3, 4, 2]⟩
            · refine s_alloc (by repeat constructor) ?_
              refine o_ (h:=?_)
              refine c_ 12 rfl (s_alloc (by repeat constructor) ?_)
              refine o_ (h:=?_)
              refine c0_ 15 rfl (s_store rfl rfl rfl rfl rfl rfl (by repeat constructor) (by repeat constructor) ?_)
              refine o_ (h:=?_)
              refine c0_ 16 rfl (s_store rfl rfl rfl rfl rfl rfl (by repeat constructor) (by repeat constructor) ?_)
              refine o_ (h:=?_)
              refine c0_ 17 rfl (s_store rfl rfl rfl rfl rfl rfl (by repeat constructor) (by repeat constructor) ?_)
              refine o_ (h:=z_ (h:=?_))
              refine x_then ?_
              exact ⟨_, ⟨_, _, _, _, rfl⟩, wr_ [0, 1, 4, 3, 2]⟩
          · refine s_alloc (by repeat constructor) ?_
            refine o_ (h:=?_)
            refine c2_ 11 13 rfl rfl ?_ ?_
            · refine s_gen 0 (hc := Gfile l _ s.files (by omega) hv.files.b hv.files.ne) (hR := ?_)
              rintro r a16 ha16 ⟨x16, rfl⟩
              refine ⟨rfl, _, (by repeat constructor), ?_⟩
              refine o_ (h:=?_)
              refine c_ 13 rfl (s_alloc (by repeat constructor) ?_)
              refine o_ (h:=?_)
              refine c0_ 15 rfl (s_store rfl rfl rfl rfl rfl rfl (by repeat constructor) (by repeat constructor) ?_)
              refine o_ (h:=?_)
              refine c0_ 16 rfl (s_store rfl rfl rfl rfl rfl rfl (by repeat constructor) (by repeat constructor) ?_)
              refine o_ (h:=?_)
              refine c0_ 17 rfl (s_store rfl rfl rfl rfl rfl rfl (by repeat constructor) (by repeat constructor) ?_)
              refine o_ (h:=z_ (h:=?_))
              refine x_then ?_
              exact ⟨_, ⟨_, _, _, _, rfl⟩, wr_ [0, 1, 3, 4, 2]⟩
            · refine s_alloc (by repeat constructor) ?_
              refine o_ (h:=?_)
              refine c_ 11 rfl (s_gen 0 (hc := Gfile l _ s.files (by omega) hv.files.b hv.files.ne) (hR := ?_))
              rintro r a17 ha17 ⟨x17, rfl⟩
              refine ⟨rfl, _, (by repeat constructor), ?_⟩
              refine o_ (h:=?_)
              refine c0_ 15 rfl (s_store rfl rfl rfl rfl rfl rfl (by repeat constructor) (by repeat constructor) ?_)
              refine o_ (h:=?_)
              refine c0_ 16 rfl (s_store rfl rfl rfl rfl rfl rfl (by repeat constructor) (by repeat constructor) ?_)
              refine o_ (h:=?_)
              refine c0_ 17 rfl (s_store rfl rfl rfl rfl rfl rfl (by repeat constructor) (by repeat constructor) ?_)
              refine o_ (h:=z_ (h:=?_))
              refine x_then ?_
              exact ⟨_, ⟨_, _, _, _, rfl⟩, wr_ [0, 1, 3, 4, 2]⟩
          · refine s_alloc (by repeat constructor) ?_
            refine o_ (h:=?_)
            refine c2_ 11 12 rfl rfl ?_ ?_
            · refine s_gen 0 (hc := Gfile l _ s.files (by omega) hv.files.b hv.files.ne) (hR := ?_)
              rintro r a18 ha18 ⟨x18, rfl⟩
              refine ⟨rfl, _, (by repeat constructor), ?_⟩
              refine o_ (h:=?_)
              refine c_ 12 rfl (s_alloc (by repeat constructor) ?_)
              refine o_ (h:=?_)
              refine c0_ 15 rfl (s_store rfl rfl rfl rfl rfl rfl (by repeat constructor) (by repeat constructor) ?_)
              refine o_ (h:=?_)
              refine c0_ 16 rfl (s_store rfl rfl rfl rfl rfl rfl (by repeat constructor) (by repeat constructor) ?_)
              refine o_ (h:=?_)
              refine c0_ 17 rfl (s_store rfl rfl rfl rfl rfl rfl (by repeat constructor) (by repeat constructor) ?_)
              refine o_ (h:=z_ (h:=?_))
              refine x_then ?_
              exact ⟨_, ⟨_, _, _, _, rfl⟩, wr_ [0, 1, 4, 3, 2]⟩
            · refine s_alloc (by repeat constructor) ?_
              refine o_ (h:=?_)
              refine c_ 11 rfl (s_gen 0 (hc := Gfile l _ s.files (by omega) hv.files.b hv.files.ne) (hR := ?_))
              rintro r a19 ha19 ⟨x19, rfl⟩
              refine ⟨rfl, _, (by repeat constructor), ?_⟩
              refine o_ (h:=?_)
              refine c0_ 15 rfl (s_store rfl rfl rfl rfl rfl rfl (by repeat constructor) (by repeat constructor) ?_)
              refine o_ (h:=?_)
              refine c0_ 16 rfl (s_store rfl rfl rfl rfl rfl rfl (by repeat constructor) (by repeat constructor) ?_)
              refine o_ (h:=?_)
              refine c0_ 17 rfl (s_store rfl rfl rfl rfl rfl rfl (by repeat constructor) (by repeat constructor) ?_)
              refine o_ (h:=z_ (h:=?_))
              refine x_then ?_
              exact ⟨_, ⟨_, _, _, _, rfl⟩, wr_ [0, 1, 4, 3, 2]⟩
      · refine s_alloc (by repeat constructor) ?_
        refine o_ (h:=?_)
        refine cm_ 7 (ao_ 7 rfl ?_ (ao_ 13 rfl ?_ (ao_ 14 rfl ?_ ao_n)))
        · refine s_gen 0 (hc := Gfile l _ s.files (by omega) hv.files.b hv.files.ne) (hR := ?_)
          rintro r a20 ha20 ⟨x20, rfl⟩
          refine ⟨rfl, _, (by repeat constructor), ?_⟩
          refine o_ (h:=?_)
          refine cm_ 11 (ao_ 11 rfl ?_ (ao_ 13 rfl ?_ (ao_ 14 rfl ?_ ao_n)))
          · refine s_gen 0 (hc := Gfile l _ s.files (by omega) hv.files.b hv.files.ne) (hR := ?_)
            rintro r a21 ha21 ⟨x21, rfl⟩
            refine ⟨rfl, _, (by repeat constructor), ?_⟩
            refine o_ (h:=?_)
            refine c2_ 13 14 rfl rfl ?_ ?_
            · refine s_alloc (by repeat constructor) ?_
              refine o_ (h:=?_)
              refine c_ 14 rfl (s_alloc (by repeat constructor) ?_)
              refine o_ (h:=?_)
              refine c0_ 15 rfl (s_store rfl rfl rfl rfl rfl rfl (by repeat constructor) (by repeat constructor) ?_)
              refine o_ (h:=?_)
              refine c0_ 16 rfl (s_store rfl rfl rfl rfl rfl rfl (by repeat constructor) (by repeat constructor) ?_)
              refine o_ (h:=?_)
              refine c0_ 17 rfl (s_store rfl rfl rfl rfl rfl rfl (by repeat constructor) (by repeat constructor) ?_)
              refine o_ (h:=z_ (h:=?_))
              refine x_then ?_
              exact ⟨_, ⟨_, _, _, _, rfl⟩, wr_ [0, 1, 2, 3, 4]⟩
            · refine s_alloc (by repeat constructor) ?_
              refine o_ (h:=?_)
              refine c_ 13 rfl (s_alloc (by repeat constructor) ?_)
              refine o_ (h:=?_)
              refine c0_ 15 rfl (s_store rfl rfl rfl rfl rfl rfl (by repeat constructor) (by repeat constructor) ?_)
              refine o_ (h:=?_)
              refine c0_ 16 rfl (s_store rfl rfl rfl rfl rfl rfl (by repeat constructor) (by repeat constructor) ?_)
              refine o_ (h:=?_)
              refine c0_ 17 rfl (s_store rfl rfl rfl rfl rfl rfl (by repeat constructor) (by repeat constructor) ?_)
              refine o_ (h:=z_ (h:=?_))
              refine x_then ?_
              exact ⟨_, ⟨_, _, _, _, rfl⟩, wr_ [0, 1, 2, 4, 3]⟩
          · refine s_alloc (by repeat constructor) ?_
            refine o_ (h:=?_)
            refine c2_ 11 14 rfl rfl ?_ ?_
            · refine s_gen 0 (hc := Gfile l _ s.files (by omega) hv.files.b hv.files.ne) (hR := ?_)
              rintro r a22 ha22 ⟨x22, rfl⟩
              refine ⟨rfl, _, (by repeat constructor), ?_⟩
              refine o_ (h:=?_)
              refine c_ 14 rfl (s_alloc (by repeat constructor) ?_)
              refine o_ (h:=?_)
              refine c0_ 15 rfl (s_store rfl rfl rfl rfl rfl rfl (by repeat constructor) (by repeat constructor) ?_)
              refine o_ (h:=?_)
              refine c0_ 16 rfl (s_store rfl rfl rfl rfl rfl rfl (by repeat constructor) (by repeat constructor) ?_)
              refine o_ (h:=?_)
              refine c0_ 17 rfl (s_store rfl rfl rfl rfl rfl rfl (by repeat constructor) (by repeat constructor) ?_)
              refine o_ (h:=z_ (h:=?_))
              refine x_then ?_
              exact ⟨_, ⟨_, _, _, _, rfl⟩, wr_ [0, 1, 2, 3, 4]⟩
            · refine s_alloc (by repeat constructor) ?_
              refine o_ (h:=?_)
              refine c_ 11 rfl (s_gen 0 (hc := Gfile l _ s.files (by omega) hv.files.b hv.files.ne) (hR := ?_))
              rintro r a23 ha23 ⟨x23, rfl⟩
              refine ⟨rfl, _, (by repeat constructor), ?_⟩
              refine o_ (h:=?_)
              refine c0_ 15 rfl (s_store rfl rfl rfl rfl rfl rfl (by repeat constructor) (by repeat constructor) ?_)
              refine o_ (h:=?_)
              refine c0_ 16 rfl (s_store rfl rfl rfl rfl rfl rfl (by repeat constructor) (by repeat constructor) ?_)
              refine o_ (h:=?_)
              refine c0_ 17 rfl (s_store rfl rfl rfl rfl rfl rfl (by repeat constructor) (by repeat constructor) ?_)
              refine o_ (h:=z_ (h:=?_))
              refine x_then ?_
              exact ⟨_, ⟨_, _, _, _, rfl⟩, wr_ [0, 1, 2, 3, 4]⟩
          · refine s_alloc (by repeat constructor) ?_
            refine o_ (h:=?_)
            refine c2_ 11 13 rfl rfl ?_ ?_
            · refine s_gen 0 (hc := Gfile l _ s.files (by omega) hv.files.b hv.files.ne) (hR := ?_)
              rintro r a24 ha24 ⟨x24, rfl⟩
              refine ⟨rfl, _, (by repeat constructor), ?_⟩
              refine o_ (h:=?_)
              refine c_ 13 rfl (s_alloc (by repeat constructor) ?_)
              refine o_ (h:=?_)
              refine c0_ 15 rfl (s_store rfl rfl rfl rfl rfl rfl (by repeat constructor) (by repeat constructor) ?_)
              refine o_ (h:=?_)
              refine c0_ 16 rfl (s_store rfl rfl rfl rfl rfl rfl (by repeat constructor) (by repeat constructor) ?_)
              refine o_ (h:=?_)
              refine c0_ 17 rfl (s_store rfl rfl rfl rfl rfl rfl (by repeat constructor) (by repeat constructor) ?_)
              refine o_ (h:=z_ (h:=?_))
              refine x_then ?_
              exact ⟨_, ⟨_, _, _, _, rfl⟩, wr_ [0, 1, 2, 4, 3]⟩
            · refine s_alloc (by repeat constructor) ?_
              refine o_ (h:=?_)
              refine c_ 11 rfl (s_gen 0 (hc := Gfile l _ s.files (by omega) hv.files.b hv.files.ne) (hR := ?_))
              rintro r a25 ha25 ⟨x25, rfl⟩
              refine ⟨rfl, _, (by repeat constructor), ?_⟩
              refine o_ (h:=?_)
              refine c0_ 15 rfl (s_store rfl rfl rfl rfl rfl rfl (by repeat constructor) (by repeat constructor) ?_)
              refine o_ (h:=?_)
              refine c0_ 16 rfl (s_store rfl rfl rfl rfl rfl rfl (by repeat constructor) (by repeat constructor) ?_)
              refine o_ (h:=?_)
              refine c0_ 17 rfl (s_store rfl rfl rfl rfl rfl rfl (by repeat constructor) (by repeat constructor) ?_)
              refine o_ (h:=z_ (h:=?_))
              refine x_then ?_
              exact ⟨_, ⟨_, _, _, _, rfl⟩, wr_ [0, 1, 2, 4, 3]⟩
        · refine s_alloc (by repeat constructor) ?_
          refine o_ (h:=?_)
          refine c2_ 7 14 rfl rfl ?_ ?_
          · refine s_gen 0 (hc := Gfile l _ s.files (by omega) hv.files.b hv.files.ne) (hR := ?_)
            rintro r a26 ha26 ⟨x26, rfl⟩
            refine ⟨rfl, _, (by repeat constructor), ?_⟩
            refine o_ (h:=?_)
            refine c2_ 11 14 rfl rfl ?_ ?_
            · refine s_gen 0 (hc := Gfile l _ s.files (by omega) hv.files.b hv.files.ne) (hR := ?_)
              rintro r a27 ha27 ⟨x27, rfl⟩
              refine ⟨rfl, _, (by repeat constructor), ?_⟩
              refine o_ (h:=?_)
              refine c_ 14 rfl (s_alloc (by repeat constructor) ?_)
              refine o_ (h:=?_)
              refine c0_ 15 rfl (s_store rfl rfl rfl rfl rfl rfl (by repeat constructor) (by repeat constructor) ?_)
              refine o_ (h:=?_)
              refine c0_ 16 rfl (s_store rfl rfl rfl rfl rfl rfl (by repeat constructor) (by repeat constructor) ?_)
              refine o_ (h:=?_)
              refine c0_ 17 rfl (s_store rfl rfl rfl rfl rfl rfl (by repeat constructor) (by repeat constructor) ?_)
              refine o_ (h:=z_ (h:=?_))
              refine x_then ?_
              exact ⟨_, ⟨_, _, _, _, rfl⟩, wr_ [0, 1, 2, 3, 4]⟩
            · refine s_alloc (by repeat constructor) ?_
              refine o_ (h:=?_)
              refine c_ 11 rfl (s_gen 0 (hc := Gfile l _ s.files (by omega) hv.files.b hv.files.ne) (hR := ?_))
              rintro r a28 ha28 ⟨x28, rfl⟩
              refine ⟨rfl, _, (by repeat constructor), ?_⟩
              refine o_ (h:=?_)
              refine c0_ 15 rfl (s_store rfl rfl rfl rfl rfl rfl (by repeat constructor) (by repeat constructor) ?_)
              refine o_ (h:=?_)
              refine c0_ 16 rfl (s_store rfl rfl rfl rfl rfl rfl (by repeat constructor) (by repeat constructor) ?_)
              refine o_ (h:=?_)
              refine c0_ 17 rfl (s_store rfl rfl rfl rfl rfl rfl (by repeat constructor) (by repeat constructor) ?_)
              refine o_ (h:=z_ (h:=?_))
              refine x_then ?_
              exact ⟨_, ⟨_, _, _, _, rfl⟩, wr_ [0, 1, 2, 3, 4]⟩
          · refine s_alloc (by repeat constructor) ?_
            refine o_ (h:=?_)
            refine c_ 7 rfl (s_gen 0 (hc := Gfile l _ s.files (by omega) hv.files.b hv.files.ne) (hR := ?_))
            rintro r a29 ha29 ⟨x29, rfl⟩
            refine ⟨rfl, _, (by repeat constructor), ?_⟩
            refine o_ (h:=?_)
            refine c_ 11 rfl (s_gen 0 (hc := Gfile l _ s.files (by omega) hv.files.b hv.files.ne) (hR := ?_))
            rintro r a30 ha30 ⟨x30, rfl⟩
            refine ⟨rfl, _, (by repeat constructor), ?_⟩
            refine o_ (h:=?_)
            refine c0_ 15 rfl (s_store rfl rfl rfl rfl rfl rfl (by repeat constructor) (by repeat constructor) ?_)
            refine o_ (h:=?_)
            refine c0_ 16 rfl (s_store rfl rfl rfl rfl rfl rfl (by repeat constructor) (by repeat constructor) ?_)
            refine o_ (h:=?_)
            refine c0_ 17 rfl (s_store rfl rfl rfl rfl rfl rfl (by repeat constructor) (by repeat constructor) ?_)
            refine o_ (h:=z_ (h:=?_))
            refine x_then ?_
            exact ⟨_, ⟨_, _, _, _, rfl⟩, wr_ [0, 1, 2, 3, 4]⟩
        · refine s_alloc (by repeat constructor) ?_
          refine o_ (h:=?_)
          refine c2_ 7 13 rfl rfl ?_ ?_
          · refine s_gen 0 (hc := Gfile l _ s.files (by omega) hv.files.b hv.files.ne) (hR := ?_)
            rintro r a31 ha31 ⟨x31, rfl⟩
            refine ⟨rfl, _, (by repeat constructor), ?_⟩
            refine o_ (h:=?_)
            refine c2_ 11 13 rfl rfl ?_ ?_
            · refine s_gen 0 (hc := Gfile l _ s.files (by omega) hv.files.b hv.files.ne) (hR := ?_)
              rintro r a32 ha32 ⟨x32, rfl⟩
              refine ⟨rfl, _, (by repeat constructor), ?_⟩
              refine o_ (h:=?_)
              refine c_ 13 rfl (s_alloc (by repeat constructor) ?_)
              refine o_ (h:=?_)
              refine c0_ 15 rfl (s_store rfl rfl rfl rfl rfl rfl (by repeat constructor) (by repeat constructor) ?_)
              refine o_ (h:=?_)
              refine c0_ 16 rfl (s_store rfl rfl rfl rfl rfl rfl (by repeat constructor) (by repeat constructor) ?_)
              refine o_ (h:=?_)
              refine c0_ 17 rfl (s_store rfl rfl rfl rfl rfl rfl (by repeat constructor) (by repeat constructor) ?_)
              refine o_ (h:=z_ (h:=?_))
              refine x_then ?_
              exact ⟨_, ⟨_, _, _, _, rfl⟩, wr_ [0, 1, 2, 4, 3]⟩
            · refine s_alloc (by repeat constructor) ?_
              refine o_ (h:=?_)
              refine c_ 11 rfl (s_gen 0 (hc := Gfile l _ s.files (by omega) hv.files.b hv.files.ne) (hR := ?_))
              rintro r a33 ha33 ⟨x33, rfl⟩
              refine ⟨rfl, _, (by repeat constructor), ?_⟩
              refine o_ (h:=?_)
              refine c0_ 15 rfl (s_store rfl rfl rfl rfl rfl rfl (by repeat constructor) (by repeat constructor) ?_)
              refine o_ (h:=?_)
              refine c0_ 16 rfl (s_store rfl rfl rfl rfl rfl rfl (by repeat constructor) (by repeat constructor) ?_)
              refine o_ (h:=?_)
              refine c0_ 17 rfl (s_store rfl rfl rfl rfl rfl rfl (by repeat constructor) (by repeat constructor) ?_)
              refine o_ (h:=z_ (h:=?_))
              refine x_then ?_
              exact ⟨_, ⟨_, _, _, _, rfl⟩, wr_ [0, 1, 2, 4, 3]⟩
          · refine s_alloc (by repeat constructor) ?_
            refine o_ (h:=?_)
            refine c_ 7 rfl (s_gen 0 (hc := Gfile l _ s.files (by omega) hv.files.b hv.files.ne) (hR := ?_))
            rintro r a34 ha34 ⟨x34, rfl⟩
            refine ⟨rfl, _, (by repeat constructor), ?_⟩
            refine o_ (h:=?_)
            refine c_ 11 rfl (s_gen 0 (hc := Gfile l _ s.files (by omega) hv.files.b hv.files.ne) (hR := ?_))
            rintro r a35 ha35 ⟨x35, rfl⟩
            refine ⟨rfl, _, (by repeat constructor), ?_⟩
            refine o_ (h:=?_)
            refine c0_ 15 rfl (s_store rfl rfl rfl rfl rfl rfl (by repeat constructor) (by repeat constructor) ?_)
            refine o_ (h:=?_)
            refine c0_ 16 rfl (s_store rfl rfl rfl rfl rfl rfl (by repeat constructor) (by repeat constructor) ?_)
            refine o_ (h:=?_)
            refine c0_ 17 rfl (s_store rfl rfl rfl rfl rfl rfl (by repeat constructor) (by repeat constructor) ?_)
            refine o_ (h:=z_ (h:=?_))
            refine x_then ?_
            exact ⟨_, ⟨_, _, _, _, rfl⟩, wr_ [0, 1, 2, 4, 3]⟩
      · refine s_alloc (by repeat constructor) ?_
        refine o_ (h:=?_)
        refine cm_ 7 (ao_ 7 rfl ?_ (ao_ 12 rfl ?_ (ao_ 14 rfl ?_ ao_n)))
        · refine s_gen 0 (hc := Gfile l _ s.files (by omega) hv.files.b hv.files.ne) (hR := ?_)
          rintro r a36 ha36 ⟨x36, rfl⟩
          refine ⟨rfl, _, (by repeat constructor), ?_⟩
          refine o_ (h:=?_)
          refine cm_ 11 (ao_ 11 rfl ?_ (ao_ 12 rfl ?_ (ao_ 14 rfl ?_ ao_n)))
          · refine s_gen 0 (hc := Gfile l _ s.files (by omega) hv.files.b hv.files.ne) (hR := ?_)
            rintro r a37 ha37 ⟨x37, rfl⟩
            refine ⟨rfl, _, (by repeat constructor), ?_⟩
            refine o_ (h:=?_)
            refine c2_ 12 14 rfl rfl ?_ ?_
            · refine s_alloc (by repeat constructor) ?_
              refine o_ (h:=?_)
              refine c_ 14 rfl (s_alloc (by repeat constructor) ?_)
              refine o_ (h:=?_)
              refine c0_ 15 rfl (s_store rfl rfl rfl rfl rfl rfl (by repeat constructor) (by repeat constructor) ?_)
              refine o_ (h:=?_)
              refine c0_ 16 rfl (s_store rfl rfl rfl rfl rfl rfl (by repeat constructor) (by repeat constructor) ?_)
              refine o_ (h:=?_)
              refine c0_ 17 rfl (s_store rfl rfl rfl rfl rfl rfl (by repeat constructor) (by repeat constructor) ?_)
              refine o_ (h:=z_ (h:=?_))
              refine x_then ?_
              exact ⟨_, ⟨_, _, _, _, rfl⟩, wr_ [0, 1, 3, 2, 4]⟩
            · refine s_alloc (by repeat constructor) ?_
              refine o_ (h:=?_)
              refine c_ 12 rfl (s_alloc (by repeat constructor) ?_)
              refine o_ (h:=?_)
              refine c0_ 15 rfl (s_store rfl rfl rfl rfl rfl rfl (by repeat constructor) (by repeat constructor) ?_)
              refine o_ (h:=?_)
              refine c0_ 16 rfl (s_store rfl rfl rfl rfl rfl rfl (by repeat constructor) (by repeat constructor) ?_)
              refine o_ (h:=?_)
              refine c0_ 17 rfl (s_store rfl rfl rfl rfl rfl rfl (by repeat constructor) (by repeat constructor) ?_)
              refine o_ (h:=z_ (h:=?_))
              refine x_then ?_
              exact ⟨_, ⟨_, _, _, _, rfl⟩, wr_ [0, 1, 4, 2, 3]⟩
          · refine s_alloc (by repeat constructor) ?_
            refine o_ (h:=?_)
            refine c2_ 11 14 rfl rfl ?_ ?_
            · refine s_gen 0 (hc := Gfile l _ s.files (by omega) hv.files.b hv.files.ne) (hR := ?_)
              rintro r a38 ha38 ⟨x38, rfl⟩
              refine ⟨rfl, _, (by repeat constructor), ?_⟩
              refine o_ (h:=?_)
              refine c_ 14 rfl (s_alloc (by repeat constructor) ?_)
              refine o_ (h:=?_)
              refine c0_ 15 rfl (s_store rfl rfl rfl rfl rfl rfl (by repeat constructor) (by repeat constructor) ?_)
              refine o_ (h:=?_)
              refine c0_ 16 rfl (s_store rfl rfl rfl rfl rfl rfl (by repeat constructor) (by repeat constructor) ?_)
              refine o_ (h:=?_)
              refine c0_ 17 rfl (s_store rfl rfl rfl rfl rfl rfl (by repeat constructor) (by repeat constructor) ?_)
              refine o_ (h:=z_ (h:=?_))
              refine x_then ?_
              exact ⟨_, ⟨_, _, _, _, rfl⟩, wr_ [0, 1, 3, 2, 4]⟩
            · refine s_alloc (by repeat constructor) ?_
              refine o_ (h:=?_)
              refine c_ 11 rfl (s_gen 0 (hc := Gfile l _ s.files (by omega) hv.files.b hv.files.ne) (hR := ?_))
              rintro r a39 ha39 ⟨x39, rfl⟩
              refine ⟨rfl, _, (by repeat constructor), ?_⟩
              refine o_ (h:=?_)
              refine c0_ 15 rfl (s_store rfl rfl rfl rfl rfl rfl (by repeat constructor) (by repeat constructor) ?_)
              refine o_ (h:=?_)
              refine c0_ 16 rfl (s_store rfl rfl rfl rfl rfl rfl (by repeat constructor) (by repeat constructor) ?_)
              refine o_ (h:=?_)
              refine c0_ 17 rfl (s_store rfl rfl rfl rfl rfl rfl (by repeat constructor) (by repeat constructor) ?_)
              refine o_ (h:=z_ (h:=?_))
              refine x_then ?_
              exact ⟨_, ⟨_, _, _, _, rfl⟩, wr_ [0, 1, 3, 2, 4]⟩
          · refine s_alloc (by repeat constructor) ?_
            refine o_ (h:=?_)
            refine c2_ 11 12 rfl rfl ?_ ?_
            · refine s_gen 0 (hc := Gfile l _ s.files (by omega) hv.files.b hv.files.ne) (hR := ?_)
              rintro r a40 ha40 ⟨x40, rfl⟩
              refine ⟨rfl, _, (by repeat constructor), ?_⟩
              refine o_ (h:=?_)
              refine c_ 12 rfl (s_alloc (by repeat constructor) ?_)
              refine o_ (h:=?_)
              refine c0_ 15 rfl (s_store rfl rfl rfl rfl rfl rfl (by repeat constructor) (by repeat constructor) ?_)
              refine o_ (h:=?_)
              refine c0_ 16 rfl (s_store rfl rfl rfl rfl rfl rfl (by repeat constructor) (by repeat constructor) ?_)
              refine o_ (h:=?_)
              refine c0_ 17 rfl (s_store rfl rfl rfl rfl rfl rfl (by repeat constructor) (by repeat constructor) ?_)
              refine o_ (h:=z_ (h:=?_))
              refine x_then ?_
              exact ⟨_, ⟨_, _, _, _, rfl⟩, wr_ [0, 1, 4, 2, 3]⟩
            · refine s_alloc (by repeat constructor) ?_
              refine o_ (h:=?_)
              refine c_ 11 rfl (s_gen 0 (hc := Gfile l _ s.files (by omega) hv.files.b hv.files.ne) (hR := ?_))
              rintro r a41 ha41 ⟨x41, rfl⟩
              refine ⟨rfl, _, (by repeat constructor), ?_⟩
              refine o_ (h:=?_)
              refine c0_ 15 rfl (s_store rfl rfl rfl rfl rfl rfl (by repeat constructor) (by repeat constructor) ?_)
              refine o_ (h:=?_)
              refine c0_ 16 rfl (s_store rfl rfl rfl rfl rfl rfl (by repeat constructor) (by repeat constructor) ?_)
              refine o_ (h:=?_)
              refine c0_ 17 rfl (s_store rfl rfl rfl rfl rfl rfl (by repeat constructor) (by repeat constructor) ?_)
              refine o_ (h:=z_ (h:=?_))
              refine x_then ?_
              exact ⟨_, ⟨_, _, _, _, rfl⟩, wr_ [0, 1, 4, 2, 3]⟩
        · refine s_alloc (by repeat constructor) ?_
          refine o_ (h:=?_)
          refine c2_ 7 14 rfl rfl ?_ ?_
          · refine s_gen 0 (hc := Gfile l _ s.files (by omega) hv.files.b hv.files.ne) (hR := ?_)
            rintro r a42 ha42 ⟨x42, rfl⟩
            refine ⟨rfl, _, (by repeat constructor), ?_⟩
            refine o_ (h:=?_)
            refine c2_ 11 14 rfl rfl ?_ ?_
            · refine s_gen 0 (hc := Gfile l _ s.files (by omega) hv.files.b hv.files.ne) (hR := ?_)
              rintro r a43 ha43 ⟨x43, rfl⟩
              refine ⟨rfl, _, (by repeat constructor), ?_⟩
              refine o_ (h:=?_)
              refine c_ 14 rfl (s_alloc (by repeat constructor) ?_)
              refine o_ (h:=?_)
              refine c0_ 15 rfl (s_store rfl rfl rfl rfl rfl rfl (by repeat constructor) (by repeat constructor) ?_)
              refine o_ (h:=?_)
              refine c0_ 16 rfl (s_store rfl rfl rfl rfl rfl rfl (by repeat constructor) (by repeat constructor) ?_)
              refine o_ (h:=?_)
              refine c0_ 17 rfl (s_store rfl rfl rfl rfl rfl rfl (by repeat constructor) (by repeat constructor) ?_)
              refine o_ (h:=z_ (h:=?_))
              refine x_then ?_
              exact ⟨_, ⟨_, _, _, _, rfl⟩, wr_ [0, 1, 3, 2, 4]⟩
            · refine s_alloc (by repeat constructor) ?_
              refine o_ (h:=?_)
              refine c_ 11 rfl (s_gen 0 (hc := Gfile l _ s.files (by omega) hv.files.b hv.files.ne) (hR := ?_))
              rintro r a44 ha44 ⟨x44, rfl⟩
              refine ⟨rfl, _, (by repeat constructor), ?_⟩
              refine o_ (h:=?_)
              refine c0_ 15 rfl (s_store rfl rfl rfl rfl rfl rfl (by repeat constructor) (by repeat constructor) ?_)
              refine o_ (h:=?_)
              refine c0_ 16 rfl (s_store rfl rfl rfl rfl rfl rfl (by repeat constructor) (by repeat constructor) ?_)
              refine o_ (h:=?_)
              refine c0_ 17 rfl (s_store rfl rfl rfl rfl rfl rfl (by repeat constructor) (by repeat constructor) ?_)
              refine o_ (h:=z_ (h:=?_))
              refine x_then ?_
              exact ⟨_, ⟨_, _, _, _, rfl⟩, wr_ [0, 1, 3, 2, 4]⟩
          · refine s_alloc (by repeat constructor) ?_
            refine o_ (h:=?_)
            refine c_ 7 rfl (s_gen 0 (hc := Gfile l _ s.files (by omega) hv.files.b hv.files.ne) (hR := ?_))
            rintro r a45 ha45 ⟨x45, rfl⟩
            refine ⟨rfl, _, (by repeat constructor), ?_⟩
            refine o_ (h:=?_)
            refine c_ 11 rfl (s_gen 0 (hc := Gfile l _ s.files (by omega) hv.files.b hv.files.ne) (hR := ?_))
            rintro r a46 ha46 ⟨x46, rfl⟩
            refine ⟨rfl, _, (by repeat constructor), ?_⟩
            refine o_ (h:=?_)
            refine c0_ 15 rfl (s_store rfl rfl rfl rfl rfl rfl (by repeat constructor) (by repeat constructor) ?_)
            refine o_ (h:=?_)
            refine c0_ 16 rfl (s_store rfl rfl rfl rfl rfl rfl (by repeat constructor) (by repeat constructor) ?_)
            refine o_ (h:=?_)
            refine c0_ 17 rfl (s_store rfl rfl rfl rfl rfl rfl (by repeat constructor) (by repeat constructor) ?_)
            refine o_ (h:=z_ (h:=?_))
            refine x_then ?_
            exact ⟨_, ⟨_, _, _, _, rfl⟩, wr_ [0, 1, 3, 2, 4]⟩
        · refine s_alloc (by repeat constructor) ?_
          refine o_ (h:=?_)
          refine c2_ 7 12 rfl rfl ?_ ?_
          · refine s_gen 0 (hc := Gfile l _ s.files (by omega) hv.files.b hv.files.ne) (hR := ?_)
            rintro r a47 ha47 ⟨x47, rfl⟩
            refine ⟨rfl, _, (by repeat constructor), ?_⟩
            refine o_ (h:=?_)
            refine c2_ 11 12 rfl rfl ?_ ?_
            · refine s_gen 0 (hc := Gfile l _ s.files (by omega) hv.files.b hv.files.ne) (hR := ?_)
              rintro r a48 ha48 ⟨x48, rfl⟩
              refine ⟨rfl, _, (by repeat constructor), ?_⟩
              refine o_ (h:=?_)
              refine c_ 12 rfl (s_alloc (by repeat constructor) ?_)
              refine o_ (h:=?_)
              refine c0_ 15 rfl (s_store rfl rfl rfl rfl rfl rfl (by repeat constructor) (by repeat constructor) ?_)
              refine o_ (h:=?_)
              refine c0_ 16 rfl (s_store rfl rfl rfl rfl rfl rfl (by repeat constructor) (by repeat constructor) ?_)
              refine o_ (h:=?_)
              refine c0_ 17 rfl (s_store rfl rfl rfl rfl rfl rfl (by repeat constructor) (by repeat constructor) ?_)
              refine o_ (h:=z_ (h:=?_))
              refine x_then ?_
              exact ⟨_, ⟨_, _, _, _, rfl⟩, wr_ [0, 1, 4, 2, 3]⟩
            · refine s_alloc (by repeat constructor) ?_
              refine o_ (h:=?_)
              refine c_ 11 rfl (s_gen 0 (hc := Gfile l _ s.files (by omega) hv.files.b hv.files.ne) (hR := ?_))
              rintro r a49 ha49 ⟨x49, rfl⟩
              refine ⟨rfl, _, (by repeat constructor), ?_⟩
              refine o_ (h:=?_)
              refine c0_ 15 rfl (s_store rfl rfl rfl rfl rfl rfl (by repeat constructor) (by repeat constructor) ?_)
              refine o_ (h:=?_)
              refine c0_ 16 rfl (s_store rfl rfl rfl rfl rfl rfl (by repeat constructor) (by repeat constructor) ?_)
              refine o_ (h:=?_)
              refine c0_ 17 rfl (s_store rfl rfl rfl rfl rfl rfl (by repeat constructor) (by repeat constructor) ?_)
              refine o_ (h:=z_ (h:=?_))
              refine x_then ?_
              exact ⟨_, ⟨_, _, _, _, rfl⟩, wr_ [0, 1, 4, 2, 3]⟩
          · refine s_alloc (by repeat constructor) ?_
            refine o_ (h:=?_)
            refine c_ 7 rfl (s_gen 0 (hc := Gfile l _ s.files (by omega) hv.files.b hv.files.ne) (hR := ?_))
            rintro r a50 ha50 ⟨x50, rfl⟩
            refine ⟨rfl, _, (by repeat constructor), ?_⟩
            refine o_ (h:=?_)
            refine c_ 11 rfl (s_gen 0 (hc := Gfile l _ s.files (by omega) hv.files.b hv.files.ne) (hR := ?_))
            rintro r a51 ha51 ⟨x51, rfl⟩
            refine ⟨rfl, _, (by repeat constructor), ?_⟩
            refine o_ (h:=?_)
            refine c0_ 15 rfl (s_store rfl rfl rfl rfl rfl rfl (by repeat constructor) (by repeat constructor) ?_)
            refine o_ (h:=?_)
            refine c0_ 16 rfl (s_store rfl rfl rfl rfl rfl rfl (by repeat constructor) (by repeat constructor) ?_)
            refine o_ (h:=?_)
            refine c0_ 17 rfl (s_store rfl rfl rfl rfl rfl rfl (by repeat constructor) (by repeat constructor) ?_)
            refine o_ (h:=z_ (h:=?_))
            refine x_then ?_
            exact ⟨_, ⟨_, _, _, _, rfl⟩, wr_ [0, 1, 4, 2, 3]⟩
      · refine s_alloc (by repeat constructor) ?_
        refine o_ (h:=?_)
        refine cm_ 7 (ao_ 7 rfl ?_ (ao_ 12 rfl ?_ (ao_ 13 rfl ?_ ao_n)))
        · refine s_gen 0 (hc := Gfile l _ s.files (by omega) hv.files.b hv.files.ne) (hR := ?_)
          rintro r a52 ha52 ⟨x52, rfl⟩
          refine ⟨rfl, _, (by repeat constructor), ?_⟩
          refine o_ (h:=?_)
          refine cm_ 11 (ao_ 11 rfl ?_ (ao_ 12 rfl ?_ (ao_ 13 rfl ?_ ao_n)))
          · refine s_gen 0 (hc := Gfile l _ s.files (by omega) hv.files.b hv.files.ne) (hR := ?_)
            rintro r a53 ha53 ⟨x53, rfl⟩
            refine ⟨rfl, _, (by repeat constructor), ?_⟩
            refine o_ (h:=?_)
            refine c2_ 12 13 rfl rfl ?_ ?_
            · refine s_alloc (by repeat constructor) ?_
              refine o_ (h:=?_)
              refine c_ 13 rfl (s_alloc (by repeat constructor) ?_)
              refine o_ (h:=?_)
              refine c0_ 15 rfl (s_store rfl rfl rfl rfl rfl rfl (by repeat constructor) (by repeat constructor) ?_)
              refine o_ (h:=?_)
              refine c0_ 16 rfl (s_store rfl rfl rfl rfl rfl rfl (by repeat constructor) (by repeat constructor) ?_)
              refine o_ (h:=?_)
              refine c0_ 17 rfl (s_store rfl rfl rfl rfl rfl rfl (by repeat constructor) (by repeat constructor) ?_)
              refine o_ (h:=z_ (h:=?_))
              refine x_then ?_
              exact ⟨_, ⟨_, _, _, _, rfl⟩, wr_ [0, 1, 3, 4, 2]⟩
            · refine s_alloc (by repeat constructor) ?_
              refine o_ (h:=?_)
              refine c_ 12 rfl (s_alloc (by repeat constructor) ?_)
              refine o_ (h:=?_)
              refine c0_ 15 rfl (s_store rfl rfl rfl rfl rfl rfl (by repeat constructor) (by repeat constructor) ?_)
              refine o_ (h:=?_)
              refine c0_ 16 rfl (s_store rfl rfl rfl rfl rfl rfl (by repeat constructor) (by repeat constructor) ?_)
              refine o_ (h:=?_)
              refine c0_ 17 rfl (s_store rfl rfl rfl rfl rfl rfl (by repeat constructor) (by repeat constructor) ?_)
              refine o_ (h:=z_ (h:=?_))
              refine x_then ?_
              exact ⟨_, ⟨_, _, _, _, rfl⟩, wr_ [0, 1, 4, 3, 2]⟩
          · refine s_alloc (by repeat constructor) ?_
            refine o_ (h:=?_)
            refine c2_ 11 13 rfl rfl ?_ ?_
            · refine s_gen 0 (hc := Gfile l _ s.files (by omega) hv.files.b hv.files.ne) (hR := ?_)
              rintro r a54 ha54 ⟨x54, rfl⟩
              refine ⟨rfl, _, (by repeat constructor), ?_⟩
              refine o_ (h:=?_)
              refine c_ 13 rfl (s_alloc (by repeat constructor) ?_)
              refine o_ (h:=?_)
              refine c0_ 15 rfl (s_store rfl rfl rfl rfl rfl rfl (by repeat constructor) (by repeat constructor) ?_)
              refine o_ (h:=?_)
              refine c0_ 16 rfl (s_store rfl rfl rfl rfl rfl rfl (by repeat constructor) (by repeat constructor) ?_)
              refine o_ (h:=?_)
              refine c0_ 17 rfl (s_store rfl rfl rfl rfl rfl rfl (by repeat constructor) (by repeat constructor) ?_)
              refine o_ (h:=z_ (h:=?_))
              refine x_then ?_
              exact ⟨_, ⟨_, _, _, _, rfl⟩, wr_ [0, 1, 3, 4, 2]⟩
            · refine s_alloc (by repeat constructor) ?_
              refine o_ (h:=?_)
              refine c_ 11 rfl (s_gen 0 (hc := Gfile l _ s.files (by omega) hv.files.b hv.files.ne) (hR := ?_))
              rintro r a55 ha55 ⟨x55, rfl⟩
              refine ⟨rfl, _, (by repeat constructor), ?_⟩
              refine o_ (h:=?_)
              refine c0_ 15 rfl (s_store rfl rfl rfl rfl rfl rfl (by repeat constructor) (by repeat constructor) ?_)
              refine o_ (h:=?_)
              refine c0_ 16 rfl (s_store rfl rfl rfl rfl rfl rfl (by repeat constructor) (by repeat constructor) ?_)
              refine o_ (h:=?_)
              refine c0_ 17 rfl (s_store rfl rfl rfl rfl rfl rfl (by repeat constructor) (by repeat constructor) ?_)
              refine o_ (h:=z_ (h:=?_))
              refine x_then ?_
              exact ⟨_, ⟨_, _, _, _, rfl⟩, wr_ [0, 1, 3, 4, 2]⟩
          · refine s_alloc (by repeat constructor) ?_
            refine o_ (h:=?_)
            refine c2_ 11 12 rfl rfl ?_ ?_
            · refine s_gen 0 (hc := Gfile l _ s.files (by omega) hv.files.b hv.files.ne) (hR := ?_)
              rintro r a56 ha56 ⟨x56, rfl⟩
              refine ⟨rfl, _, (by repeat constructor), ?_⟩
              refine o_ (h:=?_)
              refine c_ 12 rfl (s_alloc (by repeat constructor) ?_)
              refine o_ (h:=?_)
              refine c0_ 15 rfl (s_store rfl rfl rfl rfl rfl rfl (by repeat constructor) (by repeat constructor) ?_)
              refine o_ (h:=?_)
              refine c0_ 16 rfl (s_store rfl rfl rfl rfl rfl rfl (by repeat constructor) (by repeat constructor) ?_)
              refine o_ (h:=?_)
              refine c0_ 17 rfl (s_store rfl rfl rfl rfl rfl rfl (by repeat constructor) (by repeat constructor) ?_)
              refine o_ (h:=z_ (h:=?_))
              refine x_then ?_
              exact ⟨_, ⟨_, _, _, _, rfl⟩, wr_ [0, 1, 4, 3, 2]⟩
            · refine s_alloc (by repeat constructor) ?_
              refine o_ (h:=?_)
              refine c_ 11 rfl (s_gen 0 (hc := Gfile l _ s.files (by omega) hv.files.b hv.files.ne) (hR := ?_))
              rintro r a57 ha57 ⟨x57, rfl⟩
              refine ⟨rfl, _, (by repeat constructor), ?_⟩
              refine o_ (h:=?_)
              refine c0_ 15 rfl (s_store rfl rfl rfl rfl rfl rfl (by repeat constructor) (by repeat constructor) ?_)
              refine o_ (h:=?_)
              refine c0_ 16 rfl (s_store rfl rfl rfl rfl rfl rfl (by repeat constructor) (by repeat constructor) ?_)
              refine o_ (h:=?_)
              refine c0_ 17 rfl (s_store rfl rfl rfl rfl rfl rfl (by repeat constructor) (by repeat constructor) ?_)
              refine o_ (h:=z_ (h:=?_))
              refine x_then ?_
              exact ⟨_, ⟨_, _, _, _, rfl⟩, wr_ [0, 1, 4, 3, 2]⟩
        · refine s_alloc (by repeat constructor) ?_
          refine o_ (h:=?_)
          refine c2_ 7 13 rfl rfl ?_ ?_
          · refine s_gen 0 (hc := Gfile l _ s.files (by omega) hv.files.b hv.files.ne) (hR := ?_)
            rintro r a58 ha58 ⟨x58, rfl⟩
            refine ⟨rfl, _, (by repeat constructor), ?_⟩
            refine o_ (h:=?_)
            refine c2_ 11 13 rfl rfl ?_ ?_
            · refine s_gen 0 (hc := Gfile l _ s.files (by omega) hv.files.b hv.files.ne) (hR := ?_)
              rintro r a59 ha59 ⟨x59, rfl⟩
              refine ⟨rfl, _, (by repeat constructor), ?_⟩
              refine o_ (h:=?_)
              refine c_ 13 rfl (s_alloc (by repeat constructor) ?_)
              refine o_ (h:=?_)
              refine c0_ 15 rfl (s_store rfl rfl rfl rfl rfl rfl (by repeat constructor) (by repeat constructor) ?_)
              refine o_ (h:=?_)
              refine c0_ 16 rfl (s_store rfl rfl rfl rfl rfl rfl (by repeat constructor) (by repeat constructor) ?_)
              refine o_ (h:=?_)
              refine c0_ 17 rfl (s_store rfl rfl rfl rfl rfl rfl (by repeat constructor) (by repeat constructor) ?_)
              refine o_ (h:=z_ (h:=?_))
              refine x_then ?_
              exact ⟨_, ⟨_, _, _, _, rfl⟩, wr_ [0, 1, 3, 4, 2]⟩
            · refine s_alloc (by repeat constructor) ?_
              refine o_ (h:=?_)
              refine c_ 11 rfl (s_gen 0 (hc := Gfile l _ s.files (by omega) hv.files.b hv.files.ne) (hR := ?_))
              rintro r a60 ha60 ⟨x60, rfl⟩
              refine ⟨rfl, _, (by repeat constructor), ?_⟩
              refine o_ (h:=?_)
              refine c0_ 15 rfl (s_store rfl rfl rfl rfl rfl rfl (by repeat constructor) (by repeat constructor) ?_)
              refine o_ (h:=?_)
              refine c0_ 16 rfl (s_store rfl rfl rfl rfl rfl rfl (by repeat constructor) (by repeat constructor) ?_)
              refine o_ (h:=?_)
              refine c0_ 17 rfl (s_store rfl rfl rfl rfl rfl rfl (by repeat constructor) (by repeat constructor) ?_)
              refine o_ (h:=z_ (h:=?_))
              refine x_then ?_
              exact ⟨_, ⟨_, _, _, _, rfl⟩, wr_ [0, 1, 3, 4, 2]⟩
          · refine s_alloc (by repeat constructor) ?_
            refine o_ (h:=?_)
            refine c_ 7 rfl (s_gen 0 (hc := Gfile l _ s.files (by omega) hv.files.b hv.files.ne) (hR := ?_))
            rintro r a61 ha61 ⟨x61, rfl⟩
            refine ⟨rfl, _, (by repeat constructor), ?_⟩
            refine o_ (h:=?_)
            refine c_ 11 rfl (s_gen 0 (hc := Gfile l _ s.files (by omega) hv.files.b hv.files.ne) (hR := ?_))
            rintro r a62 ha62 ⟨x62, rfl⟩
            refine ⟨rfl, _, (by repeat constructor), ?_⟩
            refine o_ (h:=?_)
            refine c0_ 15 rfl (s_store rfl rfl rfl rfl rfl rfl (by repeat constructor) (by repeat constructor) ?_)
            refine o_ (h:=?_)
            refine c0_ 16 rfl (s_store rfl rfl rfl rfl rfl rfl (by repeat constructor) (by repeat constructor) ?_)
            refine o_ (h:=?_)
            refine c0_ 17 rfl (s_store rfl rfl rfl rfl rfl rfl (by repeat constructor) (by repeat constructor) ?_)
            refine o_ (h:=z_ (h:=?_))
            refine x_then ?_
            exact ⟨_, ⟨_, _, _, _, rfl⟩, wr_ [0, 1, 3, 4, 2]⟩
        · refine s_alloc (by repeat constructor) ?_
          refine o_ (h:=?_)
          refine c2_ 7 12 rfl rfl ?_ ?_
          · refine s_gen 0 (hc := Gfile l _ s.files (by omega) hv.files.b hv.files.ne) (hR := ?_)
            rintro r a63 ha63 ⟨x63, rfl⟩
            refine ⟨rfl, _, (by repeat constructor), ?_⟩
            refine o_ (h:=?_)
            refine c2_ 11 12 rfl rfl ?_ ?_
            · refine s_gen 0 (hc := Gfile l _ s.files (by omega) hv.files.b hv.files.ne) (hR := ?_)
              rintro r a64 ha64 ⟨x64, rfl⟩
              refine ⟨rfl, _, (by repeat constructor), ?_⟩
              refine o_ (h:=?_)
              refine c_ 12 rfl (s_alloc (by repeat constructor) ?_)
              refine o_ (h:=?_)
              refine c0_ 15 rfl (s_store rfl rfl rfl rfl rfl rfl (by repeat constructor) (by repeat constructor) ?_)
              refine o_ (h:=?_)
              refine c0_ 16 rfl (s_store rfl rfl rfl rfl rfl rfl (by repeat constructor) (by repeat constructor) ?_)
              refine o_ (h:=?_)
              refine c0_ 17 rfl (s_store rfl rfl rfl rfl rfl rfl (by repeat constructor) (by repeat constructor) ?_)
              refine o_ (h:=z_ (h:=?_))
              refine x_then ?_
              exact ⟨_, ⟨_, _, _, _, rfl⟩, wr_ [0, 1, 4, 3, 2]⟩
            · refine s_alloc (by repeat constructor) ?_
              refine o_ (h:=?_)
              refine c_ 11 rfl (s_gen 0 (hc := Gfile l _ s.files (by omega) hv.files.b hv.files.ne) (hR := ?_))
              rintro r a65 ha65 ⟨x65, rfl⟩
              refine ⟨rfl, _, (by repeat constructor), ?_⟩
              refine o_ (h:=?_)
              refine c0_ 15 rfl (s_store rfl rfl rfl rfl rfl rfl (by repeat constructor) (by repeat constructor) ?_)
              refine o_ (h:=?_)
              refine c0_ 16 rfl (s_store rfl rfl rfl rfl rfl rfl (by repeat constructor) (by repeat constructor) ?_)
              refine o_ (h:=?_)
              refine c0_ 17 rfl (s_store rfl rfl rfl rfl rfl rfl (by repeat constructor) (by repeat constructor) ?_)
              refine o_ (h:=z_ (h:=?_))
              refine x_then ?_
              exact ⟨_, ⟨_, _, _, _, rfl⟩, wr_ [0, 1, 4, 3, 2]⟩
          · refine s_alloc (by repeat constructor) ?_
            refine o_ (h:=?_)
            refine c_ 7 rfl (s_gen 0 (hc := Gfile l _ s.files (by omega) hv.files.b hv.files.ne) (hR := ?_))
            rintro r a66 ha66 ⟨x66, rfl⟩
            refine ⟨rfl, _, (by repeat constructor), ?_⟩
            refine o_ (h:=?_)
            refine c_ 11 rfl (s_gen 0 (hc := Gfile l _ s.files (by omega) hv.files.b hv.files.ne) (hR := ?_))
            rintro r a67 ha67 ⟨x67, rfl⟩
            refine ⟨rfl, _, (by repeat constructor), ?_⟩
            refine o_ (h:=?_)
            refine c0_ 15 rfl (s_store rfl rfl rfl rfl rfl rfl (by repeat constructor) (by repeat constructor) ?_)
            refine o_ (h:=?_)
            refine c0_ 16 rfl (s_store rfl rfl rfl rfl rfl rfl (by repeat constructor) (by repeat constructor) ?_)
            refine o_ (h:=?_)
            refine c0_ 17 rfl (s_store rfl rfl rfl rfl rfl rfl (by repeat constructor) (by repeat constructor) ?_)
            refine o_ (h:=z_ (h:=?_))
            refine x_then ?_
            exact ⟨_, ⟨_, _, _, _, rfl⟩, wr_ [0, 1, 4, 3, 2]⟩
    · refine s_alloc (by repeat constructor) ?_
      refine o_ (h:=?_)
      refine cm_ 3 (ao_ 3 rfl ?_ (ao_ 13 rfl ?_ (ao_ 14 rfl ?_ ao_n)))
      · refine s_gen 0 (hc := Gfile l _ s.files (by omega) hv.files.b hv.files.ne) (hR := ?_)
        rintro r a68 ha68 ⟨x68, rfl⟩
        refine ⟨rfl, _, (by repeat constructor), ?_⟩
        refine o_ (h:=?_)
        refine cm_ 7 (ao_ 7 rfl ?_ (ao_ 13 rfl ?_ (ao_ 14 rfl ?_ ao_n)))
        · refine s_gen 0 (hc := Gfile l _ s.files (by omega) hv.files.b hv.files.ne) (hR := ?_)
          rintro r a69 ha69 ⟨x69, rfl⟩
          refine ⟨rfl, _, (by repeat constructor), ?_⟩
          refine o_ (h:=?_)
          refine cm_ 11 (ao_ 11 rfl ?_ (ao_ 13 rfl ?_ (ao_ 14 rfl ?_ ao_n)))
          · refine s_gen 0 (hc := Gfile l _ s.files (by omega) hv.files.b hv.files.ne) (hR := ?_)
            rintro r a70 ha70 ⟨x70, rfl⟩
            refine ⟨rfl, _, (by repeat constructor), ?_⟩
            refine o_ (h:=?_)
            refine c2_ 13 14 rfl rfl ?_ ?_
            · refine s_alloc (by repeat constructor) ?_
              refine o_ (h:=?_)
              refine c_ 14 rfl (s_alloc (by repeat constructor) ?_)
              refine o_ (h:=?_)
              refine c0_ 15 rfl (s_store rfl rfl rfl rfl rfl rfl (by repeat constructor) (by repeat constructor) ?_)
              refine o_ (h:=?_)
              refine c0_ 16 rfl (s_store rfl rfl rfl rfl rfl rfl (by repeat constructor) (by repeat constructor) ?_)
              refine o_ (h:=?_)
              refine c0_ 17 rfl (s_store rfl rfl rfl rfl rfl rfl (by repeat constructor) (by repeat constructor) ?_)
              refine o_ (h:=z_ (h:=?_))
              refine x_then ?_
              exact ⟨_, ⟨_, _, _, _, rfl⟩, wr_ [0, 1, 2, 3, 4]⟩
            · refine s_alloc (by repeat constructor) ?_
              refine o_ (h:=?_)
              refine c_ 13 rfl (s_alloc (by repeat constructor) ?_)
              refine o_ (h:=?_)
              refine c0_ 15 rfl (s_store rfl rfl rfl rfl rfl rfl (by repeat constructor) (by repeat constructor) ?_)
              refine o_ (h:=?_)
              refine c0_ 16 rfl (s_store rfl rfl rfl rfl rfl rfl (by repeat constructor) (by repeat constructor) ?_)
              refine o_ (h:=?_)
              refine c0_ 17 rfl (s_store rfl rfl rfl rfl rfl rfl (by repeat constructor) (by repeat constructor) ?_)
              refine o_ (h:=z_ (h:=?_))
              refine x_then ?_
              exact ⟨_, ⟨_, _, _, _, rfl⟩, wr_ [0, 1, 2, 4, 3]⟩
          · refine s_alloc (by repeat constructor) ?_
            refine o_ (h:=?_)
            refine c2_ 11 14 rfl rfl ?_ ?_
            · refine s_gen 0 (hc := Gfile l _ s.files (by omega) hv.files.b hv.files.ne) (hR := ?_)
              rintro r a71 ha71 ⟨x71, rfl⟩
              refine ⟨rfl, _, (by repeat constructor), ?_⟩
              refine o_ (h:=?_)
              refine c_ 14 rfl (s_alloc (by repeat constructor) ?_)
              refine o_ (h:=?_)
              refine c0_ 15 rfl (s_store rfl rfl rfl rfl rfl rfl (by repeat constructor) (by repeat constructor) ?_)
              refine o_ (h:=?_)
              refine c0_ 16 rfl (s_store rfl rfl rfl rfl rfl rfl (by repeat constructor) (by repeat constructor) ?_)
              refine o_ (h:=?_)
              refine c0_ 17 rfl (s_store rfl rfl rfl rfl rfl rfl (by repeat constructor) (by repeat constructor) ?_)
              refine o_ (h:=z_ (h:=?_))
              refine x_then ?_
              exact ⟨_, ⟨_, _, _, _, rfl⟩, wr_ [0, 1, 2, 3, 4]⟩
            · refine s_alloc (by repeat constructor) ?_
              refine o_ (h:=?_)
              refine c_ 11 rfl (s_gen 0 (hc := Gfile l _ s.files (by omega) hv.files.b hv.files.ne) (hR := ?_))
              rintro r a72 ha72 ⟨x72, rfl⟩
              refine ⟨rfl, _, (by repeat constructor), ?_⟩
              refine o_ (h:=?_)
              refine c0_ 15 rfl (s_store rfl rfl rfl rfl rfl rfl (by repeat constructor) (by repeat constructor) ?_)
              refine o_ (h:=?_)
              refine c0_ 16 rfl (s_store rfl rfl rfl rfl rfl rfl (by repeat constructor) (by repeat constructor) ?_)
              refine o_ (h:=?_)
              refine c0_ 17 rfl (s_store rfl rfl rfl rfl rfl rfl (by repeat constructor) (by repeat constructor) ?_)
              refine o_ (h:=z_ (h:=?_))
              refine x_then ?_
              exact ⟨_, ⟨_, _, _, _, rfl⟩, wr_ [0, 1, 2, 3, 4]⟩
          · refine s_alloc (by repeat constructor) ?_
            refine o_ (h:=?_)
            refine c2_ 11 13 rfl rfl ?_ ?_
            · refine s_gen 0 (hc := Gfile l _ s.files (by omega) hv.files.b hv.files.ne) (hR := ?_)
              rintro r a73 ha73 ⟨x73, rfl⟩
              refine ⟨rfl, _, (by repeat constructor), ?_⟩
              refine o_ (h:=?_)
              refine c_ 13 rfl (s_alloc (by repeat constructor) ?_)
              refine o_ (h:=?_)
              refine c0_ 15 rfl (s_store rfl rfl rfl rfl rfl rfl (by repeat constructor) (by repeat constructor) ?_)
              refine o_ (h:=?_)
              refine c0_ 16 rfl (s_store rfl rfl rfl rfl rfl rfl (by repeat constructor) (by repeat constructor) ?_)
              refine o_ (h:=?_)
              refine c0_ 17 rfl (s_store rfl rfl rfl rfl rfl rfl (by repeat constructor) (by repeat constructor) ?_)
              refine o_ (h:=z_ (h:=?_))
              refine x_then ?_
              exact ⟨_, ⟨_, _, _, _, rfl⟩, wr_ [0, 1, 2, 4, 3]⟩
            · refine s_alloc (by repeat constructor) ?_
              refine o_ (h:=?_)
              refine c_ 11 rfl (s_gen 0 (hc := Gfile l _ s.files (by omega) hv.files.b hv.files.ne) (hR := ?_))
              rintro r a74 ha74 ⟨x74, rfl⟩
              refine ⟨rfl, _, (by repeat constructor), ?_⟩
              refine o_ (h:=?_)
              refine c0_ 15 rfl (s_store rfl rfl rfl rfl rfl rfl (by repeat constructor) (by repeat constructor) ?_)
              refine o_ (h:=?_)
              refine c0_ 16 rfl (s_store rfl rfl rfl rfl rfl rfl (by repeat constructor) (by repeat constructor) ?_)
              refine o_ (h:=?_)
              refine c0_ 17 rfl (s_store rfl rfl rfl rfl rfl rfl (by repeat constructor) (by repeat constructor) ?_)
              refine o_ (h:=z_ (h:=?_))
              refine x_then ?_
              exact ⟨_, ⟨_, _, _, _, rfl⟩, wr_ [0, 1, 2, 4, 3]⟩
        · refine s_alloc (by repeat constructor) ?_
          refine o_ (h:=?_)
          refine c2_ 7 14 rfl rfl ?_ ?_
          · refine s_gen 0 (hc := Gfile l _ s.files (by omega) hv.files.b hv.files.ne) (hR := ?_)
            rintro r a75 ha75 ⟨x75, rfl⟩
            refine ⟨rfl, _, (by repeat constructor), ?_⟩
            refine o_ (h:=?_)
            refine c2_ 11 14 rfl rfl ?_ ?_
            · refine s_gen 0 (hc := Gfile l _ s.files (by omega) hv.files.b hv.files.ne) (hR := ?_)
              rintro r a76 ha76 ⟨x76, rfl⟩
              refine ⟨rfl, _, (by repeat constructor), ?_⟩
              refine o_ (h:=?_)
              refine c_ 14 rfl (s_alloc (by repeat constructor) ?_)
              refine o_ (h:=?_)
              refine c0_ 15 rfl (s_store rfl rfl rfl rfl rfl rfl (by repeat constructor) (by repeat constructor) ?_)
              refine o_ (h:=?_)
              refine c0_ 16 rfl (s_store rfl rfl rfl rfl rfl rfl (by repeat constructor) (by repeat constructor) ?_)
              refine o_ (h:=?_)
              refine c0_ 17 rfl (s_store rfl rfl rfl rfl rfl rfl (by repeat constructor) (by repeat constructor) ?_)
              refine o_ (h:=z_ (h:=?_))
              refine x_then ?_
              exact ⟨_, ⟨_, _, _, _, rfl⟩, wr_ [0, 1, 2, 3, 4]⟩
            · refine s_alloc (by repeat constructor) ?_
              refine o_ (h:=?_)
              refine c_ 11 rfl (s_gen 0 (hc := Gfile l _ s.files (by omega) hv.files.b hv.files.ne) (hR := ?_))
              rintro r a77 ha77 ⟨x77, rfl⟩
              refine ⟨rfl, _, (by repeat constructor), ?_⟩
              refine o_ (h:=?_)
              refine c0_ 15 rfl (s_store rfl rfl rfl rfl rfl rfl (by repeat constructor) (by repeat constructor) ?_)
              refine o_ (h:=?_)
              refine c0_ 16 rfl (s_store rfl rfl rfl rfl rfl rfl (by repeat constructor) (by repeat constructor) ?_)
              refine o_ (h:=?_)
              refine c0_ 17 rfl (s_store rfl rfl rfl rfl rfl rfl (by repeat constructor) (by repeat constructor) ?_)
              refine o_ (h:=z_ (h:=?_))
              refine x_then ?_
              exact ⟨_, ⟨_, _, _, _, rfl⟩, wr_ [0, 1, 2, 3, 4]⟩
          · refine s_alloc (by repeat constructor) ?_
            refine o_ (h:=?_)
            refine c_ 7 rfl (s_gen 0 (hc := Gfile l _ s.files (by omega) hv.files.b hv.files.ne) (hR := ?_))
            rintro r a78 ha78 ⟨x78, rfl⟩
            refine ⟨rfl, _, (by repeat constructor), ?_⟩
            refine o_ (h:=?_)
            refine c_ 11 rfl (s_gen 0 (hc := Gfile l _ s.files (by omega) hv.files.b hv.files.ne) (hR := ?_))
            rintro r a79 ha79 ⟨x79, rfl⟩
            refine ⟨rfl, _, (by repeat constructor), ?_⟩
            refine o_ (h:=?_)
            refine c0_ 15 rfl (s_store rfl rfl rfl rfl rfl rfl (by repeat constructor) (by repeat constructor) ?_)
            refine o_ (h:=?_)
            refine c0_ 16 rfl (s_store rfl rfl rfl rfl rfl rfl (by repeat constructor) (by repeat constructor) ?_)
            refine o_ (h:=?_)
            refine c0_ 17 rfl (s_store rfl rfl rfl rfl rfl rfl (by repeat constructor) (by repeat constructor) ?_)
            refine o_ (h:=z_ (h:=?_))
            refine x_then ?_
            exact ⟨_, ⟨_, _, _, _, rfl⟩, wr_ [0, 1, 2, 3, 4]⟩
        · refine s_alloc (by repeat constructor) ?_
          refine o_ (h:=?_)
          refine c2_ 7 13 rfl rfl ?_ ?_
          · refine s_gen 0 (hc := Gfile l _ s.files (by omega) hv.files.b hv.files.ne) (hR := ?_)
            rintro r a80 ha80 ⟨x80, rfl⟩
            refine ⟨rfl, _, (by repeat constructor), ?_⟩
            refine o_ (h:=?_)
            refine c2_ 11 13 rfl rfl ?_ ?_
            · refine s_gen 0 (hc := Gfile l _ s.files (by omega) hv.files.b hv.files.ne) (hR := ?_)
              rintro r a81 ha81 ⟨x81, rfl⟩
              refine ⟨rfl, _, (by repeat constructor), ?_⟩
              refine o_ (h:=?_)
              refine c_ 13 rfl (s_alloc (by repeat constructor) ?_)
              refine o_ (h:=?_)
              refine c0_ 15 rfl (s_store rfl rfl rfl rfl rfl rfl (by repeat constructor) (by repeat constructor) ?_)
              refine o_ (h:=?_)
              refine c0_ 16 rfl (s_store rfl rfl rfl rfl rfl rfl (by repeat constructor) (by repeat constructor) ?_)
              refine o_ (h:=?_)
              refine c0_ 17 rfl (s_store rfl rfl rfl rfl rfl rfl (by repeat constructor) (by repeat constructor) ?_)
              refine o_ (h:=z_ (h:=?_))
              refine x_then ?_
              exact ⟨_, ⟨_, _, _, _, rfl⟩, wr_ [0, 1, 2, 4, 3]⟩
            · refine s_alloc (by repeat constructor) ?_
              refine o_ (h:=?_)
              refine c_ 11 rfl (s_gen 0 (hc := Gfile l _ s.files (by omega) hv.files.b hv.files.ne) (hR := ?_))
              rintro r a82 ha82 ⟨x82, rfl⟩
              refine ⟨rfl, _, (by repeat constructor), ?_⟩
              refine o_ (h:=?_)
              refine c0_ 15 rfl (s_store rfl rfl rfl rfl rfl rfl (by repeat constructor) (by repeat constructor) ?_)
              refine o_ (h:=?_)
              refine c0_ 16 rfl (s_store rfl rfl rfl rfl rfl rfl (by repeat constructor) (by repeat constructor) ?_)
              refine o_ (h:=?_)
              refine c0_ 17 rfl (s_store rfl rfl rfl rfl rfl rfl (by repeat constructor) (by repeat constructor) ?_)
              refine o_ (h:=z_ (h:=?_))
              refine x_then ?_
              exact ⟨_, ⟨_, _, _, _, rfl⟩, wr_ [0, 1, 2, 4, 3]⟩
          · refine s_alloc (by repeat constructor) ?_
            refine o_ (h:=?_)
            refine c_ 7 rfl (s_gen 0 (hc := Gfile l _ s.files (by omega) hv.files.b hv.files.ne) (hR := ?_))
            rintro r a83 ha83 ⟨x83, rfl⟩
            refine ⟨rfl, _, (by repeat constructor), ?_⟩
            refine o_ (h:=?_)
            refine c_ 11 rfl (s_gen 0 (hc := Gfile l _ s.files (by omega) hv.files.b hv.files.ne) (hR := ?_))
            rintro r a84 ha84 ⟨x84, rfl⟩
            refine ⟨rfl, _, (by repeat constructor), ?_⟩
            refine o_ (h:=?_)
            refine c0_ 15 rfl (s_store rfl rfl rfl rfl rfl rfl (by repeat constructor) (by repeat constructor) ?_)
            refine o_ (h:=?_)
            refine c0_ 16 rfl (s_store rfl rfl rfl rfl rfl rfl (by repeat constructor) (by repeat constructor) ?_)
            refine o_ (h:=?_)
            refine c0_ 17 rfl (s_store rfl rfl rfl rfl rfl rfl (by repeat constructor) (by repeat constructor) ?_)
            refine o_ (h:=z_ (h:=?_))
            refine x_then ?_
            exact ⟨_, ⟨_, _, _, _, rfl⟩, wr_ [0, 1, 2, 4, 3]⟩
      · refine s_alloc (by repeat constructor) ?_
        refine o_ (h:=?_)
        refine c2_ 3 14 rfl rfl ?_ ?_
        · refine s_gen 0 (hc := Gfile l _ s.files (by omega) hv.files.b hv.files.ne) (hR := ?_)
          rintro r a85 ha85 ⟨x85, rfl⟩
          refine ⟨rfl, _, (by repeat constructor), ?_⟩
          refine o_ (h:=?_)
          refine c2_ 7 14 rfl rfl ?_ ?_
          · refine s_gen 0 (hc := Gfile l _ s.files (by omega) hv.files.b hv.files.ne) (hR := ?_)
            rintro r a86 ha86 ⟨x86, rfl⟩
            refine ⟨rfl, _, (by repeat constructor), ?_⟩
            refine o_ (h:=?_)
            refine c2_ 11 14 rfl rfl ?_ ?_
            · refine s_gen 0 (hc := Gfile l _ s.files (by omega) hv.files.b hv.files.ne) (hR := ?_)
              rintro r a87 ha87 ⟨x87, rfl⟩
              refine ⟨rfl, _, (by repeat constructor), ?_⟩
              refine o_ (h:=?_)
              refine c_ 14 rfl (s_alloc (by repeat constructor) ?_)
              refine o_ (h:=?_)
              refine c0_ 15 rfl (s_store rfl rfl rfl rfl rfl rfl (by repeat constructor) (by repeat constructor) ?_)
              refine o_ (h:=?_)
              refine c0_ 16 rfl (s_store rfl rfl rfl rfl rfl rfl (by repeat constructor) (by repeat constructor) ?_)
              refine o_ (h:=?_)
              refine c0_ 17 rfl (s_store rfl rfl rfl rfl rfl rfl (by repeat constructor) (by repeat constructor) ?_)
              refine o_ (h:=z_ (h:=?_))
              refine x_then ?_
              exact ⟨_, ⟨_, _, _, _, rfl⟩, wr_ [0, 1, 2, 3, 4]⟩
            · refine s_alloc (by repeat constructor) ?_
              refine o_ (h:=?_)
              refine c_ 11 rfl (s_gen 0 (hc := Gfile l _ s.files (by omega) hv.files.b hv.files.ne) (hR := ?_))
              rintro r a88 ha88 ⟨x88, rfl⟩
              refine ⟨rfl, _, (by repeat constructor), ?_⟩
              refine o_ (h:=?_)
              refine c0_ 15 rfl (s_store rfl rfl rfl rfl rfl rfl (by repeat constructor) (by repeat constructor) ?_)
              refine o_ (h:=?_)
              refine c0_ 16 rfl (s_store rfl rfl rfl rfl rfl rfl (by repeat constructor) (by repeat constructor) ?_)
              refine o_ (h:=?_)
              refine c0_ 17 rfl (s_store rfl rfl rfl rfl rfl rfl (by repeat constructor) (by repeat constructor) ?_)
              refine o_ (h:=z_ (h:=?_))
              refine x_then ?_
              exact ⟨_, ⟨_, _, _, _, rfl⟩, wr_ [0, 1, 2, 3, 4]⟩
          · refine s_alloc (by repeat constructor) ?_
            refine o_ (h:=?_)
            refine c_ 7 rfl (s_gen 0 (hc := Gfile l _ s.files (by omega) hv.files.b hv.files.ne) (hR := ?_))
            rintro r a89 ha89 ⟨x89, rfl⟩
            refine ⟨rfl, _, (by repeat constructor), ?_⟩
            refine o_ (h:=?_)
            refine c_ 11 rfl (s_gen 0 (hc := Gfile l _ s.files (by omega) hv.files.b hv.files.ne) (hR := ?_))
            rintro r a90 ha90 ⟨x90, rfl⟩
            refine ⟨rfl, _, (by repeat constructor), ?_⟩
            refine o_ (h:=?_)
            refine c0_ 15 rfl (s_store rfl rfl rfl rfl rfl rfl (by repeat constructor) (by repeat constructor) ?_)
            refine o_ (h:=?_)
            refine c0_ 16 rfl (s_store rfl rfl rfl rfl rfl rfl (by repeat constructor) (by repeat constructor) ?_)
            refine o_ (h:=?_)
            refine c0_ 17 rfl (s_store rfl rfl rfl rfl rfl rfl (by repeat constructor) (by repeat constructor) ?_)
            refine o_ (h:=z_ (h:=?_))
            refine x_then ?_
            exact ⟨_, ⟨_, _, _, _, rfl⟩, wr_ [0, 1, 2, 3, 4]⟩
        · refine s_alloc (by repeat constructor) ?_
          refine o_ (h:=?_)
          refine c_ 3 rfl (s_gen 0 (hc := Gfile l _ s.files (by omega) hv.files.b hv.files.ne) (hR := ?_))
          rintro r a91 ha91 ⟨x91, rfl⟩
          refine ⟨rfl, _, (by repeat constructor), ?_⟩
          refine o_ (h:=?_)
          refine c_ 7 rfl (s_gen 0 (hc := Gfile l _ s.files (by omega) hv.files.b hv.files.ne) (hR := ?_))
          rintro r a92 ha92 ⟨x92, rfl⟩
          refine ⟨rfl, _, (by repeat constructor), ?_⟩
          refine o_ (h:=?_)
          refine c_ 11 rfl (s_gen 0 (hc := Gfile l _ s.files (by omega) hv.files.b hv.files.ne) (hR := ?_))
          rintro r a93 ha93 ⟨x93, rfl⟩
          refine ⟨rfl, _, (by repeat constructor), ?_⟩
          refine o_ (h:=?_)
          refine c0_ 15 rfl (s_store rfl rfl rfl rfl rfl rfl (by repeat constructor) (by repeat constructor) ?_)
          refine o_ (h:=?_)
          refine c0_ 16 rfl (s_store rfl rfl rfl rfl rfl rfl (by repeat constructor) (by repeat constructor) ?_)
          refine o_ (h:=?_)
          refine c0_ 17 rfl (s_store rfl rfl rfl rfl rfl rfl (by repeat constructor) (by repeat constructor) ?_)
          refine o_ (h:=z_ (h:=?_))
          refine x_then ?_
          exact ⟨_, ⟨_, _, _, _, rfl⟩, wr_ [0, 1, 2, 3, 4]⟩
      · refine s_alloc (by repeat constructor) ?_
        refine o_ (h:=?_)
        refine c2_ 3 13 rfl rfl ?_ ?_
        · refine s_gen 0 (hc := Gfile l _ s.files (by omega) hv.files.b hv.files.ne) (hR := ?_)
          rintro r a94 ha94 ⟨x94, rfl⟩
          refine ⟨rfl, _, (by repeat constructor), ?_⟩
          refine o_ (h:=?_)
          refine c2_ 7 13 rfl rfl ?_ ?_
          · refine s_gen 0 (hc := Gfile l _ s.files (by omega) hv.files.b hv.files.ne) (hR := ?_)
            rintro r a95 ha95 ⟨x95, rfl⟩
            refine ⟨rfl, _, (by repeat constructor), ?_⟩
            refine o_ (h:=?_)
            refine c2_ 11 13 rfl rfl ?_ ?_
            · refine s_gen 0 (hc := Gfile l _ s.files (by omega) hv.files.b hv.files.ne) (hR := ?_)
              rintro r a96 ha96 ⟨x96, rfl⟩
              refine ⟨rfl, _, (by repeat constructor), ?_⟩
              refine o_ (h:=?_)
              refine c_ 13 rfl (s_alloc (by repeat constructor) ?_)
              refine o_ (h:=?_)
              refine c0_ 15 rfl (s_store rfl rfl rfl rfl rfl rfl (by repeat constructor) (by repeat constructor) ?_)
              refine o_ (h:=?_)
              refine c0_ 16 rfl (s_store rfl rfl rfl rfl rfl rfl (by repeat constructor) (by repeat constructor) ?_)
              refine o_ (h:=?_)
              refine c0_ 17 rfl (s_store rfl rfl rfl rfl rfl rfl (by repeat constructor) (by repeat constructor) ?_)
              refine o_ (h:=z_ (h:=?_))
              refine x_then ?_
              exact ⟨_, ⟨_, _, _, _, rfl⟩, wr_ [0, 1, 2, 4, 3]⟩
            · refine s_alloc (by repeat constructor) ?_
              refine o_ (h:=?_)
              refine c_ 11 rfl (s_gen 0 (hc := Gfile l _ s.files (by omega) hv.files.b hv.files.ne) (hR := ?_))
              rintro r a97 ha97 ⟨x97, rfl⟩
              refine ⟨rfl, _, (by repeat constructor), ?_⟩
              refine o_ (h:=?_)
              refine c0_ 15 rfl (s_store rfl rfl rfl rfl rfl rfl (by repeat constructor) (by repeat constructor) ?_)
              refine o_ (h:=?_)
              refine c0_ 16 rfl (s_store rfl rfl rfl rfl rfl rfl (by repeat constructor) (by repeat constructor) ?_)
              refine o_ (h:=?_)
              refine c0_ 17 rfl (s_store rfl rfl rfl rfl rfl rfl (by repeat constructor) (by repeat constructor) ?_)
              refine o_ (h:=z_ (h:=?_))
              refine x_then ?_
              exact ⟨_, ⟨_, _, _, _, rfl⟩, wr_ [0, 1, 2, 4, 3]⟩
          · refine s_alloc (by repeat constructor) ?_
            refine o_ (h:=?_)
            refine c_ 7 rfl (s_gen 0 (hc := Gfile l _ s.files (by omega) hv.files.b hv.files.ne) (hR := ?_))
            rintro r a98 ha98 ⟨x98, rfl⟩
            refine ⟨rfl, _, (by repeat constructor), ?_⟩
            refine o_ (h:=?_)
            refine c_ 11 rfl (s_gen 0 (hc := Gfile l _ s.files (by omega) hv.files.b hv.files.ne) (hR := ?_))
            rintro r a99 ha99 ⟨x99, rfl⟩
            refine ⟨rfl, _, (by repeat constructor), ?_⟩
            refine o_ (h:=?_)
            refine c0_ 15 rfl (s_store rfl rfl rfl rfl rfl rfl (by repeat constructor) (by repeat constructor) ?_)
            refine o_ (h:=?_)
            refine c0_ 16 rfl (s_store rfl rfl rfl rfl rfl rfl (by repeat constructor) (by repeat constructor) ?_)
            refine o_ (h:=?_)
            refine c0_ 17 rfl (s_store rfl rfl rfl rfl rfl rfl (by repeat constructor) (by repeat constructor) ?_)
            refine o_ (h:=z_ (h:=?_))
            refine x_then ?_
            exact ⟨_, ⟨_, _, _, _, rfl⟩, wr_ [0, 1, 2, 4, 3]⟩
        · refine s_alloc (by repeat constructor) ?_
          refine o_ (h:=?_)
          refine c_ 3 rfl (s_gen 0 (hc := Gfile l _ s.files (by omega) hv.files.b hv.files.ne) (hR := ?_))
          rintro r a100 ha100 ⟨x100, rfl⟩
          refine ⟨rfl, _, (by repeat constructor), ?_⟩
          refine o_ (h:=?_)
          refine c_ 7 rfl (s_gen 0 (hc := Gfile l _ s.files (by omega) hv.files.b hv.files.ne) (hR := ?_))
          rintro r a101 ha101 ⟨x101, rfl⟩
          refine ⟨rfl, _, (by repeat constructor), ?_⟩
          refine o_ (h:=?_)
          refine c_ 11 rfl (s_gen 0 (hc := Gfile l _ s.files (by omega) hv.files.b hv.files.ne) (hR := ?_))
          rintro r a102 ha102 ⟨x102, rfl⟩
          refine ⟨rfl, _, (by repeat constructor), ?_⟩
          refine o_ (h:=?_)
          refine c0_ 15 rfl (s_store rfl rfl rfl rfl rfl rfl (by repeat constructor) (by repeat constructor) ?_)
          refine o_ (h:=?_)
          refine c0_ 16 rfl (s_store rfl rfl rfl rfl rfl rfl (by repeat constructor) (by repeat constructor) ?_)
          refine o_ (h:=?_)
          refine c0_ 17 rfl (s_store rfl rfl rfl rfl rfl rfl (by repeat constructor) (by repeat constructor) ?_)
          refine o_ (h:=z_ (h:=?_))
          refine x_then ?_
          exact ⟨_, ⟨_, _, _, _, rfl⟩, wr_ [0, 1, 2, 4, 3]⟩
    · refine s_alloc (by repeat constructor) ?_
      refine o_ (h:=?_)
      refine cm_ 3 (ao_ 3 rfl ?_ (ao_ 12 rfl ?_ (ao_ 14 rfl ?_ ao_n)))
      · refine s_gen 0 (hc := Gfile l _ s.files (by omega) hv.files.b hv.files.ne) (hR := ?_)
        rintro r a103 ha103 ⟨x103, rfl⟩
        refine ⟨rfl, _, (by repeat constructor), ?_⟩
        refine o_ (h:=?_)
        refine cm_ 7 (ao_ 7 rfl ?_ (ao_ 12 rfl ?_ (ao_ 14 rfl ?_ ao_n)))
        · refine s_gen 0 (hc := Gfile l _ s.files (by omega) hv.files.b hv.files.ne) (hR := ?_)
          rintro r a104 ha104 ⟨x104, rfl⟩
          refine ⟨rfl, _, (by repeat constructor), ?_⟩
          refine o_ (h:=?_)
          refine cm_ 11 (ao_ 11 rfl ?_ (ao_ 12 rfl ?_ (ao_ 14 rfl ?_ ao_n)))
          · refine s_gen 0 (hc := Gfile l _ s.files (by omega) hv.files.b hv.files.ne) (hR := ?_)
            rintro r a105 ha105 ⟨x105, rfl⟩
            refine ⟨rfl, _, (by repeat constructor), ?_⟩
            refine o_ (h:=?_)
            refine c2_ 12 14 rfl rfl ?_ ?_
            · refine s_alloc (by repeat constructor) ?_
              refine o_ (h:=?_)
              refine c_ 14 rfl (s_alloc (by repeat constructor) ?_)
              refine o_ (h:=?_)
              refine c0_ 15 rfl (s_store rfl rfl rfl rfl rfl rfl (by repeat constructor) (by repeat constructor) ?_)
              refine o_ (h:=?_)
              refine c0_ 16 rfl (s_store rfl rfl rfl rfl rfl rfl (by repeat constructor) (by repeat constructor) ?_)
              refine o_ (h:=?_)
              refine c0_ 17 rfl (s_store rfl rfl rfl rfl rfl rfl (by repeat constructor) (by repeat constructor) ?_)
              refine o_ (h:=z_ (h:=?_))
              refine x_then ?_
              exact ⟨_, ⟨_, _, _, _, rfl⟩, wr_ [0, 1, 3, 2, 4]⟩
            · refine s_alloc (by repeat constructor) ?_
              refine o_ (h:=?_)
              refine c_ 12 rfl (s_alloc (by repeat constructor) ?_)
              refine o_ (h:=?_)
              refine c0_ 15 rfl (s_store rfl rfl rfl rfl rfl rfl (by repeat constructor) (by repeat constructor) ?_)
              refine o_ (h:=?_)
              refine c0_ 16 rfl (s_store rfl rfl rfl rfl rfl rfl (by repeat constructor) (by repeat constructor) ?_)
              refine o_ (h:=?_)
              refine c0_ 17 rfl (s_store rfl rfl rfl rfl rfl rfl (by repeat constructor) (by repeat constructor) ?_)
              refine o_ (h:=z_ (h:=?_))
              refine x_then ?_
              exact ⟨_, ⟨_, _, _, _, rfl⟩, wr_ [0, 1, 4, 2, 3]⟩
          · refine s_alloc (by repeat constructor) ?_
            refine o_ (h:=?_)
            refine c2_ 11 14 rfl rfl ?_ ?_
            · refine s_gen 0 (hc := Gfile l _ s.files (by omega) hv.files.b hv.files.ne) (hR := ?_)
              rintro r a106 ha106 ⟨x106, rfl⟩
              refine ⟨rfl, _, (by repeat constructor), ?_⟩
              refine o_ (h:=?_)
              refine c_ 14 rfl (s_alloc (by repeat constructor) ?_)
              refine o_ (h:=?_)
              refine c0_ 15 rfl (s_store rfl rfl rfl rfl rfl rfl (by repeat constructor) (by repeat constructor) ?_)
              refine o_ (h:=?_)
              refine c0_ 16 rfl (s_store rfl rfl rfl rfl rfl rfl (by repeat constructor) (by repeat constructor) ?_)
              refine o_ (h:=?_)
              refine c0_ 17 rfl (s_store rfl rfl rfl rfl rfl rfl (by repeat constructor) (by repeat constructor) ?_)
              refine o_ (h:=z_ (h:=?_))
              refine x_then ?_
              exact ⟨_, ⟨_, _, _, _, rfl⟩, wr_ [0, 1, 3, 2, 4]⟩
            · refine s_alloc (by repeat constructor) ?_
              refine o_ (h:=?_)
              refine c_ 11 rfl (s_gen 0 (hc := Gfile l _ s.files (by omega) hv.files.b hv.files.ne) (hR := ?_))
              rintro r a107 ha107 ⟨x107, rfl⟩
              refine ⟨rfl, _, (by repeat constructor), ?_⟩
              refine o_ (h:=?_)
              refine c0_ 15 rfl (s_store rfl rfl rfl rfl rfl rfl (by repeat constructor) (by repeat constructor) ?_)
              refine o_ (h:=?_)
              refine c0_ 16 rfl (s_store rfl rfl rfl rfl rfl rfl (by repeat constructor) (by repeat constructor) ?_)
              refine o_ (h:=?_)
              refine c0_ 17 rfl (s_store rfl rfl rfl rfl rfl rfl (by repeat constructor) (by repeat constructor) ?_)
              refine o_ (h:=z_ (h:=?_))
              refine x_then ?_
              exact ⟨_, ⟨_, _, _, _, rfl⟩, wr_ [0, 1, 3, 2, 4]⟩
          · refine s_alloc (by repeat constructor) ?_
            refine o_ (h:=?_)
            refine c2_ 11 12 rfl rfl ?_ ?_
            · refine s_gen 0 (hc := Gfile l _ s.files (by omega) hv.files.b hv.files.ne) (hR := ?_)
              rintro r a108 ha108 ⟨x108, rfl⟩
              refine ⟨rfl, _, (by repeat constructor), ?_⟩
              refine o_ (h:=?_)
              refine c_ 12 rfl (s_alloc (by repeat constructor) ?_)
              refine o_ (h:=?_)
              refine c0_ 15 rfl (s_store rfl rfl rfl rfl rfl rfl (by repeat constructor) (by repeat constructor) ?_)
              refine o_ (h:=?_)
              refine c0_ 16 rfl (s_store rfl rfl rfl rfl rfl rfl (by repeat constructor) (by repeat constructor) ?_)
              refine o_ (h:=?_)
              refine c0_ 17 rfl (s_store rfl rfl rfl rfl rfl rfl (by repeat constructor) (by repeat constructor) ?_)
              refine o_ (h:=z_ (h:=?_))
              refine x_then ?_
              exact ⟨_, ⟨_, _, _, _, rfl⟩, wr_ [0, 1, 4, 2, 3]⟩
            · refine s_alloc (by repeat constructor) ?_
              refine o_ (h:=?_)
              refine c_ 11 rfl (s_gen 0 (hc := Gfile l _ s.files (by omega) hv.files.b hv.files.ne) (hR := ?_))
              rintro r a109 ha109 ⟨x109, rfl⟩
              refine ⟨rfl, _, (by repeat constructor), ?_⟩
              refine o_ (h:=?_)
              refine c0_ 15 rfl (s_store rfl rfl rfl rfl rfl rfl (by repeat constructor) (by repeat constructor) ?_)
              refine o_ (h:=?_)
              refine c0_ 16 rfl (s_store rfl rfl rfl rfl rfl rfl (by repeat constructor) (by repeat constructor) ?_)
              refine o_ (h:=?_)
              refine c0_ 17 rfl (s_store rfl rfl rfl rfl rfl rfl (by repeat constructor) (by repeat constructor) ?_)
              refine o_ (h:=z_ (h:=?_))
              refine x_then ?_
              exact ⟨_, ⟨_, _, _, _, rfl⟩, wr_ [0, 1, 4, 2, 3]⟩
        · refine s_alloc (by repeat constructor) ?_
          refine o_ (h:=?_)
          refine c2_ 7 14 rfl rfl ?_ ?_
          · refine s_gen 0 (hc := Gfile l _ s.files (by omega) hv.files.b hv.files.ne) (hR := ?_)
            rintro r a110 ha110 ⟨x110, rfl⟩
            refine ⟨rfl, _, (by repeat constructor), ?_⟩
            refine o_ (h:=?_)
            refine c2_ 11 14 rfl rfl ?_ ?_
            · refine s_gen 0 (hc := Gfile l _ s.files (by omega) hv.files.b hv.files.ne) (hR := ?_)
              rintro r a111 ha111 ⟨x111, rfl⟩
              refine ⟨rfl, _, (by repeat constructor), ?_⟩
              refine o_ (h:=?_)
              refine c_ 14 rfl (s_alloc (by repeat constructor) ?_)
              refine o_ (h:=?_)
              refine c0_ 15 rfl (s_store rfl rfl rfl rfl rfl rfl (by repeat constructor) (by repeat constructor) ?_)
              refine o_ (h:=?_)
              refine c0_ 16 rfl (s_store rfl rfl rfl rfl rfl rfl (by repeat constructor) (by repeat constructor) ?_)
              refine o_ (h:=?_)
              refine c0_ 17 rfl (s_store rfl rfl rfl rfl rfl rfl (by repeat constructor) (by repeat constructor) ?_)
              refine o_ (h:=z_ (h:=?_))
              refine x_then ?_
              exact ⟨_, ⟨_, _, _, _, rfl⟩, wr_ [0, 1, 3, 2, 4]⟩
            · refine s_alloc (by repeat constructor) ?_
              refine o_ (h:=?_)
              refine c_ 11 rfl (s_gen 0 (hc := Gfile l _ s.files (by omega) hv.files.b hv.files.ne) (hR := ?_))
              rintro r a112 ha112 ⟨x112, rfl⟩
              refine ⟨rfl, _, (by repeat constructor), ?_⟩
              refine o_ (h:=?_)
              refine c0_ 15 rfl (s_store rfl rfl rfl rfl rfl rfl (by repeat constructor) (by repeat constructor) ?_)
              refine o_ (h:=?_)
              refine c0_ 16 rfl (s_store rfl rfl rfl rfl rfl rfl (by repeat constructor) (by repeat constructor) ?_)
              refine o_ (h:=?_)
              refine c0_ 17 rfl (s_store rfl rfl rfl rfl rfl rfl (by repeat constructor) (by repeat constructor) ?_)
              refine o_ (h:=z_ (h:=?_))
              refine x_then ?_
              exact ⟨_, ⟨_, _, _, _, rfl⟩, wr_ [0, 1, 3, 2, 4]⟩
          · refine s_alloc (by repeat constructor) ?_
            refine o_ (h:=?_)
            refine c_ 7 rfl (s_gen 0 (hc := Gfile l _ s.files (by omega) hv.files.b hv.files.ne) (hR := ?_))
            rintro r a113 ha113 ⟨x113, rfl⟩
            refine ⟨rfl, _, (by repeat constructor), ?_⟩
            refine o_ (h:=?_)
            refine c_ 11 rfl (s_gen 0 (hc := Gfile l _ s.files (by omega) hv.files.b hv.files.ne) (hR := ?_))
            rintro r a114 ha114 ⟨x114, rfl⟩
            refine ⟨rfl, _, (by repeat constructor), ?_⟩
            refine o_ (h:=?_)
            refine c0_ 15 rfl (s_store rfl rfl rfl rfl rfl rfl (by repeat constructor) (by repeat constructor) ?_)
            refine o_ (h:=?_)
            refine c0_ 16 rfl (s_store rfl rfl rfl rfl rfl rfl (by repeat constructor) (by repeat constructor) ?_)
            refine o_ (h:=?_)
            refine c0_ 17 rfl (s_store rfl rfl rfl rfl rfl rfl (by repeat constructor) (by repeat constructor) ?_)
            refine o_ (h:=z_ (h:=?_))
            refine x_then ?_
            exact ⟨_, ⟨_, _, _, _, rfl⟩, wr_ [0, 1, 3, 2, 4]⟩
        · refine s_alloc (by repeat constructor) ?_
          refine o_ (h:=?_)
          refine c2_ 7 12 rfl rfl ?_ ?_
          · refine s_gen 0 (hc := Gfile l _ s.files (by omega) hv.files.b hv.files.ne) (hR := ?_)
            rintro r a115 ha115 ⟨x115, rfl⟩
            refine ⟨rfl, _, (by repeat constructor), ?_⟩
            refine o_ (h:=?_)
            refine c2_ 11 12 rfl rfl ?_ ?_
            · refine s_gen 0 (hc := Gfile l _ s.files (by omega) hv.files.b hv.files.ne) (hR := ?_)
              rintro r a116 ha116 ⟨x116, rfl⟩
              refine ⟨rfl, _, (by repeat constructor), ?_⟩
              refine o_ (h:=?_)
              refine c_ 12 rfl (s_alloc (by repeat constructor) ?_)
              refine o_ (h:=?_)
              refine c0_ 15 rfl (s_store rfl rfl rfl rfl rfl rfl (by repeat constructor) (by repeat constructor) ?_)
              refine o_ (h:=?_)
              refine c0_ 16 rfl (s_store rfl rfl rfl rfl rfl rfl (by repeat constructor) (by repeat constructor) ?_)
              refine o_ (h:=?_)
              refine c0_ 17 rfl (s_store rfl rfl rfl rfl rfl rfl (by repeat constructor) (by repeat constructor) ?_)
              refine o_ (h:=z_ (h:=?_))
              refine x_then ?_
              exact ⟨_, ⟨_, _, _, _, rfl⟩, wr_ [0, 1, 4, 2, 3]⟩
            · refine s_alloc (by repeat constructor) ?_
              refine o_ (h:=?_)
              refine c_ 11 rfl (s_gen 0 (hc := Gfile l _ s.files (by omega) hv.files.b hv.files.ne) (hR := ?_))
              rintro r a117 ha117 ⟨x117, rfl⟩
              refine ⟨rfl, _, (by repeat constructor), ?_⟩
              refine o_ (h:=?_)
              refine c0_ 15 rfl (s_store rfl rfl rfl rfl rfl rfl (by repeat constructor) (by repeat constructor) ?_)
              refine o_ (h:=?_)
              refine c0_ 16 rfl (s_store rfl rfl rfl rfl rfl rfl (by repeat constructor) (by repeat constructor) ?_)
              refine o_ (h:=?_)
              refine c0_ 17 rfl (s_store rfl rfl rfl rfl rfl rfl (by repeat constructor) (by repeat constructor) ?_)
              refine o_ (h:=z_ (h:=?_))
              refine x_then ?_
              exact ⟨_, ⟨_, _, _, _, rfl⟩, wr_ [0, 1, 4, 2, 3]⟩
          · refine s_alloc (by repeat constructor) ?_
            refine o_ (h:=?_)
            refine c_ 7 rfl (s_gen 0 (hc := Gfile l _ s.files (by omega) hv.files.b hv.files.ne) (hR := ?_))
            rintro r a118 ha118 ⟨x118, rfl⟩
            refine ⟨rfl, _, (by repeat constructor), ?_⟩
            refine o_ (h:=?_)
            refine c_ 11 rfl (s_gen 0 (hc := Gfile l _ s.files (by omega) hv.files.b hv.files.ne) (hR := ?_))
            rintro r a119 ha119 ⟨x119, rfl⟩
            refine ⟨rfl, _, (by repeat constructor), ?_⟩
            refine o_ (h:=?_)
            refine c0_ 15 rfl (s_store rfl rfl rfl rfl rfl rfl (by repeat constructor) (by repeat constructor) ?_)
            refine o_ (h:=?_)
            refine c0_ 16 rfl (s_store rfl rfl rfl rfl rfl rfl (by repeat constructor) (by repeat constructor) ?_)
            refine o_ (h:=?_)
            refine c0_ 17 rfl (s_store rfl rfl rfl rfl rfl rfl (by repeat constructor) (by repeat constructor) ?_)
            refine o_ (h:=z_ (h:=?_))
            refine x_then ?_
            exact ⟨_, ⟨_, _, _, _, rfl⟩, wr_ [0, 1, 4, 2, 3]⟩
      · refine s_alloc (by repeat constructor) ?_
        refine o_ (h:=?_)
        refine c2_ 3 14 rfl rfl ?_ ?_
        · refine s_gen 0 (hc := Gfile l _ s.files (by omega) hv.files.b hv.files.ne) (hR := ?_)
          rintro r a120 ha120 ⟨x120, rfl⟩
          refine ⟨rfl, _, (by repeat constructor), ?_⟩
          refine o_ (h:=?_)
          refine c2_ 7 14 rfl rfl ?_ ?_
          · refine s_gen 0 (hc := Gfile l _ s.files (by omega) hv.files.b hv.files.ne) (hR := ?_)
            rintro r a121 ha121 ⟨x121, rfl⟩
            refine ⟨rfl, _, (by repeat constructor), ?_⟩
            refine o_ (h:=?_)
            refine c2_ 11 14 rfl rfl ?_ ?_
            · refine s_gen 0 (hc := Gfile l _ s.files (by omega) hv.files.b hv.files.ne) (hR := ?_)
              rintro r a122 ha122 ⟨x122, rfl⟩
              refine ⟨rfl, _, (by repeat constructor), ?_⟩
              refine o_ (h:=?_)
              refine c_ 14 rfl (s_alloc (by repeat constructor) ?_)
              refine o_ (h:=?_)
              refine c0_ 15 rfl (s_store rfl rfl rfl rfl rfl rfl (by repeat constructor) (by repeat constructor) ?_)
              refine o_ (h:=?_)
              refine c0_ 16 rfl (s_store rfl rfl rfl rfl rfl rfl (by repeat constructor) (by repeat constructor) ?_)
              refine o_ (h:=?_)
              refine c0_ 17 rfl (s_store rfl rfl rfl rfl rfl rfl (by repeat constructor) (by repeat constructor) ?_)
              refine o_ (h:=z_ (h:=?_))
              refine x_then ?_
              exact ⟨_, ⟨_, _, _, _, rfl⟩, wr_ [0, 1, 3, 2, 4]⟩
            · refine s_alloc (by repeat constructor) ?_
              refine o_ (h:=?_)
              refine c_ 11 rfl (s_gen 0 (hc := Gfile l _ s.files (by omega) hv.files.b hv.files.ne) (hR := ?_))
              rintro r a123 ha123 ⟨x123, rfl⟩
              refine ⟨rfl, _, (by repeat constructor), ?_⟩
              refine o_ (h:=?_)
              refine c0_ 15 rfl (s_store rfl rfl rfl rfl rfl rfl (by repeat constructor) (by repeat constructor) ?_)
              refine o_ (h:=?_)
              refine c0_ 16 rfl (s_store rfl rfl rfl rfl rfl rfl (by repeat constructor) (by repeat constructor) ?_)
              refine o_ (h:=?_)
              refine c0_ 17 rfl (s_store rfl rfl rfl rfl rfl rfl (by repeat constructor) (by repeat constructor) ?_)
              refine o_ (h:=z_ (h:=?_))
              refine x_then ?_
              exact ⟨_, ⟨_, _, _, _, rfl⟩, wr_ [0, 1, 3, 2, 4]⟩
          · refine s_alloc (by repeat constructor) ?_
            refine o_ (h:=?_)
            refine c_ 7 rfl (s_gen 0 (hc := Gfile l _ s.files (by omega) hv.files.b hv.files.ne) (hR := ?_))
            rintro r a124 ha124 ⟨x124, rfl⟩
            refine ⟨rfl, _, (by repeat constructor), ?_⟩
            refine o_ (h:=?_)
            refine c_ 11 rfl (s_gen 0 (hc := Gfile l _ s.files (by omega) hv.files.b hv.files.ne) (hR := ?_))
            rintro r a125 ha125 ⟨x125, rfl⟩
            refine ⟨rfl, _, (by repeat constructor), ?_⟩
            refine o_ (h:=?_)
            refine c0_ 15 rfl (s_store rfl rfl rfl rfl rfl rfl (by repeat constructor) (by repeat constructor) ?_)
            refine o_ (h:=?_)
            refine c0_ 16 rfl (s_store rfl rfl rfl rfl rfl rfl (by repeat constructor) (by repeat constructor) ?_)
            refine o_ (h:=?_)
            refine c0_ 17 rfl (s_store rfl rfl rfl rfl rfl rfl (by repeat constructor) (by repeat constructor) ?_)
            refine o_ (h:=z_ (h:=?_))
            refine x_then ?_
            exact ⟨_, ⟨_, _, _, _, rfl⟩, wr_ [0, 1, 3, 2, 4]⟩
        · refine s_alloc (by repeat constructor) ?_
          refine o_ (h:=?_)
          refine c_ 3 rfl (s_gen 0 (hc := Gfile l _ s.files (by omega) hv.files.b hv.files.ne) (hR := ?_))
          rintro r a126 ha126 ⟨x126, rfl⟩
          refine ⟨rfl, _, (by repeat constructor), ?_⟩
          refine o_ (h:=?_)
          refine c_ 7 rfl (s_gen 0 (hc := Gfile l _ s.files (by omega) hv.files.b hv.files.ne) (hR := ?_))
          rintro r a127 ha127 ⟨x127, rfl⟩
          refine ⟨rfl, _, (by repeat constructor), ?_⟩
          refine o_ (h:=?_)
          refine c_ 11 rfl (s_gen 0 (hc := Gfile l _ s.files (by omega) hv.files.b hv.files.ne) (hR := ?_))
          rintro r a128 ha128 ⟨x128, rfl⟩
          refine ⟨rfl, _, (by repeat constructor), ?_⟩
          refine o_ (h:=?_)
          refine c0_ 15 rfl (s_store rfl rfl rfl rfl rfl rfl (by repeat constructor) (by repeat constructor) ?_)
          refine o_ (h:=?_)
          refine c0_ 16 rfl (s_store rfl rfl rfl rfl rfl rfl (by repeat constructor) (by repeat constructor) ?_)
          refine o_ (h:=?_)
          refine c0_ 17 rfl (s_store rfl rfl rfl rfl rfl rfl (by repeat constructor) (by repeat constructor) ?_)
          refine o_ (h:=z_ (h:=?_))
          refine x_then ?_
          exact ⟨_, ⟨_, _, _, _, rfl⟩, wr_ [0, 1, 3, 2, 4]⟩
      · refine s_alloc (by repeat constructor) ?_
        refine o_ (h:=?_)
        refine c2_ 3 12 rfl rfl ?_ ?_
        · refine s_gen 0 (hc := Gfile l _ s.files (by omega) hv.files.b hv.files.ne) (hR := ?_)
          rintro r a129 ha129 ⟨x129, rfl⟩
          refine ⟨rfl, _, (by repeat constructor), ?_⟩
          refine o_ (h:=?_)
          refine c2_ 7 12 rfl rfl ?_ ?_
          · refine s_gen 0 (hc := Gfile l _ s.files (by omega) hv.files.b hv.files.ne) (hR := ?_)
            rintro r a130 ha130 ⟨x130, rfl⟩
            refine ⟨rfl, _, (by repeat constructor), ?_⟩
            refine o_ (h:=?_)
            refine c2_ 11 12 rfl rfl ?_ ?_
            · refine s_gen 0 (hc := Gfile l _ s.files (by omega) hv.files.b hv.files.ne) (hR := ?_)
              rintro r a131 ha131 ⟨x131, rfl⟩
              refine ⟨rfl, _, (by repeat constructor), ?_⟩
              refine o_ (h:=?_)
              refine c_ 12 rfl (s_alloc (by repeat constructor) ?_)
              refine o_ (h:=?_)
              refine c0_ 15 rfl (s_store rfl rfl rfl rfl rfl rfl (by repeat constructor) (by repeat constructor) ?_)
              refine o_ (h:=?_)
              refine c0_ 16 rfl (s_store rfl rfl rfl rfl rfl rfl (by repeat constructor) (by repeat constructor) ?_)
              refine o_ (h:=?_)
              refine c0_ 17 rfl (s_store rfl rfl rfl rfl rfl rfl (by repeat constructor) (by repeat constructor) ?_)
              refine o_ (h:=z_ (h:=?_))
              refine x_then ?_
              exact ⟨_, ⟨_, _, _, _, rfl⟩, wr_ [0, 1, 4, 2, 3]⟩
            · refine s_alloc (by repeat constructor) ?_
              refine o_ (h:=?_)
              refine c_ 11 rfl (s_gen 0 (hc := Gfile l _ s.files (by omega) hv.files.b hv.files.ne) (hR := ?_))
              rintro r a132 ha132 ⟨x132, rfl⟩
              refine ⟨rfl, _, (by repeat constructor), ?_⟩
              refine o_ (h:=?_)
              refine c0_ 15 rfl (s_store rfl rfl rfl rfl rfl rfl (by repeat constructor) (by repeat constructor) ?_)
              refine o_ (h:=?_)
              refine c0_ 16 rfl (s_store rfl rfl rfl rfl rfl rfl (by repeat constructor) (by repeat constructor) ?_)
              refine o_ (h:=?_)
              refine c0_ 17 rfl (s_store rfl rfl rfl rfl rfl rfl (by repeat constructor) (by repeat constructor) ?_)
              refine o_ (h:=z_ (h:=?_))
              refine x_then ?_
              exact ⟨_, ⟨_, _, _, _, rfl⟩, wr_ [0, 1, 4, 2, 3]⟩
          · refine s_alloc (by repeat constructor) ?_
            refine o_ (h:=?_)
            refine c_ 7 rfl (s_gen 0 (hc := Gfile l _ s.files (by omega) hv.files.b hv.files.ne) (hR := ?_))
            rintro r a133 ha133 ⟨x133, rfl⟩
            refine ⟨rfl, _, (by repeat constructor), ?_⟩
            refine o_ (h:=?_)
            refine c_ 11 rfl (s_gen 0 (hc := Gfile l _ s.files (by omega) hv.files.b hv.files.ne) (hR := ?_))
            rintro r a134 ha134 ⟨x134, rfl⟩
            refine ⟨rfl, _, (by repeat constructor), ?_⟩
            refine o_ (h:=?_)
            refine c0_ 15 rfl (s_store rfl rfl rfl rfl rfl rfl (by repeat constructor) (by repeat constructor) ?_)
            refine o_ (h:=?_)
            refine c0_ 16 rfl (s_store rfl rfl rfl rfl rfl rfl (by repeat constructor) (by repeat constructor) ?_)
            refine o_ (h:=?_)
            refine c0_ 17 rfl (s_store rfl rfl rfl rfl rfl rfl (by repeat constructor) (by repeat constructor) ?_)
            refine o_ (h:=z_ (h:=?_))
            refine x_then ?_
            exact ⟨_, ⟨_, _, _, _, rfl⟩, wr_ [0, 1, 4, 2, 3]⟩
        · refine s_alloc (by repeat constructor) ?_
          refine o_ (h:=?_)
          refine c_ 3 rfl (s_gen 0 (hc := Gfile l _ s.files (by omega) hv.files.b hv.files.ne) (hR := ?_))
          rintro r a135 ha135 ⟨x135, rfl⟩
          refine ⟨rfl, _, (by repeat constructor), ?_⟩
          refine o_ (h:=?_)
          refine c_ 7 rfl (s_gen 0 (hc := Gfile l _ s.files (by omega) hv.files.b hv.files.ne) (hR := ?_))
          rintro r a136 ha136 ⟨x136, rfl⟩
          refine ⟨rfl, _, (by repeat constructor), ?_⟩
          refine o_ (h:=?_)
          refine c_ 11 rfl (s_gen 0 (hc := Gfile l _ s.files (by omega) hv.files.b hv.files.ne) (hR := ?_))
          rintro r a137 ha137 ⟨x137, rfl⟩
          refine ⟨rfl, _, (by repeat constructor), ?_⟩
          refine o_ (h:=?_)
          refine c0_ 15 rfl (s_store rfl rfl rfl rfl rfl rfl (by repeat constructor) (by repeat constructor) ?_)
          refine o_ (h:=?_)
          refine c0_ 16 rfl (s_store rfl rfl rfl rfl rfl rfl (by repeat constructor) (by repeat constructor) ?_)
          refine o_ (h:=?_)
          refine c0_ 17 rfl (s_store rfl rfl rfl rfl rfl rfl (by repeat constructor) (by repeat constructor) ?_)
          refine o_ (h:=z_ (h:=?_))
          refine x_then ?_
          exact ⟨_, ⟨_, _, _, _, rfl⟩, wr_ [0, 1, 4, 2, 3]⟩
    · refine s_alloc (by repeat constructor) ?_
      refine o_ (h:=?_)
      refine cm_ 3 (ao_ 3 rfl ?_ (ao_ 12 rfl ?_ (ao_ 13 rfl ?_ ao_n)))
      · refine s_gen 0 (hc := Gfile l _ s.files (by omega) hv.files.b hv.files.ne) (hR := ?_)
        rintro r a138 ha138 ⟨x138, rfl⟩
        refine ⟨rfl, _, (by repeat constructor), ?_⟩
        refine o_ (h:=?_)
        refine cm_ 7 (ao_ 7 rfl ?_ (ao_ 12 rfl ?_ (ao_ 13 rfl ?_ ao_n)))
        · refine s_gen 0 (hc := Gfile l _ s.files (by omega) hv.files.b hv.files.ne) (hR := ?_)
          rintro r a139 ha139 ⟨x139, rfl⟩
          refine ⟨rfl, _, (by repeat constructor), ?_⟩
          refine o_ (h:=?_)
          refine cm_ 11 (ao_ 11 rfl ?_ (ao_ 12 rfl ?_ (ao_ 13 rfl ?_ ao_n)))
          · refine s_gen 0 (hc := Gfile l _ s.files (by omega) hv.files.b hv.files.ne) (hR := ?_)
            rintro r a140 ha140 ⟨x140, rfl⟩
            refine ⟨rfl, _, (by repeat constructor), ?_⟩
            refine o_ (h:=?_)
            refine c2_ 12 13 rfl rfl ?_ ?_
            · refine s_alloc (by repeat constructor) ?_
              refine o_ (h:=?_)
              refine c_ 13 rfl (s_alloc (by repeat constructor) ?_)
              refine o_ (h:=?_)
              refine c0_ 15 rfl (s_store rfl rfl rfl rfl rfl rfl (by repeat constructor) (by repeat constructor) ?_)
              refine o_ (h:=?_)
              refine c0_ 16 rfl (s_store rfl rfl rfl rfl rfl rfl (by repeat constructor) (by repeat constructor) ?_)
              refine o_ (h:=?_)
              refine c0_ 17 rfl (s_store rfl rfl rfl rfl rfl rfl (by repeat constructor) (by repeat constructor) ?_)
              refine o_ (h:=z_ (h:=?_))
              refine x_then ?_
              exact ⟨_, ⟨_, _, _, _, rfl⟩, wr_ [0, 1, 3, 4, 2]⟩
            · refine s_alloc (by repeat constructor) ?_
              refine o_ (h:=?_)
              refine c_ 12 rfl (s_alloc (by repeat constructor) ?_)
              refine o_ (h:=?_)
              refine c0_ 15 rfl (s_store rfl rfl rfl rfl rfl rfl (by repeat constructor) (by repeat constructor) ?_)
              refine o_ (h:=?_)
              refine c0_ 16 rfl (s_store rfl rfl rfl rfl rfl rfl (by repeat constructor) (by repeat constructor) ?_)
              refine o_ (h:=?_)
              refine c0_ 17 rfl (s_store rfl rfl rfl rfl rfl rfl (by repeat constructor) (by repeat constructor) ?_)
              refine o_ (h:=z_ (h:=?_))
              refine x_then ?_
              exact ⟨_, ⟨_, _, _, _, rfl⟩, wr_ [0, 1, 4, 3, 2]⟩
          · refine s_alloc (by repeat constructor) ?_
            refine o_ (h:=?_)
            refine c2_ 11 13 rfl rfl ?_ ?_
            · refine s_gen 0 (hc := Gfile l _ s.files (by omega) hv.files.b hv.files.ne) (hR := ?_)
              rintro r a141 ha141 ⟨x141, rfl⟩
              refine ⟨rfl, _, (by repeat constructor), ?_⟩
              refine o_ (h:=?_)
              refine c_ 13 rfl (s_alloc (by repeat constructor) ?_)
              refine o_ (h:=?_)
              refine c0_ 15 rfl (s_store rfl rfl rfl rfl rfl rfl (by repeat constructor) (by repeat constructor) ?_)
              refine o_ (h:=?_)
              refine c0_ 16 rfl (s_store rfl rfl rfl rfl rfl rfl (by repeat constructor) (by repeat constructor) ?_)
              refine o_ (h:=?_)
              refine c0_ 17 rfl (s_store rfl rfl rfl rfl rfl rfl (by repeat constructor) (by repeat constructor) ?_)
              refine o_ (h:=z_ (h:=?_))
              refine x_then ?_
              exact ⟨_, ⟨_, _, _, _, rfl⟩, wr_ [0, 1, 3, 4, 2]⟩
            · refine s_alloc (by repeat constructor) ?_
              refine o_ (h:=?_)
              refine c_ 11 rfl (s_gen 0 (hc := Gfile l _ s.files (by omega) hv.files.b hv.files.ne) (hR := ?_))
              rintro r a142 ha142 ⟨x142, rfl⟩
              refine ⟨rfl, _, (by repeat constructor), ?_⟩
              refine o_ (h:=?_)
              refine c0_ 15 rfl (s_store rfl rfl rfl rfl rfl rfl (by repeat constructor) (by repeat constructor) ?_)
              refine o_ (h:=?_)
              refine c0_ 16 rfl (s_store rfl rfl rfl rfl rfl rfl (by repeat constructor) (by repeat constructor) ?_)
              refine o_ (h:=?_)
              refine c0_ 17 rfl (s_store rfl rfl rfl rfl rfl rfl (by repeat constructor) (by repeat constructor) ?_)
              refine o_ (h:=z_ (h:=?_))
              refine x_then ?_
              exact ⟨_, ⟨_, _, _, _, rfl⟩, wr_ [0, 1, 3, 4, 2]⟩
          · refine s_alloc (by repeat constructor) ?_
            refine o_ (h:=?_)
            refine c2_ 11 12 rfl rfl ?_ ?_
            · refine s_gen 0 (hc := Gfile l _ s.files (by omega) hv.files.b hv.files.ne) (hR := ?_)
              rintro r a143 ha143 ⟨x143, rfl⟩
              refine ⟨rfl, _, (by repeat constructor), ?_⟩
              refine o_ (h:=?_)
              refine c_ 12 rfl (s_alloc (by repeat constructor) ?_)
              refine o_ (h:=?_)
              refine c0_ 15 rfl (s_store rfl rfl rfl rfl rfl rfl (by repeat constructor) (by repeat constructor) ?_)
              refine o_ (h:=?_)
              refine c0_ 16 rfl (s_store rfl rfl rfl rfl rfl rfl (by repeat constructor) (by repeat constructor) ?_)
              refine o_ (h:=?_)
              refine c0_ 17 rfl (s_store rfl rfl rfl rfl rfl rfl (by repeat constructor) (by repeat constructor) ?_)
              refine o_ (h:=z_ (h:=?_))
              refine x_then ?_
              exact ⟨_, ⟨_, _, _, _, rfl⟩, wr_ [0, 1, 4, 3, 2]⟩
            · refine s_alloc (by repeat constructor) ?_
              refine o_ (h:=?_)
              refine c_ 11 rfl (s_gen 0 (hc := Gfile l _ s.files (by omega) hv.files.b hv.files.ne) (hR := ?_))
              rintro r a144 ha144 ⟨x144, rfl⟩
              refine ⟨rfl, _, (by repeat constructor), ?_⟩
              refine o_ (h:=?_)
              refine c0_ 15 rfl (s_store rfl rfl rfl rfl rfl rfl (by repeat constructor) (by repeat constructor) ?_)
              refine o_ (h:=?_)
              refine c0_ 16 rfl (s_store rfl rfl rfl rfl rfl rfl (by repeat constructor) (by repeat constructor) ?_)
              refine o_ (h:=?_)
              refine c0_ 17 rfl (s_store rfl rfl rfl rfl rfl rfl (by repeat constructor) (by repeat constructor) ?_)
              refine o_ (h:=z_ (h:=?_))
              refine x_then ?_
              exact ⟨_, ⟨_, _, _, _, rfl⟩, wr_ [0, 1, 4, 3, 2]⟩
        · refine s_alloc (by repeat constructor) ?_
          refine o_ (h:=?_)
          refine c2_ 7 13 rfl rfl ?_ ?_
          · refine s_gen 0 (hc := Gfile l _ s.files (by omega) hv.files.b hv.files.ne) (hR := ?_)
            rintro r a145 ha145 ⟨x145, rfl⟩
            refine ⟨rfl, _, (by repeat constructor), ?_⟩
            refine o_ (h:=?_)
            refine c2_ 11 13 rfl rfl ?_ ?_
            · refine s_gen 0 (hc := Gfile l _ s.files (by omega) hv.files.b hv.files.ne) (hR := ?_)
              rintro r a146 ha146 ⟨x146, rfl⟩
              refine ⟨rfl, _, (by repeat constructor), ?_⟩
              refine o_ (h:=?_)
              refine c_ 13 rfl (s_alloc (by repeat constructor) ?_)
              refine o_ (h:=?_)
              refine c0_ 15 rfl (s_store rfl rfl rfl rfl rfl rfl (by repeat constructor) (by repeat constructor) ?_)
              refine o_ (h:=?_)
              refine c0_ 16 rfl (s_store rfl rfl rfl rfl rfl rfl (by repeat constructor) (by repeat constructor) ?_)
              refine o_ (h:=?_)
              refine c0_ 17 rfl (s_store rfl rfl rfl rfl rfl rfl (by repeat constructor) (by repeat constructor) ?_)
              refine o_ (h:=z_ (h:=?_))
              refine x_then ?_
              exact ⟨_, ⟨_, _, _, _, rfl⟩, wr_ [0, 1, 3, 4, 2]⟩
            · refine s_alloc (by repeat constructor) ?_
              refine o_ (h:=?_)
              refine c_ 11 rfl (s_gen 0 (hc := Gfile l _ s.files (by omega) hv.files.b hv.files.ne) (hR := ?_))
              rintro r a147 ha147 ⟨x147, rfl⟩
              refine ⟨rfl, _, (by repeat constructor), ?_⟩
              refine o_ (h:=?_)
              refine c0_ 15 rfl (s_store rfl rfl rfl rfl rfl rfl (by repeat constructor) (by repeat constructor) ?_)
              refine o_ (h:=?_)
              refine c0_ 16 rfl (s_store rfl rfl rfl rfl rfl rfl (by repeat constructor) (by repeat constructor) ?_)
              refine o_ (h:=?_)
              refine c0_ 17 rfl (s_store rfl rfl rfl rfl rfl rfl (by repeat constructor) (by repeat constructor) ?_)
              refine o_ (h:=z_ (h:=?_))
              refine x_then ?_
              exact ⟨_, ⟨_, _, _, _, rfl⟩, wr_ [0, 1, 3, 4, 2]⟩
          · refine s_alloc (by repeat constructor) ?_
            refine o_ (h:=?_)
            refine c_ 7 rfl (s_gen 0 (hc := Gfile l _ s.files (by omega) hv.files.b hv.files.ne) (hR := ?_))
            rintro r a148 ha148 ⟨x148, rfl⟩
            refine ⟨rfl, _, (by repeat constructor), ?_⟩
            refine o_ (h:=?_)
            refine c_ 11 rfl (s_gen 0 (hc := Gfile l _ s.files (by omega) hv.files.b hv.files.ne) (hR := ?_))
            rintro r a149 ha149 ⟨x149, rfl⟩
            refine ⟨rfl, _, (by repeat constructor), ?_⟩
            refine o_ (h:=?_)
            refine c0_ 15 rfl (s_store rfl rfl rfl rfl rfl rfl (by repeat constructor) (by repeat constructor) ?_)
            refine o_ (h:=?_)
            refine c0_ 16 rfl (s_store rfl rfl rfl rfl rfl rfl (by repeat constructor) (by repeat constructor) ?_)
            refine o_ (h:=?_)
            refine c0_ 17 rfl (s_store rfl rfl rfl rfl rfl rfl (by repeat constructor) (by repeat constructor) ?_)
            refine o_ (h:=z_ (h:=?_))
            refine x_then ?_
            exact ⟨_, ⟨_, _, _, _, rfl⟩, wr_ [0, 1, 3, 4, 2]⟩
        · refine s_alloc (by repeat constructor) ?_
          refine o_ (h:=?_)
          refine c2_ 7 12 rfl rfl ?_ ?_
          · refine s_gen 0 (hc := Gfile l _ s.files (by omega) hv.files.b hv.files.ne) (hR := ?_)
            rintro r a150 ha150 ⟨x150, rfl⟩
            refine ⟨rfl, _, (by repeat constructor), ?_⟩
            refine o_ (h:=?_)
            refine c2_ 11 12 rfl rfl ?_ ?_
            · refine s_gen 0 (hc := Gfile l _ s.files (by omega) hv.files.b hv.files.ne) (hR := ?_)
              rintro r a151 ha151 ⟨x151, rfl⟩
              refine ⟨rfl, _, (by repeat constructor), ?_⟩
              refine o_ (h:=?_)
              refine c_ 12 rfl (s_alloc (by repeat constructor) ?_)
              refine o_ (h:=?_)
              refine c0_ 15 rfl (s_store rfl rfl rfl rfl rfl rfl (by repeat constructor) (by repeat constructor) ?_)
              refine o_ (h:=?_)
              refine c0_ 16 rfl (s_store rfl rfl rfl rfl rfl rfl (by repeat constructor) (by repeat constructor) ?_)
              refine o_ (h:=?_)
              refine c0_ 17 rfl (s_store rfl rfl rfl rfl rfl rfl (by repeat constructor) (by repeat constructor) ?_)
              refine o_ (h:=z_ (h:=?_))
              refine x_then ?_
              exact ⟨_, ⟨_, _, _, _, rfl⟩, wr_ [0, 1, 4, 3, 2]⟩
            · refine s_alloc (by repeat constructor) ?_
              refine o_ (h:=?_)
              refine c_ 11 rfl (s_gen 0 (hc := Gfile l _ s.files (by omega) hv.files.b hv.files.ne) (hR := ?_))
              rintro r a152 ha152 ⟨x152, rfl⟩
              refine ⟨rfl, _, (by repeat constructor), ?_⟩
              refine o_ (h:=?_)
              refine c0_ 15 rfl (s_store rfl rfl rfl rfl rfl rfl (by repeat constructor) (by repeat constructor) ?_)
              refine o_ (h:=?_)
              refine c0_ 16 rfl (s_store rfl rfl rfl rfl rfl rfl (by repeat constructor) (by repeat constructor) ?_)
              refine o_ (h:=?_)
              refine c0_ 17 rfl (s_store rfl rfl rfl rfl rfl rfl (by repeat constructor) (by repeat constructor) ?_)
              refine o_ (h:=z_ (h:=?_))
              refine x_then ?_
              exact ⟨_, ⟨_, _, _, _, rfl⟩, wr_ [0, 1, 4, 3, 2]⟩
          · refine s_alloc (by repeat constructor) ?_
            refine o_ (h:=?_)
            refine c_ 7 rfl (s_gen 0 (hc := Gfile l _ s.files (by omega) hv.files.b hv.files.ne) (hR := ?_))
            rintro r a153 ha153 ⟨x153, rfl⟩
            refine ⟨rfl, _, (by repeat constructor), ?_⟩
            refine o_ (h:=?_)
            refine c_ 11 rfl (s_gen 0 (hc := Gfile l _ s.files (by omega) hv.files.b hv.files.ne) (hR := ?_))
            rintro r a154 ha154 ⟨x154, rfl⟩
            refine ⟨rfl, _, (by repeat constructor), ?_⟩
            refine o_ (h:=?_)
            refine c0_ 15 rfl (s_store rfl rfl rfl rfl rfl rfl (by repeat constructor) (by repeat constructor) ?_)
            refine o_ (h:=?_)
            refine c0_ 16 rfl (s_store rfl rfl rfl rfl rfl rfl (by repeat constructor) (by repeat constructor) ?_)
            refine o_ (h:=?_)
            refine c0_ 17 rfl (s_store rfl rfl rfl rfl rfl rfl (by repeat constructor) (by repeat constructor) ?_)
            refine o_ (h:=z_ (h:=?_))
            refine x_then ?_
            exact ⟨_, ⟨_, _, _, _, rfl⟩, wr_ [0, 1, 4, 3, 2]⟩
      · refine s_alloc (by repeat constructor) ?_
        refine o_ (h:=?_)
        refine c2_ 3 13 rfl rfl ?_ ?_
        · refine s_gen 0 (hc := Gfile l _ s.files (by omega) hv.files.b hv.files.ne) (hR := ?_)
          rintro r a155 ha155 ⟨x155, rfl⟩
          refine ⟨rfl, _, (by repeat constructor), ?_⟩
          refine o_ (h:=?_)
          refine c2_ 7 13 rfl rfl ?_ ?_
          · refine s_gen 0 (hc := Gfile l _ s.files (by omega) hv.files.b hv.files.ne) (hR := ?_)
            rintro r a156 ha156 ⟨x156, rfl⟩
            refine ⟨rfl, _, (by repeat constructor), ?_⟩
            refine o_ (h:=?_)
            refine c2_ 11 13 rfl rfl ?_ ?_
            · refine s_gen 0 (hc := Gfile l _ s.files (by omega) hv.files.b hv.files.ne) (hR := ?_)
              rintro r a157 ha157 ⟨x157, rfl⟩
              refine ⟨rfl, _, (by repeat constructor), ?_⟩
              refine o_ (h:=?_)
              refine c_ 13 rfl (s_alloc (by repeat constructor) ?_)
              refine o_ (h:=?_)
              refine c0_ 15 rfl (s_store rfl rfl rfl rfl rfl rfl (by repeat constructor) (by repeat constructor) ?_)
              refine o_ (h:=?_)
              refine c0_ 16 rfl (s_store rfl rfl rfl rfl rfl rfl (by repeat constructor) (by repeat constructor) ?_)
              refine o_ (h:=?_)
              refine c0_ 17 rfl (s_store rfl rfl rfl rfl rfl rfl (by repeat constructor) (by repeat constructor) ?_)
              refine o_ (h:=z_ (h:=?_))
              refine x_then ?_
              exact ⟨_, ⟨_, _, _, _, rfl⟩, wr_ [0, 1, 3, 4, 2]⟩
            · refine s_alloc (by repeat constructor) ?_
              refine o_ (h:=?_)
              refine c_ 11 rfl (s_gen 0 (hc := Gfile l _ s.files (by omega) hv.files.b hv.files.ne) (hR := ?_))
              rintro r a158 ha158 ⟨x158, rfl⟩
              refine ⟨rfl, _, (by repeat constructor), ?_⟩
              refine o_ (h:=?_)
              refine c0_ 15 rfl (s_store rfl rfl rfl rfl rfl rfl (by repeat constructor) (by repeat constructor) ?_)
              refine o_ (h:=?_)
              refine c0_ 16 rfl (s_store rfl rfl rfl rfl rfl rfl (by repeat constructor) (by repeat constructor) ?_)
              refine o_ (h:=?_)
              refine c0_ 17 rfl (s_store rfl rfl rfl rfl rfl rfl (by repeat constructor) (by repeat constructor) ?_)
              refine o_ (h:=z_ (h:=?_))
              refine x_then ?_
              exact ⟨_, ⟨_, _, _, _, rfl⟩, wr_ [0, 1, 3, 4, 2]⟩
          · refine s_alloc (by repeat constructor) ?_
            refine o_ (h:=?_)
            refine c_ 7 rfl (s_gen 0 (hc := Gfile l _ s.files (by omega) hv.files.b hv.files.ne) (hR := ?_))
            rintro r a159 ha159 ⟨x159, rfl⟩
            refine ⟨rfl, _, (by repeat constructor), ?_⟩
            refine o_ (h:=?_)
            refine c_ 11 rfl (s_gen 0 (hc := Gfile l _ s.files (by omega) hv.files.b hv.files.ne) (hR := ?_))
            rintro r a160 ha160 ⟨x160, rfl⟩
            refine ⟨rfl, _, (by repeat constructor), ?_⟩
            refine o_ (h:=?_)
            refine c0_ 15 rfl (s_store rfl rfl rfl rfl rfl rfl (by repeat constructor) (by repeat constructor) ?_)
            refine o_ (h:=?_)
            refine c0_ 16 rfl (s_store rfl rfl rfl rfl rfl rfl (by repeat constructor) (by repeat constructor) ?_)
            refine o_ (h:=?_)
            refine c0_ 17 rfl (s_store rfl rfl rfl rfl rfl rfl (by repeat constructor) (by repeat constructor) ?_)
            refine o_ (h:=z_ (h:=?_))
            refine x_then ?_
            exact ⟨_, ⟨_, _, _, _, rfl⟩, wr_ [0, 1, 3, 4, 2]⟩
        · refine s_alloc (by repeat constructor) ?_
          refine o_ (h:=?_)
          refine c_ 3 rfl (s_gen 0 (hc := Gfile l _ s.files (by omega) hv.files.b hv.files.ne) (hR := ?_))
          rintro r a161 ha161 ⟨x161, rfl⟩
          refine ⟨rfl, _, (by repeat constructor), ?_⟩
          refine o_ (h:=?_)
          refine c_ 7 rfl (s_gen 0 (hc := Gfile l _ s.files (by omega) hv.files.b hv.files.ne) (hR := ?_))
          rintro r a162 ha162 ⟨x162, rfl⟩
          refine ⟨rfl, _, (by repeat constructor), ?_⟩
          refine o_ (h:=?_)
          refine c_ 11 rfl (s_gen 0 (hc := Gfile l _ s.files (by omega) hv.files.b hv.files.ne) (hR := ?_))
          rintro r a163 ha163 ⟨x163, rfl⟩
          refine ⟨rfl, _, (by repeat constructor), ?_⟩
          refine o_ (h:=?_)
          refine c0_ 15 rfl (s_store rfl rfl rfl rfl rfl rfl (by repeat constructor) (by repeat constructor) ?_)
          refine o_ (h:=?_)
          refine c0_ 16 rfl (s_store rfl rfl rfl rfl rfl rfl (by repeat constructor) (by repeat constructor) ?_)
          refine o_ (h:=?_)
          refine c0_ 17 rfl (s_store rfl rfl rfl rfl rfl rfl (by repeat constructor) (by repeat constructor) ?_)
          refine o_ (h:=z_ (h:=?_))
          refine x_then ?_
          exact ⟨_, ⟨_, _, _, _, rfl⟩, wr_ [0, 1, 3, 4, 2]⟩
      · refine s_alloc (by repeat constructor) ?_
        refine o_ (h:=?_)
        refine c2_ 3 12 rfl rfl ?_ ?_
        · refine s_gen 0 (hc := Gfile l _ s.files (by omega) hv.files.b hv.files.ne) (hR := ?_)
          rintro r a164 ha164 ⟨x164, rfl⟩
          refine ⟨rfl, _, (by repeat constructor), ?_⟩
          refine o_ (h:=?_)
          refine c2_ 7 12 rfl rfl ?_ ?_
          · refine s_gen 0 (hc := Gfile l _ s.files (by omega) hv.files.b hv.files.ne) (hR := ?_)
            rintro r a165 ha165 ⟨x165, rfl⟩
            refine ⟨rfl, _, (by repeat constructor), ?_⟩
            refine o_ (h:=?_)
            refine c2_ 11 12 rfl rfl ?_ ?_
            · refine s_gen 0 (hc := Gfile l _ s.files (by omega) hv.files.b hv.files.ne) (hR := ?_)
              rintro r a166 ha166 ⟨x166, rfl⟩
              refine ⟨rfl, _, (by repeat constructor), ?_⟩
              refine o_ (h:=?_)
              refine c_ 12 rfl (s_alloc (by repeat constructor) ?_)
              refine o_ (h:=?_)
              refine c0_ 15 rfl (s_store rfl rfl rfl rfl rfl rfl (by repeat constructor) (by repeat constructor) ?_)
              refine o_ (h:=?_)
              refine c0_ 16 rfl (s_store rfl rfl rfl rfl rfl rfl (by repeat constructor) (by repeat constructor) ?_)
              refine o_ (h:=?_)
              refine c0_ 17 rfl (s_store rfl rfl rfl rfl rfl rfl (by repeat constructor) (by repeat constructor) ?_)
              refine o_ (h:=z_ (h:=?_))
              refine x_then ?_
              exact ⟨_, ⟨_, _, _, _, rfl⟩, wr_ [0, 1, 4, 3, 2]⟩
            · refine s_alloc (by repeat constructor) ?_
              refine o_ (h:=?_)
              refine c_ 11 rfl (s_gen 0 (hc := Gfile l _ s.files (by omega) hv.files.b hv.files.ne) (hR := ?_))
              rintro r a167 ha167 ⟨x167, rfl⟩
              refine ⟨rfl, _, (by repeat constructor), ?_⟩
              refine o_ (h:=?_)
              refine c0_ 15 rfl (s_store rfl rfl rfl rfl rfl rfl (by repeat constructor) (by repeat constructor) ?_)
              refine o_ (h:=?_)
              refine c0_ 16 rfl (s_store rfl rfl rfl rfl rfl rfl (by repeat constructor) (by repeat constructor) ?_)
              refine o_ (h:=?_)
              refine c0_ 17 rfl (s_store rfl rfl rfl rfl rfl rfl (by repeat constructor) (by repeat constructor) ?_)
              refine o_ (h:=z_ (h:=?_))
              refine x_then ?_
              exact ⟨_, ⟨_, _, _, _, rfl⟩, wr_ [0, 1, 4, 3, 2]⟩
          · refine s_alloc (by repeat constructor) ?_
            refine o_ (h:=?_)
            refine c_ 7 rfl (s_gen 0 (hc := Gfile l _ s.files (by omega) hv.files.b hv.files.ne) (hR := ?_))
            rintro r a168 ha168 ⟨x168, rfl⟩
            refine ⟨rfl, _, (by repeat constructor), ?_⟩
            refine o_ (h:=?_)
            refine c_ 11 rfl (s_gen 0 (hc := Gfile l _ s.files (by omega) hv.files.b hv.files.ne) (hR := ?_))
            rintro r a169 ha169 ⟨x169, rfl⟩
            refine ⟨rfl, _, (by repeat constructor), ?_⟩
            refine o_ (h:=?_)
            refine c0_ 15 rfl (s_store rfl rfl rfl rfl rfl rfl (by repeat constructor) (by repeat constructor) ?_)
            refine o_ (h:=?_)
            refine c0_ 16 rfl (s_store rfl rfl rfl rfl rfl rfl (by repeat constructor) (by repeat constructor) ?_)
            refine o_ (h:=?_)
            refine c0_ 17 rfl (s_store rfl rfl rfl rfl rfl rfl (by repeat constructor) (by repeat constructor) ?_)
            refine o_ (h:=z_ (h:=?_))
            refine x_then ?_
            exact ⟨_, ⟨_, _, _, _, rfl⟩, wr_ [0, 1, 4, 3, 2]⟩
        · refine s_alloc (by repeat constructor) ?_
          refine o_ (h:=?_)
          refine c_ 3 rfl (s_gen 0 (hc := Gfile l _ s.files (by omega) hv.files.b hv.files.ne) (hR := ?_))
          rintro r a170 ha170 ⟨x170, rfl⟩
          refine ⟨rfl, _, (by repeat constructor), ?_⟩
          refine o_ (h:=?_)
          refine c_ 7 rfl (s_gen 0 (hc := Gfile l _ s.files (by omega) hv.files.b hv.files.ne) (hR := ?_))
          rintro r a171 ha171 ⟨x171, rfl⟩
          refine ⟨rfl, _, (by repeat constructor), ?_⟩
          refine o_ (h:=?_)
          refine c_ 11 rfl (s_gen 0 (hc := Gfile l _ s.files (by omega) hv.files.b hv.files.ne) (hR := ?_))
          rintro r a172 ha172 ⟨x172, rfl⟩
          refine ⟨rfl, _, (by repeat constructor), ?_⟩
          refine o_ (h:=?_)
          refine c0_ 15 rfl (s_store rfl rfl rfl rfl rfl rfl (by repeat constructor) (by repeat constructor) ?_)
          refine o_ (h:=?_)
          refine c0_ 16 rfl (s_store rfl rfl rfl rfl rfl rfl (by repeat constructor) (by repeat constructor) ?_)
          refine o_ (h:=?_)
          refine c0_ 17 rfl (s_store rfl rfl rfl rfl rfl rfl (by repeat constructor) (by repeat constructor) ?_)
          refine o_ (h:=z_ (h:=?_))
          refine x_then ?_
          exact ⟨_, ⟨_, _, _, _, rfl⟩, wr_ [0, 1, 4, 3, 2]⟩
  · rintro t ⟨b, x, y, z, rfl⟩
    have o1 := hW.refl x
    have o2 := hW.anti x y
    have o3 := hW.trans x y z
    have o4 := hW.root x
    refine q_ (q_ (yr_ 45 (h:=dl_ 0 (h:=dl_ 1 (h:=dl_ 2 (h:=df_ 4 (h:=dl_ 5 (h:=dl_ 6 (h:=?_)))))))))
    refine c_ 3 rfl (q_call (hW.calls _ _) ?_)
    rintro r rfl
    refine o_ (h:=?_)
    refine c_ 7 rfl (q_call (Rdir s.files _ hsb.files) ?_)
    rintro r rfl
    refine o_ (h:=dnq_ 8 (h:=dm_ 9 (h:=?_)))
    refine aa_both (j := 9) rfl (fun hb1 => ?_) (fun hb1 => ?_)
    · have hc1 := bp hb1
      refine d0_ 10 (h:=d0_ 11 (h:=d0_ 12 (h:=d0_ 13 (h:=d0_ 14 (h:=d0_ 15 (h:=d0_ 16 (h:=d0_ 17 (h:=d0_ 18 (h:=d0_ 19 (h:=d0_ 20 (h:=d0_ 21 (h:=d0_ 22 (h:=d0_ 23 (h:=d0_ 24 (h:=dpt_ 25 (h:=dm_ 26 (h:=d0_ 27 (h:=d0_ 28 (h:=d0_ 29 (h:=d0_ 30 (h:=d0_ 31 (h:=d0_ 32 (h:=d0_ 33 (h:=?_))))))))))))))))))))))))
      refine d0_ 34 (h:=d0_ 35 (h:=d0_ 36 (h:=d0_ 37 (h:=d0_ 38 (h:=d0_ 39 (h:=d0_ 40 (h:=d0_ 41 (h:=d0_ 42 (h:=d0_ 43 (h:=dpt_ 44 (h:=z_ (h:=t_ (cy_ (h:=w_ (a_ (h:=e_ (aw_ret (x_thenR (?_)))))))))))))))))))
      refine e_ret ?_
      first | rfl | (exfalso; simp_all)
    · have hc1 := bp hb1
      refine dl_ 10 (h:=dl_ 11 (h:=dl_ 12 (h:=?_)))
      refine c_ 13 rfl (q_call (hW.calls _ _) ?_)
      rintro r rfl
      refine o_ (h:=dm_ 14 (h:=?_))
      refine aa_both (j := 14) rfl (fun hb2 => ?_) (fun hb2 => ?_)
      · have hc2 := bp hb2
        refine dl_ 15 (h:=dl_ 16 (h:=dl_ 17 (h:=?_)))
        refine c_ 18 rfl (q_call (hW.calls _ _) ?_)
        rintro r rfl
        refine o_ (h:=dpt_ 19 (h:=dm_ 20 (h:=?_)))
        refine aa_both (j := 20) rfl (fun hb3 => ?_) (fun hb3 => ?_)
        · have hc3 := bp hb3
          refine dl_ 21 (h:=dl_ 22 (h:=?_))
          refine r_y (i := 23) rfl (st_binA rfl rfl (by repeat constructor) (by repeat constructor) (fun w => neqlFil _ _ _ _ w) (by kernel_rfl) ⟨rfl, rfl⟩) ?_
          refine dpt_ 24 (h:=dpf_ 25 (h:=dm_ 26 (h:=?_)))
          refine aa_both (j := 26) rfl (fun hb4 => ?_) (fun hb4 => ?_)
          · have hc4 := bp hb4
            refine d0_ 27 (h:=d0_ 28 (h:=d0_ 29 (h:=d0_ 30 (h:=d0_ 31 (h:=d0_ 32 (h:=d0_ 33 (h:=d0_ 34 (h:=d0_ 35 (h:=d0_ 36 (h:=d0_ 37 (h:=d0_ 38 (h:=d0_ 39 (h:=d0_ 40 (h:=d0_ 41 (h:=d0_ 42 (h:=d0_ 43 (h:=dpt_ 44 (h:=z_ (h:=t_ (cy_ (h:=w_ (a_ (h:=e_ (?_))))))))))))))))))))))))
            refine aw_ret (x_thenR (?_))
            refine e_ret ?_
            first | rfl | (exfalso; simp_all)
          · have hc4 := bp hb4
            refine dl_ 27 (h:=dl_ 28 (h:=dl_ 29 (h:=?_)))
            refine c_ 30 rfl (q_call (hW.calls _ _) ?_)
            rintro r rfl
            refine o_ (h:=dm_ 31 (h:=?_))
            refine aa_both (j := 31) rfl (fun hb5 => ?_) (fun hb5 => ?_)
            · have hc5 := bp hb5
              refine dl_ 32 (h:=dl_ 33 (h:=dl_ 34 (h:=?_)))
              refine c_ 35 rfl (q_call (hW.calls _ _) ?_)
              rintro r rfl
              refine o_ (h:=dpt_ 36 (h:=dm_ 37 (h:=?_)))
              refine aa_both (j := 37) rfl (fun hb6 => ?_) (fun hb6 => ?_)
              · have hc6 := bp hb6
                refine dl_ 38 (h:=dl_ 39 (h:=dl_ 40 (h:=?_)))
                refine c_ 41 rfl (q_call (hW.calls _ _) ?_)
                rintro r rfl
                refine o_ (h:=dnt_ 42 (h:=dpt_ 43 (h:=dpf_ 44 (h:=z_ (h:=t_ (?_))))))
                refine aw_cond rfl (fun hb7 => ?_) (fun hb7 => ?_)
                · have hc7 := bp hb7
                  refine w_ (a_ (h:=e_ (aw_ret (x_thenR (?_)))))
                  refine e_ret ?_
                  first | rfl | (exfalso; simp_all)
                · have hc7 := bp hb7
                  refine kt_ (w_ (l_ (h:=l_ (h:=?_))))
                  refine al_p rfl (q_call (Pwhere hsn _) ?_)
                  rintro r rfl
                  refine m_ (h:=x_ (h:=x_ (h:=a_ (h:=a_ (h:=e_ (w_ (m_ (h:=nt_ (h:=m_ (h:=?_))))))))))
                  refine al_gs false rfl rfl (fun hb8 => ?_) (fun hb8 => ?_)
                  · have hc8 := bp hb8
                    refine g0_ (h:=g0_ (h:=g0_ (h:=g0_ (h:=pt_ (h:=m_ (h:=?_))))))
                    refine g_y (q_call (Lawake) ?_)
                    rintro r rfl
                    refine pt_ (h:=a_ (h:=e_ (aw_ret (?_))))
                    refine e_ret ?_
                    first | rfl | (exfalso; simp_all)
                  · have hc8 := bp hb8
                    refine l_ (h:=bd_ (h:=l_ (h:=?_)))
                    refine g_y (q_call (hW.calls (0, 1) _) ?_)
                    rintro r rfl
                    refine pf_ (h:=m_ (h:=?_))
                    refine al_gs true rfl rfl (fun hb9 => ?_) (fun hb9 => ?_)
                    · have hc9 := bp hb9
                      refine g_y (q_call (Lawake) ?_)
                      rintro r rfl
                      refine pt_ (h:=a_ (h:=e_ (aw_ret (?_))))
                      refine e_ret ?_
                      first | rfl | (exfalso; simp_all)
                    · have hc9 := bp hb9
                      refine g0_ (h:=pf_ (h:=a_ (h:=e_ (aw_ret (?_)))))
                      refine e_ret ?_
                      first | rfl | (exfalso; simp_all)
              · have hc6 := bp hb6
                refine d0_ 38 (h:=d0_ 39 (h:=d0_ 40 (h:=d0_ 41 (h:=d0_ 42 (h:=dpf_ 43 (h:=dpf_ 44 (h:=z_ (h:=t_ (cn_ (h:=kt_ (w_ (l_ (h:=l_ (h:=?_))))))))))))))
                refine al_p rfl (q_call (Pwhere hsn _) ?_)
                rintro r rfl
                refine m_ (h:=x_ (h:=x_ (h:=a_ (h:=a_ (h:=e_ (w_ (m_ (h:=nt_ (h:=m_ (h:=?_))))))))))
                refine al_gs false rfl rfl (fun hb10 => ?_) (fun hb10 => ?_)
                · have hc10 := bp hb10
                  refine g0_ (h:=g0_ (h:=g0_ (h:=g0_ (h:=pt_ (h:=m_ (h:=?_))))))
                  refine g_y (q_call (Lawake) ?_)
                  rintro r rfl
                  refine pt_ (h:=a_ (h:=e_ (aw_ret (?_))))
                  refine e_ret ?_
                  first | rfl | (exfalso; simp_all)
                · have hc10 := bp hb10
                  refine l_ (h:=bd_ (h:=l_ (h:=?_)))
                  refine g_y (q_call (hW.calls (0, 1) _) ?_)
                  rintro r rfl
                  refine pf_ (h:=m_ (h:=?_))
                  refine al_gs true rfl rfl (fun hb11 => ?_) (fun hb11 => ?_)
                  · have hc11 := bp hb11
                    refine g_y (q_call (Lawake) ?_)
                    rintro r rfl
                    refine pt_ (h:=a_ (h:=e_ (aw_ret (?_))))
                    refine e_ret ?_
                    first | rfl | (exfalso; simp_all)
                  · have hc11 := bp hb11
                    refine g0_ (h:=pf_ (h:=a_ (h:=e_ (aw_ret (?_)))))
                    refine e_ret ?_
                    first | rfl | (exfalso; simp_all)
            · have hc5 := bp hb5
              refine d0_ 32 (h:=d0_ 33 (h:=d0_ 34 (h:=d0_ 35 (h:=dpf_ 36 (h:=dm_ 37 (h:=d0_ 38 (h:=d0_ 39 (h:=d0_ 40 (h:=d0_ 41 (h:=d0_ 42 (h:=dpf_ 43 (h:=dpf_ 44 (h:=z_ (h:=t_ (cn_ (h:=kt_ (w_ (l_ (h:=l_ (h:=?_))))))))))))))))))))
              refine al_p rfl (q_call (Pwhere hsn _) ?_)
              rintro r rfl
              refine m_ (h:=x_ (h:=x_ (h:=a_ (h:=a_ (h:=e_ (w_ (m_ (h:=nt_ (h:=m_ (h:=?_))))))))))
              refine al_gs false rfl rfl (fun hb12 => ?_) (fun hb12 => ?_)
              · have hc12 := bp hb12
                refine g0_ (h:=g0_ (h:=g0_ (h:=g0_ (h:=pt_ (h:=m_ (h:=?_))))))
                refine g_y (q_call (Lawake) ?_)
                rintro r rfl
                refine pt_ (h:=a_ (h:=e_ (aw_ret (?_))))
                refine e_ret ?_
                first | rfl | (exfalso; simp_all)
              · have hc12 := bp hb12
                refine l_ (h:=bd_ (h:=l_ (h:=?_)))
                refine g_y (q_call (hW.calls (0, 1) _) ?_)
                rintro r rfl
                refine pf_ (h:=m_ (h:=?_))
                refine al_gs true rfl rfl (fun hb13 => ?_) (fun hb13 => ?_)
                · have hc13 := bp hb13
                  refine g_y (q_call (Lawake) ?_)
                  rintro r rfl
                  refine pt_ (h:=a_ (h:=e_ (aw_ret (?_))))
                  refine e_ret ?_
                  first | rfl | (exfalso; simp_all)
                · have hc13 := bp hb13
                  refine g0_ (h:=pf_ (h:=a_ (h:=e_ (aw_ret (?_)))))
                  refine e_ret ?_
                  first | rfl | (exfalso; simp_all)
        · have hc3 := bp hb3
          refine d0_ 21 (h:=d0_ 22 (h:=d0_ 23 (h:=dpf_ 24 (h:=dpf_ 25 (h:=dm_ 26 (h:=dl_ 27 (h:=dl_ 28 (h:=dl_ 29 (h:=?_)))))))))
          refine c_ 30 rfl (q_call (hW.calls _ _) ?_)
          rintro r rfl
          refine o_ (h:=dm_ 31 (h:=?_))
          refine aa_both (j := 31) rfl (fun hb14 => ?_) (fun hb14 => ?_)
          · have hc14 := bp hb14
            refine dl_ 32 (h:=dl_ 33 (h:=dl_ 34 (h:=?_)))
            refine c_ 35 rfl (q_call (hW.calls _ _) ?_)
            rintro r rfl
            refine o_ (h:=dpt_ 36 (h:=dm_ 37 (h:=?_)))
            refine aa_both (j := 37) rfl (fun hb15 => ?_) (fun hb15 => ?_)
            · have hc15 := bp hb15
              refine dl_ 38 (h:=dl_ 39 (h:=dl_ 40 (h:=?_)))
              refine c_ 41 rfl (q_call (hW.calls _ _) ?_)
              rintro r rfl
              refine o_ (h:=dnt_ 42 (h:=dpt_ 43 (h:=dpf_ 44 (h:=z_ (h:=t_ (?_))))))
              refine aw_cond rfl (fun hb16 => ?_) (fun hb16 => ?_)
              · have hc16 := bp hb16
                refine w_ (a_ (h:=e_ (aw_ret (x_thenR (?_)))))
                refine e_ret ?_
                first | rfl | (exfalso; simp_all)
              · have hc16 := bp hb16
                refine kt_ (w_ (l_ (h:=l_ (h:=?_))))
                refine al_p rfl (q_call (Pwhere hsn _) ?_)
                rintro r rfl
                refine m_ (h:=x_ (h:=x_ (h:=a_ (h:=a_ (h:=e_ (w_ (m_ (h:=nt_ (h:=m_ (h:=?_))))))))))
                refine al_gs false rfl rfl (fun hb17 => ?_) (fun hb17 => ?_)
                · have hc17 := bp hb17
                  refine g0_ (h:=g0_ (h:=g0_ (h:=g0_ (h:=pt_ (h:=m_ (h:=?_))))))
                  refine g_y (q_call (Lawake) ?_)
                  rintro r rfl
                  refine pt_ (h:=a_ (h:=e_ (aw_ret (?_))))
                  refine e_ret ?_
                  first | rfl | (exfalso; simp_all)
                · have hc17 := bp hb17
                  refine l_ (h:=bd_ (h:=l_ (h:=?_)))
                  refine g_y (q_call (hW.calls (0, 1) _) ?_)
                  rintro r rfl
                  refine pf_ (h:=m_ (h:=?_))
                  refine al_gs true rfl rfl (fun hb18 => ?_) (fun hb18 => ?_)
                  · have hc18 := bp hb18
                    refine g_y (q_call (Lawake) ?_)
                    rintro r rfl
                    refine pt_ (h:=a_ (h:=e_ (aw_ret (?_))))
                    refine e_ret ?_
                    first | rfl | (exfalso; simp_all)
                  · have hc18 := bp hb18
                    refine g0_ (h:=pf_ (h:=a_ (h:=e_ (aw_ret (?_)))))
                    refine e_ret ?_
                    first | rfl | (exfalso; simp_all)
            · have hc15 := bp hb15
              refine d0_ 38 (h:=d0_ 39 (h:=d0_ 40 (h:=d0_ 41 (h:=d0_ 42 (h:=dpf_ 43 (h:=dpf_ 44 (h:=z_ (h:=t_ (cn_ (h:=kt_ (w_ (l_ (h:=l_ (h:=?_))))))))))))))
              refine al_p rfl (q_call (Pwhere hsn _) ?_)
              rintro r rfl
              refine m_ (h:=x_ (h:=x_ (h:=a_ (h:=a_ (h:=e_ (w_ (m_ (h:=nt_ (h:=m_ (h:=?_))))))))))
              refine al_gs false rfl rfl (fun hb19 => ?_) (fun hb19 => ?_)
              · have hc19 := bp hb19
                refine g0_ (h:=g0_ (h:=g0_ (h:=g0_ (h:=pt_ (h:=m_ (h:=?_))))))
                refine g_y (q_call (Lawake) ?_)
                rintro r rfl
                refine pt_ (h:=a_ (h:=e_ (aw_ret (?_))))
                refine e_ret ?_
                first | rfl | (exfalso; simp_all)
              · have hc19 := bp hb19
                refine l_ (h:=bd_ (h:=l_ (h:=?_)))
                refine g_y (q_call (hW.calls (0, 1) _) ?_)
                rintro r rfl
                refine pf_ (h:=m_ (h:=?_))
                refine al_gs true rfl rfl (fun hb20 => ?_) (fun hb20 => ?_)
                · have hc20 := bp hb20
                  refine g_y (q_call (Lawake) ?_)
                  rintro r rfl
                  refine pt_ (h:=a_ (h:=e_ (aw_ret (?_))))
                  refine e_ret ?_
                  first | rfl | (exfalso; simp_all)
                · have hc20 := bp hb20
                  refine g0_ (h:=pf_ (h:=a_ (h:=e_ (aw_ret (?_)))))
                  refine e_ret ?_
                  first | rfl | (exfalso; simp_all)
          · have hc14 := bp hb14
            refine d0_ 32 (h:=d0_ 33 (h:=d0_ 34 (h:=d0_ 35 (h:=dpf_ 36 (h:=dm_ 37 (h:=d0_ 38 (h:=d0_ 39 (h:=d0_ 40 (h:=d0_ 41 (h:=d0_ 42 (h:=dpf_ 43 (h:=dpf_ 44 (h:=z_ (h:=t_ (cn_ (h:=kt_ (w_ (l_ (h:=l_ (h:=?_))))))))))))))))))))
            refine al_p rfl (q_call (Pwhere hsn _) ?_)
            rintro r rfl
            refine m_ (h:=x_ (h:=x_ (h:=a_ (h:=a_ (h:=e_ (w_ (m_ (h:=nt_ (h:=m_ (h:=?_))))))))))
            refine al_gs false rfl rfl (fun hb21 => ?_) (fun hb21 => ?_)
            · have hc21 := bp hb21
              refine g0_ (h:=g0_ (h:=g0_ (h:=g0_ (h:=pt_ (h:=m_ (h:=?_))))))
              refine g_y (q_call (Lawake) ?_)
              rintro r rfl
              refine pt_ (h:=a_ (h:=e_ (aw_ret (?_))))
              refine e_ret ?_
              first | rfl | (exfalso; simp_all)
            · have hc21 := bp hb21
              refine l_ (h:=bd_ (h:=l_ (h:=?_)))
              refine g_y (q_call (hW.calls (0, 1) _) ?_)
              rintro r rfl
              refine pf_ (h:=m_ (h:=?_))
              refine al_gs true rfl rfl (fun hb22 => ?_) (fun hb22 => ?_)
              · have hc22 := bp hb22
                refine g_y (q_call (Lawake) ?_)
                rintro r rfl
                refine pt_ (h:=a_ (h:=e_ (aw_ret (?_))))
                refine e_ret ?_
                first | rfl | (exfalso; simp_all)
              · have hc22 := bp hb22
                refine g0_ (h:=pf_ (h:=a_ (h:=e_ (aw_ret (?_)))))
                refine e_ret ?_
                first | rfl | (exfalso; simp_all)
      · have hc2 := bp hb2
        refine d0_ 15 (h:=d0_ 16 (h:=d0_ 17 (h:=d0_ 18 (h:=dpf_ 19 (h:=dm_ 20 (h:=d0_ 21 (h:=d0_ 22 (h:=d0_ 23 (h:=dpf_ 24 (h:=dpf_ 25 (h:=dm_ 26 (h:=dl_ 27 (h:=dl_ 28 (h:=dl_ 29 (h:=?_)))))))))))))))
        refine c_ 30 rfl (q_call (hW.calls _ _) ?_)
        rintro r rfl
        refine o_ (h:=dm_ 31 (h:=?_))
        refine aa_both (j := 31) rfl (fun hb23 => ?_) (fun hb23 => ?_)
        · have hc23 := bp hb23
          refine dl_ 32 (h:=dl_ 33 (h:=dl_ 34 (h:=?_)))
          refine c_ 35 rfl (q_call (hW.calls _ _) ?_)
          rintro r rfl
          refine o_ (h:=dpt_ 36 (h:=dm_ 37 (h:=?_)))
          refine aa_both (j := 37) rfl (fun hb24 => ?_) (fun hb24 => ?_)
          · have hc24 := bp hb24
            refine dl_ 38 (h:=dl_ 39 (h:=dl_ 40 (h:=?_)))
            refine c_ 41 rfl (q_call (hW.calls _ _) ?_)
            rintro r rfl
            refine o_ (h:=dnt_ 42 (h:=dpt_ 43 (h:=dpf_ 44 (h:=z_ (h:=t_ (?_))))))
            refine aw_cond rfl (fun hb25 => ?_) (fun hb25 => ?_)
            · have hc25 := bp hb25
              refine w_ (a_ (h:=e_ (aw_ret (x_thenR (?_)))))
              refine e_ret ?_
              first | rfl | (exfalso; simp_all)
            · have hc25 := bp hb25
              refine kt_ (w_ (l_ (h:=l_ (h:=?_))))
              refine al_p rfl (q_call (Pwhere hsn _) ?_)
              rintro r rfl
              refine m_ (h:=x_ (h:=x_ (h:=a_ (h:=a_ (h:=e_ (w_ (m_ (h:=nt_ (h:=m_ (h:=?_))))))))))
              refine al_gs false rfl rfl (fun hb26 => ?_) (fun hb26 => ?_)
              · have hc26 := bp hb26
                refine g0_ (h:=g0_ (h:=g0_ (h:=g0_ (h:=pt_ (h:=m_ (h:=?_))))))
                refine g_y (q_call (Lawake) ?_)
                rintro r rfl
                refine pt_ (h:=a_ (h:=e_ (aw_ret (?_))))
                refine e_ret ?_
                first | rfl | (exfalso; simp_all)
              · have hc26 := bp hb26
                refine l_ (h:=bd_ (h:=l_ (h:=?_)))
                refine g_y (q_call (hW.calls (0, 1) _) ?_)
                rintro r rfl
                refine pf_ (h:=m_ (h:=?_))
                refine al_gs true rfl rfl (fun hb27 => ?_) (fun hb27 => ?_)
                · have hc27 := bp hb27
                  refine g_y (q_call (Lawake) ?_)
                  rintro r rfl
                  refine pt_ (h:=a_ (h:=e_ (aw_ret (?_))))
                  refine e_ret ?_
                  first | rfl | (exfalso; simp_all)
                · have hc27 := bp hb27
                  refine g0_ (h:=pf_ (h:=a_ (h:=e_ (aw_ret (?_)))))
                  refine e_ret ?_
                  first | rfl | (exfalso; simp_all)
          · have hc24 := bp hb24
            refine d0_ 38 (h:=d0_ 39 (h:=d0_ 40 (h:=d0_ 41 (h:=d0_ 42 (h:=dpf_ 43 (h:=dpf_ 44 (h:=z_ (h:=t_ (cn_ (h:=kt_ (w_ (l_ (h:=l_ (h:=?_))))))))))))))
            refine al_p rfl (q_call (Pwhere hsn _) ?_)
            rintro r rfl
            refine m_ (h:=x_ (h:=x_ (h:=a_ (h:=a_ (h:=e_ (w_ (m_ (h:=nt_ (h:=m_ (h:=?_))))))))))
            refine al_gs false rfl rfl (fun hb28 => ?_) (fun hb28 => ?_)
            · have hc28 := bp hb28
              refine g0_ (h:=g0_ (h:=g0_ (h:=g0_ (h:=pt_ (h:=m_ (h:=?_))))))
              refine g_y (q_call (Lawake) ?_)
              rintro r rfl
              refine pt_ (h:=a_ (h:=e_ (aw_ret (?_))))
              refine e_ret ?_
              first | rfl | (exfalso; simp_all)
            · have hc28 := bp hb28
              refine l_ (h:=bd_ (h:=l_ (h:=?_)))
              refine g_y (q_call (hW.calls (0, 1) _) ?_)
              rintro r rfl
              refine pf_ (h:=m_ (h:=?_))
              refine al_gs true rfl rfl (fun hb29 => ?_) (fun hb29 => ?_)
              · have hc29 := bp hb29
                refine g_y (q_call (Lawake) ?_)
                rintro r rfl
                refine pt_ (h:=a_ (h:=e_ (aw_ret (?_))))
                refine e_ret ?_
                first | rfl | (exfalso; simp_all)
              · have hc29 := bp hb29
                refine g0_ (h:=pf_ (h:=a_ (h:=e_ (aw_ret (?_)))))
                refine e_ret ?_
                first | rfl | (exfalso; simp_all)
        · have hc23 := bp hb23
          refine d0_ 32 (h:=d0_ 33 (h:=d0_ 34 (h:=d0_ 35 (h:=dpf_ 36 (h:=dm_ 37 (h:=d0_ 38 (h:=d0_ 39 (h:=d0_ 40 (h:=d0_ 41 (h:=d0_ 42 (h:=dpf_ 43 (h:=dpf_ 44 (h:=z_ (h:=t_ (cn_ (h:=kt_ (w_ (l_ (h:=l_ (h:=?_))))))))))))))))))))
          refine al_p rfl (q_call (Pwhere hsn _) ?_)
          rintro r rfl
          refine m_ (h:=x_ (h:=x_ (h:=a_ (h:=a_ (h:=e_ (w_ (m_ (h:=nt_ (h:=m_ (h:=?_))))))))))
          refine al_gs false rfl rfl (fun hb30 => ?_) (fun hb30 => ?_)
          · have hc30 := bp hb30
            refine g0_ (h:=g0_ (h:=g0_ (h:=g0_ (h:=pt_ (h:=m_ (h:=?_))))))
            refine g_y (q_call (Lawake) ?_)
            rintro r rfl
            refine pt_ (h:=a_ (h:=e_ (aw_ret (?_))))
            refine e_ret ?_
            first | rfl | (exfalso; simp_all)
          · have hc30 := bp hb30
            refine l_ (h:=bd_ (h:=l_ (h:=?_)))
            refine g_y (q_call (hW.calls (0, 1) _) ?_)
            rintro r rfl
            refine pf_ (h:=m_ (h:=?_))
            refine al_gs true rfl rfl (fun hb31 => ?_) (fun hb31 => ?_)
            · have hc31 := bp hb31
              refine g_y (q_call (Lawake) ?_)
              rintro r rfl
              refine pt_ (h:=a_ (h:=e_ (aw_ret (?_))))
              refine e_ret ?_
              first | rfl | (exfalso; simp_all)
            · have hc31 := bp hb31
              refine g0_ (h:=pf_ (h:=a_ (h:=e_ (aw_ret (?_)))))
              refine e_ret ?_
              first | rfl | (exfalso; simp_all)

end
end Go.Proofs.Ytgliiknfmlmddaa
