/-
  Part 15 of the proof of FilesLinksP: what the statement's proof uses of the texts in wip/tpl.
-/
import Derived.OpenShut
import Derived.ChangeArms
import Derived.ChangeOld
import Derived.DataReads
import Derived.DataElems
import Derived.Test.YthcbdkmhamhciaaQl14
namespace Go.Proofs.Ythcbdkmhamhciaa
open Go.RowKit

theorem lnk_err (f : Fls) (dir : Fil) (name : Str) (a : Fil) : ((linkL f dir name a).2.2 ≠ 0 → (linkL f dir name a).1 = []) ∧ (linkL f dir name a).2.1.length ≤ 1000 := by
  unfold linkL
  repeat' split
  all_goals first | exact ⟨fun _ => rfl, Nat.zero_le _⟩ | exact ⟨fun h => absurd rfl h, by simp⟩
section
set_option maxRecDepth 20000
set_option maxHeartbeats 2000000
theorem Llinks (l : List Int) : AFn Try.prog 5 [.sl 1 (l.map intA) none] (fun r => r = .v (.bool true)) := by
  refine enter Try.func5 rfl rfl rfl rfl rfl 0 rfl ?_
  refine w_ (a_ (h:=e_ (w_ (m_ (h:=?_)))))
  refine al_p rfl (s_callN rfl (by repeat (first | exact Args.nil | refine Args.cons _ _ _ _ _ rfl (argOk_clean rfl) ?_ | refine Args.cons _ _ _ _ _ rfl (argOk_nil _) ?_ | refine Args.cons _ _ _ _ _ rfl (argOk_era _) ?_ | refine Args.cons _ _ _ _ _ rfl (argOk_le rfl (by repeat (first | exact LeA.refl _ | exact LeA.nil _ | exact LeL.refl _ | refine LeA.agg ?_ | refine LeA.tup ?_ | exact LeL.nil | refine LeL.cons ?_ ?_ | exact LeA.any _))) ?_)) rfl (Gnew l) (by repeat constructor) ?_)
  skip
  refine a_ (h:=e_ (w_ (m_ (h:=?_))))
  refine al_p rfl (s_gen 0 (hc := Gfiles l _ (by omega)) (hR := ?_))
  rintro r a1 ha1 ⟨f, rfl, hv, hp⟩
  refine ⟨rfl, _, (by repeat constructor), ?_⟩
  have hf := hv.b
  have hne := hv.ne
  refine al_ (h:=s_ (h:=e_ (q_ (w_ (a_ (h:=e_ (aw_block (?_))))))))
  refine aw_loopW (fun m t => ∃ (j b : Nat), j ≤ 5 ∧ m = 5 - j ∧ b ≤ 1000 + 100 * j ∧ t = ⟨look [(3, .bp 0 0), (4, .bp 1 0), (5, .v (.int .i64 (j : Int)))], ⟨[srcA l b, flsA f], []⟩⟩) (5) ((wk 2 0)) (⟨0, _, by omega, rfl, by omega, rfl⟩) ?_
  rintro m t ⟨j, b, hj, rfl, hbb, rfl⟩
  refine q_ (w_ (m_ (h:=lt_ (h:=e_ (?_)))))
  refine aw_cond rfl (fun hb1 => ?_) (fun hb1 => ?_)
  · have hc1 := bp hb1
    refine kt_ (q_ (aw_block (?_)))
    refine aw_midI (fun t => ∃ (x y : Fil) (k : Str) (b2 : Nat), k.size ≤ 13 ∧ b2 ≤ b + 100 ∧ t = ⟨look [(3, .bp 0 0), (4, .bp 1 0), (5, .v (.int .i64 (j : Int))), (6, .bp 2 0), (7, .v (.string k)), (8, .bp 3 0)], ⟨[srcA l b2, flsA f, filA x, filA y], []⟩⟩) ?_ ?_
    · skip
      refine yk_ ([(1, flsA f)]) 12 (h:=dm_ 0 (h:=dl_ 1 (h:=dm_ 3 (h:=dm_ 5 (h:=dl_ 6 (h:=?_))))))
      refine cm_ 2 (ao_ 2 rfl ?_ (ao_ 8 rfl ?_ (ao_ 9 rfl ?_ ao_n)))
      · refine s_gen 0 (hc := Gfile l _ f (by omega) hf hne) (hR := ?_)
        rintro r a2 ha2 ⟨x2, rfl⟩
        refine ⟨rfl, _, (by repeat constructor), ?_⟩
        refine o_ (h:=?_)
        refine cm_ 4 (ao_ 4 rfl ?_ (ao_ 8 rfl ?_ (ao_ 9 rfl ?_ ao_n)))
        · refine s_gen 0 (hc := Gname l _ (by omega)) (hR := ?_)
          rintro r a3 ha3 ⟨k3, rfl, hk3⟩
          refine ⟨rfl, _, (by repeat constructor), ?_⟩
          refine o_ (h:=?_)
          refine cm_ 7 (ao_ 7 rfl ?_ (ao_ 8 rfl ?_ (ao_ 9 rfl ?_ ao_n)))
          · refine s_gen 0 (hc := Gfile l _ f (by omega) hf hne) (hR := ?_)
            rintro r a4 ha4 ⟨x4, rfl⟩
            refine ⟨rfl, _, (by repeat constructor), ?_⟩
            refine o_ (h:=?_)
            refine c2_ 8 9 rfl rfl ?_ ?_
            · refine s_alloc (by repeat constructor) ?_
              refine o_ (h:=?_)
              refine c_ 9 rfl (s_alloc (by repeat constructor) ?_)
              refine o_ (h:=?_)
              refine c0_ 10 rfl (s_store rfl rfl rfl rfl rfl rfl (by repeat constructor) (by repeat constructor) ?_)
              refine o_ (h:=da_ 11 (h:=?_))
              refine c0_ 12 rfl (s_store rfl rfl rfl rfl rfl rfl (by repeat constructor) (by repeat constructor) ?_)
              refine o_ (h:=z_ (h:=?_))
              refine x_then ?_
              first
              | refine ⟨_, ⟨_, _, _, _, ?_, ?_, rfl⟩, (wk 4 0)⟩
              | refine ⟨_, ⟨_, _, _, _, ?_, ?_, rfl⟩, weak_ren [0, 1, 3, 2] (fun i hi => absurd hi (Nat.not_lt_zero i)) (by decide) (.cons _ _ _ _ _ rfl rfl (.cons _ _ _ _ _ rfl rfl (.cons _ _ _ _ _ rfl rfl (.cons _ _ _ _ _ rfl rfl .nil)))) (by repeat (first | exact SubK.nil | refine SubK.cons _ _ _ _ rfl (LeA.refl _) ?_))⟩
              · assumption
              · omega
            · refine s_alloc (by repeat constructor) ?_
              refine o_ (h:=?_)
              refine c_ 8 rfl (s_alloc (by repeat constructor) ?_)
              refine o_ (h:=?_)
              refine c0_ 10 rfl (s_store rfl rfl rfl rfl rfl rfl (by repeat constructor) (by repeat constructor) ?_)
              refine o_ (h:=da_ 11 (h:=?_))
              refine c0_ 12 rfl (s_store rfl rfl rfl rfl rfl rfl (by repeat constructor) (by repeat constructor) ?_)
              refine o_ (h:=z_ (h:=?_))
              refine x_then ?_
              first
              | refine ⟨_, ⟨_, _, _, _, ?_, ?_, rfl⟩, (wk 4 0)⟩
              | refine ⟨_, ⟨_, _, _, _, ?_, ?_, rfl⟩, weak_ren [0, 1, 3, 2] (fun i hi => absurd hi (Nat.not_lt_zero i)) (by decide) (.cons _ _ _ _ _ rfl rfl (.cons _ _ _ _ _ rfl rfl (.cons _ _ _ _ _ rfl rfl (.cons _ _ _ _ _ rfl rfl .nil)))) (by repeat (first | exact SubK.nil | refine SubK.cons _ _ _ _ rfl (LeA.refl _) ?_))⟩
              · assumption
              · omega
          · refine s_alloc (by repeat constructor) ?_
            refine o_ (h:=?_)
            refine c2_ 7 9 rfl rfl ?_ ?_
            · refine s_gen 0 (hc := Gfile l _ f (by omega) hf hne) (hR := ?_)
              rintro r a5 ha5 ⟨x5, rfl⟩
              refine ⟨rfl, _, (by repeat constructor), ?_⟩
              refine o_ (h:=?_)
              refine c_ 9 rfl (s_alloc (by repeat constructor) ?_)
              refine o_ (h:=?_)
              refine c0_ 10 rfl (s_store rfl rfl rfl rfl rfl rfl (by repeat constructor) (by repeat constructor) ?_)
              refine o_ (h:=da_ 11 (h:=?_))
              refine c0_ 12 rfl (s_store rfl rfl rfl rfl rfl rfl (by repeat constructor) (by repeat constructor) ?_)
              refine o_ (h:=z_ (h:=?_))
              refine x_then ?_
              first
              | refine ⟨_, ⟨_, _, _, _, ?_, ?_, rfl⟩, (wk 4 0)⟩
              | refine ⟨_, ⟨_, _, _, _, ?_, ?_, rfl⟩, weak_ren [0, 1, 3, 2] (fun i hi => absurd hi (Nat.not_lt_zero i)) (by decide) (.cons _ _ _ _ _ rfl rfl (.cons _ _ _ _ _ rfl rfl (.cons _ _ _ _ _ rfl rfl (.cons _ _ _ _ _ rfl rfl .nil)))) (by repeat (first | exact SubK.nil | refine SubK.cons _ _ _ _ rfl (LeA.refl _) ?_))⟩
              · assumption
              · omega
            · refine s_alloc (by repeat constructor) ?_
              refine o_ (h:=?_)
              refine c_ 7 rfl (s_gen 0 (hc := Gfile l _ f (by omega) hf hne) (hR := ?_))
              rintro r a6 ha6 ⟨x6, rfl⟩
              refine ⟨rfl, _, (by repeat constructor), ?_⟩
              refine o_ (h:=?_)
              refine c0_ 10 rfl (s_store rfl rfl rfl rfl rfl rfl (by repeat constructor) (by repeat constructor) ?_)
              refine o_ (h:=da_ 11 (h:=?_))
              refine c0_ 12 rfl (s_store rfl rfl rfl rfl rfl rfl (by repeat constructor) (by repeat constructor) ?_)
              refine o_ (h:=z_ (h:=?_))
              refine x_then ?_
              first
              | refine ⟨_, ⟨_, _, _, _, ?_, ?_, rfl⟩, (wk 4 0)⟩
              | refine ⟨_, ⟨_, _, _, _, ?_, ?_, rfl⟩, weak_ren [0, 1, 3, 2] (fun i hi => absurd hi (Nat.not_lt_zero i)) (by decide) (.cons _ _ _ _ _ rfl rfl (.cons _ _ _ _ _ rfl rfl (.cons _ _ _ _ _ rfl rfl (.cons _ _ _ _ _ rfl rfl .nil)))) (by repeat (first | exact SubK.nil | refine SubK.cons _ _ _ _ rfl (LeA.refl _) ?_))⟩
              · assumption
              · omega
          · refine s_alloc (by repeat constructor) ?_
            refine o_ (h:=?_)
            refine c2_ 7 8 rfl rfl ?_ ?_
            · refine s_gen 0 (hc := Gfile l _ f (by omega) hf hne) (hR := ?_)
              rintro r a7 ha7 ⟨x7, rfl⟩
              refine ⟨rfl, _, (by repeat constructor), ?_⟩
              refine o_ (h:=?_)
              refine c_ 8 rfl (s_alloc (by repeat constructor) ?_)
              refine o_ (h:=?_)
              refine c0_ 10 rfl (s_store rfl rfl rfl rfl rfl rfl (by repeat constructor) (by repeat constructor) ?_)
              refine o_ (h:=da_ 11 (h:=?_))
              refine c0_ 12 rfl (s_store rfl rfl rfl rfl rfl rfl (by repeat constructor) (by repeat constructor) ?_)
              refine o_ (h:=z_ (h:=?_))
              refine x_then ?_
              first
              | refine ⟨_, ⟨_, _, _, _, ?_, ?_, rfl⟩, (wk 4 0)⟩
              | refine ⟨_, ⟨_, _, _, _, ?_, ?_, rfl⟩, weak_ren [0, 1, 3, 2] (fun i hi => absurd hi (Nat.not_lt_zero i)) (by decide) (.cons _ _ _ _ _ rfl rfl (.cons _ _ _ _ _ rfl rfl (.cons _ _ _ _ _ rfl rfl (.cons _ _ _ _ _ rfl rfl .nil)))) (by repeat (first | exact SubK.nil | refine SubK.cons _ _ _ _ rfl (LeA.refl _) ?_))⟩
              · assumption
              · omega
            · refine s_alloc (by repeat constructor) ?_
              refine o_ (h:=?_)
              refine c_ 7 rfl (s_gen 0 (hc := Gfile l _ f (by omega) hf hne) (hR := ?_))
              rintro r a8 ha8 ⟨x8, rfl⟩
              refine ⟨rfl, _, (by repeat constructor), ?_⟩
              refine o_ (h:=?_)
              refine c0_ 10 rfl (s_store rfl rfl rfl rfl rfl rfl (by repeat constructor) (by repeat constructor) ?_)
              refine o_ (h:=da_ 11 (h:=?_))
              refine c0_ 12 rfl (s_store rfl rfl rfl rfl rfl rfl (by repeat constructor) (by repeat constructor) ?_)
              refine o_ (h:=z_ (h:=?_))
              refine x_then ?_
              first
              | refine ⟨_, ⟨_, _, _, _, ?_, ?_, rfl⟩, (wk 4 0)⟩
              | refine ⟨_, ⟨_, _, _, _, ?_, ?_, rfl⟩, weak_ren [0, 1, 3, 2] (fun i hi => absurd hi (Nat.not_lt_zero i)) (by decide) (.cons _ _ _ _ _ rfl rfl (.cons _ _ _ _ _ rfl rfl (.cons _ _ _ _ _ rfl rfl (.cons _ _ _ _ _ rfl rfl .nil)))) (by repeat (first | exact SubK.nil | refine SubK.cons _ _ _ _ rfl (LeA.refl _) ?_))⟩
              · assumption
              · omega
        · refine s_alloc (by repeat constructor) ?_
          refine o_ (h:=?_)
          refine c2_ 4 9 rfl rfl ?_ ?_
          · refine s_gen 0 (hc := Gname l _ (by omega)) (hR := ?_)
            rintro r a9 ha9 ⟨k9, rfl, hk9⟩
            refine ⟨rfl, _, (by repeat constructor), ?_⟩
            refine o_ (h:=?_)
            refine c2_ 7 9 rfl rfl ?_ ?_
            · refine s_gen 0 (hc := Gfile l _ f (by omega) hf hne) (hR := ?_)
              rintro r a10 ha10 ⟨x10, rfl⟩
              refine ⟨rfl, _, (by repeat constructor), ?_⟩
              refine o_ (h:=?_)
              refine c_ 9 rfl (s_alloc (by repeat constructor) ?_)
              refine o_ (h:=?_)
              refine c0_ 10 rfl (s_store rfl rfl rfl rfl rfl rfl (by repeat constructor) (by repeat constructor) ?_)
              refine o_ (h:=da_ 11 (h:=?_))
              refine c0_ 12 rfl (s_store rfl rfl rfl rfl rfl rfl (by repeat constructor) (by repeat constructor) ?_)
              refine o_ (h:=z_ (h:=?_))
              refine x_then ?_
              first
              | refine ⟨_, ⟨_, _, _, _, ?_, ?_, rfl⟩, (wk 4 0)⟩
              | refine ⟨_, ⟨_, _, _, _, ?_, ?_, rfl⟩, weak_ren [0, 1, 3, 2] (fun i hi => absurd hi (Nat.not_lt_zero i)) (by decide) (.cons _ _ _ _ _ rfl rfl (.cons _ _ _ _ _ rfl rfl (.cons _ _ _ _ _ rfl rfl (.cons _ _ _ _ _ rfl rfl .nil)))) (by repeat (first | exact SubK.nil | refine SubK.cons _ _ _ _ rfl (LeA.refl _) ?_))⟩
              · assumption
              · omega
            · refine s_alloc (by repeat constructor) ?_
              refine o_ (h:=?_)
              refine c_ 7 rfl (s_gen 0 (hc := Gfile l _ f (by omega) hf hne) (hR := ?_))
              rintro r a11 ha11 ⟨x11, rfl⟩
              refine ⟨rfl, _, (by repeat constructor), ?_⟩
              refine o_ (h:=?_)
              refine c0_ 10 rfl (s_store rfl rfl rfl rfl rfl rfl (by repeat constructor) (by repeat constructor) ?_)
              refine o_ (h:=da_ 11 (h:=?_))
              refine c0_ 12 rfl (s_store rfl rfl rfl rfl rfl rfl (by repeat constructor) (by repeat constructor) ?_)
              refine o_ (h:=z_ (h:=?_))
              refine x_then ?_
              first
              | refine ⟨_, ⟨_, _, _, _, ?_, ?_, rfl⟩, (wk 4 0)⟩
              | refine ⟨_, ⟨_, _, _, _, ?_, ?_, rfl⟩, weak_ren [0, 1, 3, 2] (fun i hi => absurd hi (Nat.not_lt_zero i)) (by decide) (.cons _ _ _ _ _ rfl rfl (.cons _ _ _ _ _ rfl rfl (.cons _ _ _ _ _ rfl rfl (.cons _ _ _ _ _ rfl rfl .nil)))) (by repeat (first | exact SubK.nil | refine SubK.cons _ _ _ _ rfl (LeA.refl _) ?_))⟩
              · assumption
              · omega
          · refine s_alloc (by repeat constructor) ?_
            refine o_ (h:=?_)
            refine c_ 4 rfl (s_gen 0 (hc := Gname l _ (by omega)) (hR := ?_))
            rintro r a12 ha12 ⟨k12, rfl, hk12⟩
            refine ⟨rfl, _, (by repeat constructor), ?_⟩
            refine o_ (h:=?_)
            refine c_ 7 rfl (s_gen 0 (hc := Gfile l _ f (by omega) hf hne) (hR := ?_))
            rintro r a13 ha13 ⟨x13, rfl⟩
            refine ⟨rfl, _, (by repeat constructor), ?_⟩
            refine o_ (h:=?_)
            refine c0_ 10 rfl (s_store rfl rfl rfl rfl rfl rfl (by repeat constructor) (by repeat constructor) ?_)
            refine o_ (h:=da_ 11 (h:=?_))
            refine c0_ 12 rfl (s_store rfl rfl rfl rfl rfl rfl (by repeat constructor) (by repeat constructor) ?_)
            refine o_ (h:=z_ (h:=?_))
            refine x_then ?_
            first
            | refine ⟨_, ⟨_, _, _, _, ?_, ?_, rfl⟩, (wk 4 0)⟩
            | refine ⟨_, ⟨_, _, _, _, ?_, ?_, rfl⟩, weak_ren [0, 1, 3, 2] (fun i hi => absurd hi (Nat.not_lt_zero i)) (by decide) (.cons _ _ _ _ _ rfl rfl (.cons _ _ _ _ _ rfl rfl (.cons _ _ _ _ _ rfl rfl (.cons _ _ _ _ _ rfl rfl .nil)))) (by repeat (first | exact SubK.nil | refine SubK.cons _ _ _ _ rfl (LeA.refl _) ?_))⟩
            · assumption
            · omega
        · refine s_alloc (by repeat constructor) ?_
          refine o_ (h:=?_)
          refine c2_ 4 8 rfl rfl ?_ ?_
          · refine s_gen 0 (hc := Gname l _ (by omega)) (hR := ?_)
            rintro r a14 ha14 ⟨k14, rfl, hk14⟩
            refine ⟨rfl, _, (by repeat constructor), ?_⟩
            refine o_ (h:=?_)
            refine c2_ 7 8 rfl rfl ?_ ?_
            · refine s_gen 0 (hc := Gfile l _ f (by omega) hf hne) (hR := ?_)
              rintro r a15 ha15 ⟨x15, rfl⟩
              refine ⟨rfl, _, (by repeat constructor), ?_⟩
              refine o_ (h:=?_)
              refine c_ 8 rfl (s_alloc (by repeat constructor) ?_)
              refine o_ (h:=?_)
              refine c0_ 10 rfl (s_store rfl rfl rfl rfl rfl rfl (by repeat constructor) (by repeat constructor) ?_)
              refine o_ (h:=da_ 11 (h:=?_))
              refine c0_ 12 rfl (s_store rfl rfl rfl rfl rfl rfl (by repeat constructor) (by repeat constructor) ?_)
              refine o_ (h:=z_ (h:=?_))
              refine x_then ?_
              first
              | refine ⟨_, ⟨_, _, _, _, ?_, ?_, rfl⟩, (wk 4 0)⟩
              | refine ⟨_, ⟨_, _, _, _, ?_, ?_, rfl⟩, weak_ren [0, 1, 3, 2] (fun i hi => absurd hi (Nat.not_lt_zero i)) (by decide) (.cons _ _ _ _ _ rfl rfl (.cons _ _ _ _ _ rfl rfl (.cons _ _ _ _ _ rfl rfl (.cons _ _ _ _ _ rfl rfl .nil)))) (by repeat (first | exact SubK.nil | refine SubK.cons _ _ _ _ rfl (LeA.refl _) ?_))⟩
              · assumption
              · omega
            · refine s_alloc (by repeat constructor) ?_
              refine o_ (h:=?_)
              refine c_ 7 rfl (s_gen 0 (hc := Gfile l _ f (by omega) hf hne) (hR := ?_))
              rintro r a16 ha16 ⟨x16, rfl⟩
              refine ⟨rfl, _, (by repeat constructor), ?_⟩
              refine o_ (h:=?_)
              refine c0_ 10 rfl (s_store rfl rfl rfl rfl rfl rfl (by repeat constructor) (by repeat constructor) ?_)
              refine o_ (h:=da_ 11 (h:=?_))
              refine c0_ 12 rfl (s_store rfl rfl rfl rfl rfl rfl (by repeat constructor) (by repeat constructor) ?_)
              refine o_ (h:=z_ (h:=?_))
              refine x_then ?_
              first
              | refine ⟨_, ⟨_, _, _, _, ?_, ?_, rfl⟩, (wk 4 0)⟩
              | refine ⟨_, ⟨_, _, _, _, ?_, ?_, rfl⟩, weak_ren [0, 1, 3, 2] (fun i hi => absurd hi (Nat.not_lt_zero i)) (by decide) (.cons _ _ _ _ _ rfl rfl (.cons _ _ _ _ _ rfl rfl (.cons _ _ _ _ _ rfl rfl (.cons _ _ _ _ _ rfl rfl .nil)))) (by repeat (first | exact SubK.nil | refine SubK.cons _ _ _ _ rfl (LeA.refl _) ?_))⟩
              · assumption
              · omega
          · refine s_alloc (by repeat constructor) ?_
            refine o_ (h:=?_)
            refine c_ 4 rfl (s_gen 0 (hc := Gname l _ (by omega)) (hR := ?_))
            rintro r a17 ha17 ⟨k17, rfl, hk17⟩
            refine ⟨rfl, _, (by repeat constructor), ?_⟩
            refine o_ (h:=?_)
            refine c_ 7 rfl (s_gen 0 (hc := Gfile l _ f (by omega) hf hne) (hR := ?_))
            rintro r a18 ha18 ⟨x18, rfl⟩
            refine ⟨rfl, _, (by repeat constructor), ?_⟩
            refine o_ (h:=?_)
            refine c0_ 10 rfl (s_store rfl rfl rfl rfl rfl rfl (by repeat constructor) (by repeat constructor) ?_)
            refine o_ (h:=da_ 11 (h:=?_))
            refine c0_ 12 rfl (s_store rfl rfl rfl rfl rfl rfl (by repeat constructor) (by repeat constructor) ?_)
            refine o_ (h:=z_ (h:=?_))
            refine x_then ?_
            first
            | refine ⟨_, ⟨_, _, _, _, ?_, ?_, rfl⟩, (wk 4 0)⟩
            | refine ⟨_, ⟨_, _, _, _, ?_, ?_, rfl⟩, weak_ren [0, 1, 3, 2] (fun i hi => absurd hi (Nat.not_lt_zero i)) (by decide) (.cons _ _ _ _ _ rfl rfl (.cons _ _ _ _ _ rfl rfl (.cons _ _ _ _ _ rfl rfl (.cons _ _ _ _ _ rfl rfl .nil)))) (by repeat (first | exact SubK.nil | refine SubK.cons _ _ _ _ rfl (LeA.refl _) ?_))⟩
            · assumption
            · omega
      · refine s_alloc (by repeat constructor) ?_
        refine o_ (h:=?_)
        refine c2_ 2 9 rfl rfl ?_ ?_
        · refine s_gen 0 (hc := Gfile l _ f (by omega) hf hne) (hR := ?_)
          rintro r a19 ha19 ⟨x19, rfl⟩
          refine ⟨rfl, _, (by repeat constructor), ?_⟩
          refine o_ (h:=?_)
          refine c2_ 4 9 rfl rfl ?_ ?_
          · refine s_gen 0 (hc := Gname l _ (by omega)) (hR := ?_)
            rintro r a20 ha20 ⟨k20, rfl, hk20⟩
            refine ⟨rfl, _, (by repeat constructor), ?_⟩
            refine o_ (h:=?_)
            refine c2_ 7 9 rfl rfl ?_ ?_
            · refine s_gen 0 (hc := Gfile l _ f (by omega) hf hne) (hR := ?_)
              rintro r a21 ha21 ⟨x21, rfl⟩
              refine ⟨rfl, _, (by repeat constructor), ?_⟩
              refine o_ (h:=?_)
              refine c_ 9 rfl (s_alloc (by repeat constructor) ?_)
              refine o_ (h:=?_)
              refine c0_ 10 rfl (s_store rfl rfl rfl rfl rfl rfl (by repeat constructor) (by repeat constructor) ?_)
              refine o_ (h:=da_ 11 (h:=?_))
              refine c0_ 12 rfl (s_store rfl rfl rfl rfl rfl rfl (by repeat constructor) (by repeat constructor) ?_)
              refine o_ (h:=z_ (h:=?_))
              refine x_then ?_
              first
              | refine ⟨_, ⟨_, _, _, _, ?_, ?_, rfl⟩, (wk 4 0)⟩
              | refine ⟨_, ⟨_, _, _, _, ?_, ?_, rfl⟩, weak_ren [0, 1, 3, 2] (fun i hi => absurd hi (Nat.not_lt_zero i)) (by decide) (.cons _ _ _ _ _ rfl rfl (.cons _ _ _ _ _ rfl rfl (.cons _ _ _ _ _ rfl rfl (.cons _ _ _ _ _ rfl rfl .nil)))) (by repeat (first | exact SubK.nil | refine SubK.cons _ _ _ _ rfl (LeA.refl _) ?_))⟩
              · assumption
              · omega
            · refine s_alloc (by repeat constructor) ?_
              refine o_ (h:=?_)
              refine c_ 7 rfl (s_gen 0 (hc := Gfile l _ f (by omega) hf hne) (hR := ?_))
              rintro r a22 ha22 ⟨x22, rfl⟩
              refine ⟨rfl, _, (by repeat constructor), ?_⟩
              refine o_ (h:=?_)
              refine c0_ 10 rfl (s_store rfl rfl rfl rfl rfl rfl (by repeat constructor) (by repeat constructor) ?_)
              refine o_ (h:=da_ 11 (h:=?_))
              refine c0_ 12 rfl (s_store rfl rfl rfl rfl rfl rfl (by repeat constructor) (by repeat constructor) ?_)
              refine o_ (h:=z_ (h:=?_))
              refine x_then ?_
              first
              | refine ⟨_, ⟨_, _, _, _, ?_, ?_, rfl⟩, (wk 4 0)⟩
              | refine ⟨_, ⟨_, _, _, _, ?_, ?_, rfl⟩, weak_ren [0, 1, 3, 2] (fun i hi => absurd hi (Nat.not_lt_zero i)) (by decide) (.cons _ _ _ _ _ rfl rfl (.cons _ _ _ _ _ rfl rfl (.cons _ _ _ _ _ rfl rfl (.cons _ _ _ _ _ rfl rfl .nil)))) (by repeat (first | exact SubK.nil | refine SubK.cons _ _ _ _ rfl (LeA.refl _) ?_))⟩
              · assumption
              · omega
          · refine s_alloc (by repeat constructor) ?_
            refine o_ (h:=?_)
            refine c_ 4 rfl (s_gen 0 (hc := Gname l _ (by omega)) (hR := ?_))
            rintro r a23 ha23 ⟨k23, rfl, hk23⟩
            refine ⟨rfl, _, (by repeat constructor), ?_⟩
            refine o_ (h:=?_)
            refine c_ 7 rfl (s_gen 0 (hc := Gfile l _ f (by omega) hf hne) (hR := ?_))
            rintro r a24 ha24 ⟨x24, rfl⟩
            refine ⟨rfl, _, (by repeat constructor), ?_⟩
            refine o_ (h:=?_)
            refine c0_ 10 rfl (s_store rfl rfl rfl rfl rfl rfl (by repeat constructor) (by repeat constructor) ?_)
            refine o_ (h:=da_ 11 (h:=?_))
            refine c0_ 12 rfl (s_store rfl rfl rfl rfl rfl rfl (by repeat constructor) (by repeat constructor) ?_)
            refine o_ (h:=z_ (h:=?_))
            refine x_then ?_
            first
            | refine ⟨_, ⟨_, _, _, _, ?_, ?_, rfl⟩, (wk 4 0)⟩
            | refine ⟨_, ⟨_, _, _, _, ?_, ?_, rfl⟩, weak_ren [0, 1, 3, 2] (fun i hi => absurd hi (Nat.not_lt_zero i)) (by decide) (.cons _ _ _ _ _ rfl rfl (.cons _ _ _ _ _ rfl rfl (.cons _ _ _ _ _ rfl rfl (.cons _ _ _ _ _ rfl rfl .nil)))) (by repeat (first | exact SubK.nil | refine SubK.cons _ _ _ _ rfl (LeA.refl _) ?_))⟩
            · assumption
            · omega
        · refine s_alloc (by repeat constructor) ?_
          refine o_ (h:=?_)
          refine c_ 2 rfl (s_gen 0 (hc := Gfile l _ f (by omega) hf hne) (hR := ?_))
          rintro r a25 ha25 ⟨x25, rfl⟩
          refine ⟨rfl, _, (by repeat constructor), ?_⟩
          refine o_ (h:=?_)
          refine c_ 4 rfl (s_gen 0 (hc := Gname l _ (by omega)) (hR := ?_))
          rintro r a26 ha26 ⟨k26, rfl, hk26⟩
          refine ⟨rfl, _, (by repeat constructor), ?_⟩
          refine o_ (h:=?_)
          refine c_ 7 rfl (s_gen 0 (hc := Gfile l _ f (by omega) hf hne) (hR := ?_))
          rintro r a27 ha27 ⟨x27, rfl⟩
          refine ⟨rfl, _, (by repeat constructor), ?_⟩
          refine o_ (h:=?_)
          refine c0_ 10 rfl (s_store rfl rfl rfl rfl rfl rfl (by repeat constructor) (by repeat constructor) ?_)
          refine o_ (h:=da_ 11 (h:=?_))
          refine c0_ 12 rfl (s_store rfl rfl rfl rfl rfl rfl (by repeat constructor) (by repeat constructor) ?_)
          refine o_ (h:=z_ (h:=?_))
          refine x_then ?_
          first
          | refine ⟨_, ⟨_, _, _, _, ?_, ?_, rfl⟩, (wk 4 0)⟩
          | refine ⟨_, ⟨_, _, _, _, ?_, ?_, rfl⟩, weak_ren [0, 1, 3, 2] (fun i hi => absurd hi (Nat.not_lt_zero i)) (by decide) (.cons _ _ _ _ _ rfl rfl (.cons _ _ _ _ _ rfl rfl (.cons _ _ _ _ _ rfl rfl (.cons _ _ _ _ _ rfl rfl .nil)))) (by repeat (first | exact SubK.nil | refine SubK.cons _ _ _ _ rfl (LeA.refl _) ?_))⟩
          · assumption
          · omega
      · refine s_alloc (by repeat constructor) ?_
        refine o_ (h:=?_)
        refine c2_ 2 8 rfl rfl ?_ ?_
        · refine s_gen 0 (hc := Gfile l _ f (by omega) hf hne) (hR := ?_)
          rintro r a28 ha28 ⟨x28, rfl⟩
          refine ⟨rfl, _, (by repeat constructor), ?_⟩
          refine o_ (h:=?_)
          refine c2_ 4 8 rfl rfl ?_ ?_
          · refine s_gen 0 (hc := Gname l _ (by omega)) (hR := ?_)
            rintro r a29 ha29 ⟨k29, rfl, hk29⟩
            refine ⟨rfl, _, (by repeat constructor), ?_⟩
            refine o_ (h:=?_)
            refine c2_ 7 8 rfl rfl ?_ ?_
            · refine s_gen 0 (hc := Gfile l _ f (by omega) hf hne) (hR := ?_)
              rintro r a30 ha30 ⟨x30, rfl⟩
              refine ⟨rfl, _, (by repeat constructor), ?_⟩
              refine o_ (h:=?_)
              refine c_ 8 rfl (s_alloc (by repeat constructor) ?_)
              refine o_ (h:=?_)
              refine c0_ 10 rfl (s_store rfl rfl rfl rfl rfl rfl (by repeat constructor) (by repeat constructor) ?_)
              refine o_ (h:=da_ 11 (h:=?_))
              refine c0_ 12 rfl (s_store rfl rfl rfl rfl rfl rfl (by repeat constructor) (by repeat constructor) ?_)
              refine o_ (h:=z_ (h:=?_))
              refine x_then ?_
              first
              | refine ⟨_, ⟨_, _, _, _, ?_, ?_, rfl⟩, (wk 4 0)⟩
              | refine ⟨_, ⟨_, _, _, _, ?_, ?_, rfl⟩, weak_ren [0, 1, 3, 2] (fun i hi => absurd hi (Nat.not_lt_zero i)) (by decide) (.cons _ _ _ _ _ rfl rfl (.cons _ _ _ _ _ rfl rfl (.cons _ _ _ _ _ rfl rfl (.cons _ _ _ _ _ rfl rfl .nil)))) (by repeat (first | exact SubK.nil | refine SubK.cons _ _ _ _ rfl (LeA.refl _) ?_))⟩
              · assumption
              · omega
            · refine s_alloc (by repeat constructor) ?_
              refine o_ (h:=?_)
              refine c_ 7 rfl (s_gen 0 (hc := Gfile l _ f (by omega) hf hne) (hR := ?_))
              rintro r a31 ha31 ⟨x31, rfl⟩
              refine ⟨rfl, _, (by repeat constructor), ?_⟩
              refine o_ (h:=?_)
              refine c0_ 10 rfl (s_store rfl rfl rfl rfl rfl rfl (by repeat constructor) (by repeat constructor) ?_)
              refine o_ (h:=da_ 11 (h:=?_))
              refine c0_ 12 rfl (s_store rfl rfl rfl rfl rfl rfl (by repeat constructor) (by repeat constructor) ?_)
              refine o_ (h:=z_ (h:=?_))
              refine x_then ?_
              first
              | refine ⟨_, ⟨_, _, _, _, ?_, ?_, rfl⟩, (wk 4 0)⟩
              | refine ⟨_, ⟨_, _, _, _, ?_, ?_, rfl⟩, weak_ren [0, 1, 3, 2] (fun i hi => absurd hi (Nat.not_lt_zero i)) (by decide) (.cons _ _ _ _ _ rfl rfl (.cons _ _ _ _ _ rfl rfl (.cons _ _ _ _ _ rfl rfl (.cons _ _ _ _ _ rfl rfl .nil)))) (by repeat (first | exact SubK.nil | refine SubK.cons _ _ _ _ rfl (LeA.refl _) ?_))⟩
              · assumption
              · omega
          · refine s_alloc (by repeat constructor) ?_
            refine o_ (h:=?_)
            refine c_ 4 rfl (s_gen 0 (hc := Gname l _ (by omega)) (hR := ?_))
            rintro r a32 ha32 ⟨k32, rfl, hk32⟩
            refine ⟨rfl, _, (by repeat constructor), ?_⟩
            refine o_ (h:=?_)
            refine c_ 7 rfl (s_gen 0 (hc := Gfile l _ f (by omega) hf hne) (hR := ?_))
            rintro r a33 ha33 ⟨x33, rfl⟩
            refine ⟨rfl, _, (by repeat constructor), ?_⟩
            refine o_ (h:=?_)
            refine c0_ 10 rfl (s_store rfl rfl rfl rfl rfl rfl (by repeat constructor) (by repeat constructor) ?_)
            refine o_ (h:=da_ 11 (h:=?_))
            refine c0_ 12 rfl (s_store rfl rfl rfl rfl rfl rfl (by repeat constructor) (by repeat constructor) ?_)
            refine o_ (h:=z_ (h:=?_))
            refine x_then ?_
            first
            | refine ⟨_, ⟨_, _, _, _, ?_, ?_, rfl⟩, (wk 4 0)⟩
            | refine ⟨_, ⟨_, _, _, _, ?_, ?_, rfl⟩, weak_ren [0, 1, 3, 2] (fun i hi => absurd hi (Nat.not_lt_zero i)) (by decide) (.cons _ _ _ _ _ rfl rfl (.cons _ _ _ _ _ rfl rfl (.cons _ _ _ _ _ rfl rfl (.cons _ _ _ _ _ rfl rfl .nil)))) (by repeat (first | exact SubK.nil | refine SubK.cons _ _ _ _ rfl (LeA.refl _) ?_))⟩
            · assumption
            · omega
        · refine s_alloc (by repeat constructor) ?_
          refine o_ (h:=?_)
          refine c_ 2 rfl (s_gen 0 (hc := Gfile l _ f (by omega) hf hne) (hR := ?_))
          rintro r a34 ha34 ⟨x34, rfl⟩
          refine ⟨rfl, _, (by repeat constructor), ?_⟩
          refine o_ (h:=?_)
          refine c_ 4 rfl (s_gen 0 (hc := Gname l _ (by omega)) (hR := ?_))
          rintro r a35 ha35 ⟨k35, rfl, hk35⟩
          refine ⟨rfl, _, (by repeat constructor), ?_⟩
          refine o_ (h:=?_)
          refine c_ 7 rfl (s_gen 0 (hc := Gfile l _ f (by omega) hf hne) (hR := ?_))
          rintro r a36 ha36 ⟨x36, rfl⟩
          refine ⟨rfl, _, (by repeat constructor), ?_⟩
          refine o_ (h:=?_)
          refine c0_ 10 rfl (s_store rfl rfl rfl rfl rfl rfl (by repeat constructor) (by repeat constructor) ?_)
          refine o_ (h:=da_ 11 (h:=?_))
          refine c0_ 12 rfl (s_store rfl rfl rfl rfl rfl rfl (by repeat constructor) (by repeat constructor) ?_)
          refine o_ (h:=z_ (h:=?_))
          refine x_then ?_
          first
          | refine ⟨_, ⟨_, _, _, _, ?_, ?_, rfl⟩, (wk 4 0)⟩
          | refine ⟨_, ⟨_, _, _, _, ?_, ?_, rfl⟩, weak_ren [0, 1, 3, 2] (fun i hi => absurd hi (Nat.not_lt_zero i)) (by decide) (.cons _ _ _ _ _ rfl rfl (.cons _ _ _ _ _ rfl rfl (.cons _ _ _ _ _ rfl rfl (.cons _ _ _ _ _ rfl rfl .nil)))) (by repeat (first | exact SubK.nil | refine SubK.cons _ _ _ _ rfl (LeA.refl _) ?_))⟩
          · assumption
          · omega
    · rintro t ⟨x, y, k, b2, hk, hb2, rfl⟩
      have hb := okay_b (link_okay hv x k y) (lnk_err f x k y).1
      refine w_ (l_ (h:=l_ (h:=m_ (h:=l_ (h:=?_)))))
      refine al_p rfl (q_call (Plink f x k y hv) ?_)
      rintro r rfl
      refine m_ (h:=x_ (h:=x_ (h:=x_ (h:=al_ (h:=s_ (h:=a_ (h:=a_ (h:=e_ (w_ (l_ (h:=l_ (h:=m_ (h:=l_ (h:=?_))))))))))))))
      refine al_p rfl (q_call (Rlink f x k y hv (by omega)) ?_)
      rintro r rfl
      refine m_ (h:=x_ (h:=x_ (h:=x_ (h:=al_ (h:=s_ (h:=a_ (h:=a_ (h:=e_ (w_ (l_ (h:=m_ (h:=m_ (h:=l_ (h:=m_ (h:=m_ (h:=?_))))))))))))))))
      refine al_p rfl (q_call (Lbad (linkL f x k y) hb (lnk_err f x k y).2) ?_)
      rintro r rfl
      refine e_ (?_)
      refine aw_cond rfl (fun hb2 => ?_) (fun hb2 => ?_)
      · have hc2 := bp hb2
        exfalso; first | contradiction | omega
      · have hc2 := bp hb2
        refine aw_skip (x_blockN (t_ (aw_region (m_ (h:=ad_ (h:=a_ (h:=al_nil (?_))))))))
        refine x_then ?_
        refine ⟨_, _, ?_, ⟨j + 1, _, by omega, rfl, ?_, rfl⟩, (wk 2 0)⟩ <;> omega
  · have hc1 := bp hb1
    refine aw_exit (x_thenE (x_thenE (ABlock_out (t_ (w_ (?_))))))
    refine al_p rfl (q_call (Lawake5) ?_)
    rintro r rfl
    refine a_ (h:=e_ (aw_ret (?_)))
    refine e_ret ?_
    rfl

end
end Go.Proofs.Ythcbdkmhamhciaa
namespace Go.Proofs.Ythcbdkmhamhciaa
open Go.RowKit

def StAll (w : World) : Nat → Nat → Prop := fun b _ => b < w.heap.size
def Opens (P : Program) (t : TypeId) (R : List AV → Prop) : Prop :=
  ∀ (H : Type) (enc : TypeId × Value → H) (w : World) (base : Nat) (spare : Nat → Bool) (held : Bool) (fuel : Nat) (cs : List Value) (x : DataW H × List MemPlace), DataW.trod enc P w base spare held fuel t cs = some x →
    ∃ row, R row ∧ froL (StAll w) w row cs ∧ ∀ u ∈ cs, u.oneCell' = true
section
variable {P : Program} {t : TypeId}
theorem Opens.mono {R R' : List AV → Prop} (h : Opens P t R) (hR : ∀ r, R r → R' r) : Opens P t R' := by
  intro H enc w base spare held fuel cs x hx
  obtain ⟨row, h1, h2⟩ := h H enc w base spare held fuel cs x hx
  exact ⟨row, hR _ h1, h2⟩
theorem opens_int {k : IntKind} (ht : P.underlying t = some (.int k)) : Opens P t fun r => ∃ n, r = [.v (.int k n)] ∧ (Lit.int k n).wf = true := by
  intro H enc w base spare held fuel cs x hx
  obtain ⟨b, rfl, _, hw⟩ := DataW.trod_int ht hx
  exact ⟨_, ⟨b, rfl, hw⟩, ⟨_, _, rfl, by simp only [fro], by simp only [froL]⟩, by simp [Value.oneCell']⟩
theorem cell_lt' {w : World} {b o : Nat} {v : Value} (h : w.cell? ⟨b, o, none⟩ = some v) : b < w.heap.size := by
  rcases Nat.lt_or_ge b w.heap.size with hlt | hge
  · exact hlt
  · simp [World.cell?, Array.getElem?_eq_none hge] at h
theorem froL_length' {St : Nat → Nat → Prop} {w : World} {xs : List AV} {ys : List Value} (h : froL St w xs ys) : ys.length = xs.length := repL_length (G := ⟨St, [], []⟩) (repL_fro (G := ⟨St, [], []⟩) _ _ h)
theorem opens_slice {e : TypeId} {n : Nat} {R : List AV → Prop} (ht : P.underlying t = some (.slice e)) (hc : P.cellsOf e = n) (hn : 0 < n) (h : Opens P e R) : Opens P t fun r => ∃ rows, r = [.sl n rows none] ∧ rows.length ≤ maxLen ∧ ∀ x ∈ rows, R x := by
  intro H enc w base spare held fuel cs x hx
  rcases DataW.trod_slice ht hx with ⟨rfl, _⟩ | ⟨⟨b, off, spot⟩, len, cap, elems, rest, m, rfl, rfl, _, hb, hl, hm, hlen, hel, _, _⟩
  · exact ⟨_, ⟨[], rfl, Nat.zero_le _, by simp⟩, ⟨_, _, rfl, by simp only [fro]; exact ⟨trivial, none, 0, rfl, Nat.le_refl _, Nat.zero_le _, .inl trivial⟩, by simp only [froL]⟩, by simp [Value.oneCell']⟩
  · have each : ∀ i, i < len → ∃ row cs', R row ∧ row.length = n ∧ froL (StAll w) w row cs' ∧ (∀ u ∈ cs', u.oneCell' = true) ∧ cs'.length = n ∧ ∀ j, j < n → w.cell? (Addr.add ⟨b, off, spot⟩ (i * n + j)) = cs'[j]? := by
      intro i hi
      have h1 := hel i hi
      rw [hc, List.getElem?_eq_getElem (by omega), Option.bind_eq_some_iff] at h1
      obtain ⟨cs', h2, h3⟩ := h1
      obtain ⟨row, r1, r2, r3⟩ := h _ _ _ _ _ _ _ _ _ h3
      obtain ⟨_, c1, c2⟩ := World.cells?_some h2
      refine ⟨row, cs', r1, by rw [← froL_length' r2, c1], r2, r3, c1, fun j hj => ?_⟩
      have := c2 j hj
      rwa [Addr.add_add] at this
    have hrows : ∃ rows : List (List AV), rows.length = len ∧ (∀ i, i < len → ∃ row cs', rows[i]? = some row ∧ R row ∧ row.length = n ∧ froL (StAll w) w row cs' ∧ (∀ u ∈ cs', u.oneCell' = true) ∧ cs'.length = n ∧ ∀ j, j < n → w.cell? (Addr.add ⟨b, off, spot⟩ (i * n + j)) = cs'[j]?) := by
      clear hel
      have : ∀ k, k ≤ len → ∃ rows : List (List AV), rows.length = k ∧ (∀ i, i < k → ∃ row cs', rows[i]? = some row ∧ R row ∧ row.length = n ∧ froL (StAll w) w row cs' ∧ (∀ u ∈ cs', u.oneCell' = true) ∧ cs'.length = n ∧ ∀ j, j < n → w.cell? (Addr.add ⟨b, off, spot⟩ (i * n + j)) = cs'[j]?) := by
        intro k
        induction k with
        | zero => intro _; exact ⟨[], rfl, fun i hi => by omega⟩
        | succ k ih =>
          intro hk
          obtain ⟨rows, e1, e2⟩ := ih (by omega)
          obtain ⟨row, cs', q⟩ := each k (by omega)
          refine ⟨rows ++ [row], by simp [e1], fun i hi => ?_⟩
          rcases Nat.lt_or_ge i k with hlt | hge
          · obtain ⟨row', cs'', q1, q2⟩ := e2 i hlt
            exact ⟨row', cs'', by rw [List.getElem?_append_left (by omega)]; exact q1, q2⟩
          · obtain rfl : i = k := by omega
            exact ⟨row, cs', by rw [List.getElem?_append_right (by omega), e1]; simp, q⟩
      exact this len (Nat.le_refl _)
    obtain ⟨rows, e1, e2⟩ := hrows
    refine ⟨_, ⟨rows, rfl, by omega, fun x hx => ?_⟩, ⟨_, _, rfl, ?_, by simp only [froL]⟩, by simp [Value.oneCell']⟩
    · obtain ⟨i, hi⟩ := List.getElem?_of_mem hx
      obtain ⟨row, _, q1, q2, _⟩ := e2 i (by rw [← e1]; exact (List.getElem?_eq_some_iff.1 hi).1)
      rw [hi] at q1
      injection q1 with q1
      subst q1
      exact q2
    · simp only [fro]
      refine ⟨trivial, some ⟨b, off, spot⟩, cap, by rw [e1], by omega, hm, ?_⟩
      rcases Nat.eq_zero_or_pos len with h0 | h0
      · left; exact List.eq_nil_of_length_eq_zero (by omega)
      · right
        have hspot : spot = none := by
          obtain ⟨_, cs', _, _, _, _, _, c3, c4⟩ := e2 0 h0
          have := c4 0 hn
          rw [List.getElem?_eq_getElem (by omega)] at this
          simpa [Addr.add] using World.cell?_spot this
        subst hspot
        refine ⟨b, off, rfl, ?_⟩
        have : ∀ (rs : List (List AV)) (k : Nat), (∀ i r, rs[i]? = some r → rows[k + i]? = some r) → froR (StAll w) w b n rs (off + k * n) := by
          intro rs
          induction rs with
          | nil => intro k _; simp only [froR]
          | cons r rs ih =>
            intro k hk
            simp only [froR]
            have h1 := hk 0 r rfl
            rw [Nat.add_zero] at h1
            obtain ⟨row, cs', q1, _, q3, q4, q5, q6, q7⟩ := e2 k (by rw [← e1]; exact (List.getElem?_eq_some_iff.1 h1).1)
            rw [h1] at q1
            injection q1 with q1
            subst q1
            refine ⟨⟨q3, froC_of fun i x hi => ?_⟩, ?_⟩
            · obtain ⟨u, u1, u2⟩ := froL_get q4 hi
              have hin : i < n := by rw [← q3]; exact (List.getElem?_eq_some_iff.1 hi).1
              have hc := q7 i hin
              rw [u1] at hc
              have hc' : w.cell? ⟨b, off + k * n + i, none⟩ = some u := by rw [Addr.add_mid] at hc; rwa [Nat.add_assoc]
              exact ⟨cell_lt' hc', u, hc', q5 u (List.mem_of_getElem? u1), u2⟩
            · have := ih (k + 1) (fun i r' hi => by
                have := hk (i + 1) r' (by simpa using hi)
                rwa [show k + 1 + i = k + (i + 1) by omega])
              rwa [show off + (k + 1) * n = off + k * n + n by rw [Nat.add_mul]; omega] at this
        simpa using this rows 0 (fun i r hi => by simpa using hi)
theorem rows_map {α : Type} {enc : α → List AV} {Q : α → Prop} : ∀ {rows : List (List AV)}, (∀ x ∈ rows, ∃ a, x = enc a ∧ Q a) → ∃ l : List α, rows = l.map enc ∧ ∀ a ∈ l, Q a
  | [], _ => ⟨[], rfl, by simp⟩
  | r :: rs, h => by
    obtain ⟨a, rfl, ha⟩ := h r (by simp)
    obtain ⟨l, rfl, hl⟩ := rows_map (rows := rs) fun x hx => h x (by simp [hx])
    exact ⟨a :: l, rfl, by simpa using ⟨ha, hl⟩⟩
theorem Opens.one {R : List AV → Prop} (h : Opens P t R) {H : Type} {enc : TypeId × Value → H} {w : World} {base : Nat} {spare : Nat → Bool} {held : Bool} {v : Value} {d : DataW H} {ps : List MemPlace} (hv : v.cells = #[v]) (hd : DataW.Trod enc P w base spare held t v d ps) :
    ∃ row, R row ∧ froL (StAll w) w row [v] := by
  obtain ⟨fuel, hf⟩ := hd
  rw [hv] at hf
  obtain ⟨row, h1, h2, _⟩ := h _ _ _ _ _ _ _ _ _ hf
  exact ⟨row, h1, h2⟩
end
end Go.Proofs.Ythcbdkmhamhciaa
namespace Go.Proofs.Ythcbdkmhamhciaa
open Go.RowKit

theorem opInts : Opens Try.prog 31 (fun r => ∃ l : List Int, r = [.sl 1 (l.map intA) none]) :=
  (opens_slice (n := 1) Try.underlying31 (by kernel_rfl) (by omega) (opens_int Try.underlying3)).mono (by
    rintro r ⟨rows, rfl, _, hr⟩
    obtain ⟨l, rfl, _⟩ := rows_map (enc := intA) (Q := fun _ => True) (fun x hx => by obtain ⟨t, rfl, _⟩ := hr x hx; exact ⟨t, rfl, trivial⟩)
    exact ⟨l, rfl⟩)
theorem ints_one {H : Type} {enc : TypeId × Value → H} {sp : Nat → Bool} {held : Bool} {base : Nat} {w : World} {a : Option Addr} {n c : Nat} {d : DataW H} {p : List MemPlace} (h : DataW.Trod enc Try.prog w base sp held 31 (.slice a n c) d p) :
    ∃ l : List Int, rep ⟨StAll w, [], []⟩ w (.sl 1 (l.map intA) none) (.slice a n c) := by
  obtain ⟨r0, ⟨l, rfl⟩, k0⟩ := opInts.one rfl h
  simp only [froL] at k0
  obtain ⟨_, _, e0, k0, rfl⟩ := k0
  injection e0 with e0
  subst e0
  exact ⟨l, rep_fro (G := ⟨StAll w, [], []⟩) _ _ k0⟩
theorem walk_ints {f : FuncId} (hf : ∀ l : List Int, AFn Try.prog f [.sl 1 (l.map intA) none] (fun x => x = .v (.bool true))) {H : Type} {enc : TypeId × Value → H} {sp : Nat → Bool} {held : Bool} {base : Nat} (a : Option Addr) (n c : Nat) (w : World) {d : DataW H} {p : List MemPlace}
    (h : DataW.Trod enc Try.prog w base sp held 31 (.slice a n c) d p) : Calls Try.prog f #[.slice a n c] w fun e w' => e = .returned (.bool true) ∧ Below w.heap.size w w' := by
  obtain ⟨l, k⟩ := ints_one h
  refine calls_of (vs := [.slice a n c]) (hf l) (StAll w) (fun b o h => h) ?_
  simp only [repL]
  exact ⟨_, _, rfl, k, rfl⟩
end Go.Proofs.Ythcbdkmhamhciaa
namespace Go.Proofs.Ythcbdkmhamhciaa
open Go.RowKit
theorem FilesLinks_walk {H : Type} {enc : TypeId × Value → H} {sp : Nat → Bool} {held : Bool} {base : Nat} (a : Option Addr) (n c : Nat) (w : World) {d : DataW H} {p : List MemPlace} (h : DataW.Trod enc Try.prog w base sp held 31 (.slice a n c) d p) :
    Calls Try.prog 5 #[.slice a n c] w fun e w' => e = .returned (.bool true) ∧ Below w.heap.size w w' := walk_ints Llinks a n c w h
end Go.Proofs.Ythcbdkmhamhciaa
