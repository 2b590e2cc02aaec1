/-
  Part 14 of the proof of FilesReadsP: what the statement's proof uses of the texts in wip/tpl.
-/
import Derived.OpenShut
import Derived.ChangeArms
import Derived.ChangeOld
import Derived.DataReads
import Derived.DataElems
import Derived.Test.YthcbdkmhamhciaaQr13
namespace Go.Proofs.Ythcbdkmhamhciaa
open Go.RowKit

section
set_option maxRecDepth 20000
set_option maxHeartbeats 2000000
theorem Lreads (l : List Int) (dev ino : Int) (name : Str) : AFn Try.prog 7 [.sl 1 (l.map intA) none, .v (.int .i64 dev), .v (.int .i64 ino), .v (.string name)] (fun r => r = .v (.bool true)) := by
  refine enter Try.func7 rfl rfl rfl rfl rfl 0 rfl ?_
  refine w_ (a_ (h:=e_ (w_ (m_ (h:=?_)))))
  refine al_p rfl (s_callN rfl (by repeat (first | exact Args.nil | refine Args.cons _ _ _ _ _ rfl (argOk_clean rfl) ?_ | refine Args.cons _ _ _ _ _ rfl (argOk_nil _) ?_ | refine Args.cons _ _ _ _ _ rfl (argOk_era _) ?_ | refine Args.cons _ _ _ _ _ rfl (argOk_le rfl (by repeat (first | exact LeA.refl _ | exact LeA.nil _ | exact LeL.refl _ | refine LeA.agg ?_ | refine LeA.tup ?_ | exact LeL.nil | refine LeL.cons ?_ ?_ | exact LeA.any _))) ?_)) rfl (Gnew l) (by repeat constructor) ?_)
  skip
  refine a_ (h:=e_ (w_ (m_ (h:=?_))))
  refine al_p rfl (s_gen 0 (hc := Gfiles l _ (by omega)) (hR := ?_))
  rintro r a1 ha1 ⟨f, rfl, hv, hp⟩
  refine ⟨rfl, _, (by repeat constructor), ?_⟩
  have hf := hv.b
  have hne := hv.ne
  refine al_ (h:=s_ (h:=e_ (q_ (yk_ ([(1, flsA f)]) 16 (h:=dm_ 0 (h:=dl_ 1 (h:=dm_ 3 (h:=dl_ 4 (h:=dm_ 6 (h:=dl_ 7 (h:=dm_ 9 (h:=dm_ 10 (h:=?_)))))))))))))
  refine tk_ 11 rfl (fun _ hS => st_le (y := .agg (filA (dev, ino))) (st_build (by repeat (first | exact FillA.nil _ | (apply FillA.cons; (focus exact rfl); (focus exact rfl); (focus exact rfl); (focus exact rfl); (focus exact rfl); (focus (repeat constructor))))) ⟨rfl, rfl⟩) (by repeat (first | exact LeA.refl _ | exact LeA.nil _ | exact LeL.refl _ | refine LeA.agg ⟨rfl, rfl⟩ | refine LeA.tup ⟨rfl, rfl⟩ | exact LeL.nil | refine LeL.cons ⟨rfl, rfl⟩ ⟨rfl, rfl⟩ | exact LeA.any _)) ⟨rfl, rfl⟩) ?_
  refine dm_ 12 (h:=?_)
  refine tk_ 13 rfl (fun _ hS => st_le (y := .agg (filA (0, ino))) (st_build (by repeat (first | exact FillA.nil _ | (apply FillA.cons; (focus exact rfl); (focus exact rfl); (focus exact rfl); (focus exact rfl); (focus exact rfl); (focus (repeat constructor))))) ⟨rfl, rfl⟩) (by repeat (first | exact LeA.refl _ | exact LeA.nil _ | exact LeL.refl _ | refine LeA.agg ⟨rfl, rfl⟩ | refine LeA.tup ⟨rfl, rfl⟩ | exact LeL.nil | refine LeL.cons ⟨rfl, rfl⟩ ⟨rfl, rfl⟩ | exact LeA.any _)) ⟨rfl, rfl⟩) ?_
  refine c_ 2 rfl (s_gen 0 (hc := Gfile l _ f (by omega) hf hne) (hR := ?_))
  rintro r a2 ha2 ⟨x2, rfl⟩
  refine ⟨rfl, _, (by repeat constructor), ?_⟩
  refine o_ (h:=?_)
  refine c_ 5 rfl (s_gen 0 (hc := Gfile l _ f (by omega) hf hne) (hR := ?_))
  rintro r a3 ha3 ⟨x3, rfl⟩
  refine ⟨rfl, _, (by repeat constructor), ?_⟩
  refine o_ (h:=?_)
  refine c_ 8 rfl (s_gen 0 (hc := Gfile l _ f (by omega) hf hne) (hR := ?_))
  rintro r a4 ha4 ⟨x4, rfl⟩
  refine ⟨rfl, _, (by repeat constructor), ?_⟩
  refine o_ (h:=dbs_ 14 (h:=da_ 15 (h:=z_ (h:=t_ (w_ (m_ (h:=?_)))))))
  refine al_p rfl (s_gen 0 (hc := Gname l _ (by omega)) (hR := ?_))
  rintro r a5 ha5 ⟨k5, rfl, hk5⟩
  refine ⟨rfl, _, (by repeat constructor), ?_⟩
  refine m_ (h:=?_)
  refine al_p rfl (s_gen 0 (hc := Gname l _ (by omega)) (hR := ?_))
  rintro r a6 ha6 ⟨k6, rfl, hk6⟩
  refine ⟨rfl, _, (by repeat constructor), ?_⟩
  refine m_ (h:=?_)
  refine al_p rfl (s_gen 0 (hc := Gname l _ (by omega)) (hR := ?_))
  rintro r a7 ha7 ⟨k7, rfl, hk7⟩
  refine ⟨rfl, _, (by repeat constructor), ?_⟩
  refine m_ (h:=m_ (h:=bs_ (h:=a_ (h:=e_ (q_ (w_ (a_ (h:=e_ (aw_block (?_))))))))))
  refine aw_loopW (fun m t => ∃ (j b : Nat), j ≤ 5 ∧ m = 5 - j ∧ t = ⟨look [(10, .bp 1 0), (11, .sl 2 (([x2, x3, x4, (dev, ino), (0, ino)] : List Fil).map filA) none), (12, .sl 1 (([k5, k6, k7, name, name] : List Str).map strN) none), (13, .v (.int .i64 (j : Int)))], ⟨[srcA l b, flsA f], []⟩⟩) (5) ((wk 2 0)) (⟨0, _, by omega, rfl, rfl⟩) ?_
  rintro m t ⟨j, b, hj, rfl, rfl⟩
  refine q_ (w_ (m_ (h:=m_ (h:=n_ (h:=lt_ (h:=e_ (?_)))))))
  refine aw_cond rfl (fun hb1 => ?_) (fun hb1 => ?_)
  · have hc1 := bp hb1
    obtain ⟨hlt, x, hy, hrow, -⟩ := row_at filA (l := ([x2, x3, x4, (dev, ino), (0, ino)] : List Fil)) hc1
    obtain ⟨y, hy2⟩ : ∃ y, ([k5, k6, k7, name, name] : List Str)[j]? = some y := ⟨_, List.getElem?_eq_getElem (show j < 5 from hlt)⟩
    have hrow2 : (([k5, k6, k7, name, name] : List Str).map strN)[j]? = some (strN y) := by rw [List.getElem?_map, hy2]; rfl
    refine kt_ (q_ (aw_block (?_)))
    refine aw_midI (fun t => t = ⟨look [(10, .bp 1 0), (11, .sl 2 (([x2, x3, x4, (dev, ino), (0, ino)] : List Fil).map filA) none), (12, .sl 1 (([k5, k6, k7, name, name] : List Str).map strN) none), (13, .v (.int .i64 (j : Int))), (14, .bp 2 0), (15, .v (.bool (hasG f x)))], ⟨[srcA l b, flsA f, nodA (nodG f x)], []⟩⟩) ?_ ?_
    · skip
      refine yk_ ([(0, srcA l b), (1, flsA f)]) 12 (h:=dl_ 0 (h:=dm_ 1 (h:=dm_ 2 (h:=?_))))
      refine tk_ 3 rfl (fun _ hS => st_index (n := j) rfl rfl rfl hrow ⟨rfl, rfl⟩) ?_
      refine dl_ 4 (h:=?_)
      refine c2_ 5 9 rfl rfl ?_ ?_
      · refine q_call (Pnode f x hf) ?_
        rintro r rfl
        refine o_ (h:=?_)
        refine dm_ 6 (h:=dx_ 7 (h:=dx_ 8 (h:=?_)))
        refine c_ 9 rfl (s_alloc (by repeat constructor) ?_)
        refine o_ (h:=?_)
        refine c0_ 10 rfl (s_store rfl rfl rfl rfl rfl rfl (by repeat constructor) (by repeat constructor) ?_)
        refine o_ (h:=da_ 11 (h:=z_ (h:=?_)))
        refine x_then ?_
        exact ⟨_, rfl, (wk 3 0)⟩
      · refine s_alloc (by repeat constructor) ?_
        refine o_ (h:=?_)
        refine c_ 5 rfl (q_call (Pnode f x hf) ?_)
        rintro r rfl
        refine o_ (h:=dm_ 6 (h:=dx_ 7 (h:=dx_ 8 (h:=?_))))
        refine c0_ 10 rfl (s_store rfl rfl rfl rfl rfl rfl (by repeat constructor) (by repeat constructor) ?_)
        refine o_ (h:=da_ 11 (h:=z_ (h:=?_)))
        refine x_then ?_
        exact ⟨_, rfl, (wk 3 0)⟩
    · rintro t rfl
      refine aw_midI (fun t => t = ⟨look [(10, .bp 1 0), (11, .sl 2 (([x2, x3, x4, (dev, ino), (0, ino)] : List Fil).map filA) none), (12, .sl 1 (([k5, k6, k7, name, name] : List Str).map strN) none), (13, .v (.int .i64 (j : Int))), (14, .bp 2 0), (15, .v (.bool (hasG f x))), (16, .bp 3 0), (17, .v (.bool (hasG f x)))], ⟨[srcA l b, flsA f, nodA (nodG f x), nodA (nodG f x)], []⟩⟩) ?_ ?_
      · skip
        refine yk_ ([(0, srcA l b), (1, flsA f)]) 12 (h:=dl_ 0 (h:=dm_ 1 (h:=dm_ 2 (h:=?_))))
        refine tk_ 3 rfl (fun _ hS => st_index (n := j) rfl rfl rfl hrow ⟨rfl, rfl⟩) ?_
        refine dl_ 4 (h:=?_)
        refine c2_ 5 9 rfl rfl ?_ ?_
        · refine q_call (Rnode f x hf) ?_
          rintro r rfl
          refine o_ (h:=?_)
          refine dm_ 6 (h:=dx_ 7 (h:=dx_ 8 (h:=?_)))
          refine c_ 9 rfl (s_alloc (by repeat constructor) ?_)
          refine o_ (h:=?_)
          refine c0_ 10 rfl (s_store rfl rfl rfl rfl rfl rfl (by repeat constructor) (by repeat constructor) ?_)
          refine o_ (h:=da_ 11 (h:=z_ (h:=?_)))
          refine x_then ?_
          exact ⟨_, rfl, (wk 4 0)⟩
        · refine s_alloc (by repeat constructor) ?_
          refine o_ (h:=?_)
          refine c_ 5 rfl (q_call (Rnode f x hf) ?_)
          rintro r rfl
          refine o_ (h:=dm_ 6 (h:=dx_ 7 (h:=dx_ 8 (h:=?_))))
          refine c0_ 10 rfl (s_store rfl rfl rfl rfl rfl rfl (by repeat constructor) (by repeat constructor) ?_)
          refine o_ (h:=da_ 11 (h:=z_ (h:=?_)))
          refine x_then ?_
          exact ⟨_, rfl, (wk 4 0)⟩
      · rintro t rfl
        refine aw_midI (fun t => t = ⟨look [(10, .bp 1 0), (11, .sl 2 (([x2, x3, x4, (dev, ino), (0, ino)] : List Fil).map filA) none), (12, .sl 1 (([k5, k6, k7, name, name] : List Str).map strN) none), (13, .v (.int .i64 (j : Int))), (14, .bp 2 0), (15, .v (.bool (hasG f x))), (16, .bp 3 0), (17, .v (.bool (hasG f x))), (18, .bp 4 0), (19, .v (.int .i64 (lookL f x y).2))], ⟨[srcA l b, flsA f, nodA (nodG f x), nodA (nodG f x), filA (lookL f x y).1], []⟩⟩) ?_ ?_
        · skip
          refine yk_ ([(0, srcA l b), (1, flsA f)]) 16 (h:=dl_ 0 (h:=dm_ 1 (h:=dm_ 2 (h:=?_))))
          refine tk_ 3 rfl (fun _ hS => st_index (n := j) rfl rfl rfl hrow ⟨rfl, rfl⟩) ?_
          refine dl_ 4 (h:=dm_ 5 (h:=dm_ 6 (h:=?_)))
          refine tk_ 7 rfl (fun _ hS => st_index (n := j) rfl rfl rfl hrow2 ⟨rfl, rfl⟩) ?_
          refine dl_ 8 (h:=?_)
          refine c2_ 9 13 rfl rfl ?_ ?_
          · refine q_call (Plook f x y hf) ?_
            rintro r rfl
            refine o_ (h:=?_)
            refine dm_ 10 (h:=dx_ 11 (h:=dx_ 12 (h:=?_)))
            refine c_ 13 rfl (s_alloc (by repeat constructor) ?_)
            refine o_ (h:=?_)
            refine c0_ 14 rfl (s_store rfl rfl rfl rfl rfl rfl (by repeat constructor) (by repeat constructor) ?_)
            refine o_ (h:=da_ 15 (h:=z_ (h:=?_)))
            refine x_then ?_
            exact ⟨_, rfl, (wk 5 0)⟩
          · refine s_alloc (by repeat constructor) ?_
            refine o_ (h:=?_)
            refine c_ 9 rfl (q_call (Plook f x y hf) ?_)
            rintro r rfl
            refine o_ (h:=dm_ 10 (h:=dx_ 11 (h:=dx_ 12 (h:=?_))))
            refine c0_ 14 rfl (s_store rfl rfl rfl rfl rfl rfl (by repeat constructor) (by repeat constructor) ?_)
            refine o_ (h:=da_ 15 (h:=z_ (h:=?_)))
            refine x_then ?_
            exact ⟨_, rfl, (wk 5 0)⟩
        · rintro t rfl
          refine aw_midI (fun t => t = ⟨look [(10, .bp 1 0), (11, .sl 2 (([x2, x3, x4, (dev, ino), (0, ino)] : List Fil).map filA) none), (12, .sl 1 (([k5, k6, k7, name, name] : List Str).map strN) none), (13, .v (.int .i64 (j : Int))), (14, .bp 2 0), (15, .v (.bool (hasG f x))), (16, .bp 3 0), (17, .v (.bool (hasG f x))), (18, .bp 4 0), (19, .v (.int .i64 (lookL f x y).2)), (20, .bp 5 0), (21, .v (.int .i64 (lookL f x y).2))], ⟨[srcA l b, flsA f, nodA (nodG f x), nodA (nodG f x), filA (lookL f x y).1, filA (lookL f x y).1], []⟩⟩) ?_ ?_
          · skip
            refine yk_ ([(0, srcA l b), (1, flsA f)]) 16 (h:=dl_ 0 (h:=dm_ 1 (h:=dm_ 2 (h:=?_))))
            refine tk_ 3 rfl (fun _ hS => st_index (n := j) rfl rfl rfl hrow ⟨rfl, rfl⟩) ?_
            refine dl_ 4 (h:=dm_ 5 (h:=dm_ 6 (h:=?_)))
            refine tk_ 7 rfl (fun _ hS => st_index (n := j) rfl rfl rfl hrow2 ⟨rfl, rfl⟩) ?_
            refine dl_ 8 (h:=?_)
            refine c2_ 9 13 rfl rfl ?_ ?_
            · refine q_call (Rlook f x y hf) ?_
              rintro r rfl
              refine o_ (h:=?_)
              refine dm_ 10 (h:=dx_ 11 (h:=dx_ 12 (h:=?_)))
              refine c_ 13 rfl (s_alloc (by repeat constructor) ?_)
              refine o_ (h:=?_)
              refine c0_ 14 rfl (s_store rfl rfl rfl rfl rfl rfl (by repeat constructor) (by repeat constructor) ?_)
              refine o_ (h:=da_ 15 (h:=z_ (h:=?_)))
              refine x_then ?_
              exact ⟨_, rfl, (wk 6 0)⟩
            · refine s_alloc (by repeat constructor) ?_
              refine o_ (h:=?_)
              refine c_ 9 rfl (q_call (Rlook f x y hf) ?_)
              rintro r rfl
              refine o_ (h:=dm_ 10 (h:=dx_ 11 (h:=dx_ 12 (h:=?_))))
              refine c0_ 14 rfl (s_store rfl rfl rfl rfl rfl rfl (by repeat constructor) (by repeat constructor) ?_)
              refine o_ (h:=da_ 15 (h:=z_ (h:=?_)))
              refine x_then ?_
              exact ⟨_, rfl, (wk 6 0)⟩
          · rintro t rfl
            refine q_ (yr_ 34 (h:=dm_ 0 (h:=dm_ 1 (h:=dnq_ 2 (h:=dm_ 3 (h:=?_))))))
            refine aa_both (j := 3) rfl (fun hb2 => ?_) (fun hb2 => ?_)
            · have hc2 := bp hb2
              refine d0_ 4 (h:=d0_ 5 (h:=d0_ 6 (h:=d0_ 7 (h:=dpt_ 8 (h:=dm_ 9 (h:=d0_ 10 (h:=d0_ 11 (h:=d0_ 12 (h:=dpt_ 13 (h:=dm_ 14 (h:=d0_ 15 (h:=d0_ 16 (h:=d0_ 17 (h:=dpt_ 18 (h:=dm_ 19 (h:=d0_ 20 (h:=d0_ 21 (h:=d0_ 22 (h:=d0_ 23 (h:=d0_ 24 (h:=d0_ 25 (h:=d0_ 26 (h:=d0_ 27 (h:=?_))))))))))))))))))))))))
              refine d0_ 28 (h:=d0_ 29 (h:=d0_ 30 (h:=d0_ 31 (h:=d0_ 32 (h:=dpt_ 33 (h:=z_ (h:=t_ (cy_ (h:=w_ (a_ (h:=e_ (aw_ret (x_blockR (x_thenR (x_thenR (x_blockR (x_thenR (?_))))))))))))))))))
              refine e_ret ?_
              first | rfl | (exfalso; simp_all; done)
            · have hc2 := bp hb2
              refine dl_ 4 (h:=dl_ 5 (h:=?_))
              refine c_ 6 rfl (q_call (RsameN (nodG f x) (nodG_ents hf x)) ?_)
              rintro r rfl
              refine o_ (h:=dnt_ 7 (h:=dpf_ 8 (h:=dm_ 9 (h:=?_))))
              refine aa_both (j := 9) rfl (fun hb3 => ?_) (fun hb3 => ?_)
              · have hc3 := bp hb3
                refine d0_ 10 (h:=d0_ 11 (h:=d0_ 12 (h:=dpt_ 13 (h:=dm_ 14 (h:=d0_ 15 (h:=d0_ 16 (h:=d0_ 17 (h:=dpt_ 18 (h:=dm_ 19 (h:=d0_ 20 (h:=d0_ 21 (h:=d0_ 22 (h:=d0_ 23 (h:=d0_ 24 (h:=d0_ 25 (h:=d0_ 26 (h:=d0_ 27 (h:=d0_ 28 (h:=d0_ 29 (h:=d0_ 30 (h:=d0_ 31 (h:=d0_ 32 (h:=dpt_ 33 (h:=?_))))))))))))))))))))))))
                refine z_ (h:=t_ (cy_ (h:=w_ (a_ (h:=e_ (aw_ret (x_blockR (x_thenR (x_thenR (x_blockR (x_thenR (?_))))))))))))
                refine e_ret ?_
                first | rfl | (exfalso; simp_all; done)
              · have hc3 := bp hb3
                refine dl_ 10 (h:=dl_ 11 (h:=?_))
                refine r_y (i := 12) rfl (st_binA rfl rfl (by repeat constructor) (by repeat constructor) (fun w => neqlFil _ _ _ _ w) (by kernel_rfl) ⟨rfl, rfl⟩) ?_
                refine dpf_ 13 (h:=dm_ 14 (h:=?_))
                refine aa_both (j := 14) rfl (fun hb4 => ?_) (fun hb4 => ?_)
                · have hc4 := bp hb4
                  refine d0_ 15 (h:=d0_ 16 (h:=d0_ 17 (h:=dpt_ 18 (h:=dm_ 19 (h:=d0_ 20 (h:=d0_ 21 (h:=d0_ 22 (h:=d0_ 23 (h:=d0_ 24 (h:=d0_ 25 (h:=d0_ 26 (h:=d0_ 27 (h:=d0_ 28 (h:=d0_ 29 (h:=d0_ 30 (h:=d0_ 31 (h:=d0_ 32 (h:=dpt_ 33 (h:=z_ (h:=t_ (cy_ (h:=w_ (a_ (h:=?_))))))))))))))))))))))))
                  refine e_ (aw_ret (x_blockR (x_thenR (x_thenR (x_blockR (x_thenR (?_)))))))
                  refine e_ret ?_
                  first | rfl | (exfalso; simp_all; done)
                · have hc4 := bp hb4
                  refine dm_ 15 (h:=dm_ 16 (h:=dnq_ 17 (h:=dpf_ 18 (h:=dm_ 19 (h:=?_)))))
                  refine aa_both (j := 19) rfl (fun hb5 => ?_) (fun hb5 => ?_)
                  · have hc5 := bp hb5
                    refine d0_ 20 (h:=d0_ 21 (h:=d0_ 22 (h:=d0_ 23 (h:=d0_ 24 (h:=d0_ 25 (h:=d0_ 26 (h:=d0_ 27 (h:=d0_ 28 (h:=d0_ 29 (h:=d0_ 30 (h:=d0_ 31 (h:=d0_ 32 (h:=dpt_ 33 (h:=z_ (h:=t_ (cy_ (h:=w_ (a_ (h:=e_ (aw_ret (x_blockR (x_thenR (x_thenR (?_))))))))))))))))))))))))
                    refine x_blockR (x_thenR (?_))
                    refine e_ret ?_
                    first | rfl | (exfalso; simp_all; done)
                  · have hc5 := bp hb5
                    refine dl_ 20 (h:=dm_ 21 (h:=dm_ 22 (h:=?_)))
                    refine r_y (i := 23) rfl (st_index (n := j) rfl rfl rfl hrow ⟨rfl, rfl⟩) ?_
                    refine dl_ 24 (h:=dl_ 26 (h:=dm_ 27 (h:=dm_ 28 (h:=?_))))
                    refine r_y (i := 29) rfl (st_index (n := j) rfl rfl rfl hrow ⟨rfl, rfl⟩) ?_
                    refine dl_ 30 (h:=?_)
                    refine c_ 25 rfl (q_call (Plinks f x hf) ?_)
                    rintro r rfl
                    refine o_ (h:=?_)
                    refine c_ 31 rfl (q_call (Rlinks f x hf) ?_)
                    rintro r rfl
                    refine o_ (h:=dnq_ 32 (h:=dpf_ 33 (h:=z_ (h:=t_ (?_)))))
                    refine aw_cond rfl (fun hb6 => ?_) (fun hb6 => ?_)
                    · have hc6 := bp hb6
                      refine w_ (a_ (h:=e_ (aw_ret (x_blockR (x_thenR (x_thenR (x_blockR (x_thenR (?_)))))))))
                      refine e_ret ?_
                      first | rfl | (exfalso; simp_all; done)
                    · have hc6 := bp hb6
                      refine aw_skip (x_blockN (t_ (aw_region (m_ (h:=ad_ (h:=a_ (h:=al_nil (?_))))))))
                      refine x_then ?_
                      have hl2 : j < 5 := hlt
                      refine ⟨_, _, ?_, ⟨j + 1, b, by omega, rfl, rfl⟩, (wk 2 0)⟩
                      omega
  · have hc1 := bp hb1
    refine aw_exit (x_thenE (x_thenE (ABlock_out (t_ (w_ (?_))))))
    refine al_p rfl (q_call (Lawake5) ?_)
    rintro r rfl
    refine a_ (h:=e_ (aw_ret (?_)))
    refine e_ret ?_
    first | rfl | (exfalso; simp_all; done)

end
end Go.Proofs.Ythcbdkmhamhciaa
namespace Go.Proofs.Ythcbdkmhamhciaa
open Go.RowKit

def StAll (w : World) : Nat → Nat → Prop := fun b _ => b < w.heap.size
def Opens (P : Program) (t : TypeId) (R : List AV → Prop) : Prop :=
  ∀ (H : Type) (enc : TypeId × Value → H) (w : World) (base : Nat) (spare : Nat → Bool) (held : Bool) (fuel : Nat) (cs : List Value) (x : DataW H × List MemPlace), DataW.trod enc P w base spare held fuel t cs = some x →
    ∃ row, R row ∧ froL (StAll w) w row cs ∧ ∀ u ∈ cs, u.oneCell' = true
section
variable {P : Program} {t : TypeId}
theorem Opens.mono {R R' : List AV → Prop} (h : Opens P t R) (hR : ∀ r, R r → R' r) : Opens P t R' := by
  intro H enc w base spare held fuel cs x hx
  obtain ⟨row, h1, h2⟩ := h H enc w base spare held fuel cs x hx
  exact ⟨row, hR _ h1, h2⟩
theorem opens_int {k : IntKind} (ht : P.underlying t = some (.int k)) : Opens P t fun r => ∃ n, r = [.v (.int k n)] ∧ (Lit.int k n).wf = true := by
  intro H enc w base spare held fuel cs x hx
  obtain ⟨b, rfl, _, hw⟩ := DataW.trod_int ht hx
  exact ⟨_, ⟨b, rfl, hw⟩, ⟨_, _, rfl, by simp only [fro], by simp only [froL]⟩, by simp [Value.oneCell']⟩
theorem cell_lt' {w : World} {b o : Nat} {v : Value} (h : w.cell? ⟨b, o, none⟩ = some v) : b < w.heap.size := by
  rcases Nat.lt_or_ge b w.heap.size with hlt | hge
  · exact hlt
  · simp [World.cell?, Array.getElem?_eq_none hge] at h
theorem froL_length' {St : Nat → Nat → Prop} {w : World} {xs : List AV} {ys : List Value} (h : froL St w xs ys) : ys.length = xs.length := repL_length (G := ⟨St, [], []⟩) (repL_fro (G := ⟨St, [], []⟩) _ _ h)
theorem opens_slice {e : TypeId} {n : Nat} {R : List AV → Prop} (ht : P.underlying t = some (.slice e)) (hc : P.cellsOf e = n) (hn : 0 < n) (h : Opens P e R) : Opens P t fun r => ∃ rows, r = [.sl n rows none] ∧ rows.length ≤ maxLen ∧ ∀ x ∈ rows, R x := by
  intro H enc w base spare held fuel cs x hx
  rcases DataW.trod_slice ht hx with ⟨rfl, _⟩ | ⟨⟨b, off, spot⟩, len, cap, elems, rest, m, rfl, rfl, _, hb, hl, hm, hlen, hel, _, _⟩
  · exact ⟨_, ⟨[], rfl, Nat.zero_le _, by simp⟩, ⟨_, _, rfl, by simp only [fro]; exact ⟨trivial, none, 0, rfl, Nat.le_refl _, Nat.zero_le _, .inl trivial⟩, by simp only [froL]⟩, by simp [Value.oneCell']⟩
  · have each : ∀ i, i < len → ∃ row cs', R row ∧ row.length = n ∧ froL (StAll w) w row cs' ∧ (∀ u ∈ cs', u.oneCell' = true) ∧ cs'.length = n ∧ ∀ j, j < n → w.cell? (Addr.add ⟨b, off, spot⟩ (i * n + j)) = cs'[j]? := by
      intro i hi
      have h1 := hel i hi
      rw [hc, List.getElem?_eq_getElem (by omega), Option.bind_eq_some_iff] at h1
      obtain ⟨cs', h2, h3⟩ := h1
      obtain ⟨row, r1, r2, r3⟩ := h _ _ _ _ _ _ _ _ _ h3
      obtain ⟨_, c1, c2⟩ := World.cells?_some h2
      refine ⟨row, cs', r1, by rw [← froL_length' r2, c1], r2, r3, c1, fun j hj => ?_⟩
      have := c2 j hj
      rwa [Addr.add_add] at this
    have hrows : ∃ rows : List (List AV), rows.length = len ∧ (∀ i, i < len → ∃ row cs', rows[i]? = some row ∧ R row ∧ row.length = n ∧ froL (StAll w) w row cs' ∧ (∀ u ∈ cs', u.oneCell' = true) ∧ cs'.length = n ∧ ∀ j, j < n → w.cell? (Addr.add ⟨b, off, spot⟩ (i * n + j)) = cs'[j]?) := by
      clear hel
      have : ∀ k, k ≤ len → ∃ rows : List (List AV), rows.length = k ∧ (∀ i, i < k → ∃ row cs', rows[i]? = some row ∧ R row ∧ row.length = n ∧ froL (StAll w) w row cs' ∧ (∀ u ∈ cs', u.oneCell' = true) ∧ cs'.length = n ∧ ∀ j, j < n → w.cell? (Addr.add ⟨b, off, spot⟩ (i * n + j)) = cs'[j]?) := by
        intro k
        induction k with
        | zero => intro _; exact ⟨[], rfl, fun i hi => by omega⟩
        | succ k ih =>
          intro hk
          obtain ⟨rows, e1, e2⟩ := ih (by omega)
          obtain ⟨row, cs', q⟩ := each k (by omega)
          refine ⟨rows ++ [row], by simp [e1], fun i hi => ?_⟩
          rcases Nat.lt_or_ge i k with hlt | hge
          · obtain ⟨row', cs'', q1, q2⟩ := e2 i hlt
            exact ⟨row', cs'', by rw [List.getElem?_append_left (by omega)]; exact q1, q2⟩
          · obtain rfl : i = k := by omega
            exact ⟨row, cs', by rw [List.getElem?_append_right (by omega), e1]; simp, q⟩
      exact this len (Nat.le_refl _)
    obtain ⟨rows, e1, e2⟩ := hrows
    refine ⟨_, ⟨rows, rfl, by omega, fun x hx => ?_⟩, ⟨_, _, rfl, ?_, by simp only [froL]⟩, by simp [Value.oneCell']⟩
    · obtain ⟨i, hi⟩ := List.getElem?_of_mem hx
      obtain ⟨row, _, q1, q2, _⟩ := e2 i (by rw [← e1]; exact (List.getElem?_eq_some_iff.1 hi).1)
      rw [hi] at q1
      injection q1 with q1
      subst q1
      exact q2
    · simp only [fro]
      refine ⟨trivial, some ⟨b, off, spot⟩, cap, by rw [e1], by omega, hm, ?_⟩
      rcases Nat.eq_zero_or_pos len with h0 | h0
      · left; exact List.eq_nil_of_length_eq_zero (by omega)
      · right
        have hspot : spot = none := by
          obtain ⟨_, cs', _, _, _, _, _, c3, c4⟩ := e2 0 h0
          have := c4 0 hn
          rw [List.getElem?_eq_getElem (by omega)] at this
          simpa [Addr.add] using World.cell?_spot this
        subst hspot
        refine ⟨b, off, rfl, ?_⟩
        have : ∀ (rs : List (List AV)) (k : Nat), (∀ i r, rs[i]? = some r → rows[k + i]? = some r) → froR (StAll w) w b n rs (off + k * n) := by
          intro rs
          induction rs with
          | nil => intro k _; simp only [froR]
          | cons r rs ih =>
            intro k hk
            simp only [froR]
            have h1 := hk 0 r rfl
            rw [Nat.add_zero] at h1
            obtain ⟨row, cs', q1, _, q3, q4, q5, q6, q7⟩ := e2 k (by rw [← e1]; exact (List.getElem?_eq_some_iff.1 h1).1)
            rw [h1] at q1
            injection q1 with q1
            subst q1
            refine ⟨⟨q3, froC_of fun i x hi => ?_⟩, ?_⟩
            · obtain ⟨u, u1, u2⟩ := froL_get q4 hi
              have hin : i < n := by rw [← q3]; exact (List.getElem?_eq_some_iff.1 hi).1
              have hc := q7 i hin
              rw [u1] at hc
              have hc' : w.cell? ⟨b, off + k * n + i, none⟩ = some u := by rw [Addr.add_mid] at hc; rwa [Nat.add_assoc]
              exact ⟨cell_lt' hc', u, hc', q5 u (List.mem_of_getElem? u1), u2⟩
            · have := ih (k + 1) (fun i r' hi => by
                have := hk (i + 1) r' (by simpa using hi)
                rwa [show k + 1 + i = k + (i + 1) by omega])
              rwa [show off + (k + 1) * n = off + k * n + n by rw [Nat.add_mul]; omega] at this
        simpa using this rows 0 (fun i r hi => by simpa using hi)
theorem rows_map {α : Type} {enc : α → List AV} {Q : α → Prop} : ∀ {rows : List (List AV)}, (∀ x ∈ rows, ∃ a, x = enc a ∧ Q a) → ∃ l : List α, rows = l.map enc ∧ ∀ a ∈ l, Q a
  | [], _ => ⟨[], rfl, by simp⟩
  | r :: rs, h => by
    obtain ⟨a, rfl, ha⟩ := h r (by simp)
    obtain ⟨l, rfl, hl⟩ := rows_map (rows := rs) fun x hx => h x (by simp [hx])
    exact ⟨a :: l, rfl, by simpa using ⟨ha, hl⟩⟩
theorem Opens.one {R : List AV → Prop} (h : Opens P t R) {H : Type} {enc : TypeId × Value → H} {w : World} {base : Nat} {spare : Nat → Bool} {held : Bool} {v : Value} {d : DataW H} {ps : List MemPlace} (hv : v.cells = #[v]) (hd : DataW.Trod enc P w base spare held t v d ps) :
    ∃ row, R row ∧ froL (StAll w) w row [v] := by
  obtain ⟨fuel, hf⟩ := hd
  rw [hv] at hf
  obtain ⟨row, h1, h2, _⟩ := h _ _ _ _ _ _ _ _ _ hf
  exact ⟨row, h1, h2⟩
end
end Go.Proofs.Ythcbdkmhamhciaa
namespace Go.Proofs.Ythcbdkmhamhciaa
open Go.RowKit

theorem opInts : Opens Try.prog 31 (fun r => ∃ l : List Int, r = [.sl 1 (l.map intA) none]) :=
  (opens_slice (n := 1) Try.underlying31 (by kernel_rfl) (by omega) (opens_int Try.underlying3)).mono (by
    rintro r ⟨rows, rfl, _, hr⟩
    obtain ⟨l, rfl, _⟩ := rows_map (enc := intA) (Q := fun _ => True) (fun x hx => by obtain ⟨t, rfl, _⟩ := hr x hx; exact ⟨t, rfl, trivial⟩)
    exact ⟨l, rfl⟩)
theorem ints_one {H : Type} {enc : TypeId × Value → H} {sp : Nat → Bool} {held : Bool} {base : Nat} {w : World} {a : Option Addr} {n c : Nat} {d : DataW H} {p : List MemPlace} (h : DataW.Trod enc Try.prog w base sp held 31 (.slice a n c) d p) :
    ∃ l : List Int, rep ⟨StAll w, [], []⟩ w (.sl 1 (l.map intA) none) (.slice a n c) := by
  obtain ⟨r0, ⟨l, rfl⟩, k0⟩ := opInts.one rfl h
  simp only [froL] at k0
  obtain ⟨_, _, e0, k0, rfl⟩ := k0
  injection e0 with e0
  subst e0
  exact ⟨l, rep_fro (G := ⟨StAll w, [], []⟩) _ _ k0⟩
theorem walk_intsv {f : FuncId} (us : List Value) (hf : ∀ l : List Int, AFn Try.prog f (.sl 1 (l.map intA) none :: us.map AV.v) (fun x => x = .v (.bool true))) {H : Type} {enc : TypeId × Value → H} {sp : Nat → Bool} {held : Bool} {base : Nat} (a : Option Addr) (n c : Nat) (w : World) {d : DataW H} {p : List MemPlace}
    (h : DataW.Trod enc Try.prog w base sp held 31 (.slice a n c) d p) : Calls Try.prog f (.slice a n c :: us).toArray w fun e w' => e = .returned (.bool true) ∧ Below w.heap.size w w' := by
  obtain ⟨l, k⟩ := ints_one h
  refine calls_of (vs := .slice a n c :: us) (hf l) (StAll w) (fun b o h => h) ?_
  simp only [repL]
  exact ⟨_, _, rfl, k, repL_v us⟩
end Go.Proofs.Ythcbdkmhamhciaa
namespace Go.Proofs.Ythcbdkmhamhciaa
open Go.RowKit
theorem FilesReads_walk {H : Type} {enc : TypeId × Value → H} {sp : Nat → Bool} {held : Bool} {base : Nat} (a : Option Addr) (n c : Nat) (dev ino : Int) (s : ByteArray) (w : World) {d : DataW H} {p : List MemPlace} (h : DataW.Trod enc Try.prog w base sp held 31 (.slice a n c) d p) (_ : -9223372036854775808 ≤ dev) (_ : dev ≤ 9223372036854775807) (_ : -9223372036854775808 ≤ ino) (_ : ino ≤ 9223372036854775807) (_ : s.size ≤ maxLen) :
    Calls Try.prog 7 #[.slice a n c, .int .i64 dev, .int .i64 ino, .string s] w fun e w' => e = .returned (.bool true) ∧ Below w.heap.size w w' := walk_intsv [.int .i64 dev, .int .i64 ino, .string s] (fun l => Lreads l dev ino s) a n c w h
end Go.Proofs.Ythcbdkmhamhciaa
