/-
  Part 12 of the proof of MountsValidP: what the statement's proof uses of the texts in wip/tpl.
-/
import Derived.Lib.SliceRun
import Derived.RangeFuncNested
import Derived.RangeFuncBound
import Derived.RangeFuncCalls
import Derived.RangeFuncLeaves
import Derived.Shelf.Abstract
import Derived.Shelf.RegionOpen
import Derived.OwnWalkIn
import Derived.TacticsInMore
import Derived.LoopNIn
import Derived.LoopIn
import Derived.WalkMore
import Derived.Test.YtgliiknfmlmddaaMv11
namespace Go.Proofs.Ytgliiknfmlmddaa
open Go.RowKit

theorem FlsV.ne {f : Fls} (h : FlsV f) : ∀ d ∈ f, 0 < d.nodes.length := fun d hd => by
  obtain ⟨r, rest, hr, _⟩ := (h.vd d hd).root
  rw [hr]; simp
theorem root_vd : VD rootDvc := by
  refine ⟨by decide, by decide, by decide, ⟨rootNod, [], rfl, rfl, rfl, rfl⟩, List.pairwise_singleton _ _, ?_, ?_, ?_, ?_, ?_, ?_, ?_, ?_, ?_, ⟨fun _ => 0, ?_⟩⟩ <;>
    (intro n hn; obtain rfl : n = rootNod := by simpa [rootDvc] using hn)
  · decide
  · decide +kernel
  · intro h; exact absurd rfl h
  · decide
  · exact List.Pairwise.nil
  · intro e he; cases he
  · intro h; exact absurd rfl h
  · intro h; exact absurd rfl h
  · intro h; exact absurd rfl h
  · intro h; exact absurd rfl h
theorem new_valid {k : Int} (h1 : 1 ≤ k) (h2 : k ≤ 3) : FlsV (newL k).1 ∧ 0 < (newL k).1.length := by
  unfold newL
  rw [if_neg (by omega)]
  refine ⟨⟨?_, fun d hd => ?_⟩, ?_⟩
  · show (List.replicate _ _).length ≤ 3
    rw [List.length_replicate]; omega
  · rw [(List.mem_replicate.1 hd).2]; exact root_vd
  · show 0 < (List.replicate _ _).length
    rw [List.length_replicate]; omega
structure MntOK (f : Fls) (ms : List Mnt) (m : Mnt) : Prop where
  dev1 : 1 ≤ m.1
  dev2 : m.1 < (f.length : Int)
  fresh : mtdL ⟨f, ms⟩ m.1 = false
  dir : dirL f m.2 = true
  there : mtdL ⟨f, ms⟩ m.2.1 = true
  free : (covL ⟨f, ms⟩ m.2).isSome = false
structure SpcV (s : Spc) : Prop where
  files : FlsV s.files
  pos : 0 < s.files.length
  mnt : ∀ i m, s.mounts[i]? = some m → MntOK s.files (s.mounts.take i) m
theorem add_valid {s : Spc} (h : SpcV s) (dev : Int) (a : Fil) (h0 : (addL s dev a).2 = 0) : SpcV (addL s dev a).1 ∧ (addL s dev a).1 = ⟨s.files, s.mounts ++ [(dev, a)]⟩ := by
  unfold addL at h0 ⊢
  split at h0
  · exact absurd h0 (by decide)
  · rename_i c1
    split at h0
    · exact absurd h0 (by decide)
    · rename_i c2
      split at h0
      · exact absurd h0 (by decide)
      · rename_i c3
        split at h0
        · exact absurd h0 (by decide)
        · rename_i c4
          split at h0
          · exact absurd h0 (by decide)
          · rename_i c5
            rw [if_neg c1, if_neg c2, if_neg c3, if_neg c4, if_neg c5]
            refine ⟨⟨h.files, h.pos, fun i m hi => ?_⟩, rfl⟩
            simp only at hi ⊢
            rcases Nat.lt_trichotomy i s.mounts.length with hlt | heq | hgt
            · rw [List.getElem?_append_left hlt] at hi
              rw [List.take_append_of_le_length (by omega)]
              exact h.mnt i m hi
            · subst heq
              simp at hi
              subst hi
              rw [List.take_left' rfl]
              exact ⟨by simp only; omega, by simp only; omega, by simpa using fun h => c5 (.inl h), by simp only; rw [dirL_eq]; simp at c2 c3; simp [c2, c3], by simpa using fun h => c4 (.inl h), Bool.eq_false_iff.2 fun h => c5 (.inr h)⟩
            · rw [List.getElem?_eq_none (by simp; omega)] at hi; cases hi
section
set_option maxRecDepth 10000
set_option maxHeartbeats 1000000
theorem Gchange (l : List Int) (a : Nat) (f : Fls) (ha : a ≤ 1000000000) (hv : FlsV f) : GenF Try.prog 71 l a [.agg (flsA f)] 80 (fun r => ∃ f', r = .agg (flsA f') ∧ FlsV f' ∧ f'.length = f.length) := by
  have hf := hv.b
  have hne := hv.ne
  refine enter Try.func71 rfl rfl rfl rfl rfl 1 rfl ?_
  refine w_ (b_ (h:=al_ (h:=e_ (w_ (m_ (h:=l_ (h:=?_)))))))
  refine al_p rfl (s_gen 0 (hc := Gfile l _ f (by omega) hf hne) (hR := ?_))
  rintro r a1 ha1 ⟨x1, rfl⟩
  refine ⟨rfl, _, (by repeat constructor), ?_⟩
  refine m_ (h:=?_)
  refine al_p rfl (s_gen 0 (hc := Gname l _ (by omega)) (hR := ?_))
  rintro r a2 ha2 ⟨k2, rfl, p2⟩
  refine ⟨rfl, _, (by repeat constructor), ?_⟩
  refine al_ (h:=s_ (h:=a_ (h:=e_ (w_ (l_ (h:=al_ (h:=s_ (h:=a_ (h:=e_ (?_))))))))))
  refine aw_midI (fun t => ∃ (R1 : Fls) (e : Int) (b : Nat), b ≤ a + 80 ∧ (e = 0 → FlsV R1 ∧ R1.length = f.length) ∧ t = ⟨look [(3, .bp 1 0), (4, .bp 2 0), (7, .bp 4 0), (8, .v (.int .i64 e))], ⟨[srcA l b, flsA f, [.v (.slice none 0 0)], filA x1, flsA R1], []⟩⟩) ?_ ?_
  · skip
    refine w_ (m_ (h:=?_))
    refine al_p rfl (s_gen 0 (hc := Gn l _ (8) (by omega) (by omega)) (hR := ?_))
    rintro r a3 ha3 ⟨k3, rfl, p3, q3, o3⟩
    refine ⟨rfl, _, (by repeat constructor), ?_⟩
    refine e_ (aw_block (w_ (eq_ (h:=a_ (h:=e_ (?_))))))
    refine aw_cond rfl (fun hb1 => ?_) (fun hb1 => ?_)
    · have hc1 := bp hb1
      refine yk_ ([(1, flsA f), (2, [.v (.slice none 0 0)]), (3, filA x1)]) 13 (h:=dl_ 0 (h:=dl_ 1 (h:=dm_ 2 (h:=dm_ 3 (h:=dl_ 4 (h:=?_))))))
      refine c_ 5 rfl (s_gen 0 (hc := Gfile l _ f (by omega) hf hne) (hR := ?_))
      rintro r a4 ha4 ⟨x4, rfl⟩
      refine ⟨rfl, _, (by repeat constructor), ?_⟩
      refine o_ (h:=?_)
      refine c_ 6 rfl (q_call (Rlink f x1 k2 x4 hv (by omega)) ?_)
      rintro r rfl
      refine o_ (h:=dm_ 7 (h:=dx_ 8 (h:=dx_ 9 (h:=dx_ 10 (h:=?_)))))
      refine c0_ 11 rfl (s_store rfl rfl rfl rfl rfl rfl (by repeat constructor) (by repeat constructor) ?_)
      refine o_ (h:=da_ 12 (h:=z_ (h:=x_blockN (?_))))
      refine x_then ?_
      refine ⟨_, ⟨_, _, _, ?_, ?_, rfl⟩, (wk 5 0)⟩
      · omega
      · first | exact link_okay hv _ _ _ | exact unlink_okay hv _ _ | exact rmdir_okay hv _ _ | exact rename_okay hv _ _ _ _ | exact set_okay hv _ _ _ _ | exact make_okay hv _ _ _
    · have hc1 := bp hb1
      refine w_ (eq_ (h:=a_ (h:=e_ (?_))))
      refine aw_cond rfl (fun hb2 => ?_) (fun hb2 => ?_)
      · have hc2 := bp hb2
        refine aw_region (l_ (h:=l_ (h:=m_ (h:=?_))))
        refine al_p rfl (q_call (Runlink f x1 k2 hv (by omega)) ?_)
        rintro r rfl
        refine m_ (h:=x_ (h:=x_ (h:=x_ (h:=s_ (h:=a_ (h:=al_nil (x_blockN (?_))))))))
        refine x_then ?_
        refine ⟨_, ⟨_, _, _, ?_, ?_, rfl⟩, (wk 5 0)⟩
        · omega
        · first | exact link_okay hv _ _ _ | exact unlink_okay hv _ _ | exact rmdir_okay hv _ _ | exact rename_okay hv _ _ _ _ | exact set_okay hv _ _ _ _ | exact make_okay hv _ _ _
      · have hc2 := bp hb2
        refine w_ (eq_ (h:=a_ (h:=e_ (?_))))
        refine aw_cond rfl (fun hb3 => ?_) (fun hb3 => ?_)
        · have hc3 := bp hb3
          refine aw_region (l_ (h:=l_ (h:=m_ (h:=?_))))
          refine al_p rfl (q_call (Rrmdir f x1 k2 hv (by omega)) ?_)
          rintro r rfl
          refine m_ (h:=x_ (h:=x_ (h:=x_ (h:=s_ (h:=a_ (h:=al_nil (x_blockN (?_))))))))
          refine x_then ?_
          refine ⟨_, ⟨_, _, _, ?_, ?_, rfl⟩, (wk 5 0)⟩
          · omega
          · first | exact link_okay hv _ _ _ | exact unlink_okay hv _ _ | exact rmdir_okay hv _ _ | exact rename_okay hv _ _ _ _ | exact set_okay hv _ _ _ _ | exact make_okay hv _ _ _
        · have hc3 := bp hb3
          refine w_ (eq_ (h:=a_ (h:=e_ (?_))))
          refine aw_cond rfl (fun hb4 => ?_) (fun hb4 => ?_)
          · have hc4 := bp hb4
            refine yk_ ([(1, flsA f), (2, [.v (.slice none 0 0)]), (3, filA x1)]) 15 (h:=dl_ 0 (h:=dl_ 1 (h:=dm_ 2 (h:=dm_ 3 (h:=dl_ 4 (h:=dm_ 6 (h:=?_)))))))
            refine c_ 5 rfl (s_gen 0 (hc := Gfile l _ f (by omega) hf hne) (hR := ?_))
            rintro r a5 ha5 ⟨x5, rfl⟩
            refine ⟨rfl, _, (by repeat constructor), ?_⟩
            refine o_ (h:=?_)
            refine c_ 7 rfl (s_gen 0 (hc := Gname l _ (by omega)) (hR := ?_))
            rintro r a6 ha6 ⟨k6, rfl, p6⟩
            refine ⟨rfl, _, (by repeat constructor), ?_⟩
            refine o_ (h:=?_)
            refine c_ 8 rfl (q_call (Rrename f x1 k2 x5 k6 hv (by omega) (by omega)) ?_)
            rintro r rfl
            refine o_ (h:=dm_ 9 (h:=dx_ 10 (h:=dx_ 11 (h:=dx_ 12 (h:=?_)))))
            refine c0_ 13 rfl (s_store rfl rfl rfl rfl rfl rfl (by repeat constructor) (by repeat constructor) ?_)
            refine o_ (h:=da_ 14 (h:=z_ (h:=x_blockN (?_))))
            refine x_then ?_
            refine ⟨_, ⟨_, _, _, ?_, ?_, rfl⟩, (wk 5 0)⟩
            · omega
            · first | exact link_okay hv _ _ _ | exact unlink_okay hv _ _ | exact rmdir_okay hv _ _ | exact rename_okay hv _ _ _ _ | exact set_okay hv _ _ _ _ | exact make_okay hv _ _ _
          · have hc4 := bp hb4
            refine w_ (eq_ (h:=a_ (h:=e_ (?_))))
            refine aw_cond rfl (fun hb5 => ?_) (fun hb5 => ?_)
            · have hc5 := bp hb5
              refine yk_ ([(1, flsA f), (2, [.v (.slice none 0 0)]), (3, filA x1)]) 12 (h:=dl_ 0 (h:=dl_ 1 (h:=dm_ 2 (h:=dm_ 4 (h:=?_)))))
              refine c_ 3 rfl (s_gen 0 (hc := Gn l _ (9) (by omega) (by omega)) (hR := ?_))
              rintro r a7 ha7 ⟨k7, rfl, p7, q7, o7⟩
              refine ⟨rfl, _, (by repeat constructor), ?_⟩
              refine o_ (h:=?_)
              refine c_ 5 rfl (s_gen 0 (hc := Gn l _ (9) (by omega) (by omega)) (hR := ?_))
              rintro r a8 ha8 ⟨k8, rfl, p8, q8, o8⟩
              refine ⟨rfl, _, (by repeat constructor), ?_⟩
              refine o_ (h:=?_)
              refine c_ 6 rfl (q_call (Rset f x1 511 k7 k8 hv) ?_)
              rintro r rfl
              refine o_ (h:=dm_ 7 (h:=dx_ 8 (h:=dx_ 9 (h:=?_))))
              refine c0_ 10 rfl (s_store rfl rfl rfl rfl rfl rfl (by repeat constructor) (by repeat constructor) ?_)
              refine o_ (h:=da_ 11 (h:=z_ (h:=x_blockN (?_))))
              refine x_then ?_
              refine ⟨_, ⟨_, _, _, ?_, ?_, rfl⟩, (wk 5 0)⟩
              · omega
              · first | exact link_okay hv _ _ _ | exact unlink_okay hv _ _ | exact rmdir_okay hv _ _ | exact rename_okay hv _ _ _ _ | exact set_okay hv _ _ _ _ | exact make_okay hv _ _ _
            · have hc5 := bp hb5
              refine yk_ ([(1, flsA f), (2, [.v (.slice none 0 0)]), (3, filA x1)]) 12 (h:=dl_ 0 (h:=dl_ 1 (h:=dm_ 2 (h:=dm_ 3 (h:=?_)))))
              refine c_ 4 rfl (s_gen 0 (hc := Gattr l _ (by omega)) (hR := ?_))
              rintro r a9 ha9 ⟨n9, ht9, he9, rfl⟩
              refine ⟨rfl, _, (by repeat constructor), ?_⟩
              refine o_ (h:=?_)
              refine c_ 5 rfl (q_call (Rmake f x1 k2 n9 hv (by omega) (by omega)) ?_)
              rintro r rfl
              refine o_ (h:=dm_ 6 (h:=dx_ 7 (h:=dx_ 8 (h:=dx_ 9 (h:=?_)))))
              refine c0_ 10 rfl (s_store rfl rfl rfl rfl rfl rfl (by repeat constructor) (by repeat constructor) ?_)
              refine o_ (h:=da_ 11 (h:=z_ (h:=x_blockN (?_))))
              refine x_then ?_
              refine ⟨_, ⟨_, _, _, ?_, ?_, rfl⟩, (wk 5 0)⟩
              · omega
              · first | exact link_okay hv _ _ _ | exact unlink_okay hv _ _ | exact rmdir_okay hv _ _ | exact rename_okay hv _ _ _ _ | exact set_okay hv _ _ _ _ | exact make_okay hv _ _ _
  · rintro t ⟨R1, e, b, hb, hok, rfl⟩
    refine q_ (w_ (m_ (h:=nq_ (h:=e_ (?_)))))
    refine aw_cond rfl (fun hb6 => ?_) (fun hb6 => ?_)
    · have hc6 := bp hb6
      refine w_ (l_ (h:=s_ (h:=e_ (aw_ret (x_thenR (?_))))))
      refine rt_ none (h5 := (LeA.refl _)) (h6 := ⟨_, rfl, rfl, b, hb, rfl, f, rfl, hv, rfl⟩)
    · have hc6 := bp hb6
      refine kt_ (w_ (l_ (h:=s_ (h:=e_ (aw_ret (?_))))))
      refine rt_ none (h5 := (LeA.refl _)) (h6 := ⟨_, rfl, rfl, b, hb, rfl, R1, rfl, hok (by omega)⟩)

theorem Gfiles (l : List Int) (a : Nat) (ha : a ≤ 100000000) : GenF Try.prog 43 l a [] 1000 (fun r => ∃ f, r = .agg (flsA f) ∧ FlsV f ∧ 0 < f.length) := by
  refine enter Try.func43 rfl rfl rfl rfl rfl 1 rfl ?_
  refine w_ (al_ (h:=e_ (w_ (m_ (h:=?_)))))
  refine al_p rfl (s_gen 0 (hc := Grange l _ (1) (3) (by omega) (by omega) (by omega) (by omega)) (hR := ?_))
  rintro r a1 ha1 ⟨k1, rfl, p1, q1⟩
  refine ⟨rfl, _, (by repeat constructor), ?_⟩
  refine al_p rfl (q_call (Rnew k1) ?_)
  rintro r rfl
  refine m_ (h:=x_ (h:=x_ (h:=al_ (h:=s_ (h:=a_ (h:=e_ (q_ (w_ (m_ (h:=?_))))))))))
  refine al_p rfl (s_gen 0 (hc := Grange l _ (2) (12) (by omega) (by omega) (by omega) (by omega)) (hR := ?_))
  rintro r a2 ha2 ⟨k2, rfl, p2, q2⟩
  refine ⟨rfl, _, (by repeat constructor), ?_⟩
  refine a_ (h:=e_ (aw_block (?_)))
  obtain ⟨hv0, hp0⟩ := new_valid p1 q1
  obtain ⟨M, rfl⟩ := Int.eq_ofNat_of_zero_le (show 0 ≤ k2 by omega)
  refine aw_loopW (fun n s => ∃ (j b : Nat) (f : Fls), j ≤ M ∧ n = j ∧ b + 80 * j ≤ a + 2 + 80 * M ∧ FlsV f ∧ 0 < f.length ∧ s = ⟨look [(0, .bp 0 0), (2, .bp 1 0), (3, .bp 2 0), (5, .v (.int .i64 (j : Int)))], ⟨[srcA l b, [.v (.slice none 0 0)], flsA f], []⟩⟩) (M) ((wk 3 0)) (⟨M, _, _, Nat.le_refl _, rfl, by omega, hv0, hp0, rfl⟩) ?_
  rintro n s ⟨j, b, f, hj, rfl, hb, hv, hp, rfl⟩
  refine q_ (w_ (m_ (h:=gt_ (h:=e_ (?_)))))
  refine aw_cond rfl (fun hb1 => ?_) (fun hb1 => ?_)
  · have hc1 := bp hb1
    refine kt_ (q_ (aw_block (aw_region (m_ (h:=l_ (h:=?_))))))
    refine al_p rfl (s_gen 0 (hc := Gchange l _ f (by omega) hv) (hR := ?_))
    rintro r a3 ha3 ⟨f3, rfl, hv3, hl3⟩
    refine ⟨rfl, _, (by repeat constructor), ?_⟩
    refine s_ (h:=al_nil (x_blockN (t_ (aw_region (m_ (h:=?_))))))
    refine al_p rfl (st_sub64 rfl rfl (by omega) ?_)
    refine a_ (h:=al_nil (?_))
    refine x_then ?_
    refine ⟨n - 1, _, by omega, ⟨n - 1, _, f3, by omega, rfl, ?_, hv3, by omega, rfl⟩, (by rw [show ((n - 1 : Nat) : Int) = (n : Int) - 1 by omega]; exact weak_of 3 0 rfl rfl rfl rfl ((by repeat (first | exact Sub.nil | refine Sub.cons _ _ _ rfl rfl ?_ | refine Sub.any _ _ ?_ | refine Sub.sl _ _ _ _ _ rfl ?_ | refine Sub.slnil _ _ _ rfl ?_))))⟩
    omega
  · have hc1 := bp hb1
    refine aw_exit (x_thenE (x_thenE (ABlock_out (t_ (w_ (l_ (h:=s_ (h:=e_ (aw_ret (?_))))))))))
    refine rt_ none (h5 := (LeA.refl _)) (h6 := ⟨_, rfl, rfl, b, by omega, rfl, f, rfl, hv, hp⟩)

end
end Go.Proofs.Ytgliiknfmlmddaa
namespace Go.Proofs.Ytgliiknfmlmddaa
open Go.RowKit

theorem SpcV.b {s : Spc} (h : SpcV s) (hm : s.mounts.length ≤ 1000) : SpcB s := ⟨h.files.b, hm⟩
section
set_option maxRecDepth 10000
set_option maxHeartbeats 1000000
theorem Gspace (l : List Int) (a : Nat) (ha : a ≤ 10000000) : GenF Try.prog 12 l a [] 1100 (fun r => ∃ s, r = .agg (spcA s) ∧ SpcV s ∧ s.mounts.length ≤ 3) := by
  refine enter Try.func12 rfl rfl rfl rfl rfl 1 rfl ?_
  refine w_ (al_ (h:=e_ (w_ (m_ (h:=?_)))))
  refine al_p rfl (s_gen 0 (hc := Gfiles l _ (by omega)) (hR := ?_))
  rintro r a1 ha1 ⟨f1, rfl, hv1, hp1⟩
  refine ⟨rfl, _, (by repeat constructor), ?_⟩
  refine al_p rfl (st_le (y := .agg (spcA ⟨f1, []⟩)) (st_build (by repeat (first | exact FillA.nil _ | (apply FillA.cons; (focus exact rfl); (focus exact rfl); (focus exact rfl); (focus exact rfl); (focus exact rfl); (focus (repeat constructor))))) ⟨rfl, rfl⟩) (by repeat (first | exact LeA.refl _ | exact LeA.nil _ | exact LeL.refl _ | refine LeA.agg ?_ | refine LeA.tup ?_ | exact LeL.nil | refine LeL.cons ?_ ?_ | exact LeA.any _)) ?_)
  refine al_ (h:=s_ (h:=e_ (q_ (w_ (m_ (h:=?_))))))
  refine al_p rfl (s_gen 0 (hc := Gn l _ (4) (by omega) (by omega)) (hR := ?_))
  rintro r a2 ha2 ⟨k2, rfl, p2, q2, o2⟩
  refine ⟨rfl, _, (by repeat constructor), ?_⟩
  refine a_ (h:=e_ (aw_block (?_)))
  obtain ⟨M, rfl⟩ := Int.eq_ofNat_of_zero_le p2
  have hM : M ≤ 3 := by omega
  refine aw_loopW (fun n t => ∃ (j b : Nat) (s : Spc), j ≤ M ∧ n = j ∧ b + 10 * j ≤ a + 1001 + 10 * M ∧ SpcV s ∧ s.mounts.length + j ≤ M ∧ t = ⟨look [(0, .bp 0 0), (2, .bp 1 0), (3, .bp 2 0), (4, .v (.int .i64 (j : Int)))], ⟨[srcA l b, [.v (.slice none 0 0), .v (.slice none 0 0)], spcA s], []⟩⟩) (M) ((wk 3 0)) (⟨M, _, ⟨f1, []⟩, Nat.le_refl _, rfl, by omega, ⟨hv1, hp1, fun i m hi => by simp at hi⟩, by simp, rfl⟩) ?_
  rintro n t ⟨j, b, s, hj, rfl, hb, hv, hm, rfl⟩
  have hsb := hv.b (by omega)
  refine q_ (w_ (m_ (h:=gt_ (h:=e_ (?_)))))
  refine aw_cond rfl (fun hb1 => ?_) (fun hb1 => ?_)
  · have hc1 := bp hb1
    refine kt_ (q_ (aw_block (?_)))
    refine aw_midI (fun t => ∃ (dev : Int) (x : Fil) (b2 : Nat), b2 ≤ b + 10 ∧ t = ⟨look [(0, .bp 0 0), (2, .bp 1 0), (3, .bp 2 0), (4, .v (.int .i64 (n : Int))), (5, .bp 3 0), (6, .v (.int .i64 (addL s dev x).2))], ⟨[srcA l b2, [.v (.slice none 0 0), .v (.slice none 0 0)], spcA s, spcA (addL s dev x).1], []⟩⟩) ?_ ?_
    · skip
      refine yk_ ([(2, spcA s)]) 14 (h:=?_)
      first | refine dl_ 0 (h:=?_) | refine tk_ 0 rfl (fun _ hS => st_loadBE (row := spcA s) rfl (kb hS rfl) (Nat.le_of_ble_eq_true rfl) rfl ⟨rfl, rfl⟩) ?_
      refine dm_ 1 (h:=dm_ 3 (h:=df_ 4 (h:=?_)))
      first | refine dl_ 5 (h:=?_) | refine tk_ 5 rfl (fun _ hS => st_loadBE (row := spcA s) rfl (kb hS rfl) (Nat.le_of_ble_eq_true rfl) rfl ⟨rfl, rfl⟩) ?_
      refine c2_ 2 11 rfl rfl ?_ ?_
      · refine s_gen 0 (hc := Grange l _ (1) (2) (by omega) (by omega) (by omega) (by omega)) (hR := ?_)
        rintro r a3 ha3 ⟨k3, rfl, p3, q3⟩
        refine ⟨rfl, _, (by repeat constructor), ?_⟩
        refine o_ (h:=?_)
        refine c2_ 6 11 rfl rfl ?_ ?_
        · refine s_gen 0 (hc := Gfile l _ s.files (by omega) hv.files.b hv.files.ne) (hR := ?_)
          rintro r a4 ha4 ⟨x4, rfl⟩
          refine ⟨rfl, _, (by repeat constructor), ?_⟩
          refine o_ (h:=?_)
          refine c2_ 7 11 rfl rfl ?_ ?_
          · refine q_call (Radd s _ _ hsb) ?_
            rintro r rfl
            refine o_ (h:=?_)
            refine dm_ 8 (h:=dx_ 9 (h:=dx_ 10 (h:=?_)))
            refine c_ 11 rfl (s_alloc (by repeat constructor) ?_)
            refine o_ (h:=?_)
            refine c0_ 12 rfl (s_store rfl rfl rfl rfl rfl rfl (by repeat constructor) (by repeat constructor) ?_)
            refine o_ (h:=da_ 13 (h:=z_ (h:=?_)))
            refine x_then ?_
            refine ⟨_, ⟨_, _, _, ?_, rfl⟩, (wk 4 0)⟩
            omega
          · refine s_alloc (by repeat constructor) ?_
            refine o_ (h:=?_)
            refine c_ 7 rfl (q_call (Radd s _ _ hsb) ?_)
            rintro r rfl
            refine o_ (h:=dm_ 8 (h:=dx_ 9 (h:=dx_ 10 (h:=?_))))
            refine c0_ 12 rfl (s_store rfl rfl rfl rfl rfl rfl (by repeat constructor) (by repeat constructor) ?_)
            refine o_ (h:=da_ 13 (h:=z_ (h:=?_)))
            refine x_then ?_
            refine ⟨_, ⟨_, _, _, ?_, rfl⟩, (wk 4 0)⟩
            omega
        · refine s_alloc (by repeat constructor) ?_
          refine o_ (h:=?_)
          refine c_ 6 rfl (s_gen 0 (hc := Gfile l _ s.files (by omega) hv.files.b hv.files.ne) (hR := ?_))
          rintro r a5 ha5 ⟨x5, rfl⟩
          refine ⟨rfl, _, (by repeat constructor), ?_⟩
          refine o_ (h:=?_)
          refine c_ 7 rfl (q_call (Radd s _ _ hsb) ?_)
          rintro r rfl
          refine o_ (h:=dm_ 8 (h:=dx_ 9 (h:=dx_ 10 (h:=?_))))
          refine c0_ 12 rfl (s_store rfl rfl rfl rfl rfl rfl (by repeat constructor) (by repeat constructor) ?_)
          refine o_ (h:=da_ 13 (h:=z_ (h:=?_)))
          refine x_then ?_
          refine ⟨_, ⟨_, _, _, ?_, rfl⟩, (wk 4 0)⟩
          omega
      · refine s_alloc (by repeat constructor) ?_
        refine o_ (h:=?_)
        refine c_ 2 rfl (s_gen 0 (hc := Grange l _ (1) (2) (by omega) (by omega) (by omega) (by omega)) (hR := ?_))
        rintro r a6 ha6 ⟨k6, rfl, p6, q6⟩
        refine ⟨rfl, _, (by repeat constructor), ?_⟩
        refine o_ (h:=?_)
        refine c_ 6 rfl (s_gen 0 (hc := Gfile l _ s.files (by omega) hv.files.b hv.files.ne) (hR := ?_))
        rintro r a7 ha7 ⟨x7, rfl⟩
        refine ⟨rfl, _, (by repeat constructor), ?_⟩
        refine o_ (h:=?_)
        refine c_ 7 rfl (q_call (Radd s _ _ hsb) ?_)
        rintro r rfl
        refine o_ (h:=dm_ 8 (h:=dx_ 9 (h:=dx_ 10 (h:=?_))))
        refine c0_ 12 rfl (s_store rfl rfl rfl rfl rfl rfl (by repeat constructor) (by repeat constructor) ?_)
        refine o_ (h:=da_ 13 (h:=z_ (h:=?_)))
        refine x_then ?_
        refine ⟨_, ⟨_, _, _, ?_, rfl⟩, (wk 4 0)⟩
        omega
    · rintro t ⟨dev, x, b2, hb2, rfl⟩
      refine w_ (m_ (h:=eq_ (h:=e_ (?_))))
      refine aw_cond rfl (fun hb2 => ?_) (fun hb2 => ?_)
      · have hc2 := bp hb2
        obtain ⟨hv2, he2⟩ := add_valid hv dev x (by omega)
        have hm2 : (addL s dev x).1.mounts.length = s.mounts.length + 1 := by rw [he2]; simp
        refine aw_region (l_ (h:=s_ (h:=al_nil (x_blockN (t_ (aw_region (m_ (h:=?_))))))))
        refine al_p rfl (st_sub64 rfl rfl (by omega) ?_)
        refine a_ (h:=al_nil (?_))
        refine x_then ?_
        first | refine ⟨n - 1, _, by omega, ⟨n - 1, _, (addL s dev x).1, by omega, rfl, ?_, hv2, ?_, rfl⟩, (by rw [show ((n - 1 : Nat) : Int) = (n : Int) - 1 by omega]; exact weak_of 3 0 rfl rfl rfl rfl ((by repeat (first | exact Sub.nil | refine Sub.cons _ _ _ rfl rfl ?_ | refine Sub.any _ _ ?_ | refine Sub.sl _ _ _ _ _ rfl ?_ | refine Sub.slnil _ _ _ rfl ?_))))⟩ | refine ⟨n - 1, _, by omega, ⟨n - 1, _, s, by omega, rfl, ?_, hv, ?_, rfl⟩, (by rw [show ((n - 1 : Nat) : Int) = (n : Int) - 1 by omega]; exact weak_of 3 0 rfl rfl rfl rfl ((by repeat (first | exact Sub.nil | refine Sub.cons _ _ _ rfl rfl ?_ | refine Sub.any _ _ ?_ | refine Sub.sl _ _ _ _ _ rfl ?_ | refine Sub.slnil _ _ _ rfl ?_))))⟩
        · omega
        · omega
      · have hc2 := bp hb2
        refine aw_skip (x_blockN (t_ (aw_region (m_ (h:=?_)))))
        refine al_p rfl (st_sub64 rfl rfl (by omega) ?_)
        refine a_ (h:=al_nil (?_))
        refine x_then ?_
        first | refine ⟨n - 1, _, by omega, ⟨n - 1, _, (addL s dev x).1, by omega, rfl, ?_, hv2, ?_, rfl⟩, (by rw [show ((n - 1 : Nat) : Int) = (n : Int) - 1 by omega]; exact weak_of 3 0 rfl rfl rfl rfl ((by repeat (first | exact Sub.nil | refine Sub.cons _ _ _ rfl rfl ?_ | refine Sub.any _ _ ?_ | refine Sub.sl _ _ _ _ _ rfl ?_ | refine Sub.slnil _ _ _ rfl ?_))))⟩ | refine ⟨n - 1, _, by omega, ⟨n - 1, _, s, by omega, rfl, ?_, hv, ?_, rfl⟩, (by rw [show ((n - 1 : Nat) : Int) = (n : Int) - 1 by omega]; exact weak_of 3 0 rfl rfl rfl rfl ((by repeat (first | exact Sub.nil | refine Sub.cons _ _ _ rfl rfl ?_ | refine Sub.any _ _ ?_ | refine Sub.sl _ _ _ _ _ rfl ?_ | refine Sub.slnil _ _ _ rfl ?_))))⟩
        · omega
        · omega
  · have hc1 := bp hb1
    refine aw_exit (x_thenE (x_thenE (ABlock_out (t_ (w_ (l_ (h:=s_ (h:=e_ (aw_ret (?_))))))))))
    refine rt_ none (h5 := (LeA.refl _)) (h6 := ⟨_, rfl, rfl, b, by omega, rfl, s, rfl, hv, by omega⟩)

end
end Go.Proofs.Ytgliiknfmlmddaa
namespace Go.Proofs.Ytgliiknfmlmddaa
open Go.RowKit

section
variable {P : Program} {ev : Operand → Option AV} {h : AH} {R : AV → AH → Prop} {d : Option Tmp} {ty : TypeId} {pos : String} {af : Array Edge} {gd : Option (Nat × Bool)}
theorem st_slit0B {T : TypeId} {E sz bytes k : Nat} {bx' : List (List AV)} [hE : Elm P T E sz bytes] (hs : SnocAt h.bx [] k bx') (hR : R (.bs k 0 sz 0 0) ⟨bx', h.tk⟩) : AStep P ⟨d, .buildSlice T 0 #[], ty, pos, af, gd⟩ ev h R := by
  intro E' G w ec hr he
  obtain ⟨hu, inf, z, hinf, hz, hzs, hsz, hby, hp⟩ := elm_spec hE.eq
  have c2 : (Instr.buildSlice T 0 #[]).run P w = .ok (.slice (some ⟨w.heap.size, 0, none⟩) 0 0) (w.alloc (.cells ([] : List Value).toArray E)) := by
    simp [Instr.buildSlice, run_underlying hu, sizeOf, typeInfo, hinf, Instr.fill, newRow]
    rw [show Array.map (fun _ => (default : Value)) (Array.range 0) = #[] from Array.eq_empty_of_size_eq_zero (by simp)]
  obtain ⟨G', q1, q2, q3⟩ := new_box (T := E) hr (us := []) (row := []) (by simp only [repL]) (by simp) hs
  simp only [rep] at q3
  obtain ⟨b, q4, q5⟩ := q3
  injection q5 with q5
  injection q5 with q5
  injection q5 with q5
  subst q5
  have c3 : (Instr.buildSlice T 0 ((#[] : Array (Nat × Operand)).map fun p => (p.1, ec p.2))).run P w = .ok (.slice (some ⟨w.heap.size, 0, none⟩) 0 0) (w.alloc (.cells ([] : List Value).toArray E)) := by simpa using c2
  simp only [execOp, Sem.run_bind, c3, Result.andThen_ok, Sem.run_pure]
  exact ⟨_, _, G', hR, q1, q2, by simp only [rep]; exact ⟨_, q4, rfl, Nat.le_refl _, Nat.zero_le _⟩⟩
end
end Go.Proofs.Ytgliiknfmlmddaa
namespace Go.Proofs.Ytgliiknfmlmddaa
open Go.RowKit

theorem clone_row {sz cap : Nat} {rows : List (List AV)} : (([] : List AV).drop 0).take (0 * sz) ++ rows.flatten ++ List.replicate ((cap - (0 + rows.length)) * sz) .any = rowsB sz cap rows := by
  unfold rowsB
  simp
theorem mnt_plain (l : List Mnt) : ∀ r ∈ l.map mntA, ∀ x ∈ r, ∃ v, x = .v v := by
  intro r hr x hx
  obtain ⟨c, _, rfl⟩ := List.mem_map.1 hr
  simp [mntA] at hx
  rcases hx with h | h | h <;> exact ⟨_, h⟩
theorem mnt_three (l : List Mnt) : ∀ r ∈ l.map mntA, r.length = 3 := by
  intro r hr
  obtain ⟨c, _, rfl⟩ := List.mem_map.1 hr
  rfl
theorem bp_plain {n m sz cap : Nat} {rows : List (List AV)} (h : ∀ r ∈ rows, ∀ x ∈ r, ∃ v, x = .v v) : bpLtL n m (rowsB sz cap rows) = true :=
  bpLt_rowsB fun r hr => bpLtL_all.2 fun x hx => by obtain ⟨v, rfl⟩ := h r hr x hx; rfl
theorem map_plain {F : AV → AV} (hany : F .any = .any) (hv : ∀ x, F (.v x) = .v x) {sz cap : Nat} {rows : List (List AV)} (h : ∀ r ∈ rows, ∀ x ∈ r, ∃ v, x = .v v) : (rowsB sz cap rows).map F = rowsB sz cap rows := by
  rw [rowsB_map F hany]
  congr 1
  conv => rhs; rw [← List.map_id rows]
  apply List.map_congr_left
  intro r hr
  conv => rhs; rw [id, ← List.map_id r]
  apply List.map_congr_left
  intro x hx
  obtain ⟨v, rfl⟩ := h r hr x hx
  exact hv v
theorem ren_rows {g : Nat → Option Nat} {sz cap : Nat} {rows : List (List AV)} (h : ∀ r ∈ rows, ∀ x ∈ r, ∃ v, x = .v v) : renL g (rowsB sz cap rows) = rowsB sz cap rows := by
  rw [renL_map]
  exact map_plain rfl (fun _ => rfl) h
theorem NB_same {ns : List Nod} {cap j : Nat} {n : Nod} (h : ns[j]? = some n) : SetAt (NB ns cap) (0 + j * 8 + 7) [.sl 2 (n.entries.map entA) none] (NB ns cap) := by
  have key := NB_set (cap1 := cap) (n' := n) (k := 7) (cs := [.sl 2 (n.entries.map entA) none]) h (by repeat constructor) (by simp)
  have e : ns.set j n = ns := by
    obtain ⟨h1, h2⟩ := List.getElem?_eq_some_iff.1 h
    rw [← h2, List.set_getElem_self]
  rwa [e] at key
theorem back_newR {bx : List (List AV)} (r1 r2 : List AV) (h1 : renL (backS [] bx.length) r1 = r1) (h2 : renL (backS [] bx.length) r2 = r2) : Back bx [] [r1, r2] (bx ++ [r1, r2]) := by
  refine ⟨by simp, fun i row _ h => ?_, fun k i row h => by simp at h, fun k row h => ?_⟩
  · rw [List.getElem?_append_left (List.getElem?_eq_some_iff.1 h).1]; exact h
  · rw [List.getElem?_append_right (by omega), show bx.length + k - bx.length = k by omega]
    simp only [List.length_nil, Nat.zero_add] at h
    match k, h with
    | 0, h => injection h with h; subst h; rw [h1]; rfl
    | 1, h => injection h with h; subst h; rw [h2]; rfl
    | k + 2, h => simp at h
section
set_option maxRecDepth 10000
set_option maxHeartbeats 1000000
theorem PcloneN (ns : List Nod) (h1 : ns.length ≤ 1000) (h0 : 0 < ns.length) : ACall Try.prog 75 [.sl 8 (ns.map nodA) none] [] (fun r b t => t = [] ∧ ∃ cap, ns.length ≤ cap ∧ r = .bs 1 0 8 ns.length cap ∧ b = [[], NB ns cap]) := by
  have hml : (ns.map nodA).length = ns.length := by simp
  refine enter Try.func75 rfl rfl rfl rfl rfl 2 rfl ?_
  refine w_ (a_ (h:=e_ (q_ (w_ (m_ (h:=?_))))))
  refine al_p rfl (st_eqNil rfl rfl ?_)
  intro b hb
  refine e_ (?_)
  refine aw_cond rfl (fun hb1 => ?_) (fun hb1 => ?_)
  · have hc1 := bp hb1
    exfalso
    have := hb hb1
    rw [this] at hml
    simp at hml
    omega
  · have hc1 := bp hb1
    refine kt_ (w_ (?_))
    refine al_p rfl (st_slit0B (k := 0) (by repeat constructor) ?_)
    refine m_ (h:=?_)
    refine al_p rfl (st_appendB rfl rfl rfl (Nat.le_of_ble_eq_true rfl) (SrcA.sl _ _) (by omega) (by omega) (fun h => absurd h (by omega)) ?_)
    rintro hg cap k bx2 hcp hs
    rw [clone_row] at hs
    obtain ⟨rfl, rfl⟩ : k = 1 ∧ bx2 = [_, NB ns cap] := hs.eq
    refine a_ (h:=e_ (aw_ret (?_)))
    refine abody_ret (r := .bs 1 0 8 ns.length cap) none (by repeat (first | exact ResA.nil | (apply ResA.tmp; (focus exact rfl)) | (apply ResA.cellN; (focus exact inferInstance); (focus exact rfl); (focus exact rfl); (focus exact rfl)) | (apply ResA.cell1; (focus exact inferInstance); (focus exact rfl); (focus exact rfl); (focus exact rfl)))) rfl rfl (by simp [bpLtB, bpLtL, bp_NB]) (LeA.of_eq (by rw [show reT none (tupA [AV.bs 1 0 8 (0 + (ns.map nodA).length) cap]) = AV.bs 1 0 8 (0 + (ns.map nodA).length) cap from rfl, hml, Nat.zero_add])) ⟨rfl, cap, by omega, rfl, rfl⟩

theorem PcloneE (es : List Ent) (h1 : es.length ≤ 1000) : AFn Try.prog 76 [.sl 2 (es.map entA) none] (fun x => x = .sl 2 (es.map entA) none) := by
  refine enter Try.func76 rfl rfl rfl rfl rfl 0 rfl ?_
  refine w_ (a_ (h:=e_ (q_ (w_ (m_ (h:=?_))))))
  refine al_p rfl (st_eqNil rfl rfl ?_)
  intro b hb
  refine e_ (?_)
  refine aw_cond rfl (fun hb1 => ?_) (fun hb1 => ?_)
  · have hc1 := bp hb1
    refine w_ (a_ (h:=e_ (aw_ret (x_thenR (?_)))))
    refine abody_ret (xs := [.v (.slice none 0 0)]) (r := .sl 2 [] none) none (by repeat (first | exact ResA.nil | (apply ResA.tmp; (focus exact rfl)) | (apply ResA.cellN; (focus exact inferInstance); (focus exact rfl); (focus exact rfl); (focus exact rfl)) | (apply ResA.cell1; (focus exact inferInstance); (focus exact rfl); (focus exact rfl); (focus exact rfl)))) rfl rfl rfl (LeA.nil _) ⟨rfl, rfl, ?_⟩
    rw [hb hc1]
  · have hc1 := bp hb1
    refine kt_ (w_ (?_))
    refine al_p rfl (s_slit0 (by repeat constructor) ?_)
    refine m_ (h:=ap_ (h:=a_ (h:=e_ (aw_ret (?_)))))
    refine e_ret ?_
    rfl

theorem PcloneMT (ms : List Mnt) (h1 : ms.length ≤ 1000) : AFnT Try.prog 74 [.sl 3 (ms.map mntA) none] (fun g => .sl 3 (ms.map mntA) g) (60, 3, ms.map mntA) := by
  refine enter Try.func74 rfl rfl rfl rfl rfl 0 rfl ?_
  refine w_ (a_ (h:=e_ (q_ (w_ (m_ (h:=?_))))))
  refine al_p rfl (st_eqNil rfl rfl ?_)
  intro b hb
  refine e_ (?_)
  refine aw_cond rfl (fun hb1 => ?_) (fun hb1 => ?_)
  · have hc1 := bp hb1
    refine aw_midI (fun t => t = ⟨look [(2, .v (.slice none 0 0))], ⟨[], []⟩⟩) ?_ ?_
    · skip
      refine aw_region (a_ (h:=al_nil (?_)))
      refine x_then ?_
      exact ⟨_, rfl, (wk 0 0)⟩
    · rintro t rfl
      refine aw_nilTok 2 60 3 rfl (by repeat constructor) ?_
      rw [hb hb1]
      refine aw_ret (x_thenR (?_))
      refine rt_ (some 0) (h5 := (LeA.refl _)) (h6 := ⟨rfl, rfl, rfl⟩)
  · have hc1 := bp hb1
    refine kt_ (w_ (?_))
    refine al_p rfl (s_slit0 (by repeat constructor) ?_)
    refine m_ (h:=ap_ (h:=a_ (h:=e_ (aw_ret (?_)))))
    refine rt_ (some 0) (h5 := (LeA.refl _)) (h6 := ⟨rfl, rfl, rfl⟩)

theorem PspcT (s : Spc) (hs : SpcB s) (hne : ∀ d ∈ s.files, 0 < d.nodes.length) : AFnT Try.prog 46 [.agg (spcA s)] (fun g => .agg [.sl 2 (s.files.map dvcA) none, .sl 3 (s.mounts.map mntA) g]) (60, 3, s.mounts.map mntA) := by
  have hm := hs.few
  have hfew := hs.files.few
  refine enter Try.func46 rfl rfl rfl rfl rfl 0 rfl ?_
  refine w_ (b_ (h:=al_ (h:=e_ (w_ (f_ (h:=l_ (h:=?_)))))))
  refine al_p rfl (s_callT rfl (by repeat (first | exact Args.nil | refine Args.cons _ _ _ _ _ rfl (argOk_clean rfl) ?_ | refine Args.cons _ _ _ _ _ rfl (argOk_nil _) ?_ | refine Args.cons _ _ _ _ _ rfl (argOk_era _) ?_ | refine Args.cons _ _ _ _ _ rfl (argOk_le rfl (by repeat (first | exact LeA.refl _ | exact LeA.nil _ | exact LeL.refl _ | refine LeA.agg ?_ | refine LeA.tup ?_ | exact LeL.nil | refine LeL.cons ?_ ?_ | exact LeA.any _))) ?_)) (PcloneMT s.mounts hm) (fun _ => rfl) (by repeat constructor) ?_)
  refine bd_ (h:=al_ (h:=s_ (h:=e_ (q_ (w_ (f_ (h:=f_ (h:=l_ (h:=n_ (h:=m_ (h:=e_ (aw_block (?_)))))))))))))
  refine aw_nilTokB 2 0 68 2 rfl rfl (by repeat constructor) (by repeat constructor) (by repeat constructor) ?_
  refine aw_loopW (fun m t => ∃ j : Nat, j ≤ s.files.length ∧ m = s.files.length - j ∧ t = ⟨look [(2, .bp 1 0), (3, .bp 2 0), (14, .sl 2 (s.files.map dvcA) none), (15, .v (.int .i64 ((s.files.map dvcA).length : Int))), (16, .v (.int .i64 (j : Int)))], ⟨[spcA s, [.v (.slice none 0 0), .v (.slice none 0 0)], [.sl 2 ((s.files.take j).map dvcA) (some 1), .sl 3 (s.mounts.map mntA) (some 0)]], [(60, 3, s.mounts.map mntA), (68, 2, (s.files.take j).map dvcA)]⟩⟩) (s.files.length) ((wk 3 2)) (⟨0, Nat.zero_le _, rfl, rfl⟩) ?_
  rintro m t ⟨j, hj, rfl, rfl⟩
  refine w_ (lt_ (h:=e_ (q_ (?_))))
  refine aw_cond rfl (fun hb1 => ?_) (fun hb1 => ?_)
  · have hc1 := bp hb1
    obtain ⟨hlt, d, hd, hrow, e⟩ := row_at dvcA hc1
    have hdn := hs.files.nodes d (List.mem_of_getElem? hd)
    have hdp := hne d (List.mem_of_getElem? hd)
    refine kt_ (q_ (aw_block (w_ (i_ (h:=l_ (h:=al_ (h:=s_ (h:=e_ (w_ (f_ (h:=l_ (h:=?_))))))))))))
    refine al_p rfl (s_callM [] rfl (.cons _ _ _ _ _ rfl (LeA.refl _) .nil) (by decide) .nil (PcloneN d.nodes hdn hdp) ?_)
    rintro r bc tc ⟨rfl, cap, hcap, rfl, rfl⟩
    refine ⟨rfl, _, (back_newR [] (NB d.nodes cap) (by simp [renL]) (ren_NB _ _ _) : Back _ [] _ [_, _, _, _, _, _]), ?_⟩
    refine a_ (h:=e_ (?_))
    refine aw_midI (fun t => t = ⟨look [(2, .bp 1 0), (3, .bp 2 0), (14, .sl 2 (s.files.map dvcA) none), (15, .v (.int .i64 ((s.files.map dvcA).length : Int))), (16, .v (.int .i64 (j : Int))), (5, .bp 3 0), (6, .sl 8 (d.nodes.map nodA) none)], ⟨[spcA s, [.v (.slice none 0 0), .v (.slice none 0 0)], [.sl 2 ((s.files.take j).map dvcA) (some 1), .sl 3 (s.mounts.map mntA) (some 0)], dvcA d], [(60, 3, s.mounts.map mntA), (68, 2, (s.files.take j).map dvcA)]⟩⟩) ?_ ?_
    · skip
      refine w_ (m_ (h:=?_))
      refine al_p rfl (st_lenB rfl ?_)
      refine m_ (h:=e_ (aw_block (?_)))
      refine aw_loopW (fun m t => ∃ i : Nat, i ≤ d.nodes.length ∧ m = d.nodes.length - i ∧ t = ⟨look [(2, .bp 1 0), (3, .bp 2 0), (14, .sl 2 (s.files.map dvcA) none), (15, .v (.int .i64 ((s.files.map dvcA).length : Int))), (16, .v (.int .i64 (j : Int))), (5, .bp 3 0), (6, .bs 5 0 8 d.nodes.length cap), (24, .v (.int .i64 (d.nodes.length : Int))), (25, .v (.int .i64 (i : Int)))], ⟨[spcA s, [.v (.slice none 0 0), .v (.slice none 0 0)], [.sl 2 ((s.files.take j).map dvcA) (some 1), .sl 3 (s.mounts.map mntA) (some 0)], dvcA d, [], NB d.nodes cap], [(60, 3, s.mounts.map mntA), (68, 2, (s.files.take j).map dvcA)]⟩⟩) (d.nodes.length) (weak_of 6 2 rfl rfl rfl (by simp [bpLtB, bpLtL, bpLt, bp_NB, bp_plain (mnt_plain s.mounts), spcA, dvcA]) (by repeat (first | exact Sub.nil | refine Sub.cons _ _ _ rfl rfl ?_ | refine Sub.any _ _ ?_ | refine Sub.sl _ _ _ _ _ rfl ?_ | refine Sub.slnil _ _ _ rfl ?_))) (⟨0, Nat.zero_le _, rfl, rfl⟩) ?_
      rintro m t ⟨i, hi, rfl, rfl⟩
      refine w_ (lt_ (h:=e_ (q_ (?_))))
      refine aw_cond rfl (fun hb2 => ?_) (fun hb2 => ?_)
      · have hc2 := bp hb2
        have hil : i < d.nodes.length := by omega
        obtain ⟨n, hy⟩ : ∃ n, d.nodes[i]? = some n := ⟨_, List.getElem?_eq_getElem hil⟩
        have hen := hs.files.ents d (List.mem_of_getElem? hd) n (List.mem_of_getElem? hy)
        refine kt_ (q_ (aw_block (w_ (m_ (h:=a_ (h:=e_ (aw_region (m_ (h:=m_ (h:=m_ (h:=m_ (h:=?_))))))))))))
        refine al_p rfl (st_indexS (m := i) rfl rfl rfl hil ?_)
        refine f_ (h:=?_)
        refine al_p rfl (st_loadB1 rfl rfl (NB_get hy rfl) ?_)
        refine al_p rfl (q_call (PcloneE n.entries hen) ?_)
        rintro r rfl
        refine al_p rfl (st_indexS (m := i) rfl rfl rfl hil ?_)
        refine f_ (h:=?_)
        refine al_p0 (s_store rfl rfl rfl rfl rfl rfl (NB_same hy) (by repeat constructor) ?_)
        refine al_nil (x_blockN (t_ (aw_region (ad_ (h:=m_ (h:=al_nil (?_)))))))
        refine x_then ?_
        refine ⟨_, _, ?_, ⟨i + 1, by omega, rfl, rfl⟩, weak_of 6 2 rfl rfl rfl (by simp [bpLtB, bpLtL, bpLt, bp_NB, bp_plain (mnt_plain s.mounts), spcA, dvcA]) ((by repeat (first | exact Sub.nil | refine Sub.cons _ _ _ rfl rfl ?_ | refine Sub.any _ _ ?_ | refine Sub.sl _ _ _ _ _ rfl ?_ | refine Sub.slnil _ _ _ rfl ?_)))⟩
        omega
      · have hc2 := bp hb2
        refine aw_exit (x_thenE (x_thenE (ABlock_out (?_))))
        refine x_then ?_
        exact ⟨_, rfl, weak_fz 4 1 rfl rfl (.cons _ _ _ _ rfl (LeA.refl _) (.cons _ _ _ _ rfl (LeA.refl _) (.cons _ _ _ _ rfl (LeA.refl _) (.cons _ _ _ _ rfl (LeA.refl _) (.cons _ _ _ _ rfl (LeA.refl _) (.cons _ _ _ _ rfl (LeA.refl _) (.cons _ _ _ _ rfl (LeA.of_eq (liv_rows (rows := d.nodes.map nodA) (Nat.le_of_ble_eq_true rfl) (frz_NB (n := 4) (k := 0) (j := 5) (Nat.le_of_ble_eq_true rfl) rfl) (nods_eight _) (by simp) (by simpa using hcap))) .nil)))))))⟩
    · rintro t rfl
      refine aw_region (f_ (h:=f_ (h:=l_ (h:=f_ (h:=l_ (h:=m_ (h:=bd_ (h:=bs_ (h:=?_)))))))))
      first | refine al_p rfl (s_append rfl rfl rfl (by simp; omega) (by repeat constructor) ?_) | refine al_p rfl (s_append0 rfl rfl (by simp; omega) (by repeat constructor) ?_)
      refine f_ (h:=f_ (h:=s_ (h:=al_nil (x_blockN (t_ (aw_region (ad_ (h:=m_ (h:=al_nil (?_))))))))))
      refine x_then ?_
      refine ⟨_, _, ?_, ⟨j + 1, by omega, rfl, rfl⟩, (by rw [e]; exact weak_of 3 2 rfl rfl rfl rfl ((by repeat (first | exact Sub.nil | refine Sub.cons _ _ _ rfl rfl ?_ | refine Sub.any _ _ ?_ | refine Sub.sl _ _ _ _ _ rfl ?_ | refine Sub.slnil _ _ _ rfl ?_))))⟩
      omega
  · have hc1 := bp hb1
    have e := row_no dvcA hj hc1
    subst e
    rw [List.take_length]
    refine aw_exit (x_thenE (x_thenE (ABlock_out (t_ (w_ (l_ (h:=s_ (h:=e_ (aw_ret (?_))))))))))
    refine rt_ (some 0) (h5 := (LeA.refl _)) (h6 := ⟨rfl, rfl, rfl⟩)

end
end Go.Proofs.Ytgliiknfmlmddaa
namespace Go.Proofs.Ytgliiknfmlmddaa
open Go.RowKit

theorem renK_rows {g : Nat → Option Nat} {sz cap : Nat} {rows : List (List AV)} (h : ∀ r ∈ rows, ∀ x ∈ r, ∃ v, x = .v v) : renKL g (rowsB sz cap rows) = rowsB sz cap rows := by
  rw [renKL_map]
  exact map_plain rfl (fun _ => rfl) h
section
set_option maxRecDepth 10000
set_option maxHeartbeats 1000000
theorem Padd (s : Spc) (dev : Int) (a : Fil) (hs : SpcB s) (hne : ∀ d ∈ s.files, 0 < d.nodes.length) : AFn Try.prog 15 [.agg (spcA s), .v (.int .i64 dev), .agg (filA a)] (fun r => r = spcR (addL s dev a)) := by
  have hfew := hs.few
  refine enter Try.func15 rfl rfl rfl rfl rfl 0 rfl ?_
  refine w_ (b_ (h:=b_ (h:=al_ (h:=a_ (h:=e_ (q_ (w_ (l_ (h:=m_ (h:=?_))))))))))
  refine al_p rfl (q_call (PdeviceM s dev hs) ?_)
  rintro r rfl
  refine nt_ (h:=e_ (?_))
  refine aw_cond rfl (fun hb1 => ?_) (fun hb1 => ?_)
  · have hc1 := bp hb1
    refine w_ (bd_ (h:=s_ (h:=a_ (h:=e_ (aw_ret (x_thenR (?_)))))))
    refine rt_ (r := spcR (addL s dev a)) none (h5 := ?_) (h6 := ⟨rfl, rfl, rfl⟩)
    rw [addL, if_pos (by omega)]
    exact sperr_le _
  · have hc1 := bp hb1
    refine kt_ (w_ (f_ (h:=l_ (h:=l_ (h:=?_)))))
    refine al_p rfl (q_call (Pnode s.files a hs.files) ?_)
    rintro r rfl
    refine m_ (h:=x_ (h:=x_ (h:=al_ (h:=s_ (h:=a_ (h:=e_ (q_ (aw_block (w_ (m_ (h:=nt_ (h:=a_ (h:=e_ (?_))))))))))))))
    refine aw_cond rfl (fun hb2 => ?_) (fun hb2 => ?_)
    · have hc2 := bp hb2
      refine w_ (bd_ (h:=s_ (h:=a_ (h:=e_ (aw_ret (x_blockR (x_thenR (?_))))))))
      refine rt_ (r := spcR (addL s dev a)) none (h5 := ?_) (h6 := ⟨rfl, rfl, rfl⟩)
      rw [addL, if_neg (by omega), if_pos hc2]
      exact sperr_le _
    · have hc2 := bp hb2
      refine w_ (f_ (h:=l_ (h:=nq_ (h:=a_ (h:=e_ (?_))))))
      refine aw_cond rfl (fun hb3 => ?_) (fun hb3 => ?_)
      · have hc3 := bp hb3
        refine w_ (bd_ (h:=s_ (h:=a_ (h:=e_ (aw_ret (x_blockR (x_thenR (?_))))))))
        refine rt_ (r := spcR (addL s dev a)) none (h5 := ?_) (h6 := ⟨rfl, rfl, rfl⟩)
        rw [addL, if_neg (by omega), if_neg (by simp [hc2]), if_pos hc3]
        exact sperr_le _
      · have hc3 := bp hb3
        refine w_ (l_ (h:=f_ (h:=l_ (h:=?_))))
        refine al_p rfl (q_call (Pmounted s a.1 hs) ?_)
        rintro r rfl
        refine nt_ (h:=m_ (h:=?_))
        refine al_gs false rfl rfl (fun hb4 => ?_) (fun hb4 => ?_)
        · have hc4 := bp hb4
          refine g0_ (h:=g0_ (h:=g0_ (h:=g0_ (h:=pt_ (h:=a_ (h:=e_ (cy_ (h:=w_ (bd_ (h:=s_ (h:=a_ (h:=e_ (aw_ret (x_blockR (x_thenR (?_))))))))))))))))
          refine rt_ (r := spcR (addL s dev a)) none (h5 := ?_) (h6 := ⟨rfl, rfl, rfl⟩)
          rw [addL, if_neg (by omega), if_neg (by simp [hc2]), if_neg (by simp [hc3]), if_pos (.inl hc4)]
          exact sperr_le _
        · have hc4 := bp hb4
          refine f_ (h:=l_ (h:=m_ (h:=eq_ (h:=pf_ (h:=a_ (h:=e_ (?_)))))))
          refine aw_cond rfl (fun hb5 => ?_) (fun hb5 => ?_)
          · have hc5 := bp hb5
            refine w_ (bd_ (h:=s_ (h:=a_ (h:=e_ (aw_ret (x_blockR (x_thenR (?_))))))))
            refine rt_ (r := spcR (addL s dev a)) none (h5 := ?_) (h6 := ⟨rfl, rfl, rfl⟩)
            rw [addL, if_neg (by omega), if_neg (by simp [hc2]), if_neg (by simp [hc3]), if_pos (.inr hc5)]
            exact sperr_le _
          · have hc5 := bp hb5
            refine w_ (l_ (h:=m_ (h:=?_)))
            refine al_p rfl (q_call (Pmounted s dev hs) ?_)
            rintro r rfl
            refine m_ (h:=?_)
            refine al_gs false rfl rfl (fun hb6 => ?_) (fun hb6 => ?_)
            · have hc6 := bp hb6
              refine g0_ (h:=g0_ (h:=g0_ (h:=pt_ (h:=a_ (h:=e_ (cy_ (h:=w_ (bd_ (h:=s_ (h:=a_ (h:=e_ (aw_ret (x_blockR (x_thenR (?_)))))))))))))))
              refine rt_ (r := spcR (addL s dev a)) none (h5 := ?_) (h6 := ⟨rfl, rfl, rfl⟩)
              rw [addL, if_neg (by omega), if_neg (by simp [hc2]), if_neg (by simp [hc3]), if_neg (by simp [hc4, hc5]), if_pos (.inl hc6)]
              exact sperr_le _
            · have hc6 := bp hb6
              refine l_ (h:=l_ (h:=?_))
              refine g_y (q_call (Pcovered s a hs) ?_)
              rintro r rfl
              refine pf_ (h:=a_ (h:=e_ (?_)))
              refine aw_cond rfl (fun hb7 => ?_) (fun hb7 => ?_)
              · have hc7 := bp hb7
                refine w_ (bd_ (h:=s_ (h:=a_ (h:=e_ (aw_ret (x_blockR (x_thenR (?_))))))))
                refine rt_ (r := spcR (addL s dev a)) none (h5 := ?_) (h6 := ⟨rfl, rfl, rfl⟩)
                rw [addL, if_neg (by omega), if_neg (by simp [hc2]), if_neg (by simp [hc3]), if_neg (by simp [hc4, hc5]), if_pos (.inr hc7)]
                exact sperr_le _
              · have hc7 := bp hb7
                refine aw_skip (x_blockN (t_ (w_ (l_ (h:=?_)))))
                refine al_p rfl (s_callT rfl (by repeat (first | exact Args.nil | refine Args.cons _ _ _ _ _ rfl (argOk_clean rfl) ?_ | refine Args.cons _ _ _ _ _ rfl (argOk_nil _) ?_ | refine Args.cons _ _ _ _ _ rfl (argOk_era _) ?_ | refine Args.cons _ _ _ _ _ rfl (argOk_le rfl (by repeat (first | exact LeA.refl _ | exact LeA.nil _ | exact LeL.refl _ | refine LeA.agg ?_ | refine LeA.tup ?_ | exact LeL.nil | refine LeL.cons ?_ ?_ | exact LeA.any _))) ?_)) (PspcT s hs hne) (fun _ => rfl) (by repeat constructor) ?_)
                refine s_ (h:=e_ (w_ (f_ (h:=l_ (h:=m_ (h:=l_ (h:=bd_ (h:=bs_ (h:=?_)))))))))
                first | refine al_p rfl (s_append rfl rfl rfl (by simp; omega) (by repeat constructor) ?_) | refine al_p rfl (s_append0 rfl rfl (by simp; omega) (by repeat constructor) ?_)
                refine f_ (h:=s_ (h:=e_ (w_ (l_ (h:=s_ (h:=a_ (h:=e_ (aw_ret (?_)))))))))
                refine e_ret ?_
                rw [addL, if_neg (by omega), if_neg (by simp [hc2]), if_neg (by simp [hc3]), if_neg (by simp [hc4, hc5]), if_neg (by simp [hc6, hc7])]
                simp only [spcR, spcA, List.map_append]
                rfl

end
end Go.Proofs.Ytgliiknfmlmddaa
namespace Go.Proofs.Ytgliiknfmlmddaa
open Go.RowKit

def mntAt (s : Spc) (i : Nat) : Bool := match s.mounts[i]? with
  | none => true
  | some m => if m.1 < 1 then false else if (s.files.length : Int) ≤ m.1 then false else if mtdL ⟨s.files, s.mounts.take i⟩ m.1 = true then false else if dirL s.files m.2 = false then false
    else if mtdL ⟨s.files, s.mounts.take i⟩ m.2.1 = false then false else if (covL ⟨s.files, s.mounts.take i⟩ m.2).isSome = true then false else true
def vldS (v : Bool) (s : Spc) : Bool := v && (List.range s.mounts.length).all (mntAt s)
theorem spc_take {s : Spc} (hs : SpcB s) (i : Nat) : SpcB ⟨s.files, s.mounts.take i⟩ := ⟨hs.files, Nat.le_trans (by simp; omega) hs.few⟩
theorem take_enc (s : Spc) (i : Nat) : AV.agg [AV.sl 2 (s.files.map dvcA) none, AV.sl 3 ((s.mounts.map mntA).take i) none] = AV.agg (spcA ⟨s.files, s.mounts.take i⟩) := by
  unfold spcA
  rw [List.map_take]
section
set_option maxRecDepth 20000
set_option maxHeartbeats 4000000
theorem Rvalid6 (s : Spc) (hs : SpcB s) (ht : FlsT s.files) : AFn Try.prog 18 [.agg (spcA s)] (fun r => r = .v (.bool (vldS (vldR s.files) s))) := by
  have hfew := hs.few
  have hel : (s.mounts.map mntA).length = s.mounts.length := by simp
  have hfl : (s.files.map dvcA).length = s.files.length := by simp
  refine enter Try.func18 rfl rfl rfl rfl rfl 0 rfl ?_
  refine w_ (b_ (h:=a_ (h:=e_ (q_ (w_ (f_ (h:=l_ (h:=?_))))))))
  refine al_p rfl (q_call (Rvalid5 s.files ht) ?_)
  rintro r rfl
  refine nt_ (h:=e_ (?_))
  refine aw_cond rfl (fun hb1 => ?_) (fun hb1 => ?_)
  · have hc1 := bp hb1
    refine w_ (a_ (h:=e_ (aw_ret (x_thenR (?_)))))
    refine e_ret ?_
    first | exact vb (by unfold vldS; rw [hc1]; rfl) | exact vb (by unfold vldS; rw [range_no hlt (by unfold mntAt; simp only [hy]; simp_all), Bool.and_false]) | exact vb (by unfold vldS; rw [range_yes (fun i hi => ha i (by omega)), Bool.and_true]; exact hc1.symm)
  · have hc1 := bp hb1
    refine kt_ (q_ (w_ (a_ (h:=e_ (aw_block (?_))))))
    refine aw_loopW (fun m t => ∃ j : Nat, j ≤ s.mounts.length ∧ m = s.mounts.length - j ∧ (∀ i, i < j → mntAt s i = true) ∧ t = ⟨look [(1, .bp 0 0), (3, .v (.int .i64 (j : Int)))], ⟨[spcA s], []⟩⟩) (s.mounts.length) ((wk 1 0)) (⟨0, by omega, rfl, fun i hi => by omega, rfl⟩) ?_
    rintro m t ⟨j, hj, rfl, ha, rfl⟩
    refine q_ (w_ (m_ (h:=f_ (h:=l_ (h:=n_ (h:=lt_ (h:=e_ (?_))))))))
    refine aw_cond rfl (fun hb2 => ?_) (fun hb2 => ?_)
    · have hc2 := bp hb2
      obtain ⟨hlt, x, hy, hrow, -⟩ := row_at mntA hc2
      refine kt_ (q_ (aw_block (q_ (yk_ ([(0, spcA s)]) 8 (h:=df_ 0 (h:=dl_ 1 (h:=df_ 2 (h:=dl_ 3 (h:=dm_ 4 (h:=?_))))))))))
      refine tk_ 5 rfl (fun _ hS => st_sliceHi rfl rfl rfl (by omega) ⟨rfl, rfl⟩) ?_
      refine tk_ 6 rfl (fun _ hS => st_le (y := .agg (spcA ⟨s.files, s.mounts.take j⟩)) (st_build (by repeat (first | exact FillA.nil _ | (apply FillA.cons; (focus exact rfl); (focus exact rfl); (focus exact rfl); (focus exact rfl); (focus exact rfl); (focus (repeat constructor))))) ⟨rfl, rfl⟩) (by rw [← take_enc]; exact LeA.refl _) ⟨rfl, rfl⟩) ?_
      refine c_ 7 rfl (s_alloc (by repeat constructor) ?_)
      refine o_ (h:=?_)
      refine c0_ 8 rfl (s_store rfl rfl rfl rfl rfl rfl (by repeat constructor) (by repeat constructor) ?_)
      refine o_ (h:=z_ (h:=t_ (w_ (f_ (h:=l_ (h:=m_ (h:=?_)))))))
      refine al_p rfl (st_index (n := j) rfl rfl rfl hrow ?_)
      refine l_ (h:=al_ (h:=s_ (h:=e_ (w_ (f_ (h:=l_ (h:=lt_ (h:=m_ (h:=?_)))))))))
      refine al_gs false rfl rfl (fun hb3 => ?_) (fun hb3 => ?_)
      · have hc3 := bp hb3
        refine g0_ (h:=g0_ (h:=g0_ (h:=g0_ (h:=g0_ (h:=g0_ (h:=g0_ (h:=pt_ (h:=m_ (h:=g0_ (h:=g0_ (h:=g0_ (h:=g0_ (h:=pt_ (h:=m_ (h:=g0_ (h:=g0_ (h:=g0_ (h:=g0_ (h:=g0_ (h:=g0_ (h:=pt_ (h:=m_ (h:=g0_ (h:=?_))))))))))))))))))))))))
        refine g0_ (h:=g0_ (h:=g0_ (h:=g0_ (h:=g0_ (h:=pt_ (h:=m_ (h:=g0_ (h:=g0_ (h:=g0_ (h:=g0_ (h:=pt_ (h:=e_ (cy_ (h:=w_ (a_ (h:=e_ (aw_ret (x_blockR (x_thenR (x_thenR (x_blockR (x_thenR (?_)))))))))))))))))))))))
        refine e_ret ?_
        first | exact vb (by unfold vldS; rw [hc1]; rfl) | exact vb (by unfold vldS; rw [range_no hlt (by unfold mntAt; simp only [hy]; simp_all), Bool.and_false]) | exact vb (by unfold vldS; rw [range_yes (fun i hi => ha i (by omega)), Bool.and_true]; exact hc1.symm)
      · have hc3 := bp hb3
        refine f_ (h:=l_ (h:=f_ (h:=f_ (h:=l_ (h:=n_ (h:=ge_ (h:=pf_ (h:=m_ (h:=?_)))))))))
        refine al_gs false rfl rfl (fun hb4 => ?_) (fun hb4 => ?_)
        · have hc4 := bp hb4
          refine g0_ (h:=g0_ (h:=g0_ (h:=g0_ (h:=pt_ (h:=m_ (h:=g0_ (h:=g0_ (h:=g0_ (h:=g0_ (h:=g0_ (h:=g0_ (h:=pt_ (h:=m_ (h:=g0_ (h:=g0_ (h:=g0_ (h:=g0_ (h:=g0_ (h:=g0_ (h:=pt_ (h:=m_ (h:=g0_ (h:=g0_ (h:=?_))))))))))))))))))))))))
          refine g0_ (h:=g0_ (h:=pt_ (h:=e_ (cy_ (h:=w_ (a_ (h:=e_ (aw_ret (x_blockR (x_thenR (x_thenR (x_blockR (x_thenR (?_))))))))))))))
          refine e_ret ?_
          first | exact vb (by unfold vldS; rw [hc1]; rfl) | exact vb (by unfold vldS; rw [range_no hlt (by unfold mntAt; simp only [hy]; simp_all), Bool.and_false]) | exact vb (by unfold vldS; rw [range_yes (fun i hi => ha i (by omega)), Bool.and_true]; exact hc1.symm)
        · have hc4 := bp hb4
          refine l_ (h:=f_ (h:=l_ (h:=?_)))
          refine g_y (q_call (Rmounted ⟨s.files, s.mounts.take j⟩ x.1 (spc_take hs j)) ?_)
          rintro r rfl
          refine pf_ (h:=m_ (h:=?_))
          refine al_gs false rfl rfl (fun hb5 => ?_) (fun hb5 => ?_)
          · have hc5 := bp hb5
            refine g0_ (h:=g0_ (h:=g0_ (h:=g0_ (h:=g0_ (h:=g0_ (h:=pt_ (h:=m_ (h:=g0_ (h:=g0_ (h:=g0_ (h:=g0_ (h:=g0_ (h:=g0_ (h:=pt_ (h:=m_ (h:=g0_ (h:=g0_ (h:=g0_ (h:=g0_ (h:=pt_ (h:=e_ (cy_ (h:=w_ (?_))))))))))))))))))))))))
            refine a_ (h:=e_ (aw_ret (x_blockR (x_thenR (x_thenR (x_blockR (x_thenR (?_))))))))
            refine e_ret ?_
            first | exact vb (by unfold vldS; rw [hc1]; rfl) | exact vb (by unfold vldS; rw [range_no hlt (by unfold mntAt; simp only [hy]; simp_all), Bool.and_false]) | exact vb (by unfold vldS; rw [range_yes (fun i hi => ha i (by omega)), Bool.and_true]; exact hc1.symm)
          · have hc5 := bp hb5
            refine f_ (h:=l_ (h:=f_ (h:=l_ (h:=?_))))
            refine g_y (q_call (Rdir s.files x.2 hs.files) ?_)
            rintro r rfl
            refine nt_ (h:=pf_ (h:=m_ (h:=?_)))
            refine al_gs false rfl rfl (fun hb6 => ?_) (fun hb6 => ?_)
            · have hc6 := bp hb6
              refine g0_ (h:=g0_ (h:=g0_ (h:=g0_ (h:=g0_ (h:=g0_ (h:=pt_ (h:=m_ (h:=g0_ (h:=g0_ (h:=g0_ (h:=g0_ (h:=pt_ (h:=e_ (cy_ (h:=w_ (a_ (h:=e_ (aw_ret (x_blockR (x_thenR (x_thenR (x_blockR (x_thenR (?_))))))))))))))))))))))))
              refine e_ret ?_
              first | exact vb (by unfold vldS; rw [hc1]; rfl) | exact vb (by unfold vldS; rw [range_no hlt (by unfold mntAt; simp only [hy]; simp_all), Bool.and_false]) | exact vb (by unfold vldS; rw [range_yes (fun i hi => ha i (by omega)), Bool.and_true]; exact hc1.symm)
            · have hc6 := bp hb6
              refine l_ (h:=f_ (h:=f_ (h:=l_ (h:=?_))))
              refine g_y (q_call (Rmounted ⟨s.files, s.mounts.take j⟩ x.2.1 (spc_take hs j)) ?_)
              rintro r rfl
              refine nt_ (h:=pf_ (h:=m_ (h:=?_)))
              refine al_gs false rfl rfl (fun hb7 => ?_) (fun hb7 => ?_)
              · have hc7 := bp hb7
                refine g0_ (h:=g0_ (h:=g0_ (h:=g0_ (h:=pt_ (h:=e_ (cy_ (h:=w_ (a_ (h:=e_ (aw_ret (x_blockR (x_thenR (x_thenR (x_blockR (x_thenR (?_))))))))))))))))
                refine e_ret ?_
                first | exact vb (by unfold vldS; rw [hc1]; rfl) | exact vb (by unfold vldS; rw [range_no hlt (by unfold mntAt; simp only [hy]; simp_all), Bool.and_false]) | exact vb (by unfold vldS; rw [range_yes (fun i hi => ha i (by omega)), Bool.and_true]; exact hc1.symm)
              · have hc7 := bp hb7
                refine l_ (h:=f_ (h:=l_ (h:=?_)))
                refine g_y (q_call (Rcovered ⟨s.files, s.mounts.take j⟩ x.2 (spc_take hs j)) ?_)
                rintro r rfl
                refine pf_ (h:=e_ (?_))
                refine aw_cond rfl (fun hb8 => ?_) (fun hb8 => ?_)
                · have hc8 := bp hb8
                  refine w_ (a_ (h:=e_ (aw_ret (x_blockR (x_thenR (x_thenR (x_blockR (x_thenR (?_)))))))))
                  refine e_ret ?_
                  first | exact vb (by unfold vldS; rw [hc1]; rfl) | exact vb (by unfold vldS; rw [range_no hlt (by unfold mntAt; simp only [hy]; simp_all), Bool.and_false]) | exact vb (by unfold vldS; rw [range_yes (fun i hi => ha i (by omega)), Bool.and_true]; exact hc1.symm)
                · have hc8 := bp hb8
                  refine aw_skip (x_blockN (t_ (aw_region (m_ (h:=ad_ (h:=a_ (h:=al_nil (?_))))))))
                  refine x_then ?_
                  refine ⟨_, _, ?_, ⟨j + 1, by omega, rfl, upto_next ha (by unfold mntAt; simp only [hy]; simp_all), rfl⟩, (wk 1 0)⟩
                  omega
    · have hc2 := bp hb2
      refine aw_exit (x_thenE (x_thenE (ABlock_out (t_ (w_ (a_ (h:=e_ (aw_ret (?_)))))))))
      refine e_ret ?_
      first | exact vb (by unfold vldS; rw [hc1]; rfl) | exact vb (by unfold vldS; rw [range_no hlt (by unfold mntAt; simp only [hy]; simp_all), Bool.and_false]) | exact vb (by unfold vldS; rw [range_yes (fun i hi => ha i (by omega)), Bool.and_true]; exact hc1.symm)

theorem Pvalid6 (s : Spc) (hs : SpcB s) (ht : FlsT s.files) : AFn Try.prog 42 [.agg (spcA s)] (fun r => r = .v (.bool (vldS (vldP s.files) s))) := by
  have hfew := hs.few
  have hel : (s.mounts.map mntA).length = s.mounts.length := by simp
  have hfl : (s.files.map dvcA).length = s.files.length := by simp
  refine enter Try.func42 rfl rfl rfl rfl rfl 0 rfl ?_
  refine w_ (b_ (h:=a_ (h:=e_ (q_ (w_ (f_ (h:=l_ (h:=?_))))))))
  refine al_p rfl (q_call (Pvalid5 s.files ht) ?_)
  rintro r rfl
  refine nt_ (h:=e_ (?_))
  refine aw_cond rfl (fun hb1 => ?_) (fun hb1 => ?_)
  · have hc1 := bp hb1
    refine w_ (a_ (h:=e_ (aw_ret (x_thenR (?_)))))
    refine e_ret ?_
    first | exact vb (by unfold vldS; rw [hc1]; rfl) | exact vb (by unfold vldS; rw [range_no hlt (by unfold mntAt; simp only [hy]; simp_all), Bool.and_false]) | exact vb (by unfold vldS; rw [range_yes (fun i hi => ha i (by omega)), Bool.and_true]; exact hc1.symm)
  · have hc1 := bp hb1
    refine kt_ (q_ (w_ (f_ (h:=l_ (h:=n_ (h:=m_ (h:=e_ (aw_block (?_)))))))))
    refine aw_loopW (fun m t => ∃ j : Nat, j ≤ s.mounts.length ∧ m = s.mounts.length - j ∧ (∀ i, i < j → mntAt s i = true) ∧ t = ⟨look [(1, .bp 0 0), (11, .sl 3 (s.mounts.map mntA) none), (12, .v (.int .i64 ((s.mounts.map mntA).length : Int))), (13, .v (.int .i64 (j : Int)))], ⟨[spcA s], []⟩⟩) (s.mounts.length) ((wk 1 0)) (⟨0, by omega, rfl, fun i hi => by omega, rfl⟩) ?_
    rintro m t ⟨j, hj, rfl, ha, rfl⟩
    refine w_ (lt_ (h:=e_ (q_ (?_))))
    refine aw_cond rfl (fun hb2 => ?_) (fun hb2 => ?_)
    · have hc2 := bp hb2
      obtain ⟨hlt, x, hy, hrow, -⟩ := row_at mntA hc2
      refine kt_ (q_ (aw_block (w_ (m_ (h:=?_)))))
      refine al_p rfl (st_index (n := j) rfl rfl rfl hrow ?_)
      refine l_ (h:=al_ (h:=a_ (h:=s_ (h:=e_ (q_ (yk_ ([(0, spcA s)]) 8 (h:=df_ 0 (h:=dl_ 1 (h:=df_ 2 (h:=dl_ 3 (h:=dm_ 4 (h:=?_))))))))))))
      refine tk_ 5 rfl (fun _ hS => st_sliceHi rfl rfl rfl (by omega) ⟨rfl, rfl⟩) ?_
      refine tk_ 6 rfl (fun _ hS => st_le (y := .agg (spcA ⟨s.files, s.mounts.take j⟩)) (st_build (by repeat (first | exact FillA.nil _ | (apply FillA.cons; (focus exact rfl); (focus exact rfl); (focus exact rfl); (focus exact rfl); (focus exact rfl); (focus (repeat constructor))))) ⟨rfl, rfl⟩) (by rw [← take_enc]; exact LeA.refl _) ⟨rfl, rfl⟩) ?_
      refine c_ 7 rfl (s_alloc (by repeat constructor) ?_)
      refine o_ (h:=?_)
      refine c0_ 8 rfl (s_store rfl rfl rfl rfl rfl rfl (by repeat constructor) (by repeat constructor) ?_)
      refine o_ (h:=z_ (h:=t_ (q_ (w_ (l_ (h:=f_ (h:=l_ (h:=?_))))))))
      refine al_p rfl (q_call (PdeviceM s x.1 hs) ?_)
      rintro r rfl
      refine nt_ (h:=m_ (h:=?_))
      refine al_gs false rfl rfl (fun hb3 => ?_) (fun hb3 => ?_)
      · have hc3 := bp hb3
        refine g0_ (h:=g0_ (h:=g0_ (h:=g0_ (h:=pt_ (h:=m_ (h:=g0_ (h:=g0_ (h:=g0_ (h:=g0_ (h:=g0_ (h:=g0_ (h:=pt_ (h:=e_ (cy_ (h:=w_ (a_ (h:=e_ (aw_ret (x_thenR (x_blockR (x_thenR (x_thenR (x_blockR (?_))))))))))))))))))))))))
        refine x_thenR (?_)
        refine e_ret ?_
        first | exact vb (by unfold vldS; rw [hc1]; rfl) | exact vb (by unfold vldS; rw [range_no hlt (by unfold mntAt; simp only [hy]; simp_all), Bool.and_false]) | exact vb (by unfold vldS; rw [range_yes (fun i hi => ha i (by omega)), Bool.and_true]; exact hc1.symm)
      · have hc3 := bp hb3
        refine l_ (h:=f_ (h:=l_ (h:=?_)))
        refine g_y (q_call (Pmounted ⟨s.files, s.mounts.take j⟩ x.1 (spc_take hs j)) ?_)
        rintro r rfl
        refine pf_ (h:=m_ (h:=?_))
        refine al_gs false rfl rfl (fun hb4 => ?_) (fun hb4 => ?_)
        · have hc4 := bp hb4
          refine g0_ (h:=g0_ (h:=g0_ (h:=g0_ (h:=g0_ (h:=g0_ (h:=pt_ (h:=e_ (cy_ (h:=w_ (a_ (h:=e_ (aw_ret (x_thenR (x_blockR (x_thenR (x_thenR (x_blockR (x_thenR (?_)))))))))))))))))))
          refine e_ret ?_
          first | exact vb (by unfold vldS; rw [hc1]; rfl) | exact vb (by unfold vldS; rw [range_no hlt (by unfold mntAt; simp only [hy]; simp_all), Bool.and_false]) | exact vb (by unfold vldS; rw [range_yes (fun i hi => ha i (by omega)), Bool.and_true]; exact hc1.symm)
        · have hc4 := bp hb4
          refine l_ (h:=f_ (h:=f_ (h:=l_ (h:=?_))))
          refine g_y (q_call (Pmounted ⟨s.files, s.mounts.take j⟩ x.2.1 (spc_take hs j)) ?_)
          rintro r rfl
          refine nt_ (h:=pf_ (h:=e_ (?_)))
          refine aw_cond rfl (fun hb5 => ?_) (fun hb5 => ?_)
          · have hc5 := bp hb5
            refine w_ (a_ (h:=e_ (aw_ret (x_thenR (x_blockR (x_thenR (x_thenR (x_blockR (x_thenR (?_))))))))))
            refine e_ret ?_
            first | exact vb (by unfold vldS; rw [hc1]; rfl) | exact vb (by unfold vldS; rw [range_no hlt (by unfold mntAt; simp only [hy]; simp_all), Bool.and_false]) | exact vb (by unfold vldS; rw [range_yes (fun i hi => ha i (by omega)), Bool.and_true]; exact hc1.symm)
          · have hc5 := bp hb5
            refine kt_ (w_ (l_ (h:=f_ (h:=l_ (h:=?_)))))
            refine al_p rfl (q_call (PisDirM s x.2 hs) ?_)
            rintro r rfl
            refine nt_ (h:=m_ (h:=?_))
            refine al_gs false rfl rfl (fun hb6 => ?_) (fun hb6 => ?_)
            · have hc6 := bp hb6
              refine g0_ (h:=g0_ (h:=g0_ (h:=g0_ (h:=pt_ (h:=e_ (cy_ (h:=w_ (a_ (h:=e_ (aw_ret (x_blockR (x_thenR (x_thenR (x_blockR (x_thenR (?_))))))))))))))))
              refine e_ret ?_
              first | exact vb (by unfold vldS; rw [hc1]; rfl) | exact vb (by unfold vldS; rw [range_no hlt (by unfold mntAt; simp only [hy]; simp_all), Bool.and_false]) | exact vb (by unfold vldS; rw [range_yes (fun i hi => ha i (by omega)), Bool.and_true]; exact hc1.symm)
            · have hc6 := bp hb6
              refine l_ (h:=f_ (h:=l_ (h:=?_)))
              refine g_y (q_call (Pcovered ⟨s.files, s.mounts.take j⟩ x.2 (spc_take hs j)) ?_)
              rintro r rfl
              refine pf_ (h:=e_ (?_))
              refine aw_cond rfl (fun hb7 => ?_) (fun hb7 => ?_)
              · have hc7 := bp hb7
                refine w_ (a_ (h:=e_ (aw_ret (x_blockR (x_thenR (x_thenR (x_blockR (x_thenR (?_)))))))))
                refine e_ret ?_
                first | exact vb (by unfold vldS; rw [hc1]; rfl) | exact vb (by unfold vldS; rw [range_no hlt (by unfold mntAt; simp only [hy]; simp_all), Bool.and_false]) | exact vb (by unfold vldS; rw [range_yes (fun i hi => ha i (by omega)), Bool.and_true]; exact hc1.symm)
              · have hc7 := bp hb7
                refine aw_skip (x_blockN (t_ (aw_region (ad_ (h:=m_ (h:=al_nil (?_)))))))
                refine x_then ?_
                refine ⟨_, _, ?_, ⟨j + 1, by omega, rfl, upto_next ha (by unfold mntAt; simp only [hy]; simp_all), rfl⟩, (wk 1 0)⟩
                omega
    · have hc2 := bp hb2
      refine aw_exit (x_thenE (x_thenE (ABlock_out (t_ (w_ (a_ (h:=e_ (aw_ret (?_)))))))))
      refine e_ret ?_
      first | exact vb (by unfold vldS; rw [hc1]; rfl) | exact vb (by unfold vldS; rw [range_no hlt (by unfold mntAt; simp only [hy]; simp_all), Bool.and_false]) | exact vb (by unfold vldS; rw [range_yes (fun i hi => ha i (by omega)), Bool.and_true]; exact hc1.symm)

end
end Go.Proofs.Ytgliiknfmlmddaa
namespace Go.Proofs.Ytgliiknfmlmddaa
open Go.RowKit

structure Moves (own : Nat → Prop) (B : Nat) (X Y : World) : Prop where
  os : Y.os = X.os
  tape : Y.tape = X.tape
  output : Y.output = X.output
  size : X.heap.size ≤ Y.heap.size
  block : ∀ k, k < X.heap.size → ¬ own k → (k < B ∨ ∃ o : Obj, X.heap[k]? = some o ∧ o.isCells = true) → Y.heap[k]? = X.heap[k]?

section
variable {own : Nat → Prop} {B : Nat} {X Y Z : World}
theorem Moves.mono (h : Moves own B X Y) {B' : Nat} (hB : B' ≤ B) : Moves own B' X Y :=
  ⟨h.os, h.tape, h.output, h.size, fun i hi ho hb => h.block i hi ho (by
    rcases hb with hb | hb
    · exact .inl (Nat.lt_of_lt_of_le hb hB)
    · exact .inr hb)⟩
theorem Moves.below (h : Below X.heap.size X Y) : Moves own B X Y := ⟨h.os, h.tape, h.output, h.size, fun i hi _ _ => h.block i hi⟩
theorem Moves.put_ {l : Nat} {o : Obj} (o' : Obj) (hl : X.heap[l]? = some o) (ho : o.isCells = false) (hB : B ≤ l) : Moves own B X (X.putObj l o') :=
  have h := grownBy_putObj' X l o'
  ⟨h.os, h.tape, h.output, h.size, fun i hi _ hb => h.block i hi (fun e => by
    injection e with e
    subst e
    rcases hb with hb | ⟨o2, h1, h2⟩
    · omega
    · rw [hl] at h1; injection h1 with h1; subst h1; rw [ho] at h2; cases h2)⟩
theorem Moves.boxed (h : Moves own B X Y) {b : Nat} {t : TypeId} {v : Value} (hb : Boxed X b t v) (hn : ¬ own b) : Boxed Y b t v :=
  (h.block b hb.lt hn (.inr ⟨_, hb, rfl⟩)).trans hb
theorem Moves.under (h : Moves own B X Y) {n₀ : Nat} {w : World} (hb : Below n₀ w X) (hn : n₀ ≤ w.heap.size) (ho : ∀ b, own b → n₀ ≤ b) (hB : n₀ ≤ B) : Below n₀ w Y :=
  ⟨h.os.trans hb.os, h.tape.trans hb.tape, h.output.trans hb.output, Nat.le_trans hb.size h.size, fun i hi => by
    refine (h.block i (by have := hb.size; omega) (fun e => ?_) (.inl (by omega))).trans (hb.block i hi)
    have := ho i e
    omega⟩
end

theorem keepsFrom_below {B : Nat} {X Y : World} (h : Below X.heap.size X Y) : KeepsFrom B X Y := ⟨h.size, fun k _ _ hk _ => (h.block k (Array.getElem?_eq_some_iff.1 hk).1).trans hk⟩
theorem keepsFrom_set {B : Nat} {X Y : World} (h : KeepsFrom B X Y) {b : Nat} (hb : b < B) (v : Value) : KeepsFrom B X (Y.setCell ⟨b, 0, none⟩ v) :=
  h.trans (KeepsFrom.of_grownBy (grownBy_setCell' Y b v) (fun j e => by cases e; exact hb))
theorem boxed_put {W : World} {b D : Nat} {t : TypeId} {v : Value} (h : Boxed W b t v) (hne : b ≠ D) (o : Obj) : Boxed (W.putObj D o) b t v := h.kept (grownBy_putObj' W D o) (fun e => hne (by injection e))
theorem below_put {B : Nat} {w W : World} (h : Below B w W) {D : Nat} (hD : B ≤ D) (o : Obj) : Below B w (W.putObj D o) :=
  have g := grownBy_putObj' W D o
  ⟨g.os.trans h.os, g.tape.trans h.tape, g.output.trans h.output, Nat.le_trans h.size g.size, fun k hk => (World.putObj_heap_other (by omega)).trans (h.block k hk)⟩
theorem wideCall {P : Program} {n m f : Nat} {args : Array Value} {w : World} {R : Ending → World → Prop} (h : CallsIn Fence.wide m P f args w R) :
    Fence.wide.fn f ∧ (Fence.wide.depth.isSome = true → 1 ≤ n) ∧ CallsIn Fence.wide m P f args w R := ⟨trivial, (fun h => by cases h), h⟩
def SeqW {α : Type} (F : Fence) (n : Nat) (P : Program) (g : Nat) (lb : Array Value) (encs : α → Array Value) (own : Nat → Prop) (Kp : World → World → Prop) (Pf : List α → Prop) (S Sp : List α → Prop) (w : World) : Prop :=
  ∀ (l : Nat) (J Jx : List α → World → Prop) (W : World), Below w.heap.size w W →
    (∀ s X Y, J s X → Moves own W.heap.size X Y → J s Y) → (∀ s X Y, Jx s X → Moves own W.heap.size X Y → Jx s Y) →
    (∀ pre x W1, J pre W1 → Pf (pre ++ [x]) → YieldAt F (n - 1) P l (encs x) W1 fun e W' =>
      (e = .returned (.bool true) ∧ J (pre ++ [x]) W' ∧ Kp W1 W') ∨ (e = .returned (.bool false) ∧ Jx (pre ++ [x]) W')) →
    J [] W →
    CallsIn F n P g (#[.func (.yield l) #[] #[]] ++ lb) W fun e W' => (∃ v, e = .returned v) ∧ ((∃ xs, S xs ∧ J xs W') ∨ (∃ pre, Sp pre ∧ Jx pre W'))

variable {F : Fence} {n : Nat} {P : Program}

end Go.Proofs.Ytgliiknfmlmddaa
namespace Go.Proofs.Ytgliiknfmlmddaa
open Go.RowKit

theorem calls_rep {P : Program} {f : FuncId} {xs : List AV} {R : AV} (h : AFn P f xs fun r => r = R) {w : World} {N : Nat} {vs : List Value} (hN : N ≤ w.heap.size) (hv : froL (fun b _ => b < N) w xs vs) :
    Calls P f vs.toArray w fun e w' => ∃ (v : Value) (G' : Gh), e = .returned v ∧ rep G' w' R v ∧ Below w.heap.size w w' := by
  refine Calls.mono (h w (fun b _ => b < N) [] vs (hrel_start (fun b o hb => Nat.lt_of_lt_of_le hb hN)) (repL_fro _ _ hv)) ?_
  intro e w' h3
  cases e with
  | returned v =>
    obtain ⟨r, b, t, G', ⟨_, _, rfl⟩, k2, _, k4⟩ := h3
    have k := k2.kept
    exact ⟨v, G', rfl, k4, ⟨k.os, k.tape, k.output, k.size, fun i hi => k.block i hi (by simp)⟩⟩
  | panicked c => exact h3.elim
  | outgrown => exact h3.elim

def SpcIn (s : Spc) (N : Nat) (w : World) (ds ms : Value) : Prop := N ≤ w.heap.size ∧ froL (fun b _ => b < N) w (spcA s) [ds, ms]
theorem SpcIn.keep {s : Spc} {N : Nat} {w w' : World} {ds ms : Value} (h : SpcIn s N w ds ms) (hs : w.heap.size ≤ w'.heap.size) (hb : ∀ b, b < N → w'.heap[b]? = w.heap[b]?) : SpcIn s N w' ds ms :=
  ⟨Nat.le_trans h.1 hs, froL_mono (fun b o hN => ⟨hN, World.cell?_of_block (w := w) (a := ⟨b, o, none⟩) (hb b hN)⟩) _ _ h.2⟩
theorem SpcIn.grow {s : Spc} {N M : Nat} {w : World} {ds ms : Value} (h : SpcIn s N w ds ms) (hM : N ≤ M) (hw : M ≤ w.heap.size := by exact Nat.le_refl _) : SpcIn s M w ds ms :=
  ⟨hw, froL_mono (fun b o hb => ⟨Nat.lt_of_lt_of_le hb hM, rfl⟩) _ _ h.2⟩
theorem SpcIn.below {s : Spc} {N B : Nat} {w w' : World} {ds ms : Value} (h : SpcIn s N w ds ms) (hb : Below B w w') (hN : N ≤ B) : SpcIn s N w' ds ms :=
  h.keep hb.size fun b hbN => hb.block b (Nat.lt_of_lt_of_le hbN hN)

section
variable {s : Spc} {N : Nat} {w : World} {ds ms : Value} (h : SpcIn s N w ds ms) (hs : SpcB s)
include h hs
theorem node_o (a : Fil) : Calls Try.prog 45 #[.agg #[ds], FilV a] w fun e w' =>
    (∃ (A : Option Addr) (m c : Nat), e = .returned (.tuple #[.agg #[.int .i64 (nodG s.files a).ino, .int .i64 (nodG s.files a).kind, .int .i64 (nodG s.files a).mode, .int .i64 (nodG s.files a).uid, .int .i64 (nodG s.files a).gid, .int .i64 (nodG s.files a).parent, .string (nodG s.files a).target, .slice A m c], .bool (hasG s.files a)])) ∧ Below w.heap.size w w' := by
  have h2 := h.2
  simp only [spcA, froL] at h2
  obtain ⟨z, zs, e1, h3, _⟩ := h2
  obtain ⟨rfl, rfl⟩ := List.cons.inj e1
  refine (calls_rep (Pnode s.files a hs.files) (vs := [.agg #[ds], FilV a]) h.1 ?_).mono ?_
  · simp only [froL, fro, flsA, filA, FilV]
    exact ⟨_, _, rfl, ⟨[ds], rfl, ds, [], rfl, by simpa only [fro] using h3, rfl⟩, _, _, rfl, ⟨[.int .i64 a.1, .int .i64 a.2], rfl, _, _, rfl, rfl, _, _, rfl, rfl, rfl⟩, rfl⟩
  · rintro e w' ⟨v, G', rfl, hr, hb⟩
    refine ⟨?_, hb⟩
    simp only [rep, repL, nodA, fro] at hr
    obtain ⟨ys, rfl, z1, zs1, rfl, ⟨ys2, rfl, _, _, rfl, rfl, _, _, rfl, rfl, _, _, rfl, rfl, _, _, rfl, rfl, _, _, rfl, rfl, _, _, rfl, rfl, _, _, rfl, rfl, _, _, rfl, ⟨_, A, c, rfl, _⟩, rfl⟩, _, _, rfl, rfl, rfl⟩ := hr
    exact ⟨A, _, c, rfl⟩
theorem fsf (xs : List AV) (vs : List Value) (hx : froL (fun b _ => b < N) w xs vs) : froL (fun b _ => b < N) w (.agg (spcA s) :: xs) (.agg #[ds, ms] :: vs) := by
  have _ := hs
  simp only [froL]
  refine ⟨_, _, rfl, ?_, hx⟩
  simp only [fro]
  exact ⟨[ds, ms], rfl, h.2⟩
theorem fso (a : Fil) : froL (fun b _ => b < N) w [.agg (spcA s), .agg (filA a)] [.agg #[ds, ms], FilV a] := by
  refine fsf h hs _ _ ?_
  simp only [froL, fro, filA, FilV]
  exact ⟨_, _, rfl, ⟨[.int .i64 a.1, .int .i64 a.2], rfl, _, _, rfl, rfl, _, _, rfl, rfl, rfl⟩, rfl⟩
theorem fsi (d : Int) : froL (fun b _ => b < N) w [.agg (spcA s), .v (.int .i64 d)] [.agg #[ds, ms], .int .i64 d] := by
  refine fsf h hs _ _ ?_
  simp only [froL, fro]
  exact ⟨_, _, rfl, rfl, rfl⟩
theorem place_o (d : Int) : Calls Try.prog 63 #[.agg #[ds, ms], .int .i64 d] w fun e w' =>
    e = .returned (.tuple #[FilV ((onL s d).getD (0, 0)), .bool (onL s d).isSome]) ∧ Below w.heap.size w w' := by
  refine (calls_rep (Pplace s d hs) (vs := [.agg #[ds, ms], .int .i64 d]) h.1 (fsi h hs d)).mono ?_
  rintro e w' ⟨v, G', rfl, hr, hb⟩
  refine ⟨?_, hb⟩
  simp only [rep, repL, filA] at hr
  obtain ⟨ys, rfl, z1, zs1, rfl, ⟨ys2, rfl, _, _, rfl, rfl, _, _, rfl, rfl, rfl⟩, _, _, rfl, rfl, rfl⟩ := hr
  rfl
theorem cover_o (a : Fil) : Calls Try.prog 61 #[.agg #[ds, ms], FilV a] w fun e w' =>
    e = .returned (.tuple #[.int .i64 ((covL s a).getD 0), .bool (covL s a).isSome]) ∧ Below w.heap.size w w' := by
  refine (calls_rep (Pcover s a hs) (vs := [.agg #[ds, ms], FilV a]) h.1 (fso h hs a)).mono ?_
  rintro e w' ⟨v, G', rfl, hr, hb⟩
  refine ⟨?_, hb⟩
  simp only [rep, repL] at hr
  obtain ⟨ys, rfl, _, _, rfl, rfl, _, _, rfl, rfl, rfl⟩ := hr
  rfl
theorem isDir_o (a : Fil) : Calls Try.prog 54 #[.agg #[ds, ms], FilV a] w fun e w' => e = .returned (.bool (dirL s.files a)) ∧ Below w.heap.size w w' := by
  refine (calls_rep (PisDirM s a hs) (vs := [.agg #[ds, ms], FilV a]) h.1 (fso h hs a)).mono ?_
  rintro e w' ⟨v, G', rfl, hr, hb⟩
  simp only [rep] at hr
  exact ⟨by rw [hr], hb⟩
theorem mounted_o (d : Int) : Calls Try.prog 38 #[.agg #[ds, ms], .int .i64 d] w fun e w' => e = .returned (.bool (mtdL s d)) ∧ Below w.heap.size w w' := by
  refine (calls_rep (Pmounted s d hs) (vs := [.agg #[ds, ms], .int .i64 d]) h.1 (fsi h hs d)).mono ?_
  rintro e w' ⟨v, G', rfl, hr, hb⟩
  simp only [rep] at hr
  exact ⟨by rw [hr], hb⟩
end

theorem SpcIn.devs {s : Spc} {N : Nat} {w : World} {ds ms : Value} (h : SpcIn s N w ds ms) : ∃ A cap, ds = .slice A s.files.length cap ∧ s.files.length ≤ cap ∧ cap ≤ maxLen ∧
    (0 < s.files.length → ∃ b off, A = some ⟨b, off, none⟩ ∧ b < N ∧ ∀ i d, s.files[i]? = some d → w.cell? ⟨b, off + i * 2, none⟩ = some (.int .i64 d.next) ∧ ∃ A2 cap2, w.cell? ⟨b, off + i * 2 + 1, none⟩ = some (.slice A2 d.nodes.length cap2)) := by
  have h2 := h.2
  simp only [spcA, froL] at h2
  obtain ⟨z, zs, e1, h3, _⟩ := h2
  obtain ⟨rfl, rfl⟩ := List.cons.inj e1
  simp only [fro, List.length_map] at h3
  obtain ⟨_, A, cap, rfl, h4, h5, h6⟩ := h3
  refine ⟨A, cap, rfl, h4, h5, fun hpos => ?_⟩
  rcases h6 with h6 | ⟨b, off, rfl, h6⟩
  · simp at h6; rw [h6] at hpos; simp at hpos
  · refine ⟨b, off, rfl, ?_, ?_⟩
    · obtain ⟨_, h8⟩ := froR_get h6 (i := 0) (r := dvcA (s.files[0]'hpos)) (by simp [hpos])
      simp only [dvcA, froC] at h8
      exact h8.1.1
    · intro i d hd
      obtain ⟨_, h8⟩ := froR_get h6 (i := i) (r := dvcA d) (by simp [hd])
      simp only [dvcA, froC, fro, List.length_map] at h8
      obtain ⟨⟨_, u, h9, _, rfl⟩, ⟨_, u2, h10, _, _, A2, cap2, rfl, _⟩, _⟩ := h8
      exact ⟨h9, A2, cap2, h10⟩
theorem chain_any (ds ms : Value) (a : Fil) (w : World) :
    Calls Try.prog 52 #[.agg #[ds, ms], FilV a] w fun e w' =>
      e = .returned (.func (.func 86) #[] #[.pointer (some ⟨w.heap.size, 0, none⟩), .pointer (some ⟨w.heap.size + 1, 0, none⟩)]) ∧
      w' = (w.alloc (.cells #[ds, ms] 32)).alloc (.cells #[.int .i64 a.1, .int .i64 a.2] 24) := by
  unfold FilV
  go_enter Try.func52, Try.ntmps52
  go_wp2
  go_ret
  exact ⟨by simp, rfl⟩
end Go.Proofs.Ytgliiknfmlmddaa
namespace Go.Proofs.Ytgliiknfmlmddaa
open Go.RowKit Go.Shelf
attribute [local go_sem] Oper.semAt_some

theorem wpIn_scope_wide {n : Nat} {P : Program} {c : Code} {Q : Exit → Act → World → Prop} {a : Act} {w : World} (h : c.wpIn Fence.wide n P (Exit.noGoto Q) a w) : (Code.scope c).wpIn Fence.wide n P Q a w :=
  wpIn_wide.2 (wp_scope_straight (wpIn_wide.1 h))
theorem Moves.setc {own : Nat → Prop} {B : Nat} (X : World) {p : Addr} (hb : own p.block) (v : Value) : Moves own B X (X.setCell p v) :=
  have h : Below 0 X (X.setCell p v) := (Below.refl 0 X).setCell (Nat.zero_le _) v
  ⟨h.os, h.tape, h.output, h.size, fun k _ hk _ => Below.heap_setCell X p v k fun e => hk (by rw [e]; exact hb)⟩
def stepC (s : Spc) (a : Fil) : Option Fil :=
  if (nodG s.files a).ino ≠ 1 then some (a.1, (nodG s.files a).parent)
  else if a.1 = 0 then none else onL s a.1
def chainP (s : Spc) : Nat → Fil → List Fil
  | 0, _ => []
  | k + 1, a => if dirL s.files a then a :: (match stepC s a with
    | none => []
    | some b => chainP s k b) else []
def mostL (f : Fls) : Nat := (f.map fun d => d.nodes.length).sum
def KeepC (N sb db : Nat) (X Y : World) : Prop := X.heap.size ≤ Y.heap.size ∧ Y.heap[sb]? = X.heap[sb]? ∧ Y.heap[db]? = X.heap[db]? ∧ (∀ b, b < N → Y.heap[b]? = X.heap[b]?) ∧
  ∀ (b : Nat) (cs : Array Value), X.heap[b]? = some (.cells cs 71) → Y.heap[b]? = some (.cells cs 71)
theorem KeepC.trans {N sb db : Nat} {X Y Z : World} (h : KeepC N sb db X Y) (k : KeepC N sb db Y Z) : KeepC N sb db X Z :=
  ⟨Nat.le_trans h.1 k.1, k.2.1.trans h.2.1, k.2.2.1.trans h.2.2.1, fun b hb => (k.2.2.2.1 b hb).trans (h.2.2.2.1 b hb), fun b cs hb => k.2.2.2.2 b cs (h.2.2.2.2 b cs hb)⟩
theorem keepC_put {N sb db B : Nat} (hN : N ≤ B) (hs : sb < B) (hd : db < B) (W : World) (l : Nat) (o o' : Obj) (hl : B ≤ l) (ho : W.heap[l]? = some o) (hc : o.isCells = false) : KeepC N sb db W (W.putObj l o') :=
  ⟨(grownBy_putObj' W l o').size, World.putObj_heap_other (by omega), World.putObj_heap_other (by omega), fun b hb => World.putObj_heap_other (by omega), fun b cs hb => by
    refine (World.putObj_heap_other fun e => ?_).trans hb
    subst e
    rw [ho] at hb
    injection hb with hb
    subst hb
    cases hc⟩
theorem keepC_below {N sb db : Nat} {X Y : World} (h : Below X.heap.size X Y) (hN : N ≤ X.heap.size) (hs : sb < X.heap.size) (hd : db < X.heap.size) : KeepC N sb db X Y :=
  ⟨h.size, h.block _ hs, h.block _ hd, fun b hb => h.block _ (by omega), fun b cs hb => (h.block _ (Array.getElem?_eq_some_iff.1 hb).1).trans hb⟩
theorem mostL_le {f : Fls} (hf : FlsB f) (j : Nat) : mostL (f.take j) ≤ 1000000 := by
  have : ∀ (l : Fls), (∀ d ∈ l, d.nodes.length ≤ 1000) → mostL l ≤ l.length * 1000 := by
    intro l
    induction l with
    | nil => intro _; simp [mostL]
    | cons d l ih =>
      intro h
      have h1 := ih fun d hd => h d (List.mem_cons_of_mem _ hd)
      have h2 := h d (List.mem_cons_self ..)
      simp only [mostL, List.map_cons, List.sum_cons, List.length_cons] at h1 ⊢
      omega
  have h1 := this (f.take j) fun d hd => hf.nodes d (List.mem_of_mem_take hd)
  have h2 := hf.few
  have h3 : (f.take j).length ≤ f.length := by simp; omega
  have : (f.take j).length * 1000 ≤ 1000 * 1000 := Nat.mul_le_mul_right _ (by omega)
  omega
theorem mostL_snoc {f : Fls} {j : Nat} {d : Dvc} (h : f[j]? = some d) : mostL (f.take (j + 1)) = mostL (f.take j) + d.nodes.length := by
  rw [List.take_add_one, h]
  simp [mostL]

set_option maxRecDepth 100000 in
set_option maxHeartbeats 2000000 in
theorem chain1 (n : Nat) (s : Spc) (hs : SpcB s) (a0 : Fil) (N sb db : Nat) (ds ms : Value) (w : World) (h0 : w.heap[sb]? = some (.cells #[ds, ms] 32)) (h1 : w.heap[db]? = some (.cells #[.int .i64 a0.1, .int .i64 a0.2] 24))
    (hS : SpcIn s N w ds ms) (hNs : N ≤ sb) (hNd : N ≤ db) (hne : sb ≠ db) :
    SeqW Fence.wide n Try.prog 86 #[.pointer (some ⟨sb, 0, none⟩), .pointer (some ⟨db, 0, none⟩)] (fun x : Fil => #[FilV x]) (fun b => b = db) (KeepC N sb db) (fun xs => xs <+: chainP s (mostL s.files) a0)
      (fun xs => xs = chainP s (mostL s.files) a0) (fun pre => pre <+: chainP s (mostL s.files) a0) w := fun l J Jx W hW hJ hJx hY hst => by
  have lt_of : ∀ {W : World} {k : Nat} {o : Obj}, W.heap[k]? = some o → k < W.heap.size := fun h => (Array.getElem?_eq_some_iff.1 h).1
  have k0 : W.heap[sb]? = some (.cells #[ds, ms] 32) := blk_below h0 hW (lt_of h0)
  have k1 : W.heap[db]? = some (.cells #[.int .i64 a0.1, .int .i64 a0.2] 24) := blk_below h1 hW (lt_of h1)
  have kS : SpcIn s N W ds ms := hS.below hW hS.1
  obtain ⟨A, cap, rfl, hcap, hcm, hdev⟩ := kS.devs
  obtain ⟨c0, f0⟩ := cells_of k0
  obtain ⟨c1, f1⟩ := cells_of k1
  have hfew := hs.files.few
  have HD := Lib.hid hdev
  have HW := Lib.hid hW
  have HJ := Lib.hid hJ
  have HJx := Lib.hid hJx
  have HY := Lib.hid hY
  clear hdev hS hW hJ hJx hY h0 h1
  refine callsIn_of_wp Try.func86 rfl trivial ?_ rfl
  simp only [Try.ntmps86, List.size_toArray, List.length_cons, List.length_nil, Nat.reduceAdd, Nat.reduceSub, Array.replicate_succ, Array.replicate_zero, List.push_toArray, List.append_toArray, List.nil_append, List.cons_append]
  gi_wp2
  refine wpIn_scope_wide ?_
  gi_wp2
  gi_loopw [4, 14] (fun t i wr => ∃ j : Nat, j ≤ s.files.length ∧ i = .int .i64 j ∧ t = .int .i64 (mostL (s.files.take j)) ∧ Below W.heap.size W wr) (fun _ i _ => s.files.length - (intOf i).toNat)
  case atStart => exact ⟨0, Nat.zero_le _, rfl, rfl, Below.refl _ _⟩
  case round =>
    obtain ⟨j, hj, rfl, rfl, hb⟩ := hrel
    have hNW := kS.1
    by_cases hlt : j < s.files.length
    · obtain ⟨b, off, rfl, hbN, hrow⟩ := HD.out (by omega)
      obtain ⟨r1, A2, cap2, r2⟩ := hrow j _ (List.getElem?_eq_getElem hlt)
      have r1' := (World.cell?_of_block (w := W) (w' := wr) (a := ⟨b, off + j * 2, none⟩) (hb.block b (by omega))).trans r1
      have r2' := (World.cell?_of_block (w := W) (w' := wr) (a := ⟨b, off + j * 2 + 1, none⟩) (hb.block b (by omega))).trans r2
      have hM := mostL_le hs.files j
      have hL := hs.files.nodes _ (List.getElem_mem hlt)
      have HE := Lib.hid (mostL_snoc (List.getElem?_eq_getElem hlt))
      generalize (s.files[j]).nodes.length = L at *
      generalize (s.files[j]).next = nx at *
      generalize mostL (s.files.take j) = M at *
      clear hrow r1 r2 hs
      gi_wp2
      go_roundw
      case rel => exact ⟨j + 1, by omega, by go_num, by rw [HE.out]; go_num, hb.alloc hb.size _⟩
      case measure => simp [intOf]; omega
    · have ej : j = s.files.length := by omega
      subst ej
      have hM := mostL_le hs.files s.files.length
      rw [List.take_length] at hM
      rw [List.take_length]
      have k0' := blk_below k0 hb (lt_of k0)
      have k1' := blk_below k1 hb (lt_of k1)
      have kS' := kS.below hb hNW
      have hJ0 : J [] wr := HJ.out _ _ _ hst (Moves.below hb)
      gi_wp2
      refine wpIn_label ?_
      gi_wp2
      clear c0 f0 c1 f1 k0 k1 kS hst
      obtain ⟨M, hM0⟩ : ∃ M, mostL s.files = M := ⟨_, rfl⟩
      rw [hM0] at hM ⊢
      have HM := Lib.hid hM0
      clear hM0
      gi_loopw [25] (fun i wr => ∃ (j : Nat) (pre : List Fil) (cur : Fil), j ≤ M ∧ i = .int .i64 j ∧ J pre wr ∧ wr.heap[sb]? = some (.cells #[.slice A s.files.length cap, ms] 32) ∧
        wr.heap[db]? = some (.cells #[.int .i64 cur.1, .int .i64 cur.2] 24) ∧ SpcIn s N wr (.slice A s.files.length cap) ms ∧ Hid (pre ++ chainP s (M - j) cur = chainP s M a0)) (fun i _ => M - (intOf i).toNat)
      case atStart => exact ⟨0, [], a0, Nat.zero_le _, rfl, hJ0, k0', k1', kS', rfl⟩
      case round =>
        obtain ⟨j, pre, cur, hj, rfl, hJp, m0, m1, mS, hch⟩ := hrel
        clear k0' k1' kS' hJ0
        obtain ⟨c0, f0⟩ := cells_of m0
        obtain ⟨c1, f1⟩ := cells_of m1
        by_cases hlt : j < M
        · have HC : Hid (chainP s (M - j) cur = if dirL s.files cur then cur :: (match stepC s cur with
            | none => []
            | some b => chainP s (M - (j + 1)) b) else []) := by
            rw [show M - j = (M - (j + 1)) + 1 by omega]; exact Lib.hid rfl
          gi_wp2_with fail
          refine wideCall ((callsIn_wide.2 (node_o mS hs cur)).mono ?_)
          rintro e w1 ⟨⟨eA, em, ec, rfl⟩, hb1⟩
          have HB1 := Lib.hid hb1
          have HD1 := Lib.hid (dirL_eq s.files cur)
          obtain ⟨nd, hnd⟩ : ∃ nd, nodG s.files cur = nd := ⟨_, rfl⟩
          have HN := Lib.hid hnd
          obtain ⟨hg, hhg⟩ : ∃ hg, hasG s.files cur = hg := ⟨_, rfl⟩
          have HH := Lib.hid hhg
          have n0 := blk_below m0 hb1 (lt_of m0)
          have n1 := blk_below m1 hb1 (lt_of m1)
          have nS := mS.below hb1 mS.1
          have hz := hb1.size
          clear c0 f0 c1 f1
          obtain ⟨c0, f0⟩ := cells_of n0
          obtain ⟨c1, f1⟩ := cells_of n1
          rw [hnd, hhg]
          clear hb1 hnd hhg
          cases hg with
          | false =>
            have HE : Hid (chainP s (M - j) cur = []) := Lib.hid (by rw [HC.out, HD1.out, HH.out]; simp)
            gi_wp2
            refine ⟨fun _ h => (by cases h), ?_⟩
            gi_wp2
            rw [Exit.noGoto_ret]
            refine bodyPost_ret (results_none rfl _ _ _) rfl ?_
            exact ⟨⟨_, rfl⟩, .inl ⟨pre, by rw [HM.out, ← hch.out, HE.out]; simp, HJ.out _ _ _ hJp (Moves.below (HB1.out.alloc hz _))⟩⟩
          | true =>
            by_cases hk : nd.kind = 2
            · have HE : Hid (chainP s (M - j) cur = cur :: (match stepC s cur with
                | none => []
                | some b => chainP s (M - (j + 1)) b)) := Lib.hid (by rw [HC.out, HD1.out, HH.out, HN.out]; simp [hk])
              obtain ⟨W2, hW2⟩ : ∃ W2, w1.alloc (.cells #[.int .i64 nd.ino, .int .i64 2, .int .i64 nd.mode, .int .i64 nd.uid, .int .i64 nd.gid, .int .i64 nd.parent, .string nd.target, .slice eA em ec] 71) = W2 := ⟨_, rfl⟩
              have hB2 : Below wr.heap.size wr W2 := by rw [← hW2]; exact HB1.out.alloc hz _
              have hJ2 : J pre W2 := HJ.out _ _ _ hJp (Moves.below hB2)
              have q7 : W2.heap[w1.heap.size]? = some (.cells #[.int .i64 nd.ino, .int .i64 2, .int .i64 nd.mode, .int .i64 nd.uid, .int .i64 nd.gid, .int .i64 nd.parent, .string nd.target, .slice eA em ec] 71) := by rw [← hW2]; exact blk_a1_0 _ _
              have q0 := blk_below m0 hB2 (lt_of m0)
              have q1 := blk_below m1 hB2 (lt_of m1)
              have qS := mS.below hB2 mS.1
              obtain ⟨fn, tmps, assign, body, hy, hR⟩ := HY.out pre cur W2 hJ2 (by rw [HM.out, ← hch.out, HE.out]; exact ⟨_, by rw [List.append_assoc]; rfl⟩)
              rw [← hW2] at hy
              unfold FilV at hy
              have HH2 := Lib.hid hW2
              clear hW2
              gi_wp2
              refine ⟨(fun h => by cases h), ?_⟩
              rw [HH2.out]
              refine hR.mono ?_
              rintro e W3 (⟨rfl, hJ3, hk3⟩ | ⟨rfl, hJx3⟩)
              · obtain ⟨z0, z1, z2, z3, z4⟩ := hk3
                have r0 := z1.trans q0
                have r1 := z2.trans q1
                have r7 := z4 _ _ q7
                have rS := qS.keep z0 z3
                clear hy hR c0 f0 c1 f1 q0 q1 q7 qS
                obtain ⟨c0, f0⟩ := cells_of r0
                obtain ⟨c1, f1⟩ := cells_of r1
                obtain ⟨c7, f7⟩ := cells_of r7
                by_cases hi : nd.ino = 1
                · gi_wp2_with fail
                  refine wideCall ((callsIn_wide.2 (place_o rS hs cur.1)).mono ?_)
                  rintro e w4 ⟨rfl, hb4⟩
                  have HP := Lib.hid (show stepC s cur = if cur.1 = 0 then none else onL s cur.1 by unfold stepC; rw [HN.out, if_neg (by simp [hi])])
                  obtain ⟨pl, hpl⟩ : ∃ pl, onL s cur.1 = pl := ⟨_, rfl⟩
                  rw [hpl]
                  have HPL := Lib.hid hpl
                  have s0 := blk_below r0 hb4 (lt_of r0)
                  have s1 := blk_below r1 hb4 (lt_of r1)
                  have sS := rS.below hb4 rS.1
                  have sz := hb4.size
                  have sJ := HJ.out _ _ _ hJ3 (Moves.below hb4)
                  clear c0 f0 c1 f1 c7 f7 hb4 hpl r0 r1 r7 rS
                  obtain ⟨c0, f0⟩ := cells_of s0
                  obtain ⟨c1, f1⟩ := cells_of s1
                  unfold FilV
                  cases pl with
                  | none =>
                    have HS : Hid (stepC s cur = none) := Lib.hid (by rw [HP.out, HPL.out]; split <;> rfl)
                    gi_wp2
                    rw [Exit.noGoto_ret]
                    refine bodyPost_ret (results_none rfl _ _ _) rfl ?_
                    exact ⟨⟨_, rfl⟩, .inl ⟨pre ++ [cur], by rw [HM.out, ← hch.out, HE.out, HS.out], HJ.out _ _ _ sJ (Moves.below ((Below.refl _ _).alloc (Nat.le_refl _) _))⟩⟩
                  | some on =>
                    by_cases hd : cur.1 = 0
                    · have HS : Hid (stepC s cur = none) := Lib.hid (by rw [HP.out, if_pos hd])
                      gi_wp2
                      rw [Exit.noGoto_ret]
                      refine bodyPost_ret (results_none rfl _ _ _) rfl ?_
                      exact ⟨⟨_, rfl⟩, .inl ⟨pre ++ [cur], by rw [HM.out, ← hch.out, HE.out, HS.out], HJ.out _ _ _ sJ (Moves.below ((Below.refl _ _).alloc (Nat.le_refl _) _))⟩⟩
                    · have HS : Hid (stepC s cur = some on) := Lib.hid (by rw [HP.out, if_neg hd, HPL.out])
                      gi_wp2
                      have t1 := blk_alloc (blk_set (blk_set s1 0 (.int .i64 on.1)) 1 (.int .i64 on.2)) (.cells #[.int .i64 on.1, .int .i64 on.2] 24)
                      have t0 := blk_alloc (blk_far (blk_far s0 (p := ⟨db, 0, none⟩) hne (.int .i64 on.1)) (p := ⟨db, 1, none⟩) hne (.int .i64 on.2)) (.cells #[.int .i64 on.1, .int .i64 on.2] 24)
                      have hb5 : Below N w4 (((w4.setCell ⟨db, 0, none⟩ (.int .i64 on.1)).setCell ⟨db, 1, none⟩ (.int .i64 on.2)).alloc (.cells #[.int .i64 on.1, .int .i64 on.2] 24)) :=
                        (((Below.refl _ _).setCell hNd _).setCell hNd _).alloc (by simpa using sS.1) _
                      refine ⟨⟨j + 1, pre ++ [cur], on, by omega, by go_num, ?_, t0, by simpa using t1, sS.below hb5 (Nat.le_refl _), Lib.hid ?_⟩, by simp [intOf]; omega⟩
                      · exact HJ.out _ _ _ (HJ.out _ _ _ (HJ.out _ _ _ sJ (Moves.setc (own := fun b => b = db) (p := ⟨db, 0, none⟩) _ rfl _)) (Moves.setc (own := fun b => b = db) (p := ⟨db, 1, none⟩) _ rfl _)) (Moves.below ((Below.refl _ _).alloc (Nat.le_refl _) _))
                      · rw [← hch.out, HE.out, HS.out]
                        simp
                · have HS : Hid (stepC s cur = some (cur.1, nd.parent)) := Lib.hid (by unfold stepC; rw [HN.out, if_pos hi])
                  gi_wp2
                  have m1' := blk_set r1 1 (.int .i64 nd.parent)
                  have m0' := blk_far r0 (p := ⟨db, 1, none⟩) hne (.int .i64 nd.parent)
                  have hb4 : Below N W3 (W3.setCell ⟨db, 1, none⟩ (.int .i64 nd.parent)) := (Below.refl _ _).setCell hNd _
                  refine ⟨⟨j + 1, pre ++ [cur], (cur.1, nd.parent), by omega, by go_num, HJ.out _ _ _ hJ3 (Moves.setc (own := fun b => b = db) (p := ⟨db, 1, none⟩) _ rfl _), m0', by simpa using m1', rS.below hb4 (Nat.le_refl _), Lib.hid ?_⟩, by simp [intOf]; omega⟩
                  rw [← hch.out, HE.out, HS.out]
                  simp
              · clear hy hR
                gi_wp2
                rw [Exit.noGoto_ret]
                refine bodyPost_ret (results_none rfl _ _ _) rfl ?_
                exact ⟨⟨_, rfl⟩, .inr ⟨pre ++ [cur], by rw [HM.out, ← hch.out, HE.out]; exact ⟨_, by rw [List.append_assoc]; rfl⟩, hJx3⟩⟩
            · have HE : Hid (chainP s (M - j) cur = []) := Lib.hid (by rw [HC.out, HD1.out, HH.out, HN.out]; simp [hk])
              gi_wp2
              refine ⟨fun _ h => (by cases h), ?_⟩
              gi_wp2
              rw [Exit.noGoto_ret]
              refine bodyPost_ret (results_none rfl _ _ _) rfl ?_
              exact ⟨⟨_, rfl⟩, .inl ⟨pre, by rw [HM.out, ← hch.out, HE.out]; simp, HJ.out _ _ _ hJp (Moves.below (HB1.out.alloc hz _))⟩⟩
        · have HC : Hid (chainP s (M - j) cur = []) := by rw [show M - j = 0 by omega]; exact Lib.hid rfl
          gi_wp2
          rw [Exit.noGoto_normal]
          go_end0
          exact ⟨⟨_, rfl⟩, .inl ⟨pre, by rw [HM.out, ← hch.out, HC.out]; simp, hJp⟩⟩
end Go.Proofs.Ytgliiknfmlmddaa
