/-
  Part 11 of the proof of MountsRemovesP: what the statement's proof uses of the texts in wip/tpl.
-/
import Derived.Lib.SliceRun
import Derived.Test.YtgliiknfmlmddaaMr10
namespace Go.Proofs.Ytgliiknfmlmddaa
open Go.RowKit

section
set_option maxRecDepth 10000
set_option maxHeartbeats 1000000
theorem Gattr (l : List Int) (a : Nat) (ha : a ≤ 10000000000) : GenF Try.prog 98 l a [] 60 (fun r => ∃ n : Nod, n.target.size ≤ 100 ∧ n.entries = [] ∧ r = .agg (nodA n)) := by
  refine enter Try.func98 rfl rfl rfl rfl rfl 1 rfl ?_
  refine w_ (al_ (h:=e_ (w_ (m_ (h:=bs_ (h:=?_))))))
  refine al_p rfl (s_gen 0 (hc := Gpick l _ _ (fun _ => true) (by omega) (by rfl) (by rfl) (by rfl)) (hR := ?_))
  rintro r a1 ha1 ⟨k1, rfl, p1⟩
  refine ⟨rfl, _, (by repeat constructor), ?_⟩
  refine m_ (h:=bs_ (h:=?_))
  refine al_p rfl (s_gen 0 (hc := Gpick l _ _ (fun _ => true) (by omega) (by rfl) (by rfl) (by rfl)) (hR := ?_))
  rintro r a2 ha2 ⟨k2, rfl, p2⟩
  refine ⟨rfl, _, (by repeat constructor), ?_⟩
  refine m_ (h:=bs_ (h:=?_))
  refine al_p rfl (s_gen 0 (hc := Gpick l _ _ (fun _ => true) (by omega) (by rfl) (by rfl) (by rfl)) (hR := ?_))
  rintro r a3 ha3 ⟨k3, rfl, p3⟩
  refine ⟨rfl, _, (by repeat constructor), ?_⟩
  refine m_ (h:=bs_ (h:=?_))
  refine al_p rfl (s_gen 0 (hc := Gpick l _ _ (fun _ => true) (by omega) (by rfl) (by rfl) (by rfl)) (hR := ?_))
  rintro r a4 ha4 ⟨k4, rfl, p4⟩
  refine ⟨rfl, _, (by repeat constructor), ?_⟩
  refine bd_ (h:=al_ (h:=s_ (h:=e_ (?_))))
  refine aw_midI (fun s => ∃ (b : Nat) (ki mo ui gi : Int) (ta : ByteArray), b ≤ a + 24 ∧ ta.size ≤ 100 ∧ s = ⟨look [(0, .bp 0 0), (2, .bp 1 0), (3, .bp 2 0)], ⟨[srcA l b, [.v (.int .i64 0), .v (.int .i64 0), .v (.int .i64 0), .v (.int .i64 0), .v (.int .i64 0), .v (.int .i64 0), .v (.string ⟨#[]⟩), .v (.slice none 0 0)], [.v (.int .i64 0), .v (.int .i64 ki), .v (.int .i64 mo), .v (.int .i64 ui), .v (.int .i64 gi), .v (.int .i64 0), .v (.string ta), .v (.slice none 0 0)]], []⟩⟩) ?_ ?_
  · skip
    refine w_ (f_ (h:=l_ (h:=eq_ (h:=e_ (?_)))))
    refine aw_cond rfl (fun hb1 => ?_) (fun hb1 => ?_)
    · have hc1 := bp hb1
      refine aw_region (m_ (h:=?_))
      refine al_p rfl (s_gen 0 (hc := Gpath l _ (by omega)) (hR := ?_))
      rintro r a5 ha5 ⟨k5, rfl, p5⟩
      refine ⟨rfl, _, (by repeat constructor), ?_⟩
      refine f_ (h:=s_ (h:=al_nil (?_)))
      refine x_then ?_
      refine ⟨_, ⟨_, _, _, _, _, _, ?_, ?_, rfl⟩, (wk 3 0)⟩ <;> first | omega | assumption | exact Nat.zero_le _
    · have hc1 := bp hb1
      refine aw_skip (?_)
      refine x_then ?_
      refine ⟨_, ⟨_, _, _, _, _, _, ?_, ?_, rfl⟩, (wk 3 0)⟩ <;> first | omega | assumption | exact Nat.zero_le _
  · rintro s ⟨b, ki, mo, ui, gi, ta, hb, hta, rfl⟩
    refine aw_midI (fun s => ∃ (b2 : Nat) (mo2 : Int) (ta2 : ByteArray), b2 ≤ a + 50 ∧ ta2.size ≤ 100 ∧ s = ⟨look [(2, .bp 1 0), (3, .bp 2 0)], ⟨[srcA l b2, [.v (.int .i64 0), .v (.int .i64 0), .v (.int .i64 0), .v (.int .i64 0), .v (.int .i64 0), .v (.int .i64 0), .v (.string ⟨#[]⟩), .v (.slice none 0 0)], [.v (.int .i64 0), .v (.int .i64 ki), .v (.int .i64 mo2), .v (.int .i64 ui), .v (.int .i64 gi), .v (.int .i64 0), .v (.string ta2), .v (.slice none 0 0)]], []⟩⟩) ?_ ?_
    · skip
      refine w_ (m_ (h:=?_))
      refine al_p rfl (s_gen 0 (hc := Gn l _ (20) (by omega) (by omega)) (hR := ?_))
      rintro r a6 ha6 ⟨k6, rfl, p6, q6, o6⟩
      refine ⟨rfl, _, (by repeat constructor), ?_⟩
      refine eq_ (h:=e_ (?_))
      refine aw_cond rfl (fun hb2 => ?_) (fun hb2 => ?_)
      · have hc2 := bp hb2
        refine aw_region (m_ (h:=bs_ (h:=?_)))
        refine al_p rfl (s_gen 0 (hc := Gpick l _ _ (fun _ => true) (by omega) (by rfl) (by rfl) (by rfl)) (hR := ?_))
        rintro r a7 ha7 ⟨k7, rfl, p7⟩
        refine ⟨rfl, _, (by repeat constructor), ?_⟩
        refine m_ (h:=?_)
        refine al_p rfl (s_gen 0 (hc := Gpath l _ (by omega)) (hR := ?_))
        rintro r a8 ha8 ⟨k8, rfl, p8⟩
        refine ⟨rfl, _, (by repeat constructor), ?_⟩
        refine f_ (h:=s_ (h:=f_ (h:=s_ (h:=al_nil (?_)))))
        refine x_then ?_
        refine ⟨_, ⟨_, _, _, ?_, ?_, rfl⟩, (wk 3 0)⟩ <;> first | omega | assumption
      · have hc2 := bp hb2
        refine aw_skip (?_)
        refine x_then ?_
        refine ⟨_, ⟨_, _, _, ?_, ?_, rfl⟩, (wk 3 0)⟩ <;> first | omega | assumption
    · rintro s ⟨b2, mo2, ta2, hb2, hta2, rfl⟩
      refine w_ (l_ (h:=s_ (h:=e_ (aw_ret (?_)))))
      refine rt_ (r := .agg (nodA ⟨0, ki, mo2, ui, gi, 0, ta2, []⟩)) none (h5 := (by repeat (first | exact LeA.refl _ | exact LeA.nil _ | exact LeL.refl _ | refine LeA.agg ?_ | refine LeA.tup ?_ | exact LeL.nil | refine LeL.cons ?_ ?_ | exact LeA.any _))) (h6 := ⟨_, rfl, rfl, b2, by omega, rfl, ⟨0, ki, mo2, ui, gi, 0, ta2, []⟩, hta2, rfl, rfl⟩)

end
end Go.Proofs.Ytgliiknfmlmddaa
namespace Go.Proofs.Ytgliiknfmlmddaa
open Go.RowKit

theorem FlsV.ne {f : Fls} (h : FlsV f) : ∀ d ∈ f, 0 < d.nodes.length := fun d hd => by
  obtain ⟨r, rest, hr, _⟩ := (h.vd d hd).root
  rw [hr]; simp
theorem root_vd : VD rootDvc := by
  refine ⟨by decide, by decide, by decide, ⟨rootNod, [], rfl, rfl, rfl, rfl⟩, List.pairwise_singleton _ _, ?_, ?_, ?_, ?_, ?_, ?_, ?_, ?_, ?_, ⟨fun _ => 0, ?_⟩⟩ <;>
    (intro n hn; obtain rfl : n = rootNod := by simpa [rootDvc] using hn)
  · decide
  · decide +kernel
  · intro h; exact absurd rfl h
  · decide
  · exact List.Pairwise.nil
  · intro e he; cases he
  · intro h; exact absurd rfl h
  · intro h; exact absurd rfl h
  · intro h; exact absurd rfl h
  · intro h; exact absurd rfl h
theorem new_valid {k : Int} (h1 : 1 ≤ k) (h2 : k ≤ 3) : FlsV (newL k).1 ∧ 0 < (newL k).1.length := by
  unfold newL
  rw [if_neg (by omega)]
  refine ⟨⟨?_, fun d hd => ?_⟩, ?_⟩
  · show (List.replicate _ _).length ≤ 3
    rw [List.length_replicate]; omega
  · rw [(List.mem_replicate.1 hd).2]; exact root_vd
  · show 0 < (List.replicate _ _).length
    rw [List.length_replicate]; omega
structure MntOK (f : Fls) (ms : List Mnt) (m : Mnt) : Prop where
  dev1 : 1 ≤ m.1
  dev2 : m.1 < (f.length : Int)
  fresh : mtdL ⟨f, ms⟩ m.1 = false
  dir : dirL f m.2 = true
  there : mtdL ⟨f, ms⟩ m.2.1 = true
  free : (covL ⟨f, ms⟩ m.2).isSome = false
structure SpcV (s : Spc) : Prop where
  files : FlsV s.files
  pos : 0 < s.files.length
  mnt : ∀ i m, s.mounts[i]? = some m → MntOK s.files (s.mounts.take i) m
theorem add_valid {s : Spc} (h : SpcV s) (dev : Int) (a : Fil) (h0 : (addL s dev a).2 = 0) : SpcV (addL s dev a).1 ∧ (addL s dev a).1 = ⟨s.files, s.mounts ++ [(dev, a)]⟩ := by
  unfold addL at h0 ⊢
  split at h0
  · exact absurd h0 (by decide)
  · rename_i c1
    split at h0
    · exact absurd h0 (by decide)
    · rename_i c2
      split at h0
      · exact absurd h0 (by decide)
      · rename_i c3
        split at h0
        · exact absurd h0 (by decide)
        · rename_i c4
          split at h0
          · exact absurd h0 (by decide)
          · rename_i c5
            rw [if_neg c1, if_neg c2, if_neg c3, if_neg c4, if_neg c5]
            refine ⟨⟨h.files, h.pos, fun i m hi => ?_⟩, rfl⟩
            simp only at hi ⊢
            rcases Nat.lt_trichotomy i s.mounts.length with hlt | heq | hgt
            · rw [List.getElem?_append_left hlt] at hi
              rw [List.take_append_of_le_length (by omega)]
              exact h.mnt i m hi
            · subst heq
              simp at hi
              subst hi
              rw [List.take_left' rfl]
              exact ⟨by simp only; omega, by simp only; omega, by simpa using fun h => c5 (.inl h), by simp only; rw [dirL_eq]; simp at c2 c3; simp [c2, c3], by simpa using fun h => c4 (.inl h), Bool.eq_false_iff.2 fun h => c5 (.inr h)⟩
            · rw [List.getElem?_eq_none (by simp; omega)] at hi; cases hi
section
set_option maxRecDepth 10000
set_option maxHeartbeats 1000000
theorem Gchange (l : List Int) (a : Nat) (f : Fls) (ha : a ≤ 1000000000) (hv : FlsV f) : GenF Try.prog 71 l a [.agg (flsA f)] 80 (fun r => ∃ f', r = .agg (flsA f') ∧ FlsV f' ∧ f'.length = f.length) := by
  have hf := hv.b
  have hne := hv.ne
  refine enter Try.func71 rfl rfl rfl rfl rfl 1 rfl ?_
  refine w_ (b_ (h:=al_ (h:=e_ (w_ (m_ (h:=l_ (h:=?_)))))))
  refine al_p rfl (s_gen 0 (hc := Gfile l _ f (by omega) hf hne) (hR := ?_))
  rintro r a1 ha1 ⟨x1, rfl⟩
  refine ⟨rfl, _, (by repeat constructor), ?_⟩
  refine m_ (h:=?_)
  refine al_p rfl (s_gen 0 (hc := Gname l _ (by omega)) (hR := ?_))
  rintro r a2 ha2 ⟨k2, rfl, p2⟩
  refine ⟨rfl, _, (by repeat constructor), ?_⟩
  refine al_ (h:=s_ (h:=a_ (h:=e_ (w_ (l_ (h:=al_ (h:=s_ (h:=a_ (h:=e_ (?_))))))))))
  refine aw_midI (fun t => ∃ (R1 : Fls) (e : Int) (b : Nat), b ≤ a + 80 ∧ (e = 0 → FlsV R1 ∧ R1.length = f.length) ∧ t = ⟨look [(3, .bp 1 0), (4, .bp 2 0), (7, .bp 4 0), (8, .v (.int .i64 e))], ⟨[srcA l b, flsA f, [.v (.slice none 0 0)], filA x1, flsA R1], []⟩⟩) ?_ ?_
  · skip
    refine w_ (m_ (h:=?_))
    refine al_p rfl (s_gen 0 (hc := Gn l _ (8) (by omega) (by omega)) (hR := ?_))
    rintro r a3 ha3 ⟨k3, rfl, p3, q3, o3⟩
    refine ⟨rfl, _, (by repeat constructor), ?_⟩
    refine e_ (aw_block (w_ (eq_ (h:=a_ (h:=e_ (?_))))))
    refine aw_cond rfl (fun hb1 => ?_) (fun hb1 => ?_)
    · have hc1 := bp hb1
      refine yk_ ([(1, flsA f), (2, [.v (.slice none 0 0)]), (3, filA x1)]) 13 (h:=dl_ 0 (h:=dl_ 1 (h:=dm_ 2 (h:=dm_ 3 (h:=dl_ 4 (h:=?_))))))
      refine c_ 5 rfl (s_gen 0 (hc := Gfile l _ f (by omega) hf hne) (hR := ?_))
      rintro r a4 ha4 ⟨x4, rfl⟩
      refine ⟨rfl, _, (by repeat constructor), ?_⟩
      refine o_ (h:=?_)
      refine c_ 6 rfl (q_call (Rlink f x1 k2 x4 hv (by omega)) ?_)
      rintro r rfl
      refine o_ (h:=dm_ 7 (h:=dx_ 8 (h:=dx_ 9 (h:=dx_ 10 (h:=?_)))))
      refine c0_ 11 rfl (s_store rfl rfl rfl rfl rfl rfl (by repeat constructor) (by repeat constructor) ?_)
      refine o_ (h:=da_ 12 (h:=z_ (h:=x_blockN (?_))))
      refine x_then ?_
      refine ⟨_, ⟨_, _, _, ?_, ?_, rfl⟩, (wk 5 0)⟩
      · omega
      · first | exact link_okay hv _ _ _ | exact unlink_okay hv _ _ | exact rmdir_okay hv _ _ | exact rename_okay hv _ _ _ _ | exact set_okay hv _ _ _ _ | exact make_okay hv _ _ _
    · have hc1 := bp hb1
      refine w_ (eq_ (h:=a_ (h:=e_ (?_))))
      refine aw_cond rfl (fun hb2 => ?_) (fun hb2 => ?_)
      · have hc2 := bp hb2
        refine aw_region (l_ (h:=l_ (h:=m_ (h:=?_))))
        refine al_p rfl (q_call (Runlink f x1 k2 hv (by omega)) ?_)
        rintro r rfl
        refine m_ (h:=x_ (h:=x_ (h:=x_ (h:=s_ (h:=a_ (h:=al_nil (x_blockN (?_))))))))
        refine x_then ?_
        refine ⟨_, ⟨_, _, _, ?_, ?_, rfl⟩, (wk 5 0)⟩
        · omega
        · first | exact link_okay hv _ _ _ | exact unlink_okay hv _ _ | exact rmdir_okay hv _ _ | exact rename_okay hv _ _ _ _ | exact set_okay hv _ _ _ _ | exact make_okay hv _ _ _
      · have hc2 := bp hb2
        refine w_ (eq_ (h:=a_ (h:=e_ (?_))))
        refine aw_cond rfl (fun hb3 => ?_) (fun hb3 => ?_)
        · have hc3 := bp hb3
          refine aw_region (l_ (h:=l_ (h:=m_ (h:=?_))))
          refine al_p rfl (q_call (Rrmdir f x1 k2 hv (by omega)) ?_)
          rintro r rfl
          refine m_ (h:=x_ (h:=x_ (h:=x_ (h:=s_ (h:=a_ (h:=al_nil (x_blockN (?_))))))))
          refine x_then ?_
          refine ⟨_, ⟨_, _, _, ?_, ?_, rfl⟩, (wk 5 0)⟩
          · omega
          · first | exact link_okay hv _ _ _ | exact unlink_okay hv _ _ | exact rmdir_okay hv _ _ | exact rename_okay hv _ _ _ _ | exact set_okay hv _ _ _ _ | exact make_okay hv _ _ _
        · have hc3 := bp hb3
          refine w_ (eq_ (h:=a_ (h:=e_ (?_))))
          refine aw_cond rfl (fun hb4 => ?_) (fun hb4 => ?_)
          · have hc4 := bp hb4
            refine yk_ ([(1, flsA f), (2, [.v (.slice none 0 0)]), (3, filA x1)]) 15 (h:=dl_ 0 (h:=dl_ 1 (h:=dm_ 2 (h:=dm_ 3 (h:=dl_ 4 (h:=dm_ 6 (h:=?_)))))))
            refine c_ 5 rfl (s_gen 0 (hc := Gfile l _ f (by omega) hf hne) (hR := ?_))
            rintro r a5 ha5 ⟨x5, rfl⟩
            refine ⟨rfl, _, (by repeat constructor), ?_⟩
            refine o_ (h:=?_)
            refine c_ 7 rfl (s_gen 0 (hc := Gname l _ (by omega)) (hR := ?_))
            rintro r a6 ha6 ⟨k6, rfl, p6⟩
            refine ⟨rfl, _, (by repeat constructor), ?_⟩
            refine o_ (h:=?_)
            refine c_ 8 rfl (q_call (Rrename f x1 k2 x5 k6 hv (by omega) (by omega)) ?_)
            rintro r rfl
            refine o_ (h:=dm_ 9 (h:=dx_ 10 (h:=dx_ 11 (h:=dx_ 12 (h:=?_)))))
            refine c0_ 13 rfl (s_store rfl rfl rfl rfl rfl rfl (by repeat constructor) (by repeat constructor) ?_)
            refine o_ (h:=da_ 14 (h:=z_ (h:=x_blockN (?_))))
            refine x_then ?_
            refine ⟨_, ⟨_, _, _, ?_, ?_, rfl⟩, (wk 5 0)⟩
            · omega
            · first | exact link_okay hv _ _ _ | exact unlink_okay hv _ _ | exact rmdir_okay hv _ _ | exact rename_okay hv _ _ _ _ | exact set_okay hv _ _ _ _ | exact make_okay hv _ _ _
          · have hc4 := bp hb4
            refine w_ (eq_ (h:=a_ (h:=e_ (?_))))
            refine aw_cond rfl (fun hb5 => ?_) (fun hb5 => ?_)
            · have hc5 := bp hb5
              refine yk_ ([(1, flsA f), (2, [.v (.slice none 0 0)]), (3, filA x1)]) 12 (h:=dl_ 0 (h:=dl_ 1 (h:=dm_ 2 (h:=dm_ 4 (h:=?_)))))
              refine c_ 3 rfl (s_gen 0 (hc := Gn l _ (9) (by omega) (by omega)) (hR := ?_))
              rintro r a7 ha7 ⟨k7, rfl, p7, q7, o7⟩
              refine ⟨rfl, _, (by repeat constructor), ?_⟩
              refine o_ (h:=?_)
              refine c_ 5 rfl (s_gen 0 (hc := Gn l _ (9) (by omega) (by omega)) (hR := ?_))
              rintro r a8 ha8 ⟨k8, rfl, p8, q8, o8⟩
              refine ⟨rfl, _, (by repeat constructor), ?_⟩
              refine o_ (h:=?_)
              refine c_ 6 rfl (q_call (Rset f x1 511 k7 k8 hv) ?_)
              rintro r rfl
              refine o_ (h:=dm_ 7 (h:=dx_ 8 (h:=dx_ 9 (h:=?_))))
              refine c0_ 10 rfl (s_store rfl rfl rfl rfl rfl rfl (by repeat constructor) (by repeat constructor) ?_)
              refine o_ (h:=da_ 11 (h:=z_ (h:=x_blockN (?_))))
              refine x_then ?_
              refine ⟨_, ⟨_, _, _, ?_, ?_, rfl⟩, (wk 5 0)⟩
              · omega
              · first | exact link_okay hv _ _ _ | exact unlink_okay hv _ _ | exact rmdir_okay hv _ _ | exact rename_okay hv _ _ _ _ | exact set_okay hv _ _ _ _ | exact make_okay hv _ _ _
            · have hc5 := bp hb5
              refine yk_ ([(1, flsA f), (2, [.v (.slice none 0 0)]), (3, filA x1)]) 12 (h:=dl_ 0 (h:=dl_ 1 (h:=dm_ 2 (h:=dm_ 3 (h:=?_)))))
              refine c_ 4 rfl (s_gen 0 (hc := Gattr l _ (by omega)) (hR := ?_))
              rintro r a9 ha9 ⟨n9, ht9, he9, rfl⟩
              refine ⟨rfl, _, (by repeat constructor), ?_⟩
              refine o_ (h:=?_)
              refine c_ 5 rfl (q_call (Rmake f x1 k2 n9 hv (by omega) (by omega)) ?_)
              rintro r rfl
              refine o_ (h:=dm_ 6 (h:=dx_ 7 (h:=dx_ 8 (h:=dx_ 9 (h:=?_)))))
              refine c0_ 10 rfl (s_store rfl rfl rfl rfl rfl rfl (by repeat constructor) (by repeat constructor) ?_)
              refine o_ (h:=da_ 11 (h:=z_ (h:=x_blockN (?_))))
              refine x_then ?_
              refine ⟨_, ⟨_, _, _, ?_, ?_, rfl⟩, (wk 5 0)⟩
              · omega
              · first | exact link_okay hv _ _ _ | exact unlink_okay hv _ _ | exact rmdir_okay hv _ _ | exact rename_okay hv _ _ _ _ | exact set_okay hv _ _ _ _ | exact make_okay hv _ _ _
  · rintro t ⟨R1, e, b, hb, hok, rfl⟩
    refine q_ (w_ (m_ (h:=nq_ (h:=e_ (?_)))))
    refine aw_cond rfl (fun hb6 => ?_) (fun hb6 => ?_)
    · have hc6 := bp hb6
      refine w_ (l_ (h:=s_ (h:=e_ (aw_ret (x_thenR (?_))))))
      refine rt_ none (h5 := (LeA.refl _)) (h6 := ⟨_, rfl, rfl, b, hb, rfl, f, rfl, hv, rfl⟩)
    · have hc6 := bp hb6
      refine kt_ (w_ (l_ (h:=s_ (h:=e_ (aw_ret (?_))))))
      refine rt_ none (h5 := (LeA.refl _)) (h6 := ⟨_, rfl, rfl, b, hb, rfl, R1, rfl, hok (by omega)⟩)

theorem Gfiles (l : List Int) (a : Nat) (ha : a ≤ 100000000) : GenF Try.prog 43 l a [] 1000 (fun r => ∃ f, r = .agg (flsA f) ∧ FlsV f ∧ 0 < f.length) := by
  refine enter Try.func43 rfl rfl rfl rfl rfl 1 rfl ?_
  refine w_ (al_ (h:=e_ (w_ (m_ (h:=?_)))))
  refine al_p rfl (s_gen 0 (hc := Grange l _ (1) (3) (by omega) (by omega) (by omega) (by omega)) (hR := ?_))
  rintro r a1 ha1 ⟨k1, rfl, p1, q1⟩
  refine ⟨rfl, _, (by repeat constructor), ?_⟩
  refine al_p rfl (q_call (Rnew k1) ?_)
  rintro r rfl
  refine m_ (h:=x_ (h:=x_ (h:=al_ (h:=s_ (h:=a_ (h:=e_ (q_ (w_ (m_ (h:=?_))))))))))
  refine al_p rfl (s_gen 0 (hc := Grange l _ (2) (12) (by omega) (by omega) (by omega) (by omega)) (hR := ?_))
  rintro r a2 ha2 ⟨k2, rfl, p2, q2⟩
  refine ⟨rfl, _, (by repeat constructor), ?_⟩
  refine a_ (h:=e_ (aw_block (?_)))
  obtain ⟨hv0, hp0⟩ := new_valid p1 q1
  obtain ⟨M, rfl⟩ := Int.eq_ofNat_of_zero_le (show 0 ≤ k2 by omega)
  refine aw_loopW (fun n s => ∃ (j b : Nat) (f : Fls), j ≤ M ∧ n = j ∧ b + 80 * j ≤ a + 2 + 80 * M ∧ FlsV f ∧ 0 < f.length ∧ s = ⟨look [(0, .bp 0 0), (2, .bp 1 0), (3, .bp 2 0), (5, .v (.int .i64 (j : Int)))], ⟨[srcA l b, [.v (.slice none 0 0)], flsA f], []⟩⟩) (M) ((wk 3 0)) (⟨M, _, _, Nat.le_refl _, rfl, by omega, hv0, hp0, rfl⟩) ?_
  rintro n s ⟨j, b, f, hj, rfl, hb, hv, hp, rfl⟩
  refine q_ (w_ (m_ (h:=gt_ (h:=e_ (?_)))))
  refine aw_cond rfl (fun hb1 => ?_) (fun hb1 => ?_)
  · have hc1 := bp hb1
    refine kt_ (q_ (aw_block (aw_region (m_ (h:=l_ (h:=?_))))))
    refine al_p rfl (s_gen 0 (hc := Gchange l _ f (by omega) hv) (hR := ?_))
    rintro r a3 ha3 ⟨f3, rfl, hv3, hl3⟩
    refine ⟨rfl, _, (by repeat constructor), ?_⟩
    refine s_ (h:=al_nil (x_blockN (t_ (aw_region (m_ (h:=?_))))))
    refine al_p rfl (st_sub64 rfl rfl (by omega) ?_)
    refine a_ (h:=al_nil (?_))
    refine x_then ?_
    refine ⟨n - 1, _, by omega, ⟨n - 1, _, f3, by omega, rfl, ?_, hv3, by omega, rfl⟩, (by rw [show ((n - 1 : Nat) : Int) = (n : Int) - 1 by omega]; exact weak_of 3 0 rfl rfl rfl rfl ((by repeat (first | exact Sub.nil | refine Sub.cons _ _ _ rfl rfl ?_ | refine Sub.any _ _ ?_ | refine Sub.sl _ _ _ _ _ rfl ?_ | refine Sub.slnil _ _ _ rfl ?_))))⟩
    omega
  · have hc1 := bp hb1
    refine aw_exit (x_thenE (x_thenE (ABlock_out (t_ (w_ (l_ (h:=s_ (h:=e_ (aw_ret (?_))))))))))
    refine rt_ none (h5 := (LeA.refl _)) (h6 := ⟨_, rfl, rfl, b, by omega, rfl, f, rfl, hv, hp⟩)

end
end Go.Proofs.Ytgliiknfmlmddaa
namespace Go.Proofs.Ytgliiknfmlmddaa
open Go.RowKit

theorem SpcV.b {s : Spc} (h : SpcV s) (hm : s.mounts.length ≤ 1000) : SpcB s := ⟨h.files.b, hm⟩
section
set_option maxRecDepth 10000
set_option maxHeartbeats 1000000
theorem Gspace (l : List Int) (a : Nat) (ha : a ≤ 10000000) : GenF Try.prog 12 l a [] 1100 (fun r => ∃ s, r = .agg (spcA s) ∧ SpcV s ∧ s.mounts.length ≤ 3) := by
  refine enter Try.func12 rfl rfl rfl rfl rfl 1 rfl ?_
  refine w_ (al_ (h:=e_ (w_ (m_ (h:=?_)))))
  refine al_p rfl (s_gen 0 (hc := Gfiles l _ (by omega)) (hR := ?_))
  rintro r a1 ha1 ⟨f1, rfl, hv1, hp1⟩
  refine ⟨rfl, _, (by repeat constructor), ?_⟩
  refine al_p rfl (st_le (y := .agg (spcA ⟨f1, []⟩)) (st_build (by repeat (first | exact FillA.nil _ | (apply FillA.cons; (focus exact rfl); (focus exact rfl); (focus exact rfl); (focus exact rfl); (focus exact rfl); (focus (repeat constructor))))) ⟨rfl, rfl⟩) (by repeat (first | exact LeA.refl _ | exact LeA.nil _ | exact LeL.refl _ | refine LeA.agg ?_ | refine LeA.tup ?_ | exact LeL.nil | refine LeL.cons ?_ ?_ | exact LeA.any _)) ?_)
  refine al_ (h:=s_ (h:=e_ (q_ (w_ (m_ (h:=?_))))))
  refine al_p rfl (s_gen 0 (hc := Gn l _ (4) (by omega) (by omega)) (hR := ?_))
  rintro r a2 ha2 ⟨k2, rfl, p2, q2, o2⟩
  refine ⟨rfl, _, (by repeat constructor), ?_⟩
  refine a_ (h:=e_ (aw_block (?_)))
  obtain ⟨M, rfl⟩ := Int.eq_ofNat_of_zero_le p2
  have hM : M ≤ 3 := by omega
  refine aw_loopW (fun n t => ∃ (j b : Nat) (s : Spc), j ≤ M ∧ n = j ∧ b + 10 * j ≤ a + 1001 + 10 * M ∧ SpcV s ∧ s.mounts.length + j ≤ M ∧ t = ⟨look [(0, .bp 0 0), (2, .bp 1 0), (3, .bp 2 0), (4, .v (.int .i64 (j : Int)))], ⟨[srcA l b, [.v (.slice none 0 0), .v (.slice none 0 0)], spcA s], []⟩⟩) (M) ((wk 3 0)) (⟨M, _, ⟨f1, []⟩, Nat.le_refl _, rfl, by omega, ⟨hv1, hp1, fun i m hi => by simp at hi⟩, by simp, rfl⟩) ?_
  rintro n t ⟨j, b, s, hj, rfl, hb, hv, hm, rfl⟩
  have hsb := hv.b (by omega)
  refine q_ (w_ (m_ (h:=gt_ (h:=e_ (?_)))))
  refine aw_cond rfl (fun hb1 => ?_) (fun hb1 => ?_)
  · have hc1 := bp hb1
    refine kt_ (q_ (aw_block (?_)))
    refine aw_midI (fun t => ∃ (dev : Int) (x : Fil) (b2 : Nat), b2 ≤ b + 10 ∧ t = ⟨look [(0, .bp 0 0), (2, .bp 1 0), (3, .bp 2 0), (4, .v (.int .i64 (n : Int))), (5, .bp 3 0), (6, .v (.int .i64 (addL s dev x).2))], ⟨[srcA l b2, [.v (.slice none 0 0), .v (.slice none 0 0)], spcA s, spcA (addL s dev x).1], []⟩⟩) ?_ ?_
    · skip
      refine yk_ ([(2, spcA s)]) 14 (h:=?_)
      first | refine dl_ 0 (h:=?_) | refine tk_ 0 rfl (fun _ hS => st_loadBE (row := spcA s) rfl (kb hS rfl) (Nat.le_of_ble_eq_true rfl) rfl ⟨rfl, rfl⟩) ?_
      refine dm_ 1 (h:=dm_ 3 (h:=df_ 4 (h:=?_)))
      first | refine dl_ 5 (h:=?_) | refine tk_ 5 rfl (fun _ hS => st_loadBE (row := spcA s) rfl (kb hS rfl) (Nat.le_of_ble_eq_true rfl) rfl ⟨rfl, rfl⟩) ?_
      refine c2_ 2 11 rfl rfl ?_ ?_
      · refine s_gen 0 (hc := Grange l _ (1) (2) (by omega) (by omega) (by omega) (by omega)) (hR := ?_)
        rintro r a3 ha3 ⟨k3, rfl, p3, q3⟩
        refine ⟨rfl, _, (by repeat constructor), ?_⟩
        refine o_ (h:=?_)
        refine c2_ 6 11 rfl rfl ?_ ?_
        · refine s_gen 0 (hc := Gfile l _ s.files (by omega) hv.files.b hv.files.ne) (hR := ?_)
          rintro r a4 ha4 ⟨x4, rfl⟩
          refine ⟨rfl, _, (by repeat constructor), ?_⟩
          refine o_ (h:=?_)
          refine c2_ 7 11 rfl rfl ?_ ?_
          · refine q_call (Radd s _ _ hsb) ?_
            rintro r rfl
            refine o_ (h:=?_)
            refine dm_ 8 (h:=dx_ 9 (h:=dx_ 10 (h:=?_)))
            refine c_ 11 rfl (s_alloc (by repeat constructor) ?_)
            refine o_ (h:=?_)
            refine c0_ 12 rfl (s_store rfl rfl rfl rfl rfl rfl (by repeat constructor) (by repeat constructor) ?_)
            refine o_ (h:=da_ 13 (h:=z_ (h:=?_)))
            refine x_then ?_
            refine ⟨_, ⟨_, _, _, ?_, rfl⟩, (wk 4 0)⟩
            omega
          · refine s_alloc (by repeat constructor) ?_
            refine o_ (h:=?_)
            refine c_ 7 rfl (q_call (Radd s _ _ hsb) ?_)
            rintro r rfl
            refine o_ (h:=dm_ 8 (h:=dx_ 9 (h:=dx_ 10 (h:=?_))))
            refine c0_ 12 rfl (s_store rfl rfl rfl rfl rfl rfl (by repeat constructor) (by repeat constructor) ?_)
            refine o_ (h:=da_ 13 (h:=z_ (h:=?_)))
            refine x_then ?_
            refine ⟨_, ⟨_, _, _, ?_, rfl⟩, (wk 4 0)⟩
            omega
        · refine s_alloc (by repeat constructor) ?_
          refine o_ (h:=?_)
          refine c_ 6 rfl (s_gen 0 (hc := Gfile l _ s.files (by omega) hv.files.b hv.files.ne) (hR := ?_))
          rintro r a5 ha5 ⟨x5, rfl⟩
          refine ⟨rfl, _, (by repeat constructor), ?_⟩
          refine o_ (h:=?_)
          refine c_ 7 rfl (q_call (Radd s _ _ hsb) ?_)
          rintro r rfl
          refine o_ (h:=dm_ 8 (h:=dx_ 9 (h:=dx_ 10 (h:=?_))))
          refine c0_ 12 rfl (s_store rfl rfl rfl rfl rfl rfl (by repeat constructor) (by repeat constructor) ?_)
          refine o_ (h:=da_ 13 (h:=z_ (h:=?_)))
          refine x_then ?_
          refine ⟨_, ⟨_, _, _, ?_, rfl⟩, (wk 4 0)⟩
          omega
      · refine s_alloc (by repeat constructor) ?_
        refine o_ (h:=?_)
        refine c_ 2 rfl (s_gen 0 (hc := Grange l _ (1) (2) (by omega) (by omega) (by omega) (by omega)) (hR := ?_))
        rintro r a6 ha6 ⟨k6, rfl, p6, q6⟩
        refine ⟨rfl, _, (by repeat constructor), ?_⟩
        refine o_ (h:=?_)
        refine c_ 6 rfl (s_gen 0 (hc := Gfile l _ s.files (by omega) hv.files.b hv.files.ne) (hR := ?_))
        rintro r a7 ha7 ⟨x7, rfl⟩
        refine ⟨rfl, _, (by repeat constructor), ?_⟩
        refine o_ (h:=?_)
        refine c_ 7 rfl (q_call (Radd s _ _ hsb) ?_)
        rintro r rfl
        refine o_ (h:=dm_ 8 (h:=dx_ 9 (h:=dx_ 10 (h:=?_))))
        refine c0_ 12 rfl (s_store rfl rfl rfl rfl rfl rfl (by repeat constructor) (by repeat constructor) ?_)
        refine o_ (h:=da_ 13 (h:=z_ (h:=?_)))
        refine x_then ?_
        refine ⟨_, ⟨_, _, _, ?_, rfl⟩, (wk 4 0)⟩
        omega
    · rintro t ⟨dev, x, b2, hb2, rfl⟩
      refine w_ (m_ (h:=eq_ (h:=e_ (?_))))
      refine aw_cond rfl (fun hb2 => ?_) (fun hb2 => ?_)
      · have hc2 := bp hb2
        obtain ⟨hv2, he2⟩ := add_valid hv dev x (by omega)
        have hm2 : (addL s dev x).1.mounts.length = s.mounts.length + 1 := by rw [he2]; simp
        refine aw_region (l_ (h:=s_ (h:=al_nil (x_blockN (t_ (aw_region (m_ (h:=?_))))))))
        refine al_p rfl (st_sub64 rfl rfl (by omega) ?_)
        refine a_ (h:=al_nil (?_))
        refine x_then ?_
        first | refine ⟨n - 1, _, by omega, ⟨n - 1, _, (addL s dev x).1, by omega, rfl, ?_, hv2, ?_, rfl⟩, (by rw [show ((n - 1 : Nat) : Int) = (n : Int) - 1 by omega]; exact weak_of 3 0 rfl rfl rfl rfl ((by repeat (first | exact Sub.nil | refine Sub.cons _ _ _ rfl rfl ?_ | refine Sub.any _ _ ?_ | refine Sub.sl _ _ _ _ _ rfl ?_ | refine Sub.slnil _ _ _ rfl ?_))))⟩ | refine ⟨n - 1, _, by omega, ⟨n - 1, _, s, by omega, rfl, ?_, hv, ?_, rfl⟩, (by rw [show ((n - 1 : Nat) : Int) = (n : Int) - 1 by omega]; exact weak_of 3 0 rfl rfl rfl rfl ((by repeat (first | exact Sub.nil | refine Sub.cons _ _ _ rfl rfl ?_ | refine Sub.any _ _ ?_ | refine Sub.sl _ _ _ _ _ rfl ?_ | refine Sub.slnil _ _ _ rfl ?_))))⟩
        · omega
        · omega
      · have hc2 := bp hb2
        refine aw_skip (x_blockN (t_ (aw_region (m_ (h:=?_)))))
        refine al_p rfl (st_sub64 rfl rfl (by omega) ?_)
        refine a_ (h:=al_nil (?_))
        refine x_then ?_
        first | refine ⟨n - 1, _, by omega, ⟨n - 1, _, (addL s dev x).1, by omega, rfl, ?_, hv2, ?_, rfl⟩, (by rw [show ((n - 1 : Nat) : Int) = (n : Int) - 1 by omega]; exact weak_of 3 0 rfl rfl rfl rfl ((by repeat (first | exact Sub.nil | refine Sub.cons _ _ _ rfl rfl ?_ | refine Sub.any _ _ ?_ | refine Sub.sl _ _ _ _ _ rfl ?_ | refine Sub.slnil _ _ _ rfl ?_))))⟩ | refine ⟨n - 1, _, by omega, ⟨n - 1, _, s, by omega, rfl, ?_, hv, ?_, rfl⟩, (by rw [show ((n - 1 : Nat) : Int) = (n : Int) - 1 by omega]; exact weak_of 3 0 rfl rfl rfl rfl ((by repeat (first | exact Sub.nil | refine Sub.cons _ _ _ rfl rfl ?_ | refine Sub.any _ _ ?_ | refine Sub.sl _ _ _ _ _ rfl ?_ | refine Sub.slnil _ _ _ rfl ?_))))⟩
        · omega
        · omega
  · have hc1 := bp hb1
    refine aw_exit (x_thenE (x_thenE (ABlock_out (t_ (w_ (l_ (h:=s_ (h:=e_ (aw_ret (?_))))))))))
    refine rt_ none (h5 := (LeA.refl _)) (h6 := ⟨_, rfl, rfl, b, by omega, rfl, s, rfl, hv, by omega⟩)

end
end Go.Proofs.Ytgliiknfmlmddaa
namespace Go.Proofs.Ytgliiknfmlmddaa
open Go.RowKit

theorem setL_take : ∀ (vs us : List Value) (o : Nat), (setL us o vs).take o = us.take o
  | [], _, _ => rfl
  | v :: vs, us, o => by
    simp only [setL]
    have h1 := setL_take vs (us.set o v) (o + 1)
    have h2 := congrArg (List.take o) h1
    rw [List.take_take, List.take_take, Nat.min_eq_left (by omega)] at h2
    rw [h2]
    apply List.ext_getElem?
    intro k
    rw [List.getElem?_take, List.getElem?_take]
    split
    · rw [List.getElem?_set_ne (by omega)]
    · rfl
section
variable {P : Program} {ev : Operand → Option AV} {h : AH} {R : AV → AH → Prop} {d : Option Tmp} {ty : TypeId} {pos : String} {af : Array Edge} {gd : Option (Nat × Bool)}
theorem st_slit0B {T : TypeId} {E sz bytes k : Nat} {bx' : List (List AV)} [hE : Elm P T E sz bytes] (hs : SnocAt h.bx [] k bx') (hR : R (.bs k 0 sz 0 0) ⟨bx', h.tk⟩) : AStep P ⟨d, .buildSlice T 0 #[], ty, pos, af, gd⟩ ev h R := by
  intro E' G w ec hr he
  obtain ⟨hu, inf, z, hinf, hz, hzs, hsz, hby, hp⟩ := elm_spec hE.eq
  have c2 : (Instr.buildSlice T 0 #[]).run P w = .ok (.slice (some ⟨w.heap.size, 0, none⟩) 0 0) (w.alloc (.cells ([] : List Value).toArray E)) := by
    simp [Instr.buildSlice, run_underlying hu, sizeOf, typeInfo, hinf, Instr.fill, newRow]
    rw [show Array.map (fun _ => (default : Value)) (Array.range 0) = #[] from Array.eq_empty_of_size_eq_zero (by simp)]
  obtain ⟨G', q1, q2, q3⟩ := new_box (T := E) hr (us := []) (row := []) (by simp only [repL]) (by simp) hs
  simp only [rep] at q3
  obtain ⟨b, q4, q5⟩ := q3
  injection q5 with q5
  injection q5 with q5
  injection q5 with q5
  subst q5
  have c3 : (Instr.buildSlice T 0 ((#[] : Array (Nat × Operand)).map fun p => (p.1, ec p.2))).run P w = .ok (.slice (some ⟨w.heap.size, 0, none⟩) 0 0) (w.alloc (.cells ([] : List Value).toArray E)) := by simpa using c2
  simp only [execOp, Sem.run_bind, c3, Result.andThen_ok, Sem.run_pure]
  exact ⟨_, _, G', hR, q1, q2, by simp only [rep]; exact ⟨_, q4, rfl, Nat.le_refl _, Nat.zero_le _⟩⟩
theorem st_sliceHiB {T : TypeId} {x hi : Operand} {E sz bytes i off n cap k : Nat} {iv : Int} [hE : Elm P T E sz bytes] (hx : ev x = some (.bs i off sz n cap)) (hh : ev hi = some (.v (.int .i64 iv))) (hi' : iv = (k : Int)) (hk : k ≤ n) (hR : R (.bs i off sz k cap) h) :
    AStep P ⟨d, .slice T x none (some hi) none, ty, pos, af, gd⟩ ev h R := by
  refine st_val (fun _ G w ec _ he => ?_) hR
  have k1 := he x (by simp [Op.operands]) _ hx
  have k2 := he hi (by simp [Op.operands]) _ hh
  simp only [rep] at k1 k2
  obtain ⟨b, e1, e2, e3, e4⟩ := k1
  obtain ⟨hu, inf, z, hinf, hz, hzs, hs, hby, hp⟩ := elm_spec hE.eq
  subst hi'
  have hle : k ≤ cap := by omega
  refine ⟨.slice (some ⟨b, off, none⟩) k cap, ?_, by simp only [rep]; exact ⟨b, e1, rfl, hle, e4⟩⟩
  simp [execOp, e2, k2, Instr.sliceAt, Instr.slice, Instr.sliceBounds, Instr.sliceBound, asIntOf, run_underlying hu, sizeOf, typeInfo, hinf, hs, hle, Addr.add_mid]
theorem st_sliceLoB {T : TypeId} {x lo : Operand} {E sz bytes i off n cap l : Nat} {iv : Int} [hE : Elm P T E sz bytes] (hx : ev x = some (.bs i off sz n cap)) (hh : ev lo = some (.v (.int .i64 iv))) (hi' : iv = (l : Int)) (hk : l < n) (hR : R (.bs i (off + l * sz) sz (n - l) (cap - l)) h) :
    AStep P ⟨d, .slice T x (some lo) none none, ty, pos, af, gd⟩ ev h R := by
  refine st_val (fun _ G w ec _ he => ?_) hR
  have k1 := he x (by simp [Op.operands]) _ hx
  have k2 := he lo (by simp [Op.operands]) _ hh
  simp only [rep] at k1 k2
  obtain ⟨b, e1, e2, e3, e4⟩ := k1
  obtain ⟨hu, inf, z, hinf, hz, hzs, hs, hby, hp⟩ := elm_spec hE.eq
  subst hi'
  have hle : l ≤ n := by omega
  have hne : ¬ cap = l := by omega
  have hne' : ¬ (cap - l = 0) := by omega
  refine ⟨.slice (some ⟨b, off + l * sz, none⟩) (n - l) (cap - l), ?_, by simp only [rep]; exact ⟨b, e1, rfl, by omega, by omega⟩⟩
  simp [execOp, e2, k2, Instr.sliceAt, Instr.slice, Instr.sliceBounds, Instr.sliceBound, asIntOf, run_underlying hu, sizeOf, typeInfo, hinf, hs, hle, hne, hne', Addr.add_mid]
theorem st_clearB {T : TypeId} {x : Operand} {E sz bytes i off n cap : Nat} {row : List AV} {bx' : List (List AV)} {zrow : List AV} [hE : Elm P T E sz bytes] [hzr : Zer P E zrow] (hx : ev x = some (.bs i off sz n cap)) (hb : h.bx[i]? = some row) (hn : 0 < n) (hfit : off + n * sz ≤ row.length) (hset : SetAt h.bx i [row.take off ++ List.replicate (row.length - off) .any] bx') (hR : R (.tup []) ⟨bx', h.tk⟩) :
    AStep P ⟨d, .call { callee := .builtin .clear, args := #[x], argTypes := #[T] }, ty, pos, af, gd⟩ ev h R := by
  intro E' G w ec hr he
  have k1 := he x (by simp [Op.operands, Call.operands]) _ hx
  simp only [rep] at k1
  obtain ⟨b, k3, k4, k5, k6⟩ := k1
  obtain ⟨hu, inf, z, hinf, hz, hzs, hsz, hby, hp⟩ := elm_spec hE.eq
  obtain ⟨us, T', q1, q2, q3⟩ := hr.boxAt k3 hb
  have hlen := repL_length q2
  obtain ⟨zs, hzc⟩ : ∃ zs : List Value, Builtin.zeroCells z.cells n = zs.toArray := ⟨(Builtin.zeroCells z.cells n).toList, by simp⟩
  have hzl : zs.length = n * sz := by
    have := size_zeroCells z.cells n
    rw [hzc, hzs] at this
    simpa using this
  have hone : ∀ u ∈ zs, u.oneCell' = true := by
    intro u hu
    have : u ∈ Builtin.zeroCells z.cells n := by rw [hzc]; simpa using hu
    exact zero_one hzr hinf hz this
  have hst := run_storeCells_cells (P := P) b off zs 0 w (fun j hj => by simp only [World.cell?, q1]; simp; omega) (fun j hj => by simp [World.frozen?, q1]) hone
  simp only [Nat.add_zero] at hst
  obtain ⟨m, rfl⟩ : ∃ m, n = m + 1 := ⟨n - 1, by omega⟩
  have hrun : (Builtin.clear_ #[T] ty #[.slice (some ⟨b, off, none⟩) (m + 1) cap]).run P w = .ok (.tuple #[]) (w.setCells b off zs) := by
    simp [Builtin.clear_, run_underlying hu, zeroValue, typeInfo, hinf, hz, hzc, hst]
  obtain ⟨r1, r2, r3, r4, r5, r6⟩ := setCells_heap b T' zs off us w q1
  obtain ⟨t1, t2⟩ := hr.setBox (w' := w.setCells b off zs) (row := row.take off ++ List.replicate (row.length - off) .any) k3 r4 r5 r6 r3 r2 ⟨_, T', r1, by
    rw [← List.take_append_drop off (setL us off zs), setL_take]
    refine repL_app (repL_take q2 off) ?_
    have : ((setL us off zs).drop off).length = row.length - off := by rw [List.length_drop, setL_length]; omega
    rw [← this]
    exact repL_anys _, fun u hu => by
      rcases setL_mem zs us off u hu with e | e
      · exact q3 u e
      · exact hone u e⟩
  have hbx := (SetAt.one hset).2
  subst hbx
  simp only [execOp, resolve, invoke, builtin, Sem.run_bind, Sem.run_pure, Result.andThen_ok, List.map_toArray, List.map_cons, List.map_nil, k4, hrun]
  exact ⟨_, _, G, hR, t1, t2, by simp only [rep, repL]; exact ⟨[], rfl, rfl⟩⟩
end
end Go.Proofs.Ytgliiknfmlmddaa
namespace Go.Proofs.Ytgliiknfmlmddaa
open Go.RowKit

theorem clone_row {sz cap : Nat} {rows : List (List AV)} : (([] : List AV).drop 0).take (0 * sz) ++ rows.flatten ++ List.replicate ((cap - (0 + rows.length)) * sz) .any = rowsB sz cap rows := by
  unfold rowsB
  simp
theorem mnt_plain (l : List Mnt) : ∀ r ∈ l.map mntA, ∀ x ∈ r, ∃ v, x = .v v := by
  intro r hr x hx
  obtain ⟨c, _, rfl⟩ := List.mem_map.1 hr
  simp [mntA] at hx
  rcases hx with h | h | h <;> exact ⟨_, h⟩
theorem mnt_three (l : List Mnt) : ∀ r ∈ l.map mntA, r.length = 3 := by
  intro r hr
  obtain ⟨c, _, rfl⟩ := List.mem_map.1 hr
  rfl
theorem bp_plain {n m sz cap : Nat} {rows : List (List AV)} (h : ∀ r ∈ rows, ∀ x ∈ r, ∃ v, x = .v v) : bpLtL n m (rowsB sz cap rows) = true :=
  bpLt_rowsB fun r hr => bpLtL_all.2 fun x hx => by obtain ⟨v, rfl⟩ := h r hr x hx; rfl
theorem map_plain {F : AV → AV} (hany : F .any = .any) (hv : ∀ x, F (.v x) = .v x) {sz cap : Nat} {rows : List (List AV)} (h : ∀ r ∈ rows, ∀ x ∈ r, ∃ v, x = .v v) : (rowsB sz cap rows).map F = rowsB sz cap rows := by
  rw [rowsB_map F hany]
  congr 1
  conv => rhs; rw [← List.map_id rows]
  apply List.map_congr_left
  intro r hr
  conv => rhs; rw [id, ← List.map_id r]
  apply List.map_congr_left
  intro x hx
  obtain ⟨v, rfl⟩ := h r hr x hx
  exact hv v
theorem ren_rows {g : Nat → Option Nat} {sz cap : Nat} {rows : List (List AV)} (h : ∀ r ∈ rows, ∀ x ∈ r, ∃ v, x = .v v) : renL g (rowsB sz cap rows) = rowsB sz cap rows := by
  rw [renL_map]
  exact map_plain rfl (fun _ => rfl) h
theorem liv_plain {n : Nat} {g : Nat → Option (List AV)} {sz cap : Nat} {rows : List (List AV)} (h : ∀ r ∈ rows, ∀ x ∈ r, ∃ v, x = .v v) : livL n g (rowsB sz cap rows) = rowsB sz cap rows := by
  rw [livL_map]
  exact map_plain rfl (fun _ => rfl) h
theorem NB_same {ns : List Nod} {cap j : Nat} {n : Nod} (h : ns[j]? = some n) : SetAt (NB ns cap) (0 + j * 8 + 7) [.sl 2 (n.entries.map entA) none] (NB ns cap) := by
  have key := NB_set (cap1 := cap) (n' := n) (k := 7) (cs := [.sl 2 (n.entries.map entA) none]) h (by repeat constructor) (by simp)
  have e : ns.set j n = ns := by
    obtain ⟨h1, h2⟩ := List.getElem?_eq_some_iff.1 h
    rw [← h2, List.set_getElem_self]
  rwa [e] at key
theorem back_newR {bx : List (List AV)} (r1 r2 : List AV) (h1 : renL (backS [] bx.length) r1 = r1) (h2 : renL (backS [] bx.length) r2 = r2) : Back bx [] [r1, r2] (bx ++ [r1, r2]) := by
  refine ⟨by simp, fun i row _ h => ?_, fun k i row h => by simp at h, fun k row h => ?_⟩
  · rw [List.getElem?_append_left (List.getElem?_eq_some_iff.1 h).1]; exact h
  · rw [List.getElem?_append_right (by omega), show bx.length + k - bx.length = k by omega]
    simp only [List.length_nil, Nat.zero_add] at h
    match k, h with
    | 0, h => injection h with h; subst h; rw [h1]; rfl
    | 1, h => injection h with h; subst h; rw [h2]; rfl
    | k + 2, h => simp at h
section
set_option maxRecDepth 10000
set_option maxHeartbeats 1000000
theorem PcloneN (ns : List Nod) (h1 : ns.length ≤ 1000) (h0 : 0 < ns.length) : ACall Try.prog 75 [.sl 8 (ns.map nodA) none] [] (fun r b t => t = [] ∧ ∃ cap, ns.length ≤ cap ∧ r = .bs 1 0 8 ns.length cap ∧ b = [[], NB ns cap]) := by
  have hml : (ns.map nodA).length = ns.length := by simp
  refine enter Try.func75 rfl rfl rfl rfl rfl 2 rfl ?_
  refine w_ (a_ (h:=e_ (q_ (w_ (m_ (h:=?_))))))
  refine al_p rfl (st_eqNil rfl rfl ?_)
  intro b hb
  refine e_ (?_)
  refine aw_cond rfl (fun hb1 => ?_) (fun hb1 => ?_)
  · have hc1 := bp hb1
    exfalso
    have := hb hb1
    rw [this] at hml
    simp at hml
    omega
  · have hc1 := bp hb1
    refine kt_ (w_ (?_))
    refine al_p rfl (st_slit0B (k := 0) (by repeat constructor) ?_)
    refine m_ (h:=?_)
    refine al_p rfl (st_appendB rfl rfl rfl (Nat.le_of_ble_eq_true rfl) (SrcA.sl _ _) (by omega) (by omega) (fun h => absurd h (by omega)) ?_)
    rintro hg cap k bx2 hcp hs
    rw [clone_row] at hs
    obtain ⟨rfl, rfl⟩ : k = 1 ∧ bx2 = [_, NB ns cap] := hs.eq
    refine a_ (h:=e_ (aw_ret (?_)))
    refine abody_ret (r := .bs 1 0 8 ns.length cap) none (by repeat (first | exact ResA.nil | (apply ResA.tmp; (focus exact rfl)) | (apply ResA.cellN; (focus exact inferInstance); (focus exact rfl); (focus exact rfl); (focus exact rfl)) | (apply ResA.cell1; (focus exact inferInstance); (focus exact rfl); (focus exact rfl); (focus exact rfl)))) rfl rfl (by simp [bpLtB, bpLtL, bp_NB]) (LeA.of_eq (by rw [show reT none (tupA [AV.bs 1 0 8 (0 + (ns.map nodA).length) cap]) = AV.bs 1 0 8 (0 + (ns.map nodA).length) cap from rfl, hml, Nat.zero_add])) ⟨rfl, cap, by omega, rfl, rfl⟩

theorem PcloneE (es : List Ent) (h1 : es.length ≤ 1000) : AFn Try.prog 76 [.sl 2 (es.map entA) none] (fun x => x = .sl 2 (es.map entA) none) := by
  refine enter Try.func76 rfl rfl rfl rfl rfl 0 rfl ?_
  refine w_ (a_ (h:=e_ (q_ (w_ (m_ (h:=?_))))))
  refine al_p rfl (st_eqNil rfl rfl ?_)
  intro b hb
  refine e_ (?_)
  refine aw_cond rfl (fun hb1 => ?_) (fun hb1 => ?_)
  · have hc1 := bp hb1
    refine w_ (a_ (h:=e_ (aw_ret (x_thenR (?_)))))
    refine abody_ret (xs := [.v (.slice none 0 0)]) (r := .sl 2 [] none) none (by repeat (first | exact ResA.nil | (apply ResA.tmp; (focus exact rfl)) | (apply ResA.cellN; (focus exact inferInstance); (focus exact rfl); (focus exact rfl); (focus exact rfl)) | (apply ResA.cell1; (focus exact inferInstance); (focus exact rfl); (focus exact rfl); (focus exact rfl)))) rfl rfl rfl (LeA.nil _) ⟨rfl, rfl, ?_⟩
    rw [hb hc1]
  · have hc1 := bp hb1
    refine kt_ (w_ (?_))
    refine al_p rfl (s_slit0 (by repeat constructor) ?_)
    refine m_ (h:=ap_ (h:=a_ (h:=e_ (aw_ret (?_)))))
    refine e_ret ?_
    rfl

theorem PcloneMT (ms : List Mnt) (h1 : ms.length ≤ 1000) : AFnT Try.prog 74 [.sl 3 (ms.map mntA) none] (fun g => .sl 3 (ms.map mntA) g) (60, 3, ms.map mntA) := by
  refine enter Try.func74 rfl rfl rfl rfl rfl 0 rfl ?_
  refine w_ (a_ (h:=e_ (q_ (w_ (m_ (h:=?_))))))
  refine al_p rfl (st_eqNil rfl rfl ?_)
  intro b hb
  refine e_ (?_)
  refine aw_cond rfl (fun hb1 => ?_) (fun hb1 => ?_)
  · have hc1 := bp hb1
    refine aw_midI (fun t => t = ⟨look [(2, .v (.slice none 0 0))], ⟨[], []⟩⟩) ?_ ?_
    · skip
      refine aw_region (a_ (h:=al_nil (?_)))
      refine x_then ?_
      exact ⟨_, rfl, (wk 0 0)⟩
    · rintro t rfl
      refine aw_nilTok 2 60 3 rfl (by repeat constructor) ?_
      rw [hb hb1]
      refine aw_ret (x_thenR (?_))
      refine rt_ (some 0) (h5 := (LeA.refl _)) (h6 := ⟨rfl, rfl, rfl⟩)
  · have hc1 := bp hb1
    refine kt_ (w_ (?_))
    refine al_p rfl (s_slit0 (by repeat constructor) ?_)
    refine m_ (h:=ap_ (h:=a_ (h:=e_ (aw_ret (?_)))))
    refine rt_ (some 0) (h5 := (LeA.refl _)) (h6 := ⟨rfl, rfl, rfl⟩)

theorem PcloneMB (ms : List Mnt) (h1 : ms.length ≤ 1000) (h0 : 0 < ms.length) : ACall Try.prog 74 [.sl 3 (ms.map mntA) none] [] (fun r b t => t = [] ∧ ∃ cap, ms.length ≤ cap ∧ r = .bs 1 0 3 ms.length cap ∧ b = [[], rowsB 3 cap (ms.map mntA)]) := by
  have hml : (ms.map mntA).length = ms.length := by simp
  refine enter Try.func74 rfl rfl rfl rfl rfl 2 rfl ?_
  refine w_ (a_ (h:=e_ (q_ (w_ (m_ (h:=?_))))))
  refine al_p rfl (st_eqNil rfl rfl ?_)
  intro b hb
  refine e_ (?_)
  refine aw_cond rfl (fun hb1 => ?_) (fun hb1 => ?_)
  · have hc1 := bp hb1
    exfalso
    have := hb hb1
    rw [this] at hml
    simp at hml
    omega
  · have hc1 := bp hb1
    refine kt_ (w_ (?_))
    refine al_p rfl (st_slit0B (k := 0) (by repeat constructor) ?_)
    refine m_ (h:=?_)
    refine al_p rfl (st_appendB rfl rfl rfl (Nat.le_of_ble_eq_true rfl) (SrcA.sl _ _) (by omega) (by omega) (fun h => absurd h (by omega)) ?_)
    rintro hg cap k bx2 hcp hs
    rw [clone_row] at hs
    obtain ⟨rfl, rfl⟩ : k = 1 ∧ bx2 = [_, rowsB 3 cap (ms.map mntA)] := hs.eq
    refine a_ (h:=e_ (aw_ret (?_)))
    refine abody_ret (r := .bs 1 0 3 ms.length cap) none (by repeat (first | exact ResA.nil | (apply ResA.tmp; (focus exact rfl)) | (apply ResA.cellN; (focus exact inferInstance); (focus exact rfl); (focus exact rfl); (focus exact rfl)) | (apply ResA.cell1; (focus exact inferInstance); (focus exact rfl); (focus exact rfl); (focus exact rfl)))) rfl rfl (by simp [bpLtB, bpLtL, bp_plain (mnt_plain ms)]) (LeA.of_eq (by rw [show reT none (tupA [AV.bs 1 0 3 (0 + (ms.map mntA).length) cap]) = AV.bs 1 0 3 (0 + (ms.map mntA).length) cap from rfl, hml, Nat.zero_add])) ⟨rfl, cap, by omega, rfl, rfl⟩

theorem PspcT (s : Spc) (hs : SpcB s) (hne : ∀ d ∈ s.files, 0 < d.nodes.length) : AFnT Try.prog 46 [.agg (spcA s)] (fun g => .agg [.sl 2 (s.files.map dvcA) none, .sl 3 (s.mounts.map mntA) g]) (60, 3, s.mounts.map mntA) := by
  have hm := hs.few
  have hfew := hs.files.few
  refine enter Try.func46 rfl rfl rfl rfl rfl 0 rfl ?_
  refine w_ (b_ (h:=al_ (h:=e_ (w_ (f_ (h:=l_ (h:=?_)))))))
  refine al_p rfl (s_callT rfl (by repeat (first | exact Args.nil | refine Args.cons _ _ _ _ _ rfl (argOk_clean rfl) ?_ | refine Args.cons _ _ _ _ _ rfl (argOk_nil _) ?_ | refine Args.cons _ _ _ _ _ rfl (argOk_era _) ?_ | refine Args.cons _ _ _ _ _ rfl (argOk_le rfl (by repeat (first | exact LeA.refl _ | exact LeA.nil _ | exact LeL.refl _ | refine LeA.agg ?_ | refine LeA.tup ?_ | exact LeL.nil | refine LeL.cons ?_ ?_ | exact LeA.any _))) ?_)) (PcloneMT s.mounts hm) (fun _ => rfl) (by repeat constructor) ?_)
  refine bd_ (h:=al_ (h:=s_ (h:=e_ (q_ (w_ (f_ (h:=f_ (h:=l_ (h:=n_ (h:=m_ (h:=e_ (aw_block (?_)))))))))))))
  refine aw_nilTokB 2 0 68 2 rfl rfl (by repeat constructor) (by repeat constructor) (by repeat constructor) ?_
  refine aw_loopW (fun m t => ∃ j : Nat, j ≤ s.files.length ∧ m = s.files.length - j ∧ t = ⟨look [(2, .bp 1 0), (3, .bp 2 0), (14, .sl 2 (s.files.map dvcA) none), (15, .v (.int .i64 ((s.files.map dvcA).length : Int))), (16, .v (.int .i64 (j : Int)))], ⟨[spcA s, [.v (.slice none 0 0), .v (.slice none 0 0)], [.sl 2 ((s.files.take j).map dvcA) (some 1), .sl 3 (s.mounts.map mntA) (some 0)]], [(60, 3, s.mounts.map mntA), (68, 2, (s.files.take j).map dvcA)]⟩⟩) (s.files.length) ((wk 3 2)) (⟨0, Nat.zero_le _, rfl, rfl⟩) ?_
  rintro m t ⟨j, hj, rfl, rfl⟩
  refine w_ (lt_ (h:=e_ (q_ (?_))))
  refine aw_cond rfl (fun hb1 => ?_) (fun hb1 => ?_)
  · have hc1 := bp hb1
    obtain ⟨hlt, d, hd, hrow, e⟩ := row_at dvcA hc1
    have hdn := hs.files.nodes d (List.mem_of_getElem? hd)
    have hdp := hne d (List.mem_of_getElem? hd)
    refine kt_ (q_ (aw_block (w_ (i_ (h:=l_ (h:=al_ (h:=s_ (h:=e_ (w_ (f_ (h:=l_ (h:=?_))))))))))))
    refine al_p rfl (s_callM [] rfl (.cons _ _ _ _ _ rfl (LeA.refl _) .nil) (by decide) .nil (PcloneN d.nodes hdn hdp) ?_)
    rintro r bc tc ⟨rfl, cap, hcap, rfl, rfl⟩
    refine ⟨rfl, _, (back_newR [] (NB d.nodes cap) (by simp [renL]) (ren_NB _ _ _) : Back _ [] _ [_, _, _, _, _, _]), ?_⟩
    refine a_ (h:=e_ (?_))
    refine aw_midI (fun t => t = ⟨look [(2, .bp 1 0), (3, .bp 2 0), (14, .sl 2 (s.files.map dvcA) none), (15, .v (.int .i64 ((s.files.map dvcA).length : Int))), (16, .v (.int .i64 (j : Int))), (5, .bp 3 0), (6, .sl 8 (d.nodes.map nodA) none)], ⟨[spcA s, [.v (.slice none 0 0), .v (.slice none 0 0)], [.sl 2 ((s.files.take j).map dvcA) (some 1), .sl 3 (s.mounts.map mntA) (some 0)], dvcA d], [(60, 3, s.mounts.map mntA), (68, 2, (s.files.take j).map dvcA)]⟩⟩) ?_ ?_
    · skip
      refine w_ (m_ (h:=?_))
      refine al_p rfl (st_lenB rfl ?_)
      refine m_ (h:=e_ (aw_block (?_)))
      refine aw_loopW (fun m t => ∃ i : Nat, i ≤ d.nodes.length ∧ m = d.nodes.length - i ∧ t = ⟨look [(2, .bp 1 0), (3, .bp 2 0), (14, .sl 2 (s.files.map dvcA) none), (15, .v (.int .i64 ((s.files.map dvcA).length : Int))), (16, .v (.int .i64 (j : Int))), (5, .bp 3 0), (6, .bs 5 0 8 d.nodes.length cap), (24, .v (.int .i64 (d.nodes.length : Int))), (25, .v (.int .i64 (i : Int)))], ⟨[spcA s, [.v (.slice none 0 0), .v (.slice none 0 0)], [.sl 2 ((s.files.take j).map dvcA) (some 1), .sl 3 (s.mounts.map mntA) (some 0)], dvcA d, [], NB d.nodes cap], [(60, 3, s.mounts.map mntA), (68, 2, (s.files.take j).map dvcA)]⟩⟩) (d.nodes.length) (weak_of 6 2 rfl rfl rfl (by simp [bpLtB, bpLtL, bpLt, bp_NB, bp_plain (mnt_plain s.mounts), spcA, dvcA]) (by repeat (first | exact Sub.nil | refine Sub.cons _ _ _ rfl rfl ?_ | refine Sub.any _ _ ?_ | refine Sub.sl _ _ _ _ _ rfl ?_ | refine Sub.slnil _ _ _ rfl ?_))) (⟨0, Nat.zero_le _, rfl, rfl⟩) ?_
      rintro m t ⟨i, hi, rfl, rfl⟩
      refine w_ (lt_ (h:=e_ (q_ (?_))))
      refine aw_cond rfl (fun hb2 => ?_) (fun hb2 => ?_)
      · have hc2 := bp hb2
        have hil : i < d.nodes.length := by omega
        obtain ⟨n, hy⟩ : ∃ n, d.nodes[i]? = some n := ⟨_, List.getElem?_eq_getElem hil⟩
        have hen := hs.files.ents d (List.mem_of_getElem? hd) n (List.mem_of_getElem? hy)
        refine kt_ (q_ (aw_block (w_ (m_ (h:=a_ (h:=e_ (aw_region (m_ (h:=m_ (h:=m_ (h:=m_ (h:=?_))))))))))))
        refine al_p rfl (st_indexS (m := i) rfl rfl rfl hil ?_)
        refine f_ (h:=?_)
        refine al_p rfl (st_loadB1 rfl rfl (NB_get hy rfl) ?_)
        refine al_p rfl (q_call (PcloneE n.entries hen) ?_)
        rintro r rfl
        refine al_p rfl (st_indexS (m := i) rfl rfl rfl hil ?_)
        refine f_ (h:=?_)
        refine al_p0 (s_store rfl rfl rfl rfl rfl rfl (NB_same hy) (by repeat constructor) ?_)
        refine al_nil (x_blockN (t_ (aw_region (ad_ (h:=m_ (h:=al_nil (?_)))))))
        refine x_then ?_
        refine ⟨_, _, ?_, ⟨i + 1, by omega, rfl, rfl⟩, weak_of 6 2 rfl rfl rfl (by simp [bpLtB, bpLtL, bpLt, bp_NB, bp_plain (mnt_plain s.mounts), spcA, dvcA]) ((by repeat (first | exact Sub.nil | refine Sub.cons _ _ _ rfl rfl ?_ | refine Sub.any _ _ ?_ | refine Sub.sl _ _ _ _ _ rfl ?_ | refine Sub.slnil _ _ _ rfl ?_)))⟩
        omega
      · have hc2 := bp hb2
        refine aw_exit (x_thenE (x_thenE (ABlock_out (?_))))
        refine x_then ?_
        exact ⟨_, rfl, weak_fz 4 1 rfl rfl (.cons _ _ _ _ rfl (LeA.refl _) (.cons _ _ _ _ rfl (LeA.refl _) (.cons _ _ _ _ rfl (LeA.refl _) (.cons _ _ _ _ rfl (LeA.refl _) (.cons _ _ _ _ rfl (LeA.refl _) (.cons _ _ _ _ rfl (LeA.refl _) (.cons _ _ _ _ rfl (LeA.of_eq (liv_rows (rows := d.nodes.map nodA) (Nat.le_of_ble_eq_true rfl) (frz_NB (n := 4) (k := 0) (j := 5) (Nat.le_of_ble_eq_true rfl) rfl) (nods_eight _) (by simp) (by simpa using hcap))) .nil)))))))⟩
    · rintro t rfl
      refine aw_region (f_ (h:=f_ (h:=l_ (h:=f_ (h:=l_ (h:=m_ (h:=bd_ (h:=bs_ (h:=?_)))))))))
      first | refine al_p rfl (s_append rfl rfl rfl (by simp; omega) (by repeat constructor) ?_) | refine al_p rfl (s_append0 rfl rfl (by simp; omega) (by repeat constructor) ?_)
      refine f_ (h:=f_ (h:=s_ (h:=al_nil (x_blockN (t_ (aw_region (ad_ (h:=m_ (h:=al_nil (?_))))))))))
      refine x_then ?_
      refine ⟨_, _, ?_, ⟨j + 1, by omega, rfl, rfl⟩, (by rw [e]; exact weak_of 3 2 rfl rfl rfl rfl ((by repeat (first | exact Sub.nil | refine Sub.cons _ _ _ rfl rfl ?_ | refine Sub.any _ _ ?_ | refine Sub.sl _ _ _ _ _ rfl ?_ | refine Sub.slnil _ _ _ rfl ?_))))⟩
      omega
  · have hc1 := bp hb1
    have e := row_no dvcA hj hc1
    subst e
    rw [List.take_length]
    refine aw_exit (x_thenE (x_thenE (ABlock_out (t_ (w_ (l_ (h:=s_ (h:=e_ (aw_ret (?_))))))))))
    refine rt_ (some 0) (h5 := (LeA.refl _)) (h6 := ⟨rfl, rfl, rfl⟩)

theorem PspcB (s : Spc) (hs : SpcB s) (hne : ∀ d ∈ s.files, 0 < d.nodes.length) (hm0 : 0 < s.mounts.length) : ACall Try.prog 46 [.agg (spcA s)] [] (fun r b t => t = [] ∧ ∃ cap, s.mounts.length ≤ cap ∧ r = .agg [.sl 2 (s.files.map dvcA) none, .bs 3 0 3 s.mounts.length cap] ∧ b = [spcA s, [.sl 2 (s.files.map dvcA) none, .bs 3 0 3 s.mounts.length cap], [], rowsB 3 cap (s.mounts.map mntA)]) := by
  have hm := hs.few
  have hfew := hs.files.few
  refine enter Try.func46 rfl rfl rfl rfl rfl 4 rfl ?_
  refine w_ (b_ (h:=al_ (h:=e_ (w_ (f_ (h:=l_ (h:=?_)))))))
  refine al_p rfl (s_callM [] rfl (.cons _ _ _ _ _ rfl (LeA.refl _) .nil) (by decide) .nil (PcloneMB s.mounts hm hm0) ?_)
  rintro r bc tc ⟨rfl, cap0, hcap0, rfl, rfl⟩
  refine ⟨rfl, _, (back_newR [] (rowsB 3 cap0 (s.mounts.map mntA)) (by simp [renL]) (ren_rows (mnt_plain s.mounts)) : Back _ [] _ [_, _, _, _]), ?_⟩
  refine bd_ (h:=al_ (h:=s_ (h:=e_ (q_ (w_ (f_ (h:=f_ (h:=l_ (h:=n_ (h:=m_ (h:=e_ (aw_block (?_)))))))))))))
  refine aw_nilTokB 4 0 68 2 rfl rfl (by repeat constructor) (by repeat constructor) (by repeat constructor) ?_
  refine aw_loopW (fun m t => ∃ j : Nat, j ≤ s.files.length ∧ m = s.files.length - j ∧ t = ⟨look [(2, .bp 1 0), (3, .bp 4 0), (14, .sl 2 (s.files.map dvcA) none), (15, .v (.int .i64 ((s.files.map dvcA).length : Int))), (16, .v (.int .i64 (j : Int)))], ⟨[spcA s, [.v (.slice none 0 0), .v (.slice none 0 0)], [], rowsB 3 cap0 (s.mounts.map mntA), [.sl 2 ((s.files.take j).map dvcA) (some 0), .bs 3 0 3 s.mounts.length cap0]], [(68, 2, (s.files.take j).map dvcA)]⟩⟩) (s.files.length) (weak_of 5 1 rfl rfl rfl (by simp [bpLtB, bpLtL, bpLt, bp_NB, bp_plain (mnt_plain s.mounts), spcA, dvcA, ren, backS]) (by repeat (first | exact Sub.nil | refine Sub.cons _ _ _ rfl rfl ?_ | refine Sub.any _ _ ?_ | refine Sub.sl _ _ _ _ _ rfl ?_ | refine Sub.slnil _ _ _ rfl ?_))) (⟨0, Nat.zero_le _, rfl, rfl⟩) ?_
  rintro m t ⟨j, hj, rfl, rfl⟩
  refine w_ (lt_ (h:=e_ (q_ (?_))))
  refine aw_cond rfl (fun hb1 => ?_) (fun hb1 => ?_)
  · have hc1 := bp hb1
    obtain ⟨hlt, d, hd, hrow, e⟩ := row_at dvcA hc1
    have hdn := hs.files.nodes d (List.mem_of_getElem? hd)
    have hdp := hne d (List.mem_of_getElem? hd)
    refine kt_ (q_ (aw_block (w_ (i_ (h:=l_ (h:=al_ (h:=s_ (h:=e_ (w_ (f_ (h:=l_ (h:=?_))))))))))))
    refine al_p rfl (s_callM [] rfl (.cons _ _ _ _ _ rfl (LeA.refl _) .nil) (by decide) .nil (PcloneN d.nodes hdn hdp) ?_)
    rintro r bc tc ⟨rfl, cap, hcap, rfl, rfl⟩
    refine ⟨rfl, _, (back_newR [] (NB d.nodes cap) (by simp [renL]) (ren_NB _ _ _) : Back _ [] _ [_, _, _, _, _, _, _, _]), ?_⟩
    refine a_ (h:=e_ (?_))
    refine aw_midI (fun t => t = ⟨look [(2, .bp 1 0), (3, .bp 4 0), (14, .sl 2 (s.files.map dvcA) none), (15, .v (.int .i64 ((s.files.map dvcA).length : Int))), (16, .v (.int .i64 (j : Int))), (5, .bp 5 0), (6, .sl 8 (d.nodes.map nodA) none)], ⟨[spcA s, [.v (.slice none 0 0), .v (.slice none 0 0)], [], rowsB 3 cap0 (s.mounts.map mntA), [.sl 2 ((s.files.take j).map dvcA) (some 0), .bs 3 0 3 s.mounts.length cap0], dvcA d], [(68, 2, (s.files.take j).map dvcA)]⟩⟩) ?_ ?_
    · skip
      refine w_ (m_ (h:=?_))
      refine al_p rfl (st_lenB rfl ?_)
      refine m_ (h:=e_ (aw_block (?_)))
      refine aw_loopW (fun m t => ∃ i : Nat, i ≤ d.nodes.length ∧ m = d.nodes.length - i ∧ t = ⟨look [(2, .bp 1 0), (3, .bp 4 0), (14, .sl 2 (s.files.map dvcA) none), (15, .v (.int .i64 ((s.files.map dvcA).length : Int))), (16, .v (.int .i64 (j : Int))), (5, .bp 5 0), (6, .bs 7 0 8 d.nodes.length cap), (24, .v (.int .i64 (d.nodes.length : Int))), (25, .v (.int .i64 (i : Int)))], ⟨[spcA s, [.v (.slice none 0 0), .v (.slice none 0 0)], [], rowsB 3 cap0 (s.mounts.map mntA), [.sl 2 ((s.files.take j).map dvcA) (some 0), .bs 3 0 3 s.mounts.length cap0], dvcA d, [], NB d.nodes cap], [(68, 2, (s.files.take j).map dvcA)]⟩⟩) (d.nodes.length) (weak_of 8 1 rfl rfl rfl (by simp [bpLtB, bpLtL, bpLt, bp_NB, bp_plain (mnt_plain s.mounts), spcA, dvcA, ren, backS]) (by repeat (first | exact Sub.nil | refine Sub.cons _ _ _ rfl rfl ?_ | refine Sub.any _ _ ?_ | refine Sub.sl _ _ _ _ _ rfl ?_ | refine Sub.slnil _ _ _ rfl ?_))) (⟨0, Nat.zero_le _, rfl, rfl⟩) ?_
      rintro m t ⟨i, hi, rfl, rfl⟩
      refine w_ (lt_ (h:=e_ (q_ (?_))))
      refine aw_cond rfl (fun hb2 => ?_) (fun hb2 => ?_)
      · have hc2 := bp hb2
        have hil : i < d.nodes.length := by omega
        obtain ⟨n, hy⟩ : ∃ n, d.nodes[i]? = some n := ⟨_, List.getElem?_eq_getElem hil⟩
        have hen := hs.files.ents d (List.mem_of_getElem? hd) n (List.mem_of_getElem? hy)
        refine kt_ (q_ (aw_block (w_ (m_ (h:=a_ (h:=e_ (aw_region (m_ (h:=m_ (h:=m_ (h:=m_ (h:=?_))))))))))))
        refine al_p rfl (st_indexS (m := i) rfl rfl rfl hil ?_)
        refine f_ (h:=?_)
        refine al_p rfl (st_loadB1 rfl rfl (NB_get hy rfl) ?_)
        refine al_p rfl (q_call (PcloneE n.entries hen) ?_)
        rintro r rfl
        refine al_p rfl (st_indexS (m := i) rfl rfl rfl hil ?_)
        refine f_ (h:=?_)
        refine al_p0 (s_store rfl rfl rfl rfl rfl rfl (NB_same hy) (by repeat constructor) ?_)
        refine al_nil (x_blockN (t_ (aw_region (ad_ (h:=m_ (h:=al_nil (?_)))))))
        refine x_then ?_
        refine ⟨_, _, ?_, ⟨i + 1, by omega, rfl, rfl⟩, weak_of 8 1 rfl rfl rfl (by simp [bpLtB, bpLtL, bpLt, bp_NB, bp_plain (mnt_plain s.mounts), spcA, dvcA, ren, backS]) ((by repeat (first | exact Sub.nil | refine Sub.cons _ _ _ rfl rfl ?_ | refine Sub.any _ _ ?_ | refine Sub.sl _ _ _ _ _ rfl ?_ | refine Sub.slnil _ _ _ rfl ?_)))⟩
        omega
      · have hc2 := bp hb2
        refine aw_exit (x_thenE (x_thenE (ABlock_out (?_))))
        refine x_then ?_
        exact ⟨_, rfl, weak_fz 6 1 rfl (congrArg (fun x => [spcA s, [.v (.slice none 0 0), .v (.slice none 0 0)], [], x, [.sl 2 ((s.files.take j).map dvcA) (some 0), .bs 3 0 3 s.mounts.length cap0], dvcA d]) (liv_plain (mnt_plain s.mounts))) (.cons _ _ _ _ rfl (LeA.refl _) (.cons _ _ _ _ rfl (LeA.refl _) (.cons _ _ _ _ rfl (LeA.refl _) (.cons _ _ _ _ rfl (LeA.refl _) (.cons _ _ _ _ rfl (LeA.refl _) (.cons _ _ _ _ rfl (LeA.refl _) (.cons _ _ _ _ rfl (LeA.of_eq (liv_rows (rows := d.nodes.map nodA) (Nat.le_of_ble_eq_true rfl) (frz_NB (n := 6) (k := 0) (j := 7) (Nat.le_of_ble_eq_true rfl) rfl) (nods_eight _) (by simp) (by simpa using hcap))) .nil)))))))⟩
    · rintro t rfl
      refine aw_region (f_ (h:=f_ (h:=l_ (h:=f_ (h:=l_ (h:=m_ (h:=bd_ (h:=bs_ (h:=?_)))))))))
      first | refine al_p rfl (s_append rfl rfl rfl (by simp; omega) (by repeat constructor) ?_) | refine al_p rfl (s_append0 rfl rfl (by simp; omega) (by repeat constructor) ?_)
      refine f_ (h:=f_ (h:=s_ (h:=al_nil (x_blockN (t_ (aw_region (ad_ (h:=m_ (h:=al_nil (?_))))))))))
      refine x_then ?_
      refine ⟨_, _, ?_, ⟨j + 1, by omega, rfl, rfl⟩, (by rw [e]; exact weak_of 5 1 rfl rfl rfl (by simp [bpLtB, bpLtL, bpLt, bp_NB, bp_plain (mnt_plain s.mounts), spcA, dvcA, ren, backS]) ((by repeat (first | exact Sub.nil | refine Sub.cons _ _ _ rfl rfl ?_ | refine Sub.any _ _ ?_ | refine Sub.sl _ _ _ _ _ rfl ?_ | refine Sub.slnil _ _ _ rfl ?_))))⟩
      omega
  · have hc1 := bp hb1
    have e := row_no dvcA hj hc1
    subst e
    rw [List.take_length]
    refine aw_exit (x_thenE (x_thenE (ABlock_out (t_ (w_ (?_))))))
    refine al_p rfl (st_le (y := .agg [.sl 2 (s.files.map dvcA) none, .bs 3 0 3 s.mounts.length cap0]) (st_loadBW rfl rfl rfl ⟨rfl, rfl⟩) (LeA.agg (.cons (LeA.tok _ _ _) (.cons (LeA.refl _) .nil))) ?_)
    refine s_ (h:=e_ (aw_ret (?_)))
    refine abody_ret (r := .agg [.sl 2 (s.files.map dvcA) none, .bs 3 0 3 s.mounts.length cap0]) none (by repeat (first | exact ResA.nil | (apply ResA.tmp; (focus exact rfl)) | (apply ResA.cellN; (focus exact inferInstance); (focus exact rfl); (focus exact rfl); (focus exact rfl)) | (apply ResA.cell1; (focus exact inferInstance); (focus exact rfl); (focus exact rfl); (focus exact rfl)))) rfl rfl (by simp [bpLtB, bpLtL, bpLt, bp_plain (mnt_plain s.mounts), spcA]) (LeA.refl _) ⟨rfl, cap0, hcap0, rfl, rfl⟩

end
end Go.Proofs.Ytgliiknfmlmddaa
namespace Go.Proofs.Ytgliiknfmlmddaa
open Go.RowKit

theorem back_one {bx : List (List AV)} {i0 : Nat} (h0 : i0 < bx.length) {r : List AV} (hr : renL (backS [i0] bx.length) r = r) : Back bx [i0] [r] (bx.set i0 r) := by
  refine ⟨by simp, fun i row hi h => ?_, fun k i row h hk => ?_, fun k row h => by simp at h⟩
  · simp only [List.mem_cons, List.not_mem_nil, or_false] at hi
    rw [List.getElem?_set_ne (Ne.symm hi)]; exact h
  · match k, h, hk with
    | 0, h, hk => simp at h hk; subst h; subst hk; rw [List.getElem?_set_self h0, hr]
    | k + 1, h, _ => simp at h
theorem back_newQ {bx : List (List AV)} (n : Nat) (hn : bx.length = n) (r0 r1 r2 r3 : List AV) {r1' : List AV} (h0 : renL (backS [] bx.length) r0 = r0) (h1 : renL (backS [] bx.length) r1 = r1') (h2 : renL (backS [] bx.length) r2 = r2) (h3 : renL (backS [] bx.length) r3 = r3) : Back bx [] [r0, r1, r2, r3] (bx ++ [r0, r1', r2, r3]) := by
  have _ := hn
  refine ⟨by simp, fun i row _ h => ?_, fun k i row h => by simp at h, fun k row h => ?_⟩
  · rw [List.getElem?_append_left (List.getElem?_eq_some_iff.1 h).1]; exact h
  · rw [List.getElem?_append_right (by omega), show bx.length + k - bx.length = k by omega]
    simp only [List.length_nil, Nat.zero_add] at h
    match k, h with
    | 0, h => injection h with h; subst h; rw [h0]; rfl
    | 1, h => injection h with h; subst h; rw [h1]; rfl
    | 2, h => injection h with h; subst h; rw [h2]; rfl
    | 3, h => injection h with h; subst h; rw [h3]; rfl
    | k + 4, h => simp at h
theorem renK_rows {g : Nat → Option Nat} {sz cap : Nat} {rows : List (List AV)} (h : ∀ r ∈ rows, ∀ x ∈ r, ∃ v, x = .v v) : renKL g (rowsB sz cap rows) = rowsB sz cap rows := by
  rw [renKL_map]
  exact map_plain rfl (fun _ => rfl) h
def keepM (dev : Int) (ms : List Mnt) : List Mnt := ms.filter fun m => decide (m.1 ≠ dev)
theorem keepM_at {ms : List Mnt} {j : Nat} {x : Mnt} (h : ms[j]? = some x) (dev : Int) : keepM dev (ms.take (j + 1)) = keepM dev (ms.take j) ++ (if x.1 = dev then [] else [x]) := by
  unfold keepM
  rw [List.take_add_one, h, List.filter_append]
  by_cases e : x.1 = dev <;> simp [e]
theorem keepM_all {ms : List Mnt} {dev : Int} (h : ∀ m ∈ ms, m.1 ≠ dev) : keepM dev ms = ms := by
  unfold keepM
  rw [List.filter_eq_self]
  intro m hm
  simpa using h m hm
theorem take_set {α : Type} {l : List α} {i : Nat} {x : α} (h : i < l.length) : (l.set i x).take (i + 1) = l.take i ++ [x] := by
  rw [List.take_succ_eq_append_getElem (by simpa using h), List.getElem_set_self]
  congr 1
  apply List.ext_getElem?
  intro k
  rw [List.getElem?_take, List.getElem?_take]
  split
  · rw [List.getElem?_set_ne (by omega)]
  · rfl
theorem drop_set {α : Type} {l : List α} {i j : Nat} {x : α} (h : i < j) : (l.set i x).drop j = l.drop j := by
  apply List.ext_getElem?
  intro k
  rw [List.getElem?_drop, List.getElem?_drop, List.getElem?_set_ne (by omega)]
theorem drop_get {α : Type} {l l' : List α} {j : Nat} (h : l.drop j = l'.drop j) : l[j]? = l'[j]? ∧ l.drop (j + 1) = l'.drop (j + 1) := by
  have h1 := congrArg (fun x => x[0]?) h
  simp only [List.getElem?_drop, Nat.add_zero] at h1
  refine ⟨h1, ?_⟩
  rw [← List.drop_drop, ← List.drop_drop, h]
theorem mnt_set {rows : List Mnt} {cap i : Nat} {y x : Mnt} (h : rows[i]? = some y) : SetAt (rowsB 3 cap (rows.map mntA)) (0 + i * 3) (mntA x) (rowsB 3 cap ((rows.set i x).map mntA)) := by
  have key := rowsB_set (cap := cap) (q := i) (k := 0) (r := mntA y) (r' := mntA x) (cs := mntA x) (mnt_three rows) (by rw [List.getElem?_map, h]; rfl) (by repeat constructor) (by simp [mntA])
  rw [← List.map_set] at key
  exact key
theorem bp1 (l : List Mnt) (cap : Nat) : bpLtB 1 0 [rowsB 3 cap (l.map mntA)] = true := by
  show (bpLtL 1 0 (rowsB 3 cap (l.map mntA)) && true) = true
  rw [bp_plain (mnt_plain _)]
  rfl
theorem mnt_cut {rows : List Mnt} {cap i : Nat} (hi : i ≤ rows.length) (hc : rows.length ≤ cap) : (rowsB 3 cap (rows.map mntA)).take (0 + i * 3) ++ List.replicate ((rowsB 3 cap (rows.map mntA)).length - (0 + i * 3)) .any = rowsB 3 cap ((rows.take i).map mntA) := by
  have hl := rowsB_len (mnt_three rows) (sz := 3) (cap := cap) (by simpa using hc)
  rw [hl]
  have h1 : (rowsB 3 cap (rows.map mntA)).take (0 + i * 3) = ((rows.take i).map mntA).flatten := by
    unfold rowsB
    rw [Nat.zero_add, List.take_append_of_le_length (by rw [flat_len (mnt_three rows)]; simp; omega)]
    conv => lhs; rw [← List.take_append_drop i rows, List.map_append, List.flatten_append]
    rw [List.take_left' (by rw [flat_len (mnt_three _)]; simp [hi])]
  rw [h1]
  unfold rowsB
  congr 1
  congr 1
  simp [Nat.sub_mul, hi]
section
set_option maxRecDepth 10000
set_option maxHeartbeats 1000000
theorem Padd (s : Spc) (dev : Int) (a : Fil) (hs : SpcB s) (hne : ∀ d ∈ s.files, 0 < d.nodes.length) : AFn Try.prog 15 [.agg (spcA s), .v (.int .i64 dev), .agg (filA a)] (fun r => r = spcR (addL s dev a)) := by
  have hfew := hs.few
  refine enter Try.func15 rfl rfl rfl rfl rfl 0 rfl ?_
  refine w_ (b_ (h:=b_ (h:=al_ (h:=a_ (h:=e_ (q_ (w_ (l_ (h:=m_ (h:=?_))))))))))
  refine al_p rfl (q_call (PdeviceM s dev hs) ?_)
  rintro r rfl
  refine nt_ (h:=e_ (?_))
  refine aw_cond rfl (fun hb1 => ?_) (fun hb1 => ?_)
  · have hc1 := bp hb1
    refine w_ (bd_ (h:=s_ (h:=a_ (h:=e_ (aw_ret (x_thenR (?_)))))))
    refine rt_ (r := spcR (addL s dev a)) none (h5 := ?_) (h6 := ⟨rfl, rfl, rfl⟩)
    rw [addL, if_pos (by omega)]
    exact sperr_le _
  · have hc1 := bp hb1
    refine kt_ (w_ (f_ (h:=l_ (h:=l_ (h:=?_)))))
    refine al_p rfl (q_call (Pnode s.files a hs.files) ?_)
    rintro r rfl
    refine m_ (h:=x_ (h:=x_ (h:=al_ (h:=s_ (h:=a_ (h:=e_ (q_ (aw_block (w_ (m_ (h:=nt_ (h:=a_ (h:=e_ (?_))))))))))))))
    refine aw_cond rfl (fun hb2 => ?_) (fun hb2 => ?_)
    · have hc2 := bp hb2
      refine w_ (bd_ (h:=s_ (h:=a_ (h:=e_ (aw_ret (x_blockR (x_thenR (?_))))))))
      refine rt_ (r := spcR (addL s dev a)) none (h5 := ?_) (h6 := ⟨rfl, rfl, rfl⟩)
      rw [addL, if_neg (by omega), if_pos hc2]
      exact sperr_le _
    · have hc2 := bp hb2
      refine w_ (f_ (h:=l_ (h:=nq_ (h:=a_ (h:=e_ (?_))))))
      refine aw_cond rfl (fun hb3 => ?_) (fun hb3 => ?_)
      · have hc3 := bp hb3
        refine w_ (bd_ (h:=s_ (h:=a_ (h:=e_ (aw_ret (x_blockR (x_thenR (?_))))))))
        refine rt_ (r := spcR (addL s dev a)) none (h5 := ?_) (h6 := ⟨rfl, rfl, rfl⟩)
        rw [addL, if_neg (by omega), if_neg (by simp [hc2]), if_pos hc3]
        exact sperr_le _
      · have hc3 := bp hb3
        refine w_ (l_ (h:=f_ (h:=l_ (h:=?_))))
        refine al_p rfl (q_call (Pmounted s a.1 hs) ?_)
        rintro r rfl
        refine nt_ (h:=m_ (h:=?_))
        refine al_gs false rfl rfl (fun hb4 => ?_) (fun hb4 => ?_)
        · have hc4 := bp hb4
          refine g0_ (h:=g0_ (h:=g0_ (h:=g0_ (h:=pt_ (h:=a_ (h:=e_ (cy_ (h:=w_ (bd_ (h:=s_ (h:=a_ (h:=e_ (aw_ret (x_blockR (x_thenR (?_))))))))))))))))
          refine rt_ (r := spcR (addL s dev a)) none (h5 := ?_) (h6 := ⟨rfl, rfl, rfl⟩)
          rw [addL, if_neg (by omega), if_neg (by simp [hc2]), if_neg (by simp [hc3]), if_pos (.inl hc4)]
          exact sperr_le _
        · have hc4 := bp hb4
          refine f_ (h:=l_ (h:=m_ (h:=eq_ (h:=pf_ (h:=a_ (h:=e_ (?_)))))))
          refine aw_cond rfl (fun hb5 => ?_) (fun hb5 => ?_)
          · have hc5 := bp hb5
            refine w_ (bd_ (h:=s_ (h:=a_ (h:=e_ (aw_ret (x_blockR (x_thenR (?_))))))))
            refine rt_ (r := spcR (addL s dev a)) none (h5 := ?_) (h6 := ⟨rfl, rfl, rfl⟩)
            rw [addL, if_neg (by omega), if_neg (by simp [hc2]), if_neg (by simp [hc3]), if_pos (.inr hc5)]
            exact sperr_le _
          · have hc5 := bp hb5
            refine w_ (l_ (h:=m_ (h:=?_)))
            refine al_p rfl (q_call (Pmounted s dev hs) ?_)
            rintro r rfl
            refine m_ (h:=?_)
            refine al_gs false rfl rfl (fun hb6 => ?_) (fun hb6 => ?_)
            · have hc6 := bp hb6
              refine g0_ (h:=g0_ (h:=g0_ (h:=pt_ (h:=a_ (h:=e_ (cy_ (h:=w_ (bd_ (h:=s_ (h:=a_ (h:=e_ (aw_ret (x_blockR (x_thenR (?_)))))))))))))))
              refine rt_ (r := spcR (addL s dev a)) none (h5 := ?_) (h6 := ⟨rfl, rfl, rfl⟩)
              rw [addL, if_neg (by omega), if_neg (by simp [hc2]), if_neg (by simp [hc3]), if_neg (by simp [hc4, hc5]), if_pos (.inl hc6)]
              exact sperr_le _
            · have hc6 := bp hb6
              refine l_ (h:=l_ (h:=?_))
              refine g_y (q_call (Pcovered s a hs) ?_)
              rintro r rfl
              refine pf_ (h:=a_ (h:=e_ (?_)))
              refine aw_cond rfl (fun hb7 => ?_) (fun hb7 => ?_)
              · have hc7 := bp hb7
                refine w_ (bd_ (h:=s_ (h:=a_ (h:=e_ (aw_ret (x_blockR (x_thenR (?_))))))))
                refine rt_ (r := spcR (addL s dev a)) none (h5 := ?_) (h6 := ⟨rfl, rfl, rfl⟩)
                rw [addL, if_neg (by omega), if_neg (by simp [hc2]), if_neg (by simp [hc3]), if_neg (by simp [hc4, hc5]), if_pos (.inr hc7)]
                exact sperr_le _
              · have hc7 := bp hb7
                refine aw_skip (x_blockN (t_ (w_ (l_ (h:=?_)))))
                refine al_p rfl (s_callT rfl (by repeat (first | exact Args.nil | refine Args.cons _ _ _ _ _ rfl (argOk_clean rfl) ?_ | refine Args.cons _ _ _ _ _ rfl (argOk_nil _) ?_ | refine Args.cons _ _ _ _ _ rfl (argOk_era _) ?_ | refine Args.cons _ _ _ _ _ rfl (argOk_le rfl (by repeat (first | exact LeA.refl _ | exact LeA.nil _ | exact LeL.refl _ | refine LeA.agg ?_ | refine LeA.tup ?_ | exact LeL.nil | refine LeL.cons ?_ ?_ | exact LeA.any _))) ?_)) (PspcT s hs hne) (fun _ => rfl) (by repeat constructor) ?_)
                refine s_ (h:=e_ (w_ (f_ (h:=l_ (h:=m_ (h:=l_ (h:=bd_ (h:=bs_ (h:=?_)))))))))
                first | refine al_p rfl (s_append rfl rfl rfl (by simp; omega) (by repeat constructor) ?_) | refine al_p rfl (s_append0 rfl rfl (by simp; omega) (by repeat constructor) ?_)
                refine f_ (h:=s_ (h:=e_ (w_ (l_ (h:=s_ (h:=a_ (h:=e_ (aw_ret (?_)))))))))
                refine e_ret ?_
                rw [addL, if_neg (by omega), if_neg (by simp [hc2]), if_neg (by simp [hc3]), if_neg (by simp [hc4, hc5]), if_neg (by simp [hc6, hc7])]
                simp only [spcR, spcA, List.map_append]
                rfl

theorem PremF (x : Mnt) (dev : Int) : AFn Try.prog 68 [.agg (mntA x), .fp [.v (.int .i64 dev)]] (fun r => r = .v (.bool (decide (x.1 = dev)))) := by
  refine enter Try.func68 rfl rfl rfl rfl rfl 0 rfl ?_
  refine w_ (b_ (h:=a_ (h:=e_ (w_ (f_ (h:=l_ (h:=l_ (h:=eq_ (h:=a_ (h:=e_ (aw_ret (?_))))))))))))
  refine e_ret ?_
  rfl

theorem PidxM (ms : List Mnt) (dev : Int) (hm : ms.length ≤ 1000) : AFn Try.prog 89 [.sl 3 (ms.map mntA) none, .fn 68 [.fp [.v (.int .i64 dev)]]] (fun r => r = .v (.int .i64 (idxBy (fun m : Mnt => decide (m.1 = dev)) ms))) := by
  refine enter Try.func89 rfl rfl rfl rfl rfl 0 rfl ?_
  refine w_ (a_ (h:=e_ (q_ (w_ (m_ (h:=n_ (h:=m_ (h:=e_ (aw_block (?_))))))))))
  refine aw_loopW (fun m t => ∃ j : Nat, j ≤ ms.length ∧ m = ms.length - j ∧ (∀ i y, i < j → ms[i]? = some y → decide (y.1 = dev) = false) ∧ t = ⟨look [(0, .sl 3 (ms.map mntA) none), (1, .fn 68 [.fp [.v (.int .i64 dev)]]), (7, .v (.int .i64 ((ms.map mntA).length : Int))), (8, .v (.int .i64 (j : Int)))], ⟨[], []⟩⟩) (ms.length) ((wk 0 0)) (⟨0, by omega, rfl, fun i y hi => by omega, rfl⟩) ?_
  rintro m t ⟨j, hj, rfl, ha, rfl⟩
  refine w_ (lt_ (h:=e_ (q_ (?_))))
  refine aw_cond rfl (fun hb1 => ?_) (fun hb1 => ?_)
  · have hc1 := bp hb1
    obtain ⟨hlt, x, hy, hrow, -⟩ := row_at mntA hc1
    refine kt_ (q_ (aw_block (w_ (m_ (h:=a_ (h:=e_ (w_ (m_ (h:=m_ (h:=m_ (h:=i_ (h:=l_ (h:=?_)))))))))))))
    refine al_p rfl (st_callC (cy := []) (ys := [.agg (mntA x)]) rfl (by repeat (first | exact Args.nil | refine Args.cons _ _ _ _ _ rfl (argOk_clean rfl) ?_ | refine Args.cons _ _ _ _ _ rfl (argOk_nil _) ?_ | refine Args.cons _ _ _ _ _ rfl (argOk_era _) ?_ | refine Args.cons _ _ _ _ _ rfl (argOk_le rfl (by repeat (first | exact LeA.refl _ | exact LeA.nil _ | exact LeL.refl _ | refine LeA.agg ?_ | refine LeA.tup ?_ | exact LeL.nil | refine LeL.cons ?_ ?_ | exact LeA.any _))) ?_)) rfl rfl (PremF x dev) ?_)
    rintro r rfl
    refine e_ (?_)
    refine aw_cond rfl (fun hb2 => ?_) (fun hb2 => ?_)
    · have hc2 := bp hb2
      refine w_ (m_ (h:=a_ (h:=e_ (aw_ret (x_blockR (x_thenR (x_thenR (x_blockR (x_thenR (?_))))))))))
      refine e_ret ?_
      exact vi (idxBy_first hy (decide_eq_true hc2) ha).symm
    · have hc2 := bp hb2
      refine aw_skip (x_blockN (t_ (aw_region (ad_ (h:=m_ (h:=al_nil (?_)))))))
      refine x_then ?_
      refine ⟨_, _, ?_, ⟨j + 1, by omega, rfl, upto_snoc hy ha (decide_eq_false hc2), rfl⟩, (wk 0 0)⟩
      omega
  · have hc1 := bp hb1
    have e3 := row_no mntA hj hc1
    subst e3
    refine aw_exit (x_thenE (x_thenE (ABlock_out (t_ (w_ (a_ (h:=e_ (aw_ret (?_)))))))))
    refine e_ret ?_
    exact vi (idxBy_none ha).symm

theorem PdelM (ms : List Mnt) (dev : Int) (cap : Nat) (hm : ms.length ≤ 1000) (hcap : ms.length ≤ cap) (hex : ∃ m ∈ ms, m.1 = dev) : ACall Try.prog 67 [.bs 0 0 3 ms.length cap, .fn 68 [.fp [.v (.int .i64 dev)]]] [rowsB 3 cap (ms.map mntA)] (fun r b t => t = [] ∧ r = .bs 0 0 3 (keepM dev ms).length cap ∧ b = [rowsB 3 cap ((keepM dev ms).map mntA)]) := by
  obtain ⟨k, hk, y, hky, hkd, hkf⟩ : ∃ k : Nat, idxBy (fun m : Mnt => decide (m.1 = dev)) ms = (k : Int) ∧ ∃ y, ms[k]? = some y ∧ y.1 = dev ∧ ∀ i z, i < k → ms[i]? = some z → z.1 ≠ dev := by
    obtain ⟨m, hm1, hm2⟩ := hex
    cases h : ms.findIdx? (fun m : Mnt => decide (m.1 = dev)) with
    | none => rw [List.findIdx?_eq_none_iff] at h; have := h m hm1; simp [hm2] at this
    | some k =>
      obtain ⟨hl, hp, hf⟩ := List.findIdx?_eq_some_iff_getElem.1 h
      refine ⟨k, by unfold idxBy; rw [h], ms[k], List.getElem?_eq_getElem hl, by simpa using hp, fun i z hi hz => ?_⟩
      have h1 := hf i hi
      obtain ⟨l2, e2⟩ := List.getElem?_eq_some_iff.1 hz
      rw [e2] at h1
      simpa using h1
  have hkl := (List.getElem?_eq_some_iff.1 hky).1
  have hk0 : keepM dev (ms.take (k + 1)) = ms.take k := by
    rw [keepM_at hky, if_pos hkd, List.append_nil]
    refine keepM_all fun m hm => ?_
    obtain ⟨i, hi⟩ := List.getElem?_of_mem hm
    rw [List.getElem?_take] at hi
    split at hi
    · exact hkf i m (by assumption) hi
    · cases hi
  refine enter Try.func67 rfl rfl rfl rfl rfl 1 rfl ?_
  refine w_ (a_ (h:=e_ (w_ (m_ (h:=m_ (h:=?_))))))
  refine al_p rfl (s_callR 1 rfl (.cons _ _ _ _ _ rfl (LeA.of_eq (lowG_rows (rows := ms.map mntA) (frz_plain (n := 0) (k := 0) (j := 0) (Nat.zero_le _) rfl (mnt_plain ms)) (mnt_three ms) (by simp) (by simpa using hcap))) (.cons _ _ _ _ _ rfl (LeA.refl _) .nil)) (PidxM ms dev hm) ?_)
  rintro r rfl
  refine ⟨rfl, ?_⟩
  rw [hk]
  refine a_ (h:=e_ (q_ (w_ (m_ (h:=eq_ (h:=e_ (?_)))))))
  refine aw_cond rfl (fun hb1 => ?_) (fun hb1 => ?_)
  · have hc1 := bp hb1
    exfalso
    omega
  · have hc1 := bp hb1
    refine kt_ (q_ (w_ (m_ (h:=?_))))
    refine al_p rfl (st_add64 rfl rfl (by omega) ?_)
    refine a_ (h:=e_ (aw_block (?_)))
    refine aw_loopW (fun m t => ∃ (i j : Nat) (rows : List Mnt), j ≤ ms.length ∧ m = ms.length - j ∧ i < j ∧ rows.length = ms.length ∧ keepM dev (ms.take j) = rows.take i ∧ rows.drop j = ms.drop j ∧ t = ⟨look [(0, .bs 0 0 3 ms.length cap), (1, .fn 68 [.fp [.v (.int .i64 dev)]]), (5, .v (.int .i64 (i : Int))), (6, .v (.int .i64 (j : Int)))], ⟨[rowsB 3 cap (rows.map mntA)], []⟩⟩) (ms.length - (k + 1)) (weak_of 1 0 rfl rfl rfl (by simp [bpLtB, bp_plain (mnt_plain ms)]) (by repeat (first | exact Sub.nil | refine Sub.cons _ _ _ rfl rfl ?_ | refine Sub.any _ _ ?_ | refine Sub.sl _ _ _ _ _ rfl ?_ | refine Sub.slnil _ _ _ rfl ?_))) (⟨k, k + 1, ms, by omega, rfl, by omega, rfl, hk0, rfl, rfl⟩) ?_
    rintro m t ⟨i, j, rows, hj, rfl, hij, hrl, hkp, hdr, rfl⟩
    refine q_ (w_ (m_ (h:=m_ (h:=?_))))
    refine al_p rfl (st_lenB rfl ?_)
    refine lt_ (h:=e_ (?_))
    refine aw_cond rfl (fun hb2 => ?_) (fun hb2 => ?_)
    · have hc2 := bp hb2
      have hjl : j < ms.length := by omega
      obtain ⟨x, hx⟩ : ∃ x, ms[j]? = some x := ⟨_, List.getElem?_eq_getElem hjl⟩
      obtain ⟨hd1, hd2⟩ := drop_get hdr
      have hrx : rows[j]? = some x := hd1.trans hx
      have hkx := keepM_at hx dev
      obtain ⟨z, hz⟩ : ∃ z, rows[i]? = some z := ⟨_, List.getElem?_eq_getElem (by omega)⟩
      refine kt_ (q_ (aw_block (w_ (m_ (h:=m_ (h:=?_))))))
      refine al_p rfl (st_indexS (m := j) rfl rfl rfl hjl ?_)
      refine al_p rfl (st_loadBE rfl rfl (by rw [rowsB_len (mnt_three rows) (by simp; omega)]; omega) (rowsB_row (mnt_three rows) (by rw [List.getElem?_map, hrx]; rfl)) ?_)
      refine al_ (h:=s_ (h:=e_ (w_ (m_ (h:=l_ (h:=?_))))))
      refine al_p rfl (st_callC (cy := []) (ys := [.agg (mntA x)]) rfl (by repeat (first | exact Args.nil | refine Args.cons _ _ _ _ _ rfl (argOk_clean rfl) ?_ | refine Args.cons _ _ _ _ _ rfl (argOk_nil _) ?_ | refine Args.cons _ _ _ _ _ rfl (argOk_era _) ?_ | refine Args.cons _ _ _ _ _ rfl (argOk_le rfl (by repeat (first | exact LeA.refl _ | exact LeA.nil _ | exact LeL.refl _ | refine LeA.agg ?_ | refine LeA.tup ?_ | exact LeL.nil | refine LeL.cons ?_ ?_ | exact LeA.any _))) ?_)) rfl rfl (PremF x dev) ?_)
      rintro r rfl
      refine nt_ (h:=e_ (?_))
      refine aw_cond rfl (fun hb3 => ?_) (fun hb3 => ?_)
      · have hc3 := bp hb3
        rw [if_neg hc3] at hkx
        refine w_ (m_ (h:=m_ (h:=l_ (h:=?_))))
        refine al_p rfl (st_indexS (m := i) rfl rfl rfl (by omega) ?_)
        refine al_p0 (s_store rfl rfl rfl rfl rfl rfl (mnt_set hz) (by repeat constructor) ?_)
        refine e_ (aw_region (m_ (h:=?_)))
        refine al_p rfl (st_add64 rfl rfl (by omega) ?_)
        refine a_ (h:=al_nil (x_blockN (t_ (aw_region (m_ (h:=ad_ (h:=a_ (h:=al_nil (?_)))))))))
        refine x_then ?_
        first | exact ⟨ms.length - (j + 1), _, by omega, ⟨i + 1, j + 1, rows.set i x, by omega, rfl, by omega, by simpa using hrl, (by rw [hkx, hkp, take_set (by omega)]), (by rw [drop_set (by omega)]; exact hd2), rfl⟩, weak_of 1 0 rfl rfl rfl (bp1 _ _) ((by repeat (first | exact Sub.nil | refine Sub.cons _ _ _ rfl rfl ?_ | refine Sub.any _ _ ?_ | refine Sub.sl _ _ _ _ _ rfl ?_ | refine Sub.slnil _ _ _ rfl ?_)))⟩ | exact ⟨ms.length - (j + 1), _, by omega, ⟨i, j + 1, rows, by omega, rfl, by omega, hrl, (by rw [hkx, hkp]), hd2, rfl⟩, weak_of 1 0 rfl rfl rfl (bp1 _ _) ((by repeat (first | exact Sub.nil | refine Sub.cons _ _ _ rfl rfl ?_ | refine Sub.any _ _ ?_ | refine Sub.sl _ _ _ _ _ rfl ?_ | refine Sub.slnil _ _ _ rfl ?_)))⟩
      · have hc3 := bp hb3
        rw [if_pos hc3, List.append_nil] at hkx
        refine aw_skip (x_blockN (t_ (aw_region (m_ (h:=ad_ (h:=a_ (h:=al_nil (?_))))))))
        refine x_then ?_
        first | exact ⟨ms.length - (j + 1), _, by omega, ⟨i + 1, j + 1, rows.set i x, by omega, rfl, by omega, by simpa using hrl, (by rw [hkx, hkp, take_set (by omega)]), (by rw [drop_set (by omega)]; exact hd2), rfl⟩, weak_of 1 0 rfl rfl rfl (bp1 _ _) ((by repeat (first | exact Sub.nil | refine Sub.cons _ _ _ rfl rfl ?_ | refine Sub.any _ _ ?_ | refine Sub.sl _ _ _ _ _ rfl ?_ | refine Sub.slnil _ _ _ rfl ?_)))⟩ | exact ⟨ms.length - (j + 1), _, by omega, ⟨i, j + 1, rows, by omega, rfl, by omega, hrl, (by rw [hkx, hkp]), hd2, rfl⟩, weak_of 1 0 rfl rfl rfl (bp1 _ _) ((by repeat (first | exact Sub.nil | refine Sub.cons _ _ _ rfl rfl ?_ | refine Sub.any _ _ ?_ | refine Sub.sl _ _ _ _ _ rfl ?_ | refine Sub.slnil _ _ _ rfl ?_)))⟩
    · have hc2 := bp hb2
      obtain rfl : j = ms.length := by omega
      rw [List.take_length] at hkp
      refine aw_exit (x_thenE (x_thenE (ABlock_out (t_ (w_ (m_ (h:=m_ (h:=?_))))))))
      refine al_p rfl (st_sliceLoB (l := i) rfl rfl rfl (by omega) ?_)
      refine al_p0 (st_clearB rfl rfl (by omega) (by rw [rowsB_len (mnt_three rows) (by simp; omega)]; omega) (by repeat constructor) ?_)
      refine e_ (w_ (m_ (h:=m_ (h:=?_))))
      refine al_p rfl (st_sliceHiB (k := i) rfl rfl rfl (by omega) ?_)
      refine a_ (h:=e_ (aw_ret (?_)))
      refine abody_ret (r := .bs 0 0 3 (keepM dev ms).length cap) none (by repeat (first | exact ResA.nil | (apply ResA.tmp; (focus exact rfl)) | (apply ResA.cellN; (focus exact inferInstance); (focus exact rfl); (focus exact rfl); (focus exact rfl)) | (apply ResA.cell1; (focus exact inferInstance); (focus exact rfl); (focus exact rfl); (focus exact rfl)))) rfl rfl (by rw [mnt_cut (by omega) (by omega)]; show (bpLtL 1 0 (rowsB 3 cap ((rows.take i).map mntA)) && true) = true; rw [bp_plain (mnt_plain _)]; rfl) (LeA.of_eq (by rw [hkp, List.length_take, Nat.min_eq_left (by omega)]; rfl)) ⟨rfl, rfl, by rw [mnt_cut (by omega) (by omega), hkp]; rfl⟩

end
end Go.Proofs.Ytgliiknfmlmddaa
namespace Go.Proofs.Ytgliiknfmlmddaa
open Go.RowKit

theorem onL_mem {s : Spc} {dev : Int} (h : mtdL s dev = true) (h0 : dev ≠ 0) : ∃ m ∈ s.mounts, m.1 = dev := by
  unfold mtdL onL at h
  simp only [h0, decide_false, Bool.or_false, Option.isSome_map] at h
  obtain ⟨m, hm⟩ := Option.isSome_iff_exists.1 h
  have h1 := List.find?_some hm
  exact ⟨m, List.mem_of_find?_eq_some hm, by simpa using h1⟩
theorem SpcV.apart {s : Spc} (h : SpcV s) : ∀ m ∈ s.mounts, m.1 ≠ m.2.1 := by
  intro m hm e
  obtain ⟨i, hi⟩ := List.getElem?_of_mem hm
  have k := h.mnt i m hi
  have h1 := k.fresh
  have h2 := k.there
  rw [← e, h1] at h2
  cases h2
section
set_option maxRecDepth 10000
set_option maxHeartbeats 1000000
theorem Premove (s : Spc) (dev : Int) (hs : SpcB s) (hne : ∀ d ∈ s.files, 0 < d.nodes.length) (hap : ∀ m ∈ s.mounts, m.1 ≠ m.2.1) : AFn Try.prog 36 [.agg (spcA s), .v (.int .i64 dev)] (fun r => r = spcR (remL s dev)) := by
  have hfew := hs.few
  have hml : (s.mounts.map mntA).length = s.mounts.length := by simp
  refine enter Try.func36 rfl rfl rfl rfl rfl 0 rfl ?_
  refine w_ (b_ (h:=b_ (h:=al_ (h:=a_ (h:=e_ (q_ (w_ (l_ (h:=eq_ (h:=m_ (h:=?_)))))))))))
  refine al_gs false rfl rfl (fun hb1 => ?_) (fun hb1 => ?_)
  · have hc1 := bp hb1
    refine g0_ (h:=g0_ (h:=g0_ (h:=g0_ (h:=pt_ (h:=e_ (cy_ (h:=w_ (bd_ (h:=s_ (h:=a_ (h:=e_ (aw_ret (x_thenR (?_))))))))))))))
    refine rt_ (r := spcR (remL s dev)) none (h5 := ?_) (h6 := ⟨rfl, rfl, rfl⟩)
    rw [remL, if_pos (.inl hc1)]
    exact sperr_le _
  · have hc1 := bp hb1
    refine l_ (h:=l_ (h:=?_))
    refine g_y (q_call (Pmounted s dev hs) ?_)
    rintro r rfl
    refine nt_ (h:=pf_ (h:=e_ (?_)))
    refine aw_cond rfl (fun hb2 => ?_) (fun hb2 => ?_)
    · have hc2 := bp hb2
      refine w_ (bd_ (h:=s_ (h:=a_ (h:=e_ (aw_ret (x_thenR (?_)))))))
      refine rt_ (r := spcR (remL s dev)) none (h5 := ?_) (h6 := ⟨rfl, rfl, rfl⟩)
      rw [remL, if_pos (.inr hc2)]
      exact sperr_le _
    · have hc2 := bp hb2
      refine kt_ (q_ (w_ (f_ (h:=l_ (h:=n_ (h:=m_ (h:=e_ (aw_block (?_)))))))))
      refine aw_loopW (fun m t => ∃ j : Nat, j ≤ s.mounts.length ∧ m = s.mounts.length - j ∧ (∀ i y, i < j → s.mounts[i]? = some y → decide (y.2.1 = dev) = false) ∧ t = ⟨look [(2, .bp 0 0), (3, .bp 1 0), (4, .bp 2 0), (18, .sl 3 (s.mounts.map mntA) none), (19, .v (.int .i64 ((s.mounts.map mntA).length : Int))), (20, .v (.int .i64 (j : Int)))], ⟨[spcA s, [.v (.int .i64 dev)], [.v (.slice none 0 0), .v (.slice none 0 0)]], []⟩⟩) (s.mounts.length) ((wk 3 0)) (⟨0, by omega, rfl, fun i y hi => by omega, rfl⟩) ?_
      rintro m t ⟨j, hj, rfl, ha, rfl⟩
      refine w_ (lt_ (h:=e_ (q_ (?_))))
      refine aw_cond rfl (fun hb3 => ?_) (fun hb3 => ?_)
      · have hc3 := bp hb3
        obtain ⟨hlt, x, hy, hrow, -⟩ := row_at mntA hc3
        have hxa := hap x (List.mem_of_getElem? hy)
        refine kt_ (q_ (aw_block (w_ (i_ (h:=l_ (h:=al_ (h:=s_ (h:=e_ (w_ (f_ (h:=l_ (h:=l_ (h:=nq_ (h:=m_ (h:=?_)))))))))))))))
        refine al_gs true rfl rfl (fun hb4 => ?_) (fun hb4 => ?_)
        · have hc4 := bp hb4
          refine f_ (h:=f_ (h:=l_ (h:=l_ (h:=eq_ (h:=pt_ (h:=e_ (?_)))))))
          refine aw_cond rfl (fun hb5 => ?_) (fun hb5 => ?_)
          · have hc5 := bp hb5
            have hany : (s.mounts.any fun m => decide (m.2.1 = dev)) = true := any_at hy (decide_eq_true hc5)
            refine w_ (bd_ (h:=s_ (h:=a_ (h:=e_ (aw_ret (x_blockR (x_thenR (x_thenR (x_blockR (x_thenR (?_)))))))))))
            refine rt_ (r := spcR (remL s dev)) none (h5 := ?_) (h6 := ⟨rfl, rfl, rfl⟩)
            rw [remL, if_neg (by simp [hc1, hc2]), if_pos hany]
            exact sperr_le _
          · have hc5 := bp hb5
            have hno : decide (x.2.1 = dev) = false := decide_eq_false hc5
            refine aw_skip (x_blockN (t_ (aw_region (ad_ (h:=m_ (h:=al_nil (?_)))))))
            refine x_then ?_
            refine ⟨_, _, ?_, ⟨j + 1, by omega, rfl, upto_snoc hy ha hno, rfl⟩, (wk 3 0)⟩
            omega
        · have hc4 := bp hb4
          have hno : decide (x.2.1 = dev) = false := decide_eq_false (fun h => hxa (hc4.trans h.symm))
          refine g0_ (h:=g0_ (h:=g0_ (h:=g0_ (h:=g0_ (h:=pf_ (h:=e_ (cn_ (h:=aw_skip (x_blockN (t_ (aw_region (ad_ (h:=m_ (h:=al_nil (?_)))))))))))))))
          refine x_then ?_
          refine ⟨_, _, ?_, ⟨j + 1, by omega, rfl, upto_snoc hy ha hno, rfl⟩, (wk 3 0)⟩
          omega
      · have hc3 := bp hb3
        have e3 := row_no mntA hj hc3
        subst e3
        have hany : (s.mounts.any fun m => decide (m.2.1 = dev)) = false := any_no ha
        obtain ⟨xm, hxm, hxd⟩ := onL_mem hc2 hc1
        have hex : ∃ m ∈ s.mounts, m.1 = dev := ⟨xm, hxm, hxd⟩
        have hpos : 0 < s.mounts.length := List.length_pos_of_mem hxm
        refine aw_exit (x_thenE (x_thenE (ABlock_out (t_ (?_)))))
        refine aw_midI (fun t => ∃ cap, s.mounts.length ≤ cap ∧ t = ⟨look [(2, .bp 0 0), (3, .fp [.v (.int .i64 dev)]), (4, .bp 1 0)], ⟨[[.sl 2 (s.files.map dvcA) none, .bs 2 0 3 s.mounts.length cap], [.v (.slice none 0 0), .v (.slice none 0 0)], rowsB 3 cap (s.mounts.map mntA)], []⟩⟩) ?_ ?_
        · skip
          refine aw_region (l_ (h:=?_))
          refine al_p rfl (s_callM [] rfl (.cons _ _ _ _ _ rfl (LeA.refl _) .nil) (by decide) .nil (PspcB s hs hne hpos) ?_)
          rintro r bc tc ⟨rfl, cap, hcap, rfl, rfl⟩
          refine ⟨rfl, _, (back_newQ 3 rfl (spcA s) _ _ _ rfl rfl rfl (ren_rows (mnt_plain s.mounts)) : Back _ [] _ [_, _, _, _, [.sl 2 (s.files.map dvcA) none, .bs 6 0 3 s.mounts.length cap], _, _]), ?_⟩
          refine s_ (h:=al_nil (?_))
          refine x_then ?_
          refine ⟨_, ⟨cap, hcap, rfl⟩, Weak.trans (s' := ⟨look [(2, .bp 0 0), (3, .bp 3 0), (4, .bp 1 0)], ⟨[[AV.sl 2 (s.files.map dvcA) none, AV.bs 2 0 3 s.mounts.length cap], [AV.v (.slice none 0 0), AV.v (.slice none 0 0)], rowsB 3 cap (s.mounts.map mntA), [AV.v (.int .i64 dev)]], []⟩⟩) ?_ ?_⟩
          · exact weak_ren [0, 2, 6, 1] (fun i hi => absurd hi (Nat.not_lt_zero i)) (by decide) (.cons _ _ _ _ _ rfl rfl (.cons _ _ _ _ _ rfl rfl (.cons _ _ _ _ _ rfl (renK_rows (mnt_plain s.mounts)) (.cons _ _ _ _ _ rfl rfl .nil)))) (.cons _ _ _ _ rfl (LeA.refl _) (.cons _ _ _ _ rfl (LeA.refl _) (.cons _ _ _ _ rfl (LeA.refl _) .nil)))
          · exact weak_fz 3 1 rfl (congrArg (fun x : List AV => ([[AV.sl 2 (s.files.map dvcA) none, AV.bs 2 0 3 s.mounts.length cap], [AV.v (.slice none 0 0), AV.v (.slice none 0 0)], x] : List (List AV))) (liv_plain (cap := cap) (mnt_plain s.mounts))) (.cons _ _ _ _ rfl (LeA.refl _) (.cons _ _ _ _ rfl (LeA.refl _) (.cons _ _ _ _ rfl (LeA.refl _) .nil)))
        · rintro t ⟨cap, hcap, rfl⟩
          refine w_ (f_ (h:=l_ (h:=mf_ (h:=?_))))
          refine al_p rfl (s_callM [2] rfl (.cons _ _ _ _ _ rfl (LeA.refl _) (.cons _ _ _ _ _ rfl (LeA.refl _) .nil)) (by decide) (.cons _ _ _ _ _ rfl (ren_rows (mnt_plain s.mounts)) .nil) (PdelM s.mounts dev cap hfew hcap hex) ?_)
          rintro r bc tc ⟨rfl, rfl, rfl⟩
          refine ⟨rfl, _, (back_one (Nat.le_of_ble_eq_true rfl) (ren_rows (mnt_plain _)) : Back _ [2] _ [_, _, _]), ?_⟩
          refine f_ (h:=s_ (h:=e_ (?_)))
          refine aw_midI (fun t => t = ⟨look [(4, .bp 1 0), (5, .v (.int .i64 0))], ⟨[spcA ⟨s.files, keepM dev s.mounts⟩, spcA ⟨s.files, keepM dev s.mounts⟩], []⟩⟩) ?_ ?_
          · skip
            refine aw_region (l_ (h:=s_ (h:=a_ (h:=al_nil (?_)))))
            refine x_then ?_
            exact ⟨_, rfl, weak_fz 2 1 rfl (congrArg (fun x : AV => ([[AV.sl 2 (s.files.map dvcA) none, x], [AV.sl 2 (s.files.map dvcA) none, x]] : List (List AV))) (liv_rows (n := 2) (j := 2) (sz := 3) (m := (keepM dev s.mounts).length) (cap0 := cap) (cap := cap) (rows := (keepM dev s.mounts).map mntA) (Nat.le_of_ble_eq_true rfl) (frz_plain (n := 2) (k := 0) (j := 2) (Nat.le_of_ble_eq_true rfl) rfl (mnt_plain _)) (mnt_three _) (by simp) (by have : (keepM dev s.mounts).length ≤ s.mounts.length := List.length_filter_le _ _; simp; omega))) (.cons _ _ _ _ rfl (LeA.refl _) (.cons _ _ _ _ rfl (LeA.refl _) .nil))⟩
          · rintro t rfl
            refine aw_ret (?_)
            refine e_ret ?_
            rw [remL, if_neg (by simp [hc1, hc2]), if_neg (by simp [hany])]
            rfl

end
end Go.Proofs.Ytgliiknfmlmddaa
