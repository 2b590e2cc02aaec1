/-
  Part 11 of the proof of MountsPathsP: what the statement's proof uses of the texts in wip/tpl.
-/
import Derived.Test.YtgliiknfmlmddaaShelf
import Derived.Test.YtgliiknfmlmddaaMp10
namespace Go.Proofs.Ytgliiknfmlmddaa
open Go.RowKit

theorem FlsV.ne {f : Fls} (h : FlsV f) : ∀ d ∈ f, 0 < d.nodes.length := fun d hd => by
  obtain ⟨r, rest, hr, _⟩ := (h.vd d hd).root
  rw [hr]; simp
theorem root_vd : VD rootDvc := by
  refine ⟨by decide, by decide, by decide, ⟨rootNod, [], rfl, rfl, rfl, rfl⟩, List.pairwise_singleton _ _, ?_, ?_, ?_, ?_, ?_, ?_, ?_, ?_, ?_, ⟨fun _ => 0, ?_⟩⟩ <;>
    (intro n hn; obtain rfl : n = rootNod := by simpa [rootDvc] using hn)
  · decide
  · decide +kernel
  · intro h; exact absurd rfl h
  · decide
  · exact List.Pairwise.nil
  · intro e he; cases he
  · intro h; exact absurd rfl h
  · intro h; exact absurd rfl h
  · intro h; exact absurd rfl h
  · intro h; exact absurd rfl h
theorem new_valid {k : Int} (h1 : 1 ≤ k) (h2 : k ≤ 3) : FlsV (newL k).1 ∧ 0 < (newL k).1.length := by
  unfold newL
  rw [if_neg (by omega)]
  refine ⟨⟨?_, fun d hd => ?_⟩, ?_⟩
  · show (List.replicate _ _).length ≤ 3
    rw [List.length_replicate]; omega
  · rw [(List.mem_replicate.1 hd).2]; exact root_vd
  · show 0 < (List.replicate _ _).length
    rw [List.length_replicate]; omega
structure MntOK (f : Fls) (ms : List Mnt) (m : Mnt) : Prop where
  dev1 : 1 ≤ m.1
  dev2 : m.1 < (f.length : Int)
  fresh : mtdL ⟨f, ms⟩ m.1 = false
  dir : dirL f m.2 = true
  there : mtdL ⟨f, ms⟩ m.2.1 = true
  free : (covL ⟨f, ms⟩ m.2).isSome = false
structure SpcV (s : Spc) : Prop where
  files : FlsV s.files
  pos : 0 < s.files.length
  mnt : ∀ i m, s.mounts[i]? = some m → MntOK s.files (s.mounts.take i) m
theorem add_valid {s : Spc} (h : SpcV s) (dev : Int) (a : Fil) (h0 : (addL s dev a).2 = 0) : SpcV (addL s dev a).1 ∧ (addL s dev a).1 = ⟨s.files, s.mounts ++ [(dev, a)]⟩ := by
  unfold addL at h0 ⊢
  split at h0
  · exact absurd h0 (by decide)
  · rename_i c1
    split at h0
    · exact absurd h0 (by decide)
    · rename_i c2
      split at h0
      · exact absurd h0 (by decide)
      · rename_i c3
        split at h0
        · exact absurd h0 (by decide)
        · rename_i c4
          split at h0
          · exact absurd h0 (by decide)
          · rename_i c5
            rw [if_neg c1, if_neg c2, if_neg c3, if_neg c4, if_neg c5]
            refine ⟨⟨h.files, h.pos, fun i m hi => ?_⟩, rfl⟩
            simp only at hi ⊢
            rcases Nat.lt_trichotomy i s.mounts.length with hlt | heq | hgt
            · rw [List.getElem?_append_left hlt] at hi
              rw [List.take_append_of_le_length (by omega)]
              exact h.mnt i m hi
            · subst heq
              simp at hi
              subst hi
              rw [List.take_left' rfl]
              exact ⟨by simp only; omega, by simp only; omega, by simpa using fun h => c5 (.inl h), by simp only; rw [dirL_eq]; simp at c2 c3; simp [c2, c3], by simpa using fun h => c4 (.inl h), Bool.eq_false_iff.2 fun h => c5 (.inr h)⟩
            · rw [List.getElem?_eq_none (by simp; omega)] at hi; cases hi
section
set_option maxRecDepth 10000
set_option maxHeartbeats 1000000
theorem Gchange (l : List Int) (a : Nat) (f : Fls) (ha : a ≤ 1000000000) (hv : FlsV f) : GenF Try.prog 71 l a [.agg (flsA f)] 80 (fun r => ∃ f', r = .agg (flsA f') ∧ FlsV f' ∧ f'.length = f.length) := by
  have hf := hv.b
  have hne := hv.ne
  refine enter Try.func71 rfl rfl rfl rfl rfl 1 rfl ?_
  refine w_ (b_ (h:=al_ (h:=e_ (w_ (m_ (h:=l_ (h:=?_)))))))
  refine al_p rfl (s_gen 0 (hc := Gfile l _ f (by omega) hf hne) (hR := ?_))
  rintro r a1 ha1 ⟨x1, rfl⟩
  refine ⟨rfl, _, (by repeat constructor), ?_⟩
  refine m_ (h:=?_)
  refine al_p rfl (s_gen 0 (hc := Gname l _ (by omega)) (hR := ?_))
  rintro r a2 ha2 ⟨k2, rfl, p2⟩
  refine ⟨rfl, _, (by repeat constructor), ?_⟩
  refine al_ (h:=s_ (h:=a_ (h:=e_ (w_ (l_ (h:=al_ (h:=s_ (h:=a_ (h:=e_ (?_))))))))))
  refine aw_midI (fun t => ∃ (R1 : Fls) (e : Int) (b : Nat), b ≤ a + 80 ∧ (e = 0 → FlsV R1 ∧ R1.length = f.length) ∧ t = ⟨look [(3, .bp 1 0), (4, .bp 2 0), (7, .bp 4 0), (8, .v (.int .i64 e))], ⟨[srcA l b, flsA f, [.v (.slice none 0 0)], filA x1, flsA R1], []⟩⟩) ?_ ?_
  · skip
    refine w_ (m_ (h:=?_))
    refine al_p rfl (s_gen 0 (hc := Gn l _ (8) (by omega) (by omega)) (hR := ?_))
    rintro r a3 ha3 ⟨k3, rfl, p3, q3, o3⟩
    refine ⟨rfl, _, (by repeat constructor), ?_⟩
    refine e_ (aw_block (w_ (eq_ (h:=a_ (h:=e_ (?_))))))
    refine aw_cond rfl (fun hb1 => ?_) (fun hb1 => ?_)
    · have hc1 := bp hb1
      refine yk_ ([(1, flsA f), (2, [.v (.slice none 0 0)]), (3, filA x1)]) 13 (h:=dl_ 0 (h:=dl_ 1 (h:=dm_ 2 (h:=dm_ 3 (h:=dl_ 4 (h:=?_))))))
      refine c_ 5 rfl (s_gen 0 (hc := Gfile l _ f (by omega) hf hne) (hR := ?_))
      rintro r a4 ha4 ⟨x4, rfl⟩
      refine ⟨rfl, _, (by repeat constructor), ?_⟩
      refine o_ (h:=?_)
      refine c_ 6 rfl (q_call (Rlink f x1 k2 x4 hv (by omega)) ?_)
      rintro r rfl
      refine o_ (h:=dm_ 7 (h:=dx_ 8 (h:=dx_ 9 (h:=dx_ 10 (h:=?_)))))
      refine c0_ 11 rfl (s_store rfl rfl rfl rfl rfl rfl (by repeat constructor) (by repeat constructor) ?_)
      refine o_ (h:=da_ 12 (h:=z_ (h:=x_blockN (?_))))
      refine x_then ?_
      refine ⟨_, ⟨_, _, _, ?_, ?_, rfl⟩, (wk 5 0)⟩
      · omega
      · first | exact link_okay hv _ _ _ | exact unlink_okay hv _ _ | exact rmdir_okay hv _ _ | exact rename_okay hv _ _ _ _ | exact set_okay hv _ _ _ _ | exact make_okay hv _ _ _
    · have hc1 := bp hb1
      refine w_ (eq_ (h:=a_ (h:=e_ (?_))))
      refine aw_cond rfl (fun hb2 => ?_) (fun hb2 => ?_)
      · have hc2 := bp hb2
        refine aw_region (l_ (h:=l_ (h:=m_ (h:=?_))))
        refine al_p rfl (q_call (Runlink f x1 k2 hv (by omega)) ?_)
        rintro r rfl
        refine m_ (h:=x_ (h:=x_ (h:=x_ (h:=s_ (h:=a_ (h:=al_nil (x_blockN (?_))))))))
        refine x_then ?_
        refine ⟨_, ⟨_, _, _, ?_, ?_, rfl⟩, (wk 5 0)⟩
        · omega
        · first | exact link_okay hv _ _ _ | exact unlink_okay hv _ _ | exact rmdir_okay hv _ _ | exact rename_okay hv _ _ _ _ | exact set_okay hv _ _ _ _ | exact make_okay hv _ _ _
      · have hc2 := bp hb2
        refine w_ (eq_ (h:=a_ (h:=e_ (?_))))
        refine aw_cond rfl (fun hb3 => ?_) (fun hb3 => ?_)
        · have hc3 := bp hb3
          refine aw_region (l_ (h:=l_ (h:=m_ (h:=?_))))
          refine al_p rfl (q_call (Rrmdir f x1 k2 hv (by omega)) ?_)
          rintro r rfl
          refine m_ (h:=x_ (h:=x_ (h:=x_ (h:=s_ (h:=a_ (h:=al_nil (x_blockN (?_))))))))
          refine x_then ?_
          refine ⟨_, ⟨_, _, _, ?_, ?_, rfl⟩, (wk 5 0)⟩
          · omega
          · first | exact link_okay hv _ _ _ | exact unlink_okay hv _ _ | exact rmdir_okay hv _ _ | exact rename_okay hv _ _ _ _ | exact set_okay hv _ _ _ _ | exact make_okay hv _ _ _
        · have hc3 := bp hb3
          refine w_ (eq_ (h:=a_ (h:=e_ (?_))))
          refine aw_cond rfl (fun hb4 => ?_) (fun hb4 => ?_)
          · have hc4 := bp hb4
            refine yk_ ([(1, flsA f), (2, [.v (.slice none 0 0)]), (3, filA x1)]) 15 (h:=dl_ 0 (h:=dl_ 1 (h:=dm_ 2 (h:=dm_ 3 (h:=dl_ 4 (h:=dm_ 6 (h:=?_)))))))
            refine c_ 5 rfl (s_gen 0 (hc := Gfile l _ f (by omega) hf hne) (hR := ?_))
            rintro r a5 ha5 ⟨x5, rfl⟩
            refine ⟨rfl, _, (by repeat constructor), ?_⟩
            refine o_ (h:=?_)
            refine c_ 7 rfl (s_gen 0 (hc := Gname l _ (by omega)) (hR := ?_))
            rintro r a6 ha6 ⟨k6, rfl, p6⟩
            refine ⟨rfl, _, (by repeat constructor), ?_⟩
            refine o_ (h:=?_)
            refine c_ 8 rfl (q_call (Rrename f x1 k2 x5 k6 hv (by omega) (by omega)) ?_)
            rintro r rfl
            refine o_ (h:=dm_ 9 (h:=dx_ 10 (h:=dx_ 11 (h:=dx_ 12 (h:=?_)))))
            refine c0_ 13 rfl (s_store rfl rfl rfl rfl rfl rfl (by repeat constructor) (by repeat constructor) ?_)
            refine o_ (h:=da_ 14 (h:=z_ (h:=x_blockN (?_))))
            refine x_then ?_
            refine ⟨_, ⟨_, _, _, ?_, ?_, rfl⟩, (wk 5 0)⟩
            · omega
            · first | exact link_okay hv _ _ _ | exact unlink_okay hv _ _ | exact rmdir_okay hv _ _ | exact rename_okay hv _ _ _ _ | exact set_okay hv _ _ _ _ | exact make_okay hv _ _ _
          · have hc4 := bp hb4
            refine w_ (eq_ (h:=a_ (h:=e_ (?_))))
            refine aw_cond rfl (fun hb5 => ?_) (fun hb5 => ?_)
            · have hc5 := bp hb5
              refine yk_ ([(1, flsA f), (2, [.v (.slice none 0 0)]), (3, filA x1)]) 12 (h:=dl_ 0 (h:=dl_ 1 (h:=dm_ 2 (h:=dm_ 4 (h:=?_)))))
              refine c_ 3 rfl (s_gen 0 (hc := Gn l _ (9) (by omega) (by omega)) (hR := ?_))
              rintro r a7 ha7 ⟨k7, rfl, p7, q7, o7⟩
              refine ⟨rfl, _, (by repeat constructor), ?_⟩
              refine o_ (h:=?_)
              refine c_ 5 rfl (s_gen 0 (hc := Gn l _ (9) (by omega) (by omega)) (hR := ?_))
              rintro r a8 ha8 ⟨k8, rfl, p8, q8, o8⟩
              refine ⟨rfl, _, (by repeat constructor), ?_⟩
              refine o_ (h:=?_)
              refine c_ 6 rfl (q_call (Rset f x1 511 k7 k8 hv) ?_)
              rintro r rfl
              refine o_ (h:=dm_ 7 (h:=dx_ 8 (h:=dx_ 9 (h:=?_))))
              refine c0_ 10 rfl (s_store rfl rfl rfl rfl rfl rfl (by repeat constructor) (by repeat constructor) ?_)
              refine o_ (h:=da_ 11 (h:=z_ (h:=x_blockN (?_))))
              refine x_then ?_
              refine ⟨_, ⟨_, _, _, ?_, ?_, rfl⟩, (wk 5 0)⟩
              · omega
              · first | exact link_okay hv _ _ _ | exact unlink_okay hv _ _ | exact rmdir_okay hv _ _ | exact rename_okay hv _ _ _ _ | exact set_okay hv _ _ _ _ | exact make_okay hv _ _ _
            · have hc5 := bp hb5
              refine yk_ ([(1, flsA f), (2, [.v (.slice none 0 0)]), (3, filA x1)]) 12 (h:=dl_ 0 (h:=dl_ 1 (h:=dm_ 2 (h:=dm_ 3 (h:=?_)))))
              refine c_ 4 rfl (s_gen 0 (hc := Gattr l _ (by omega)) (hR := ?_))
              rintro r a9 ha9 ⟨n9, ht9, he9, rfl⟩
              refine ⟨rfl, _, (by repeat constructor), ?_⟩
              refine o_ (h:=?_)
              refine c_ 5 rfl (q_call (Rmake f x1 k2 n9 hv (by omega) (by omega)) ?_)
              rintro r rfl
              refine o_ (h:=dm_ 6 (h:=dx_ 7 (h:=dx_ 8 (h:=dx_ 9 (h:=?_)))))
              refine c0_ 10 rfl (s_store rfl rfl rfl rfl rfl rfl (by repeat constructor) (by repeat constructor) ?_)
              refine o_ (h:=da_ 11 (h:=z_ (h:=x_blockN (?_))))
              refine x_then ?_
              refine ⟨_, ⟨_, _, _, ?_, ?_, rfl⟩, (wk 5 0)⟩
              · omega
              · first | exact link_okay hv _ _ _ | exact unlink_okay hv _ _ | exact rmdir_okay hv _ _ | exact rename_okay hv _ _ _ _ | exact set_okay hv _ _ _ _ | exact make_okay hv _ _ _
  · rintro t ⟨R1, e, b, hb, hok, rfl⟩
    refine q_ (w_ (m_ (h:=nq_ (h:=e_ (?_)))))
    refine aw_cond rfl (fun hb6 => ?_) (fun hb6 => ?_)
    · have hc6 := bp hb6
      refine w_ (l_ (h:=s_ (h:=e_ (aw_ret (x_thenR (?_))))))
      refine rt_ none (h5 := (LeA.refl _)) (h6 := ⟨_, rfl, rfl, b, hb, rfl, f, rfl, hv, rfl⟩)
    · have hc6 := bp hb6
      refine kt_ (w_ (l_ (h:=s_ (h:=e_ (aw_ret (?_))))))
      refine rt_ none (h5 := (LeA.refl _)) (h6 := ⟨_, rfl, rfl, b, hb, rfl, R1, rfl, hok (by omega)⟩)

theorem Gfiles (l : List Int) (a : Nat) (ha : a ≤ 100000000) : GenF Try.prog 43 l a [] 1000 (fun r => ∃ f, r = .agg (flsA f) ∧ FlsV f ∧ 0 < f.length) := by
  refine enter Try.func43 rfl rfl rfl rfl rfl 1 rfl ?_
  refine w_ (al_ (h:=e_ (w_ (m_ (h:=?_)))))
  refine al_p rfl (s_gen 0 (hc := Grange l _ (1) (3) (by omega) (by omega) (by omega) (by omega)) (hR := ?_))
  rintro r a1 ha1 ⟨k1, rfl, p1, q1⟩
  refine ⟨rfl, _, (by repeat constructor), ?_⟩
  refine al_p rfl (q_call (Rnew k1) ?_)
  rintro r rfl
  refine m_ (h:=x_ (h:=x_ (h:=al_ (h:=s_ (h:=a_ (h:=e_ (q_ (w_ (m_ (h:=?_))))))))))
  refine al_p rfl (s_gen 0 (hc := Grange l _ (2) (12) (by omega) (by omega) (by omega) (by omega)) (hR := ?_))
  rintro r a2 ha2 ⟨k2, rfl, p2, q2⟩
  refine ⟨rfl, _, (by repeat constructor), ?_⟩
  refine a_ (h:=e_ (aw_block (?_)))
  obtain ⟨hv0, hp0⟩ := new_valid p1 q1
  obtain ⟨M, rfl⟩ := Int.eq_ofNat_of_zero_le (show 0 ≤ k2 by omega)
  refine aw_loopW (fun n s => ∃ (j b : Nat) (f : Fls), j ≤ M ∧ n = j ∧ b + 80 * j ≤ a + 2 + 80 * M ∧ FlsV f ∧ 0 < f.length ∧ s = ⟨look [(0, .bp 0 0), (2, .bp 1 0), (3, .bp 2 0), (5, .v (.int .i64 (j : Int)))], ⟨[srcA l b, [.v (.slice none 0 0)], flsA f], []⟩⟩) (M) ((wk 3 0)) (⟨M, _, _, Nat.le_refl _, rfl, by omega, hv0, hp0, rfl⟩) ?_
  rintro n s ⟨j, b, f, hj, rfl, hb, hv, hp, rfl⟩
  refine q_ (w_ (m_ (h:=gt_ (h:=e_ (?_)))))
  refine aw_cond rfl (fun hb1 => ?_) (fun hb1 => ?_)
  · have hc1 := bp hb1
    refine kt_ (q_ (aw_block (aw_region (m_ (h:=l_ (h:=?_))))))
    refine al_p rfl (s_gen 0 (hc := Gchange l _ f (by omega) hv) (hR := ?_))
    rintro r a3 ha3 ⟨f3, rfl, hv3, hl3⟩
    refine ⟨rfl, _, (by repeat constructor), ?_⟩
    refine s_ (h:=al_nil (x_blockN (t_ (aw_region (m_ (h:=?_))))))
    refine al_p rfl (st_sub64 rfl rfl (by omega) ?_)
    refine a_ (h:=al_nil (?_))
    refine x_then ?_
    refine ⟨n - 1, _, by omega, ⟨n - 1, _, f3, by omega, rfl, ?_, hv3, by omega, rfl⟩, (by rw [show ((n - 1 : Nat) : Int) = (n : Int) - 1 by omega]; exact weak_of 3 0 rfl rfl rfl rfl ((by repeat (first | exact Sub.nil | refine Sub.cons _ _ _ rfl rfl ?_ | refine Sub.any _ _ ?_ | refine Sub.sl _ _ _ _ _ rfl ?_ | refine Sub.slnil _ _ _ rfl ?_))))⟩
    omega
  · have hc1 := bp hb1
    refine aw_exit (x_thenE (x_thenE (ABlock_out (t_ (w_ (l_ (h:=s_ (h:=e_ (aw_ret (?_))))))))))
    refine rt_ none (h5 := (LeA.refl _)) (h6 := ⟨_, rfl, rfl, b, by omega, rfl, f, rfl, hv, hp⟩)

end
end Go.Proofs.Ytgliiknfmlmddaa
namespace Go.Proofs.Ytgliiknfmlmddaa

def stepR (s : Spc) (a : Fil) : Option Fil := if a.2 ≠ 1 then some (a.1, (nodG s.files a).parent) else onL s a.1
def ends (s : Spc) : Nat → Fil → Prop
  | 0, a => dirL s.files a = false
  | k + 1, a => dirL s.files a = false ∨ ∀ b, stepR s a = some b → ends s k b
theorem on_mem {s : Spc} {dev : Int} {on : Fil} (h : onL s dev = some on) : ∃ m ∈ s.mounts, m.1 = dev ∧ m.2 = on := by
  unfold onL at h
  cases hf : s.mounts.find? fun m : Mnt => decide (m.1 = dev) with
  | none => rw [hf] at h; cases h
  | some m =>
    rw [hf] at h
    injection h with h
    exact ⟨m, List.mem_of_find?_eq_some hf, by have := List.find?_some hf; simpa using this, h⟩
theorem dir_node {f : Fls} {a : Fil} (h : ¬ dirL f a = false) : ∃ (q : Nat) (d : Dvc) (m : Nod), a.1 = (q : Int) ∧ f[q]? = some d ∧ m ∈ d.nodes ∧ m.ino = a.2 ∧ nodG f a = m ∧ m.kind = 2 := by
  rw [Bool.not_eq_false, dirL_eq, Bool.and_eq_true, decide_eq_true_eq] at h
  obtain ⟨q, i, d, m, h1, h2, h3, h4, _, h6⟩ := at_ok h.1
  exact ⟨q, d, m, h1, h2, List.mem_of_getElem? h3, h4, h6, by rw [← h6]; exact h.2⟩
theorem step_eq {s : Spc} (hv : SpcV s) {a : Fil} (h : ¬ dirL s.files a = false) : stepC s a = stepR s a := by
  obtain ⟨q, d, m, _, _, _, h4, h5, _⟩ := dir_node h
  unfold stepC stepR
  rw [h5, h4]
  split
  · rfl
  · split
    · rename_i h0
      cases ho : onL s a.1 with
      | none => rfl
      | some on =>
        obtain ⟨m', hm, h1, _⟩ := on_mem ho
        obtain ⟨i, hi⟩ := List.getElem?_of_mem hm
        have := (hv.mnt i m' hi).dev1
        omega
    · rfl
def posM (s : Spc) (dev : Int) : Nat := match s.mounts.findIdx? fun m : Mnt => decide (m.1 = dev) with
  | none => 0
  | some i => i + 1
theorem pos_on {s : Spc} (hv : SpcV s) {dev : Int} {on : Fil} (h : onL s dev = some on) : posM s on.1 < posM s dev := by
  unfold onL at h
  cases hf : s.mounts.find? fun m : Mnt => decide (m.1 = dev) with
  | none => rw [hf] at h; cases h
  | some m =>
    rw [hf] at h
    injection h with h
    subst h
    rw [List.find?_eq_some_iff_getElem] at hf
    obtain ⟨hp, i, hi, hmi, hbefore⟩ := hf
    have e1 : s.mounts.findIdx? (fun m : Mnt => decide (m.1 = dev)) = some i := by
      rw [List.findIdx?_eq_some_iff_getElem]
      exact ⟨hi, by rw [hmi]; exact hp, fun j hj => by simpa using hbefore j hj⟩
    have hthere := (hv.mnt i m (by rw [List.getElem?_eq_getElem hi, hmi])).there
    unfold posM
    rw [e1]
    cases e2 : s.mounts.findIdx? (fun m' : Mnt => decide (m'.1 = m.2.1)) with
    | none => simp
    | some j =>
      simp only
      by_cases h0 : m.2.1 = 0
      · rw [List.findIdx?_eq_some_iff_getElem] at e2
        obtain ⟨hj, h1, _⟩ := e2
        have := (hv.mnt j _ (List.getElem?_eq_getElem hj)).dev1
        simp only [decide_eq_true_eq] at h1
        omega
      · unfold mtdL onL at hthere
        simp only [Bool.or_eq_true, decide_eq_true_eq, h0, or_false, Option.isSome_map] at hthere
        cases hg : (s.mounts.take i).find? fun m' : Mnt => decide (m'.1 = m.2.1) with
        | none => rw [hg] at hthere; cases hthere
        | some m' =>
          rw [List.find?_eq_some_iff_getElem] at hg
          obtain ⟨hp', k, hk, hmk, _⟩ := hg
          rw [List.findIdx?_eq_some_iff_getElem] at e2
          obtain ⟨hj, _, hno⟩ := e2
          have hki : k < i := by simp at hk; omega
          by_cases hjk : j ≤ k
          · omega
          · have := hno k (by omega)
            simp only [List.getElem_take] at hmk
            rw [hmk] at this
            rw [hp'] at this
            exact absurd rfl this
theorem ends_ex {s : Spc} (hv : SpcV s) : ∀ (p : Nat) (a : Fil), posM s a.1 < p → ∃ k, ends s k a := by
  intro p
  induction p with
  | zero => intro a h; omega
  | succ p ih =>
    intro a hp
    by_cases hd : dirL s.files a = false
    · exact ⟨0, hd⟩
    · obtain ⟨q, d, m, hq, hfd, _⟩ := dir_node hd
      have hvd := hv.files.vd d (List.mem_of_getElem? hfd)
      obtain ⟨rk, hrk⟩ := hvd.rank
      have key : ∀ (r : Nat) (ino : Int), rk ino < r → ∃ k, ends s k (a.1, ino) := by
        intro r
        induction r with
        | zero => intro ino h; omega
        | succ r ihr =>
          intro ino hr
          by_cases hd2 : dirL s.files (a.1, ino) = false
          · exact ⟨0, hd2⟩
          · obtain ⟨q', d', m', hq', hfd', hm', hi', hn', hk'⟩ := dir_node hd2
            have : q' = q := by simp only at hq'; omega
            subst this
            rw [hfd] at hfd'
            injection hfd' with hfd'
            subst hfd'
            simp only at hi'
            by_cases h1 : ino = 1
            · cases ho : onL s a.1 with
              | none => exact ⟨1, .inr fun b hb => by simp [stepR, h1, ho] at hb⟩
              | some on =>
                obtain ⟨k, hk⟩ := ih on (by have := pos_on hv ho; omega)
                refine ⟨k + 1, .inr fun b hb => ?_⟩
                simp [stepR, h1, ho] at hb
                rw [← hb]; exact hk
            · obtain ⟨k, hk⟩ := ihr m'.parent (by have := hrk m' hm' (by omega) hk'; rw [hi'] at this; omega)
              refine ⟨k + 1, .inr fun b hb => ?_⟩
              simp [stepR, h1, hn'] at hb
              rw [← hb]; exact hk
      exact key (rk a.2 + 1) a.2 (by omega)
theorem chain_no {s : Spc} {a : Fil} (h : dirL s.files a = false) : ∀ k, chainP s k a = []
  | 0 => rfl
  | k + 1 => by unfold chainP; rw [h]; rfl
theorem chain_yes {s : Spc} {a : Fil} (h : ¬ dirL s.files a = false) (k : Nat) : chainP s (k + 1) a = a :: (match stepC s a with
    | none => []
    | some b => chainP s k b) := by
  conv => lhs; unfold chainP
  rw [if_pos (by simpa using h)]
  cases stepC s a <;> rfl
theorem chain_irr {s : Spc} (hv : SpcV s) : ∀ (k k' : Nat) (a : Fil), ends s k a → ends s k' a → chainP s k a = chainP s k' a := by
  intro k
  induction k with
  | zero => intro k' a h _; rw [chain_no h, chain_no h]
  | succ k ih =>
    intro k' a h h'
    by_cases hd : dirL s.files a = false
    · rw [chain_no hd, chain_no hd]
    · cases k' with
      | zero => exact absurd h' hd
      | succ k' =>
        rw [chain_yes hd, chain_yes hd]
        have h1 := h.resolve_left hd
        have h2 := h'.resolve_left hd
        rw [← step_eq hv hd] at h1 h2
        cases hs : stepC s a with
        | none => rfl
        | some b => simp only; rw [ih k' b (h1 b hs) (h2 b hs)]
theorem chain_mem {s : Spc} (hv : SpcV s) : ∀ (k : Nat) (a x : Fil), ends s k a → x ∈ chainP s k a → (¬ dirL s.files x = false) ∧ ∃ j, ends s j x ∧ (chainP s j x).length ≤ (chainP s k a).length := by
  intro k
  induction k with
  | zero => intro a x h hx; cases hx
  | succ k ih =>
    intro a x h hx
    by_cases hd : dirL s.files a = false
    · rw [chain_no hd] at hx; cases hx
    · have h1 := h.resolve_left hd
      rw [← step_eq hv hd] at h1
      rw [chain_yes hd] at hx
      rcases List.mem_cons.1 hx with rfl | hx
      · exact ⟨hd, k + 1, h, Nat.le_refl _⟩
      · rw [chain_yes hd]
        cases hs : stepC s a with
        | none => rw [hs] at hx; cases hx
        | some b =>
          rw [hs] at hx
          obtain ⟨h2, j, h3, h4⟩ := ih b x (h1 b hs) hx
          exact ⟨h2, j, h3, by simp; omega⟩
theorem chain_nodup {s : Spc} (hv : SpcV s) : ∀ (k : Nat) (a : Fil), ends s k a → (chainP s k a).Nodup := by
  intro k
  induction k with
  | zero => intro a h; exact List.nodup_nil
  | succ k ih =>
    intro a h
    by_cases hd : dirL s.files a = false
    · rw [chain_no hd]; exact List.nodup_nil
    · have h1 := h.resolve_left hd
      rw [← step_eq hv hd] at h1
      cases hs : stepC s a with
      | none => rw [chain_yes hd, hs]; simp
      | some b =>
        have e : chainP s (k + 1) a = a :: chainP s k b := by rw [chain_yes hd, hs]
        rw [e, List.nodup_cons]
        refine ⟨fun hm => ?_, ih b (h1 b hs)⟩
        obtain ⟨_, j, h3, h4⟩ := chain_mem hv k b a (h1 b hs) hm
        rw [chain_irr hv j (k + 1) a h3 h, e] at h4
        simp at h4
        omega
def allN : Nat → Fls → List Fil
  | _, [] => []
  | q, d :: ds => d.nodes.map (fun n => ((q : Int), n.ino)) ++ allN (q + 1) ds
theorem allN_len : ∀ (f : Fls) (q : Nat), (allN q f).length = mostL f
  | [], _ => rfl
  | d :: ds, q => by
    have := allN_len ds (q + 1)
    unfold mostL at this ⊢
    simp only [allN, List.length_append, List.length_map, List.map_cons, List.sum_cons]
    omega
theorem allN_mem : ∀ (f : Fls) (q i : Nat) (d : Dvc) (m : Nod), f[i]? = some d → m ∈ d.nodes → (((q + i : Nat) : Int), m.ino) ∈ allN q f
  | [], _, i, _, _, h, _ => by simp at h
  | d0 :: ds, q, 0, d, m, h, hm => by
    simp only [List.getElem?_cons_zero, Option.some.injEq] at h
    subst h
    simp only [allN, Nat.add_zero]
    exact List.mem_append_left _ (List.mem_map.2 ⟨m, hm, rfl⟩)
  | d0 :: ds, q, i + 1, d, m, h, hm => by
    simp only [List.getElem?_cons_succ] at h
    have := allN_mem ds (q + 1) i d m h hm
    simp only [allN]
    refine List.mem_append_right _ ?_
    rwa [show q + (i + 1) = q + 1 + i by omega]
theorem nodup_le {l : List Fil} (hn : l.Nodup) : ∀ {m : List Fil}, (∀ x ∈ l, x ∈ m) → l.length ≤ m.length := by
  induction l with
  | nil => intro m _; simp
  | cons x xs ih =>
    intro m h
    rw [List.nodup_cons] at hn
    have h1 := ih hn.2 (m := m.erase x) fun y hy => by
      have hne : y ≠ x := fun e => hn.1 (e ▸ hy)
      exact (List.mem_erase_of_ne hne).2 (h y (List.mem_cons_of_mem _ hy))
    have h2 := List.length_erase_of_mem (h x (List.mem_cons_self ..))
    have h3 : 0 < m.length := List.length_pos_of_mem (h x (List.mem_cons_self ..))
    simp only [List.length_cons]
    omega
theorem chain_le {s : Spc} (hv : SpcV s) {k : Nat} {a : Fil} (h : ends s k a) : (chainP s k a).length ≤ mostL s.files := by
  rw [← allN_len s.files 0]
  refine nodup_le (chain_nodup hv k a h) fun x hx => ?_
  obtain ⟨hd, _⟩ := chain_mem hv k a x h hx
  obtain ⟨q, d, m, h1, h2, h3, h4, _⟩ := dir_node hd
  have := allN_mem s.files 0 q d m h2 h3
  rw [Nat.zero_add, h4, ← h1] at this
  exact this
theorem ends_len {s : Spc} (hv : SpcV s) : ∀ (k m : Nat) (a : Fil), ends s k a → (chainP s k a).length ≤ m → ends s m a := by
  intro k
  induction k with
  | zero =>
    intro m a h _
    cases m with
    | zero => exact h
    | succ m => exact .inl h
  | succ k ih =>
    intro m a h hl
    by_cases hd : dirL s.files a = false
    · cases m with
      | zero => exact hd
      | succ m => exact .inl hd
    · have h1 := h.resolve_left hd
      rw [chain_yes hd] at hl
      cases m with
      | zero => simp at hl
      | succ m =>
        refine .inr fun b hb => ?_
        have hb' := hb
        rw [← step_eq hv hd] at hb'
        rw [hb'] at hl
        exact ih m b (h1 b hb) (by simpa using hl)
theorem ends_most {s : Spc} (hv : SpcV s) (a : Fil) : ends s (mostL s.files) a := by
  obtain ⟨k, hk⟩ := ends_ex hv (posM s a.1 + 1) a (Nat.lt_succ_self _)
  exact ends_len hv k _ a hk (chain_le hv hk)
end Go.Proofs.Ytgliiknfmlmddaa
namespace Go.Proofs.Ytgliiknfmlmddaa

section
variable {s : Spc} (hv : SpcV s)
include hv
theorem within_dir {a b : Fil} (h : a ∈ chainP s (mostL s.files) b) : dirL s.files a = true := by
  have := (chain_mem hv _ b a (ends_most hv b) h).1
  simpa using this
end
end Go.Proofs.Ytgliiknfmlmddaa
namespace Go.Proofs.Ytgliiknfmlmddaa
open Go.RowKit Go.Shelf
section
variable {F : Fence} {n : Nat} {P : Program}

theorem wpIn_rangeFunc_sa {α : Type} {g : Operand} {ps : Array Tmp} {assign body : Code} {Q : Exit → Act → World → Prop} {a : Act} {w : World}
    (hro : F.round = none) (h1 : 1 ≤ n) {gf : Nat} {lb : Array Value} (hg : a.eval g = .func (.func gf) #[] lb) (hFg : F.fn gf) (eg : ∀ args w, (callFunc gf args).run P w = .ok (.enter gf args) w)
    {encs : α → Array Value} {own : Nat → Prop} {Kp : World → World → Prop} {Pf : List α → Prop} {S Sp : List α → Prop} {w0 : World} (hseq : SeqW F (n - 1) P gf lb encs own Kp Pf S Sp w0)
    (hown : ∀ b, own b → b < w.heap.size) (hKt : ∀ {A B C : World}, Kp A B → Kp B C → Kp A C) (hKb : ∀ (W : World) (l : Nat) (o o' : Obj), w.heap.size ≤ l → W.heap[l]? = some o → o.isCells = false → Kp W (W.putObj l o'))
    (hb0 : Below w0.heap.size w0 w) (hps : ∀ x, (encs x).size = ps.size)
    (I : List α → World → Prop) (Ix : Code → List α → World → Prop) (hI : ∀ s X Y, I s X → Moves own w.heap.size X Y → I s Y) (hIx : ∀ c s X Y, Ix c s X → Moves own w.heap.size X Y → Ix c s Y) (h0 : I [] w) (a₁ : α → World → Act) (w₁ : α → World → World) (hw1 : ∀ x W, w.heap.size + 2 ≤ W.heap.size → Below W.heap.size W (w₁ x W) ∧ Kp W (w₁ x W))
    (hassign : ∀ (l : Nat) (x : α) (W : World) (K : Act → World → Prop), w.heap.size + 2 ≤ W.heap.size → K (a₁ x W) (w₁ x W) →
      assign.wpIn (F.inRound l) (n - 1 - 1) P (Exit.then K (fun _ _ _ => False)) { tmps := (ps.zip (encs x)).foldl (fun t (p, v) => t.setIfInBounds p v) a.tmps, defers := [] } W)
    (hbody : ∀ (l : Nat) (pre : List α) (x : α) (W0 W : World), I pre W → Pf (pre ++ [x]) → w.heap.size + 2 ≤ W0.heap.size → (w₁ x W0).heap.size ≤ W.heap.size → (∀ (k : Nat) (o : Obj), (w₁ x W0).heap[k]? = some o → o.isCells = true → W.heap[k]? = some o) → w.heap.size ≤ l → (∃ r, W.heap[l]? = some (.loop r)) →
      body.wpIn (F.inRound l) (n - 1 - 1) P (ownPostG w.heap.size Kp I Ix (pre ++ [x]) W) (a₁ x W0) W)
    (hdone : ∀ (D : Nat) (xs : List α) (W : World), w.heap.size ≤ D → S xs → I xs W → W.heap[D]? = some (.deferred (some [])) → Q .normal { a with defers := { target := .collected D, args := #[] } :: a.defers } W)
    (hstop : ∀ (D : Nat) (c : Code) (pre : List α) (W : World), w.heap.size ≤ D → Sp pre → Ix c pre W → W.heap[D]? = some (.deferred (some [])) → c.wpIn F n P Q { a with defers := { target := .collected D, args := #[] } :: a.defers } W) :
    (Code.rangeFunc g ps assign body).wpIn F n P Q a w := by
  refine wpIn_rangeFunc ?_
  intro fn hfn
  rw [hro]
  obtain ⟨rec, hrec⟩ : ∃ rec : LoopState → Option Code → Loop, rec = fun st pe => { state := st, pending := pe, fn, tmps := a.tmps, params := ps, assign, body, defers := w.heap.size } := ⟨_, rfl⟩
  obtain ⟨W1, hW1⟩ : ∃ W1, (w.alloc (.deferred (some []))).alloc (.loop (rec .ready none)) = W1 := ⟨_, rfl⟩
  have hbw : Below w.heap.size w W1 := by rw [← hW1]; exact below_a2 w _ _
  have hsz : W1.heap.size = w.heap.size + 2 := by rw [← hW1]; simp
  have hL1 : W1.heap[w.heap.size + 1]? = some (.loop (rec .ready none)) := by rw [← hW1]; exact blk_a2_1 _ _ _
  have hK1 : W1.heap[w.heap.size]? = some (.deferred (some [])) := by rw [← hW1]; exact blk_a2_0 _ _ _
  have hn0 : ¬ own w.heap.size := fun h => by have := hown _ h; omega
  have hn1 : ¬ own (w.heap.size + 1) := fun h => by have := hown _ h; omega
  refine ⟨w.heap.size + 1, [{ target := .collected w.heap.size, args := #[] }], W1, { target := .fn (.func gf) lb, args := #[.func (.yield (w.heap.size + 1)) #[] #[]] }, W1, gf,
    #[.func (.yield (w.heap.size + 1)) #[] #[]] ++ lb, W1, ?_, ?_, ?_, ?_, fun _ => h1, ?_⟩
  · rw [← hW1, hrec]; exact run_enterLoop_outer _ _ _ _ _
  · simp only [resolve, hg]
    simp [go_sem]
  · intro f' hf'; simp [Target.leads] at hf'; subst hf'; exact hFg
  · simp [invoke, go_sem, eg]
  · have lt_of : ∀ {W : World} {k : Nat} {o : Obj}, W.heap[k]? = some o → k < W.heap.size := fun h => (Array.getElem?_eq_some_iff.1 h).1
    have keep : ∀ {X Y : World} {k : Nat} {o : Obj}, Moves own W1.heap.size X Y → X.heap[k]? = some o → k < W1.heap.size → ¬ own k → Y.heap[k]? = some o := fun hm hx hk hn => (hm.block _ (lt_of hx) hn (.inl hk)).trans hx
    refine (hseq (w.heap.size + 1)
      (fun pre W => I pre W ∧ W.heap[w.heap.size + 1]? = some (.loop (rec .ready none)) ∧ W.heap[w.heap.size]? = some (.deferred (some [])))
      (fun pre W => ∃ c, Ix c pre W ∧ W.heap[w.heap.size + 1]? = some (.loop (rec .done (some c))) ∧ W.heap[w.heap.size]? = some (.deferred (some [])))
      W1 (hb0.trans (hbw.mono hb0.size))
      (fun s X Y hs hm => ⟨hI s X Y hs.1 (hm.mono (by omega)), keep hm hs.2.1 (by omega) hn1, keep hm hs.2.2 (by omega) hn0⟩)
      (fun s X Y hs hm => by
        obtain ⟨c, hc, hl, hk⟩ := hs
        exact ⟨c, hIx c s X Y hc (hm.mono (by omega)), keep hm hl (by omega) hn1, keep hm hk (by omega) hn0⟩)
      ?_ ⟨hI _ _ _ h0 (.below hbw), hL1, hK1⟩).mono ?_
    · rintro pre x W0 ⟨hi0, hl0, hk0⟩ hpf
      have hlt0 : w.heap.size + 1 < W0.heap.size := lt_of hl0
      obtain ⟨hbV, hkV⟩ := hw1 x W0 hlt0
      obtain ⟨W, hWe⟩ : ∃ W, w₁ x W0 = W := ⟨_, rfl⟩
      rw [hWe] at hbV hkV
      have hi : I pre W := hI _ _ _ hi0 (.below hbV)
      have hl := (hbV.block _ (by omega)).trans hl0
      have hk := (hbV.block _ (by omega)).trans hk0
      have hlt : w.heap.size + 1 < W.heap.size := lt_of hl
      have hy := run_yield (P := P) (args := encs x) hl0 (by rw [hrec]; exact hps x)
      rw [hrec] at hy
      refine ⟨fn, _, assign, body, hy, roundIn_of_wpIn hfn (hassign _ x W0 _ hlt0 ⟨_, run_beginRound (by rw [hWe]; exact hl) (by rw [hrec]), ?_⟩)⟩
      rw [hWe]
      have hl2 : (W.putObj (w.heap.size + 1) (.loop { rec .ready none with state := .busy })).heap[w.heap.size + 1]? = some (.loop { rec .ready none with state := .busy }) := World.putObj_heap_same hlt
      have hk2 : (W.putObj (w.heap.size + 1) (.loop { rec .ready none with state := .busy })).heap[w.heap.size]? = some (.deferred (some [])) := (World.putObj_heap_other (by omega)).trans hk
      have hw2 : Kp W0 (W.putObj (w.heap.size + 1) (.loop { rec .ready none with state := .busy })) := hKt hkV (hKb _ _ _ _ (by omega) hl rfl)
      refine wpIn_mono (hbody _ pre x W0 _ (hI _ _ _ hi (.put_ _ hl rfl (by omega))) hpf hlt0 (by rw [hWe]; exact (grownBy_putObj' W (w.heap.size + 1) _).size) (fun k o hko hoc => by
        rw [hWe] at hko
        refine (World.putObj_heap_other fun e => ?_).trans hko
        subst e
        rw [hl] at hko
        injection hko with hko
        subst hko
        cases hoc) (by omega) ⟨_, hl2⟩) ?_
      have fin : ∀ (jump : Option Code) (W3 : World), KeepsFrom w.heap.size (W.putObj (w.heap.size + 1) (.loop { rec .ready none with state := .busy })) W3 →
          (Instr.endRound (w.heap.size + 1) jump).run P W3 = .ok (.bool jump.isNone) (W3.putObj (w.heap.size + 1) (.loop (rec (if jump.isNone then .ready else .done) jump))) ∧
          W3.heap[w.heap.size + 1]? = some (.loop { rec .ready none with state := .busy }) ∧
          (W3.putObj (w.heap.size + 1) (.loop (rec (if jump.isNone then .ready else .done) jump))).heap[w.heap.size + 1]? = some (.loop (rec (if jump.isNone then .ready else .done) jump)) ∧
          (W3.putObj (w.heap.size + 1) (.loop (rec (if jump.isNone then .ready else .done) jump))).heap[w.heap.size]? = some (.deferred (some [])) := fun jump W3 hk3 => by
        have hl3 := hk3.same _ _ (by omega) hl2 rfl
        have := run_endRound (P := P) jump hl3
        rw [hrec] at this ⊢
        exact ⟨this, by rw [hrec] at hl3; exact hl3, World.putObj_heap_same (lt_of hl3), (World.putObj_heap_other (by omega)).trans (hk3.same _ _ (Nat.le_refl _) hk2 rfl)⟩
      rintro e a3 W3 hp
      cases e with
      | normal =>
        obtain ⟨hk3, hkp3, hi3⟩ := hp
        obtain ⟨hr, hl3, hl4, hk4⟩ := fin none W3 hk3
        exact ⟨_, _, hr, .inl ⟨rfl, ⟨hI _ _ _ hi3 (.put_ _ hl3 rfl (by omega)), hl4, hk4⟩, hKt (hKt hw2 hkp3) (hKb _ _ _ _ (by omega) hl3 rfl)⟩⟩
      | ret =>
        obtain ⟨hk3, hi3⟩ := hp
        obtain ⟨hr, hl3, hl4, hk4⟩ := fin (some .ret) W3 hk3
        exact ⟨_, _, hr, .inr ⟨rfl, .ret, hIx _ _ _ _ hi3 (.put_ _ hl3 rfl (by omega)), hl4, hk4⟩⟩
      | exit id =>
        obtain ⟨hk3, hi3⟩ := hp
        obtain ⟨hr, hl3, hl4, hk4⟩ := fin (some (.exit id)) W3 hk3
        exact ⟨_, _, hr, .inr ⟨rfl, .exit id, hIx _ _ _ _ hi3 (.put_ _ hl3 rfl (by omega)), hl4, hk4⟩⟩
      | goto t =>
        obtain ⟨hk3, hi3⟩ := hp
        obtain ⟨hr, hl3, hl4, hk4⟩ := fin (some (.goto t)) W3 hk3
        exact ⟨_, _, hr, .inr ⟨rfl, .goto t, hIx _ _ _ _ hi3 (.put_ _ hl3 rfl (by omega)), hl4, hk4⟩⟩
      | panic ch => exact hp.elim
      | outgrown => exact hp.elim
    · rintro e W2 ⟨⟨v, rfl⟩, (⟨xs, hS, hi, hl, hk⟩ | ⟨pre, hSp, c, hi, hl, hk⟩)⟩
      · exact ⟨none, _, by have := run_endLoop (P := P) hl (by rw [hrec]; simp); rw [hrec] at this; exact this, hdone _ xs _ (Nat.le_refl _) hS (hI _ _ _ hi (.put_ _ hl rfl (by omega))) ((World.putObj_heap_other (by omega)).trans hk)⟩
      · exact ⟨some c, _, by have := run_endLoop (P := P) hl (by rw [hrec]; simp); rw [hrec] at this; exact this, hstop _ c pre _ (Nat.le_refl _) hSp (hIx _ _ _ _ hi (.put_ _ hl rfl (by omega))) ((World.putObj_heap_other (by omega)).trans hk)⟩

end
theorem lt_some {W : World} {k : Nat} {o : Obj} (h : W.heap[k]? = some o) : k < W.heap.size := (Array.getElem?_eq_some_iff.1 h).1
attribute [local go_sem] Oper.semAt_some
end Go.Proofs.Ytgliiknfmlmddaa
namespace Go.Proofs.Ytgliiknfmlmddaa
open Go.RowKit Go.Shelf
attribute [local go_sem] Oper.semAt_some
set_option maxRecDepth 100000 in
set_option maxHeartbeats 2000000 in
theorem crosses_o (n : Nat) (hn : Hid (1 ≤ n)) (s : Spc) (hs : SpcB s) (dir : Fil) (dev : Int) (ds ms : Value) (w : World) (h : SpcIn s w.heap.size w ds ms) :
    CallsIn Fence.wide n Try.prog 64 #[.agg #[ds, ms], FilV dir, .int .i64 dev] w fun e w' => e = .returned (.bool (decide (∃ x ∈ chainP s (mostL s.files) dir, x.1 = dev))) ∧ Below w.heap.size w w' := by
  obtain ⟨dd, di⟩ := dir
  unfold FilV
  refine callsIn_of_wp_marks Try.func64 rfl trivial ?_ rfl
  simp only [Try.ntmps64, List.size_toArray, List.length_cons, List.length_nil, Nat.reduceAdd, Nat.reduceSub, Array.replicate_succ, Array.replicate_zero, List.push_toArray, List.append_toArray, List.nil_append, List.cons_append]
  gi_wp2_with fail
  obtain ⟨W4, hW4⟩ : ∃ W4, (((w.alloc (.cells #[ds, ms] 32)).alloc (.cells #[.int .i64 dd, .int .i64 di] 24)).alloc (.cells #[.int .i64 dev] 3)).alloc (.cells #[.bool false] 4) = W4 := ⟨_, rfl⟩
  have hz4 : W4.heap.size = w.heap.size + 4 := by rw [← hW4]; simp
  have hB4 : Below w.heap.size w W4 := by rw [← hW4]; exact below_a4 _ _ _ _ _
  have kR : Boxed W4 (w.heap.size + 1 + 1) 3 (.int .i64 dev) := by rw [← hW4]; exact blk_a4_2 _ _ _ _ _
  have kE : Boxed W4 (w.heap.size + 1 + 1 + 1) 4 (.bool false) := by rw [← hW4]; exact blk_a4_3 _ _ _ _ _
  rw [hW4]
  have HZ4 := Lib.hid hz4
  clear hW4
  refine wideCall ((callsIn_wide.2 (chain_any ds ms (dd, di) W4)).mono ?_)
  rintro e W6 ⟨rfl, hW6⟩
  have hB6 : Below W4.heap.size W4 W6 := by rw [hW6]; exact below_a2 _ _ _
  have hz6 : W6.heap.size = w.heap.size + 6 := by rw [hW6]; simp [hz4]
  have kS : W6.heap[W4.heap.size]? = some (.cells #[ds, ms] 32) := by rw [hW6]; exact blk_a2_0 _ _ _
  have kD : W6.heap[W4.heap.size + 1]? = some (.cells #[.int .i64 dd, .int .i64 di] 24) := by rw [hW6]; exact blk_a2_1 _ _ _
  have kR6 : Boxed W6 (w.heap.size + 1 + 1) 3 (.int .i64 dev) := blk_below kR hB6 (by omega)
  have kE6 : Boxed W6 (w.heap.size + 1 + 1 + 1) 4 (.bool false) := blk_below kE hB6 (by omega)
  have hBw : Below w.heap.size w W6 := hB4.trans (hB6.mono (by omega))
  have kSp := h.below hBw (Nat.le_refl _)
  have HZ6 := Lib.hid hz6
  clear hW6 kR kE hB4 hB6 hz6 hz4
  gi_wp2_with fail
  refine wpIn_rangeFunc_sa rfl hn.out (gf := 86) rfl trivial (enters_of Try.func86 (by kernel_rfl) rfl)
    (chain1 (n - 1) s hs (dd, di) w.heap.size W4.heap.size (W4.heap.size + 1) ds ms W6 kS kD kSp (by have := HZ4.out; omega) (by have := HZ4.out; omega) (by omega))
    (fun b hb => by have := HZ4.out; have := HZ6.out; omega) KeepC.trans (fun W l o o' hl ho hc => by have := HZ4.out; have := HZ6.out; exact keepC_put (B := W6.heap.size) (by omega) (by omega) (by omega) W l o o' hl ho hc) (Below.refl _ _) (fun _ => rfl)
    (fun pre W => Boxed W (w.heap.size + 1 + 1) 3 (.int .i64 dev) ∧ Boxed W (w.heap.size + 1 + 1 + 1) 4 (.bool false) ∧ ¬ (∃ y ∈ pre, y.1 = dev) ∧ Below w.heap.size w W)
    (fun c pre W => c = .ret ∧ Boxed W (w.heap.size + 1 + 1 + 1) 4 (.bool true) ∧ (∃ y ∈ pre, y.1 = dev) ∧ Below w.heap.size w W)
    (fun s X Y h hm => ⟨hm.boxed h.1 (by have := HZ4.out; omega), hm.boxed h.2.1 (by have := HZ4.out; omega), h.2.2.1, hm.under h.2.2.2 (Nat.le_refl _) (fun b hb => by have := HZ4.out; omega) (by have := HZ6.out; omega)⟩)
    (fun c s X Y h hm => ⟨h.1, hm.boxed h.2.1 (by have := HZ4.out; omega), h.2.2.1, hm.under h.2.2.2 (Nat.le_refl _) (fun b hb => by have := HZ4.out; omega) (by have := HZ6.out; omega)⟩)
    ⟨kR6, kE6, by simp, hBw⟩
    (fun x W => { tmps := #[.agg #[ds, ms], .agg #[.int .i64 dd, .int .i64 di], .int .i64 dev, .pointer (some ⟨w.heap.size, 0, none⟩), .pointer (some ⟨w.heap.size + 1, 0, none⟩), .pointer (some ⟨w.heap.size + 1 + 1, 0, none⟩), .pointer (some ⟨w.heap.size + 1 + 1 + 1, 0, none⟩), .pointer (some ⟨W.heap.size, 0, none⟩), .agg #[ds, ms], .agg #[.int .i64 dd, .int .i64 di],
      .func (.func 86) #[] #[.pointer (some ⟨W4.heap.size, 0, none⟩), .pointer (some ⟨W4.heap.size + 1, 0, none⟩)], .agg #[.int .i64 x.1, .int .i64 x.2], undef, undef, undef, undef], defers := [] })
    (fun x W => W.alloc (.cells #[.int .i64 x.1, .int .i64 x.2] 24))
    (fun x W hsz => ⟨below_a1 _ _, by have := HZ4.out; have := HZ6.out; exact keepC_below (below_a1 _ _) (by omega) (by omega) (by omega)⟩) ?assign ?body ?done ?stop
  case assign =>
    intro l x W K hsz hK
    unfold FilV
    gi_wp2
    exact hK
  case body =>
    rintro l pre x W0 W ⟨c1, cE, hnm, hbw⟩ _ hsz hszW hcell _ _
    have cX := hcell _ _ (blk_a1_0 W0 (.cells #[.int .i64 x.1, .int .i64 x.2] 24)) rfl
    have HN := Lib.hid hnm
    have HZ := Lib.hid hsz
    clear hnm hsz hcell
    have c1' := c1.cell
    have f1' := c1.frozen
    obtain ⟨cX', fX'⟩ := cells_of cX
    have cE' := cE.cell
    have fE' := cE.frozen
    have h4 := HZ4.out
    have h6 := HZ6.out
    simp only [size_a1] at hszW
    gi_wp2_with fail
    · exact ⟨keepsFrom_set (keepsFrom_below (Below.refl _ _)) (by omega) _, rfl, cE.set _, ⟨x, by simp, by simp_all⟩, hbw.setCell (by show w.heap.size ≤ w.heap.size + 1 + 1 + 1; omega) _⟩
    all_goals
      have hz := HZ.out
      exact ⟨keepsFrom_below (Below.refl _ _), keepC_below (Below.refl _ _) (by omega) (by omega) (by omega), c1, cE, by
        rintro ⟨y, hm, he⟩
        rcases List.mem_append.1 hm with hm | hm
        · exact HN.out ⟨y, hm, he⟩
        · simp only [List.mem_singleton] at hm
          subst hm
          simp_all, hbw⟩
  case done =>
    rintro D xs W hD hS ⟨_, hc, hnm, hbw⟩ hK
    have HS := Lib.hid hS
    have HN := Lib.hid hnm
    clear hS hnm
    have hcell := hc.cell
    have hfz := hc.frozen
    gi_wp2
    have h4 := HZ4.out
    have h6 := HZ6.out
    refine ⟨by simp, .inl ⟨_, _, rfl, run_takeDeferred ((KeepsOthers.setCell _ _ _).same D _ hK rfl), ?_⟩⟩
    have hcb := (boxed_put (hc.set (.bool false)) (show w.heap.size + 1 + 1 + 1 ≠ D by omega) (.deferred none)).cell
    refine ⟨.bool false, by simp [results, Try.f64, go_sem, hcb], by rw [decide_eq_false (by rw [← HS.out]; exact HN.out)], below_put (hbw.setCell (p := ⟨w.heap.size + 1 + 1 + 1, 0, none⟩) (by show w.heap.size ≤ w.heap.size + 1 + 1 + 1; omega) _) (by omega) _⟩
  case stop =>
    rintro D c pre W hD hSp ⟨rfl, hc, hnm, hbw⟩ hK
    have HS := Lib.hid hSp
    have HN := Lib.hid hnm
    clear hSp hnm
    have hcell := hc.cell
    gi_wp2
    have h4 := HZ4.out
    have h6 := HZ6.out
    refine ⟨by simp, .inl ⟨_, _, rfl, run_takeDeferred hK, ?_⟩⟩
    have hcb := (boxed_put hc (show w.heap.size + 1 + 1 + 1 ≠ D by omega) (.deferred none)).cell
    refine ⟨.bool true, by simp [results, Try.f64, go_sem, hcb], by rw [decide_eq_true (HN.out.imp fun y hy => ⟨HS.out.subset hy.1, hy.2⟩)], below_put hbw (by omega) _⟩
end Go.Proofs.Ytgliiknfmlmddaa
namespace Go.Proofs.Ytgliiknfmlmddaa
open Go.RowKit

def abvL (s : Spc) (a : Fil) : Nod := nodG s.files (a.1, (nodG s.files a).parent)
def nmoL (s : Spc) (a : Fil) : Str := (((abvL s a).entries.find? fun e : Ent => decide (e.2 = a.2)).map (·.1)).getD ⟨#[]⟩
section
set_option maxRecDepth 10000
set_option maxHeartbeats 1000000
theorem PnameOf (s : Spc) (a : Fil) (hs : SpcB s) : AFn Try.prog 57 [.agg (spcA s), .agg (filA a)] (fun r => r = .v (.string (nmoL s a))) := by
  have hen := nodG_ents hs.files (a.1, (nodG s.files a).parent)
  change (abvL s a).entries.length ≤ 1000 at hen
  refine enter Try.func57 rfl rfl rfl rfl rfl 0 rfl ?_
  refine w_ (b_ (h:=b_ (h:=a_ (h:=e_ (w_ (f_ (h:=l_ (h:=l_ (h:=?_)))))))))
  refine al_p rfl (q_call (Pnode s.files a hs.files) ?_)
  rintro r rfl
  · skip
    refine m_ (h:=x_ (h:=x_ (h:=al_ (h:=s_ (h:=a_ (h:=e_ (w_ (f_ (h:=l_ (h:=f_ (h:=l_ (h:=f_ (h:=l_ (h:=bd_ (h:=?_)))))))))))))))
    refine al_p rfl (q_call (Pnode s.files (a.1, (nodG s.files a).parent) hs.files) ?_)
    rintro r rfl
    · skip
      refine m_ (h:=x_ (h:=x_ (h:=al_ (h:=s_ (h:=a_ (h:=e_ (q_ (w_ (f_ (h:=l_ (h:=n_ (h:=m_ (h:=e_ (aw_block (?_)))))))))))))))
      refine aw_loopW (fun m t => ∃ j : Nat, j ≤ (abvL s a).entries.length ∧ m = (abvL s a).entries.length - j ∧ (∀ i y, i < j → (abvL s a).entries[i]? = some y → decide (y.2 = a.2) = false) ∧ t = ⟨look [(3, .bp 1 0), (30, .sl 2 ((abvL s a).entries.map entA) none), (31, .v (.int .i64 (((abvL s a).entries.map entA).length : Int))), (32, .v (.int .i64 (j : Int)))], ⟨[spcA s, filA a], []⟩⟩) ((abvL s a).entries.length) ((wk 2 0)) (⟨0, by omega, rfl, fun i y hi => by omega, rfl⟩) ?_
      rintro m t ⟨j, hj, rfl, ha, rfl⟩
      refine w_ (lt_ (h:=e_ (q_ (?_))))
      refine aw_cond rfl (fun hb1 => ?_) (fun hb1 => ?_)
      · have hc1 := bp hb1
        obtain ⟨hlt, x, hy, hrow, -⟩ := row_at entA hc1
        refine kt_ (q_ (aw_block (w_ (i_ (h:=l_ (h:=al_ (h:=s_ (h:=e_ (w_ (f_ (h:=l_ (h:=f_ (h:=l_ (h:=eq_ (h:=e_ (?_))))))))))))))))
        refine aw_cond rfl (fun hb2 => ?_) (fun hb2 => ?_)
        · have hc2 := bp hb2
          refine w_ (f_ (h:=l_ (h:=a_ (h:=e_ (aw_ret (x_blockR (x_thenR (x_thenR (x_blockR (x_thenR (?_)))))))))))
          refine e_ret ?_
          rw [show nmoL s a = x.1 by simp only [nmoL]; rw [find_at hy (by simpa using hc2) ha]; rfl]
          rfl
        · have hc2 := bp hb2
          refine aw_skip (x_blockN (t_ (aw_region (ad_ (h:=m_ (h:=al_nil (?_)))))))
          refine x_then ?_
          refine ⟨_, _, ?_, ⟨j + 1, by omega, rfl, upto_snoc hy ha (by simpa using hc2), rfl⟩, (wk 2 0)⟩
          omega
      · have hc1 := bp hb1
        have e3 := row_no entA hj hc1
        subst e3
        refine aw_exit (x_thenE (x_thenE (ABlock_out (t_ (w_ (a_ (h:=e_ (aw_ret (?_)))))))))
        refine e_ret ?_
        rw [show nmoL s a = ⟨#[]⟩ by simp only [nmoL]; rw [find_no ha]; rfl]
        rfl

end
end Go.Proofs.Ytgliiknfmlmddaa
namespace Go.Proofs.Ytgliiknfmlmddaa
open Go.RowKit Go.Shelf
section
variable {F : Fence} {n : Nat} {P : Program}

theorem wpIn_rangeFunc_sn {α : Type} {g : Operand} {ps : Array Tmp} {assign body : Code} {Q : Exit → Act → World → Prop} {a : Act} {w : World}
    {l₀ : Nat} {r₀ : Loop} (hro : F.round = some l₀) (hl₀ : w.heap[l₀]? = some (.loop r₀)) (h1 : 1 ≤ n) {gf : Nat} {lb : Array Value} (hg : a.eval g = .func (.func gf) #[] lb) (hFg : F.fn gf) (eg : ∀ args w, (callFunc gf args).run P w = .ok (.enter gf args) w)
    {encs : α → Array Value} {own : Nat → Prop} {Kp : World → World → Prop} {Pf : List α → Prop} {S Sp : List α → Prop} {w0 : World} (hseq : SeqW F (n - 1) P gf lb encs own Kp Pf S Sp w0)
    (hown : ∀ b, own b → b < w.heap.size) (hKt : ∀ {A B C : World}, Kp A B → Kp B C → Kp A C) (hKb : ∀ (W : World) (l : Nat) (o o' : Obj), w.heap.size ≤ l → W.heap[l]? = some o → o.isCells = false → Kp W (W.putObj l o'))
    (hb0 : Below w0.heap.size w0 w) (hps : ∀ x, (encs x).size = ps.size)
    (I : List α → World → Prop) (Ix : Code → List α → World → Prop) (hI : ∀ s X Y, I s X → Moves own w.heap.size X Y → I s Y) (hIx : ∀ c s X Y, Ix c s X → Moves own w.heap.size X Y → Ix c s Y) (h0 : I [] w) (a₁ : α → Act)
    (hassign : ∀ (l : Nat) (x : α) (W : World) (K : Act → World → Prop), K (a₁ x) W →
      assign.wpIn (F.inRound l) (n - 1 - 1) P (Exit.then K (fun _ _ _ => False)) { tmps := (ps.zip (encs x)).foldl (fun t (p, v) => t.setIfInBounds p v) a.tmps, defers := [] } W)
    (hbody : ∀ (l : Nat) (pre : List α) (x : α) (W : World), I pre W → Pf (pre ++ [x]) → w.heap.size + 1 ≤ W.heap.size → body.wpIn (F.inRound l) (n - 1 - 1) P (ownPostG w.heap.size Kp I Ix (pre ++ [x]) W) (a₁ x) W)
    (hdone : ∀ (xs : List α) (W : World), S xs → I xs W → Q .normal a W)
    (hstop : ∀ (c : Code) (pre : List α) (W : World), Sp pre → Ix c pre W → c.wpIn F n P Q a W) :
    (Code.rangeFunc g ps assign body).wpIn F n P Q a w := by
  refine wpIn_rangeFunc ?_
  intro fn hfn
  rw [hro]
  obtain ⟨rec, hrec⟩ : ∃ rec : LoopState → Option Code → Loop, rec = fun st pe => { state := st, pending := pe, fn, tmps := a.tmps, params := ps, assign, body, defers := r₀.defers } := ⟨_, rfl⟩
  obtain ⟨W1, hW1⟩ : ∃ W1, w.alloc (.loop (rec .ready none)) = W1 := ⟨_, rfl⟩
  have hbw : Below w.heap.size w W1 := by rw [← hW1]; exact below_a1 w _
  have hsz : W1.heap.size = w.heap.size + 1 := by rw [← hW1]; simp
  have hL1 : W1.heap[w.heap.size]? = some (.loop (rec .ready none)) := by rw [← hW1]; exact blk_a1_0 _ _
  have hn1 : ¬ own w.heap.size := fun h => by have := hown _ h; omega
  refine ⟨w.heap.size, [], W1, { target := .fn (.func gf) lb, args := #[.func (.yield w.heap.size) #[] #[]] }, W1, gf,
    #[.func (.yield w.heap.size) #[] #[]] ++ lb, W1, ?_, ?_, ?_, ?_, fun _ => h1, ?_⟩
  · rw [← hW1, hrec]; exact run_enterLoop_inner hl₀ _ _ _ _ _
  · simp only [resolve, hg]
    simp [go_sem]
  · intro f' hf'; simp [Target.leads] at hf'; subst hf'; exact hFg
  · simp [invoke, go_sem, eg]
  · have lt_of : ∀ {W : World} {k : Nat} {o : Obj}, W.heap[k]? = some o → k < W.heap.size := fun h => (Array.getElem?_eq_some_iff.1 h).1
    have keep : ∀ {X Y : World} {k : Nat} {o : Obj}, Moves own W1.heap.size X Y → X.heap[k]? = some o → k < W1.heap.size → ¬ own k → Y.heap[k]? = some o := fun hm hx hk hn => (hm.block _ (lt_of hx) hn (.inl hk)).trans hx
    refine (hseq w.heap.size
      (fun pre W => I pre W ∧ W.heap[w.heap.size]? = some (.loop (rec .ready none)))
      (fun pre W => ∃ c, Ix c pre W ∧ W.heap[w.heap.size]? = some (.loop (rec .done (some c))))
      W1 (hb0.trans (hbw.mono hb0.size))
      (fun s X Y hs hm => ⟨hI s X Y hs.1 (hm.mono (by omega)), keep hm hs.2 (by omega) hn1⟩)
      (fun s X Y hs hm => by
        obtain ⟨c, hc, hl⟩ := hs
        exact ⟨c, hIx c s X Y hc (hm.mono (by omega)), keep hm hl (by omega) hn1⟩)
      ?_ ⟨hI _ _ _ h0 (.below hbw), hL1⟩).mono ?_
    · rintro pre x W ⟨hi, hl⟩ hpf
      have hlt : w.heap.size < W.heap.size := lt_of hl
      have hy := run_yield (P := P) (args := encs x) hl (by rw [hrec]; exact hps x)
      rw [hrec] at hy
      refine ⟨fn, _, assign, body, hy, roundIn_of_wpIn hfn (hassign _ x W _ ⟨_, run_beginRound hl (by rw [hrec]), ?_⟩)⟩
      have hl2 : (W.putObj w.heap.size (.loop { rec .ready none with state := .busy })).heap[w.heap.size]? = some (.loop { rec .ready none with state := .busy }) := World.putObj_heap_same hlt
      have hw2 : Kp W (W.putObj w.heap.size (.loop { rec .ready none with state := .busy })) := hKb _ _ _ _ (by omega) hl rfl
      refine wpIn_mono (hbody _ pre x _ (hI _ _ _ hi (.put_ _ hl rfl (by omega))) hpf (lt_of hl2)) ?_
      have fin : ∀ (jump : Option Code) (W3 : World), KeepsFrom w.heap.size (W.putObj w.heap.size (.loop { rec .ready none with state := .busy })) W3 →
          (Instr.endRound w.heap.size jump).run P W3 = .ok (.bool jump.isNone) (W3.putObj w.heap.size (.loop (rec (if jump.isNone then .ready else .done) jump))) ∧
          W3.heap[w.heap.size]? = some (.loop { rec .ready none with state := .busy }) ∧
          (W3.putObj w.heap.size (.loop (rec (if jump.isNone then .ready else .done) jump))).heap[w.heap.size]? = some (.loop (rec (if jump.isNone then .ready else .done) jump)) := fun jump W3 hk3 => by
        have hl3 := hk3.same _ _ (by omega) hl2 rfl
        have := run_endRound (P := P) jump hl3
        rw [hrec] at this ⊢
        exact ⟨this, by rw [hrec] at hl3; exact hl3, World.putObj_heap_same (lt_of hl3)⟩
      rintro e a3 W3 hp
      cases e with
      | normal =>
        obtain ⟨hk3, hkp3, hi3⟩ := hp
        obtain ⟨hr, hl3, hl4⟩ := fin none W3 hk3
        exact ⟨_, _, hr, .inl ⟨rfl, ⟨hI _ _ _ hi3 (.put_ _ hl3 rfl (by omega)), hl4⟩, hKt (hKt hw2 hkp3) (hKb _ _ _ _ (by omega) hl3 rfl)⟩⟩
      | ret =>
        obtain ⟨hk3, hi3⟩ := hp
        obtain ⟨hr, hl3, hl4⟩ := fin (some .ret) W3 hk3
        exact ⟨_, _, hr, .inr ⟨rfl, .ret, hIx _ _ _ _ hi3 (.put_ _ hl3 rfl (by omega)), hl4⟩⟩
      | exit id =>
        obtain ⟨hk3, hi3⟩ := hp
        obtain ⟨hr, hl3, hl4⟩ := fin (some (.exit id)) W3 hk3
        exact ⟨_, _, hr, .inr ⟨rfl, .exit id, hIx _ _ _ _ hi3 (.put_ _ hl3 rfl (by omega)), hl4⟩⟩
      | goto t =>
        obtain ⟨hk3, hi3⟩ := hp
        obtain ⟨hr, hl3, hl4⟩ := fin (some (.goto t)) W3 hk3
        exact ⟨_, _, hr, .inr ⟨rfl, .goto t, hIx _ _ _ _ hi3 (.put_ _ hl3 rfl (by omega)), hl4⟩⟩
      | panic ch => exact hp.elim
      | outgrown => exact hp.elim
    · rintro e W2 ⟨⟨v, rfl⟩, (⟨xs, hS, hi, hl⟩ | ⟨pre, hSp, c, hi, hl⟩)⟩
      · exact ⟨none, _, by have := run_endLoop (P := P) hl (by rw [hrec]; simp); rw [hrec] at this; exact this, hdone xs _ hS (hI _ _ _ hi (.put_ _ hl rfl (by omega)))⟩
      · exact ⟨some c, _, by have := run_endLoop (P := P) hl (by rw [hrec]; simp); rw [hrec] at this; exact this, hstop c pre _ hSp (hIx _ _ _ _ hi (.put_ _ hl rfl (by omega)))⟩

end

theorem hasSuffix_slash' (l : Bs) : Lib.hasSuffix l [47] = decide (l.getLast? = some 47) := by
  unfold Lib.hasSuffix
  rw [Bool.eq_iff_iff, List.isSuffixOf_iff_suffix, decide_eq_true_iff]
  rcases List.eq_nil_or_concat l with rfl | ⟨a, x, rfl⟩
  · simp
  · simp only [List.concat_eq_append, List.getLast?_concat, Option.some.injEq]
    constructor
    · rintro ⟨t, ht⟩
      have := congrArg List.getLast? ht
      simpa [eq_comm] using this
    · rintro rfl
      exact ⟨a, rfl⟩
def joinS (d m : Str) : Str := if d.data.toList.getLast? = some 47 then d ++ m else d ++ ⟨#[47]⟩ ++ m
set_option maxHeartbeats 400000 in
theorem join_o (d m : Str) (w : World) (hd : d.size ≤ 1000000) (hm : m.size ≤ 1000000) :
    Calls Try.prog 56 #[.string d, .string m] w fun e w' => e = .returned (.string (joinS d m)) ∧ w' = w := by
  have HL := Lib.hid (hasSuffix_slash' d.data.toList)
  by_cases h : d.data.toList.getLast? = some 47
  · have HJ : Hid (joinS d m = d ++ m) := Lib.hid (if_pos h)
    have HD : Hid (decide (d.data.toList.getLast? = some 47) = true) := Lib.hid (decide_eq_true h)
    clear h
    go_enter Try.func56, Try.ntmps56
    go_wp2_with fail
    refine (Try.strings_HasSuffix _ _ _ (by omega)).mono ?_
    rintro e w' ⟨rfl, rfl⟩
    rw [show ({ data := #[47] } : ByteArray).data.toList = [47] from rfl, HL.out, HD.out]
    go_wp2
    go_ret
    exact ⟨by rw [HJ.out]; rfl, rfl⟩
  · have HJ : Hid (joinS d m = d ++ ⟨#[47]⟩ ++ m) := Lib.hid (if_neg h)
    have HD : Hid (decide (d.data.toList.getLast? = some 47) = false) := Lib.hid (decide_eq_false h)
    clear h
    go_enter Try.func56, Try.ntmps56
    go_wp2_with fail
    refine (Try.strings_HasSuffix _ _ _ (by omega)).mono ?_
    rintro e w' ⟨rfl, rfl⟩
    rw [show ({ data := #[47] } : ByteArray).data.toList = [47] from rfl, HL.out, HD.out]
    go_wp2
    go_ret
    exact ⟨by rw [HJ.out]; rfl, rfl⟩
end Go.Proofs.Ytgliiknfmlmddaa
namespace Go.Proofs.Ytgliiknfmlmddaa
open Go.RowKit Go.Shelf
attribute [local go_sem] Oper.semAt_some

theorem SeqW.inRound {α : Type} {F : Fence} {n : Nat} {P : Program} {g : Nat} {lb : Array Value} {encs : α → Array Value} {own : Nat → Prop} {Kp : World → World → Prop} {Pf : List α → Prop} {S Sp : List α → Prop} {w : World} (l : Nat) (h : SeqW F n P g lb encs own Kp Pf S Sp w) : SeqW (F.inRound l) n P g lb encs own Kp Pf S Sp w := h
theorem backward_any (A : Option Addr) (m c : Nat) (w : World) :
    Calls Try.prog 55 #[.slice A m c] w fun e w' =>
      e = .returned (.func (.func 87) #[] #[.pointer (some ⟨w.heap.size, 0, none⟩)]) ∧ w' = w.alloc (.cells #[.slice A m c] 88) := by
  go_enter Try.func55, Try.ntmps55
  go_wp2
  go_ret
  exact ⟨rfl, rfl⟩
def NamesIn (w : World) (A : Option Addr) (m c : Nat) (ns : List Str) (g : Nat) : Prop :=
  ns.length = m ∧ m ≤ c ∧ (ns = [] ∨ A = some ⟨g, 0, none⟩ ∧ ∀ i x, ns[i]? = some x → w.cell? ⟨g, i, none⟩ = some (.string x))
theorem NamesIn.keep {w w' : World} {A : Option Addr} {m c : Nat} {ns : List Str} {g : Nat} (h : NamesIn w A m c ns g) (hg : w'.heap[g]? = w.heap[g]?) : NamesIn w' A m c ns g :=
  ⟨h.1, h.2.1, h.2.2.imp id fun h => ⟨h.1, fun i x hx => (World.cell?_of_block (w := w) (w' := w') (a := ⟨g, i, none⟩) hg).trans (h.2 i x hx)⟩⟩
def KeepB (b0 g : Nat) (X Y : World) : Prop := Y.heap[b0]? = X.heap[b0]? ∧ Y.heap[g]? = X.heap[g]?
set_option maxRecDepth 100000 in
set_option maxHeartbeats 2000000 in
theorem backward1 (n : Nat) (ns : List Str) (hns : ns.length ≤ 1000000) (b0 g : Nat) (A : Option Addr) (m c : Nat) (w : World) (h0 : Boxed w b0 88 (.slice A m c)) (hN : NamesIn w A m c ns g) (hg : ns = [] ∨ g < w.heap.size) :
    SeqW Fence.wide n Try.prog 87 #[.pointer (some ⟨b0, 0, none⟩)] (fun x : Int × Str => #[.int .i64 x.1, .string x.2]) (fun _ => False) (KeepB b0 g) (fun xs => xs.map (·.2) <+: ns.reverse)
      (fun xs => xs.map (·.2) = ns.reverse) (fun _ => True) w := fun l J Jx W hW hJ hJx hY hst => by
  have k0 : Boxed W b0 88 (.slice A m c) := blk_below h0 hW h0.lt
  have kN : NamesIn W A m c ns g := by
    rcases hg with hg | hg
    · exact ⟨hN.1, hN.2.1, .inl hg⟩
    · exact hN.keep (hW.block g hg)
  have hmc := kN.2.1
  have hme := kN.1
  subst hme
  have c0 := k0.cell
  have f0 := k0.frozen
  have HJ := Lib.hid hJ
  have HJx := Lib.hid hJx
  have HY := Lib.hid hY
  clear hN hg hW hJ hJx hY h0
  refine callsIn_of_wp Try.func87 rfl trivial ?_ rfl
  simp only [Try.ntmps87, List.size_toArray, List.length_cons, List.length_nil, Nat.reduceAdd, Nat.reduceSub, Array.replicate_succ, Array.replicate_zero, List.push_toArray, List.append_toArray, List.nil_append, List.cons_append]
  gi_wp2
  gi_loopw [3] (fun i wr => ∃ (j : Nat) (pre : List (Int × Str)), j ≤ ns.length ∧ i = .int .i64 ((j : Int) - 1) ∧ J pre wr ∧ Boxed wr b0 88 (.slice A ns.length c) ∧ NamesIn wr A ns.length c ns g ∧ Hid (pre.map (·.2) = (ns.drop j).reverse)) (fun i _ => (intOf i + 1).toNat)
  case atStart => exact ⟨ns.length, [], Nat.le_refl _, rfl, hst, k0, kN, by rw [List.drop_length]; exact Lib.hid rfl⟩
  case round =>
    obtain ⟨j, pre, hj, rfl, hJp, m0, mN, hpre⟩ := hrel
    clear k0 kN hst c0 f0
    have c0 := m0.cell
    have f0 := m0.frozen
    cases j with
    | zero =>
      gi_wp2
      go_end0
      exact ⟨⟨_, rfl⟩, .inl ⟨pre, by rw [hpre.out]; simp, hJp⟩⟩
    | succ j =>
      have hlt : j < ns.length := by omega
      have hx : ns[j]? = some ns[j] := List.getElem?_eq_getElem hlt
      obtain ⟨_, _, hA⟩ := mN
      obtain ⟨rfl, hcell⟩ := hA.resolve_left (fun e => by rw [e] at hlt; simp at hlt)
      have hc := hcell j _ hx
      have HD : Hid ((ns.drop j).reverse = (ns.drop (j + 1)).reverse ++ [ns[j]]) := Lib.hid (by rw [List.drop_eq_getElem_cons hlt]; simp)
      obtain ⟨fn, tmps, assign, body, hy, hR⟩ := HY.out pre ((j : Int), ns[j]) wr hJp (by rw [List.map_append, hpre.out]; refine ⟨(ns.take j).reverse, ?_⟩; rw [show (ns.drop (j + 1)).reverse ++ List.map (·.2) [((j : Int), ns[j])] = (ns.drop j).reverse by rw [HD.out]; rfl, ← List.reverse_append, List.take_append_drop])
      have HC := Lib.hid hcell
      clear hcell hA hx
      generalize ns[j] = x at *
      gi_wp2_with fail
      refine ⟨(fun h => by cases h), hR.mono ?_⟩
      rintro e W3 (⟨rfl, hJ3, hk3⟩ | ⟨rfl, hJx3⟩)
      · have q0 : Boxed W3 b0 88 (.slice (some ⟨g, 0, none⟩) ns.length c) := hk3.1.trans m0
        have qN : NamesIn W3 (some ⟨g, 0, none⟩) ns.length c ns g := ⟨rfl, hmc, .inr ⟨rfl, fun i y hy => (World.cell?_of_block (w := wr) (w' := W3) (a := ⟨g, i, none⟩) hk3.2).trans (HC.out i y hy)⟩⟩
        clear c0 f0 hy hR hc
        gi_wp2
        go_roundw
        case rel => exact ⟨j, pre ++ [((j : Int), x)], by omega, rfl, hJ3, q0, qN, by rw [HD.out, ← hpre.out]; exact Lib.hid (by simp)⟩
        case measure => simp [intOf]
      · gi_wp2
        refine bodyPost_ret (results_none rfl _ _ _) rfl ?_
        exact ⟨⟨_, rfl⟩, .inr ⟨pre ++ [((j : Int), x)], trivial, hJx3⟩⟩
end Go.Proofs.Ytgliiknfmlmddaa
