/-
  Part 14 of the proof of MountsRemovesP: what the statement's proof uses of the texts in wip/tpl.
-/
import Derived.Test.YtgliiknfmlmddaaMr13
namespace Go.Proofs.Ytgliiknfmlmddaa

theorem FlsV.t {f : Fls} (h : FlsV f) : FlsT f := by
  refine ⟨h.b, fun d hd n hn e he => ?_, fun d hd n hn => ?_⟩
  · have := nameL_size ((h.vd d hd).ent n hn e he).1
    omega
  · have hp := (h.vd d hd).plain n hn
    unfold plainL at hp
    split at hp
    · cases hp
    · split at hp
      · unfold targetL at hp
        simp only [Bool.and_eq_true, decide_eq_true_eq] at hp
        omega
      · have e := str_eq n.target ⟨#[]⟩
        rw [show (⟨#[]⟩ : ByteArray).toList = [] by rw [ByteArray.toList_eq]] at e
        have : n.target.toList = [] := by simpa using hp
        rw [this] at e
        have e2 : n.target = ⟨#[]⟩ := of_decide_eq_true e.symm
        rw [e2]
        exact Nat.zero_le _
theorem countP_lt {α : Type} {p q : α → Bool} : ∀ {l : List α}, (∀ x ∈ l, p x = true → q x = true) → ∀ {a : α}, a ∈ l → q a = true → p a = false → l.countP p < l.countP q
  | [], _, _, ha, _, _ => by cases ha
  | x :: l, h, a, ha, hq, hp => by
    have hle : l.countP p ≤ l.countP q := List.countP_mono_left fun y hy => h y (List.mem_cons_of_mem _ hy)
    rw [List.countP_cons, List.countP_cons]
    rcases List.mem_cons.1 ha with rfl | ha
    · rw [hq, hp]; simp; omega
    · have ih := countP_lt (fun y hy => h y (List.mem_cons_of_mem _ hy)) ha hq hp
      have := h x (List.mem_cons_self ..)
      cases hx : p x with
      | false => simp; omega
      | true => rw [this hx]; simp; omega
section
variable {d : Dvc} (hd : VD d)
include hd
theorem par_eq {n : Nod} (hn : n ∈ d.nodes) : parentL d n.ino = n.parent := by
  have h := node_asc (f := [d]) (a := (0, n.ino)) (q := 0) rfl rfl hd.asc hn rfl
  rw [nodeL_at (f := [d]) (a := (0, n.ino)) (k := 0) rfl rfl] at h
  unfold parentL
  rw [h]
theorem itP_one : ∀ k, itP d k 1 = 1 := by
  obtain ⟨r, rest, hr, h1, _, h3⟩ := hd.root
  have : parentL d 1 = 1 := by
    have := par_eq hd (n := r) (by rw [hr]; exact List.mem_cons_self ..)
    rw [h1, h3] at this
    exact this
  intro k
  induction k with
  | zero => rfl
  | succ k ih => rw [itP, this, ih]
theorem itP_end (rk : Int → Nat) (hrk : ∀ n ∈ d.nodes, n.ino ≠ 1 → n.kind = 2 → rk n.parent < rk n.ino) : ∀ (k : Nat) (n : Nod), n ∈ d.nodes → n.kind = 2 → d.nodes.countP (fun m => decide (m.ino ≠ 1 ∧ rk m.ino ≤ rk n.ino)) ≤ k → itP d k n.ino = 1 := by
  intro k
  induction k with
  | zero =>
    intro n hn _ hc
    by_cases h1 : n.ino = 1
    · rw [h1]; rfl
    · have : 0 < d.nodes.countP (fun m => decide (m.ino ≠ 1 ∧ rk m.ino ≤ rk n.ino)) := List.countP_pos_iff.2 ⟨n, hn, by simp [h1]⟩
      omega
  | succ k ih =>
    intro n hn hk hc
    by_cases h1 : n.ino = 1
    · rw [h1]; exact itP_one hd _
    · rw [itP, par_eq hd hn]
      obtain ⟨p, hp, hpi, e, he, _⟩ := hd.par n hn h1 hk
      have hpk : p.kind = 2 := by
        by_cases h : p.kind = 2
        · exact h
        · rw [(hd.leaf p hp h).2] at he; cases he
      rw [← hpi]
      refine ih p hp hpk ?_
      have hlt := hrk n hn h1 hk
      rw [← hpi] at hlt
      have : d.nodes.countP (fun m => decide (m.ino ≠ 1 ∧ rk m.ino ≤ rk p.ino)) < d.nodes.countP (fun m => decide (m.ino ≠ 1 ∧ rk m.ino ≤ rk n.ino)) := by
        refine countP_lt (fun x _ hx => ?_) hn (by simp [h1]) (decide_eq_false fun h => by omega)
        have := of_decide_eq_true hx
        exact decide_eq_true ⟨this.1, by omega⟩
      omega
theorem rch_true : rchR d = true := by
  obtain ⟨rk, hrk⟩ := hd.rank
  refine range_yes fun i hi => ?_
  unfold rchAt
  rw [List.getElem?_eq_getElem hi]
  simp only
  split
  · rename_i hk
    exact decide_eq_true (itP_end hd rk hrk _ _ (List.getElem_mem hi) hk List.countP_le_length)
  · rfl
theorem asc_get {i : Nat} {n y : Nod} (h0 : 0 < i) (h : d.nodes[i]? = some n) (hy : d.nodes[i - 1]? = some y) : y.ino < n.ino := by
  have := hd.asc
  unfold Asc at this
  obtain ⟨h1, e1⟩ := List.getElem?_eq_some_iff.1 h
  obtain ⟨h2, e2⟩ := List.getElem?_eq_some_iff.1 hy
  have := List.pairwise_iff_getElem.1 this (i - 1) i h2 h1 (by omega)
  rw [e1, e2] at this
  exact this
theorem sort_get {n : Nod} (hn : n ∈ d.nodes) {i : Nat} {x : Ent} (h0 : 0 < i) (h : n.entries[i]? = some x) : preE n.entries i x = false := by
  have hs := hd.sorted n hn
  unfold Sorted at hs
  unfold preE
  cases hy : n.entries[i - 1]? with
  | none => rfl
  | some y =>
    obtain ⟨h1, e1⟩ := List.getElem?_eq_some_iff.1 h
    obtain ⟨h2, e2⟩ := List.getElem?_eq_some_iff.1 hy
    have := List.pairwise_iff_getElem.1 hs (i - 1) i h2 h1 (by omega)
    rw [e1, e2] at this
    simp only
    rw [this]
    rfl
end
section
variable {f : Fls} (hv : FlsV f) {q : Nat} {d : Dvc} (hq : f[q]? = some d)
include hv hq
theorem vdq : VD d := hv.vd d (List.mem_of_getElem? hq)
theorem node_q {p : Nod} (hp : p ∈ d.nodes) : nodeL f ((q : Int), p.ino) = some p := node_asc (a := ((q : Int), p.ino)) rfl hq (vdq hv hq).asc hp rfl
theorem idx_q {p : Nod} (hp : p ∈ d.nodes) : ¬ indexL f ((q : Int), p.ino) < 0 := by
  rcases index_node f ((q : Int), p.ino) with h | ⟨k, i, d', n, _, _, _, _, h, _⟩
  · rw [node_q hv hq hp] at h; cases h.2
  · omega
theorem ents_true {n : Nod} (hn : n ∈ d.nodes) : entsR f (q : Int) n.entries = true := by
  have hd := vdq hv hq
  refine ents_yes (by have := hd.many n hn; omega) fun i hi => ?_
  have hx : n.entries[i]? = some n.entries[i] := List.getElem?_eq_getElem hi
  generalize n.entries[i] = x at hx
  obtain ⟨h1, h2, m, hm, h3⟩ := hd.ent n hn x (List.mem_of_getElem? hx)
  unfold entAt
  rw [hx]
  simp only
  rw [if_neg (by rw [h1]; simp), if_neg (fun h => by rw [sort_get hd hn h.1 hx] at h; cases h.2), if_neg h2, if_neg (by rw [← h3]; exact idx_q hv hq hm)]
theorem links_q {n : Nod} (hn : n ∈ d.nodes) : linksF f ((q : Int), n.ino) = cntN n.ino d.nodes := linksF_at (a := ((q : Int), n.ino)) rfl hq (node_q hv hq hn)
theorem dev_true : devR5 f (q : Int) d = true := by
  have hd := vdq hv hq
  obtain ⟨r, rest, hr, r1, r2, r3⟩ := hd.root
  have hlen := hd.len
  have hl1 : ¬ d.nodes.length < 1 := by rw [hr]; simp
  have hhd : headR d = true := by
    unfold headR
    rw [if_neg hl1, if_neg (by omega), if_neg (by have := hd.next2; omega), if_neg (by have := hd.nextM; omega), hr]
    simp [r1, r2, r3]
  rw [dev_yes hhd, rch_true hd]
  intro i hi
  have hx : d.nodes[i]? = some d.nodes[i] := List.getElem?_eq_getElem hi
  generalize d.nodes[i] = n at hx
  have hn := List.mem_of_getElem? hx
  unfold devAt
  rw [hx]
  simp only
  rw [if_neg (by have := hd.lt n hn; omega), if_neg (fun h => by
    unfold preN at h
    cases hy : d.nodes[i - 1]? with
    | none => rw [hy] at h; exact absurd h.2 (by simp)
    | some y =>
      rw [hy] at h
      have h1 := asc_get hd h.1 hx hy
      have h2 := of_decide_eq_true h.2
      omega), if_neg (by rw [hd.plain n hn]; simp), if_neg (fun h => by
    obtain ⟨h1, h2⟩ := hd.leaf n hn h.1
    rcases h.2 with h3 | h3
    · exact h3 h1
    · rw [h2] at h3; cases h3), if_neg (by rw [ents_true hv hq hn]; simp)]
  split
  · rfl
  · rename_i h0
    have h1 : n.ino ≠ 1 := by
      have hy : d.nodes[0]? = some r := by rw [hr]; rfl
      have : r.ino < n.ino := by
        have ha := hd.asc
        unfold Asc at ha
        obtain ⟨e1, e2⟩ := List.getElem?_eq_some_iff.1 hx
        obtain ⟨e3, e4⟩ := List.getElem?_eq_some_iff.1 hy
        have := List.pairwise_iff_getElem.1 ha 0 i e3 e1 (by omega)
        rw [e2, e4] at this
        exact this
      omega
    rw [links_q hv hq hn]
    split
    · rename_i hk
      obtain ⟨p, hp, hpi, e, he, hei⟩ := hd.par n hn h1 hk
      rw [if_neg (by rw [hd.one n hn h1 hk]; simp)]
      have hnd := node_q hv hq hp
      rw [hpi] at hnd
      have hh : hasG f ((q : Int), n.parent) = true := by unfold hasG; rw [hnd]; rfl
      have hg : nodG f ((q : Int), n.parent) = p := by unfold nodG; rw [hnd]; rfl
      rw [if_neg (by rw [hh]; simp), hg]
      unfold holdsL
      exact List.any_eq_true.2 ⟨e, he, by rw [hei]; simp⟩
    · rw [if_neg (by have := hd.link n hn h1; omega)]
end
end Go.Proofs.Ytgliiknfmlmddaa
namespace Go.Proofs.Ytgliiknfmlmddaa

theorem vldR_true {f : Fls} (hv : FlsV f) (h0 : 0 < f.length) : vldR f = true := by
  unfold vldR
  rw [if_neg (by omega), if_neg (by have := hv.few; omega)]
  refine range_yes fun i hi => ?_
  unfold vldAt
  rw [List.getElem?_eq_getElem hi]
  exact dev_true hv (List.getElem?_eq_getElem hi)
theorem vldS_true {s : Spc} (hv : SpcV s) : vldS true s = true := by
  unfold vldS
  rw [Bool.true_and]
  refine range_yes fun i hi => ?_
  have hx : s.mounts[i]? = some s.mounts[i] := List.getElem?_eq_getElem hi
  generalize s.mounts[i] = m at hx
  have h := hv.mnt i m hx
  unfold mntAt
  rw [hx]
  simp only
  rw [if_neg (by have := h.dev1; omega), if_neg (by have := h.dev2; omega), if_neg (by rw [h.fresh]; simp), if_neg (by rw [h.dir]; simp), if_neg (by rw [h.there]; simp), if_neg (by rw [h.free]; simp)]
end Go.Proofs.Ytgliiknfmlmddaa
namespace Go.Proofs.Ytgliiknfmlmddaa
open Go.RowKit

theorem filter_at {α : Type} (p : α → Bool) : ∀ (l : List α) (i : Nat) (m : α), (l.filter p)[i]? = some m → ∃ j : Nat, l[j]? = some m ∧ (l.filter p).take i = (l.take j).filter p
  | [], i, m, h => by simp at h
  | x :: l, i, m, h => by
    rw [List.filter_cons] at h ⊢
    cases hx : p x with
    | false =>
      rw [hx] at h
      obtain ⟨j, h1, h2⟩ := filter_at p l i m (by simpa using h)
      exact ⟨j + 1, by simpa using h1, by simp [hx, h2]⟩
    | true =>
      rw [hx] at h
      cases i with
      | zero => exact ⟨0, by simpa using h, by simp⟩
      | succ i =>
        obtain ⟨j, h1, h2⟩ := filter_at p l i m (by simpa using h)
        exact ⟨j + 1, by simpa using h1, by simp [hx, h2]⟩
theorem rem_valid {s : Spc} (hv : SpcV s) (dev : Int) (h0 : (remL s dev).2 = 0) : SpcV (remL s dev).1 ∧ (remL s dev).1 = ⟨s.files, s.mounts.filter fun m : Mnt => decide (m.1 ≠ dev)⟩ := by
  unfold remL at h0 ⊢
  split at h0
  · exact absurd h0 (by decide)
  · rename_i c1
    split at h0
    · exact absurd h0 (by decide)
    · rename_i c2
      rw [if_neg c1, if_neg c2]
      refine ⟨⟨hv.files, hv.pos, fun i m hi => ?_⟩, rfl⟩
      obtain ⟨j, h1, h2⟩ := filter_at _ s.mounts i m hi
      have hm := hv.mnt j m h1
      show MntOK s.files ((s.mounts.filter _).take i) m
      rw [h2]
      refine ⟨hm.dev1, hm.dev2, ?_, hm.dir, ?_, ?_⟩
      · have hf := hm.fresh
        rw [← Bool.not_eq_true] at hf ⊢
        exact fun h => hf (mtd_mono h fun x hx => (List.mem_filter.1 hx).1)
      · by_cases hz : m.2.1 = 0
        · unfold mtdL; simp [hz]
        · obtain ⟨m', hm', e⟩ := mtd_of hm.there hz
          rw [← e]
          refine mtd_mem (s := ⟨s.files, (s.mounts.take j).filter fun m : Mnt => decide (m.1 ≠ dev)⟩) (List.mem_filter.2 ⟨hm', decide_eq_true ?_⟩)
          intro e2
          have hany : (s.mounts.any fun m : Mnt => decide (m.2.1 = dev)) = true := List.any_eq_true.2 ⟨m, List.mem_of_getElem? h1, decide_eq_true (by rw [← e, e2])⟩
          exact c2 hany
      · have hf := hm.free
        cases hc : covL ⟨s.files, (s.mounts.take j).filter fun m : Mnt => decide (m.1 ≠ dev)⟩ m.2 with
        | none => rfl
        | some d =>
          exfalso
          obtain ⟨k, hk⟩ := cov_mem hc
          have hmem := (List.mem_filter.1 (List.mem_of_getElem? hk)).1
          cases hc2 : covL ⟨s.files, s.mounts.take j⟩ m.2 with
          | some d' => rw [hc2] at hf; cases hf
          | none =>
            unfold covL at hc2
            cases hq : (s.mounts.take j).find? fun x : Mnt => decide (x.2 = m.2) with
            | some y => rw [hq] at hc2; cases hc2
            | none => have := List.find?_eq_none.1 hq _ hmem; simp at this
theorem rem_b {s : Spc} (hs : SpcB s) (dev : Int) : SpcB (remL s dev).1 := by
  have h0 : SpcB ⟨[], []⟩ := ⟨⟨Nat.zero_le _, fun d hd => (by cases hd), fun d hd => (by cases hd)⟩, Nat.zero_le _⟩
  unfold remL
  split
  · exact h0
  · split
    · exact h0
    · exact ⟨hs.files, Nat.le_trans (List.length_filter_le _ _) hs.few⟩
theorem Rvalid_ok {s : Spc} (hv : SpcV s) (hs : SpcB s) : AFn Try.prog 18 [.agg (spcA s)] (fun r => r = .v (.bool true)) :=
  (Rvalid6 s hs hv.files.t).mono fun r hr => by rw [hr, vldR_true hv.files hv.pos, vldS_true hv]
section
set_option maxRecDepth 20000
set_option maxHeartbeats 2000000
theorem Lremoves (l : List Int) (dev : Int) : AFn Try.prog 8 [.sl 1 (l.map intA) none, .v (.int .i64 dev)] (fun r => r = .v (.bool true)) := by
  refine enter Try.func8 rfl rfl rfl rfl rfl 0 rfl ?_
  refine w_ (a_ (h:=e_ (w_ (m_ (h:=?_)))))
  refine al_p rfl (s_callN rfl (by repeat (first | exact Args.nil | refine Args.cons _ _ _ _ _ rfl (argOk_clean rfl) ?_ | refine Args.cons _ _ _ _ _ rfl (argOk_nil _) ?_ | refine Args.cons _ _ _ _ _ rfl (argOk_era _) ?_ | refine Args.cons _ _ _ _ _ rfl (argOk_le rfl (by repeat (first | exact LeA.refl _ | exact LeA.nil _ | exact LeL.refl _ | refine LeA.agg ?_ | refine LeA.tup ?_ | exact LeL.nil | refine LeL.cons ?_ ?_ | exact LeA.any _))) ?_)) rfl (Gnew l) (by repeat constructor) ?_)
  skip
  refine al_p rfl (s_gen 0 (hc := Gspace l _ (by omega)) (hR := ?_))
  rintro r a1 ha1 ⟨s, rfl, hv, hm⟩
  refine ⟨rfl, _, (by repeat constructor), ?_⟩
  have hsb := hv.b (show s.mounts.length ≤ 1000 by omega)
  have hne := hv.files.ne
  refine al_ (h:=s_ (h:=e_ (w_ (m_ (h:=bs_ (h:=a_ (h:=e_ (q_ (w_ (a_ (h:=e_ (aw_block (?_)))))))))))))
  refine aw_loopW (fun n t => ∃ j : Nat, j ≤ 5 ∧ n = 5 - j ∧ t = ⟨look [(5, .bp 1 0), (6, .sl 1 (([0, 1, 2, 3, dev] : List Int).map intA) none), (7, .v (.int .i64 (j : Int)))], ⟨[srcA l a1, spcA s], []⟩⟩) (5) ((wk 2 0)) (⟨0, by omega, rfl, rfl⟩) ?_
  rintro n t ⟨j, hj, rfl, rfl⟩
  refine q_ (w_ (m_ (h:=m_ (h:=n_ (h:=lt_ (h:=e_ (?_)))))))
  refine aw_cond rfl (fun hb1 => ?_) (fun hb1 => ?_)
  · have hc1 := bp hb1
    obtain ⟨hlt, x, hy, hrow, -⟩ := row_at intA hc1
    refine kt_ (q_ (aw_block (?_)))
    refine aw_midI (fun t => t = ⟨look [(5, .bp 1 0), (6, .sl 1 (([0, 1, 2, 3, dev] : List Int).map intA) none), (7, .v (.int .i64 (j : Int))), (8, .bp 2 0), (9, .v (.int .i64 (remL s x).2))], ⟨[srcA l a1, spcA s, spcA (remL s x).1], []⟩⟩) ?_ ?_
    · skip
      refine yk_ ([(0, srcA l a1), (1, spcA s)]) 12 (h:=dl_ 0 (h:=dm_ 1 (h:=dm_ 2 (h:=di_ 3 (h:=dl_ 4 (h:=?_))))))
      refine c2_ 5 9 rfl rfl ?_ ?_
      · refine q_call (Premove s x hsb hne hv.apart) ?_
        rintro r rfl
        refine o_ (h:=?_)
        refine dm_ 6 (h:=dx_ 7 (h:=dx_ 8 (h:=?_)))
        refine c_ 9 rfl (s_alloc (by repeat constructor) ?_)
        refine o_ (h:=?_)
        refine c0_ 10 rfl (s_store rfl rfl rfl rfl rfl rfl (by repeat constructor) (by repeat constructor) ?_)
        refine o_ (h:=da_ 11 (h:=z_ (h:=?_)))
        refine x_then ?_
        exact ⟨_, rfl, (wk 3 0)⟩
      · refine s_alloc (by repeat constructor) ?_
        refine o_ (h:=?_)
        refine c_ 5 rfl (q_call (Premove s x hsb hne hv.apart) ?_)
        rintro r rfl
        refine o_ (h:=dm_ 6 (h:=dx_ 7 (h:=dx_ 8 (h:=?_))))
        refine c0_ 10 rfl (s_store rfl rfl rfl rfl rfl rfl (by repeat constructor) (by repeat constructor) ?_)
        refine o_ (h:=da_ 11 (h:=z_ (h:=?_)))
        refine x_then ?_
        exact ⟨_, rfl, (wk 3 0)⟩
    · rintro t rfl
      refine aw_midI (fun t => t = ⟨look [(5, .bp 1 0), (6, .sl 1 (([0, 1, 2, 3, dev] : List Int).map intA) none), (7, .v (.int .i64 (j : Int))), (8, .bp 2 0), (9, .v (.int .i64 (remL s x).2)), (10, .bp 3 0), (11, .v (.int .i64 (remL s x).2))], ⟨[srcA l a1, spcA s, spcA (remL s x).1, spcA (remL s x).1], []⟩⟩) ?_ ?_
      · skip
        refine yk_ ([(0, srcA l a1), (1, spcA s)]) 12 (h:=dl_ 0 (h:=dm_ 1 (h:=dm_ 2 (h:=di_ 3 (h:=dl_ 4 (h:=?_))))))
        refine c2_ 5 9 rfl rfl ?_ ?_
        · refine q_call (Rremove s x hsb) ?_
          rintro r rfl
          refine o_ (h:=?_)
          refine dm_ 6 (h:=dx_ 7 (h:=dx_ 8 (h:=?_)))
          refine c_ 9 rfl (s_alloc (by repeat constructor) ?_)
          refine o_ (h:=?_)
          refine c0_ 10 rfl (s_store rfl rfl rfl rfl rfl rfl (by repeat constructor) (by repeat constructor) ?_)
          refine o_ (h:=da_ 11 (h:=z_ (h:=?_)))
          refine x_then ?_
          exact ⟨_, rfl, (wk 4 0)⟩
        · refine s_alloc (by repeat constructor) ?_
          refine o_ (h:=?_)
          refine c_ 5 rfl (q_call (Rremove s x hsb) ?_)
          rintro r rfl
          refine o_ (h:=dm_ 6 (h:=dx_ 7 (h:=dx_ 8 (h:=?_))))
          refine c0_ 10 rfl (s_store rfl rfl rfl rfl rfl rfl (by repeat constructor) (by repeat constructor) ?_)
          refine o_ (h:=da_ 11 (h:=z_ (h:=?_)))
          refine x_then ?_
          exact ⟨_, rfl, (wk 4 0)⟩
      · rintro t rfl
        refine q_ (yr_ 33 (h:=dm_ 0 (h:=dm_ 1 (h:=dnq_ 2 (h:=dm_ 3 (h:=?_))))))
        refine aa_both (j := 3) rfl (fun hb2 => ?_) (fun hb2 => ?_)
        · have hc2 := bp hb2
          simp at hc2
        · have hc2 := bp hb2
          refine dl_ 4 (h:=dl_ 5 (h:=?_))
          refine c_ 6 rfl (q_call (RsameS (remL s x).1 (rem_b hsb x)) ?_)
          rintro r rfl
          refine o_ (h:=dnt_ 7 (h:=dpf_ 8 (h:=dm_ 9 (h:=?_))))
          refine aa_both (j := 9) rfl (fun hb3 => ?_) (fun hb3 => ?_)
          · have hc3 := bp hb3
            exfalso; first | contradiction | omega
          · have hc3 := bp hb3
            refine dl_ 10 (h:=dm_ 11 (h:=dm_ 12 (h:=di_ 13 (h:=dl_ 14 (h:=dl_ 16 (h:=dm_ 17 (h:=dm_ 18 (h:=di_ 19 (h:=dl_ 20 (h:=?_))))))))))
            refine c_ 15 rfl (q_call (Pmounted s x hsb) ?_)
            rintro r rfl
            refine o_ (h:=?_)
            refine c_ 21 rfl (q_call (Rmounted s x hsb) ?_)
            rintro r rfl
            refine o_ (h:=dnq_ 22 (h:=dpf_ 23 (h:=dm_ 24 (h:=?_))))
            refine aa_both (j := 24) rfl (fun hb4 => ?_) (fun hb4 => ?_)
            · have hc4 := bp hb4
              simp at hc4
            · have hc4 := bp hb4
              refine dm_ 25 (h:=deq_ 26 (h:=dm_ 27 (h:=?_)))
              refine aa_both (j := 27) rfl (fun hb5 => ?_) (fun hb5 => ?_)
              · have hc5 := bp hb5
                have hrv := (rem_valid hv x hc5).1
                refine dl_ 28 (h:=?_)
                refine c_ 29 rfl (q_call (Rvalid_ok hrv (rem_b hsb x)) ?_)
                rintro r rfl
                refine o_ (h:=dnt_ 30 (h:=dpt_ 31 (h:=dpf_ 32 (h:=z_ (h:=t_ (?_))))))
                refine aw_cond rfl (fun hb6 => ?_) (fun hb6 => ?_)
                · have hc6 := bp hb6
                  exfalso; first | contradiction | omega
                · have hc6 := bp hb6
                  refine aw_skip (x_blockN (t_ (aw_region (m_ (h:=ad_ (h:=a_ (h:=al_nil (?_))))))))
                  refine x_then ?_
                  have hl5 : j < 5 := hlt
                  refine ⟨_, _, ?_, ⟨j + 1, by omega, rfl, rfl⟩, (wk 2 0)⟩
                  omega
              · have hc5 := bp hb5
                refine d0_ 28 (h:=d0_ 29 (h:=d0_ 30 (h:=dpf_ 31 (h:=dpf_ 32 (h:=z_ (h:=t_ (cn_ (h:=aw_skip (x_blockN (t_ (aw_region (m_ (h:=ad_ (h:=a_ (h:=al_nil (?_))))))))))))))))
                refine x_then ?_
                have hl5 : j < 5 := hlt
                refine ⟨_, _, ?_, ⟨j + 1, by omega, rfl, rfl⟩, (wk 2 0)⟩
                omega
  · have hc1 := bp hb1
    refine aw_exit (x_thenE (x_thenE (ABlock_out (t_ (w_ (?_))))))
    refine al_p rfl (q_call (Lawake) ?_)
    rintro r rfl
    refine a_ (h:=e_ (aw_ret (?_)))
    refine e_ret ?_
    rfl

end
end Go.Proofs.Ytgliiknfmlmddaa
namespace Go.Proofs.Ytgliiknfmlmddaa
open Go.RowKit
theorem MountsRemoves_walk {H : Type} {enc : TypeId × Value → H} {sp : Nat → Bool} {held : Bool} {base : Nat} (a : Option Addr) (n c : Nat) (dev : Int) (w : World) {d : DataW H} {p : List MemPlace} (h : DataW.Trod enc Try.prog w base sp held 22 (.slice a n c) d p) (_ : -9223372036854775808 ≤ dev) (_ : dev ≤ 9223372036854775807) :
    Calls Try.prog 8 #[.slice a n c, .int .i64 dev] w fun e w' => e = .returned (.bool true) ∧ Below w.heap.size w w' := walk_intsv [.int .i64 dev] (fun l => Lremoves l dev) a n c w h
end Go.Proofs.Ytgliiknfmlmddaa
