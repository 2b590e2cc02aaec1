/-
  Part 12 of the proof of MountsWithinP: what the statement's proof uses of the texts in wip/tpl.
-/
import Derived.Test.YtgliiknfmlmddaaMw11
namespace Go.Proofs.Ytgliiknfmlmddaa
open Go.RowKit

theorem liv_rows {n : Nat} {g : Nat → Option (List AV)} {j sz m cap0 cap : Nat} {rows : List (List AV)} (hn : n ≤ j) (hg : g j = some (rowsB sz cap rows)) (hr : ∀ r ∈ rows, r.length = sz) (hm : m = rows.length) (hc : rows.length ≤ cap) : liv n g (.bs j 0 sz m cap0) = .sl sz rows none := by
  have : Nat.blt j n = false := by rw [← Bool.not_eq_true, Nat.blt_eq]; omega
  simp only [liv, this]
  exact lowG_rows hg hr hm hc
theorem one_plain (a b c : Fil) (x : Chg) : ∀ r ∈ [filA a, filA b, filA c, chgA x], ∀ y ∈ r, ∃ v, y = .v v := by
  intro r hr y hy
  simp only [List.mem_cons, List.not_mem_nil, or_false] at hr
  rcases hr with rfl | rfl | rfl | rfl
  · simp [filA] at hy; rcases hy with h | h <;> exact ⟨_, h⟩
  · simp [filA] at hy; rcases hy with h | h <;> exact ⟨_, h⟩
  · simp [filA] at hy; rcases hy with h | h <;> exact ⟨_, h⟩
  · simp [chgA] at hy; rcases hy with h | h | h | h | h | h | h <;> exact ⟨_, h⟩
theorem ord_ne {j : Nat} {x : Int} (hx : ordV[j]? = some x) : x ≠ 0 := by
  match j, hx with
  | 0, hx => injection hx with hx; omega
  | 1, hx => injection hx with hx; omega
  | 2, hx => injection hx with hx; omega
  | j + 3, hx => exact absurd hx (by simp [ordV])
theorem entS_get {ns : List Nod} {i k : Nat} {n0 m : Nod} (hi : ns[i]? = some n0) (hk : ns[k]? = some m) (name : Str) (ino : Int) : ∃ m', (entS ns i n0 name ino)[k]? = some m' ∧ m'.ino = m.ino ∧ m'.entries.length ≤ m.entries.length + 1 := by
  unfold entS
  rw [List.getElem?_set]
  split
  · rename_i e
    subst e
    rw [hi] at hk
    injection hk with hk
    subst hk
    exact ⟨{ n0 with entries := entL n0.entries name ino }, by rw [if_pos (List.getElem?_eq_some_iff.1 hi).1], rfl, entL_len _ _ _⟩
  · exact ⟨m, hk, rfl, by omega⟩
theorem entS_mem {ns : List Nod} {i : Nat} {n0 : Nod} (hi : ns[i]? = some n0) {name : Str} {ino : Int} {m' : Nod} (hm : m' ∈ entS ns i n0 name ino) : ∃ m ∈ ns, m'.ino = m.ino ∧ m'.entries.length ≤ m.entries.length + 1 := by
  rcases List.mem_or_eq_of_mem_set hm with h | h
  · exact ⟨m', h, rfl, by omega⟩
  · subst h
    exact ⟨n0, List.mem_of_getElem? hi, rfl, entL_len _ _ _⟩
theorem entS_isAsc {ns : List Nod} (h : Asc ns) {i : Nat} {n0 : Nod} (hn : ns[i]? = some n0) (name : Str) (ino : Int) : Asc (entS ns i n0 name ino) := by
  have := entS_asc (d := ⟨0, ns⟩) h hn name ino
  simp only at this
  rw [this]
  exact entD_asc h _ _ _
theorem Renter3 (f : Fls) (q : Nat) (d d' : Dvc) (n : Nod) (i : Nat) (a : Fil) (name : Str) (ino : Int) (cap cap1 : Nat) (hf : FlsB (f.set q d')) (hq : q < f.length) (ha : a.1 = (q : Int)) (hi : indexL (f.set q d') a = (i : Int)) (hn : d'.nodes[i]? = some n) (hcap : f.length ≤ cap) (hcap1 : d'.nodes.length ≤ cap1) (hnx : d'.next = d.next) (hl : d'.nodes.length = d.nodes.length) :
    ACall Try.prog 84 [.agg [.bs 0 0 2 f.length cap], .agg (filA a), .v (.string name), .v (.int .i64 ino)] [DB f q d 1 cap cap1, NB d'.nodes cap1] (fun r b t => t = [] ∧ r = .tup [] ∧ b = [DB f q ⟨d.next, entS d'.nodes i n name ino⟩ 1 cap cap1, NB (entS d'.nodes i n name ino) cap1]) := by
  have key := Renter2 f q d' n i a name ino cap cap1 hf hq ha hi hn hcap hcap1
  have e1 : DB f q d' 1 cap cap1 = DB f q d 1 cap cap1 := by unfold DB devB devR; rw [hnx, hl]
  have e2 : DB f q d 1 cap cap1 = DB f q ⟨d.next, entS d'.nodes i n name ino⟩ 1 cap cap1 := by unfold DB devB devR; rw [entS_len, hl]
  rw [e1] at key
  exact key.mono fun r b t ⟨h1, h2, h3⟩ => ⟨h1, h2, by rw [h3, e2]⟩
theorem ren_facts {f : Fls} (hv : FlsV f) {q : Nat} {d : Dvc} (hq : f[q]? = some d) {i i2 : Nat} {n1 n2 : Nod} (hn1 : d.nodes[i]? = some n1) (hn2 : d.nodes[i2]? = some n2) (name name2 : Str) (ai : Int) (ha : ∃ m ∈ d.nodes, m.ino = ai) :
    ∃ (X1 X2 : List Nod) (m2 : Nod), X1 = entS d.nodes i n1 name 0 ∧ X1[i2]? = some m2 ∧ m2.ino = n2.ino ∧ X2 = entS X1 i2 m2 name2 ai ∧ Asc X1 ∧ Asc X2 ∧ X1.length = d.nodes.length ∧ X2.length = d.nodes.length ∧ X2 = entD (entD d.nodes n1.ino name 0) n2.ino name2 ai ∧
      FlsB (f.set q ⟨d.next, X1⟩) ∧ FlsB (f.set q ⟨d.next, X2⟩) ∧ (∀ m ∈ X2, m.entries.length ≤ 1000) ∧ (∃ m ∈ X2, m.ino = 1) ∧ ∃ m ∈ X2, m.ino = ai := by
  have hd := hv.vd d (List.mem_of_getElem? hq)
  obtain ⟨m2, hm2, hi2, hl2⟩ := entS_get hn1 hn2 name 0
  have e1 := entS_asc hd.asc hn1 name 0
  have a1 := entS_isAsc hd.asc hn1 name 0
  have e2 := entS_asc (d := ⟨0, entS d.nodes i n1 name 0⟩) a1 hm2 name2 ai
  simp only at e2
  have a2 := entS_isAsc a1 hm2 name2 ai
  have hb2 : ∀ m ∈ entS (entS d.nodes i n1 name 0) i2 m2 name2 ai, m.entries.length ≤ 1000 := fun m hm => by
    obtain ⟨m', h1, _, h2⟩ := entS_mem hm2 hm
    obtain ⟨m'', h3, _, h4⟩ := entS_mem hn1 h1
    have := hd.many m'' h3
    omega
  have hmem : ∀ x : Int, (∃ m ∈ d.nodes, m.ino = x) → ∃ m ∈ entS (entS d.nodes i n1 name 0) i2 m2 name2 ai, m.ino = x := by
    rintro x ⟨m, hm, rfl⟩
    obtain ⟨k, hk⟩ := List.getElem?_of_mem hm
    obtain ⟨m', h1, h2, _⟩ := entS_get hn1 hk name 0
    obtain ⟨m'', h3, h4, _⟩ := entS_get hm2 h1 name2 ai
    exact ⟨m'', List.mem_of_getElem? h3, h4.trans h2⟩
  obtain ⟨r, hr, hr1, _⟩ := hd.rootMem
  refine ⟨_, _, m2, rfl, hm2, hi2, rfl, a1, a2, entS_len _ _ _ _ _, by rw [entS_len, entS_len], by rw [e2, e1, hi2], hv.entS hq hn1 name 0, hv.b.set_ ?_ hb2, hb2, hmem 1 ⟨r, hr, hr1⟩, hmem ai ha⟩
  show (entS _ _ _ _ _).length ≤ 1000
  rw [entS_len, entS_len]
  have := hd.len
  omega
section
set_option maxRecDepth 10000
set_option maxHeartbeats 4000000
theorem Rrename (f : Fls) (src : Fil) (name : Str) (to : Fil) (name2 : Str) (hv : FlsV f) (hs : name.size ≤ 100000) (hs2 : name2.size ≤ 100000) : AFn Try.prog 96 [.agg (flsA f), .agg (filA src), .v (.string name), .agg (filA to), .v (.string name2)] (fun r => r = chgR (renameL f src name to name2)) := by
  have hf := hv.b
  have P1 := Rplace f src name hf hs
  have P2 := Rplace f to name2 hf hs2
  have L1 := Rlook f src name hf
  have L2 := Rlook f to name2 hf
  obtain ⟨pa, hpa⟩ : ∃ x, placeL f src name = x := ⟨_, rfl⟩
  obtain ⟨pb, hpb⟩ : ∃ x, placeL f to name2 = x := ⟨_, rfl⟩
  obtain ⟨⟨A, e1⟩, hl1⟩ : ∃ x, lookL f src name = x := ⟨_, rfl⟩
  obtain ⟨⟨O, e2⟩, hl2⟩ : ∃ x, lookL f to name2 = x := ⟨_, rfl⟩
  rw [hpa] at P1
  rw [hpb] at P2
  rw [hl1] at L1
  rw [hl2] at L2
  simp only at L1 L2
  have hRen : renameL f src name to name2 = (if ordL pa pb ≠ 0 then ([], [], ordL pa pb) else if e1 ≠ 0 then ([], [], e1) else if src.1 ≠ to.1 then ([], [], 18) else
      if dirL f A = true ∧ belowF f to A = true then ([], [], 22) else if e2 = 0 ∧ O = A then (f, [], 0) else if ren2L f src to A O e2 ≠ 0 then ([], [], ren2L f src to A O e2) else
      (onD f to.1.toNat fun ns => renPar (renNs ns src name to name2 A O e2) A.2 to.2 (dirL f A), [(src, name, A, (0, 0)), (to, name2, O, A)], 0)) := by
    unfold renameL
    rw [hpa, hpb, hl1, hl2]
  have hol : ordV.length = 3 := rfl
  refine enter Try.func96 rfl rfl rfl rfl rfl 0 rfl ?_
  refine p_sr (fun K hK => ?_)
  first | refine al_p rfl (s_boxA rfl rfl (by repeat constructor) ?_) | refine al_p rfl (s_box rfl rfl (by repeat constructor) ?_)
  first | refine al_p rfl (s_boxA rfl rfl (by repeat constructor) ?_) | refine al_p rfl (s_box rfl rfl (by repeat constructor) ?_)
  first | refine al_p rfl (s_boxA rfl rfl (by repeat constructor) ?_) | refine al_p rfl (s_box rfl rfl (by repeat constructor) ?_)
  refine al_p rfl (s_alloc (by repeat constructor) ?_)
  refine p_as ?_
  refine p_as ?_
  refine al_nil (x_then (hK _ ?_))
  clear hK K
  refine aw_seq (fun K hK => ?_)
  refine aw_drawR 10 (by kernel_rfl) ?_
  refine r_y (i := 0) rfl (st_loadBW rfl rfl rfl ⟨rfl, rfl⟩) ?_
  refine r_y (i := 1) rfl (st_loadBW rfl rfl rfl ⟨rfl, rfl⟩) ?_
  refine r_y (i := 2) rfl (st_move rfl ⟨rfl, rfl⟩) ?_
  refine r_y (i := 4) rfl (st_loadBW rfl rfl rfl ⟨rfl, rfl⟩) ?_
  refine r_y (i := 5) rfl (st_loadBW rfl rfl rfl ⟨rfl, rfl⟩) ?_
  refine r_y (i := 6) rfl (st_move rfl ⟨rfl, rfl⟩) ?_
  refine aa_c (i := 3) rfl rfl (by kernel_rfl) (by first | rfl | exact wan_y rfl rfl (beq_tt ‹_›) | exact wan_y rfl rfl (beq_ff ‹_›) | exact wan_y rfl rfl (by simp [*])) (q_call (P1) ?_)
  rintro r rfl
  refine ⟨.inr rfl, ?_⟩
  refine aa_c (i := 7) rfl rfl (by kernel_rfl) (by first | rfl | exact wan_y rfl rfl (beq_tt ‹_›) | exact wan_y rfl rfl (beq_ff ‹_›) | exact wan_y rfl rfl (by simp [*])) (q_call (P2) ?_)
  rintro r rfl
  refine ⟨.inr rfl, ?_⟩
  refine r_y (i := 8) rfl (st_assign rfl ⟨rfl, rfl⟩) ?_
  refine r_y (i := 9) rfl (st_assign rfl ⟨rfl, rfl⟩) ?_
  refine aa_done (by kernel_rfl) ?_ _
  refine x_then ?_
  refine hK _ ?_
  clear hK K
  refine p_sr (fun K hK => ?_)
  refine al_p rfl (st_slit (by repeat (first | exact DenseA.nil _ | (apply DenseA.cons; (focus exact rfl); (focus exact rfl); (focus exact rfl); (focus exact rfl)) | (apply DenseA.consE; (focus exact rfl); (focus exact rfl); (focus exact rfl)))) rfl rfl rfl rfl ?_)
  refine p_as ?_
  refine al_nil (x_then (hK _ ?_))
  clear hK K
  refine aw_seq (fun K hK => ?_)
  refine p_sr (fun K hK => ?_)
  refine p_as ?_
  refine al_nil (x_then (hK _ ?_))
  clear hK K
  refine aw_block ?_
  refine aw_loopW (fun m t => ∃ j : Nat, j ≤ ordV.length ∧ m = ordV.length - j ∧ (∀ i y, i < j → ordV[i]? = some y → ¬ (pa = y ∨ pb = y)) ∧ t = ⟨look [(2, .v (.string name)), (4, .v (.string name2)), (5, .bp 0 0), (6, .bp 1 0), (8, .bp 2 0), (10, .bp 3 0), (13, .v (.int .i64 pa)), (14, .v (.int .i64 pb)), (15, .sl 1 (ordV.map intA) none), (16, .v (.int .i64 (j : Int)))], ⟨[flsA f, filA src, filA to, [.v (.slice none 0 0)]], []⟩⟩) (ordV.length) ((wk 4 0)) (⟨0, Nat.zero_le _, rfl, fun i y hi => by omega, rfl⟩) ?_
  rintro m t ⟨j, hj, rfl, ha, rfl⟩
  refine aw_seq (fun K hK => ?_)
  refine p_sr (fun K hK => ?_)
  refine p_mv ?_
  refine p_mv ?_
  first | refine al_p rfl (st_len rfl ?_) | refine al_p rfl (st_lenS (by kernel_rfl) rfl ?_) | refine al_p rfl (st_len0 rfl ?_)
  first | refine al_p rfl (st_lss rfl rfl ?_) | refine al_p rfl (st_lssS rfl rfl ?_)
  refine al_nil (x_then (hK _ ?_))
  clear hK K
  refine aw_cond rfl (fun hb1 => ?_) (fun hb1 => ?_)
  · have hc1 := bp hb1
    obtain ⟨hlt, x, hx, hrow, -⟩ := row_at intA (l := ordV) hc1
    refine aw_skip ?_
    refine x_then ?_
    refine hK _ ?_
    clear hK K
    refine aw_seq (fun K hK => ?_)
    refine aw_block ?_
    refine p_sr (fun K hK => ?_)
    refine p_mv ?_
    refine p_mv ?_
    refine p_mv ?_
    refine al_p rfl (st_index rfl rfl rfl (by first | assumption | rfl) ?_)
    refine al_p rfl (st_loadF1 rfl rfl ?_)
    first | refine al_p rfl (st_eql rfl rfl ?_) | refine al_p rfl (st_eqlS rfl rfl ?_) | refine al_p rfl (st_eqlB (by kernel_rfl) rfl rfl ?_)
    refine p_mv ?_
    refine al_gs false rfl rfl (fun hb2 => ?_) (fun hb2 => ?_)
    · have hc2 := bp hb2
      refine g_n ?_
      refine g_n ?_
      refine g_n ?_
      refine g_n ?_
      refine g_n ?_
      refine g_n ?_
      refine al_p rfl (p_t ?_)
      refine al_nil (x_then (hK _ ?_))
      clear hK K
      refine aw_cy rfl (by first | rfl | assumption | simp [*]) ?_
      refine aw_seq (fun K hK => ?_)
      refine aw_draw (fun _ => True) 8 (by kernel_rfl) ?_
      refine aa_t (i := 0) rfl rfl (by kernel_rfl) (by first | rfl | exact wan_y rfl rfl (beq_tt ‹_›) | exact wan_y rfl rfl (beq_ff ‹_›) | exact wan_y rfl rfl (by simp [*])) (fun h0 hS => st_build (by repeat (first | exact FillA.nil _ | (apply FillA.cons; (focus exact rfl); (focus exact rfl); (focus exact rfl); (focus exact rfl); (focus exact rfl); (focus (repeat constructor))))) ⟨rfl, rfl⟩) trivial ?_
      refine aa_t (i := 1) rfl rfl (by kernel_rfl) (by first | rfl | exact wan_y rfl rfl (beq_tt ‹_›) | exact wan_y rfl rfl (beq_ff ‹_›) | exact wan_y rfl rfl (by simp [*])) (fun h0 hS => st_move rfl ⟨rfl, rfl⟩) trivial ?_
      refine aa_t (i := 2) rfl rfl (by kernel_rfl) (by first | rfl | exact wan_y rfl rfl (beq_tt ‹_›) | exact wan_y rfl rfl (beq_ff ‹_›) | exact wan_y rfl rfl (by simp [*])) (fun h0 hS => st_move rfl ⟨rfl, rfl⟩) trivial ?_
      refine aa_t (i := 3) rfl rfl (by kernel_rfl) (by first | rfl | exact wan_y rfl rfl (beq_tt ‹_›) | exact wan_y rfl rfl (beq_ff ‹_›) | exact wan_y rfl rfl (by simp [*])) (fun h0 hS => st_index rfl rfl rfl (by first | assumption | rfl) ⟨rfl, rfl⟩) trivial ?_
      refine aa_t (i := 4) rfl rfl (by kernel_rfl) (by first | rfl | exact wan_y rfl rfl (beq_tt ‹_›) | exact wan_y rfl rfl (beq_ff ‹_›) | exact wan_y rfl rfl (by simp [*])) (fun h0 hS => st_loadF1 rfl rfl ⟨rfl, rfl⟩) trivial ?_
      refine aa_c0 (i := 5) rfl (by kernel_rfl) (by first | rfl | exact wan_y rfl rfl (beq_tt ‹_›) | exact wan_y rfl rfl (beq_ff ‹_›) | exact wan_y rfl rfl (by simp [*])) (s_store rfl rfl rfl rfl rfl rfl (by repeat constructor) (by repeat constructor) ?_)
      refine ⟨.inr trivial, ?_⟩
      refine aa_t (i := 6) rfl rfl (by kernel_rfl) (by first | rfl | exact wan_y rfl rfl (beq_tt ‹_›) | exact wan_y rfl rfl (beq_ff ‹_›) | exact wan_y rfl rfl (by simp [*])) (fun h0 hS => st_assign rfl ⟨rfl, rfl⟩) trivial ?_
      refine aa_t (i := 7) rfl rfl (by kernel_rfl) (by first | rfl | exact wan_y rfl rfl (beq_tt ‹_›) | exact wan_y rfl rfl (beq_ff ‹_›) | exact wan_y rfl rfl (by simp [*])) (fun h0 hS => st_assign rfl ⟨rfl, rfl⟩) trivial ?_
      refine aa_done (by kernel_rfl) ?_ _
      refine x_then ?_
      refine hK _ ?_
      clear hK K
      refine aw_ret ?_
      refine x_blockR ?_
      refine x_thenR ?_
      clear hK K
      refine x_thenR ?_
      refine x_blockR ?_
      refine x_thenR ?_
      clear hK K
      refine abody_ret (r := chgR (renameL f src name to name2)) none (by repeat (first | exact ResA.nil | (apply ResA.tmp; (focus exact rfl)) | (apply ResA.cellN; (focus exact inferInstance); (focus exact rfl); (focus exact rfl); (focus exact rfl)) | (apply ResA.cell1; (focus exact inferInstance); (focus exact rfl); (focus exact rfl); (focus exact rfl)))) rfl rfl rfl ?_ ⟨rfl, rfl, rfl⟩
      rw [hRen, show ordL pa pb = x from ord_hit hx ha (.inl hc2), if_pos (ord_ne hx)]
      exact err_le _
    · have hc2 := bp hb2
      refine g_y (st_move rfl ?_)
      refine g_y (st_move rfl ?_)
      refine g_y (st_move rfl ?_)
      refine g_y (st_index rfl rfl rfl (by first | assumption | rfl) ?_)
      refine g_y (st_loadF1 rfl rfl ?_)
      first | refine g_y (st_eql rfl rfl ?_) | refine g_y (st_eqlS rfl rfl ?_) | refine g_y (st_eqlB (by kernel_rfl) rfl rfl ?_)
      refine al_p rfl (p_f ?_)
      refine al_nil (x_then (hK _ ?_))
      clear hK K
      refine aw_cond rfl (fun hb3 => ?_) (fun hb3 => ?_)
      · have hc3 := bp hb3
        refine aw_seq (fun K hK => ?_)
        refine aw_draw (fun _ => True) 8 (by kernel_rfl) ?_
        refine aa_t (i := 0) rfl rfl (by kernel_rfl) (by first | rfl | exact wan_y rfl rfl (beq_tt ‹_›) | exact wan_y rfl rfl (beq_ff ‹_›) | exact wan_y rfl rfl (by simp [*])) (fun h0 hS => st_build (by repeat (first | exact FillA.nil _ | (apply FillA.cons; (focus exact rfl); (focus exact rfl); (focus exact rfl); (focus exact rfl); (focus exact rfl); (focus (repeat constructor))))) ⟨rfl, rfl⟩) trivial ?_
        refine aa_t (i := 1) rfl rfl (by kernel_rfl) (by first | rfl | exact wan_y rfl rfl (beq_tt ‹_›) | exact wan_y rfl rfl (beq_ff ‹_›) | exact wan_y rfl rfl (by simp [*])) (fun h0 hS => st_move rfl ⟨rfl, rfl⟩) trivial ?_
        refine aa_t (i := 2) rfl rfl (by kernel_rfl) (by first | rfl | exact wan_y rfl rfl (beq_tt ‹_›) | exact wan_y rfl rfl (beq_ff ‹_›) | exact wan_y rfl rfl (by simp [*])) (fun h0 hS => st_move rfl ⟨rfl, rfl⟩) trivial ?_
        refine aa_t (i := 3) rfl rfl (by kernel_rfl) (by first | rfl | exact wan_y rfl rfl (beq_tt ‹_›) | exact wan_y rfl rfl (beq_ff ‹_›) | exact wan_y rfl rfl (by simp [*])) (fun h0 hS => st_index rfl rfl rfl (by first | assumption | rfl) ⟨rfl, rfl⟩) trivial ?_
        refine aa_t (i := 4) rfl rfl (by kernel_rfl) (by first | rfl | exact wan_y rfl rfl (beq_tt ‹_›) | exact wan_y rfl rfl (beq_ff ‹_›) | exact wan_y rfl rfl (by simp [*])) (fun h0 hS => st_loadF1 rfl rfl ⟨rfl, rfl⟩) trivial ?_
        refine aa_c0 (i := 5) rfl (by kernel_rfl) (by first | rfl | exact wan_y rfl rfl (beq_tt ‹_›) | exact wan_y rfl rfl (beq_ff ‹_›) | exact wan_y rfl rfl (by simp [*])) (s_store rfl rfl rfl rfl rfl rfl (by repeat constructor) (by repeat constructor) ?_)
        refine ⟨.inr trivial, ?_⟩
        refine aa_t (i := 6) rfl rfl (by kernel_rfl) (by first | rfl | exact wan_y rfl rfl (beq_tt ‹_›) | exact wan_y rfl rfl (beq_ff ‹_›) | exact wan_y rfl rfl (by simp [*])) (fun h0 hS => st_assign rfl ⟨rfl, rfl⟩) trivial ?_
        refine aa_t (i := 7) rfl rfl (by kernel_rfl) (by first | rfl | exact wan_y rfl rfl (beq_tt ‹_›) | exact wan_y rfl rfl (beq_ff ‹_›) | exact wan_y rfl rfl (by simp [*])) (fun h0 hS => st_assign rfl ⟨rfl, rfl⟩) trivial ?_
        refine aa_done (by kernel_rfl) ?_ _
        refine x_then ?_
        refine hK _ ?_
        clear hK K
        refine aw_ret ?_
        refine x_blockR ?_
        refine x_thenR ?_
        clear hK K
        refine x_thenR ?_
        refine x_blockR ?_
        refine x_thenR ?_
        clear hK K
        refine abody_ret (r := chgR (renameL f src name to name2)) none (by repeat (first | exact ResA.nil | (apply ResA.tmp; (focus exact rfl)) | (apply ResA.cellN; (focus exact inferInstance); (focus exact rfl); (focus exact rfl); (focus exact rfl)) | (apply ResA.cell1; (focus exact inferInstance); (focus exact rfl); (focus exact rfl); (focus exact rfl)))) rfl rfl rfl ?_ ⟨rfl, rfl, rfl⟩
        rw [hRen, show ordL pa pb = x from ord_hit hx ha (.inr hc3), if_pos (ord_ne hx)]
        exact err_le _
      · have hc3 := bp hb3
        refine aw_skip ?_
        refine x_blockN ?_
        refine x_then ?_
        refine hK _ ?_
        clear hK K
        refine aw_region ?_
        refine p_mv ?_
        first | refine al_p rfl (st_add64 rfl rfl (by omega) ?_) | refine al_p rfl (st_addS rfl rfl (by omega) ?_) | refine al_p rfl (st_add rfl rfl ?_)
        refine p_as ?_
        refine al_nil ?_
        refine x_then ?_
        refine ⟨_, _, ?_, ⟨j + 1, hlt, rfl, upto_snoc hx ha (not_or.2 ⟨hc2, hc3⟩), rfl⟩, (wk 4 0)⟩
        omega
  · have hc1 := bp hb1
    have e3 := row_no intA (l := ordV) hj hc1
    subst e3
    have hord : ordL pa pb = 0 := ord_none ha
    obtain ⟨hpl1, hpl2⟩ := ord_zero (f := f) (x := src) (y := to) (name := name) (name2 := name2) (by rw [hpa, hpb]; exact hord)
    refine aw_exit ?_
    refine x_thenE ?_
    clear hK K
    refine x_thenE ?_
    refine ABlock_out ?_
    refine x_then ?_
    refine hK _ ?_
    clear hK K
    refine p_sr (fun K hK => ?_)
    refine al_p rfl (st_loadBW rfl rfl rfl ?_)
    refine al_p rfl (st_loadBW rfl rfl rfl ?_)
    refine p_mv ?_
    refine al_p rfl (q_call (L1) ?_)
    rintro r rfl
    refine p_mv ?_
    refine al_p rfl (st_extract rfl rfl ?_)
    refine al_p rfl (st_extract rfl rfl ?_)
    refine al_p rfl (s_alloc (by repeat constructor) ?_)
    refine p_st ?_
    refine p_as ?_
    refine al_nil (x_then (hK _ ?_))
    clear hK K
    refine aw_seq (fun K hK => ?_)
    refine p_sr (fun K hK => ?_)
    refine p_mv ?_
    first | refine al_p rfl (st_neq rfl rfl ?_) | refine al_p rfl (st_neqS rfl rfl ?_) | refine al_p rfl (st_neqB (by kernel_rfl) rfl rfl ?_)
    refine al_nil (x_then (hK _ ?_))
    clear hK K
    refine aw_cond rfl (fun hb4 => ?_) (fun hb4 => ?_)
    · have hc4 := bp hb4
      refine p_sr (fun K hK => ?_)
      refine p_bd ?_
      refine p_mv ?_
      refine p_st ?_
      refine p_as ?_
      refine p_as ?_
      refine al_nil (x_then (hK _ ?_))
      clear hK K
      refine aw_ret ?_
      refine x_thenR ?_
      clear hK K
      refine abody_ret (r := chgR (renameL f src name to name2)) none (by repeat (first | exact ResA.nil | (apply ResA.tmp; (focus exact rfl)) | (apply ResA.cellN; (focus exact inferInstance); (focus exact rfl); (focus exact rfl); (focus exact rfl)) | (apply ResA.cell1; (focus exact inferInstance); (focus exact rfl); (focus exact rfl); (focus exact rfl)))) rfl rfl rfl ?_ ⟨rfl, rfl, rfl⟩
      rw [hRen, if_neg (by rw [hord]; simp), if_pos hc4]
      exact err_le _
    · have hc4 := bp hb4
      have he1 : e1 = 0 := by omega
      refine aw_skip ?_
      refine x_then ?_
      refine hK _ ?_
      clear hK K
      refine aw_seq (fun K hK => ?_)
      refine p_sr (fun K hK => ?_)
      refine al_p rfl (st_fieldB rfl ?_)
      refine al_p rfl (st_loadB1 rfl rfl rfl ?_)
      refine al_p rfl (st_fieldB rfl ?_)
      refine al_p rfl (st_loadB1 rfl rfl rfl ?_)
      first | refine al_p rfl (st_neq rfl rfl ?_) | refine al_p rfl (st_neqS rfl rfl ?_) | refine al_p rfl (st_neqB (by kernel_rfl) rfl rfl ?_)
      refine al_nil (x_then (hK _ ?_))
      clear hK K
      refine aw_cond rfl (fun hb5 => ?_) (fun hb5 => ?_)
      · have hc5 := bp hb5
        refine p_sr (fun K hK => ?_)
        refine p_bd ?_
        refine p_st ?_
        refine p_as ?_
        refine p_as ?_
        refine al_nil (x_then (hK _ ?_))
        clear hK K
        refine aw_ret ?_
        refine x_thenR ?_
        clear hK K
        refine abody_ret (r := chgR (renameL f src name to name2)) none (by repeat (first | exact ResA.nil | (apply ResA.tmp; (focus exact rfl)) | (apply ResA.cellN; (focus exact inferInstance); (focus exact rfl); (focus exact rfl); (focus exact rfl)) | (apply ResA.cell1; (focus exact inferInstance); (focus exact rfl); (focus exact rfl); (focus exact rfl)))) rfl rfl rfl ?_ ⟨rfl, rfl, rfl⟩
        rw [hRen, if_neg (by rw [hord]; simp), if_neg (by simp [he1]), if_pos hc5]
        exact err_le _
      · have hc5 := bp hb5
        refine aw_skip ?_
        refine x_then ?_
        refine hK _ ?_
        clear hK K
        refine p_sr (fun K hK => ?_)
        refine al_p rfl (st_loadBW rfl rfl rfl ?_)
        refine al_p rfl (st_loadBW rfl rfl rfl ?_)
        refine al_p rfl (q_call (Rdir f A hf) ?_)
        rintro r rfl
        refine p_as ?_
        refine al_nil (x_then (hK _ ?_))
        clear hK K
        refine aw_midI (fun t => (dirL f A = true → belowF f to A = false) ∧ t = ⟨look [(2, .v (.string name)), (4, .v (.string name2)), (5, .bp 0 0), (6, .bp 1 0), (8, .bp 2 0), (10, .bp 3 0), (17, .bp 4 0), (19, .v (.bool (dirL f A)))], ⟨[flsA f, filA src, filA to, [.v (.slice none 0 0)], filA A], []⟩⟩) ?_ ?_
        · skip
          refine p_sr (fun K hK => ?_)
          refine p_mv ?_
          refine p_mv ?_
          refine al_gs true rfl rfl (fun hb6 => ?_) (fun hb6 => ?_)
          · have hc6 := bp hb6
            refine g_y (st_loadBW rfl rfl rfl ?_)
            refine g_y (st_loadBW rfl rfl rfl ?_)
            refine g_y (st_loadBW rfl rfl rfl ?_)
            refine g_y (q_call (Rbelow f to A hf) ?_)
            rintro r rfl
            refine al_p rfl (p_t ?_)
            refine al_nil (x_then (hK _ ?_))
            clear hK K
            refine aw_cond rfl (fun hb7 => ?_) (fun hb7 => ?_)
            · have hc7 := bp hb7
              refine p_sr (fun K hK => ?_)
              refine p_bd ?_
              refine p_st ?_
              refine p_as ?_
              refine p_as ?_
              refine al_nil (x_then (hK _ ?_))
              clear hK K
              refine aw_ret ?_
              refine x_thenR ?_
              refine abody_ret (r := chgR (renameL f src name to name2)) none (by repeat (first | exact ResA.nil | (apply ResA.tmp; (focus exact rfl)) | (apply ResA.cellN; (focus exact inferInstance); (focus exact rfl); (focus exact rfl); (focus exact rfl)) | (apply ResA.cell1; (focus exact inferInstance); (focus exact rfl); (focus exact rfl); (focus exact rfl)))) rfl rfl rfl ?_ ⟨rfl, rfl, rfl⟩
              rw [hRen, if_neg (by rw [hord]; simp), if_neg (by simp [he1]), if_neg (by simp [hc5]), if_pos ⟨hc6, hc7⟩]
              exact err_le _
            · have hc7 := bp hb7
              have hbl : dirL f A = true → belowF f to A = false := fun _ => hc7
              refine aw_skip ?_
              refine x_then ?_
              exact ⟨_, ⟨hbl, rfl⟩, (wk 5 0)⟩
          · have hc6 := bp hb6
            have hbl : dirL f A = true → belowF f to A = false := fun h => absurd (h.symm.trans hc6) (by decide)
            refine g_n ?_
            refine g_n ?_
            refine g_n ?_
            refine g_n ?_
            refine al_p rfl (p_f ?_)
            refine al_nil (x_then (hK _ ?_))
            clear hK K
            refine aw_cn rfl (by first | rfl | assumption | simp [*]) ?_
            refine aw_skip ?_
            refine x_then ?_
            exact ⟨_, ⟨hbl, rfl⟩, (wk 5 0)⟩
        · rintro t ⟨hbl, rfl⟩
          refine p_sr (fun K hK => ?_)
          refine al_p rfl (st_loadBW rfl rfl rfl ?_)
          refine al_p rfl (st_loadBW rfl rfl rfl ?_)
          refine p_mv ?_
          refine al_p rfl (q_call (L2) ?_)
          rintro r rfl
          refine p_mv ?_
          refine al_p rfl (st_extract rfl rfl ?_)
          refine al_p rfl (st_extract rfl rfl ?_)
          refine al_p rfl (s_alloc (by repeat constructor) ?_)
          refine p_st ?_
          refine p_as ?_
          refine al_nil (x_then (hK _ ?_))
          clear hK K
          refine aw_midI (fun t => (e2 = 0 → O ≠ A) ∧ t = ⟨look [(2, .v (.string name)), (4, .v (.string name2)), (5, .bp 0 0), (6, .bp 1 0), (8, .bp 2 0), (10, .bp 3 0), (17, .bp 4 0), (18, .v (.int .i64 e2)), (19, .v (.bool (dirL f A))), (20, .bp 5 0)], ⟨[flsA f, filA src, filA to, [.v (.slice none 0 0)], filA A, filA O], []⟩⟩) ?_ ?_
          · skip
            refine p_sr (fun K hK => ?_)
            refine p_mv ?_
            first | refine al_p rfl (st_eql rfl rfl ?_) | refine al_p rfl (st_eqlS rfl rfl ?_) | refine al_p rfl (st_eqlB (by kernel_rfl) rfl rfl ?_)
            refine p_mv ?_
            refine al_gs true rfl rfl (fun hb8 => ?_) (fun hb8 => ?_)
            · have hc8 := bp hb8
              refine g_y (st_loadBW rfl rfl rfl ?_)
              refine g_y (st_loadBW rfl rfl rfl ?_)
              refine g_y (st_binA rfl rfl (by repeat constructor) (by repeat constructor) (fun w => eqlFil _ _ _ _ w) (by kernel_rfl) ?_)
              refine al_p rfl (p_t ?_)
              refine al_nil (x_then (hK _ ?_))
              clear hK K
              refine aw_cond rfl (fun hb9 => ?_) (fun hb9 => ?_)
              · have hc9 := bp hb9
                refine p_sr (fun K hK => ?_)
                refine al_p rfl (st_loadBW rfl rfl rfl ?_)
                refine al_p rfl (q_call (RcopyF f hf) ?_)
                rintro r rfl
                refine p_st ?_
                refine p_as ?_
                refine p_as ?_
                refine al_nil (x_then (hK _ ?_))
                clear hK K
                refine aw_ret ?_
                refine x_thenR ?_
                refine abody_ret (r := chgR (renameL f src name to name2)) none (by repeat (first | exact ResA.nil | (apply ResA.tmp; (focus exact rfl)) | (apply ResA.cellN; (focus exact inferInstance); (focus exact rfl); (focus exact rfl); (focus exact rfl)) | (apply ResA.cell1; (focus exact inferInstance); (focus exact rfl); (focus exact rfl); (focus exact rfl)))) rfl rfl rfl ?_ ⟨rfl, rfl, rfl⟩
                rw [hRen, if_neg (by rw [hord]; simp), if_neg (by simp [he1]), if_neg (by simp [hc5]), if_neg (fun h => absurd h.2 (by rw [hbl h.1]; decide)), if_pos ⟨hc8, hc9⟩]
                exact keepE_le _
              · have hc9 := bp hb9
                have hoa : e2 = 0 → O ≠ A := fun _ => hc9
                refine aw_skip ?_
                refine x_then ?_
                exact ⟨_, ⟨hoa, rfl⟩, (wk 6 0)⟩
            · have hc8 := bp hb8
              have hoa : e2 = 0 → O ≠ A := fun h => absurd h hc8
              refine g_n ?_
              refine g_n ?_
              refine g_n ?_
              refine al_p rfl (p_f ?_)
              refine al_nil (x_then (hK _ ?_))
              clear hK K
              refine aw_cn rfl (by first | rfl | assumption | simp [*]) ?_
              refine aw_skip ?_
              refine x_then ?_
              exact ⟨_, ⟨hoa, rfl⟩, (wk 6 0)⟩
          · rintro t ⟨hoa, rfl⟩
            refine aw_midI (fun t => ren2L f src to A O e2 = 0 ∧ t = ⟨look [(2, .v (.string name)), (4, .v (.string name2)), (5, .bp 0 0), (6, .bp 1 0), (8, .bp 2 0), (10, .bp 3 0), (17, .bp 4 0), (18, .v (.int .i64 e2)), (19, .v (.bool (dirL f A))), (20, .bp 5 0)], ⟨[flsA f, filA src, filA to, [.v (.slice none 0 0)], filA A, filA O], []⟩⟩) ?_ ?_
            · skip
              refine p_sr (fun K hK => ?_)
              refine p_mv ?_
              first | refine al_p rfl (st_eql rfl rfl ?_) | refine al_p rfl (st_eqlS rfl rfl ?_) | refine al_p rfl (st_eqlB (by kernel_rfl) rfl rfl ?_)
              refine al_nil (x_then (hK _ ?_))
              clear hK K
              refine aw_cond rfl (fun hb10 => ?_) (fun hb10 => ?_)
              · have hc10 := bp hb10
                refine p_sr (fun K hK => ?_)
                refine al_p rfl (st_loadBW rfl rfl rfl ?_)
                refine al_p rfl (st_loadBW rfl rfl rfl ?_)
                refine al_p rfl (q_call (Rdir f O hf) ?_)
                rintro r rfl
                refine p_as ?_
                refine al_nil (x_then (hK _ ?_))
                clear hK K
                refine aw_seq (fun K hK => ?_)
                refine p_sr (fun K hK => ?_)
                refine p_mv ?_
                refine p_mv ?_
                refine al_gs true rfl rfl (fun hb11 => ?_) (fun hb11 => ?_)
                · have hc11 := bp hb11
                  refine g_y (st_move rfl ?_)
                  refine g_y (st_not rfl ?_)
                  refine al_p rfl (p_t ?_)
                  refine al_nil (x_then (hK _ ?_))
                  clear hK K
                  refine aw_cond rfl (fun hb12 => ?_) (fun hb12 => ?_)
                  · have hc12 := bp hb12
                    refine p_sr (fun K hK => ?_)
                    refine p_bd ?_
                    refine p_st ?_
                    refine p_as ?_
                    refine p_as ?_
                    refine al_nil (x_then (hK _ ?_))
                    clear hK K
                    refine aw_ret ?_
                    refine x_thenR ?_
                    clear hK K
                    refine x_thenR ?_
                    refine abody_ret (r := chgR (renameL f src name to name2)) none (by repeat (first | exact ResA.nil | (apply ResA.tmp; (focus exact rfl)) | (apply ResA.cellN; (focus exact inferInstance); (focus exact rfl); (focus exact rfl); (focus exact rfl)) | (apply ResA.cell1; (focus exact inferInstance); (focus exact rfl); (focus exact rfl); (focus exact rfl)))) rfl rfl rfl ?_ ⟨rfl, rfl, rfl⟩
                    have h2 : ren2L f src to A O e2 = 21 := by unfold ren2L; simp [hc10, hc11, hc12]
                    rw [hRen, if_neg (by rw [hord]; simp), if_neg (by simp [he1]), if_neg (by simp [hc5]), if_neg (fun h => absurd h.2 (by rw [hbl h.1]; decide)), if_neg (fun h => hoa h.1 h.2), h2, if_pos (by decide)]
                    exact err_le _
                  · have hc12 := bp hb12
                    refine aw_skip ?_
                    refine x_then ?_
                    refine hK _ ?_
                    clear hK K
                    refine aw_seq (fun K hK => ?_)
                    refine p_sr (fun K hK => ?_)
                    refine p_mv ?_
                    refine al_p rfl (st_not rfl ?_)
                    refine p_mv ?_
                    refine g_n ?_
                    refine al_p rfl (p_f ?_)
                    refine al_nil (x_then (hK _ ?_))
                    clear hK K
                    refine aw_cn rfl (by first | rfl | assumption | simp [*]) ?_
                    refine aw_skip ?_
                    refine x_then ?_
                    refine hK _ ?_
                    clear hK K
                    refine p_sr (fun K hK => ?_)
                    refine p_mv ?_
                    refine p_mv ?_
                    refine g_y (st_loadBW rfl rfl rfl ?_)
                    refine g_y (st_loadBW rfl rfl rfl ?_)
                    refine g_y (q_call (Rempty f O hf) ?_)
                    rintro r rfl
                    refine g_y (st_not rfl ?_)
                    refine al_p rfl (p_t ?_)
                    refine al_nil (x_then (hK _ ?_))
                    clear hK K
                    refine aw_cond rfl (fun hb13 => ?_) (fun hb13 => ?_)
                    · have hc13 := bp hb13
                      refine p_sr (fun K hK => ?_)
                      refine p_bd ?_
                      refine p_st ?_
                      refine p_as ?_
                      refine p_as ?_
                      refine al_nil (x_then (hK _ ?_))
                      clear hK K
                      refine aw_ret ?_
                      refine x_thenR ?_
                      refine abody_ret (r := chgR (renameL f src name to name2)) none (by repeat (first | exact ResA.nil | (apply ResA.tmp; (focus exact rfl)) | (apply ResA.cellN; (focus exact inferInstance); (focus exact rfl); (focus exact rfl); (focus exact rfl)) | (apply ResA.cell1; (focus exact inferInstance); (focus exact rfl); (focus exact rfl); (focus exact rfl)))) rfl rfl rfl ?_ ⟨rfl, rfl, rfl⟩
                      have h2 : ren2L f src to A O e2 = 39 := by unfold ren2L; simp [hc10, hc11, hc12, hc13]
                      rw [hRen, if_neg (by rw [hord]; simp), if_neg (by simp [he1]), if_neg (by simp [hc5]), if_neg (fun h => absurd h.2 (by rw [hbl h.1]; decide)), if_neg (fun h => hoa h.1 h.2), h2, if_pos (by decide)]
                      exact err_le _
                    · have hc13 := bp hb13
                      have h2 : ren2L f src to A O e2 = 0 := by unfold ren2L; simp [hc10, hc11, hc12, hc13]
                      refine aw_skip ?_
                      refine x_then ?_
                      exact ⟨_, ⟨h2, rfl⟩, (wk 6 0)⟩
                · have hc11 := bp hb11
                  refine g_n ?_
                  refine g_n ?_
                  refine al_p rfl (p_f ?_)
                  refine al_nil (x_then (hK _ ?_))
                  clear hK K
                  refine aw_cn rfl (by first | rfl | assumption | simp [*]) ?_
                  refine aw_skip ?_
                  refine x_then ?_
                  refine hK _ ?_
                  clear hK K
                  refine aw_seq (fun K hK => ?_)
                  refine p_sr (fun K hK => ?_)
                  refine p_mv ?_
                  refine al_p rfl (st_not rfl ?_)
                  refine p_mv ?_
                  refine g_y (st_move rfl ?_)
                  refine al_p rfl (p_t ?_)
                  refine al_nil (x_then (hK _ ?_))
                  clear hK K
                  refine aw_cond rfl (fun hb14 => ?_) (fun hb14 => ?_)
                  · have hc14 := bp hb14
                    refine p_sr (fun K hK => ?_)
                    refine p_bd ?_
                    refine p_st ?_
                    refine p_as ?_
                    refine p_as ?_
                    refine al_nil (x_then (hK _ ?_))
                    clear hK K
                    refine aw_ret ?_
                    refine x_thenR ?_
                    clear hK K
                    refine x_thenR ?_
                    refine abody_ret (r := chgR (renameL f src name to name2)) none (by repeat (first | exact ResA.nil | (apply ResA.tmp; (focus exact rfl)) | (apply ResA.cellN; (focus exact inferInstance); (focus exact rfl); (focus exact rfl); (focus exact rfl)) | (apply ResA.cell1; (focus exact inferInstance); (focus exact rfl); (focus exact rfl); (focus exact rfl)))) rfl rfl rfl ?_ ⟨rfl, rfl, rfl⟩
                    have h2 : ren2L f src to A O e2 = 20 := by unfold ren2L; simp [hc10, hc11, hc14]
                    rw [hRen, if_neg (by rw [hord]; simp), if_neg (by simp [he1]), if_neg (by simp [hc5]), if_neg (fun h => absurd h.2 (by rw [hbl h.1]; decide)), if_neg (fun h => hoa h.1 h.2), h2, if_pos (by decide)]
                    exact err_le _
                  · have hc14 := bp hb14
                    have h2 : ren2L f src to A O e2 = 0 := by unfold ren2L; simp [hc10, hc11, hc14]
                    refine aw_skip ?_
                    refine x_then ?_
                    refine hK _ ?_
                    clear hK K
                    refine p_sr (fun K hK => ?_)
                    refine p_mv ?_
                    refine p_mv ?_
                    refine g_n ?_
                    refine g_n ?_
                    refine g_n ?_
                    refine g_n ?_
                    refine al_p rfl (p_f ?_)
                    refine al_nil (x_then (hK _ ?_))
                    clear hK K
                    refine aw_cn rfl (by first | rfl | assumption | simp [*]) ?_
                    refine aw_skip ?_
                    refine x_then ?_
                    exact ⟨_, ⟨h2, rfl⟩, (wk 6 0)⟩
              · have hc10 := bp hb10
                refine p_sr (fun K hK => ?_)
                refine al_p rfl (st_loadBW rfl rfl rfl ?_)
                refine al_p rfl (st_loadBW rfl rfl rfl ?_)
                refine al_p rfl (q_call (Rfull f to hf) ?_)
                rintro r rfl
                refine p_mv ?_
                refine al_gs true rfl rfl (fun hb15 => ?_) (fun hb15 => ?_)
                · have hc15 := bp hb15
                  refine g_y (st_loadBW rfl rfl rfl ?_)
                  refine g_y (st_loadBW rfl rfl rfl ?_)
                  refine g_y (st_binA rfl rfl (by repeat constructor) (by repeat constructor) (fun w => neqlFil _ _ _ _ w) (by kernel_rfl) ?_)
                  refine al_p rfl (p_t ?_)
                  refine al_nil (x_then (hK _ ?_))
                  clear hK K
                  refine aw_cond rfl (fun hb16 => ?_) (fun hb16 => ?_)
                  · have hc16 := bp hb16
                    refine p_sr (fun K hK => ?_)
                    refine p_bd ?_
                    refine p_st ?_
                    refine p_as ?_
                    refine p_as ?_
                    refine al_nil (x_then (hK _ ?_))
                    clear hK K
                    refine aw_ret ?_
                    refine x_thenR ?_
                    refine abody_ret (r := chgR (renameL f src name to name2)) none (by repeat (first | exact ResA.nil | (apply ResA.tmp; (focus exact rfl)) | (apply ResA.cellN; (focus exact inferInstance); (focus exact rfl); (focus exact rfl); (focus exact rfl)) | (apply ResA.cell1; (focus exact inferInstance); (focus exact rfl); (focus exact rfl); (focus exact rfl)))) rfl rfl rfl ?_ ⟨rfl, rfl, rfl⟩
                    have h2 : ren2L f src to A O e2 = 28 := by unfold ren2L; rw [if_neg hc10, if_pos ⟨hc15, hc16⟩]
                    rw [hRen, if_neg (by rw [hord]; simp), if_neg (by simp [he1]), if_neg (by simp [hc5]), if_neg (fun h => absurd h.2 (by rw [hbl h.1]; decide)), if_neg (fun h => hoa h.1 h.2), h2, if_pos (by decide)]
                    exact err_le _
                  · have hc16 := bp hb16
                    have h2 : ren2L f src to A O e2 = 0 := by unfold ren2L; rw [if_neg hc10, if_neg (fun h => h.2 hc16)]
                    refine aw_skip ?_
                    refine x_then ?_
                    exact ⟨_, ⟨h2, rfl⟩, (wk 6 0)⟩
                · have hc15 := bp hb15
                  have h2 : ren2L f src to A O e2 = 0 := by unfold ren2L; rw [if_neg hc10, if_neg (fun h => absurd (h.1.symm.trans hc15) (by decide))]
                  refine g_n ?_
                  refine g_n ?_
                  refine g_n ?_
                  refine al_p rfl (p_f ?_)
                  refine al_nil (x_then (hK _ ?_))
                  clear hK K
                  refine aw_cn rfl (by first | rfl | assumption | simp [*]) ?_
                  refine aw_skip ?_
                  refine x_then ?_
                  exact ⟨_, ⟨h2, rfl⟩, (wk 6 0)⟩
            · rintro t ⟨h2, rfl⟩
              obtain ⟨q, i, d, n1, hsq, hq, hn1, hn1i, hidx, hnode, hk1, hnm1⟩ := place_ok hpl1
              obtain ⟨q', i2, d', n2, htq, hq', hn2, hn2i, -, hnode2, hk2, hnm2⟩ := place_ok hpl2
              obtain rfl : q = q' := by omega
              obtain rfl : d = d' := Option.some.inj (hq.symm.trans hq')
              have hvd := hv.vd d (List.mem_of_getElem? hq)
              have hql := (List.getElem?_eq_some_iff.1 hq).1
              have hil := (List.getElem?_eq_some_iff.1 hn1).1
              obtain ⟨e, he, hle⟩ := look_ok hnode hk1 (by rw [hl1]; exact he1)
              have hA1 : A = (src.1, e.2) := by rw [hl1] at hle; exact congrArg Prod.fst hle
              have hAm : ∃ m ∈ d.nodes, m.ino = A.2 := by rw [hA1]; exact (hvd.ent n1 (List.mem_of_getElem? hn1) e (entF_some he).1).2.2
              obtain ⟨X1, X2, m2, hX1, hm2, hm2i, hX2, hasc1, hasc2, hx1l, hx2l, hX2D, hf1, hf2, hb2, ⟨r, hr, hr1⟩, ⟨am, ham, hami⟩⟩ := ren_facts hv hq hn1 hn2 name name2 A.2 hAm
              have hidx2 : indexL (f.set q ⟨d.next, X1⟩) to = (i2 : Int) := index_asc htq (d := ⟨d.next, X1⟩) (by simp [hql]) hasc1 hm2 (hm2i.trans hn2i)
              have hoo : e2 = 0 → O.1 = (q : Int) ∧ 0 < (keepNot O.2 X2).length := by
                intro h
                obtain ⟨e', he', hle'⟩ := look_ok hnode2 hk2 (by rw [hl2]; exact h)
                have hO1 : O = (to.1, e'.2) := by rw [hl2] at hle'; exact congrArg Prod.fst hle'
                refine ⟨by rw [hO1]; exact htq, keep_pos hr ?_⟩
                rw [hr1, hO1]
                exact (hvd.ent n2 (List.mem_of_getElem? hn2) e' (entF_some he').1).2.1.symm
              have hO1 : e2 = 0 → O.1 = A.1 := fun h => by rw [(hoo h).1, hA1]; exact hsq.symm
              obtain ⟨NS, hNS⟩ : ∃ NS, NS = (if e2 = 0 then dropI X2 O.2 else X2) := ⟨_, rfl⟩
              have hNSf : NS = X2 ∨ (e2 = 0 ∧ NS = dropI X2 O.2) := by
                by_cases h : e2 = 0
                · exact .inr ⟨h, by rw [hNS, if_pos h]⟩
                · exact .inl (by rw [hNS, if_neg h])
              have hsub : NS.Sublist X2 := by
                rcases hNSf with h | ⟨_, h⟩
                · rw [h]; exact List.Sublist.refl _
                · rw [h]; exact List.filter_sublist
              have hasc3 : Asc NS := hasc2.sublist hsub
              have hAN : am ∈ NS := by
                rcases hNSf with h | ⟨h0, h⟩
                · rw [h]; exact ham
                · rw [h]
                  refine List.mem_filter.2 ⟨ham, decide_eq_true (.inl fun e => hoa h0 ?_)⟩
                  exact Prod.ext (hO1 h0) (by rw [← e, hami])
              obtain ⟨i3, hm3⟩ := List.getElem?_of_mem hAN
              have hil3 := (List.getElem?_eq_some_iff.1 hm3).1
              have hf3 : FlsB (f.set q ⟨d.next, NS⟩) := hf.set_ (by have := hsub.length_le; have := hvd.len; show NS.length ≤ 1000; omega) fun m hm => hb2 m (hsub.subset hm)
              have hidx3 : indexL (f.set q ⟨d.next, NS⟩) A = (i3 : Int) := index_asc (by rw [hA1]; exact hsq) (d := ⟨d.next, NS⟩) (by simp [hql]) hasc3 hm3 hami
              obtain ⟨m3, rfl⟩ : ∃ m3, m3 = am := ⟨_, rfl⟩
              have hm3i := hami
              obtain ⟨NS2, hNS2⟩ : ∃ NS2, NS2 = renPar NS A.2 to.2 (dirL f A) := ⟨_, rfl⟩
              refine p_sr (fun K hK => ?_)
              refine al_p rfl (st_loadBW rfl rfl rfl ?_)
              refine al_p rfl (s_callM [] rfl (.cons _ _ _ _ _ rfl (LeA.refl _) .nil) (by decide) .nil (RcopyK f q d hf hq (by omega)) ?_)
              rintro r bc tc ⟨rfl, cap, cap1, hcap, hcap1, rfl, rfl⟩
              refine ⟨rfl, _, (back_new2 (n := 6) rfl f q d d.nodes cap cap1 : Back _ [] _ [_, _, _, _, _, _, _, _]), ?_⟩
              have hcx1 : X1.length ≤ cap1 := by omega
              have hcx2 : X2.length ≤ cap1 := by omega
              refine al_p rfl (s_alloc (by repeat constructor) ?_)
              refine p_st ?_
              refine al_nil (x_then (hK _ ?_))
              clear hK K
              refine p_sr (fun K hK => ?_)
              refine al_p rfl (st_loadBW rfl rfl rfl ?_)
              refine al_p rfl (st_loadBW rfl rfl rfl ?_)
              refine p_mv ?_
              refine al_p rfl (s_callM [6, 7] rfl (.cons _ _ _ _ _ rfl (LeA.refl _) (.cons _ _ _ _ _ rfl (LeA.refl _) (.cons _ _ _ _ _ rfl (LeA.refl _) (.cons _ _ _ _ _ rfl (LeA.refl _) .nil)))) (by decide) (.cons _ _ _ _ _ rfl (ren_DB (by rfl) _ _ _ _ _) (.cons _ _ _ _ _ rfl (ren_NB _ _ _) .nil)) (Renter f q d n1 i src name 0 cap cap1 hf hq hsq hidx hn1 hcap hcap1) ?_)
              rintro r bc tc ⟨rfl, rfl, rfl⟩
              rw [show d.nodes.set i { n1 with entries := entL n1.entries name 0 } = X1 from hX1.symm]
              refine ⟨rfl, _, (back_two (Nat.le_of_ble_eq_true rfl) (Nat.le_of_ble_eq_true rfl) (by decide) f q d X1 cap cap1 cap1 : Back _ [6, 7] _ [_, _, _, _, _, _, _, _, _]), ?_⟩
              refine al_nil (x_then (hK _ ?_))
              clear hK K
              refine p_sr (fun K hK => ?_)
              refine al_p rfl (st_loadBW rfl rfl rfl ?_)
              refine al_p rfl (st_loadBW rfl rfl rfl ?_)
              refine p_mv ?_
              refine al_p rfl (st_fieldB rfl ?_)
              refine al_p rfl (st_loadB1 rfl rfl rfl ?_)
              refine al_p rfl (s_callM [6, 7] rfl (.cons _ _ _ _ _ rfl (LeA.refl _) (.cons _ _ _ _ _ rfl (LeA.refl _) (.cons _ _ _ _ _ rfl (LeA.refl _) (.cons _ _ _ _ _ rfl (LeA.refl _) .nil)))) (by decide) (.cons _ _ _ _ _ rfl (ren_DB (by rfl) _ _ _ _ _) (.cons _ _ _ _ _ rfl (ren_NB _ _ _) .nil)) (Renter3 f q d ⟨d.next, X1⟩ m2 i2 to name2 A.2 cap cap1 hf1 hql htq hidx2 hm2 hcap hcx1 rfl hx1l) ?_)
              rintro r bc tc ⟨rfl, rfl, rfl⟩
              refine ⟨rfl, ?_⟩
              dsimp only
              rw [← hX2]
              refine ⟨_, (back_two (Nat.le_of_ble_eq_true rfl) (Nat.le_of_ble_eq_true rfl) (by decide) f q ⟨d.next, X2⟩ X2 cap cap1 cap1 : Back _ [6, 7] _ [_, _, _, _, _, _, _, _, _]), ?_⟩
              refine al_nil (x_then (hK _ ?_))
              clear hK K
              refine aw_midI (fun t => ∃ capx, NS.length ≤ capx ∧ t = ⟨look [(2, .v (.string name)), (4, .v (.string name2)), (6, .bp 1 0), (8, .bp 2 0), (10, .bp 3 0), (17, .bp 4 0), (19, .v (.bool (dirL f A))), (20, .bp 5 0), (22, .bp 8 0)], ⟨[flsA f, filA src, filA to, [.v (.slice none 0 0)], filA A, filA O, DB f q ⟨d.next, NS⟩ 7 cap capx, NB NS capx, [.bs 6 0 2 f.length cap]], []⟩⟩) ?_ ?_
              · skip
                refine p_sr (fun K hK => ?_)
                refine p_mv ?_
                first | refine al_p rfl (st_eql rfl rfl ?_) | refine al_p rfl (st_eqlS rfl rfl ?_) | refine al_p rfl (st_eqlB (by kernel_rfl) rfl rfl ?_)
                refine al_nil (x_then (hK _ ?_))
                clear hK K
                refine aw_cond rfl (fun hb17 => ?_) (fun hb17 => ?_)
                · have hc17 := bp hb17
                  have he2 : e2 = 0 := hc17
                  obtain ⟨hoq, hkp⟩ := hoo he2
                  refine aw_region ?_
                  refine al_p rfl (st_loadBW rfl rfl rfl ?_)
                  refine al_p rfl (st_loadBW rfl rfl rfl ?_)
                  refine al_p rfl (s_callM [6, 7] rfl (.cons _ _ _ _ _ rfl (LeA.refl _) (.cons _ _ _ _ _ rfl (LeA.refl _) .nil)) (by decide) (.cons _ _ _ _ _ rfl (ren_DB (by rfl) _ _ _ _ _) (.cons _ _ _ _ _ rfl (ren_NB _ _ _) .nil)) (Rdrop2 f q ⟨d.next, X2⟩ ⟨d.next, X2⟩ O cap cap1 hf2 hql hoq hcap hcx2 hkp rfl rfl) ?_)
                  rintro r bc tc ⟨rfl, rfl, ⟨hns, rfl⟩ | ⟨hns, cap2, hcap2, rfl⟩⟩
                  · refine ⟨rfl, _, (back_four (n := 9) rfl (by decide) (by decide) (by decide) f q ⟨d.next, X2⟩ X2 O f.length cap cap cap1 cap1 : Back _ [6, 7] _ [_, _, _, _, _, _, _, _, _, _, _]), ?_⟩
                    obtain rfl : NS = X2 := by rw [hNS, if_pos (by assumption)]; exact hns
                    refine al_nil ?_
                    refine x_then ?_
                    first | exact ⟨_, ⟨_, hcap2, rfl⟩, weak_ren [0, 1, 2, 3, 4, 5, 6, 11, 8] (fun i hi => absurd hi (Nat.not_lt_zero i)) (by decide) (.cons _ _ _ _ _ rfl rfl (.cons _ _ _ _ _ rfl rfl (.cons _ _ _ _ _ rfl rfl (.cons _ _ _ _ _ rfl rfl (.cons _ _ _ _ _ rfl rfl (.cons _ _ _ _ _ rfl rfl (.cons _ _ _ _ _ rfl (renK_DB (by rfl) _ _ _ _ _) (.cons _ _ _ _ _ rfl (renK_NB _ _ _) (.cons _ _ _ _ _ rfl rfl .nil))))))))) (by repeat (first | exact SubK.nil | refine SubK.cons _ _ _ _ rfl (LeA.refl _) ?_))⟩ | exact ⟨_, ⟨_, hcx2, rfl⟩, weak_of 9 0 rfl rfl rfl (by simp [bpLtB, bpLtL, bpLt, bp_DB, bp_NB, filA, flsA]) ((by repeat (first | exact Sub.nil | refine Sub.cons _ _ _ rfl rfl ?_ | refine Sub.any _ _ ?_ | refine Sub.sl _ _ _ _ _ rfl ?_ | refine Sub.slnil _ _ _ rfl ?_)))⟩
                  · refine ⟨rfl, _, (back_five (n := 9) rfl (by decide) (by decide) (by decide) f q ⟨d.next, keepNot O.2 X2⟩ X2 (keepNot O.2 X2) O f.length cap cap cap1 cap2 : Back _ [6, 7] _ [_, _, _, _, _, _, _, _, _, _, _, _]), ?_⟩
                    have hNSk : NS = keepNot O.2 X2 := by rw [hNS, if_pos (by assumption)]; exact hns
                    rw [← hNSk] at hcap2
                    rw [← hNSk]
                    refine al_nil ?_
                    refine x_then ?_
                    first | exact ⟨_, ⟨_, hcap2, rfl⟩, weak_ren [0, 1, 2, 3, 4, 5, 6, 11, 8] (fun i hi => absurd hi (Nat.not_lt_zero i)) (by decide) (.cons _ _ _ _ _ rfl rfl (.cons _ _ _ _ _ rfl rfl (.cons _ _ _ _ _ rfl rfl (.cons _ _ _ _ _ rfl rfl (.cons _ _ _ _ _ rfl rfl (.cons _ _ _ _ _ rfl rfl (.cons _ _ _ _ _ rfl (renK_DB (by rfl) _ _ _ _ _) (.cons _ _ _ _ _ rfl (renK_NB _ _ _) (.cons _ _ _ _ _ rfl rfl .nil))))))))) (by repeat (first | exact SubK.nil | refine SubK.cons _ _ _ _ rfl (LeA.refl _) ?_))⟩ | exact ⟨_, ⟨_, hcx2, rfl⟩, weak_of 9 0 rfl rfl rfl (by simp [bpLtB, bpLtL, bpLt, bp_DB, bp_NB, filA, flsA]) ((by repeat (first | exact Sub.nil | refine Sub.cons _ _ _ rfl rfl ?_ | refine Sub.any _ _ ?_ | refine Sub.sl _ _ _ _ _ rfl ?_ | refine Sub.slnil _ _ _ rfl ?_)))⟩
                · have hc17 := bp hb17
                  have he2 : ¬ e2 = 0 := hc17
                  obtain rfl : NS = X2 := by rw [hNS, if_neg he2]
                  refine aw_skip ?_
                  refine x_then ?_
                  first | exact ⟨_, ⟨_, hcap2, rfl⟩, weak_ren [0, 1, 2, 3, 4, 5, 6, 11, 8] (fun i hi => absurd hi (Nat.not_lt_zero i)) (by decide) (.cons _ _ _ _ _ rfl rfl (.cons _ _ _ _ _ rfl rfl (.cons _ _ _ _ _ rfl rfl (.cons _ _ _ _ _ rfl rfl (.cons _ _ _ _ _ rfl rfl (.cons _ _ _ _ _ rfl rfl (.cons _ _ _ _ _ rfl (renK_DB (by rfl) _ _ _ _ _) (.cons _ _ _ _ _ rfl (renK_NB _ _ _) (.cons _ _ _ _ _ rfl rfl .nil))))))))) (by repeat (first | exact SubK.nil | refine SubK.cons _ _ _ _ rfl (LeA.refl _) ?_))⟩ | exact ⟨_, ⟨_, hcx2, rfl⟩, weak_of 9 0 rfl rfl rfl (by simp [bpLtB, bpLtL, bpLt, bp_DB, bp_NB, filA, flsA]) ((by repeat (first | exact Sub.nil | refine Sub.cons _ _ _ rfl rfl ?_ | refine Sub.any _ _ ?_ | refine Sub.sl _ _ _ _ _ rfl ?_ | refine Sub.slnil _ _ _ rfl ?_)))⟩
              · rintro t ⟨capx, hcapx, rfl⟩
                refine aw_midI (fun t => t = ⟨look [(2, .v (.string name)), (4, .v (.string name2)), (6, .bp 1 0), (8, .bp 2 0), (10, .bp 3 0), (17, .bp 4 0), (20, .bp 5 0), (22, .bp 8 0)], ⟨[flsA f, filA src, filA to, [.v (.slice none 0 0)], filA A, filA O, DB f q ⟨d.next, NS⟩ 7 cap capx, NB NS2 capx, [.bs 6 0 2 f.length cap]], []⟩⟩) ?_ ?_
                · skip
                  refine p_sr (fun K hK => ?_)
                  refine p_mv ?_
                  refine al_nil (x_then (hK _ ?_))
                  clear hK K
                  refine aw_cond rfl (fun hb18 => ?_) (fun hb18 => ?_)
                  · have hc18 := bp hb18
                    have e4 : NS.set i3 { m3 with parent := to.2 } = NS2 := by rw [hNS2, renPar, if_pos hc18, set_updI hasc3 hm3 (fun n => { n with parent := to.2 }), hm3i]
                    have hset3 : SetAt (NB NS capx) (0 + i3 * 8 + 5) [.v (.int .i64 to.2)] (NB NS2 capx) := by
                      rw [← e4]
                      exact NB_set hm3 (by repeat constructor) (by simp)
                    refine aw_draw (fun h => ∃ y, h.bx = [flsA f, filA src, filA to, [.v (.slice none 0 0)], filA A, filA O, DB f q ⟨d.next, NS⟩ 7 cap capx, y, [.bs 6 0 2 f.length cap]]) 15 (by kernel_rfl) ?_
                    refine aa_t (i := 0) rfl rfl (by kernel_rfl) (by first | rfl | exact wan_y rfl rfl (beq_tt ‹_›) | exact wan_y rfl rfl (beq_ff ‹_›) | exact wan_y rfl rfl (by simp [*])) (fun h0 hS => st_fieldB rfl ⟨rfl, rfl⟩) ⟨_, rfl⟩ ?_
                    first | refine aa_t (i := 1) rfl rfl (by kernel_rfl) (by first | rfl | exact wan_y rfl rfl (beq_tt ‹_›) | exact wan_y rfl rfl (beq_ff ‹_›) | exact wan_y rfl rfl (by simp [*])) (fun h0 hS => st_loadB1 (row := [.bs 6 0 2 f.length cap]) rfl (by obtain ⟨_, e⟩ := hS; rw [e]; rfl) rfl ⟨rfl, rfl⟩) ⟨_, rfl⟩ ?_ | refine aa_t (i := 1) rfl rfl (by kernel_rfl) (by first | rfl | exact wan_y rfl rfl (beq_tt ‹_›) | exact wan_y rfl rfl (beq_ff ‹_›) | exact wan_y rfl rfl (by simp [*])) (fun h0 hS => st_loadB1 (row := filA to) rfl (by obtain ⟨_, e⟩ := hS; rw [e]; rfl) rfl ⟨rfl, rfl⟩) ⟨_, rfl⟩ ?_ | refine aa_t (i := 1) rfl rfl (by kernel_rfl) (by first | rfl | exact wan_y rfl rfl (beq_tt ‹_›) | exact wan_y rfl rfl (beq_ff ‹_›) | exact wan_y rfl rfl (by simp [*])) (fun h0 hS => st_loadB1 (row := DB f q ⟨d.next, NS⟩ 7 cap capx) rfl (by obtain ⟨_, e⟩ := hS; rw [e]; rfl) (DB_nodes hql) ⟨rfl, rfl⟩) ⟨_, rfl⟩ ?_ | refine aa_t (i := 1) rfl rfl (by kernel_rfl) (by first | rfl | exact wan_y rfl rfl (beq_tt ‹_›) | exact wan_y rfl rfl (beq_ff ‹_›) | exact wan_y rfl rfl (by simp [*])) (fun h0 hS => st_loadBW (row := [.bs 6 0 2 f.length cap]) rfl (by obtain ⟨_, e⟩ := hS; rw [e]; rfl) rfl ⟨rfl, rfl⟩) ⟨_, rfl⟩ ?_ | refine aa_t (i := 1) rfl rfl (by kernel_rfl) (by first | rfl | exact wan_y rfl rfl (beq_tt ‹_›) | exact wan_y rfl rfl (beq_ff ‹_›) | exact wan_y rfl rfl (by simp [*])) (fun h0 hS => st_loadBW (row := filA A) rfl (by obtain ⟨_, e⟩ := hS; rw [e]; rfl) rfl ⟨rfl, rfl⟩) ⟨_, rfl⟩ ?_ | refine aa_t (i := 1) rfl rfl (by kernel_rfl) (by first | rfl | exact wan_y rfl rfl (beq_tt ‹_›) | exact wan_y rfl rfl (beq_ff ‹_›) | exact wan_y rfl rfl (by simp [*])) (fun h0 hS => st_loadB1 rfl rfl rfl ⟨rfl, rfl⟩) ⟨_, rfl⟩ ?_
                    refine aa_t (i := 2) rfl rfl (by kernel_rfl) (by first | rfl | exact wan_y rfl rfl (beq_tt ‹_›) | exact wan_y rfl rfl (beq_ff ‹_›) | exact wan_y rfl rfl (by simp [*])) (fun h0 hS => st_fieldB rfl ⟨rfl, rfl⟩) ⟨_, rfl⟩ ?_
                    first | refine aa_t (i := 3) rfl rfl (by kernel_rfl) (by first | rfl | exact wan_y rfl rfl (beq_tt ‹_›) | exact wan_y rfl rfl (beq_ff ‹_›) | exact wan_y rfl rfl (by simp [*])) (fun h0 hS => st_loadB1 (row := [.bs 6 0 2 f.length cap]) rfl (by obtain ⟨_, e⟩ := hS; rw [e]; rfl) rfl ⟨rfl, rfl⟩) ⟨_, rfl⟩ ?_ | refine aa_t (i := 3) rfl rfl (by kernel_rfl) (by first | rfl | exact wan_y rfl rfl (beq_tt ‹_›) | exact wan_y rfl rfl (beq_ff ‹_›) | exact wan_y rfl rfl (by simp [*])) (fun h0 hS => st_loadB1 (row := filA to) rfl (by obtain ⟨_, e⟩ := hS; rw [e]; rfl) rfl ⟨rfl, rfl⟩) ⟨_, rfl⟩ ?_ | refine aa_t (i := 3) rfl rfl (by kernel_rfl) (by first | rfl | exact wan_y rfl rfl (beq_tt ‹_›) | exact wan_y rfl rfl (beq_ff ‹_›) | exact wan_y rfl rfl (by simp [*])) (fun h0 hS => st_loadB1 (row := DB f q ⟨d.next, NS⟩ 7 cap capx) rfl (by obtain ⟨_, e⟩ := hS; rw [e]; rfl) (DB_nodes hql) ⟨rfl, rfl⟩) ⟨_, rfl⟩ ?_ | refine aa_t (i := 3) rfl rfl (by kernel_rfl) (by first | rfl | exact wan_y rfl rfl (beq_tt ‹_›) | exact wan_y rfl rfl (beq_ff ‹_›) | exact wan_y rfl rfl (by simp [*])) (fun h0 hS => st_loadBW (row := [.bs 6 0 2 f.length cap]) rfl (by obtain ⟨_, e⟩ := hS; rw [e]; rfl) rfl ⟨rfl, rfl⟩) ⟨_, rfl⟩ ?_ | refine aa_t (i := 3) rfl rfl (by kernel_rfl) (by first | rfl | exact wan_y rfl rfl (beq_tt ‹_›) | exact wan_y rfl rfl (beq_ff ‹_›) | exact wan_y rfl rfl (by simp [*])) (fun h0 hS => st_loadBW (row := filA A) rfl (by obtain ⟨_, e⟩ := hS; rw [e]; rfl) rfl ⟨rfl, rfl⟩) ⟨_, rfl⟩ ?_ | refine aa_t (i := 3) rfl rfl (by kernel_rfl) (by first | rfl | exact wan_y rfl rfl (beq_tt ‹_›) | exact wan_y rfl rfl (beq_ff ‹_›) | exact wan_y rfl rfl (by simp [*])) (fun h0 hS => st_loadB1 rfl rfl rfl ⟨rfl, rfl⟩) ⟨_, rfl⟩ ?_
                    refine aa_t (i := 4) rfl rfl (by kernel_rfl) (by first | rfl | exact wan_y rfl rfl (beq_tt ‹_›) | exact wan_y rfl rfl (beq_ff ‹_›) | exact wan_y rfl rfl (by simp [*])) (fun h0 hS => st_indexS (m := q) rfl rfl htq hql ⟨rfl, rfl⟩) ⟨_, rfl⟩ ?_
                    refine aa_t (i := 5) rfl rfl (by kernel_rfl) (by first | rfl | exact wan_y rfl rfl (beq_tt ‹_›) | exact wan_y rfl rfl (beq_ff ‹_›) | exact wan_y rfl rfl (by simp [*])) (fun h0 hS => st_fieldB rfl ⟨rfl, rfl⟩) ⟨_, rfl⟩ ?_
                    first | refine aa_t (i := 6) rfl rfl (by kernel_rfl) (by first | rfl | exact wan_y rfl rfl (beq_tt ‹_›) | exact wan_y rfl rfl (beq_ff ‹_›) | exact wan_y rfl rfl (by simp [*])) (fun h0 hS => st_loadB1 (row := [.bs 6 0 2 f.length cap]) rfl (by obtain ⟨_, e⟩ := hS; rw [e]; rfl) rfl ⟨rfl, rfl⟩) ⟨_, rfl⟩ ?_ | refine aa_t (i := 6) rfl rfl (by kernel_rfl) (by first | rfl | exact wan_y rfl rfl (beq_tt ‹_›) | exact wan_y rfl rfl (beq_ff ‹_›) | exact wan_y rfl rfl (by simp [*])) (fun h0 hS => st_loadB1 (row := filA to) rfl (by obtain ⟨_, e⟩ := hS; rw [e]; rfl) rfl ⟨rfl, rfl⟩) ⟨_, rfl⟩ ?_ | refine aa_t (i := 6) rfl rfl (by kernel_rfl) (by first | rfl | exact wan_y rfl rfl (beq_tt ‹_›) | exact wan_y rfl rfl (beq_ff ‹_›) | exact wan_y rfl rfl (by simp [*])) (fun h0 hS => st_loadB1 (row := DB f q ⟨d.next, NS⟩ 7 cap capx) rfl (by obtain ⟨_, e⟩ := hS; rw [e]; rfl) (DB_nodes hql) ⟨rfl, rfl⟩) ⟨_, rfl⟩ ?_ | refine aa_t (i := 6) rfl rfl (by kernel_rfl) (by first | rfl | exact wan_y rfl rfl (beq_tt ‹_›) | exact wan_y rfl rfl (beq_ff ‹_›) | exact wan_y rfl rfl (by simp [*])) (fun h0 hS => st_loadBW (row := [.bs 6 0 2 f.length cap]) rfl (by obtain ⟨_, e⟩ := hS; rw [e]; rfl) rfl ⟨rfl, rfl⟩) ⟨_, rfl⟩ ?_ | refine aa_t (i := 6) rfl rfl (by kernel_rfl) (by first | rfl | exact wan_y rfl rfl (beq_tt ‹_›) | exact wan_y rfl rfl (beq_ff ‹_›) | exact wan_y rfl rfl (by simp [*])) (fun h0 hS => st_loadBW (row := filA A) rfl (by obtain ⟨_, e⟩ := hS; rw [e]; rfl) rfl ⟨rfl, rfl⟩) ⟨_, rfl⟩ ?_ | refine aa_t (i := 6) rfl rfl (by kernel_rfl) (by first | rfl | exact wan_y rfl rfl (beq_tt ‹_›) | exact wan_y rfl rfl (beq_ff ‹_›) | exact wan_y rfl rfl (by simp [*])) (fun h0 hS => st_loadB1 rfl rfl rfl ⟨rfl, rfl⟩) ⟨_, rfl⟩ ?_
                    first | refine aa_t (i := 7) rfl rfl (by kernel_rfl) (by first | rfl | exact wan_y rfl rfl (beq_tt ‹_›) | exact wan_y rfl rfl (beq_ff ‹_›) | exact wan_y rfl rfl (by simp [*])) (fun h0 hS => st_loadB1 (row := [.bs 6 0 2 f.length cap]) rfl (by obtain ⟨_, e⟩ := hS; rw [e]; rfl) rfl ⟨rfl, rfl⟩) ⟨_, rfl⟩ ?_ | refine aa_t (i := 7) rfl rfl (by kernel_rfl) (by first | rfl | exact wan_y rfl rfl (beq_tt ‹_›) | exact wan_y rfl rfl (beq_ff ‹_›) | exact wan_y rfl rfl (by simp [*])) (fun h0 hS => st_loadB1 (row := filA to) rfl (by obtain ⟨_, e⟩ := hS; rw [e]; rfl) rfl ⟨rfl, rfl⟩) ⟨_, rfl⟩ ?_ | refine aa_t (i := 7) rfl rfl (by kernel_rfl) (by first | rfl | exact wan_y rfl rfl (beq_tt ‹_›) | exact wan_y rfl rfl (beq_ff ‹_›) | exact wan_y rfl rfl (by simp [*])) (fun h0 hS => st_loadB1 (row := DB f q ⟨d.next, NS⟩ 7 cap capx) rfl (by obtain ⟨_, e⟩ := hS; rw [e]; rfl) (DB_nodes hql) ⟨rfl, rfl⟩) ⟨_, rfl⟩ ?_ | refine aa_t (i := 7) rfl rfl (by kernel_rfl) (by first | rfl | exact wan_y rfl rfl (beq_tt ‹_›) | exact wan_y rfl rfl (beq_ff ‹_›) | exact wan_y rfl rfl (by simp [*])) (fun h0 hS => st_loadBW (row := [.bs 6 0 2 f.length cap]) rfl (by obtain ⟨_, e⟩ := hS; rw [e]; rfl) rfl ⟨rfl, rfl⟩) ⟨_, rfl⟩ ?_ | refine aa_t (i := 7) rfl rfl (by kernel_rfl) (by first | rfl | exact wan_y rfl rfl (beq_tt ‹_›) | exact wan_y rfl rfl (beq_ff ‹_›) | exact wan_y rfl rfl (by simp [*])) (fun h0 hS => st_loadBW (row := filA A) rfl (by obtain ⟨_, e⟩ := hS; rw [e]; rfl) rfl ⟨rfl, rfl⟩) ⟨_, rfl⟩ ?_ | refine aa_t (i := 7) rfl rfl (by kernel_rfl) (by first | rfl | exact wan_y rfl rfl (beq_tt ‹_›) | exact wan_y rfl rfl (beq_ff ‹_›) | exact wan_y rfl rfl (by simp [*])) (fun h0 hS => st_loadBW rfl rfl rfl ⟨rfl, rfl⟩) ⟨_, rfl⟩ ?_
                    first | refine aa_t (i := 8) rfl rfl (by kernel_rfl) (by first | rfl | exact wan_y rfl rfl (beq_tt ‹_›) | exact wan_y rfl rfl (beq_ff ‹_›) | exact wan_y rfl rfl (by simp [*])) (fun h0 hS => st_loadB1 (row := [.bs 6 0 2 f.length cap]) rfl (by obtain ⟨_, e⟩ := hS; rw [e]; rfl) rfl ⟨rfl, rfl⟩) ⟨_, rfl⟩ ?_ | refine aa_t (i := 8) rfl rfl (by kernel_rfl) (by first | rfl | exact wan_y rfl rfl (beq_tt ‹_›) | exact wan_y rfl rfl (beq_ff ‹_›) | exact wan_y rfl rfl (by simp [*])) (fun h0 hS => st_loadB1 (row := filA to) rfl (by obtain ⟨_, e⟩ := hS; rw [e]; rfl) rfl ⟨rfl, rfl⟩) ⟨_, rfl⟩ ?_ | refine aa_t (i := 8) rfl rfl (by kernel_rfl) (by first | rfl | exact wan_y rfl rfl (beq_tt ‹_›) | exact wan_y rfl rfl (beq_ff ‹_›) | exact wan_y rfl rfl (by simp [*])) (fun h0 hS => st_loadB1 (row := DB f q ⟨d.next, NS⟩ 7 cap capx) rfl (by obtain ⟨_, e⟩ := hS; rw [e]; rfl) (DB_nodes hql) ⟨rfl, rfl⟩) ⟨_, rfl⟩ ?_ | refine aa_t (i := 8) rfl rfl (by kernel_rfl) (by first | rfl | exact wan_y rfl rfl (beq_tt ‹_›) | exact wan_y rfl rfl (beq_ff ‹_›) | exact wan_y rfl rfl (by simp [*])) (fun h0 hS => st_loadBW (row := [.bs 6 0 2 f.length cap]) rfl (by obtain ⟨_, e⟩ := hS; rw [e]; rfl) rfl ⟨rfl, rfl⟩) ⟨_, rfl⟩ ?_ | refine aa_t (i := 8) rfl rfl (by kernel_rfl) (by first | rfl | exact wan_y rfl rfl (beq_tt ‹_›) | exact wan_y rfl rfl (beq_ff ‹_›) | exact wan_y rfl rfl (by simp [*])) (fun h0 hS => st_loadBW (row := filA A) rfl (by obtain ⟨_, e⟩ := hS; rw [e]; rfl) rfl ⟨rfl, rfl⟩) ⟨_, rfl⟩ ?_ | refine aa_t (i := 8) rfl rfl (by kernel_rfl) (by first | rfl | exact wan_y rfl rfl (beq_tt ‹_›) | exact wan_y rfl rfl (beq_ff ‹_›) | exact wan_y rfl rfl (by simp [*])) (fun h0 hS => st_loadBW rfl rfl rfl ⟨rfl, rfl⟩) ⟨_, rfl⟩ ?_
                    refine aa_t (i := 10) rfl rfl (by kernel_rfl) (by first | rfl | exact wan_y rfl rfl (beq_tt ‹_›) | exact wan_y rfl rfl (beq_ff ‹_›) | exact wan_y rfl rfl (by simp [*])) (fun h0 hS => st_fieldB rfl ⟨rfl, rfl⟩) ⟨_, rfl⟩ ?_
                    first | refine aa_t (i := 11) rfl rfl (by kernel_rfl) (by first | rfl | exact wan_y rfl rfl (beq_tt ‹_›) | exact wan_y rfl rfl (beq_ff ‹_›) | exact wan_y rfl rfl (by simp [*])) (fun h0 hS => st_loadB1 (row := [.bs 6 0 2 f.length cap]) rfl (by obtain ⟨_, e⟩ := hS; rw [e]; rfl) rfl ⟨rfl, rfl⟩) ⟨_, rfl⟩ ?_ | refine aa_t (i := 11) rfl rfl (by kernel_rfl) (by first | rfl | exact wan_y rfl rfl (beq_tt ‹_›) | exact wan_y rfl rfl (beq_ff ‹_›) | exact wan_y rfl rfl (by simp [*])) (fun h0 hS => st_loadB1 (row := filA to) rfl (by obtain ⟨_, e⟩ := hS; rw [e]; rfl) rfl ⟨rfl, rfl⟩) ⟨_, rfl⟩ ?_ | refine aa_t (i := 11) rfl rfl (by kernel_rfl) (by first | rfl | exact wan_y rfl rfl (beq_tt ‹_›) | exact wan_y rfl rfl (beq_ff ‹_›) | exact wan_y rfl rfl (by simp [*])) (fun h0 hS => st_loadB1 (row := DB f q ⟨d.next, NS⟩ 7 cap capx) rfl (by obtain ⟨_, e⟩ := hS; rw [e]; rfl) (DB_nodes hql) ⟨rfl, rfl⟩) ⟨_, rfl⟩ ?_ | refine aa_t (i := 11) rfl rfl (by kernel_rfl) (by first | rfl | exact wan_y rfl rfl (beq_tt ‹_›) | exact wan_y rfl rfl (beq_ff ‹_›) | exact wan_y rfl rfl (by simp [*])) (fun h0 hS => st_loadBW (row := [.bs 6 0 2 f.length cap]) rfl (by obtain ⟨_, e⟩ := hS; rw [e]; rfl) rfl ⟨rfl, rfl⟩) ⟨_, rfl⟩ ?_ | refine aa_t (i := 11) rfl rfl (by kernel_rfl) (by first | rfl | exact wan_y rfl rfl (beq_tt ‹_›) | exact wan_y rfl rfl (beq_ff ‹_›) | exact wan_y rfl rfl (by simp [*])) (fun h0 hS => st_loadBW (row := filA A) rfl (by obtain ⟨_, e⟩ := hS; rw [e]; rfl) rfl ⟨rfl, rfl⟩) ⟨_, rfl⟩ ?_ | refine aa_t (i := 11) rfl rfl (by kernel_rfl) (by first | rfl | exact wan_y rfl rfl (beq_tt ‹_›) | exact wan_y rfl rfl (beq_ff ‹_›) | exact wan_y rfl rfl (by simp [*])) (fun h0 hS => st_loadB1 rfl rfl rfl ⟨rfl, rfl⟩) ⟨_, rfl⟩ ?_
                    refine aa_c (i := 9) rfl rfl (by kernel_rfl) (by first | rfl | exact wan_y rfl rfl (beq_tt ‹_›) | exact wan_y rfl rfl (beq_ff ‹_›) | exact wan_y rfl rfl (by simp [*])) (s_callR 2 rfl (.cons _ _ _ _ _ rfl (LeA.of_eq (low_upd (d := ⟨d.next, NS⟩) hql hcap hcapx (Nat.zero_le _) (Nat.zero_le _) rfl rfl)) (.cons _ _ _ _ _ rfl (LeA.refl _) .nil)) (Rindex (f.set q ⟨d.next, NS⟩) A hf3) ?_)
                    rintro r rfl
                    refine ⟨rfl, ?_⟩
                    refine ⟨.inr ⟨_, rfl⟩, ?_⟩
                    refine aa_t (i := 12) rfl rfl (by kernel_rfl) (by first | rfl | exact wan_y rfl rfl (beq_tt ‹_›) | exact wan_y rfl rfl (beq_ff ‹_›) | exact wan_y rfl rfl (by simp [*])) (fun h0 hS => st_indexS (m := i3) rfl rfl hidx3 hil3 ⟨rfl, rfl⟩) ⟨_, rfl⟩ ?_
                    refine aa_t (i := 13) rfl rfl (by kernel_rfl) (by first | rfl | exact wan_y rfl rfl (beq_tt ‹_›) | exact wan_y rfl rfl (beq_ff ‹_›) | exact wan_y rfl rfl (by simp [*])) (fun h0 hS => st_fieldB rfl ⟨rfl, rfl⟩) ⟨_, rfl⟩ ?_
                    refine aa_c0 (i := 14) rfl (by kernel_rfl) (by first | rfl | exact wan_y rfl rfl (beq_tt ‹_›) | exact wan_y rfl rfl (beq_ff ‹_›) | exact wan_y rfl rfl (by simp [*])) (s_store rfl rfl rfl rfl rfl rfl hset3 (by repeat constructor) ?_)
                    refine ⟨.inr ⟨_, rfl⟩, ?_⟩
                    refine aa_done (by kernel_rfl) ?_ _
                    refine x_then ?_
                    exact ⟨_, rfl, weak_of 9 0 rfl rfl rfl (by simp [bpLtB, bpLtL, bpLt, bp_DB, bp_NB, filA, flsA]) (by repeat (first | exact Sub.nil | refine Sub.cons _ _ _ rfl rfl ?_ | refine Sub.any _ _ ?_ | refine Sub.sl _ _ _ _ _ rfl ?_ | refine Sub.slnil _ _ _ rfl ?_))⟩
                  · have hc18 := bp hb18
                    obtain rfl : NS2 = NS := by rw [hNS2, renPar, if_neg (by rw [hc18]; decide)]
                    refine aw_skip ?_
                    refine x_then ?_
                    exact ⟨_, rfl, weak_of 9 0 rfl rfl rfl (by simp [bpLtB, bpLtL, bpLt, bp_DB, bp_NB, filA, flsA]) (by repeat (first | exact Sub.nil | refine Sub.cons _ _ _ rfl rfl ?_ | refine Sub.any _ _ ?_ | refine Sub.sl _ _ _ _ _ rfl ?_ | refine Sub.slnil _ _ _ rfl ?_))⟩
                · rintro t rfl
                  have hl3 : NS2.length = NS.length := by rw [hNS2]; unfold renPar; split <;> simp [updI]
                  have hcapx2 : NS2.length ≤ capx := by omega
                  refine aw_midI (fun t => t = ⟨look [(10, .bp 3 0), (11, .sl 7 ([(src, name, A, (0, 0)), (to, name2, O, A)].map chgA) none), (12, .v (.int .i64 0))], ⟨[flsA f, filA src, filA to, flsA (f.set q ⟨d.next, NS2⟩)], []⟩⟩) ?_ ?_
                  · skip
                    refine aw_draw (fun h => ∃ x z, h.bx = [flsA f, filA src, filA to, x, filA A, filA O, DB f q ⟨d.next, NS⟩ 7 cap capx, NB NS2 capx, [.bs 6 0 2 f.length cap]] ++ z) 15 (by kernel_rfl) ?_
                    first | refine aa_t (i := 0) rfl rfl (by kernel_rfl) (by first | rfl | exact wan_y rfl rfl (beq_tt ‹_›) | exact wan_y rfl rfl (beq_ff ‹_›) | exact wan_y rfl rfl (by simp [*])) (fun h0 hS => st_loadBW (row := [.bs 6 0 2 f.length cap]) rfl (by obtain ⟨_, _, e⟩ := hS; rw [e]; rfl) rfl ⟨rfl, rfl⟩) ⟨_, _, rfl⟩ ?_ | refine aa_t (i := 0) rfl rfl (by kernel_rfl) (by first | rfl | exact wan_y rfl rfl (beq_tt ‹_›) | exact wan_y rfl rfl (beq_ff ‹_›) | exact wan_y rfl rfl (by simp [*])) (fun h0 hS => st_loadBW (row := filA src) rfl (by obtain ⟨_, _, e⟩ := hS; rw [e]; rfl) rfl ⟨rfl, rfl⟩) ⟨_, _, rfl⟩ ?_ | refine aa_t (i := 0) rfl rfl (by kernel_rfl) (by first | rfl | exact wan_y rfl rfl (beq_tt ‹_›) | exact wan_y rfl rfl (beq_ff ‹_›) | exact wan_y rfl rfl (by simp [*])) (fun h0 hS => st_loadBW (row := filA to) rfl (by obtain ⟨_, _, e⟩ := hS; rw [e]; rfl) rfl ⟨rfl, rfl⟩) ⟨_, _, rfl⟩ ?_ | refine aa_t (i := 0) rfl rfl (by kernel_rfl) (by first | rfl | exact wan_y rfl rfl (beq_tt ‹_›) | exact wan_y rfl rfl (beq_ff ‹_›) | exact wan_y rfl rfl (by simp [*])) (fun h0 hS => st_loadBW (row := filA A) rfl (by obtain ⟨_, _, e⟩ := hS; rw [e]; rfl) rfl ⟨rfl, rfl⟩) ⟨_, _, rfl⟩ ?_ | refine aa_t (i := 0) rfl rfl (by kernel_rfl) (by first | rfl | exact wan_y rfl rfl (beq_tt ‹_›) | exact wan_y rfl rfl (beq_ff ‹_›) | exact wan_y rfl rfl (by simp [*])) (fun h0 hS => st_loadBW (row := filA O) rfl (by obtain ⟨_, _, e⟩ := hS; rw [e]; rfl) rfl ⟨rfl, rfl⟩) ⟨_, _, rfl⟩ ?_ | refine aa_t (i := 0) rfl rfl (by kernel_rfl) (by first | rfl | exact wan_y rfl rfl (beq_tt ‹_›) | exact wan_y rfl rfl (beq_ff ‹_›) | exact wan_y rfl rfl (by simp [*])) (fun h0 hS => st_loadBW rfl rfl rfl ⟨rfl, rfl⟩) ⟨_, _, rfl⟩ ?_
                    first | refine aa_t (i := 1) rfl rfl (by kernel_rfl) (by first | rfl | exact wan_y rfl rfl (beq_tt ‹_›) | exact wan_y rfl rfl (beq_ff ‹_›) | exact wan_y rfl rfl (by simp [*])) (fun h0 hS => st_loadBW (row := [.bs 6 0 2 f.length cap]) rfl (by obtain ⟨_, _, e⟩ := hS; rw [e]; rfl) rfl ⟨rfl, rfl⟩) ⟨_, _, rfl⟩ ?_ | refine aa_t (i := 1) rfl rfl (by kernel_rfl) (by first | rfl | exact wan_y rfl rfl (beq_tt ‹_›) | exact wan_y rfl rfl (beq_ff ‹_›) | exact wan_y rfl rfl (by simp [*])) (fun h0 hS => st_loadBW (row := filA src) rfl (by obtain ⟨_, _, e⟩ := hS; rw [e]; rfl) rfl ⟨rfl, rfl⟩) ⟨_, _, rfl⟩ ?_ | refine aa_t (i := 1) rfl rfl (by kernel_rfl) (by first | rfl | exact wan_y rfl rfl (beq_tt ‹_›) | exact wan_y rfl rfl (beq_ff ‹_›) | exact wan_y rfl rfl (by simp [*])) (fun h0 hS => st_loadBW (row := filA to) rfl (by obtain ⟨_, _, e⟩ := hS; rw [e]; rfl) rfl ⟨rfl, rfl⟩) ⟨_, _, rfl⟩ ?_ | refine aa_t (i := 1) rfl rfl (by kernel_rfl) (by first | rfl | exact wan_y rfl rfl (beq_tt ‹_›) | exact wan_y rfl rfl (beq_ff ‹_›) | exact wan_y rfl rfl (by simp [*])) (fun h0 hS => st_loadBW (row := filA A) rfl (by obtain ⟨_, _, e⟩ := hS; rw [e]; rfl) rfl ⟨rfl, rfl⟩) ⟨_, _, rfl⟩ ?_ | refine aa_t (i := 1) rfl rfl (by kernel_rfl) (by first | rfl | exact wan_y rfl rfl (beq_tt ‹_›) | exact wan_y rfl rfl (beq_ff ‹_›) | exact wan_y rfl rfl (by simp [*])) (fun h0 hS => st_loadBW (row := filA O) rfl (by obtain ⟨_, _, e⟩ := hS; rw [e]; rfl) rfl ⟨rfl, rfl⟩) ⟨_, _, rfl⟩ ?_ | refine aa_t (i := 1) rfl rfl (by kernel_rfl) (by first | rfl | exact wan_y rfl rfl (beq_tt ‹_›) | exact wan_y rfl rfl (beq_ff ‹_›) | exact wan_y rfl rfl (by simp [*])) (fun h0 hS => st_loadBW rfl rfl rfl ⟨rfl, rfl⟩) ⟨_, _, rfl⟩ ?_
                    refine aa_t (i := 2) rfl rfl (by kernel_rfl) (by first | rfl | exact wan_y rfl rfl (beq_tt ‹_›) | exact wan_y rfl rfl (beq_ff ‹_›) | exact wan_y rfl rfl (by simp [*])) (fun h0 hS => st_move rfl ⟨rfl, rfl⟩) ⟨_, _, rfl⟩ ?_
                    first | refine aa_t (i := 3) rfl rfl (by kernel_rfl) (by first | rfl | exact wan_y rfl rfl (beq_tt ‹_›) | exact wan_y rfl rfl (beq_ff ‹_›) | exact wan_y rfl rfl (by simp [*])) (fun h0 hS => st_loadBW (row := [.bs 6 0 2 f.length cap]) rfl (by obtain ⟨_, _, e⟩ := hS; rw [e]; rfl) rfl ⟨rfl, rfl⟩) ⟨_, _, rfl⟩ ?_ | refine aa_t (i := 3) rfl rfl (by kernel_rfl) (by first | rfl | exact wan_y rfl rfl (beq_tt ‹_›) | exact wan_y rfl rfl (beq_ff ‹_›) | exact wan_y rfl rfl (by simp [*])) (fun h0 hS => st_loadBW (row := filA src) rfl (by obtain ⟨_, _, e⟩ := hS; rw [e]; rfl) rfl ⟨rfl, rfl⟩) ⟨_, _, rfl⟩ ?_ | refine aa_t (i := 3) rfl rfl (by kernel_rfl) (by first | rfl | exact wan_y rfl rfl (beq_tt ‹_›) | exact wan_y rfl rfl (beq_ff ‹_›) | exact wan_y rfl rfl (by simp [*])) (fun h0 hS => st_loadBW (row := filA to) rfl (by obtain ⟨_, _, e⟩ := hS; rw [e]; rfl) rfl ⟨rfl, rfl⟩) ⟨_, _, rfl⟩ ?_ | refine aa_t (i := 3) rfl rfl (by kernel_rfl) (by first | rfl | exact wan_y rfl rfl (beq_tt ‹_›) | exact wan_y rfl rfl (beq_ff ‹_›) | exact wan_y rfl rfl (by simp [*])) (fun h0 hS => st_loadBW (row := filA A) rfl (by obtain ⟨_, _, e⟩ := hS; rw [e]; rfl) rfl ⟨rfl, rfl⟩) ⟨_, _, rfl⟩ ?_ | refine aa_t (i := 3) rfl rfl (by kernel_rfl) (by first | rfl | exact wan_y rfl rfl (beq_tt ‹_›) | exact wan_y rfl rfl (beq_ff ‹_›) | exact wan_y rfl rfl (by simp [*])) (fun h0 hS => st_loadBW (row := filA O) rfl (by obtain ⟨_, _, e⟩ := hS; rw [e]; rfl) rfl ⟨rfl, rfl⟩) ⟨_, _, rfl⟩ ?_ | refine aa_t (i := 3) rfl rfl (by kernel_rfl) (by first | rfl | exact wan_y rfl rfl (beq_tt ‹_›) | exact wan_y rfl rfl (beq_ff ‹_›) | exact wan_y rfl rfl (by simp [*])) (fun h0 hS => st_loadBW rfl rfl rfl ⟨rfl, rfl⟩) ⟨_, _, rfl⟩ ?_
                    refine aa_t (i := 4) rfl rfl (by kernel_rfl) (by first | rfl | exact wan_y rfl rfl (beq_tt ‹_›) | exact wan_y rfl rfl (beq_ff ‹_›) | exact wan_y rfl rfl (by simp [*])) (fun h0 hS => st_le (y := .agg (filA (0, 0))) (st_build (by repeat (first | exact FillA.nil _ | (apply FillA.cons; (focus exact rfl); (focus exact rfl); (focus exact rfl); (focus exact rfl); (focus exact rfl); (focus (repeat constructor))))) ⟨rfl, rfl⟩) (by repeat (first | exact LeA.refl _ | exact LeA.nil _ | exact LeL.refl _ | refine LeA.agg ⟨rfl, rfl⟩ | refine LeA.tup ⟨rfl, rfl⟩ | exact LeL.nil | refine LeL.cons ⟨rfl, rfl⟩ ⟨rfl, rfl⟩ | exact LeA.any _)) ⟨rfl, rfl⟩) ⟨_, _, rfl⟩ ?_
                    first | refine aa_t (i := 6) rfl rfl (by kernel_rfl) (by first | rfl | exact wan_y rfl rfl (beq_tt ‹_›) | exact wan_y rfl rfl (beq_ff ‹_›) | exact wan_y rfl rfl (by simp [*])) (fun h0 hS => st_loadBW (row := [.bs 6 0 2 f.length cap]) rfl (by obtain ⟨_, _, e⟩ := hS; rw [e]; rfl) rfl ⟨rfl, rfl⟩) ⟨_, _, rfl⟩ ?_ | refine aa_t (i := 6) rfl rfl (by kernel_rfl) (by first | rfl | exact wan_y rfl rfl (beq_tt ‹_›) | exact wan_y rfl rfl (beq_ff ‹_›) | exact wan_y rfl rfl (by simp [*])) (fun h0 hS => st_loadBW (row := filA src) rfl (by obtain ⟨_, _, e⟩ := hS; rw [e]; rfl) rfl ⟨rfl, rfl⟩) ⟨_, _, rfl⟩ ?_ | refine aa_t (i := 6) rfl rfl (by kernel_rfl) (by first | rfl | exact wan_y rfl rfl (beq_tt ‹_›) | exact wan_y rfl rfl (beq_ff ‹_›) | exact wan_y rfl rfl (by simp [*])) (fun h0 hS => st_loadBW (row := filA to) rfl (by obtain ⟨_, _, e⟩ := hS; rw [e]; rfl) rfl ⟨rfl, rfl⟩) ⟨_, _, rfl⟩ ?_ | refine aa_t (i := 6) rfl rfl (by kernel_rfl) (by first | rfl | exact wan_y rfl rfl (beq_tt ‹_›) | exact wan_y rfl rfl (beq_ff ‹_›) | exact wan_y rfl rfl (by simp [*])) (fun h0 hS => st_loadBW (row := filA A) rfl (by obtain ⟨_, _, e⟩ := hS; rw [e]; rfl) rfl ⟨rfl, rfl⟩) ⟨_, _, rfl⟩ ?_ | refine aa_t (i := 6) rfl rfl (by kernel_rfl) (by first | rfl | exact wan_y rfl rfl (beq_tt ‹_›) | exact wan_y rfl rfl (beq_ff ‹_›) | exact wan_y rfl rfl (by simp [*])) (fun h0 hS => st_loadBW (row := filA O) rfl (by obtain ⟨_, _, e⟩ := hS; rw [e]; rfl) rfl ⟨rfl, rfl⟩) ⟨_, _, rfl⟩ ?_ | refine aa_t (i := 6) rfl rfl (by kernel_rfl) (by first | rfl | exact wan_y rfl rfl (beq_tt ‹_›) | exact wan_y rfl rfl (beq_ff ‹_›) | exact wan_y rfl rfl (by simp [*])) (fun h0 hS => st_loadBW rfl rfl rfl ⟨rfl, rfl⟩) ⟨_, _, rfl⟩ ?_
                    refine aa_t (i := 7) rfl rfl (by kernel_rfl) (by first | rfl | exact wan_y rfl rfl (beq_tt ‹_›) | exact wan_y rfl rfl (beq_ff ‹_›) | exact wan_y rfl rfl (by simp [*])) (fun h0 hS => st_move rfl ⟨rfl, rfl⟩) ⟨_, _, rfl⟩ ?_
                    first | refine aa_t (i := 8) rfl rfl (by kernel_rfl) (by first | rfl | exact wan_y rfl rfl (beq_tt ‹_›) | exact wan_y rfl rfl (beq_ff ‹_›) | exact wan_y rfl rfl (by simp [*])) (fun h0 hS => st_loadBW (row := [.bs 6 0 2 f.length cap]) rfl (by obtain ⟨_, _, e⟩ := hS; rw [e]; rfl) rfl ⟨rfl, rfl⟩) ⟨_, _, rfl⟩ ?_ | refine aa_t (i := 8) rfl rfl (by kernel_rfl) (by first | rfl | exact wan_y rfl rfl (beq_tt ‹_›) | exact wan_y rfl rfl (beq_ff ‹_›) | exact wan_y rfl rfl (by simp [*])) (fun h0 hS => st_loadBW (row := filA src) rfl (by obtain ⟨_, _, e⟩ := hS; rw [e]; rfl) rfl ⟨rfl, rfl⟩) ⟨_, _, rfl⟩ ?_ | refine aa_t (i := 8) rfl rfl (by kernel_rfl) (by first | rfl | exact wan_y rfl rfl (beq_tt ‹_›) | exact wan_y rfl rfl (beq_ff ‹_›) | exact wan_y rfl rfl (by simp [*])) (fun h0 hS => st_loadBW (row := filA to) rfl (by obtain ⟨_, _, e⟩ := hS; rw [e]; rfl) rfl ⟨rfl, rfl⟩) ⟨_, _, rfl⟩ ?_ | refine aa_t (i := 8) rfl rfl (by kernel_rfl) (by first | rfl | exact wan_y rfl rfl (beq_tt ‹_›) | exact wan_y rfl rfl (beq_ff ‹_›) | exact wan_y rfl rfl (by simp [*])) (fun h0 hS => st_loadBW (row := filA A) rfl (by obtain ⟨_, _, e⟩ := hS; rw [e]; rfl) rfl ⟨rfl, rfl⟩) ⟨_, _, rfl⟩ ?_ | refine aa_t (i := 8) rfl rfl (by kernel_rfl) (by first | rfl | exact wan_y rfl rfl (beq_tt ‹_›) | exact wan_y rfl rfl (beq_ff ‹_›) | exact wan_y rfl rfl (by simp [*])) (fun h0 hS => st_loadBW (row := filA O) rfl (by obtain ⟨_, _, e⟩ := hS; rw [e]; rfl) rfl ⟨rfl, rfl⟩) ⟨_, _, rfl⟩ ?_ | refine aa_t (i := 8) rfl rfl (by kernel_rfl) (by first | rfl | exact wan_y rfl rfl (beq_tt ‹_›) | exact wan_y rfl rfl (beq_ff ‹_›) | exact wan_y rfl rfl (by simp [*])) (fun h0 hS => st_loadBW rfl rfl rfl ⟨rfl, rfl⟩) ⟨_, _, rfl⟩ ?_
                    first | refine aa_t (i := 9) rfl rfl (by kernel_rfl) (by first | rfl | exact wan_y rfl rfl (beq_tt ‹_›) | exact wan_y rfl rfl (beq_ff ‹_›) | exact wan_y rfl rfl (by simp [*])) (fun h0 hS => st_loadBW (row := [.bs 6 0 2 f.length cap]) rfl (by obtain ⟨_, _, e⟩ := hS; rw [e]; rfl) rfl ⟨rfl, rfl⟩) ⟨_, _, rfl⟩ ?_ | refine aa_t (i := 9) rfl rfl (by kernel_rfl) (by first | rfl | exact wan_y rfl rfl (beq_tt ‹_›) | exact wan_y rfl rfl (beq_ff ‹_›) | exact wan_y rfl rfl (by simp [*])) (fun h0 hS => st_loadBW (row := filA src) rfl (by obtain ⟨_, _, e⟩ := hS; rw [e]; rfl) rfl ⟨rfl, rfl⟩) ⟨_, _, rfl⟩ ?_ | refine aa_t (i := 9) rfl rfl (by kernel_rfl) (by first | rfl | exact wan_y rfl rfl (beq_tt ‹_›) | exact wan_y rfl rfl (beq_ff ‹_›) | exact wan_y rfl rfl (by simp [*])) (fun h0 hS => st_loadBW (row := filA to) rfl (by obtain ⟨_, _, e⟩ := hS; rw [e]; rfl) rfl ⟨rfl, rfl⟩) ⟨_, _, rfl⟩ ?_ | refine aa_t (i := 9) rfl rfl (by kernel_rfl) (by first | rfl | exact wan_y rfl rfl (beq_tt ‹_›) | exact wan_y rfl rfl (beq_ff ‹_›) | exact wan_y rfl rfl (by simp [*])) (fun h0 hS => st_loadBW (row := filA A) rfl (by obtain ⟨_, _, e⟩ := hS; rw [e]; rfl) rfl ⟨rfl, rfl⟩) ⟨_, _, rfl⟩ ?_ | refine aa_t (i := 9) rfl rfl (by kernel_rfl) (by first | rfl | exact wan_y rfl rfl (beq_tt ‹_›) | exact wan_y rfl rfl (beq_ff ‹_›) | exact wan_y rfl rfl (by simp [*])) (fun h0 hS => st_loadBW (row := filA O) rfl (by obtain ⟨_, _, e⟩ := hS; rw [e]; rfl) rfl ⟨rfl, rfl⟩) ⟨_, _, rfl⟩ ?_ | refine aa_t (i := 9) rfl rfl (by kernel_rfl) (by first | rfl | exact wan_y rfl rfl (beq_tt ‹_›) | exact wan_y rfl rfl (beq_ff ‹_›) | exact wan_y rfl rfl (by simp [*])) (fun h0 hS => st_loadBW rfl rfl rfl ⟨rfl, rfl⟩) ⟨_, _, rfl⟩ ?_
                    refine aa_c (i := 5) rfl rfl (by kernel_rfl) (by first | rfl | exact wan_y rfl rfl (beq_tt ‹_›) | exact wan_y rfl rfl (beq_ff ‹_›) | exact wan_y rfl rfl (by simp [*])) (s_callM [] rfl (.cons _ _ _ _ _ rfl (LeA.refl _) (.cons _ _ _ _ _ rfl (LeA.refl _) (.cons _ _ _ _ _ rfl (LeA.refl _) (.cons _ _ _ _ _ rfl (LeA.refl _) .nil)))) (by decide) .nil (RoneB src name A (0, 0)) ?_)
                    rintro r bc tc ⟨rfl, rfl, rfl⟩
                    refine ⟨rfl, _, (back_newB _ (one_plain _ _ _ _) : Back _ [] _ [_, _, _, _, _, _, _, _, _, _, _, _, _]), ?_⟩
                    refine ⟨.inr ⟨_, _, rfl⟩, ?_⟩
                    refine aa_c (i := 10) rfl rfl (by kernel_rfl) (by first | rfl | exact wan_y rfl rfl (beq_tt ‹_›) | exact wan_y rfl rfl (beq_ff ‹_›) | exact wan_y rfl rfl (by simp [*])) (q_call (Rone to name2 O A) ?_)
                    rintro r rfl
                    refine ⟨.inr ⟨_, _, rfl⟩, ?_⟩
                    refine aa_c (i := 11) rfl rfl (by kernel_rfl) (by first | rfl | exact wan_y rfl rfl (beq_tt ‹_›) | exact wan_y rfl rfl (beq_ff ‹_›) | exact wan_y rfl rfl (by simp [*])) (st_appendB rfl rfl rfl (Nat.le_of_ble_eq_true rfl) src1 (by omega) (by omega) (fun h => absurd h (by omega)) ?_)
                    rintro hg cap4 k bx2 hcp4 hs
                    obtain ⟨rfl, rfl⟩ : k = 13 ∧ bx2 = [_, _, _, _, _, _, _, _, _, _, _, _, _, rowsB 7 cap4 ([(src, name, A, (0, 0)), (to, name2, O, A)].map chgA)] := hs.eq
                    refine ⟨.inr ⟨_, _, rfl⟩, ?_⟩
                    refine aa_c0 (i := 12) rfl (by kernel_rfl) (by first | rfl | exact wan_y rfl rfl (beq_tt ‹_›) | exact wan_y rfl rfl (beq_ff ‹_›) | exact wan_y rfl rfl (by simp [*])) (s_store rfl rfl rfl rfl rfl rfl (by repeat constructor) (by repeat constructor) ?_)
                    refine ⟨.inr ⟨_, _, rfl⟩, ?_⟩
                    refine aa_t (i := 13) rfl rfl (by kernel_rfl) (by first | rfl | exact wan_y rfl rfl (beq_tt ‹_›) | exact wan_y rfl rfl (beq_ff ‹_›) | exact wan_y rfl rfl (by simp [*])) (fun h0 hS => st_assign rfl ⟨rfl, rfl⟩) ⟨_, _, rfl⟩ ?_
                    refine aa_t (i := 14) rfl rfl (by kernel_rfl) (by first | rfl | exact wan_y rfl rfl (beq_tt ‹_›) | exact wan_y rfl rfl (beq_ff ‹_›) | exact wan_y rfl rfl (by simp [*])) (fun h0 hS => st_assign rfl ⟨rfl, rfl⟩) ⟨_, _, rfl⟩ ?_
                    refine aa_done (by kernel_rfl) ?_ _
                    refine x_then ?_
                    exact ⟨_, rfl, weak_fz 4 2 rfl (congrArg (fun x => [flsA f, filA src, filA to, x]) (liv_upd (k := 0) (i := 6) (j := 7) (d := ⟨d.next, NS⟩) (d' := ⟨d.next, NS2⟩) hql rfl hl3 hcap hcapx2 (Nat.le_of_ble_eq_true rfl) (Nat.le_of_ble_eq_true rfl) rfl rfl)) (.cons _ _ _ _ rfl (LeA.refl _) (.cons _ _ _ _ rfl (LeA.of_eq (liv_rows (rows := [(src, name, A, (0, 0)), (to, name2, O, A)].map chgA) (Nat.le_of_ble_eq_true rfl) (frz_plain (n := 4) (k := 1) (j := 13) (Nat.le_of_ble_eq_true rfl) rfl (chg_plain _)) (chg_seven _) rfl hcp4)) (.cons _ _ _ _ rfl (LeA.refl _) .nil)))⟩
                  · rintro t rfl
                    refine aw_ret ?_
                    refine e_ret ?_
                    rw [hRen, if_neg (by rw [hord]; simp), if_neg (by simp [he1]), if_neg (by simp [hc5]), if_neg (fun h => absurd h.2 (by rw [hbl h.1]; decide)), if_neg (fun h => hoa h.1 h.2), if_neg (by rw [h2]; simp), htq, Int.toNat_natCast, onD_set hq, show renNs d.nodes src name to name2 A O e2 = NS by rw [hNS, hX2D, hn1i, hn2i]; rfl, ← hNS2]
                    rfl

end
end Go.Proofs.Ytgliiknfmlmddaa
