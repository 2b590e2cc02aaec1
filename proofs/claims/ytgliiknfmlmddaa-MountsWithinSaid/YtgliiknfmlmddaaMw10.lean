/-
  Part 10 of the proof of MountsWithinP: what the statement's proof uses of the texts in wip/tpl.
-/
import Derived.Test.YtgliiknfmlmddaaMw9
namespace Go.Proofs.Ytgliiknfmlmddaa
open Go.RowKit

theorem look_ok {f : Fls} {dir : Fil} {name : Str} {n0 : Nod} (hn : nodeL f dir = some n0) (hk : n0.kind = 2) (h : (lookL f dir name).2 = 0) : ∃ e, entF n0.entries name = some e ∧ lookL f dir name = ((dir.1, e.2), 0) := by
  unfold lookL at h ⊢
  rw [hn] at h ⊢
  simp only [hk, if_true] at h ⊢
  unfold entF
  split at h
  · exact absurd h (by decide)
  · rename_i e he
    exact ⟨e, he, rfl⟩
def entS (ns : List Nod) (i : Nat) (n0 : Nod) (name : Str) (ino : Int) : List Nod := ns.set i { n0 with entries := entL n0.entries name ino }
theorem entS_len (ns : List Nod) (i : Nat) (n0 : Nod) (name : Str) (ino : Int) : (entS ns i n0 name ino).length = ns.length := by simp [entS]
theorem entL_len (es : List Ent) (name : Str) (ino : Int) : (entL es name ino).length ≤ es.length + 1 := by
  by_cases h : ino = 0
  · subst h
    rw [entL_zero]
    have : (without name es).length ≤ es.length := List.length_filter_le _ _
    omega
  · rw [(entL_perm es name h).length_eq, List.length_cons]
    have : (without name es).length ≤ es.length := List.length_filter_le _ _
    omega
theorem FlsB.set_ {f : Fls} (hf : FlsB f) {q : Nat} {d' : Dvc} (hn : d'.nodes.length ≤ 1000) (he : ∀ n ∈ d'.nodes, n.entries.length ≤ 1000) : FlsB (f.set q d') := by
  refine ⟨by simpa using hf.few, fun d hd => ?_, fun d hd n hn' => ?_⟩
  · rcases List.mem_or_eq_of_mem_set hd with h | h
    · exact hf.nodes d h
    · rw [h]; exact hn
  · rcases List.mem_or_eq_of_mem_set hd with h | h
    · exact hf.ents d h n hn'
    · subst h; exact he n hn'
theorem FlsV.entS {f : Fls} (hv : FlsV f) {q : Nat} {d : Dvc} (hq : f[q]? = some d) {i : Nat} {n0 : Nod} (hn : d.nodes[i]? = some n0) (name : Str) (ino : Int) : FlsB (f.set q { d with nodes := entS d.nodes i n0 name ino }) := by
  have hd := hv.vd d (List.mem_of_getElem? hq)
  refine hv.b.set_ ?_ ?_
  · show (Go.Proofs.Ytgliiknfmlmddaa.entS d.nodes i n0 name ino).length ≤ 1000
    rw [entS_len]; have := hd.len; omega
  · intro m hm
    rcases List.mem_or_eq_of_mem_set hm with h | h
    · have := hd.many m h; omega
    · rw [h]
      have := entL_len n0.entries name ino
      have := hd.many n0 (List.mem_of_getElem? hn)
      show (entL n0.entries name ino).length ≤ 1000
      omega
theorem entS_D {d : Dvc} (hd : VD d) {i : Nat} {n0 : Nod} (hn : d.nodes[i]? = some n0) (name : Str) (ino : Int) : entS d.nodes i n0 name ino = entD d.nodes n0.ino name ino := by
  unfold entS entD
  rw [← set_updI hd.asc hn]
  rfl
theorem links_at {f : Fls} {a : Fil} {q : Nat} {d : Dvc} (ha : a.1 = (q : Int)) (hq : f[q]? = some d) : linksF f a = if (d.nodes.any fun n => n.ino == a.2) then cntN a.2 d.nodes else 0 := by
  unfold linksF nodeL
  rw [ha, atI_nat, hq]
  simp only
  cases h : d.nodes.find? (fun n => n.ino == a.2) with
  | none =>
    have : d.nodes.any (fun n => n.ino == a.2) = false := by
      rw [List.any_eq_false]
      exact List.find?_eq_none.1 h
    simp [this]
  | some n =>
    have : d.nodes.any (fun n => n.ino == a.2) = true := by
      have h2 := List.find?_some h
      exact List.any_eq_true.2 ⟨n, List.mem_of_find?_eq_some h, h2⟩
    simp [this]
theorem drop_pos {f : Fls} {a : Fil} {q : Nat} {d : Dvc} (ha : a.1 = (q : Int)) (hq : f[q]? = some d) (hl : 0 < linksF f a) : dropI d.nodes a.2 = d.nodes := by
  rw [links_at ha hq] at hl
  split at hl
  · unfold dropI
    rw [List.filter_eq_self]
    intro m _
    exact decide_eq_true (.inr hl)
  · omega
theorem drop_zero {f : Fls} {a : Fil} {q : Nat} {d : Dvc} (ha : a.1 = (q : Int)) (hq : f[q]? = some d) (hl : linksF f a = 0) : dropI d.nodes a.2 = keepNot a.2 d.nodes := by
  rw [links_at ha hq] at hl
  unfold dropI keepNot
  apply List.filter_congr
  intro m hm
  split at hl
  · rw [hl, Bool.eq_iff_iff]; simp
  · rename_i h
    have hne : m.ino ≠ a.2 := by
      intro e
      exact h (List.any_eq_true.2 ⟨m, hm, by simpa using e⟩)
    rw [Bool.eq_iff_iff]; simp [hne]
theorem keep_pos {ns : List Nod} {m : Nod} {i : Int} (hm : m ∈ ns) (h : m.ino ≠ i) : 0 < (keepNot i ns).length := List.length_pos_of_mem (List.mem_filter.2 ⟨hm, by simpa using h⟩)
theorem entS_root {d : Dvc} (hd : VD d) {i : Nat} {n0 : Nod} (hn : d.nodes[i]? = some n0) (name : Str) (ino : Int) : ∃ m ∈ entS d.nodes i n0 name ino, m.ino = 1 := by
  obtain ⟨r, hr, h1, _⟩ := hd.rootMem
  rw [entS_D hd hn]
  obtain ⟨m, hm, hw⟩ := to_entD n0.ino name ino hr
  exact ⟨m, hm, hw.ino.trans h1⟩
theorem Rdrop2 (f : Fls) (q : Nat) (d d' : Dvc) (a : Fil) (cap cap1 : Nat) (hf : FlsB (f.set q d')) (hq : q < f.length) (ha : a.1 = (q : Int)) (hcap : f.length ≤ cap) (hcap1 : d'.nodes.length ≤ cap1) (hne : 0 < (keepNot a.2 d'.nodes).length) (hn : d'.next = d.next) (hl : d'.nodes.length = d.nodes.length) :
    ACall Try.prog 111 [.agg [.bs 0 0 2 f.length cap], .agg (filA a)] [DB f q d 1 cap cap1, NB d'.nodes cap1] (fun r b t => t = [] ∧ r = .tup [] ∧ ((dropI d'.nodes a.2 = d'.nodes ∧ b = [DB f q d 1 cap cap1, NB d'.nodes cap1, [.bs 0 0 2 f.length cap], filA a]) ∨ (dropI d'.nodes a.2 = keepNot a.2 d'.nodes ∧ ∃ cap2, (keepNot a.2 d'.nodes).length ≤ cap2 ∧ b = [DB f q { d' with nodes := keepNot a.2 d'.nodes } 4 cap cap2, NB d'.nodes cap1, [.bs 0 0 2 f.length cap], filA a, NB (keepNot a.2 d'.nodes) cap2]))) := by
  have hq' : (f.set q d')[q]? = some d' := by simp [hq]
  have key := Rdrop (f.set q d') q d' a cap cap1 hf hq' ha (by simpa using hcap) hcap1 hne
  rw [List.length_set, ← DB_upd hn hl] at key
  refine key.mono fun r b t ⟨h1, h2, h3⟩ => ⟨h1, h2, ?_⟩
  rcases h3 with ⟨h4, h5⟩ | ⟨h4, cap2, h5, h6⟩
  · exact .inl ⟨drop_pos ha hq' h4, h5⟩
  · refine .inr ⟨drop_zero ha hq' h4, cap2, h5, ?_⟩
    rw [DB_any] at h6
    exact h6
def unlinkL (f : Fls) (dir : Fil) (name : Str) : ChgRes :=
  if placeL f dir name ≠ 0 then ([], [], placeL f dir name) else if (lookL f dir name).2 ≠ 0 then ([], [], (lookL f dir name).2) else if dirL f (lookL f dir name).1 = true then ([], [], 21) else
  (onD f dir.1.toNat fun ns => dropI (entD ns dir.2 name 0) (lookL f dir name).1.2, [(dir, name, (lookL f dir name).1, (0, 0))], 0)
def rmdirL (f : Fls) (dir : Fil) (name : Str) : ChgRes :=
  if placeL f dir name ≠ 0 then ([], [], placeL f dir name) else if (lookL f dir name).2 ≠ 0 then ([], [], (lookL f dir name).2) else if dirL f (lookL f dir name).1 = false then ([], [], 20) else if emptyL f (lookL f dir name).1 = false then ([], [], 39) else
  (onD f dir.1.toNat fun ns => dropI (entD ns dir.2 name 0) (lookL f dir name).1.2, [(dir, name, (lookL f dir name).1, (0, 0))], 0)
section
set_option maxRecDepth 10000
set_option maxHeartbeats 2000000
theorem Runlink (f : Fls) (dir : Fil) (name : Str) (hv : FlsV f) (hs : name.size ≤ 100000) : AFn Try.prog 94 [.agg (flsA f), .agg (filA dir), .v (.string name)] (fun r => r = chgR (unlinkL f dir name)) := by
  have hf := hv.b
  refine enter Try.func94 rfl rfl rfl rfl rfl 0 rfl ?_
  refine p_sr (fun K hK => ?_)
  first | refine al_p rfl (s_boxA rfl rfl (by repeat constructor) ?_) | refine al_p rfl (s_box rfl rfl (by repeat constructor) ?_)
  first | refine al_p rfl (s_boxA rfl rfl (by repeat constructor) ?_) | refine al_p rfl (s_box rfl rfl (by repeat constructor) ?_)
  refine al_p rfl (s_alloc (by repeat constructor) ?_)
  refine p_as ?_
  refine p_as ?_
  refine al_nil (x_then (hK _ ?_))
  clear hK K
  refine aw_seq (fun K hK => ?_)
  refine p_sr (fun K hK => ?_)
  refine al_p rfl (st_loadBW rfl rfl rfl ?_)
  refine al_p rfl (st_loadBW rfl rfl rfl ?_)
  refine p_mv ?_
  refine al_p rfl (q_call (Rplace f dir name hf hs) ?_)
  rintro r rfl
  refine p_as ?_
  refine al_nil (x_then (hK _ ?_))
  clear hK K
  refine p_sr (fun K hK => ?_)
  refine p_mv ?_
  first | refine al_p rfl (st_neq rfl rfl ?_) | refine al_p rfl (st_neqS rfl rfl ?_) | refine al_p rfl (st_neqB (by kernel_rfl) rfl rfl ?_)
  refine al_nil (x_then (hK _ ?_))
  clear hK K
  refine aw_cond rfl (fun hb1 => ?_) (fun hb1 => ?_)
  · have hc1 := bp hb1
    refine p_sr (fun K hK => ?_)
    refine p_bd ?_
    refine p_mv ?_
    refine p_st ?_
    refine p_as ?_
    refine p_as ?_
    refine al_nil (x_then (hK _ ?_))
    clear hK K
    refine aw_ret ?_
    refine x_thenR ?_
    clear hK K
    refine abody_ret (r := chgR (unlinkL f dir name)) none (by repeat (first | exact ResA.nil | (apply ResA.tmp; (focus exact rfl)) | (apply ResA.cellN; (focus exact inferInstance); (focus exact rfl); (focus exact rfl); (focus exact rfl)) | (apply ResA.cell1; (focus exact inferInstance); (focus exact rfl); (focus exact rfl); (focus exact rfl)))) rfl rfl rfl ?_ ⟨rfl, rfl, rfl⟩
    rw [unlinkL, if_pos (by omega)]
    exact err_le _
  · have hc1 := bp hb1
    refine aw_skip ?_
    refine x_then ?_
    refine hK _ ?_
    clear hK K
    refine p_sr (fun K hK => ?_)
    refine al_p rfl (st_loadBW rfl rfl rfl ?_)
    refine al_p rfl (st_loadBW rfl rfl rfl ?_)
    refine p_mv ?_
    refine al_p rfl (q_call (Rlook f dir name hf) ?_)
    rintro r rfl
    refine p_mv ?_
    refine al_p rfl (st_extract rfl rfl ?_)
    refine al_p rfl (st_extract rfl rfl ?_)
    refine al_p rfl (s_alloc (by repeat constructor) ?_)
    refine p_st ?_
    refine p_as ?_
    refine al_nil (x_then (hK _ ?_))
    clear hK K
    refine aw_seq (fun K hK => ?_)
    refine p_sr (fun K hK => ?_)
    refine p_mv ?_
    first | refine al_p rfl (st_neq rfl rfl ?_) | refine al_p rfl (st_neqS rfl rfl ?_) | refine al_p rfl (st_neqB (by kernel_rfl) rfl rfl ?_)
    refine al_nil (x_then (hK _ ?_))
    clear hK K
    refine aw_cond rfl (fun hb2 => ?_) (fun hb2 => ?_)
    · have hc2 := bp hb2
      refine p_sr (fun K hK => ?_)
      refine p_bd ?_
      refine p_mv ?_
      refine p_st ?_
      refine p_as ?_
      refine p_as ?_
      refine al_nil (x_then (hK _ ?_))
      clear hK K
      refine aw_ret ?_
      refine x_thenR ?_
      clear hK K
      refine abody_ret (r := chgR (unlinkL f dir name)) none (by repeat (first | exact ResA.nil | (apply ResA.tmp; (focus exact rfl)) | (apply ResA.cellN; (focus exact inferInstance); (focus exact rfl); (focus exact rfl); (focus exact rfl)) | (apply ResA.cell1; (focus exact inferInstance); (focus exact rfl); (focus exact rfl); (focus exact rfl)))) rfl rfl rfl ?_ ⟨rfl, rfl, rfl⟩
      rw [unlinkL, if_neg (by omega), if_pos (by omega)]
      exact err_le _
    · have hc2 := bp hb2
      have hlk : (lookL f dir name).2 = 0 := by omega
      refine aw_skip ?_
      refine x_then ?_
      refine hK _ ?_
      clear hK K
      refine aw_seq (fun K hK => ?_)
      refine p_sr (fun K hK => ?_)
      refine al_p rfl (st_loadBW rfl rfl rfl ?_)
      refine al_p rfl (st_loadBW rfl rfl rfl ?_)
      refine al_p rfl (q_call (Rdir f (lookL f dir name).1 hf) ?_)
      rintro r rfl
      refine al_nil (x_then (hK _ ?_))
      clear hK K
      refine aw_cond rfl (fun hb3 => ?_) (fun hb3 => ?_)
      · have hc3 := bp hb3
        refine p_sr (fun K hK => ?_)
        refine p_bd ?_
        refine p_st ?_
        refine p_as ?_
        refine p_as ?_
        refine al_nil (x_then (hK _ ?_))
        clear hK K
        refine aw_ret ?_
        refine x_thenR ?_
        clear hK K
        refine abody_ret (r := chgR (unlinkL f dir name)) none (by repeat (first | exact ResA.nil | (apply ResA.tmp; (focus exact rfl)) | (apply ResA.cellN; (focus exact inferInstance); (focus exact rfl); (focus exact rfl); (focus exact rfl)) | (apply ResA.cell1; (focus exact inferInstance); (focus exact rfl); (focus exact rfl); (focus exact rfl)))) rfl rfl rfl ?_ ⟨rfl, rfl, rfl⟩
        rw [unlinkL, if_neg (by omega), if_neg (by omega), if_pos hc3]
        exact err_le _
      · have hc3 := bp hb3
        obtain ⟨q, i, d, n0, hdq, hq, hn0, hino, hidx, hnode, hk0, hnm⟩ := place_ok (name := name) (dir := dir) (f := f) (by omega)
        have hil := (List.getElem?_eq_some_iff.1 hn0).1
        have hql := (List.getElem?_eq_some_iff.1 hq).1
        have hvd := hv.vd d (List.mem_of_getElem? hq)
        obtain ⟨e, he, hle⟩ := look_ok hnode hk0 hlk
        have hat1 : (lookL f dir name).1.1 = (q : Int) := by rw [hle]; exact hdq
        have hat2 : (lookL f dir name).1.2 ≠ 1 := by rw [hle]; exact (hvd.ent n0 (List.mem_of_getElem? hn0) e (entF_some he).1).2.1
        have hxl : (entS d.nodes i n0 name 0).length = d.nodes.length := entS_len _ _ _ _ _
        have hkp : 0 < (keepNot (lookL f dir name).1.2 (entS d.nodes i n0 name 0)).length := by
          obtain ⟨m, hm, hm1⟩ := entS_root hvd hn0 name 0
          exact keep_pos hm (by rw [hm1]; exact hat2.symm)
        refine aw_skip ?_
        refine x_then ?_
        refine hK _ ?_
        clear hK K
        refine p_sr (fun K hK => ?_)
        refine al_p rfl (st_loadBW rfl rfl rfl ?_)
        refine al_p rfl (s_callM [] rfl (.cons _ _ _ _ _ rfl (LeA.refl _) .nil) (by decide) .nil (RcopyK f q d hf hq (by omega)) ?_)
        rintro r bc tc ⟨rfl, cap, cap1, hcap, hcap1, rfl, rfl⟩
        refine ⟨rfl, _, (back_new2 (n := 4) rfl f q d d.nodes cap cap1 : Back _ [] _ [_, _, _, _, _, _]), ?_⟩
        refine al_p rfl (s_alloc (by repeat constructor) ?_)
        refine p_st ?_
        refine al_nil (x_then (hK _ ?_))
        clear hK K
        refine p_sr (fun K hK => ?_)
        refine al_p rfl (st_loadBW rfl rfl rfl ?_)
        refine al_p rfl (st_loadBW rfl rfl rfl ?_)
        refine p_mv ?_
        refine al_p rfl (s_callM [4, 5] rfl (.cons _ _ _ _ _ rfl (LeA.refl _) (.cons _ _ _ _ _ rfl (LeA.refl _) (.cons _ _ _ _ _ rfl (LeA.refl _) (.cons _ _ _ _ _ rfl (LeA.refl _) .nil)))) (by decide) (.cons _ _ _ _ _ rfl (ren_DB (by rfl) _ _ _ _ _) (.cons _ _ _ _ _ rfl (ren_NB _ _ _) .nil)) (Renter f q d n0 i dir name 0 cap cap1 hf hq hdq hidx hn0 hcap hcap1) ?_)
        rintro r bc tc ⟨rfl, rfl, rfl⟩
        refine ⟨rfl, _, (back_two (Nat.le_of_ble_eq_true rfl) (Nat.le_of_ble_eq_true rfl) (by decide) f q d (entS d.nodes i n0 name 0) cap cap1 cap1 : Back _ [4, 5] _ [_, _, _, _, _, _, _]), ?_⟩
        refine al_nil (x_then (hK _ ?_))
        clear hK K
        refine p_sr (fun K hK => ?_)
        refine al_p rfl (st_loadBW rfl rfl rfl ?_)
        refine al_p rfl (st_loadBW rfl rfl rfl ?_)
        refine al_p rfl (s_callM [4, 5] rfl (.cons _ _ _ _ _ rfl (LeA.refl _) (.cons _ _ _ _ _ rfl (LeA.refl _) .nil)) (by decide) (.cons _ _ _ _ _ rfl (ren_DB (by rfl) _ _ _ _ _) (.cons _ _ _ _ _ rfl (ren_NB _ _ _) .nil)) (Rdrop2 f q d { d with nodes := entS d.nodes i n0 name 0 } (lookL f dir name).1 cap cap1 (hv.entS hq hn0 name 0) hql hat1 hcap (by rw [entS_len]; exact hcap1) hkp rfl hxl) ?_)
        rintro r bc tc ⟨rfl, rfl, ⟨hns, rfl⟩ | ⟨hns, cap2, hcap2, rfl⟩⟩
        · refine ⟨rfl, _, (back_four (n := 7) rfl (by decide) (by decide) (by decide) f q d (entS d.nodes i n0 name 0) (lookL f dir name).1 f.length cap cap cap1 cap1 : Back _ [4, 5] _ [_, _, _, _, _, _, _, _, _]), ?_⟩
          have hx1 : (entS d.nodes i n0 name 0).length ≤ cap1 := by omega
          refine al_nil (x_then (hK _ ?_))
          clear hK K
          refine aw_midI (fun t => t = ⟨look [(6, .bp 2 0), (7, .sl 7 [chgA (dir, name, (lookL f dir name).1, (0, 0))] none), (8, .v (.int .i64 0))], ⟨[flsA f, filA dir, flsA (f.set q { d with nodes := dropI (entS d.nodes i n0 name 0) (lookL f dir name).1.2 })], []⟩⟩) ?_ ?_
          · skip
            refine aw_draw (fun h => ∃ x y z v, h.bx = [flsA f, filA dir, x, filA (lookL f dir name).1, y, z, [.bs 4 0 2 f.length cap]] ++ v) 9 (by kernel_rfl) ?_
            first | refine aa_t (i := 0) rfl rfl (by kernel_rfl) (by first | rfl | exact wan_y rfl rfl (beq_tt ‹_›) | exact wan_y rfl rfl (beq_ff ‹_›) | exact wan_y rfl rfl (by simp [*])) (fun h0 hS => st_loadBW (row := [.bs 4 0 2 f.length cap]) rfl (by obtain ⟨_, _, _, _, e⟩ := hS; rw [e]; rfl) rfl ⟨rfl, rfl⟩) ⟨_, _, _, _, rfl⟩ ?_ | refine aa_t (i := 0) rfl rfl (by kernel_rfl) (by first | rfl | exact wan_y rfl rfl (beq_tt ‹_›) | exact wan_y rfl rfl (beq_ff ‹_›) | exact wan_y rfl rfl (by simp [*])) (fun h0 hS => st_loadBW (row := filA dir) rfl (by obtain ⟨_, _, _, _, e⟩ := hS; rw [e]; rfl) rfl ⟨rfl, rfl⟩) ⟨_, _, _, _, rfl⟩ ?_ | refine aa_t (i := 0) rfl rfl (by kernel_rfl) (by first | rfl | exact wan_y rfl rfl (beq_tt ‹_›) | exact wan_y rfl rfl (beq_ff ‹_›) | exact wan_y rfl rfl (by simp [*])) (fun h0 hS => st_loadBW (row := filA (lookL f dir name).1) rfl (by obtain ⟨_, _, _, _, e⟩ := hS; rw [e]; rfl) rfl ⟨rfl, rfl⟩) ⟨_, _, _, _, rfl⟩ ?_ | refine aa_t (i := 0) rfl rfl (by kernel_rfl) (by first | rfl | exact wan_y rfl rfl (beq_tt ‹_›) | exact wan_y rfl rfl (beq_ff ‹_›) | exact wan_y rfl rfl (by simp [*])) (fun h0 hS => st_loadBW rfl rfl rfl ⟨rfl, rfl⟩) ⟨_, _, _, _, rfl⟩ ?_
            first | refine aa_t (i := 1) rfl rfl (by kernel_rfl) (by first | rfl | exact wan_y rfl rfl (beq_tt ‹_›) | exact wan_y rfl rfl (beq_ff ‹_›) | exact wan_y rfl rfl (by simp [*])) (fun h0 hS => st_loadBW (row := [.bs 4 0 2 f.length cap]) rfl (by obtain ⟨_, _, _, _, e⟩ := hS; rw [e]; rfl) rfl ⟨rfl, rfl⟩) ⟨_, _, _, _, rfl⟩ ?_ | refine aa_t (i := 1) rfl rfl (by kernel_rfl) (by first | rfl | exact wan_y rfl rfl (beq_tt ‹_›) | exact wan_y rfl rfl (beq_ff ‹_›) | exact wan_y rfl rfl (by simp [*])) (fun h0 hS => st_loadBW (row := filA dir) rfl (by obtain ⟨_, _, _, _, e⟩ := hS; rw [e]; rfl) rfl ⟨rfl, rfl⟩) ⟨_, _, _, _, rfl⟩ ?_ | refine aa_t (i := 1) rfl rfl (by kernel_rfl) (by first | rfl | exact wan_y rfl rfl (beq_tt ‹_›) | exact wan_y rfl rfl (beq_ff ‹_›) | exact wan_y rfl rfl (by simp [*])) (fun h0 hS => st_loadBW (row := filA (lookL f dir name).1) rfl (by obtain ⟨_, _, _, _, e⟩ := hS; rw [e]; rfl) rfl ⟨rfl, rfl⟩) ⟨_, _, _, _, rfl⟩ ?_ | refine aa_t (i := 1) rfl rfl (by kernel_rfl) (by first | rfl | exact wan_y rfl rfl (beq_tt ‹_›) | exact wan_y rfl rfl (beq_ff ‹_›) | exact wan_y rfl rfl (by simp [*])) (fun h0 hS => st_loadBW rfl rfl rfl ⟨rfl, rfl⟩) ⟨_, _, _, _, rfl⟩ ?_
            refine aa_t (i := 2) rfl rfl (by kernel_rfl) (by first | rfl | exact wan_y rfl rfl (beq_tt ‹_›) | exact wan_y rfl rfl (beq_ff ‹_›) | exact wan_y rfl rfl (by simp [*])) (fun h0 hS => st_move rfl ⟨rfl, rfl⟩) ⟨_, _, _, _, rfl⟩ ?_
            first | refine aa_t (i := 3) rfl rfl (by kernel_rfl) (by first | rfl | exact wan_y rfl rfl (beq_tt ‹_›) | exact wan_y rfl rfl (beq_ff ‹_›) | exact wan_y rfl rfl (by simp [*])) (fun h0 hS => st_loadBW (row := [.bs 4 0 2 f.length cap]) rfl (by obtain ⟨_, _, _, _, e⟩ := hS; rw [e]; rfl) rfl ⟨rfl, rfl⟩) ⟨_, _, _, _, rfl⟩ ?_ | refine aa_t (i := 3) rfl rfl (by kernel_rfl) (by first | rfl | exact wan_y rfl rfl (beq_tt ‹_›) | exact wan_y rfl rfl (beq_ff ‹_›) | exact wan_y rfl rfl (by simp [*])) (fun h0 hS => st_loadBW (row := filA dir) rfl (by obtain ⟨_, _, _, _, e⟩ := hS; rw [e]; rfl) rfl ⟨rfl, rfl⟩) ⟨_, _, _, _, rfl⟩ ?_ | refine aa_t (i := 3) rfl rfl (by kernel_rfl) (by first | rfl | exact wan_y rfl rfl (beq_tt ‹_›) | exact wan_y rfl rfl (beq_ff ‹_›) | exact wan_y rfl rfl (by simp [*])) (fun h0 hS => st_loadBW (row := filA (lookL f dir name).1) rfl (by obtain ⟨_, _, _, _, e⟩ := hS; rw [e]; rfl) rfl ⟨rfl, rfl⟩) ⟨_, _, _, _, rfl⟩ ?_ | refine aa_t (i := 3) rfl rfl (by kernel_rfl) (by first | rfl | exact wan_y rfl rfl (beq_tt ‹_›) | exact wan_y rfl rfl (beq_ff ‹_›) | exact wan_y rfl rfl (by simp [*])) (fun h0 hS => st_loadBW rfl rfl rfl ⟨rfl, rfl⟩) ⟨_, _, _, _, rfl⟩ ?_
            refine aa_t (i := 4) rfl rfl (by kernel_rfl) (by first | rfl | exact wan_y rfl rfl (beq_tt ‹_›) | exact wan_y rfl rfl (beq_ff ‹_›) | exact wan_y rfl rfl (by simp [*])) (fun h0 hS => st_le (y := .agg (filA (0, 0))) (st_build (by repeat (first | exact FillA.nil _ | (apply FillA.cons; (focus exact rfl); (focus exact rfl); (focus exact rfl); (focus exact rfl); (focus exact rfl); (focus (repeat constructor))))) ⟨rfl, rfl⟩) (by repeat (first | exact LeA.refl _ | exact LeA.nil _ | exact LeL.refl _ | refine LeA.agg ⟨rfl, rfl⟩ | refine LeA.tup ⟨rfl, rfl⟩ | exact LeL.nil | refine LeL.cons ⟨rfl, rfl⟩ ⟨rfl, rfl⟩ | exact LeA.any _)) ⟨rfl, rfl⟩) ⟨_, _, _, _, rfl⟩ ?_
            refine aa_c (i := 5) rfl rfl (by kernel_rfl) (by first | rfl | exact wan_y rfl rfl (beq_tt ‹_›) | exact wan_y rfl rfl (beq_ff ‹_›) | exact wan_y rfl rfl (by simp [*])) (q_call (Rone dir name (lookL f dir name).1 (0, 0)) ?_)
            rintro r rfl
            refine ⟨.inr ⟨_, _, _, _, rfl⟩, ?_⟩
            refine aa_c0 (i := 6) rfl (by kernel_rfl) (by first | rfl | exact wan_y rfl rfl (beq_tt ‹_›) | exact wan_y rfl rfl (beq_ff ‹_›) | exact wan_y rfl rfl (by simp [*])) (s_store rfl rfl rfl rfl rfl rfl (by repeat constructor) (by repeat constructor) ?_)
            refine ⟨.inr ⟨_, _, _, _, rfl⟩, ?_⟩
            refine aa_t (i := 7) rfl rfl (by kernel_rfl) (by first | rfl | exact wan_y rfl rfl (beq_tt ‹_›) | exact wan_y rfl rfl (beq_ff ‹_›) | exact wan_y rfl rfl (by simp [*])) (fun h0 hS => st_assign rfl ⟨rfl, rfl⟩) ⟨_, _, _, _, rfl⟩ ?_
            refine aa_t (i := 8) rfl rfl (by kernel_rfl) (by first | rfl | exact wan_y rfl rfl (beq_tt ‹_›) | exact wan_y rfl rfl (beq_ff ‹_›) | exact wan_y rfl rfl (by simp [*])) (fun h0 hS => st_assign rfl ⟨rfl, rfl⟩) ⟨_, _, _, _, rfl⟩ ?_
            refine aa_done (by kernel_rfl) ?_ _
            refine x_then ?_
            refine ⟨_, rfl, ?_⟩
            rw [show dropI (entS d.nodes i n0 name 0) (lookL f dir name).1.2 = _ from hns]
            first | exact weak_fz 3 2 rfl (congrArg (fun x => [flsA f, filA dir, x]) (liv_upd (k := 0) (i := 4) (j := 9) (d := { d with nodes := keepNot (lookL f dir name).1.2 (entS d.nodes i n0 name 0) }) (d' := { d with nodes := keepNot (lookL f dir name).1.2 (entS d.nodes i n0 name 0) }) hql rfl rfl hcap hcap2 (Nat.le_of_ble_eq_true rfl) (Nat.le_of_ble_eq_true rfl) rfl rfl)) (.cons _ _ _ _ rfl (LeA.refl _) (.cons _ _ _ _ rfl (LeA.refl _) (.cons _ _ _ _ rfl (LeA.refl _) .nil))) | exact weak_fz 3 2 rfl (congrArg (fun x => [flsA f, filA dir, x]) (liv_upd (k := 0) (i := 4) (j := 5) (d := d) (d' := { d with nodes := entS d.nodes i n0 name 0 }) hql rfl hxl hcap hx1 (Nat.le_of_ble_eq_true rfl) (Nat.le_of_ble_eq_true rfl) rfl rfl)) (.cons _ _ _ _ rfl (LeA.refl _) (.cons _ _ _ _ rfl (LeA.refl _) (.cons _ _ _ _ rfl (LeA.refl _) .nil)))
          · rintro t rfl
            refine aw_ret ?_
            refine e_ret ?_
            rw [unlinkL, if_neg (by omega), if_neg (by omega), if_neg (by simp [hc3]), hdq, Int.toNat_natCast, onD_set hq, ← hino, ← entS_D (hv.vd d (List.mem_of_getElem? hq)) hn0]
            rfl
        · refine ⟨rfl, _, (back_five (n := 7) rfl (by decide) (by decide) (by decide) f q { d with nodes := keepNot (lookL f dir name).1.2 (entS d.nodes i n0 name 0) } (entS d.nodes i n0 name 0) (keepNot (lookL f dir name).1.2 (entS d.nodes i n0 name 0)) (lookL f dir name).1 f.length cap cap cap1 cap2 : Back _ [4, 5] _ [_, _, _, _, _, _, _, _, _, _]), ?_⟩
          refine al_nil (x_then (hK _ ?_))
          clear hK K
          refine aw_midI (fun t => t = ⟨look [(6, .bp 2 0), (7, .sl 7 [chgA (dir, name, (lookL f dir name).1, (0, 0))] none), (8, .v (.int .i64 0))], ⟨[flsA f, filA dir, flsA (f.set q { d with nodes := dropI (entS d.nodes i n0 name 0) (lookL f dir name).1.2 })], []⟩⟩) ?_ ?_
          · skip
            refine aw_draw (fun h => ∃ x y z v, h.bx = [flsA f, filA dir, x, filA (lookL f dir name).1, y, z, [.bs 4 0 2 f.length cap]] ++ v) 9 (by kernel_rfl) ?_
            first | refine aa_t (i := 0) rfl rfl (by kernel_rfl) (by first | rfl | exact wan_y rfl rfl (beq_tt ‹_›) | exact wan_y rfl rfl (beq_ff ‹_›) | exact wan_y rfl rfl (by simp [*])) (fun h0 hS => st_loadBW (row := [.bs 4 0 2 f.length cap]) rfl (by obtain ⟨_, _, _, _, e⟩ := hS; rw [e]; rfl) rfl ⟨rfl, rfl⟩) ⟨_, _, _, _, rfl⟩ ?_ | refine aa_t (i := 0) rfl rfl (by kernel_rfl) (by first | rfl | exact wan_y rfl rfl (beq_tt ‹_›) | exact wan_y rfl rfl (beq_ff ‹_›) | exact wan_y rfl rfl (by simp [*])) (fun h0 hS => st_loadBW (row := filA dir) rfl (by obtain ⟨_, _, _, _, e⟩ := hS; rw [e]; rfl) rfl ⟨rfl, rfl⟩) ⟨_, _, _, _, rfl⟩ ?_ | refine aa_t (i := 0) rfl rfl (by kernel_rfl) (by first | rfl | exact wan_y rfl rfl (beq_tt ‹_›) | exact wan_y rfl rfl (beq_ff ‹_›) | exact wan_y rfl rfl (by simp [*])) (fun h0 hS => st_loadBW (row := filA (lookL f dir name).1) rfl (by obtain ⟨_, _, _, _, e⟩ := hS; rw [e]; rfl) rfl ⟨rfl, rfl⟩) ⟨_, _, _, _, rfl⟩ ?_ | refine aa_t (i := 0) rfl rfl (by kernel_rfl) (by first | rfl | exact wan_y rfl rfl (beq_tt ‹_›) | exact wan_y rfl rfl (beq_ff ‹_›) | exact wan_y rfl rfl (by simp [*])) (fun h0 hS => st_loadBW rfl rfl rfl ⟨rfl, rfl⟩) ⟨_, _, _, _, rfl⟩ ?_
            first | refine aa_t (i := 1) rfl rfl (by kernel_rfl) (by first | rfl | exact wan_y rfl rfl (beq_tt ‹_›) | exact wan_y rfl rfl (beq_ff ‹_›) | exact wan_y rfl rfl (by simp [*])) (fun h0 hS => st_loadBW (row := [.bs 4 0 2 f.length cap]) rfl (by obtain ⟨_, _, _, _, e⟩ := hS; rw [e]; rfl) rfl ⟨rfl, rfl⟩) ⟨_, _, _, _, rfl⟩ ?_ | refine aa_t (i := 1) rfl rfl (by kernel_rfl) (by first | rfl | exact wan_y rfl rfl (beq_tt ‹_›) | exact wan_y rfl rfl (beq_ff ‹_›) | exact wan_y rfl rfl (by simp [*])) (fun h0 hS => st_loadBW (row := filA dir) rfl (by obtain ⟨_, _, _, _, e⟩ := hS; rw [e]; rfl) rfl ⟨rfl, rfl⟩) ⟨_, _, _, _, rfl⟩ ?_ | refine aa_t (i := 1) rfl rfl (by kernel_rfl) (by first | rfl | exact wan_y rfl rfl (beq_tt ‹_›) | exact wan_y rfl rfl (beq_ff ‹_›) | exact wan_y rfl rfl (by simp [*])) (fun h0 hS => st_loadBW (row := filA (lookL f dir name).1) rfl (by obtain ⟨_, _, _, _, e⟩ := hS; rw [e]; rfl) rfl ⟨rfl, rfl⟩) ⟨_, _, _, _, rfl⟩ ?_ | refine aa_t (i := 1) rfl rfl (by kernel_rfl) (by first | rfl | exact wan_y rfl rfl (beq_tt ‹_›) | exact wan_y rfl rfl (beq_ff ‹_›) | exact wan_y rfl rfl (by simp [*])) (fun h0 hS => st_loadBW rfl rfl rfl ⟨rfl, rfl⟩) ⟨_, _, _, _, rfl⟩ ?_
            refine aa_t (i := 2) rfl rfl (by kernel_rfl) (by first | rfl | exact wan_y rfl rfl (beq_tt ‹_›) | exact wan_y rfl rfl (beq_ff ‹_›) | exact wan_y rfl rfl (by simp [*])) (fun h0 hS => st_move rfl ⟨rfl, rfl⟩) ⟨_, _, _, _, rfl⟩ ?_
            first | refine aa_t (i := 3) rfl rfl (by kernel_rfl) (by first | rfl | exact wan_y rfl rfl (beq_tt ‹_›) | exact wan_y rfl rfl (beq_ff ‹_›) | exact wan_y rfl rfl (by simp [*])) (fun h0 hS => st_loadBW (row := [.bs 4 0 2 f.length cap]) rfl (by obtain ⟨_, _, _, _, e⟩ := hS; rw [e]; rfl) rfl ⟨rfl, rfl⟩) ⟨_, _, _, _, rfl⟩ ?_ | refine aa_t (i := 3) rfl rfl (by kernel_rfl) (by first | rfl | exact wan_y rfl rfl (beq_tt ‹_›) | exact wan_y rfl rfl (beq_ff ‹_›) | exact wan_y rfl rfl (by simp [*])) (fun h0 hS => st_loadBW (row := filA dir) rfl (by obtain ⟨_, _, _, _, e⟩ := hS; rw [e]; rfl) rfl ⟨rfl, rfl⟩) ⟨_, _, _, _, rfl⟩ ?_ | refine aa_t (i := 3) rfl rfl (by kernel_rfl) (by first | rfl | exact wan_y rfl rfl (beq_tt ‹_›) | exact wan_y rfl rfl (beq_ff ‹_›) | exact wan_y rfl rfl (by simp [*])) (fun h0 hS => st_loadBW (row := filA (lookL f dir name).1) rfl (by obtain ⟨_, _, _, _, e⟩ := hS; rw [e]; rfl) rfl ⟨rfl, rfl⟩) ⟨_, _, _, _, rfl⟩ ?_ | refine aa_t (i := 3) rfl rfl (by kernel_rfl) (by first | rfl | exact wan_y rfl rfl (beq_tt ‹_›) | exact wan_y rfl rfl (beq_ff ‹_›) | exact wan_y rfl rfl (by simp [*])) (fun h0 hS => st_loadBW rfl rfl rfl ⟨rfl, rfl⟩) ⟨_, _, _, _, rfl⟩ ?_
            refine aa_t (i := 4) rfl rfl (by kernel_rfl) (by first | rfl | exact wan_y rfl rfl (beq_tt ‹_›) | exact wan_y rfl rfl (beq_ff ‹_›) | exact wan_y rfl rfl (by simp [*])) (fun h0 hS => st_le (y := .agg (filA (0, 0))) (st_build (by repeat (first | exact FillA.nil _ | (apply FillA.cons; (focus exact rfl); (focus exact rfl); (focus exact rfl); (focus exact rfl); (focus exact rfl); (focus (repeat constructor))))) ⟨rfl, rfl⟩) (by repeat (first | exact LeA.refl _ | exact LeA.nil _ | exact LeL.refl _ | refine LeA.agg ⟨rfl, rfl⟩ | refine LeA.tup ⟨rfl, rfl⟩ | exact LeL.nil | refine LeL.cons ⟨rfl, rfl⟩ ⟨rfl, rfl⟩ | exact LeA.any _)) ⟨rfl, rfl⟩) ⟨_, _, _, _, rfl⟩ ?_
            refine aa_c (i := 5) rfl rfl (by kernel_rfl) (by first | rfl | exact wan_y rfl rfl (beq_tt ‹_›) | exact wan_y rfl rfl (beq_ff ‹_›) | exact wan_y rfl rfl (by simp [*])) (q_call (Rone dir name (lookL f dir name).1 (0, 0)) ?_)
            rintro r rfl
            refine ⟨.inr ⟨_, _, _, _, rfl⟩, ?_⟩
            refine aa_c0 (i := 6) rfl (by kernel_rfl) (by first | rfl | exact wan_y rfl rfl (beq_tt ‹_›) | exact wan_y rfl rfl (beq_ff ‹_›) | exact wan_y rfl rfl (by simp [*])) (s_store rfl rfl rfl rfl rfl rfl (by repeat constructor) (by repeat constructor) ?_)
            refine ⟨.inr ⟨_, _, _, _, rfl⟩, ?_⟩
            refine aa_t (i := 7) rfl rfl (by kernel_rfl) (by first | rfl | exact wan_y rfl rfl (beq_tt ‹_›) | exact wan_y rfl rfl (beq_ff ‹_›) | exact wan_y rfl rfl (by simp [*])) (fun h0 hS => st_assign rfl ⟨rfl, rfl⟩) ⟨_, _, _, _, rfl⟩ ?_
            refine aa_t (i := 8) rfl rfl (by kernel_rfl) (by first | rfl | exact wan_y rfl rfl (beq_tt ‹_›) | exact wan_y rfl rfl (beq_ff ‹_›) | exact wan_y rfl rfl (by simp [*])) (fun h0 hS => st_assign rfl ⟨rfl, rfl⟩) ⟨_, _, _, _, rfl⟩ ?_
            refine aa_done (by kernel_rfl) ?_ _
            refine x_then ?_
            refine ⟨_, rfl, ?_⟩
            rw [show dropI (entS d.nodes i n0 name 0) (lookL f dir name).1.2 = _ from hns]
            first | exact weak_fz 3 2 rfl (congrArg (fun x => [flsA f, filA dir, x]) (liv_upd (k := 0) (i := 4) (j := 9) (d := { d with nodes := keepNot (lookL f dir name).1.2 (entS d.nodes i n0 name 0) }) (d' := { d with nodes := keepNot (lookL f dir name).1.2 (entS d.nodes i n0 name 0) }) hql rfl rfl hcap hcap2 (Nat.le_of_ble_eq_true rfl) (Nat.le_of_ble_eq_true rfl) rfl rfl)) (.cons _ _ _ _ rfl (LeA.refl _) (.cons _ _ _ _ rfl (LeA.refl _) (.cons _ _ _ _ rfl (LeA.refl _) .nil))) | exact weak_fz 3 2 rfl (congrArg (fun x => [flsA f, filA dir, x]) (liv_upd (k := 0) (i := 4) (j := 5) (d := d) (d' := { d with nodes := entS d.nodes i n0 name 0 }) hql rfl hxl hcap hx1 (Nat.le_of_ble_eq_true rfl) (Nat.le_of_ble_eq_true rfl) rfl rfl)) (.cons _ _ _ _ rfl (LeA.refl _) (.cons _ _ _ _ rfl (LeA.refl _) (.cons _ _ _ _ rfl (LeA.refl _) .nil)))
          · rintro t rfl
            refine aw_ret ?_
            refine e_ret ?_
            rw [unlinkL, if_neg (by omega), if_neg (by omega), if_neg (by simp [hc3]), hdq, Int.toNat_natCast, onD_set hq, ← hino, ← entS_D (hv.vd d (List.mem_of_getElem? hq)) hn0]
            rfl

theorem Rrmdir (f : Fls) (dir : Fil) (name : Str) (hv : FlsV f) (hs : name.size ≤ 100000) : AFn Try.prog 95 [.agg (flsA f), .agg (filA dir), .v (.string name)] (fun r => r = chgR (rmdirL f dir name)) := by
  have hf := hv.b
  refine enter Try.func95 rfl rfl rfl rfl rfl 0 rfl ?_
  refine p_sr (fun K hK => ?_)
  first | refine al_p rfl (s_boxA rfl rfl (by repeat constructor) ?_) | refine al_p rfl (s_box rfl rfl (by repeat constructor) ?_)
  first | refine al_p rfl (s_boxA rfl rfl (by repeat constructor) ?_) | refine al_p rfl (s_box rfl rfl (by repeat constructor) ?_)
  refine al_p rfl (s_alloc (by repeat constructor) ?_)
  refine p_as ?_
  refine p_as ?_
  refine al_nil (x_then (hK _ ?_))
  clear hK K
  refine aw_seq (fun K hK => ?_)
  refine p_sr (fun K hK => ?_)
  refine al_p rfl (st_loadBW rfl rfl rfl ?_)
  refine al_p rfl (st_loadBW rfl rfl rfl ?_)
  refine p_mv ?_
  refine al_p rfl (q_call (Rplace f dir name hf hs) ?_)
  rintro r rfl
  refine p_as ?_
  refine al_nil (x_then (hK _ ?_))
  clear hK K
  refine p_sr (fun K hK => ?_)
  refine p_mv ?_
  first | refine al_p rfl (st_neq rfl rfl ?_) | refine al_p rfl (st_neqS rfl rfl ?_) | refine al_p rfl (st_neqB (by kernel_rfl) rfl rfl ?_)
  refine al_nil (x_then (hK _ ?_))
  clear hK K
  refine aw_cond rfl (fun hb1 => ?_) (fun hb1 => ?_)
  · have hc1 := bp hb1
    refine p_sr (fun K hK => ?_)
    refine p_bd ?_
    refine p_mv ?_
    refine p_st ?_
    refine p_as ?_
    refine p_as ?_
    refine al_nil (x_then (hK _ ?_))
    clear hK K
    refine aw_ret ?_
    refine x_thenR ?_
    clear hK K
    refine abody_ret (r := chgR (rmdirL f dir name)) none (by repeat (first | exact ResA.nil | (apply ResA.tmp; (focus exact rfl)) | (apply ResA.cellN; (focus exact inferInstance); (focus exact rfl); (focus exact rfl); (focus exact rfl)) | (apply ResA.cell1; (focus exact inferInstance); (focus exact rfl); (focus exact rfl); (focus exact rfl)))) rfl rfl rfl ?_ ⟨rfl, rfl, rfl⟩
    rw [rmdirL, if_pos (by omega)]
    exact err_le _
  · have hc1 := bp hb1
    refine aw_skip ?_
    refine x_then ?_
    refine hK _ ?_
    clear hK K
    refine p_sr (fun K hK => ?_)
    refine al_p rfl (st_loadBW rfl rfl rfl ?_)
    refine al_p rfl (st_loadBW rfl rfl rfl ?_)
    refine p_mv ?_
    refine al_p rfl (q_call (Rlook f dir name hf) ?_)
    rintro r rfl
    refine p_mv ?_
    refine al_p rfl (st_extract rfl rfl ?_)
    refine al_p rfl (st_extract rfl rfl ?_)
    refine al_p rfl (s_alloc (by repeat constructor) ?_)
    refine p_st ?_
    refine p_as ?_
    refine al_nil (x_then (hK _ ?_))
    clear hK K
    refine aw_seq (fun K hK => ?_)
    refine p_sr (fun K hK => ?_)
    refine p_mv ?_
    first | refine al_p rfl (st_neq rfl rfl ?_) | refine al_p rfl (st_neqS rfl rfl ?_) | refine al_p rfl (st_neqB (by kernel_rfl) rfl rfl ?_)
    refine al_nil (x_then (hK _ ?_))
    clear hK K
    refine aw_cond rfl (fun hb2 => ?_) (fun hb2 => ?_)
    · have hc2 := bp hb2
      refine p_sr (fun K hK => ?_)
      refine p_bd ?_
      refine p_mv ?_
      refine p_st ?_
      refine p_as ?_
      refine p_as ?_
      refine al_nil (x_then (hK _ ?_))
      clear hK K
      refine aw_ret ?_
      refine x_thenR ?_
      clear hK K
      refine abody_ret (r := chgR (rmdirL f dir name)) none (by repeat (first | exact ResA.nil | (apply ResA.tmp; (focus exact rfl)) | (apply ResA.cellN; (focus exact inferInstance); (focus exact rfl); (focus exact rfl); (focus exact rfl)) | (apply ResA.cell1; (focus exact inferInstance); (focus exact rfl); (focus exact rfl); (focus exact rfl)))) rfl rfl rfl ?_ ⟨rfl, rfl, rfl⟩
      rw [rmdirL, if_neg (by omega), if_pos (by omega)]
      exact err_le _
    · have hc2 := bp hb2
      have hlk : (lookL f dir name).2 = 0 := by omega
      refine aw_skip ?_
      refine x_then ?_
      refine hK _ ?_
      clear hK K
      refine aw_seq (fun K hK => ?_)
      refine p_sr (fun K hK => ?_)
      refine al_p rfl (st_loadBW rfl rfl rfl ?_)
      refine al_p rfl (st_loadBW rfl rfl rfl ?_)
      refine al_p rfl (q_call (Rdir f (lookL f dir name).1 hf) ?_)
      rintro r rfl
      refine al_p rfl (st_not rfl ?_)
      refine al_nil (x_then (hK _ ?_))
      clear hK K
      refine aw_cond rfl (fun hb3 => ?_) (fun hb3 => ?_)
      · have hc3 := bp hb3
        refine p_sr (fun K hK => ?_)
        refine p_bd ?_
        refine p_st ?_
        refine p_as ?_
        refine p_as ?_
        refine al_nil (x_then (hK _ ?_))
        clear hK K
        refine aw_ret ?_
        refine x_thenR ?_
        clear hK K
        refine abody_ret (r := chgR (rmdirL f dir name)) none (by repeat (first | exact ResA.nil | (apply ResA.tmp; (focus exact rfl)) | (apply ResA.cellN; (focus exact inferInstance); (focus exact rfl); (focus exact rfl); (focus exact rfl)) | (apply ResA.cell1; (focus exact inferInstance); (focus exact rfl); (focus exact rfl); (focus exact rfl)))) rfl rfl rfl ?_ ⟨rfl, rfl, rfl⟩
        rw [rmdirL, if_neg (by omega), if_neg (by omega), if_pos hc3]
        exact err_le _
      · have hc3 := bp hb3
        refine aw_skip ?_
        refine x_then ?_
        refine hK _ ?_
        clear hK K
        refine aw_seq (fun K hK => ?_)
        refine p_sr (fun K hK => ?_)
        refine al_p rfl (st_loadBW rfl rfl rfl ?_)
        refine al_p rfl (st_loadBW rfl rfl rfl ?_)
        refine al_p rfl (q_call (Rempty f (lookL f dir name).1 hf) ?_)
        rintro r rfl
        refine al_p rfl (st_not rfl ?_)
        refine al_nil (x_then (hK _ ?_))
        clear hK K
        refine aw_cond rfl (fun hb4 => ?_) (fun hb4 => ?_)
        · have hc4 := bp hb4
          refine p_sr (fun K hK => ?_)
          refine p_bd ?_
          refine p_st ?_
          refine p_as ?_
          refine p_as ?_
          refine al_nil (x_then (hK _ ?_))
          clear hK K
          refine aw_ret ?_
          refine x_thenR ?_
          clear hK K
          refine abody_ret (r := chgR (rmdirL f dir name)) none (by repeat (first | exact ResA.nil | (apply ResA.tmp; (focus exact rfl)) | (apply ResA.cellN; (focus exact inferInstance); (focus exact rfl); (focus exact rfl); (focus exact rfl)) | (apply ResA.cell1; (focus exact inferInstance); (focus exact rfl); (focus exact rfl); (focus exact rfl)))) rfl rfl rfl ?_ ⟨rfl, rfl, rfl⟩
          rw [rmdirL, if_neg (by omega), if_neg (by omega), if_neg (by simp [hc3]), if_pos hc4]
          exact err_le _
        · have hc4 := bp hb4
          obtain ⟨q, i, d, n0, hdq, hq, hn0, hino, hidx, hnode, hk0, hnm⟩ := place_ok (name := name) (dir := dir) (f := f) (by omega)
          have hil := (List.getElem?_eq_some_iff.1 hn0).1
          have hql := (List.getElem?_eq_some_iff.1 hq).1
          have hvd := hv.vd d (List.mem_of_getElem? hq)
          obtain ⟨e, he, hle⟩ := look_ok hnode hk0 hlk
          have hat1 : (lookL f dir name).1.1 = (q : Int) := by rw [hle]; exact hdq
          have hat2 : (lookL f dir name).1.2 ≠ 1 := by rw [hle]; exact (hvd.ent n0 (List.mem_of_getElem? hn0) e (entF_some he).1).2.1
          have hxl : (entS d.nodes i n0 name 0).length = d.nodes.length := entS_len _ _ _ _ _
          have hkp : 0 < (keepNot (lookL f dir name).1.2 (entS d.nodes i n0 name 0)).length := by
            obtain ⟨m, hm, hm1⟩ := entS_root hvd hn0 name 0
            exact keep_pos hm (by rw [hm1]; exact hat2.symm)
          refine aw_skip ?_
          refine x_then ?_
          refine hK _ ?_
          clear hK K
          refine p_sr (fun K hK => ?_)
          refine al_p rfl (st_loadBW rfl rfl rfl ?_)
          refine al_p rfl (s_callM [] rfl (.cons _ _ _ _ _ rfl (LeA.refl _) .nil) (by decide) .nil (RcopyK f q d hf hq (by omega)) ?_)
          rintro r bc tc ⟨rfl, cap, cap1, hcap, hcap1, rfl, rfl⟩
          refine ⟨rfl, _, (back_new2 (n := 4) rfl f q d d.nodes cap cap1 : Back _ [] _ [_, _, _, _, _, _]), ?_⟩
          refine al_p rfl (s_alloc (by repeat constructor) ?_)
          refine p_st ?_
          refine al_nil (x_then (hK _ ?_))
          clear hK K
          refine p_sr (fun K hK => ?_)
          refine al_p rfl (st_loadBW rfl rfl rfl ?_)
          refine al_p rfl (st_loadBW rfl rfl rfl ?_)
          refine p_mv ?_
          refine al_p rfl (s_callM [4, 5] rfl (.cons _ _ _ _ _ rfl (LeA.refl _) (.cons _ _ _ _ _ rfl (LeA.refl _) (.cons _ _ _ _ _ rfl (LeA.refl _) (.cons _ _ _ _ _ rfl (LeA.refl _) .nil)))) (by decide) (.cons _ _ _ _ _ rfl (ren_DB (by rfl) _ _ _ _ _) (.cons _ _ _ _ _ rfl (ren_NB _ _ _) .nil)) (Renter f q d n0 i dir name 0 cap cap1 hf hq hdq hidx hn0 hcap hcap1) ?_)
          rintro r bc tc ⟨rfl, rfl, rfl⟩
          refine ⟨rfl, _, (back_two (Nat.le_of_ble_eq_true rfl) (Nat.le_of_ble_eq_true rfl) (by decide) f q d (entS d.nodes i n0 name 0) cap cap1 cap1 : Back _ [4, 5] _ [_, _, _, _, _, _, _]), ?_⟩
          refine al_nil (x_then (hK _ ?_))
          clear hK K
          refine p_sr (fun K hK => ?_)
          refine al_p rfl (st_loadBW rfl rfl rfl ?_)
          refine al_p rfl (st_loadBW rfl rfl rfl ?_)
          refine al_p rfl (s_callM [4, 5] rfl (.cons _ _ _ _ _ rfl (LeA.refl _) (.cons _ _ _ _ _ rfl (LeA.refl _) .nil)) (by decide) (.cons _ _ _ _ _ rfl (ren_DB (by rfl) _ _ _ _ _) (.cons _ _ _ _ _ rfl (ren_NB _ _ _) .nil)) (Rdrop2 f q d { d with nodes := entS d.nodes i n0 name 0 } (lookL f dir name).1 cap cap1 (hv.entS hq hn0 name 0) hql hat1 hcap (by rw [entS_len]; exact hcap1) hkp rfl hxl) ?_)
          rintro r bc tc ⟨rfl, rfl, ⟨hns, rfl⟩ | ⟨hns, cap2, hcap2, rfl⟩⟩
          · refine ⟨rfl, _, (back_four (n := 7) rfl (by decide) (by decide) (by decide) f q d (entS d.nodes i n0 name 0) (lookL f dir name).1 f.length cap cap cap1 cap1 : Back _ [4, 5] _ [_, _, _, _, _, _, _, _, _]), ?_⟩
            have hx1 : (entS d.nodes i n0 name 0).length ≤ cap1 := by omega
            refine al_nil (x_then (hK _ ?_))
            clear hK K
            refine aw_midI (fun t => t = ⟨look [(6, .bp 2 0), (7, .sl 7 [chgA (dir, name, (lookL f dir name).1, (0, 0))] none), (8, .v (.int .i64 0))], ⟨[flsA f, filA dir, flsA (f.set q { d with nodes := dropI (entS d.nodes i n0 name 0) (lookL f dir name).1.2 })], []⟩⟩) ?_ ?_
            · skip
              refine aw_draw (fun h => ∃ x y z v, h.bx = [flsA f, filA dir, x, filA (lookL f dir name).1, y, z, [.bs 4 0 2 f.length cap]] ++ v) 9 (by kernel_rfl) ?_
              first | refine aa_t (i := 0) rfl rfl (by kernel_rfl) (by first | rfl | exact wan_y rfl rfl (beq_tt ‹_›) | exact wan_y rfl rfl (beq_ff ‹_›) | exact wan_y rfl rfl (by simp [*])) (fun h0 hS => st_loadBW (row := [.bs 4 0 2 f.length cap]) rfl (by obtain ⟨_, _, _, _, e⟩ := hS; rw [e]; rfl) rfl ⟨rfl, rfl⟩) ⟨_, _, _, _, rfl⟩ ?_ | refine aa_t (i := 0) rfl rfl (by kernel_rfl) (by first | rfl | exact wan_y rfl rfl (beq_tt ‹_›) | exact wan_y rfl rfl (beq_ff ‹_›) | exact wan_y rfl rfl (by simp [*])) (fun h0 hS => st_loadBW (row := filA dir) rfl (by obtain ⟨_, _, _, _, e⟩ := hS; rw [e]; rfl) rfl ⟨rfl, rfl⟩) ⟨_, _, _, _, rfl⟩ ?_ | refine aa_t (i := 0) rfl rfl (by kernel_rfl) (by first | rfl | exact wan_y rfl rfl (beq_tt ‹_›) | exact wan_y rfl rfl (beq_ff ‹_›) | exact wan_y rfl rfl (by simp [*])) (fun h0 hS => st_loadBW (row := filA (lookL f dir name).1) rfl (by obtain ⟨_, _, _, _, e⟩ := hS; rw [e]; rfl) rfl ⟨rfl, rfl⟩) ⟨_, _, _, _, rfl⟩ ?_ | refine aa_t (i := 0) rfl rfl (by kernel_rfl) (by first | rfl | exact wan_y rfl rfl (beq_tt ‹_›) | exact wan_y rfl rfl (beq_ff ‹_›) | exact wan_y rfl rfl (by simp [*])) (fun h0 hS => st_loadBW rfl rfl rfl ⟨rfl, rfl⟩) ⟨_, _, _, _, rfl⟩ ?_
              first | refine aa_t (i := 1) rfl rfl (by kernel_rfl) (by first | rfl | exact wan_y rfl rfl (beq_tt ‹_›) | exact wan_y rfl rfl (beq_ff ‹_›) | exact wan_y rfl rfl (by simp [*])) (fun h0 hS => st_loadBW (row := [.bs 4 0 2 f.length cap]) rfl (by obtain ⟨_, _, _, _, e⟩ := hS; rw [e]; rfl) rfl ⟨rfl, rfl⟩) ⟨_, _, _, _, rfl⟩ ?_ | refine aa_t (i := 1) rfl rfl (by kernel_rfl) (by first | rfl | exact wan_y rfl rfl (beq_tt ‹_›) | exact wan_y rfl rfl (beq_ff ‹_›) | exact wan_y rfl rfl (by simp [*])) (fun h0 hS => st_loadBW (row := filA dir) rfl (by obtain ⟨_, _, _, _, e⟩ := hS; rw [e]; rfl) rfl ⟨rfl, rfl⟩) ⟨_, _, _, _, rfl⟩ ?_ | refine aa_t (i := 1) rfl rfl (by kernel_rfl) (by first | rfl | exact wan_y rfl rfl (beq_tt ‹_›) | exact wan_y rfl rfl (beq_ff ‹_›) | exact wan_y rfl rfl (by simp [*])) (fun h0 hS => st_loadBW (row := filA (lookL f dir name).1) rfl (by obtain ⟨_, _, _, _, e⟩ := hS; rw [e]; rfl) rfl ⟨rfl, rfl⟩) ⟨_, _, _, _, rfl⟩ ?_ | refine aa_t (i := 1) rfl rfl (by kernel_rfl) (by first | rfl | exact wan_y rfl rfl (beq_tt ‹_›) | exact wan_y rfl rfl (beq_ff ‹_›) | exact wan_y rfl rfl (by simp [*])) (fun h0 hS => st_loadBW rfl rfl rfl ⟨rfl, rfl⟩) ⟨_, _, _, _, rfl⟩ ?_
              refine aa_t (i := 2) rfl rfl (by kernel_rfl) (by first | rfl | exact wan_y rfl rfl (beq_tt ‹_›) | exact wan_y rfl rfl (beq_ff ‹_›) | exact wan_y rfl rfl (by simp [*])) (fun h0 hS => st_move rfl ⟨rfl, rfl⟩) ⟨_, _, _, _, rfl⟩ ?_
              first | refine aa_t (i := 3) rfl rfl (by kernel_rfl) (by first | rfl | exact wan_y rfl rfl (beq_tt ‹_›) | exact wan_y rfl rfl (beq_ff ‹_›) | exact wan_y rfl rfl (by simp [*])) (fun h0 hS => st_loadBW (row := [.bs 4 0 2 f.length cap]) rfl (by obtain ⟨_, _, _, _, e⟩ := hS; rw [e]; rfl) rfl ⟨rfl, rfl⟩) ⟨_, _, _, _, rfl⟩ ?_ | refine aa_t (i := 3) rfl rfl (by kernel_rfl) (by first | rfl | exact wan_y rfl rfl (beq_tt ‹_›) | exact wan_y rfl rfl (beq_ff ‹_›) | exact wan_y rfl rfl (by simp [*])) (fun h0 hS => st_loadBW (row := filA dir) rfl (by obtain ⟨_, _, _, _, e⟩ := hS; rw [e]; rfl) rfl ⟨rfl, rfl⟩) ⟨_, _, _, _, rfl⟩ ?_ | refine aa_t (i := 3) rfl rfl (by kernel_rfl) (by first | rfl | exact wan_y rfl rfl (beq_tt ‹_›) | exact wan_y rfl rfl (beq_ff ‹_›) | exact wan_y rfl rfl (by simp [*])) (fun h0 hS => st_loadBW (row := filA (lookL f dir name).1) rfl (by obtain ⟨_, _, _, _, e⟩ := hS; rw [e]; rfl) rfl ⟨rfl, rfl⟩) ⟨_, _, _, _, rfl⟩ ?_ | refine aa_t (i := 3) rfl rfl (by kernel_rfl) (by first | rfl | exact wan_y rfl rfl (beq_tt ‹_›) | exact wan_y rfl rfl (beq_ff ‹_›) | exact wan_y rfl rfl (by simp [*])) (fun h0 hS => st_loadBW rfl rfl rfl ⟨rfl, rfl⟩) ⟨_, _, _, _, rfl⟩ ?_
              refine aa_t (i := 4) rfl rfl (by kernel_rfl) (by first | rfl | exact wan_y rfl rfl (beq_tt ‹_›) | exact wan_y rfl rfl (beq_ff ‹_›) | exact wan_y rfl rfl (by simp [*])) (fun h0 hS => st_le (y := .agg (filA (0, 0))) (st_build (by repeat (first | exact FillA.nil _ | (apply FillA.cons; (focus exact rfl); (focus exact rfl); (focus exact rfl); (focus exact rfl); (focus exact rfl); (focus (repeat constructor))))) ⟨rfl, rfl⟩) (by repeat (first | exact LeA.refl _ | exact LeA.nil _ | exact LeL.refl _ | refine LeA.agg ⟨rfl, rfl⟩ | refine LeA.tup ⟨rfl, rfl⟩ | exact LeL.nil | refine LeL.cons ⟨rfl, rfl⟩ ⟨rfl, rfl⟩ | exact LeA.any _)) ⟨rfl, rfl⟩) ⟨_, _, _, _, rfl⟩ ?_
              refine aa_c (i := 5) rfl rfl (by kernel_rfl) (by first | rfl | exact wan_y rfl rfl (beq_tt ‹_›) | exact wan_y rfl rfl (beq_ff ‹_›) | exact wan_y rfl rfl (by simp [*])) (q_call (Rone dir name (lookL f dir name).1 (0, 0)) ?_)
              rintro r rfl
              refine ⟨.inr ⟨_, _, _, _, rfl⟩, ?_⟩
              refine aa_c0 (i := 6) rfl (by kernel_rfl) (by first | rfl | exact wan_y rfl rfl (beq_tt ‹_›) | exact wan_y rfl rfl (beq_ff ‹_›) | exact wan_y rfl rfl (by simp [*])) (s_store rfl rfl rfl rfl rfl rfl (by repeat constructor) (by repeat constructor) ?_)
              refine ⟨.inr ⟨_, _, _, _, rfl⟩, ?_⟩
              refine aa_t (i := 7) rfl rfl (by kernel_rfl) (by first | rfl | exact wan_y rfl rfl (beq_tt ‹_›) | exact wan_y rfl rfl (beq_ff ‹_›) | exact wan_y rfl rfl (by simp [*])) (fun h0 hS => st_assign rfl ⟨rfl, rfl⟩) ⟨_, _, _, _, rfl⟩ ?_
              refine aa_t (i := 8) rfl rfl (by kernel_rfl) (by first | rfl | exact wan_y rfl rfl (beq_tt ‹_›) | exact wan_y rfl rfl (beq_ff ‹_›) | exact wan_y rfl rfl (by simp [*])) (fun h0 hS => st_assign rfl ⟨rfl, rfl⟩) ⟨_, _, _, _, rfl⟩ ?_
              refine aa_done (by kernel_rfl) ?_ _
              refine x_then ?_
              refine ⟨_, rfl, ?_⟩
              rw [show dropI (entS d.nodes i n0 name 0) (lookL f dir name).1.2 = _ from hns]
              first | exact weak_fz 3 2 rfl (congrArg (fun x => [flsA f, filA dir, x]) (liv_upd (k := 0) (i := 4) (j := 9) (d := { d with nodes := keepNot (lookL f dir name).1.2 (entS d.nodes i n0 name 0) }) (d' := { d with nodes := keepNot (lookL f dir name).1.2 (entS d.nodes i n0 name 0) }) hql rfl rfl hcap hcap2 (Nat.le_of_ble_eq_true rfl) (Nat.le_of_ble_eq_true rfl) rfl rfl)) (.cons _ _ _ _ rfl (LeA.refl _) (.cons _ _ _ _ rfl (LeA.refl _) (.cons _ _ _ _ rfl (LeA.refl _) .nil))) | exact weak_fz 3 2 rfl (congrArg (fun x => [flsA f, filA dir, x]) (liv_upd (k := 0) (i := 4) (j := 5) (d := d) (d' := { d with nodes := entS d.nodes i n0 name 0 }) hql rfl hxl hcap hx1 (Nat.le_of_ble_eq_true rfl) (Nat.le_of_ble_eq_true rfl) rfl rfl)) (.cons _ _ _ _ rfl (LeA.refl _) (.cons _ _ _ _ rfl (LeA.refl _) (.cons _ _ _ _ rfl (LeA.refl _) .nil)))
            · rintro t rfl
              refine aw_ret ?_
              refine e_ret ?_
              rw [rmdirL, if_neg (by omega), if_neg (by omega), if_neg (by simp [hc3]), if_neg (by simp [hc4]), hdq, Int.toNat_natCast, onD_set hq, ← hino, ← entS_D (hv.vd d (List.mem_of_getElem? hq)) hn0]
              rfl
          · refine ⟨rfl, _, (back_five (n := 7) rfl (by decide) (by decide) (by decide) f q { d with nodes := keepNot (lookL f dir name).1.2 (entS d.nodes i n0 name 0) } (entS d.nodes i n0 name 0) (keepNot (lookL f dir name).1.2 (entS d.nodes i n0 name 0)) (lookL f dir name).1 f.length cap cap cap1 cap2 : Back _ [4, 5] _ [_, _, _, _, _, _, _, _, _, _]), ?_⟩
            refine al_nil (x_then (hK _ ?_))
            clear hK K
            refine aw_midI (fun t => t = ⟨look [(6, .bp 2 0), (7, .sl 7 [chgA (dir, name, (lookL f dir name).1, (0, 0))] none), (8, .v (.int .i64 0))], ⟨[flsA f, filA dir, flsA (f.set q { d with nodes := dropI (entS d.nodes i n0 name 0) (lookL f dir name).1.2 })], []⟩⟩) ?_ ?_
            · skip
              refine aw_draw (fun h => ∃ x y z v, h.bx = [flsA f, filA dir, x, filA (lookL f dir name).1, y, z, [.bs 4 0 2 f.length cap]] ++ v) 9 (by kernel_rfl) ?_
              first | refine aa_t (i := 0) rfl rfl (by kernel_rfl) (by first | rfl | exact wan_y rfl rfl (beq_tt ‹_›) | exact wan_y rfl rfl (beq_ff ‹_›) | exact wan_y rfl rfl (by simp [*])) (fun h0 hS => st_loadBW (row := [.bs 4 0 2 f.length cap]) rfl (by obtain ⟨_, _, _, _, e⟩ := hS; rw [e]; rfl) rfl ⟨rfl, rfl⟩) ⟨_, _, _, _, rfl⟩ ?_ | refine aa_t (i := 0) rfl rfl (by kernel_rfl) (by first | rfl | exact wan_y rfl rfl (beq_tt ‹_›) | exact wan_y rfl rfl (beq_ff ‹_›) | exact wan_y rfl rfl (by simp [*])) (fun h0 hS => st_loadBW (row := filA dir) rfl (by obtain ⟨_, _, _, _, e⟩ := hS; rw [e]; rfl) rfl ⟨rfl, rfl⟩) ⟨_, _, _, _, rfl⟩ ?_ | refine aa_t (i := 0) rfl rfl (by kernel_rfl) (by first | rfl | exact wan_y rfl rfl (beq_tt ‹_›) | exact wan_y rfl rfl (beq_ff ‹_›) | exact wan_y rfl rfl (by simp [*])) (fun h0 hS => st_loadBW (row := filA (lookL f dir name).1) rfl (by obtain ⟨_, _, _, _, e⟩ := hS; rw [e]; rfl) rfl ⟨rfl, rfl⟩) ⟨_, _, _, _, rfl⟩ ?_ | refine aa_t (i := 0) rfl rfl (by kernel_rfl) (by first | rfl | exact wan_y rfl rfl (beq_tt ‹_›) | exact wan_y rfl rfl (beq_ff ‹_›) | exact wan_y rfl rfl (by simp [*])) (fun h0 hS => st_loadBW rfl rfl rfl ⟨rfl, rfl⟩) ⟨_, _, _, _, rfl⟩ ?_
              first | refine aa_t (i := 1) rfl rfl (by kernel_rfl) (by first | rfl | exact wan_y rfl rfl (beq_tt ‹_›) | exact wan_y rfl rfl (beq_ff ‹_›) | exact wan_y rfl rfl (by simp [*])) (fun h0 hS => st_loadBW (row := [.bs 4 0 2 f.length cap]) rfl (by obtain ⟨_, _, _, _, e⟩ := hS; rw [e]; rfl) rfl ⟨rfl, rfl⟩) ⟨_, _, _, _, rfl⟩ ?_ | refine aa_t (i := 1) rfl rfl (by kernel_rfl) (by first | rfl | exact wan_y rfl rfl (beq_tt ‹_›) | exact wan_y rfl rfl (beq_ff ‹_›) | exact wan_y rfl rfl (by simp [*])) (fun h0 hS => st_loadBW (row := filA dir) rfl (by obtain ⟨_, _, _, _, e⟩ := hS; rw [e]; rfl) rfl ⟨rfl, rfl⟩) ⟨_, _, _, _, rfl⟩ ?_ | refine aa_t (i := 1) rfl rfl (by kernel_rfl) (by first | rfl | exact wan_y rfl rfl (beq_tt ‹_›) | exact wan_y rfl rfl (beq_ff ‹_›) | exact wan_y rfl rfl (by simp [*])) (fun h0 hS => st_loadBW (row := filA (lookL f dir name).1) rfl (by obtain ⟨_, _, _, _, e⟩ := hS; rw [e]; rfl) rfl ⟨rfl, rfl⟩) ⟨_, _, _, _, rfl⟩ ?_ | refine aa_t (i := 1) rfl rfl (by kernel_rfl) (by first | rfl | exact wan_y rfl rfl (beq_tt ‹_›) | exact wan_y rfl rfl (beq_ff ‹_›) | exact wan_y rfl rfl (by simp [*])) (fun h0 hS => st_loadBW rfl rfl rfl ⟨rfl, rfl⟩) ⟨_, _, _, _, rfl⟩ ?_
              refine aa_t (i := 2) rfl rfl (by kernel_rfl) (by first | rfl | exact wan_y rfl rfl (beq_tt ‹_›) | exact wan_y rfl rfl (beq_ff ‹_›) | exact wan_y rfl rfl (by simp [*])) (fun h0 hS => st_move rfl ⟨rfl, rfl⟩) ⟨_, _, _, _, rfl⟩ ?_
              first | refine aa_t (i := 3) rfl rfl (by kernel_rfl) (by first | rfl | exact wan_y rfl rfl (beq_tt ‹_›) | exact wan_y rfl rfl (beq_ff ‹_›) | exact wan_y rfl rfl (by simp [*])) (fun h0 hS => st_loadBW (row := [.bs 4 0 2 f.length cap]) rfl (by obtain ⟨_, _, _, _, e⟩ := hS; rw [e]; rfl) rfl ⟨rfl, rfl⟩) ⟨_, _, _, _, rfl⟩ ?_ | refine aa_t (i := 3) rfl rfl (by kernel_rfl) (by first | rfl | exact wan_y rfl rfl (beq_tt ‹_›) | exact wan_y rfl rfl (beq_ff ‹_›) | exact wan_y rfl rfl (by simp [*])) (fun h0 hS => st_loadBW (row := filA dir) rfl (by obtain ⟨_, _, _, _, e⟩ := hS; rw [e]; rfl) rfl ⟨rfl, rfl⟩) ⟨_, _, _, _, rfl⟩ ?_ | refine aa_t (i := 3) rfl rfl (by kernel_rfl) (by first | rfl | exact wan_y rfl rfl (beq_tt ‹_›) | exact wan_y rfl rfl (beq_ff ‹_›) | exact wan_y rfl rfl (by simp [*])) (fun h0 hS => st_loadBW (row := filA (lookL f dir name).1) rfl (by obtain ⟨_, _, _, _, e⟩ := hS; rw [e]; rfl) rfl ⟨rfl, rfl⟩) ⟨_, _, _, _, rfl⟩ ?_ | refine aa_t (i := 3) rfl rfl (by kernel_rfl) (by first | rfl | exact wan_y rfl rfl (beq_tt ‹_›) | exact wan_y rfl rfl (beq_ff ‹_›) | exact wan_y rfl rfl (by simp [*])) (fun h0 hS => st_loadBW rfl rfl rfl ⟨rfl, rfl⟩) ⟨_, _, _, _, rfl⟩ ?_
              refine aa_t (i := 4) rfl rfl (by kernel_rfl) (by first | rfl | exact wan_y rfl rfl (beq_tt ‹_›) | exact wan_y rfl rfl (beq_ff ‹_›) | exact wan_y rfl rfl (by simp [*])) (fun h0 hS => st_le (y := .agg (filA (0, 0))) (st_build (by repeat (first | exact FillA.nil _ | (apply FillA.cons; (focus exact rfl); (focus exact rfl); (focus exact rfl); (focus exact rfl); (focus exact rfl); (focus (repeat constructor))))) ⟨rfl, rfl⟩) (by repeat (first | exact LeA.refl _ | exact LeA.nil _ | exact LeL.refl _ | refine LeA.agg ⟨rfl, rfl⟩ | refine LeA.tup ⟨rfl, rfl⟩ | exact LeL.nil | refine LeL.cons ⟨rfl, rfl⟩ ⟨rfl, rfl⟩ | exact LeA.any _)) ⟨rfl, rfl⟩) ⟨_, _, _, _, rfl⟩ ?_
              refine aa_c (i := 5) rfl rfl (by kernel_rfl) (by first | rfl | exact wan_y rfl rfl (beq_tt ‹_›) | exact wan_y rfl rfl (beq_ff ‹_›) | exact wan_y rfl rfl (by simp [*])) (q_call (Rone dir name (lookL f dir name).1 (0, 0)) ?_)
              rintro r rfl
              refine ⟨.inr ⟨_, _, _, _, rfl⟩, ?_⟩
              refine aa_c0 (i := 6) rfl (by kernel_rfl) (by first | rfl | exact wan_y rfl rfl (beq_tt ‹_›) | exact wan_y rfl rfl (beq_ff ‹_›) | exact wan_y rfl rfl (by simp [*])) (s_store rfl rfl rfl rfl rfl rfl (by repeat constructor) (by repeat constructor) ?_)
              refine ⟨.inr ⟨_, _, _, _, rfl⟩, ?_⟩
              refine aa_t (i := 7) rfl rfl (by kernel_rfl) (by first | rfl | exact wan_y rfl rfl (beq_tt ‹_›) | exact wan_y rfl rfl (beq_ff ‹_›) | exact wan_y rfl rfl (by simp [*])) (fun h0 hS => st_assign rfl ⟨rfl, rfl⟩) ⟨_, _, _, _, rfl⟩ ?_
              refine aa_t (i := 8) rfl rfl (by kernel_rfl) (by first | rfl | exact wan_y rfl rfl (beq_tt ‹_›) | exact wan_y rfl rfl (beq_ff ‹_›) | exact wan_y rfl rfl (by simp [*])) (fun h0 hS => st_assign rfl ⟨rfl, rfl⟩) ⟨_, _, _, _, rfl⟩ ?_
              refine aa_done (by kernel_rfl) ?_ _
              refine x_then ?_
              refine ⟨_, rfl, ?_⟩
              rw [show dropI (entS d.nodes i n0 name 0) (lookL f dir name).1.2 = _ from hns]
              first | exact weak_fz 3 2 rfl (congrArg (fun x => [flsA f, filA dir, x]) (liv_upd (k := 0) (i := 4) (j := 9) (d := { d with nodes := keepNot (lookL f dir name).1.2 (entS d.nodes i n0 name 0) }) (d' := { d with nodes := keepNot (lookL f dir name).1.2 (entS d.nodes i n0 name 0) }) hql rfl rfl hcap hcap2 (Nat.le_of_ble_eq_true rfl) (Nat.le_of_ble_eq_true rfl) rfl rfl)) (.cons _ _ _ _ rfl (LeA.refl _) (.cons _ _ _ _ rfl (LeA.refl _) (.cons _ _ _ _ rfl (LeA.refl _) .nil))) | exact weak_fz 3 2 rfl (congrArg (fun x => [flsA f, filA dir, x]) (liv_upd (k := 0) (i := 4) (j := 5) (d := d) (d' := { d with nodes := entS d.nodes i n0 name 0 }) hql rfl hxl hcap hx1 (Nat.le_of_ble_eq_true rfl) (Nat.le_of_ble_eq_true rfl) rfl rfl)) (.cons _ _ _ _ rfl (LeA.refl _) (.cons _ _ _ _ rfl (LeA.refl _) (.cons _ _ _ _ rfl (LeA.refl _) .nil)))
            · rintro t rfl
              refine aw_ret ?_
              refine e_ret ?_
              rw [rmdirL, if_neg (by omega), if_neg (by omega), if_neg (by simp [hc3]), if_neg (by simp [hc4]), hdq, Int.toNat_natCast, onD_set hq, ← hino, ← entS_D (hv.vd d (List.mem_of_getElem? hq)) hn0]
              rfl

end
end Go.Proofs.Ytgliiknfmlmddaa
namespace Go.Proofs.Ytgliiknfmlmddaa
open Go.RowKit

section
variable {P : Program} {N : Dim} {ops : Array Oper} {Q : Exit → AS → Prop} {S : AH → Prop} {tl : Nat}
def Clo (ops : Array Oper) (listed : Array Bool) : Prop := ∀ (k : Nat) (o : Oper), ops[k]? = some o → listed.getD k false = true → ∀ e ∈ o.after, Region.binds .any e = true → listed.getD e.on false = true
def cloB (ops : Array Oper) (listed : Array Bool) : Bool :=
  (List.range ops.size).all fun k => !listed.getD k false || match ops[k]? with
    | none => true
    | some o => o.after.all fun e => !Region.binds .any e || listed.getD e.on false
theorem cloB_spec {listed : Array Bool} (h : cloB ops listed = true) : Clo ops listed := by
  intro k o hk hl e he hb
  have h1 := List.all_eq_true.1 h k (List.mem_range.2 (Array.getElem?_eq_some_iff.1 hk).1)
  simp only [hl, Bool.not_true, Bool.false_or, hk] at h1
  have h2 := Array.all_eq_true'.1 h1 e he
  simpa [hb] using h2
theorem Clo.step {listed : Array Bool} (h : Clo ops listed) {j : Nat} {oj : Oper} (hj : ops[j]? = some oj) (hall : ∀ e ∈ oj.after, Region.binds .any e = true → listed.getD e.on false = true) : Clo ops (listed.setIfInBounds j true) := by
  intro k o hk hl e he hb
  refine getD_set_true ?_
  by_cases hjk : j = k
  · subst hjk
    rw [hj] at hk
    injection hk with hk
    subst hk
    exact hall e he hb
  · rw [getD_set_ne false hjk] at hl
    exact h k o hk hl e he hb
def tail2 (ops : Array Oper) (tl : Nat) : Bool :=
  match ops[tl]? with
  | none => true
  | some o => (List.range ops.size).all fun j => j == tl || (o.after.any fun e => Region.binds .any e && e.on == j) || (o.after.any fun e => Region.binds .any e && match ops[e.on]? with
    | none => false
    | some o2 => o2.after.any fun e2 => Region.binds .any e2 && e2.on == j)
theorem AAny.first2 {i : Nat} {oi : Oper} {x : AV} (hi : ops[i]? = some oi) (hd : dstIn oi.dst N = true) (htl : tail2 ops tl = true) (hit : i ≠ tl) :
    ∀ (fuel : Nat) (listed : Array Bool) (s : AS), Clo ops listed →
      (∀ j oj, ops[j]? = some oj → j ≠ i → listed.getD j true = false → (∀ e ∈ oj.after, Region.binds .any e = true → e.on ≠ i) → oi.apart ops oj = true) →
      i ∈ Region.ready .any ops listed → Steady P ops S oi x s.sl → S s.h →
      AAny P N ops Q S tl fuel (listed.setIfInBounds i true) ⟨put oi.dst x s.sl, s.h⟩ → AAny P N ops Q S tl (fuel + 1) listed s := by
  intro fuel
  induction fuel with
  | zero =>
    intro listed s _ _ hr hy hS H
    refine ⟨fun h => (by rw [h] at hr; cases hr), fun j hj => ?_⟩
    by_cases hji : j = i
    · subst hji; exact hy.op hi hd hS ⟨.inr hS, H⟩
    · have := ready_mono hj hji
      rw [H.1] at this
      cases this
  | succ fuel ih =>
    intro listed s hcl hfree hr hy hS H
    refine ⟨fun h => (by rw [h] at hr; cases hr), fun j hj => ?_⟩
    by_cases hji : j = i
    · subst hji; exact hy.op hi hd hS ⟨.inr hS, H⟩
    · have h1 := H.2 j (ready_mono hj hji)
      obtain ⟨hjun, oj, hoj, hall⟩ := mem_ready.1 hj
      have hun : ∀ k, k = i → listed.getD k false = true → False := fun k hk h1 => by
        have h0 := (mem_ready.1 hr).1
        rw [hk] at h1
        rcases Nat.lt_or_ge i listed.size with h' | h'
        · simp [h'] at h0 h1; rw [h0] at h1; cases h1
        · simp [Array.getElem?_eq_none h'] at h1
      have hnot : ∀ e ∈ oj.after, Region.binds .any e = true → e.on ≠ i := fun e he hb heq => hun _ heq (hall e he hb)
      obtain ⟨a1, a2, a3⟩ := Oper.apart_spec (hfree j oj hoj hji hjun hnot)
      have hfree' : ∀ k ok, ops[k]? = some ok → k ≠ i → (listed.setIfInBounds j true).getD k true = false →
          (∀ e ∈ ok.after, Region.binds .any e = true → e.on ≠ i) → oi.apart ops ok = true := fun k ok hk hki hun hno => by
        refine hfree k ok hk hki ?_ hno
        by_cases hjk : j = k
        · subst hjk; exact hjun
        · rw [getD_set_ne true hjk] at hun; exact hun
      have hjt : j ≠ tl := by
        intro e
        subst e
        unfold tail2 at htl
        simp only [hoj] at htl
        have h1 := List.all_eq_true.1 htl i (List.mem_range.2 (Array.getElem?_eq_some_iff.1 hi).1)
        simp only [Bool.or_eq_true, beq_iff_eq, Ne.symm hji, false_or] at h1
        rcases h1 with h1 | h1
        · obtain ⟨e, he, hb⟩ := Array.any_eq_true'.1 h1
          simp only [Bool.and_eq_true, beq_iff_eq] at hb
          exact hnot e he hb.1 hb.2
        · obtain ⟨e, he, hb⟩ := Array.any_eq_true'.1 h1
          simp only [Bool.and_eq_true] at hb
          obtain ⟨hb1, hb2⟩ := hb
          cases ho2 : ops[e.on]? with
          | none => rw [ho2] at hb2; cases hb2
          | some o2 =>
            rw [ho2] at hb2
            obtain ⟨e2, he2, hb3⟩ := Array.any_eq_true'.1 hb2
            simp only [Bool.and_eq_true, beq_iff_eq] at hb3
            exact hun _ hb3.2 (hcl _ o2 ho2 (hall e he hb1) e2 he2 hb3.1)
      have hgo : ∀ (y : AV) (h' : AH), S h' → AAny P N ops Q S tl fuel ((listed.setIfInBounds i true).setIfInBounds j true) ⟨put oj.dst y (put oi.dst x s.sl), h'⟩ →
          AAny P N ops Q S tl (fuel + 1) (listed.setIfInBounds j true) ⟨put oj.dst y s.sl, h'⟩ := fun y h' hS' hA => by
        refine ih (listed.setIfInBounds j true) ⟨put oj.dst y s.sl, h'⟩ (hcl.step hoj hall) hfree' (ready_mono hr (Ne.symm hji)) (hy.put y a3) hS' ?_
        rw [Array.setIfInBounds_comm _ _ hji, ← put_comm s.sl x y a2]
        exact hA
      unfold AOp at h1 ⊢
      simp only [hoj] at h1 ⊢
      obtain ⟨k1, t, k2, k3, k4⟩ := h1
      rw [wantedA_put s.sl x a1] at k2
      refine ⟨k1, t, k2, fun ht => ?_, fun ht => ?_⟩
      · refine ((k3 ht).congr fun z hz => (evs_put s.sl x fun u e he => a1 u e (mem_looks (he ▸ hz))).symm).mono ?_
        rintro y h' ⟨q1, q2⟩
        have q1' := q1.resolve_left hjt
        exact ⟨.inr q1', hgo y h' q1' q2⟩
      · obtain ⟨q1, q2⟩ := k4 ht
        have q1' := q1.resolve_left hjt
        exact ⟨.inr q1', hgo (.v undef) s.h q1' q2⟩
end
section
variable {P : Program} {N : Dim} {Q : Exit → AS → Prop} {l : List Oper} {S : AH → Prop} {tl : Nat} {fuel : Nat} {listed : Array Bool} {m : List (Nat × AV)} {h : AH} {op : Op} {ty : TypeId} {pos : String} {af : Array Edge} {gd : Option (Nat × Bool)}
theorem aa_t2 {i d : Nat} {x : AV} (hi : l[i]? = some ⟨some d, op, ty, pos, af, gd⟩) (hd : Nat.blt d N.n = true) (htl : (tail2 l.toArray tl && cloB l.toArray listed && !Nat.beq i tl && Region.free .any l.toArray listed i && (Region.ready .any l.toArray listed).contains i) = true)
    (hw : wantedA l.toArray (look m) ⟨some d, op, ty, pos, af, gd⟩ = some true) (hst : ∀ h, S h → AStep P ⟨some d, op, ty, pos, af, gd⟩ (evs (look m)) h (fun x' h' => x' = x ∧ h' = h)) (hS : S h)
    (H : AAny P N l.toArray Q S tl fuel (listed.setIfInBounds i true) ⟨look ((d, x) :: m), h⟩) : AAny P N l.toArray Q S tl (fuel + 1) listed ⟨look m, h⟩ := by
  simp only [Bool.and_eq_true, Bool.not_eq_true'] at htl
  obtain ⟨⟨⟨⟨t1, t0⟩, t2⟩, t3⟩, t4⟩ := htl
  exact AAny.first2 (oi := ⟨some d, op, ty, pos, af, gd⟩) (get_arr hi) hd t1 (fun e => by subst e; simp at t2) fuel listed ⟨look m, h⟩ (cloB_spec t0) (Region.free_spec (get_arr hi) t3) (List.contains_iff_mem.1 t4) (.inl ⟨hw, hst⟩) hS H
end
end Go.Proofs.Ytgliiknfmlmddaa
