/-
  Part 4 of the proof of MountsValidP: what the statement's proof uses of the texts in wip/tpl.
-/
import Derived.WalkKit
import Derived.Test.YtgliiknfmlmddaaMv3
namespace Go.Proofs.Ytgliiknfmlmddaa
open Go.RowKit

mutual
def renK (f : Nat → Option Nat) : AV → AV
  | .v x => .v x
  | .agg cs => .agg (renKL f cs)
  | .tup cs => .tup (renKL f cs)
  | .sl sz rows tok => .sl sz rows tok
  | .fp row => .fp row
  | .bp j o => match f j with
    | some k => .bp k o
    | none => .any
  | .bs j o sz n cap => match f j with
    | some k => .bs k o sz n cap
    | none => .any
  | .fn g caps => .fn g (renKL f caps)
  | .any => .any
def renKL (f : Nat → Option Nat) : List AV → List AV
  | [] => []
  | x :: xs => renK f x :: renKL f xs
end
section
variable {G : Gh} {w : World} {bs : List Nat} {f : Nat → Option Nat} (hf : ∀ (j k b : Nat), f j = some k → G.bx[j]? = some b → bs[k]? = some b)
include hf
mutual
theorem rep_renK : ∀ (x : AV) (v : Value), rep G w x v → rep ⟨G.St, bs, G.tk⟩ w (renK f x) v
  | .v _, _, h => by simpa only [rep, renK] using h
  | .agg cs, _, h => by
    simp only [rep, renK] at h ⊢
    obtain ⟨ys, h1, h2⟩ := h
    exact ⟨ys, h1, repL_renK cs ys h2⟩
  | .tup cs, _, h => by
    simp only [rep, renK] at h ⊢
    obtain ⟨ys, h1, h2⟩ := h
    exact ⟨ys, h1, repL_renK cs ys h2⟩
  | .sl sz rows none, _, h => by simpa only [rep, renK] using h
  | .sl sz rows (some g), _, h => by simpa only [rep, renK] using h
  | .fp _, _, h => by simpa only [rep, renK] using h
  | .bp j o, v, h => by
    simp only [rep] at h
    obtain ⟨b, h1, h2⟩ := h
    simp only [renK]
    split
    · rename_i k e
      simp only [rep]
      exact ⟨b, hf j k b e h1, h2⟩
    · simp only [rep]
  | .bs j o sz n cap, v, h => by
    simp only [rep] at h
    obtain ⟨b, h1, h2⟩ := h
    simp only [renK]
    split
    · rename_i k e
      simp only [rep]
      exact ⟨b, hf j k b e h1, h2⟩
    · simp only [rep]
  | .fn g caps, _, h => by
    simp only [rep, renK] at h ⊢
    obtain ⟨ys, h1, h2⟩ := h
    exact ⟨ys, h1, repL_renK caps ys h2⟩
  | .any, _, _ => by simp only [rep, renK]
theorem repL_renK : ∀ (xs : List AV) (vs : List Value), repL G w xs vs → repL ⟨G.St, bs, G.tk⟩ w (renKL f xs) vs
  | [], _, h => by have _ := hf; simpa only [repL, renKL] using h
  | x :: xs, _, h => by
    simp only [repL, renKL] at h ⊢
    obtain ⟨z, zs, h1, h2, h3⟩ := h
    exact ⟨z, zs, h1, rep_renK x z h2, repL_renK xs zs h3⟩
end
end
inductive HandK (bx : List (List AV)) (f : Nat → Option Nat) : List Nat → List (List AV) → Prop
  | nil : HandK bx f [] []
  | cons (i : Nat) (row row' : List AV) (is : List Nat) (rows : List (List AV)) : bx[i]? = some row → renKL f row = row' → HandK bx f is rows → HandK bx f (i :: is) (row' :: rows)
theorem HandK.get {bx : List (List AV)} {f : Nat → Option Nat} {is : List Nat} {rows : List (List AV)} (h : HandK bx f is rows) : is.length = rows.length ∧ ∀ (k i : Nat), is[k]? = some i → ∃ row, bx[i]? = some row ∧ rows[k]? = some (renKL f row) := by
  induction h with
  | nil => exact ⟨rfl, fun k i hk => by simp at hk⟩
  | cons i row row' is rows h1 h2 _ ih =>
    refine ⟨by simp [ih.1], fun k j hk => ?_⟩
    subst h2
    cases k with
    | zero => simp at hk; subst hk; exact ⟨row, h1, rfl⟩
    | succ k => simpa using ih.2 k j (by simpa using hk)
inductive SubK (g : Nat → Option Nat) (f : Nat → Option AV) : List (Nat × AV) → Prop
  | nil : SubK g f []
  | cons (t : Nat) (x y : AV) (l : List (Nat × AV)) : f t = some x → LeA (renK g x) y → SubK g f l → SubK g f ((t, y) :: l)
theorem weak_ren {f : Nat → Option AV} {bx rows : List (List AV)} {tk : List Tok} {l : List (Nat × AV)} {N : Dim} (is : List Nat) (hn : ∀ i, i < N.ni → is[i]? = some i) (hnd : is.Nodup) (hh : HandK bx (fun j => plcOf' j is 0) is rows) (hl : SubK (fun j => plcOf' j is 0) f l) : Weak N ⟨f, ⟨bx, tk⟩⟩ ⟨look l, ⟨rows, tk⟩⟩ := by
  rintro E a w ⟨G, hr, h2, h3, h4, h5⟩
  obtain ⟨bs, hbs⟩ : ∃ bs : List Nat, bs.length = is.length ∧ ∀ (k i : Nat), is[k]? = some i → ∃ b, G.bx[i]? = some b ∧ bs[k]? = some b := by
    refine ⟨is.map fun i => (G.bx[i]?).getD 0, by simp, fun k i hk => ?_⟩
    obtain ⟨row, h1, _⟩ := hh.get.2 k i hk
    have hlt : i < G.bx.length := by rw [hr.bxlen]; exact (List.getElem?_eq_some_iff.1 h1).1
    exact ⟨G.bx[i], List.getElem?_eq_getElem hlt, by rw [List.getElem?_map, hk]; simp [hlt]⟩
  have hmap : ∀ (j k b : Nat), plcOf' j is 0 = some k → G.bx[j]? = some b → bs[k]? = some b := fun j k b hk hb => by
    obtain ⟨_, h1⟩ := plc_some hk
    rw [Nat.sub_zero] at h1
    obtain ⟨b', h2, h3⟩ := hbs.2 k j h1
    rw [hb] at h2
    injection h2 with h2
    subst h2
    exact h3
  have hmem : ∀ b ∈ bs, b ∈ G.bx := fun b hb => by
    obtain ⟨k, hk⟩ := List.getElem?_of_mem hb
    have hlt : k < is.length := by rw [← hbs.1]; exact (List.getElem?_eq_some_iff.1 hk).1
    obtain ⟨b', h2, h3⟩ := hbs.2 k is[k] (List.getElem?_eq_getElem hlt)
    rw [hk] at h3
    injection h3 with h3
    subst h3
    exact List.mem_of_getElem? h2
  refine ⟨⟨G.St, bs, G.tk⟩, ⟨?_, hr.kept, hr.stlt, hr.stnew, by rw [hbs.1]; exact hh.get.1, ?_, fun b hb => hr.bxst b (hmem b hb), fun b hb => hr.bxown b (hmem b hb), ?_, hr.tklen, hr.tok, fun g n u hg b hb hm => hr.tkbx g n u hg b hb (hmem b hm), hr.tknd⟩, ?_, h3, h4, h5⟩
  · intro i b hi
    have hlt : i < N.ni := by rw [← h5]; exact (List.getElem?_eq_some_iff.1 hi).1
    obtain ⟨b', q1, q2⟩ := hbs.2 i i (hn i hlt)
    have := hr.inpre i b hi
    rw [this] at q1
    injection q1 with q1
    subst q1
    exact q2
  · refine List.pairwise_iff_getElem.2 ?_
    intro a c ha hc hac e
    have ha' : a < is.length := by rw [← hbs.1]; exact ha
    have hc' : c < is.length := by rw [← hbs.1]; exact hc
    obtain ⟨b1, p1, p2⟩ := hbs.2 a is[a] (List.getElem?_eq_getElem ha')
    obtain ⟨b2, q1, q2⟩ := hbs.2 c is[c] (List.getElem?_eq_getElem hc')
    rw [List.getElem?_eq_getElem ha] at p2
    rw [List.getElem?_eq_getElem hc] at q2
    injection p2 with p2
    injection q2 with q2
    have e' : b1 = b2 := by rw [← p2, ← q2]; exact e
    obtain ⟨l1, e1⟩ := List.getElem?_eq_some_iff.1 p1
    obtain ⟨l2, e2⟩ := List.getElem?_eq_some_iff.1 q1
    have h3 : is[a] = is[c] := (List.getElem_inj hr.bxnd).1 (e1.trans (e'.trans e2.symm))
    have h4 := (List.getElem_inj hnd).1 h3
    omega
  · intro k b row hk hrow
    have hlt : k < is.length := by rw [← hbs.1]; exact (List.getElem?_eq_some_iff.1 hk).1
    obtain ⟨b', h2, h3⟩ := hbs.2 k is[k] (List.getElem?_eq_getElem hlt)
    obtain ⟨row', h4, h5⟩ := hh.get.2 k is[k] (List.getElem?_eq_getElem hlt)
    simp only at hk hrow
    rw [hk] at h3
    injection h3 with h3
    subst h3
    rw [hrow] at h5
    injection h5 with h5
    subst h5
    obtain ⟨us, T, q1, q2, q3⟩ := hr.box is[k] b row' h2 h4
    exact ⟨us, T, q1, repL_renK hmap _ _ q2, q3⟩
  · intro t x hx
    have key : ∀ {l : List (Nat × AV)}, SubK (fun j => plcOf' j is 0) f l → look l t = some x → rep ⟨G.St, bs, G.tk⟩ w x (a.tmps.getD t undef) := by
      intro l hl
      induction hl with
      | nil => intro h; cases h
      | cons t' x' y l e1 e2 _ ih =>
        intro h
        rw [← put_look, put_some] at h
        split at h
        · rename_i e
          subst e
          injection h with h
          subst h
          exact e2 _ _ _ (rep_renK hmap _ _ (h2 t' x' e1))
        · exact ih h
    exact key hl hx
section
variable {P : Program} {ev : Operand → Option AV} {h : AH} {R : AV → AH → Prop} {d : Option Tmp} {ty : TypeId} {pos : String} {af : Array Edge} {gd : Option (Nat × Bool)}
theorem st_append0B {T : TypeId} {s y : Operand} {T' sz bytes m : Nat} {cs : List AV} {av : AV} {zrow : List AV} [hE : Elm P T T' sz bytes] [hzr : Zer P T' zrow] (hs : ev s = some (.v (.slice none 0 0))) (hy : ev y = some av) (hsrc : SrcA h sz av m cs) (hm : 0 < m) (hsm : m ≤ 1000000)
    (grow : ∀ cap' k bx', m ≤ cap' → SnocAt h.bx (cs ++ List.replicate ((cap' - m) * sz) .any) k bx' → R (.bs k 0 sz m cap') ⟨bx', h.tk⟩) : AStep P ⟨d, .call { callee := .builtin .append, args := #[s, y], argTypes := #[T, T] }, ty, pos, af, gd⟩ ev h R := by
  intro E G w ec hr he
  have k1 := he s (by simp [Op.operands, Call.operands]) _ hs
  have k2 := he y (by simp [Op.operands, Call.operands]) _ hy
  obtain ⟨hu, inf, z, hinf, hz, hzs, hsz, hbts, hp⟩ := elm_spec hE.eq
  obtain ⟨ad, c, us, e1, e2, e3, e4, e5⟩ := hsrc.run hr k2 hp hm
  simp only [rep] at k1
  have hby := hE.few
  have hbb : m * bytes ≤ 1000000 * 100000 := Nat.mul_le_mul hsm hby
  have h63 : m ≤ maxLen := by unfold maxLen; omega
  have hrun := run_append_nil (P := P) w T ty T' inf z hu hinf hz ad m c us (by rw [hsz]; exact e2) e5 hm (by omega) (by rw [hbts]; omega)
  have hge := grownCap_ge w m 0 T'
  have hcm : grownCap w m 0 T' ≤ maxLen := grownCap_le_maxLen w m 0 T' h63
  generalize hgc : grownCap w m 0 T' = cap' at hrun hge hcm
  obtain ⟨d1, d2⟩ := hr.drew
  obtain ⟨zs, hzc⟩ : ∃ zs : List Value, Builtin.zeroCells z.cells (cap' - m) = zs.toArray := ⟨(Builtin.zeroCells z.cells (cap' - m)).toList, by simp⟩
  have hzl : zs.length = (cap' - m) * sz := by
    have := size_zeroCells z.cells (cap' - m)
    rw [hzc, hzs] at this
    simpa using this
  have hone : ∀ u ∈ zs, u.oneCell' = true := by
    intro u hu
    have : u ∈ Builtin.zeroCells z.cells (cap' - m) := by rw [hzc]; simpa using hu
    exact zero_one hzr hinf hz this
  have hrep : repL G w.drew (cs ++ List.replicate ((cap' - m) * sz) .any) (us ++ zs) := by
    refine repL_app (repL_mono d2 _ _ e3) ?_
    rw [← hzl]
    exact repL_anys zs
  obtain ⟨k, bx', hsn⟩ : ∃ k bx', SnocAt h.bx (cs ++ List.replicate ((cap' - m) * sz) .any) k bx' := ⟨_, _, snoc_ex _ _⟩
  obtain ⟨G', s1, s2, s3⟩ := new_box (T := T') d1 hrep (by
    intro u hu
    rcases List.mem_append.1 hu with hu | hu
    · exact e4 u hu
    · exact hone u hu) hsn
  rw [hzc] at hrun
  have hcells : us.toArray ++ zs.toArray = (us ++ zs).toArray := by simp
  rw [hcells] at hrun
  simp only [rep] at s3
  obtain ⟨b', s4, s5⟩ := s3
  simp only [execOp, resolve, invoke, builtin, Sem.run_bind, Sem.run_pure, Result.andThen_ok, List.map_toArray, List.map_cons, List.map_nil, k1, e1, hrun]
  refine ⟨_, _, G', grow cap' k bx' hge hsn, s1, d2.trans s2, ?_⟩
  simp only [rep]
  injection s5 with s5
  injection s5 with s5
  injection s5 with s5
  subst s5
  exact ⟨_, s4, rfl, hge, hcm⟩
end
end Go.Proofs.Ytgliiknfmlmddaa
namespace Go.Proofs.Ytgliiknfmlmddaa
open Go.RowKit

section
variable {P : Program} {ev : Operand → Option AV} {h : AH} {R : AV → AH → Prop} {d : Option Tmp} {ty : TypeId} {pos : String} {af : Array Edge} {gd : Option (Nat × Bool)}
theorem run_slit1 {T E sz bytes : Nat} (hE : elmOf P T = some (E, sz, bytes)) (hsz : sz ≤ 100) {v : Value} {us : List Value} (hv : v.cells = us.toArray) (hl : us.length = sz) (w : World) :
    (Instr.buildSlice T 1 #[(0, v)]).run P w = .ok (.slice (some ⟨w.heap.size, 0, none⟩) 1 1) (w.alloc (.cells us.toArray E)) := by
  obtain ⟨hu, inf, z, hinf, hz, hzs, hs, hby, hp⟩ := elm_spec hE
  refine run_buildSlice w T E 1 _ us.toArray inf z hu hinf hz (by rw [hs]; omega) (by rw [hs]; omega) ?_
  obtain ⟨r, h1, h2, h3⟩ := Great.fill_dense hp [v] 0 ((Array.range (1 * inf.size)).map (z.cells[· % z.cells.size]!)) (fun x hx => by rw [List.mem_singleton.1 hx, hv]; simpa using hl) (by simp [hs])
  have e : r = us.toArray := by
    apply Array.ext_getElem?
    intro k
    rcases Nat.lt_or_ge k sz with hk | hk
    · rw [h3, if_pos ⟨by omega, by simp; omega⟩, Nat.div_eq_of_lt hk, Nat.mod_eq_of_lt hk]
      simp [hv]
    · rw [Array.getElem?_eq_none (by rw [h2]; simp [hs]; omega), Array.getElem?_eq_none (by simp; omega)]
  rw [hs] at h1 ⊢
  rw [e] at h1
  simpa using h1
theorem st_slit1B {T : TypeId} {x : Operand} {E sz bytes k : Nat} {av : AV} {bx' : List (List AV)} [hE : Elm P T E sz bytes] (hx : ev x = some av) (h1 : onesA (cellsA av) = true) (hl : Nat.beq (cellsA av).length sz = true) (hsz : Nat.ble sz 100 = true) (hs : SnocAt h.bx (cellsA av) k bx') (hR : R (.bs k 0 sz 1 1) ⟨bx', h.tk⟩) :
    AStep P ⟨d, .buildSlice T 1 #[(0, x)], ty, pos, af, gd⟩ ev h R := by
  intro E' G w ec hr he
  obtain ⟨vs, k8, k9⟩ := rep_cells (he x (by simp [Op.operands]) _ hx) h1
  have hvl := repL_length k9
  have hl' := Nat.eq_of_beq_eq_true hl
  have hrun := run_slit1 (P := P) hE.eq (Nat.le_of_ble_eq_true hsz) k8 (by omega) w
  obtain ⟨G', q1, q2, q3⟩ := new_box (T := E) hr k9 (repL_ones k9 h1) hs
  simp only [rep] at q3
  obtain ⟨b, q4, q5⟩ := q3
  injection q5 with q5
  injection q5 with q5
  injection q5 with q5
  subst q5
  have hrun' : (Instr.buildSlice T 1 (#[(0, x)].map fun p => (p.1, ec p.2))).run P w = .ok (.slice (some ⟨w.heap.size, 0, none⟩) 1 1) (w.alloc (.cells vs.toArray E)) := by simpa using hrun
  simp only [execOp, Sem.run_bind, hrun', Result.andThen_ok, Sem.run_pure]
  exact ⟨_, _, G', hR, q1, q2, by simp only [rep]; exact ⟨_, q4, rfl, Nat.le_refl _, by unfold maxLen; omega⟩⟩
end
end Go.Proofs.Ytgliiknfmlmddaa
namespace Go.Proofs.Ytgliiknfmlmddaa
open Go.RowKit

section
variable {P : Program} {N : Dim} {Q : Exit → AS → Prop} {S : AH → Prop} {tl fuel : Nat} {l : List Oper} {listed : Array Bool} {m : List (Nat × AV)} {h : AH}
theorem aa_two {i j di dj : Nat} {op op' : Op} {ty ty' : TypeId} {pos pos' : String} {af af' : Array Edge} {gd gd' : Option (Nat × Bool)} (hr : Region.ready .any l.toArray listed = [i, j])
    (hi : l[i]? = some ⟨some di, op, ty, pos, af, gd⟩) (hdi : Nat.blt di N.n = true) (hwi : wantedA l.toArray (look m) ⟨some di, op, ty, pos, af, gd⟩ = some true)
    (hj : l[j]? = some ⟨some dj, op', ty', pos', af', gd'⟩) (hdj : Nat.blt dj N.n = true) (hwj : wantedA l.toArray (look m) ⟨some dj, op', ty', pos', af', gd'⟩ = some true)
    (H1 : AStep P ⟨some di, op, ty, pos, af, gd⟩ (evs (look m)) h (fun x h' => (i = tl ∨ S h') ∧ AAny P N l.toArray Q S tl fuel (listed.setIfInBounds i true) ⟨look ((di, x) :: m), h'⟩))
    (H2 : AStep P ⟨some dj, op', ty', pos', af', gd'⟩ (evs (look m)) h (fun x h' => (j = tl ∨ S h') ∧ AAny P N l.toArray Q S tl fuel (listed.setIfInBounds j true) ⟨look ((dj, x) :: m), h'⟩)) : AAny P N l.toArray Q S tl (fuel + 1) listed ⟨look m, h⟩ := by
  refine ⟨(fun h0 => by rw [hr] at h0; cases h0), fun k hk => ?_⟩
  rw [hr] at hk
  have hk' : k = i ∨ k = j := by simpa using hk
  rcases hk' with rfl | rfl
  · unfold AOp
    simp only [get_arr hi]
    exact ⟨hdi, true, hwi, fun _ => H1, fun h => by cases h⟩
  · unfold AOp
    simp only [get_arr hj]
    exact ⟨hdj, true, hwj, fun _ => H2, fun h => by cases h⟩
end
end Go.Proofs.Ytgliiknfmlmddaa
namespace Go.Proofs.Ytgliiknfmlmddaa
open Go.RowKit

section
variable {P : Program} {N : Dim} {Q : Exit → AS → Prop} {s : AS}
def AC (P : Program) (N : Dim) (y : Code) (Q : Exit → AS → Prop) (s : AS) : Prop := AWp P N y Q s
theorem q_ {x y : Code} (h : AWp P N x (AThen (AC P N y Q) Q) s) : AWp P N (.seq x y) Q s := by
  intro E a w hr
  refine wp_seq (wp_mono (h E a w hr) ?_)
  rintro e a' w' ⟨s', hq, hr'⟩
  cases e with
  | normal => exact hq E a' w' hr'
  | exit id => exact ⟨s', hq, hr'⟩
  | goto l => exact ⟨s', hq, hr'⟩
  | ret => exact ⟨s', hq, hr'⟩
  | panic c => exact ⟨s', hq, hr'⟩
  | outgrown => exact ⟨s', hq, hr'⟩
theorem w_ {id : Nat} {l : List Oper} {y : Code} (h : AL P N l.toArray (AThen (AC P N y Q) Q) l s) : AWp P N (.seq (.region id l.toArray false) y) Q s := q_ (aw_region h)
theorem t_ {y : Code} (h : AWp P N y Q s) : AThen (AC P N y Q) Q .normal s := h
theorem e_ {ops : Array Oper} {y : Code} (h : AWp P N y Q s) : AL P N ops (AThen (AC P N y Q) Q) [] s := al_nil h
theorem kt_ {y : Code} (h : AWp P N y Q s) : AWp P N .skip (AThen (AC P N y Q) Q) s := aw_skip h
theorem cy_ {c : Operand} {x y : Code} {t : Bool} (hc : evs s.sl c = some (.v (.bool t)) := by rfl) (ht : t = true := by first | rfl | assumption | simp [*]) (h : AWp P N x Q s) : AWp P N (.cond c x y) Q s := aw_cy hc ht h
theorem cn_ {c : Operand} {x y : Code} {t : Bool} (hc : evs s.sl c = some (.v (.bool t)) := by rfl) (ht : t = false := by first | rfl | assumption | simp [*]) (h : AWp P N y Q s) : AWp P N (.cond c x y) Q s := aw_cn hc ht h
end
section
variable {P : Program} {N : Dim} {Q : Exit → AS → Prop} {ops : Array Oper} {rest : List Oper} {l : List (Nat × AV)} {hh : AH} {op : Op} {ty : TypeId} {pos : String} {af : Array Edge}
theorem g0_ {d j : Nat} {want t : Bool} (hd : Nat.blt d N.n = true := by rfl) (hy : yv ops (look l) j = some (some t) := by rfl) (ht : (t == want) = false := by first | rfl | exact beq_tf ‹_› | exact beq_ft ‹_› | simp [*]) (h : AL P N ops Q rest ⟨look ((d, .v undef) :: l), hh⟩) : AL P N ops Q (⟨some d, op, ty, pos, af, some (j, want)⟩ :: rest) ⟨look l, hh⟩ := al_gn hd hy ht h
theorem gu_ {d j : Nat} {want : Bool} (hd : Nat.blt d N.n = true := by rfl) (hy : yv ops (look l) j = some none := by rfl) (h : AL P N ops Q rest ⟨look ((d, .v undef) :: l), hh⟩) : AL P N ops Q (⟨some d, op, ty, pos, af, some (j, want)⟩ :: rest) ⟨look l, hh⟩ := al_gu hd hy h
end
def KB : List (Nat × List AV) → AH → Prop
  | [], _ => True
  | (i, r) :: l, h => h.bx[i]? = some r ∧ KB l h
def lookB : List (Nat × List AV) → Nat → Option (List AV)
  | [], _ => none
  | (i, r) :: l, j => match Nat.beq i j with
    | true => some r
    | false => lookB l j
theorem kb : ∀ {l : List (Nat × List AV)} {h : AH} {i : Nat} {row : List AV}, KB l h → lookB l i = some row → h.bx[i]? = some row
  | [], _, _, _, _, e => by cases e
  | (j, r) :: l, h, i, row, k, e => by
    unfold lookB at e
    split at e
    · rename_i hb
      have := Nat.eq_of_beq_eq_true hb
      subst this
      injection e with e
      subst e
      exact k.1
    · exact kb k.2 e
theorem kb_n (h : AH) : KB [] h := trivial
theorem kb_c {l : List (Nat × List AV)} {h : AH} {i : Nat} {r : List AV} (h1 : h.bx[i]? = some r) (h2 : KB l h) : KB ((i, r) :: l) h := ⟨h1, h2⟩
def Do (_i : Nat) (B A : Prop) : Prop := B → A
section
variable {P : Program} {N : Dim} {l : List Oper} {Q : Exit → AS → Prop} {S : AH → Prop} {tl fuel : Nat} {listed : Array Bool} {m : List (Nat × AV)} {hh : AH} {op : Op} {ty : TypeId} {pos : String} {af : Array Edge} {gd : Option (Nat × Bool)}
theorem do_r {i d : Nat} {x : AV} (hi : l[i]? = some ⟨some d, op, ty, pos, af, gd⟩) (hst : AStep P ⟨some d, op, ty, pos, af, gd⟩ (evs (look m)) hh (fun x' h' => x' = x ∧ h' = hh)) (hd : Nat.blt d N.n = true := by rfl) (htl : (tailOk l.toArray tl && !Nat.beq i tl && Region.free .any l.toArray listed i && (Region.ready .any l.toArray listed).contains i) = true := by kernel_rfl)
    (hw : wantedA l.toArray (look m) ⟨some d, op, ty, pos, af, gd⟩ = some true := by first | rfl | exact wan_y rfl rfl (beq_tt ‹_›) | exact wan_y rfl rfl (beq_ff ‹_›) | exact wan_y rfl rfl (by simp [*])) :
    Do i (AAny P N l.toArray Q (fun h' => h' = hh) tl fuel (listed.setIfInBounds i true) ⟨look ((d, x) :: m), hh⟩) (AAny P N l.toArray Q (fun h' => h' = hh) tl (fuel + 1) listed ⟨look m, hh⟩) := fun H => aa_r hi hd htl hw hst H
theorem do_k {K : List (Nat × List AV)} {i d : Nat} {x : AV} (hi : l[i]? = some ⟨some d, op, ty, pos, af, gd⟩) (hst : ∀ h, KB K h → AStep P ⟨some d, op, ty, pos, af, gd⟩ (evs (look m)) h (fun x' h' => x' = x ∧ h' = h)) (hd : Nat.blt d N.n = true := by rfl) (htl : (tailOk l.toArray tl && !Nat.beq i tl && Region.free .any l.toArray listed i && (Region.ready .any l.toArray listed).contains i) = true := by kernel_rfl)
    (hw : wantedA l.toArray (look m) ⟨some d, op, ty, pos, af, gd⟩ = some true := by first | rfl | exact wan_y rfl rfl (beq_tt ‹_›) | exact wan_y rfl rfl (beq_ff ‹_›) | exact wan_y rfl rfl (by simp [*])) (hS : KB K hh := by repeat (first | exact kb_n _ | refine kb_c rfl ?_)) :
    Do i (AAny P N l.toArray Q (KB K) tl fuel (listed.setIfInBounds i true) ⟨look ((d, x) :: m), hh⟩) (AAny P N l.toArray Q (KB K) tl (fuel + 1) listed ⟨look m, hh⟩) := fun H => aa_t hi hd htl hw hst hS H
theorem tk_ {K : List (Nat × List AV)} (i : Nat) {d : Nat} {x : AV} (hi : l[i]? = some ⟨some d, op, ty, pos, af, gd⟩) (hst : ∀ h, KB K h → AStep P ⟨some d, op, ty, pos, af, gd⟩ (evs (look m)) h (fun x' h' => x' = x ∧ h' = h)) (H : AAny P N l.toArray Q (KB K) tl fuel (listed.setIfInBounds i true) ⟨look ((d, x) :: m), hh⟩) (hd : Nat.blt d N.n = true := by rfl) (htl : (tailOk l.toArray tl && !Nat.beq i tl && Region.free .any l.toArray listed i && (Region.ready .any l.toArray listed).contains i) = true := by kernel_rfl)
    (hw : wantedA l.toArray (look m) ⟨some d, op, ty, pos, af, gd⟩ = some true := by first | rfl | exact wan_y rfl rfl (beq_tt ‹_›) | exact wan_y rfl rfl (beq_ff ‹_›) | exact wan_y rfl rfl (by simp [*])) (hS : KB K hh := by repeat (first | exact kb_n _ | refine kb_c rfl ?_)) : AAny P N l.toArray Q (KB K) tl (fuel + 1) listed ⟨look m, hh⟩ := aa_t hi hd htl hw hst hS H
theorem d0_ (i : Nat) {d : Nat} (hi : l[i]? = some ⟨some d, op, ty, pos, af, gd⟩ := by rfl) (hd : Nat.blt d N.n = true := by rfl) (htl : (tailOk l.toArray tl && !Nat.beq i tl && Region.free .any l.toArray listed i && (Region.ready .any l.toArray listed).contains i) = true := by kernel_rfl)
    (hw : wantedA l.toArray (look m) ⟨some d, op, ty, pos, af, gd⟩ = some false := by first | rfl | exact wan_n rfl rfl (beq_tf ‹_›) | exact wan_n rfl rfl (beq_ft ‹_›) | exact wan_u rfl rfl | exact wan_n rfl rfl (by simp [*]))
    (hS : S hh := by first | rfl | (repeat (first | exact kb_n _ | refine kb_c rfl ?_))) (h : AAny P N l.toArray Q S tl fuel (listed.setIfInBounds i true) ⟨look ((d, .v undef) :: m), hh⟩) : AAny P N l.toArray Q S tl (fuel + 1) listed ⟨look m, hh⟩ := aa_n hi hd htl hw hS h
theorem c_ (i : Nat) {d : Nat} (hi : l[i]? = some ⟨some d, op, ty, pos, af, gd⟩) (H : AStep P ⟨some d, op, ty, pos, af, gd⟩ (evs (look m)) hh (fun x h' => (i = tl ∨ S h') ∧ AAny P N l.toArray Q S tl fuel (listed.setIfInBounds i true) ⟨look ((d, x) :: m), h'⟩)) (hd : Nat.blt d N.n = true := by rfl) (hr : Region.ready .any l.toArray listed = [i] := by kernel_rfl)
    (hw : wantedA l.toArray (look m) ⟨some d, op, ty, pos, af, gd⟩ = some true := by first | rfl | exact wan_y rfl rfl (beq_tt ‹_›) | exact wan_y rfl rfl (beq_ff ‹_›) | exact wan_y rfl rfl (by simp [*])) : AAny P N l.toArray Q S tl (fuel + 1) listed ⟨look m, hh⟩ := aa_c hi hd hr hw H
theorem c0_ (i : Nat) (hi : l[i]? = some ⟨none, op, ty, pos, af, gd⟩) (H : AStep P ⟨none, op, ty, pos, af, gd⟩ (evs (look m)) hh (fun _ h' => (i = tl ∨ S h') ∧ AAny P N l.toArray Q S tl fuel (listed.setIfInBounds i true) ⟨look m, h'⟩)) (hr : Region.ready .any l.toArray listed = [i] := by kernel_rfl)
    (hw : wantedA l.toArray (look m) ⟨none, op, ty, pos, af, gd⟩ = some true := by first | rfl | exact wan_y rfl rfl (beq_tt ‹_›) | exact wan_y rfl rfl (beq_ff ‹_›) | exact wan_y rfl rfl (by simp [*])) : AAny P N l.toArray Q S tl (fuel + 1) listed ⟨look m, hh⟩ := aa_c0 hi hr hw H
theorem c2_ (i j : Nat) {di dj : Nat} {op' : Op} {ty' : TypeId} {pos' : String} {af' : Array Edge} {gd' : Option (Nat × Bool)} (hi : l[i]? = some ⟨some di, op, ty, pos, af, gd⟩) (hj : l[j]? = some ⟨some dj, op', ty', pos', af', gd'⟩)
    (H1 : AStep P ⟨some di, op, ty, pos, af, gd⟩ (evs (look m)) hh (fun x h' => (i = tl ∨ S h') ∧ AAny P N l.toArray Q S tl fuel (listed.setIfInBounds i true) ⟨look ((di, x) :: m), h'⟩))
    (H2 : AStep P ⟨some dj, op', ty', pos', af', gd'⟩ (evs (look m)) hh (fun x h' => (j = tl ∨ S h') ∧ AAny P N l.toArray Q S tl fuel (listed.setIfInBounds j true) ⟨look ((dj, x) :: m), h'⟩))
    (hdi : Nat.blt di N.n = true := by rfl) (hdj : Nat.blt dj N.n = true := by rfl) (hr : Region.ready .any l.toArray listed = [i, j] := by kernel_rfl)
    (hwi : wantedA l.toArray (look m) ⟨some di, op, ty, pos, af, gd⟩ = some true := by first | rfl | exact wan_y rfl rfl (beq_tt ‹_›) | exact wan_y rfl rfl (beq_ff ‹_›) | exact wan_y rfl rfl (by simp [*]))
    (hwj : wantedA l.toArray (look m) ⟨some dj, op', ty', pos', af', gd'⟩ = some true := by first | rfl | exact wan_y rfl rfl (beq_tt ‹_›) | exact wan_y rfl rfl (beq_ff ‹_›) | exact wan_y rfl rfl (by simp [*])) : AAny P N l.toArray Q S tl (fuel + 1) listed ⟨look m, hh⟩ := aa_two hr hi hdi hwi hj hdj hwj H1 H2
theorem o_ {i : Nat} {A : Prop} {h' : AH} (hS : i = tl ∨ S h' := by first | exact .inl rfl | exact .inr rfl | exact .inr (by repeat (first | exact kb_n _ | refine kb_c rfl ?_))) (h : A) : (i = tl ∨ S h') ∧ A := ⟨hS, h⟩
theorem z_ (hr : Region.ready .any l.toArray listed = [] := by kernel_rfl) (h : Q .normal ⟨look m, hh⟩) : AAny P N l.toArray Q S tl fuel listed ⟨look m, hh⟩ := aa_done hr h fuel
theorem yr_ (tl : Nat) {id : Nat} (hm : P.follows .mixedOrders = true := by kernel_rfl) (h : AAny P N l.toArray Q (fun h' => h' = hh) tl l.length (Array.replicate l.length false) ⟨look m, hh⟩) : AWp P N (.region id l.toArray true) Q ⟨look m, hh⟩ := aw_drawR tl hm h
theorem yk_ (K : List (Nat × List AV)) (tl : Nat) {id : Nat} (hm : P.follows .mixedOrders = true := by kernel_rfl) (h : AAny P N l.toArray Q (KB K) tl l.length (Array.replicate l.length false) ⟨look m, hh⟩) : AWp P N (.region id l.toArray true) Q ⟨look m, hh⟩ := aw_draw _ tl hm h
end
section
variable {P : Program} {rs : List ResultVar} {n : Nat} {R : AV → List (List AV) → List Tok → Prop} {s : AS} {xs : List AV} {r : AV}
theorem rt_ (g : Option Nat) {tk' : List Tok} (h1 : ResA P s rs xs := by repeat (first | exact ResA.nil | (apply ResA.tmp; (focus exact rfl)) | (apply ResA.cellN; (focus exact inferInstance); (focus exact rfl); (focus exact rfl); (focus exact rfl)) | (apply ResA.cell1; (focus exact inferInstance); (focus exact rfl); (focus exact rfl); (focus exact rfl)))) (h2 : tokOf s.h.tk g = some tk' := by rfl) (h3 : bpLt n 1 (reT g (tupA xs)) = true := by rfl) (h4 : bpLtB n 0 (s.h.bx.take n) = true := by rfl) (h5 : LeA (reT g (tupA xs)) r) (h6 : R r (s.h.bx.take n) tk') : ABody P rs n R .ret s := abody_ret g h1 h2 h3 h4 h5 h6
end
theorem m_ {A B : Prop} (k : B → A := by intro b; first | exact al_p rfl (st_move rfl b) | exact g_y (st_move rfl b)) (h : B) : A := k h
theorem dm_ (i : Nat) {A B : Prop} (k : Do i B A := by first | exact do_r rfl (st_move rfl ⟨rfl, rfl⟩) | exact do_k rfl (fun _ _ => st_move rfl ⟨rfl, rfl⟩)) (h : B) : A := k h
theorem a_ {A B : Prop} (k : B → A := by intro b; first | exact al_p rfl (st_assign rfl b) | exact g_y (st_assign rfl b)) (h : B) : A := k h
theorem da_ (i : Nat) {A B : Prop} (k : Do i B A := by first | exact do_r rfl (st_assign rfl ⟨rfl, rfl⟩) | exact do_k rfl (fun _ _ => st_assign rfl ⟨rfl, rfl⟩)) (h : B) : A := k h
theorem f_ {A B : Prop} (k : B → A := by intro b; first | exact al_p rfl (st_fieldB rfl b) | exact al_p rfl (st_fieldF rfl b) | exact g_y (st_fieldB rfl b) | exact g_y (st_fieldF rfl b)) (h : B) : A := k h
theorem df_ (i : Nat) {A B : Prop} (k : Do i B A := by first | exact do_r rfl (st_fieldB rfl ⟨rfl, rfl⟩) | exact do_r rfl (st_fieldF rfl ⟨rfl, rfl⟩) | exact do_k rfl (fun _ _ => st_fieldB rfl ⟨rfl, rfl⟩) | exact do_k rfl (fun _ _ => st_fieldF rfl ⟨rfl, rfl⟩)) (h : B) : A := k h
theorem l_ {A B : Prop} (k : B → A := by intro b; first | exact al_p rfl (st_loadB1 rfl rfl rfl b) | exact al_p rfl (st_loadBW rfl rfl rfl b) | exact al_p rfl (st_loadF1 rfl rfl b) | exact al_p rfl (st_loadFW rfl rfl b) | exact al_p rfl (st_loadBN rfl rfl rfl b) | exact al_p rfl (st_loadFN rfl rfl b) | exact g_y (st_loadB1 rfl rfl rfl b) | exact g_y (st_loadBW rfl rfl rfl b) | exact g_y (st_loadF1 rfl rfl b) | exact g_y (st_loadFW rfl rfl b) | exact g_y (st_loadBN rfl rfl rfl b) | exact g_y (st_loadFN rfl rfl b)) (h : B) : A := k h
theorem dl_ (i : Nat) {A B : Prop} (k : Do i B A := by first | exact do_r rfl (st_loadB1 rfl rfl rfl ⟨rfl, rfl⟩) | exact do_r rfl (st_loadBW rfl rfl rfl ⟨rfl, rfl⟩) | exact do_r rfl (st_loadF1 rfl rfl ⟨rfl, rfl⟩) | exact do_r rfl (st_loadFW rfl rfl ⟨rfl, rfl⟩) | exact do_r rfl (st_loadBN rfl rfl rfl ⟨rfl, rfl⟩) | exact do_r rfl (st_loadFN rfl rfl ⟨rfl, rfl⟩) | exact do_k rfl (fun _ hS => st_loadB1 rfl (kb hS rfl) rfl ⟨rfl, rfl⟩) | exact do_k rfl (fun _ hS => st_loadBW rfl (kb hS rfl) rfl ⟨rfl, rfl⟩) | exact do_k rfl (fun _ _ => st_loadF1 rfl rfl ⟨rfl, rfl⟩) | exact do_k rfl (fun _ _ => st_loadFW rfl rfl ⟨rfl, rfl⟩) | exact do_k rfl (fun _ hS => st_loadBN rfl (kb hS rfl) rfl ⟨rfl, rfl⟩) | exact do_k rfl (fun _ _ => st_loadFN rfl rfl ⟨rfl, rfl⟩)) (h : B) : A := k h
theorem s_ {A B : Prop} (k : B → A := by intro b; exact al_p0 (s_store rfl rfl rfl rfl rfl rfl (by repeat constructor) (by repeat constructor) b)) (h : B) : A := k h
theorem b_ {A B : Prop} (k : B → A := by intro b; first | exact al_p rfl (s_boxA rfl rfl (by repeat constructor) b) | exact al_p rfl (s_box rfl rfl (by repeat constructor) b) | exact g_y (s_boxA rfl rfl (by repeat constructor) b) | exact g_y (s_box rfl rfl (by repeat constructor) b)) (h : B) : A := k h
theorem al_ {A B : Prop} (k : B → A := by intro b; first | exact al_p rfl (s_alloc (by repeat constructor) b) | exact g_y (s_alloc (by repeat constructor) b)) (h : B) : A := k h
theorem n_ {A B : Prop} (k : B → A := by intro b; first | exact al_p rfl (st_len rfl b) | exact al_p rfl (st_lenS (by kernel_rfl) rfl b) | exact al_p rfl (st_len0 rfl b) | exact g_y (st_len rfl b) | exact g_y (st_lenS (by kernel_rfl) rfl b) | exact g_y (st_len0 rfl b)) (h : B) : A := k h
theorem dn_ (i : Nat) {A B : Prop} (k : Do i B A := by first | exact do_r rfl (st_len rfl ⟨rfl, rfl⟩) | exact do_r rfl (st_lenS (by kernel_rfl) rfl ⟨rfl, rfl⟩) | exact do_r rfl (st_len0 rfl ⟨rfl, rfl⟩) | exact do_k rfl (fun _ _ => st_len rfl ⟨rfl, rfl⟩) | exact do_k rfl (fun _ _ => st_lenS (by kernel_rfl) rfl ⟨rfl, rfl⟩) | exact do_k rfl (fun _ _ => st_len0 rfl ⟨rfl, rfl⟩)) (h : B) : A := k h
theorem ap_ {A B : Prop} (k : B → A := by intro b; first | exact al_p rfl (s_append rfl rfl rfl (by simp <;> omega) (by repeat constructor) b) | exact al_p rfl (s_append0 rfl rfl (by simp <;> omega) (by repeat constructor) b) | exact g_y (s_append rfl rfl rfl (by simp <;> omega) (by repeat constructor) b) | exact g_y (s_append0 rfl rfl (by simp <;> omega) (by repeat constructor) b)) (h : B) : A := k h
theorem x_ {A B : Prop} (k : B → A := by intro b; first | exact al_p rfl (st_extract rfl rfl b) | exact g_y (st_extract rfl rfl b)) (h : B) : A := k h
theorem dx_ (i : Nat) {A B : Prop} (k : Do i B A := by first | exact do_r rfl (st_extract rfl rfl ⟨rfl, rfl⟩) | exact do_k rfl (fun _ _ => st_extract rfl rfl ⟨rfl, rfl⟩)) (h : B) : A := k h
theorem k_ {A B : Prop} (k : B → A := by intro b; first | exact al_p rfl (st_nilB rfl b) | exact al_p rfl (st_nilF rfl b) | exact g_y (st_nilB rfl b) | exact g_y (st_nilF rfl b)) (h : B) : A := k h
theorem dk_ (i : Nat) {A B : Prop} (k : Do i B A := by first | exact do_r rfl (st_nilB rfl ⟨rfl, rfl⟩) | exact do_r rfl (st_nilF rfl ⟨rfl, rfl⟩) | exact do_k rfl (fun _ _ => st_nilB rfl ⟨rfl, rfl⟩) | exact do_k rfl (fun _ _ => st_nilF rfl ⟨rfl, rfl⟩)) (h : B) : A := k h
theorem bd_ {A B : Prop} (k : B → A := by intro b; first | exact al_p rfl (st_build (by repeat (first | exact FillA.nil _ | (apply FillA.cons; (focus exact rfl); (focus exact rfl); (focus exact rfl); (focus exact rfl); (focus exact rfl); (focus (repeat constructor))))) b) | exact g_y (st_build (by repeat (first | exact FillA.nil _ | (apply FillA.cons; (focus exact rfl); (focus exact rfl); (focus exact rfl); (focus exact rfl); (focus exact rfl); (focus (repeat constructor))))) b)) (h : B) : A := k h
theorem dbd_ (i : Nat) {A B : Prop} (k : Do i B A := by first | exact do_r rfl (st_build (by repeat (first | exact FillA.nil _ | (apply FillA.cons; (focus exact rfl); (focus exact rfl); (focus exact rfl); (focus exact rfl); (focus exact rfl); (focus (repeat constructor))))) ⟨rfl, rfl⟩) | exact do_k rfl (fun _ _ => st_build (by repeat (first | exact FillA.nil _ | (apply FillA.cons; (focus exact rfl); (focus exact rfl); (focus exact rfl); (focus exact rfl); (focus exact rfl); (focus (repeat constructor))))) ⟨rfl, rfl⟩)) (h : B) : A := k h
theorem bs_ {A B : Prop} (k : B → A := by intro b; first | exact al_p rfl (st_slit (by repeat (first | exact DenseA.nil _ | (apply DenseA.cons; (focus exact rfl); (focus exact rfl); (focus exact rfl); (focus exact rfl)) | (apply DenseA.consE; (focus exact rfl); (focus exact rfl); (focus exact rfl)))) rfl rfl rfl rfl b) | exact g_y (st_slit (by repeat (first | exact DenseA.nil _ | (apply DenseA.cons; (focus exact rfl); (focus exact rfl); (focus exact rfl); (focus exact rfl)) | (apply DenseA.consE; (focus exact rfl); (focus exact rfl); (focus exact rfl)))) rfl rfl rfl rfl b)) (h : B) : A := k h
theorem dbs_ (i : Nat) {A B : Prop} (k : Do i B A := by first | exact do_r rfl (st_slit (by repeat (first | exact DenseA.nil _ | (apply DenseA.cons; (focus exact rfl); (focus exact rfl); (focus exact rfl); (focus exact rfl)) | (apply DenseA.consE; (focus exact rfl); (focus exact rfl); (focus exact rfl)))) rfl rfl rfl rfl ⟨rfl, rfl⟩) | exact do_k rfl (fun _ _ => st_slit (by repeat (first | exact DenseA.nil _ | (apply DenseA.cons; (focus exact rfl); (focus exact rfl); (focus exact rfl); (focus exact rfl)) | (apply DenseA.consE; (focus exact rfl); (focus exact rfl); (focus exact rfl)))) rfl rfl rfl rfl ⟨rfl, rfl⟩)) (h : B) : A := k h
theorem pt_ {A B : Prop} (k : B → A := by intro b; first | exact al_p rfl (p_t b) | exact g_y (p_t b)) (h : B) : A := k h
theorem dpt_ (i : Nat) {A B : Prop} (k : Do i B A := by first | exact do_r rfl (p_t ⟨rfl, rfl⟩) | exact do_k rfl (fun _ _ => p_t ⟨rfl, rfl⟩)) (h : B) : A := k h
theorem pf_ {A B : Prop} (k : B → A := by intro b; first | exact al_p rfl (p_f b) | exact g_y (p_f b)) (h : B) : A := k h
theorem dpf_ (i : Nat) {A B : Prop} (k : Do i B A := by first | exact do_r rfl (p_f ⟨rfl, rfl⟩) | exact do_k rfl (fun _ _ => p_f ⟨rfl, rfl⟩)) (h : B) : A := k h
theorem i_ {A B : Prop} (k : B → A := by intro b; first | exact al_p rfl (st_index rfl rfl rfl (by first | assumption | rfl) b) | exact g_y (st_index rfl rfl rfl (by first | assumption | rfl) b)) (h : B) : A := k h
theorem di_ (i : Nat) {A B : Prop} (k : Do i B A := by first | exact do_r rfl (st_index rfl rfl rfl (by first | assumption | rfl) ⟨rfl, rfl⟩) | exact do_k rfl (fun _ _ => st_index rfl rfl rfl (by first | assumption | rfl) ⟨rfl, rfl⟩)) (h : B) : A := k h
theorem ms_ {A B : Prop} (k : B → A := by intro b; first | exact al_p rfl (s_make0 rfl rfl (by omega) (by repeat constructor) b) | exact g_y (s_make0 rfl rfl (by omega) (by repeat constructor) b)) (h : B) : A := k h
theorem nt_ {A B : Prop} (k : B → A := by intro b; first | exact al_p rfl (st_not rfl b) | exact g_y (st_not rfl b)) (h : B) : A := k h
theorem dnt_ (i : Nat) {A B : Prop} (k : Do i B A := by first | exact do_r rfl (st_not rfl ⟨rfl, rfl⟩) | exact do_k rfl (fun _ _ => st_not rfl ⟨rfl, rfl⟩)) (h : B) : A := k h
theorem ad_ {A B : Prop} (k : B → A := by intro b; first | exact al_p rfl (st_add64 rfl rfl (by omega) b) | exact al_p rfl (st_addS rfl rfl (by omega) b) | exact al_p rfl (st_add rfl rfl b) | exact g_y (st_add64 rfl rfl (by omega) b) | exact g_y (st_addS rfl rfl (by omega) b) | exact g_y (st_add rfl rfl b)) (h : B) : A := k h
theorem sb_ {A B : Prop} (k : B → A := by intro b; first | exact al_p rfl (st_sub64 rfl rfl (by omega) b) | exact al_p rfl (st_sub rfl rfl b) | exact g_y (st_sub64 rfl rfl (by omega) b) | exact g_y (st_sub rfl rfl b)) (h : B) : A := k h
theorem dsb_ (i : Nat) {A B : Prop} (k : Do i B A := by first | exact do_r rfl (st_sub64 rfl rfl (by omega) ⟨rfl, rfl⟩) | exact do_r rfl (st_sub rfl rfl ⟨rfl, rfl⟩) | exact do_k rfl (fun _ _ => st_sub64 rfl rfl (by omega) ⟨rfl, rfl⟩) | exact do_k rfl (fun _ _ => st_sub rfl rfl ⟨rfl, rfl⟩)) (h : B) : A := k h
theorem ml_ {A B : Prop} (k : B → A := by intro b; first | exact al_p rfl (st_mul rfl rfl b) | exact g_y (st_mul rfl rfl b)) (h : B) : A := k h
theorem eq_ {A B : Prop} (k : B → A := by intro b; first | exact al_p rfl (st_eql rfl rfl b) | exact al_p rfl (st_eqlS rfl rfl b) | exact al_p rfl (st_eqlB (by kernel_rfl) rfl rfl b) | exact g_y (st_eql rfl rfl b) | exact g_y (st_eqlS rfl rfl b) | exact g_y (st_eqlB (by kernel_rfl) rfl rfl b)) (h : B) : A := k h
theorem deq_ (i : Nat) {A B : Prop} (k : Do i B A := by first | exact do_r rfl (st_eql rfl rfl ⟨rfl, rfl⟩) | exact do_r rfl (st_eqlS rfl rfl ⟨rfl, rfl⟩) | exact do_r rfl (st_eqlB (by kernel_rfl) rfl rfl ⟨rfl, rfl⟩) | exact do_k rfl (fun _ _ => st_eql rfl rfl ⟨rfl, rfl⟩) | exact do_k rfl (fun _ _ => st_eqlS rfl rfl ⟨rfl, rfl⟩) | exact do_k rfl (fun _ _ => st_eqlB (by kernel_rfl) rfl rfl ⟨rfl, rfl⟩)) (h : B) : A := k h
theorem nq_ {A B : Prop} (k : B → A := by intro b; first | exact al_p rfl (st_neq rfl rfl b) | exact al_p rfl (st_neqS rfl rfl b) | exact al_p rfl (st_neqB (by kernel_rfl) rfl rfl b) | exact g_y (st_neq rfl rfl b) | exact g_y (st_neqS rfl rfl b) | exact g_y (st_neqB (by kernel_rfl) rfl rfl b)) (h : B) : A := k h
theorem dnq_ (i : Nat) {A B : Prop} (k : Do i B A := by first | exact do_r rfl (st_neq rfl rfl ⟨rfl, rfl⟩) | exact do_r rfl (st_neqS rfl rfl ⟨rfl, rfl⟩) | exact do_r rfl (st_neqB (by kernel_rfl) rfl rfl ⟨rfl, rfl⟩) | exact do_k rfl (fun _ _ => st_neq rfl rfl ⟨rfl, rfl⟩) | exact do_k rfl (fun _ _ => st_neqS rfl rfl ⟨rfl, rfl⟩) | exact do_k rfl (fun _ _ => st_neqB (by kernel_rfl) rfl rfl ⟨rfl, rfl⟩)) (h : B) : A := k h
theorem lt_ {A B : Prop} (k : B → A := by intro b; first | exact al_p rfl (st_lss rfl rfl b) | exact al_p rfl (st_lssS rfl rfl b) | exact g_y (st_lss rfl rfl b) | exact g_y (st_lssS rfl rfl b)) (h : B) : A := k h
theorem dlt_ (i : Nat) {A B : Prop} (k : Do i B A := by first | exact do_r rfl (st_lss rfl rfl ⟨rfl, rfl⟩) | exact do_r rfl (st_lssS rfl rfl ⟨rfl, rfl⟩) | exact do_k rfl (fun _ _ => st_lss rfl rfl ⟨rfl, rfl⟩) | exact do_k rfl (fun _ _ => st_lssS rfl rfl ⟨rfl, rfl⟩)) (h : B) : A := k h
theorem le_ {A B : Prop} (k : B → A := by intro b; first | exact al_p rfl (st_leq rfl rfl b) | exact g_y (st_leq rfl rfl b)) (h : B) : A := k h
theorem dle_ (i : Nat) {A B : Prop} (k : Do i B A := by first | exact do_r rfl (st_leq rfl rfl ⟨rfl, rfl⟩) | exact do_k rfl (fun _ _ => st_leq rfl rfl ⟨rfl, rfl⟩)) (h : B) : A := k h
theorem gt_ {A B : Prop} (k : B → A := by intro b; first | exact al_p rfl (st_gtr rfl rfl b) | exact g_y (st_gtr rfl rfl b)) (h : B) : A := k h
theorem dgt_ (i : Nat) {A B : Prop} (k : Do i B A := by first | exact do_r rfl (st_gtr rfl rfl ⟨rfl, rfl⟩) | exact do_k rfl (fun _ _ => st_gtr rfl rfl ⟨rfl, rfl⟩)) (h : B) : A := k h
theorem ge_ {A B : Prop} (k : B → A := by intro b; first | exact al_p rfl (st_geq rfl rfl b) | exact al_p rfl (st_geqS rfl rfl b) | exact g_y (st_geq rfl rfl b) | exact g_y (st_geqS rfl rfl b)) (h : B) : A := k h
theorem dge_ (i : Nat) {A B : Prop} (k : Do i B A := by first | exact do_r rfl (st_geq rfl rfl ⟨rfl, rfl⟩) | exact do_r rfl (st_geqS rfl rfl ⟨rfl, rfl⟩) | exact do_k rfl (fun _ _ => st_geq rfl rfl ⟨rfl, rfl⟩) | exact do_k rfl (fun _ _ => st_geqS rfl rfl ⟨rfl, rfl⟩)) (h : B) : A := k h
theorem at_ {A B : Prop} (k : B → A := by intro b; first | exact al_p rfl (st_andNot rfl rfl b) | exact g_y (st_andNot rfl rfl b)) (h : B) : A := k h
end Go.Proofs.Ytgliiknfmlmddaa
namespace Go.Proofs.Ytgliiknfmlmddaa
open Go.RowKit
instance : Typ Try.prog 0 1 false := ⟨by kernel_rfl⟩
instance : Typ Try.prog 1 1 false := ⟨by kernel_rfl⟩
instance : Zer Try.prog 1 [.v .nilFunc] := ⟨[.nilFunc], by kernel_rfl, rfl, rfl⟩
instance : Typ Try.prog 2 1 false := ⟨by kernel_rfl⟩
instance : Zer Try.prog 2 [.v (.int .i64 0)] := ⟨[.int .i64 0], by kernel_rfl, rfl, rfl⟩
instance : Typ Try.prog 3 1 false := ⟨by kernel_rfl⟩
instance : Zer Try.prog 3 [.v (.int .i64 0)] := ⟨[.int .i64 0], by kernel_rfl, rfl, rfl⟩
instance : Typ Try.prog 4 1 false := ⟨by kernel_rfl⟩
instance : Zer Try.prog 4 [.v (.bool false)] := ⟨[.bool false], by kernel_rfl, rfl, rfl⟩
instance : Typ Try.prog 5 1 false := ⟨by kernel_rfl⟩
instance : Zer Try.prog 5 [.v (.int .u8 0)] := ⟨[.int .u8 0], by kernel_rfl, rfl, rfl⟩
instance : Typ Try.prog 6 1 false := ⟨by kernel_rfl⟩
instance : Zer Try.prog 6 [.v (.int .u8 0)] := ⟨[.int .u8 0], by kernel_rfl, rfl, rfl⟩
instance : Typ Try.prog 7 4 true := ⟨by kernel_rfl⟩
instance : Zer Try.prog 7 [.v (.int .i64 0), .v (.int .i64 0), .v (.bool false), .v (.int .u8 0)] := ⟨[.int .i64 0, .int .i64 0, .bool false, .int .u8 0], by kernel_rfl, rfl, rfl⟩
instance : Plc Try.prog 7 [(0, 1), (1, 1), (2, 1), (3, 1)] := ⟨by kernel_rfl⟩
instance : Fld Try.prog 7 0 0 1 := ⟨by kernel_rfl⟩
instance : Fld Try.prog 7 1 1 1 := ⟨by kernel_rfl⟩
instance : Fld Try.prog 7 2 2 1 := ⟨by kernel_rfl⟩
instance : Fld Try.prog 7 3 3 1 := ⟨by kernel_rfl⟩
instance : Typ Try.prog 8 4 true := ⟨by kernel_rfl⟩
instance : Zer Try.prog 8 [.v (.int .i64 0), .v (.int .i64 0), .v (.bool false), .v (.int .u8 0)] := ⟨[.int .i64 0, .int .i64 0, .bool false, .int .u8 0], by kernel_rfl, rfl, rfl⟩
instance : Plc Try.prog 8 [(0, 1), (1, 1), (2, 1), (3, 1)] := ⟨by kernel_rfl⟩
instance : Fld Try.prog 8 0 0 1 := ⟨by kernel_rfl⟩
instance : Fld Try.prog 8 1 1 1 := ⟨by kernel_rfl⟩
instance : Fld Try.prog 8 2 2 1 := ⟨by kernel_rfl⟩
instance : Fld Try.prog 8 3 3 1 := ⟨by kernel_rfl⟩
instance : Typ Try.prog 9 1 false := ⟨by kernel_rfl⟩
instance : Zer Try.prog 9 [.v (.string ⟨#[]⟩)] := ⟨[.string ⟨#[]⟩], by kernel_rfl, rfl, rfl⟩
instance : Typ Try.prog 10 1 false := ⟨by kernel_rfl⟩
instance : Zer Try.prog 10 [.v (.string ⟨#[]⟩)] := ⟨[.string ⟨#[]⟩], by kernel_rfl, rfl, rfl⟩
instance : Typ Try.prog 11 1 false := ⟨by kernel_rfl⟩
instance : Zer Try.prog 11 [.v (.string ⟨#[]⟩)] := ⟨[.string ⟨#[]⟩], by kernel_rfl, rfl, rfl⟩
instance : Typ Try.prog 12 1 false := ⟨by kernel_rfl⟩
instance : Zer Try.prog 12 [.v (.int .u64 0)] := ⟨[.int .u64 0], by kernel_rfl, rfl, rfl⟩
instance : Typ Try.prog 13 2 true := ⟨by kernel_rfl⟩
instance : Zer Try.prog 13 [.v (.string ⟨#[]⟩), .v (.int .u64 0)] := ⟨[.string ⟨#[]⟩, .int .u64 0], by kernel_rfl, rfl, rfl⟩
instance : Plc Try.prog 13 [(0, 1), (1, 1)] := ⟨by kernel_rfl⟩
instance : Fld Try.prog 13 0 0 1 := ⟨by kernel_rfl⟩
instance : Fld Try.prog 13 1 1 1 := ⟨by kernel_rfl⟩
instance : Typ Try.prog 14 2 true := ⟨by kernel_rfl⟩
instance : Zer Try.prog 14 [.v (.string ⟨#[]⟩), .v (.int .u64 0)] := ⟨[.string ⟨#[]⟩, .int .u64 0], by kernel_rfl, rfl, rfl⟩
instance : Plc Try.prog 14 [(0, 1), (1, 1)] := ⟨by kernel_rfl⟩
instance : Fld Try.prog 14 0 0 1 := ⟨by kernel_rfl⟩
instance : Fld Try.prog 14 1 1 1 := ⟨by kernel_rfl⟩
instance : Typ Try.prog 15 1 false := ⟨by kernel_rfl⟩
instance : Zer Try.prog 15 [.v (.pointer none)] := ⟨[.pointer none], by kernel_rfl, rfl, rfl⟩
instance : Typ Try.prog 16 1 false := ⟨by kernel_rfl⟩
instance : Zer Try.prog 16 [.v (.pointer none)] := ⟨[.pointer none], by kernel_rfl, rfl, rfl⟩
instance : Typ Try.prog 17 1 false := ⟨by kernel_rfl⟩
instance : Zer Try.prog 17 [.v (.pointer none)] := ⟨[.pointer none], by kernel_rfl, rfl, rfl⟩
instance : Typ Try.prog 18 1 true := ⟨by kernel_rfl⟩
instance : Zer Try.prog 18 [.v (.pointer none)] := ⟨[.pointer none], by kernel_rfl, rfl, rfl⟩
instance : Plc Try.prog 18 [(0, 1)] := ⟨by kernel_rfl⟩
instance : Fld Try.prog 18 0 0 1 := ⟨by kernel_rfl⟩
instance : Typ Try.prog 19 1 true := ⟨by kernel_rfl⟩
instance : Zer Try.prog 19 [.v (.pointer none)] := ⟨[.pointer none], by kernel_rfl, rfl, rfl⟩
instance : Plc Try.prog 19 [(0, 1)] := ⟨by kernel_rfl⟩
instance : Fld Try.prog 19 0 0 1 := ⟨by kernel_rfl⟩
instance : Typ Try.prog 20 1 false := ⟨by kernel_rfl⟩
instance : Zer Try.prog 20 [.v .nilIface] := ⟨[.nilIface], by kernel_rfl, rfl, rfl⟩
instance : Typ Try.prog 21 1 false := ⟨by kernel_rfl⟩
instance : Zer Try.prog 21 [.v (.int .i32 0)] := ⟨[.int .i32 0], by kernel_rfl, rfl, rfl⟩
instance : Typ Try.prog 22 1 false := ⟨by kernel_rfl⟩
instance : Elm Try.prog 22 3 1 8 := ⟨by kernel_rfl, by decide⟩
instance : Zer Try.prog 22 [.v (.slice none 0 0)] := ⟨[.slice none 0 0], by kernel_rfl, rfl, rfl⟩
instance : Typ Try.prog 23 2 true := ⟨by kernel_rfl⟩
instance : Zer Try.prog 23 [.v (.int .i64 0), .v (.int .i64 0)] := ⟨[.int .i64 0, .int .i64 0], by kernel_rfl, rfl, rfl⟩
instance : Plc Try.prog 23 [(0, 1), (1, 1)] := ⟨by kernel_rfl⟩
instance : Fld Try.prog 23 0 0 1 := ⟨by kernel_rfl⟩
instance : Fld Try.prog 23 1 1 1 := ⟨by kernel_rfl⟩
instance : Typ Try.prog 24 2 true := ⟨by kernel_rfl⟩
instance : Zer Try.prog 24 [.v (.int .i64 0), .v (.int .i64 0)] := ⟨[.int .i64 0, .int .i64 0], by kernel_rfl, rfl, rfl⟩
instance : Plc Try.prog 24 [(0, 1), (1, 1)] := ⟨by kernel_rfl⟩
instance : Fld Try.prog 24 0 0 1 := ⟨by kernel_rfl⟩
instance : Fld Try.prog 24 1 1 1 := ⟨by kernel_rfl⟩
instance : Typ Try.prog 25 1 false := ⟨by kernel_rfl⟩
instance : Zer Try.prog 25 [.v (.pointer none)] := ⟨[.pointer none], by kernel_rfl, rfl, rfl⟩
instance : Typ Try.prog 26 1 false := ⟨by kernel_rfl⟩
instance : Zer Try.prog 26 [.v .nilFunc] := ⟨[.nilFunc], by kernel_rfl, rfl, rfl⟩
instance : Typ Try.prog 27 1 false := ⟨by kernel_rfl⟩
instance : Elm Try.prog 27 68 2 32 := ⟨by kernel_rfl, by decide⟩
instance : Zer Try.prog 27 [.v (.slice none 0 0)] := ⟨[.slice none 0 0], by kernel_rfl, rfl, rfl⟩
instance : Typ Try.prog 28 1 true := ⟨by kernel_rfl⟩
instance : Zer Try.prog 28 [.v (.slice none 0 0)] := ⟨[.slice none 0 0], by kernel_rfl, rfl, rfl⟩
instance : Plc Try.prog 28 [(0, 1)] := ⟨by kernel_rfl⟩
instance : Fld Try.prog 28 0 0 1 := ⟨by kernel_rfl⟩
instance : Typ Try.prog 29 1 true := ⟨by kernel_rfl⟩
instance : Zer Try.prog 29 [.v (.slice none 0 0)] := ⟨[.slice none 0 0], by kernel_rfl, rfl, rfl⟩
instance : Plc Try.prog 29 [(0, 1)] := ⟨by kernel_rfl⟩
instance : Fld Try.prog 29 0 0 1 := ⟨by kernel_rfl⟩
instance : Typ Try.prog 30 1 false := ⟨by kernel_rfl⟩
instance : Elm Try.prog 30 60 3 24 := ⟨by kernel_rfl, by decide⟩
instance : Zer Try.prog 30 [.v (.slice none 0 0)] := ⟨[.slice none 0 0], by kernel_rfl, rfl, rfl⟩
instance : Typ Try.prog 31 2 true := ⟨by kernel_rfl⟩
instance : Zer Try.prog 31 [.v (.slice none 0 0), .v (.slice none 0 0)] := ⟨[.slice none 0 0, .slice none 0 0], by kernel_rfl, rfl, rfl⟩
instance : Plc Try.prog 31 [(0, 1), (1, 1)] := ⟨by kernel_rfl⟩
instance : Fld Try.prog 31 0 0 1 := ⟨by kernel_rfl⟩
instance : Fld Try.prog 31 1 1 1 := ⟨by kernel_rfl⟩
instance : Typ Try.prog 32 2 true := ⟨by kernel_rfl⟩
instance : Zer Try.prog 32 [.v (.slice none 0 0), .v (.slice none 0 0)] := ⟨[.slice none 0 0, .slice none 0 0], by kernel_rfl, rfl, rfl⟩
instance : Plc Try.prog 32 [(0, 1), (1, 1)] := ⟨by kernel_rfl⟩
instance : Fld Try.prog 32 0 0 1 := ⟨by kernel_rfl⟩
instance : Fld Try.prog 32 1 1 1 := ⟨by kernel_rfl⟩
instance : Typ Try.prog 33 1 false := ⟨by kernel_rfl⟩
instance : Zer Try.prog 33 [.v .nilFunc] := ⟨[.nilFunc], by kernel_rfl, rfl, rfl⟩
instance : Typ Try.prog 34 1 false := ⟨by kernel_rfl⟩
instance : Zer Try.prog 34 [.v .nilFunc] := ⟨[.nilFunc], by kernel_rfl, rfl, rfl⟩
instance : Typ Try.prog 35 1 false := ⟨by kernel_rfl⟩
instance : Zer Try.prog 35 [.v .nilFunc] := ⟨[.nilFunc], by kernel_rfl, rfl, rfl⟩
instance : Typ Try.prog 36 1 false := ⟨by kernel_rfl⟩
instance : Zer Try.prog 36 [.v (.int .i64 0)] := ⟨[.int .i64 0], by kernel_rfl, rfl, rfl⟩
instance : Typ Try.prog 37 1 false := ⟨by kernel_rfl⟩
instance : Typ Try.prog 38 1 false := ⟨by kernel_rfl⟩
instance : Zer Try.prog 38 [.v .nilFunc] := ⟨[.nilFunc], by kernel_rfl, rfl, rfl⟩
instance : Typ Try.prog 39 1 false := ⟨by kernel_rfl⟩
instance : Zer Try.prog 39 [.v .nilFunc] := ⟨[.nilFunc], by kernel_rfl, rfl, rfl⟩
instance : Typ Try.prog 40 1 false := ⟨by kernel_rfl⟩
instance : Zer Try.prog 40 [.v .nilFunc] := ⟨[.nilFunc], by kernel_rfl, rfl, rfl⟩
instance : Typ Try.prog 41 1 false := ⟨by kernel_rfl⟩
instance : Zer Try.prog 41 [.v .nilFunc] := ⟨[.nilFunc], by kernel_rfl, rfl, rfl⟩
instance : Typ Try.prog 42 1 false := ⟨by kernel_rfl⟩
instance : Zer Try.prog 42 [.v .nilFunc] := ⟨[.nilFunc], by kernel_rfl, rfl, rfl⟩
instance : Typ Try.prog 43 1 false := ⟨by kernel_rfl⟩
instance : Zer Try.prog 43 [.v .nilFunc] := ⟨[.nilFunc], by kernel_rfl, rfl, rfl⟩
instance : Typ Try.prog 44 1 false := ⟨by kernel_rfl⟩
instance : Zer Try.prog 44 [.v .nilFunc] := ⟨[.nilFunc], by kernel_rfl, rfl, rfl⟩
instance : Typ Try.prog 45 1 false := ⟨by kernel_rfl⟩
instance : Zer Try.prog 45 [.v .nilFunc] := ⟨[.nilFunc], by kernel_rfl, rfl, rfl⟩
instance : Typ Try.prog 46 1 false := ⟨by kernel_rfl⟩
instance : Typ Try.prog 47 1 false := ⟨by kernel_rfl⟩
instance : Zer Try.prog 47 [.v .nilFunc] := ⟨[.nilFunc], by kernel_rfl, rfl, rfl⟩
instance : Typ Try.prog 48 1 false := ⟨by kernel_rfl⟩
instance : Elm Try.prog 48 24 2 16 := ⟨by kernel_rfl, by decide⟩
instance : Zer Try.prog 48 [.v (.slice none 0 0)] := ⟨[.slice none 0 0], by kernel_rfl, rfl, rfl⟩
instance : Typ Try.prog 49 1 false := ⟨by kernel_rfl⟩
instance : Zer Try.prog 49 [.v .nilFunc] := ⟨[.nilFunc], by kernel_rfl, rfl, rfl⟩
instance : Typ Try.prog 50 1 false := ⟨by kernel_rfl⟩
instance : Zer Try.prog 50 [.v .nilFunc] := ⟨[.nilFunc], by kernel_rfl, rfl, rfl⟩
instance : Typ Try.prog 51 1 false := ⟨by kernel_rfl⟩
instance : Zer Try.prog 51 [.v .nilFunc] := ⟨[.nilFunc], by kernel_rfl, rfl, rfl⟩
instance : Typ Try.prog 52 1 false := ⟨by kernel_rfl⟩
instance : Zer Try.prog 52 [.v .nilFunc] := ⟨[.nilFunc], by kernel_rfl, rfl, rfl⟩
instance : Typ Try.prog 53 1 false := ⟨by kernel_rfl⟩
instance : Typ Try.prog 54 1 false := ⟨by kernel_rfl⟩
instance : Zer Try.prog 54 [.v .nilFunc] := ⟨[.nilFunc], by kernel_rfl, rfl, rfl⟩
instance : Typ Try.prog 55 1 false := ⟨by kernel_rfl⟩
instance : Zer Try.prog 55 [.v .nilFunc] := ⟨[.nilFunc], by kernel_rfl, rfl, rfl⟩
instance : Typ Try.prog 56 1 false := ⟨by kernel_rfl⟩
instance : Zer Try.prog 56 [.v .nilFunc] := ⟨[.nilFunc], by kernel_rfl, rfl, rfl⟩
instance : Typ Try.prog 57 1 false := ⟨by kernel_rfl⟩
instance : Zer Try.prog 57 [.v .nilFunc] := ⟨[.nilFunc], by kernel_rfl, rfl, rfl⟩
instance : Typ Try.prog 58 1 false := ⟨by kernel_rfl⟩
instance : Zer Try.prog 58 [.v .nilFunc] := ⟨[.nilFunc], by kernel_rfl, rfl, rfl⟩
instance : Typ Try.prog 59 3 true := ⟨by kernel_rfl⟩
instance : Zer Try.prog 59 [.v (.int .i64 0), .v (.int .i64 0), .v (.int .i64 0)] := ⟨[.int .i64 0, .int .i64 0, .int .i64 0], by kernel_rfl, rfl, rfl⟩
instance : Plc Try.prog 59 [(0, 1), (1, 2)] := ⟨by kernel_rfl⟩
instance : Fld Try.prog 59 0 0 1 := ⟨by kernel_rfl⟩
instance : Fld Try.prog 59 1 1 2 := ⟨by kernel_rfl⟩
instance : Typ Try.prog 60 3 true := ⟨by kernel_rfl⟩
instance : Zer Try.prog 60 [.v (.int .i64 0), .v (.int .i64 0), .v (.int .i64 0)] := ⟨[.int .i64 0, .int .i64 0, .int .i64 0], by kernel_rfl, rfl, rfl⟩
instance : Plc Try.prog 60 [(0, 1), (1, 2)] := ⟨by kernel_rfl⟩
instance : Fld Try.prog 60 0 0 1 := ⟨by kernel_rfl⟩
instance : Fld Try.prog 60 1 1 2 := ⟨by kernel_rfl⟩
instance : Typ Try.prog 61 1 false := ⟨by kernel_rfl⟩
instance : Zer Try.prog 61 [.v .nilFunc] := ⟨[.nilFunc], by kernel_rfl, rfl, rfl⟩
instance : Typ Try.prog 62 1 false := ⟨by kernel_rfl⟩
instance : Zer Try.prog 62 [.v .nilFunc] := ⟨[.nilFunc], by kernel_rfl, rfl, rfl⟩
instance : Typ Try.prog 63 2 true := ⟨by kernel_rfl⟩
instance : Zer Try.prog 63 [.v (.slice none 0 0), .v (.int .i64 0)] := ⟨[.slice none 0 0, .int .i64 0], by kernel_rfl, rfl, rfl⟩
instance : Plc Try.prog 63 [(0, 1), (1, 1)] := ⟨by kernel_rfl⟩
instance : Fld Try.prog 63 0 0 1 := ⟨by kernel_rfl⟩
instance : Fld Try.prog 63 1 1 1 := ⟨by kernel_rfl⟩
instance : Typ Try.prog 64 2 true := ⟨by kernel_rfl⟩
instance : Zer Try.prog 64 [.v (.slice none 0 0), .v (.int .i64 0)] := ⟨[.slice none 0 0, .int .i64 0], by kernel_rfl, rfl, rfl⟩
instance : Plc Try.prog 64 [(0, 1), (1, 1)] := ⟨by kernel_rfl⟩
instance : Fld Try.prog 64 0 0 1 := ⟨by kernel_rfl⟩
instance : Fld Try.prog 64 1 1 1 := ⟨by kernel_rfl⟩
instance : Typ Try.prog 65 1 false := ⟨by kernel_rfl⟩
instance : Zer Try.prog 65 [.v .nilFunc] := ⟨[.nilFunc], by kernel_rfl, rfl, rfl⟩
instance : Typ Try.prog 66 1 false := ⟨by kernel_rfl⟩
instance : Elm Try.prog 66 71 8 88 := ⟨by kernel_rfl, by decide⟩
instance : Zer Try.prog 66 [.v (.slice none 0 0)] := ⟨[.slice none 0 0], by kernel_rfl, rfl, rfl⟩
instance : Typ Try.prog 67 2 true := ⟨by kernel_rfl⟩
instance : Zer Try.prog 67 [.v (.int .i64 0), .v (.slice none 0 0)] := ⟨[.int .i64 0, .slice none 0 0], by kernel_rfl, rfl, rfl⟩
instance : Plc Try.prog 67 [(0, 1), (1, 1)] := ⟨by kernel_rfl⟩
instance : Fld Try.prog 67 0 0 1 := ⟨by kernel_rfl⟩
instance : Fld Try.prog 67 1 1 1 := ⟨by kernel_rfl⟩
instance : Typ Try.prog 68 2 true := ⟨by kernel_rfl⟩
instance : Zer Try.prog 68 [.v (.int .i64 0), .v (.slice none 0 0)] := ⟨[.int .i64 0, .slice none 0 0], by kernel_rfl, rfl, rfl⟩
instance : Plc Try.prog 68 [(0, 1), (1, 1)] := ⟨by kernel_rfl⟩
instance : Fld Try.prog 68 0 0 1 := ⟨by kernel_rfl⟩
instance : Fld Try.prog 68 1 1 1 := ⟨by kernel_rfl⟩
instance : Typ Try.prog 69 1 false := ⟨by kernel_rfl⟩
instance : Elm Try.prog 69 112 2 24 := ⟨by kernel_rfl, by decide⟩
instance : Zer Try.prog 69 [.v (.slice none 0 0)] := ⟨[.slice none 0 0], by kernel_rfl, rfl, rfl⟩
instance : Typ Try.prog 70 8 true := ⟨by kernel_rfl⟩
instance : Zer Try.prog 70 [.v (.int .i64 0), .v (.int .i64 0), .v (.int .i64 0), .v (.int .i64 0), .v (.int .i64 0), .v (.int .i64 0), .v (.string ⟨#[]⟩), .v (.slice none 0 0)] := ⟨[.int .i64 0, .int .i64 0, .int .i64 0, .int .i64 0, .int .i64 0, .int .i64 0, .string ⟨#[]⟩, .slice none 0 0], by kernel_rfl, rfl, rfl⟩
instance : Plc Try.prog 70 [(0, 1), (1, 1), (2, 1), (3, 1), (4, 1), (5, 1), (6, 1), (7, 1)] := ⟨by kernel_rfl⟩
instance : Fld Try.prog 70 0 0 1 := ⟨by kernel_rfl⟩
instance : Fld Try.prog 70 1 1 1 := ⟨by kernel_rfl⟩
instance : Fld Try.prog 70 2 2 1 := ⟨by kernel_rfl⟩
instance : Fld Try.prog 70 3 3 1 := ⟨by kernel_rfl⟩
instance : Fld Try.prog 70 4 4 1 := ⟨by kernel_rfl⟩
instance : Fld Try.prog 70 5 5 1 := ⟨by kernel_rfl⟩
instance : Fld Try.prog 70 6 6 1 := ⟨by kernel_rfl⟩
instance : Fld Try.prog 70 7 7 1 := ⟨by kernel_rfl⟩
instance : Typ Try.prog 71 8 true := ⟨by kernel_rfl⟩
instance : Zer Try.prog 71 [.v (.int .i64 0), .v (.int .i64 0), .v (.int .i64 0), .v (.int .i64 0), .v (.int .i64 0), .v (.int .i64 0), .v (.string ⟨#[]⟩), .v (.slice none 0 0)] := ⟨[.int .i64 0, .int .i64 0, .int .i64 0, .int .i64 0, .int .i64 0, .int .i64 0, .string ⟨#[]⟩, .slice none 0 0], by kernel_rfl, rfl, rfl⟩
instance : Plc Try.prog 71 [(0, 1), (1, 1), (2, 1), (3, 1), (4, 1), (5, 1), (6, 1), (7, 1)] := ⟨by kernel_rfl⟩
instance : Fld Try.prog 71 0 0 1 := ⟨by kernel_rfl⟩
instance : Fld Try.prog 71 1 1 1 := ⟨by kernel_rfl⟩
instance : Fld Try.prog 71 2 2 1 := ⟨by kernel_rfl⟩
instance : Fld Try.prog 71 3 3 1 := ⟨by kernel_rfl⟩
instance : Fld Try.prog 71 4 4 1 := ⟨by kernel_rfl⟩
instance : Fld Try.prog 71 5 5 1 := ⟨by kernel_rfl⟩
instance : Fld Try.prog 71 6 6 1 := ⟨by kernel_rfl⟩
instance : Fld Try.prog 71 7 7 1 := ⟨by kernel_rfl⟩
instance : Typ Try.prog 72 1 false := ⟨by kernel_rfl⟩
instance : Typ Try.prog 73 1 false := ⟨by kernel_rfl⟩
instance : Zer Try.prog 73 [.v .nilFunc] := ⟨[.nilFunc], by kernel_rfl, rfl, rfl⟩
instance : Typ Try.prog 74 1 false := ⟨by kernel_rfl⟩
instance : Zer Try.prog 74 [.v .nilFunc] := ⟨[.nilFunc], by kernel_rfl, rfl, rfl⟩
instance : Typ Try.prog 75 1 false := ⟨by kernel_rfl⟩
instance : Zer Try.prog 75 [.v .nilFunc] := ⟨[.nilFunc], by kernel_rfl, rfl, rfl⟩
instance : Typ Try.prog 76 1 false := ⟨by kernel_rfl⟩
instance : Zer Try.prog 76 [.v (.int .i64 0)] := ⟨[.int .i64 0], by kernel_rfl, rfl, rfl⟩
instance : Typ Try.prog 77 1 false := ⟨by kernel_rfl⟩
instance : Typ Try.prog 78 1 false := ⟨by kernel_rfl⟩
instance : Zer Try.prog 78 [.v .nilFunc] := ⟨[.nilFunc], by kernel_rfl, rfl, rfl⟩
instance : Typ Try.prog 79 1 false := ⟨by kernel_rfl⟩
instance : Elm Try.prog 79 83 7 64 := ⟨by kernel_rfl, by decide⟩
instance : Zer Try.prog 79 [.v (.slice none 0 0)] := ⟨[.slice none 0 0], by kernel_rfl, rfl, rfl⟩
instance : Typ Try.prog 80 1 false := ⟨by kernel_rfl⟩
instance : Typ Try.prog 81 1 false := ⟨by kernel_rfl⟩
instance : Zer Try.prog 81 [.v .nilFunc] := ⟨[.nilFunc], by kernel_rfl, rfl, rfl⟩
instance : Typ Try.prog 82 7 true := ⟨by kernel_rfl⟩
instance : Zer Try.prog 82 [.v (.int .i64 0), .v (.int .i64 0), .v (.string ⟨#[]⟩), .v (.int .i64 0), .v (.int .i64 0), .v (.int .i64 0), .v (.int .i64 0)] := ⟨[.int .i64 0, .int .i64 0, .string ⟨#[]⟩, .int .i64 0, .int .i64 0, .int .i64 0, .int .i64 0], by kernel_rfl, rfl, rfl⟩
instance : Plc Try.prog 82 [(0, 2), (2, 1), (3, 2), (5, 2)] := ⟨by kernel_rfl⟩
instance : Fld Try.prog 82 0 0 2 := ⟨by kernel_rfl⟩
instance : Fld Try.prog 82 1 2 1 := ⟨by kernel_rfl⟩
instance : Fld Try.prog 82 2 3 2 := ⟨by kernel_rfl⟩
instance : Fld Try.prog 82 3 5 2 := ⟨by kernel_rfl⟩
instance : Typ Try.prog 83 7 true := ⟨by kernel_rfl⟩
instance : Zer Try.prog 83 [.v (.int .i64 0), .v (.int .i64 0), .v (.string ⟨#[]⟩), .v (.int .i64 0), .v (.int .i64 0), .v (.int .i64 0), .v (.int .i64 0)] := ⟨[.int .i64 0, .int .i64 0, .string ⟨#[]⟩, .int .i64 0, .int .i64 0, .int .i64 0, .int .i64 0], by kernel_rfl, rfl, rfl⟩
instance : Plc Try.prog 83 [(0, 2), (2, 1), (3, 2), (5, 2)] := ⟨by kernel_rfl⟩
instance : Fld Try.prog 83 0 0 2 := ⟨by kernel_rfl⟩
instance : Fld Try.prog 83 1 2 1 := ⟨by kernel_rfl⟩
instance : Fld Try.prog 83 2 3 2 := ⟨by kernel_rfl⟩
instance : Fld Try.prog 83 3 5 2 := ⟨by kernel_rfl⟩
instance : Typ Try.prog 84 1 false := ⟨by kernel_rfl⟩
instance : Zer Try.prog 84 [.v .nilFunc] := ⟨[.nilFunc], by kernel_rfl, rfl, rfl⟩
instance : Typ Try.prog 85 1 false := ⟨by kernel_rfl⟩
instance : Zer Try.prog 85 [.v .nilFunc] := ⟨[.nilFunc], by kernel_rfl, rfl, rfl⟩
instance : Typ Try.prog 86 1 false := ⟨by kernel_rfl⟩
instance : Zer Try.prog 86 [.v .nilFunc] := ⟨[.nilFunc], by kernel_rfl, rfl, rfl⟩
instance : Typ Try.prog 87 1 false := ⟨by kernel_rfl⟩
instance : Zer Try.prog 87 [.v .nilFunc] := ⟨[.nilFunc], by kernel_rfl, rfl, rfl⟩
instance : Typ Try.prog 88 1 false := ⟨by kernel_rfl⟩
instance : Elm Try.prog 88 9 1 16 := ⟨by kernel_rfl, by decide⟩
instance : Zer Try.prog 88 [.v (.slice none 0 0)] := ⟨[.slice none 0 0], by kernel_rfl, rfl, rfl⟩
instance : Typ Try.prog 89 1 false := ⟨by kernel_rfl⟩
instance : Zer Try.prog 89 [.v .nilFunc] := ⟨[.nilFunc], by kernel_rfl, rfl, rfl⟩
instance : Typ Try.prog 90 1 false := ⟨by kernel_rfl⟩
instance : Zer Try.prog 90 [.v .nilFunc] := ⟨[.nilFunc], by kernel_rfl, rfl, rfl⟩
instance : Typ Try.prog 91 1 false := ⟨by kernel_rfl⟩
instance : Zer Try.prog 91 [.v .nilFunc] := ⟨[.nilFunc], by kernel_rfl, rfl, rfl⟩
instance : Typ Try.prog 92 1 false := ⟨by kernel_rfl⟩
instance : Zer Try.prog 92 [.v .nilFunc] := ⟨[.nilFunc], by kernel_rfl, rfl, rfl⟩
instance : Typ Try.prog 93 1 false := ⟨by kernel_rfl⟩
instance : Zer Try.prog 93 [.v .nilFunc] := ⟨[.nilFunc], by kernel_rfl, rfl, rfl⟩
instance : Typ Try.prog 94 1 false := ⟨by kernel_rfl⟩
instance : Typ Try.prog 95 1 false := ⟨by kernel_rfl⟩
instance : Zer Try.prog 95 [.v .nilFunc] := ⟨[.nilFunc], by kernel_rfl, rfl, rfl⟩
instance : Typ Try.prog 96 1 false := ⟨by kernel_rfl⟩
instance : Zer Try.prog 96 [.v .nilFunc] := ⟨[.nilFunc], by kernel_rfl, rfl, rfl⟩
instance : Typ Try.prog 97 1 false := ⟨by kernel_rfl⟩
instance : Typ Try.prog 98 1 false := ⟨by kernel_rfl⟩
instance : Zer Try.prog 98 [.v .nilFunc] := ⟨[.nilFunc], by kernel_rfl, rfl, rfl⟩
instance : Typ Try.prog 99 1 false := ⟨by kernel_rfl⟩
instance : Zer Try.prog 99 [.v .nilFunc] := ⟨[.nilFunc], by kernel_rfl, rfl, rfl⟩
instance : Typ Try.prog 100 1 false := ⟨by kernel_rfl⟩
instance : Typ Try.prog 101 1 false := ⟨by kernel_rfl⟩
instance : Zer Try.prog 101 [.v .nilFunc] := ⟨[.nilFunc], by kernel_rfl, rfl, rfl⟩
instance : Typ Try.prog 102 1 false := ⟨by kernel_rfl⟩
instance : Zer Try.prog 102 [.v .nilFunc] := ⟨[.nilFunc], by kernel_rfl, rfl, rfl⟩
instance : Typ Try.prog 103 1 false := ⟨by kernel_rfl⟩
instance : Zer Try.prog 103 [.v .nilFunc] := ⟨[.nilFunc], by kernel_rfl, rfl, rfl⟩
instance : Typ Try.prog 104 1 false := ⟨by kernel_rfl⟩
instance : Zer Try.prog 104 [.v .nilFunc] := ⟨[.nilFunc], by kernel_rfl, rfl, rfl⟩
instance : Typ Try.prog 105 1 false := ⟨by kernel_rfl⟩
instance : Zer Try.prog 105 [.v (.pointer none)] := ⟨[.pointer none], by kernel_rfl, rfl, rfl⟩
instance : Typ Try.prog 106 1 false := ⟨by kernel_rfl⟩
instance : Zer Try.prog 106 [.v .nilFunc] := ⟨[.nilFunc], by kernel_rfl, rfl, rfl⟩
instance : Typ Try.prog 107 1 false := ⟨by kernel_rfl⟩
instance : Zer Try.prog 107 [.v .nilFunc] := ⟨[.nilFunc], by kernel_rfl, rfl, rfl⟩
instance : Typ Try.prog 108 1 false := ⟨by kernel_rfl⟩
instance : Zer Try.prog 108 [.v .nilFunc] := ⟨[.nilFunc], by kernel_rfl, rfl, rfl⟩
instance : Typ Try.prog 109 1 false := ⟨by kernel_rfl⟩
instance : Zer Try.prog 109 [.v .nilFunc] := ⟨[.nilFunc], by kernel_rfl, rfl, rfl⟩
instance : Typ Try.prog 110 1 false := ⟨by kernel_rfl⟩
instance : Zer Try.prog 110 [.v .nilFunc] := ⟨[.nilFunc], by kernel_rfl, rfl, rfl⟩
instance : Typ Try.prog 111 2 true := ⟨by kernel_rfl⟩
instance : Zer Try.prog 111 [.v (.string ⟨#[]⟩), .v (.int .i64 0)] := ⟨[.string ⟨#[]⟩, .int .i64 0], by kernel_rfl, rfl, rfl⟩
instance : Plc Try.prog 111 [(0, 1), (1, 1)] := ⟨by kernel_rfl⟩
instance : Fld Try.prog 111 0 0 1 := ⟨by kernel_rfl⟩
instance : Fld Try.prog 111 1 1 1 := ⟨by kernel_rfl⟩
instance : Typ Try.prog 112 2 true := ⟨by kernel_rfl⟩
instance : Zer Try.prog 112 [.v (.string ⟨#[]⟩), .v (.int .i64 0)] := ⟨[.string ⟨#[]⟩, .int .i64 0], by kernel_rfl, rfl, rfl⟩
instance : Plc Try.prog 112 [(0, 1), (1, 1)] := ⟨by kernel_rfl⟩
instance : Fld Try.prog 112 0 0 1 := ⟨by kernel_rfl⟩
instance : Fld Try.prog 112 1 1 1 := ⟨by kernel_rfl⟩
instance : Typ Try.prog 113 1 false := ⟨by kernel_rfl⟩
instance : Zer Try.prog 113 [.v .nilFunc] := ⟨[.nilFunc], by kernel_rfl, rfl, rfl⟩
instance : Typ Try.prog 114 1 false := ⟨by kernel_rfl⟩
instance : Zer Try.prog 114 [.v .nilFunc] := ⟨[.nilFunc], by kernel_rfl, rfl, rfl⟩
instance : Typ Try.prog 115 1 false := ⟨by kernel_rfl⟩
instance : Zer Try.prog 115 [.v .nilFunc] := ⟨[.nilFunc], by kernel_rfl, rfl, rfl⟩
instance : Typ Try.prog 116 1 false := ⟨by kernel_rfl⟩
instance : Zer Try.prog 116 [.v .nilFunc] := ⟨[.nilFunc], by kernel_rfl, rfl, rfl⟩
instance : Typ Try.prog 117 1 false := ⟨by kernel_rfl⟩
instance : Zer Try.prog 117 [.v .nilFunc] := ⟨[.nilFunc], by kernel_rfl, rfl, rfl⟩
instance : Typ Try.prog 118 1 false := ⟨by kernel_rfl⟩
instance : Typ Try.prog 119 1 false := ⟨by kernel_rfl⟩
instance : Zer Try.prog 119 [.v .nilFunc] := ⟨[.nilFunc], by kernel_rfl, rfl, rfl⟩
instance : Typ Try.prog 120 1 false := ⟨by kernel_rfl⟩
instance : Zer Try.prog 120 [.v .nilFunc] := ⟨[.nilFunc], by kernel_rfl, rfl, rfl⟩
instance : Typ Try.prog 121 1 false := ⟨by kernel_rfl⟩
instance : Zer Try.prog 121 [.v .nilFunc] := ⟨[.nilFunc], by kernel_rfl, rfl, rfl⟩
instance : Typ Try.prog 122 1 false := ⟨by kernel_rfl⟩
instance : Zer Try.prog 122 [.v .nilFunc] := ⟨[.nilFunc], by kernel_rfl, rfl, rfl⟩
instance : Typ Try.prog 123 1 false := ⟨by kernel_rfl⟩
instance : Zer Try.prog 123 [.v .nilFunc] := ⟨[.nilFunc], by kernel_rfl, rfl, rfl⟩
instance : Typ Try.prog 124 1 false := ⟨by kernel_rfl⟩
instance : Zer Try.prog 124 [.v .nilFunc] := ⟨[.nilFunc], by kernel_rfl, rfl, rfl⟩
instance : Typ Try.prog 125 1 false := ⟨by kernel_rfl⟩
instance : Zer Try.prog 125 [.v .nilFunc] := ⟨[.nilFunc], by kernel_rfl, rfl, rfl⟩
instance : Typ Try.prog 126 1 false := ⟨by kernel_rfl⟩
instance : Zer Try.prog 126 [.v .nilFunc] := ⟨[.nilFunc], by kernel_rfl, rfl, rfl⟩
instance : Typ Try.prog 127 1 false := ⟨by kernel_rfl⟩
instance : Zer Try.prog 127 [.v .nilFunc] := ⟨[.nilFunc], by kernel_rfl, rfl, rfl⟩
instance : Typ Try.prog 128 1 false := ⟨by kernel_rfl⟩
instance : Zer Try.prog 128 [.v .nilFunc] := ⟨[.nilFunc], by kernel_rfl, rfl, rfl⟩
instance : Typ Try.prog 129 1 false := ⟨by kernel_rfl⟩
instance : Zer Try.prog 129 [.v .nilFunc] := ⟨[.nilFunc], by kernel_rfl, rfl, rfl⟩
instance : Typ Try.prog 130 1 false := ⟨by kernel_rfl⟩
instance : Zer Try.prog 130 [.v .nilFunc] := ⟨[.nilFunc], by kernel_rfl, rfl, rfl⟩
instance : Typ Try.prog 131 1 false := ⟨by kernel_rfl⟩
instance : Typ Try.prog 132 1 false := ⟨by kernel_rfl⟩
instance : Zer Try.prog 132 [.v .nilFunc] := ⟨[.nilFunc], by kernel_rfl, rfl, rfl⟩
instance : Typ Try.prog 133 1 false := ⟨by kernel_rfl⟩
instance : Zer Try.prog 133 [.v .nilFunc] := ⟨[.nilFunc], by kernel_rfl, rfl, rfl⟩
instance : Typ Try.prog 134 1 false := ⟨by kernel_rfl⟩
instance : Zer Try.prog 134 [.v .nilFunc] := ⟨[.nilFunc], by kernel_rfl, rfl, rfl⟩
instance : Typ Try.prog 135 1 false := ⟨by kernel_rfl⟩
instance : Zer Try.prog 135 [.v .nilFunc] := ⟨[.nilFunc], by kernel_rfl, rfl, rfl⟩
instance : Typ Try.prog 136 1 false := ⟨by kernel_rfl⟩
instance : Zer Try.prog 136 [.v .nilFunc] := ⟨[.nilFunc], by kernel_rfl, rfl, rfl⟩
instance : Typ Try.prog 137 1 false := ⟨by kernel_rfl⟩
instance : Zer Try.prog 137 [.v .nilFunc] := ⟨[.nilFunc], by kernel_rfl, rfl, rfl⟩
instance : Typ Try.prog 138 1 false := ⟨by kernel_rfl⟩
instance : Zer Try.prog 138 [.v .nilFunc] := ⟨[.nilFunc], by kernel_rfl, rfl, rfl⟩
instance : Typ Try.prog 139 1 false := ⟨by kernel_rfl⟩
instance : Zer Try.prog 139 [.v .nilFunc] := ⟨[.nilFunc], by kernel_rfl, rfl, rfl⟩
instance : Typ Try.prog 140 1 false := ⟨by kernel_rfl⟩
instance : Zer Try.prog 140 [.v .nilFunc] := ⟨[.nilFunc], by kernel_rfl, rfl, rfl⟩
instance : Typ Try.prog 141 1 false := ⟨by kernel_rfl⟩
instance : Elm Try.prog 141 36 1 8 := ⟨by kernel_rfl, by decide⟩
instance : Zer Try.prog 141 [.v (.slice none 0 0)] := ⟨[.slice none 0 0], by kernel_rfl, rfl, rfl⟩
instance : Typ Try.prog 142 1 false := ⟨by kernel_rfl⟩
instance : Zer Try.prog 142 [.v .nilFunc] := ⟨[.nilFunc], by kernel_rfl, rfl, rfl⟩
instance : Typ Try.prog 143 1 false := ⟨by kernel_rfl⟩
instance : Zer Try.prog 143 [.v .nilFunc] := ⟨[.nilFunc], by kernel_rfl, rfl, rfl⟩
instance : Typ Try.prog 144 1 false := ⟨by kernel_rfl⟩
instance : Zer Try.prog 144 [.v .nilFunc] := ⟨[.nilFunc], by kernel_rfl, rfl, rfl⟩
instance : Typ Try.prog 145 1 false := ⟨by kernel_rfl⟩
instance : Zer Try.prog 145 [.v .nilFunc] := ⟨[.nilFunc], by kernel_rfl, rfl, rfl⟩
instance : Typ Try.prog 146 1 false := ⟨by kernel_rfl⟩
instance : Zer Try.prog 146 [.v .nilFunc] := ⟨[.nilFunc], by kernel_rfl, rfl, rfl⟩
instance : Typ Try.prog 147 1 false := ⟨by kernel_rfl⟩
instance : Zer Try.prog 147 [.v .nilFunc] := ⟨[.nilFunc], by kernel_rfl, rfl, rfl⟩
instance : Typ Try.prog 148 1 false := ⟨by kernel_rfl⟩
instance : Zer Try.prog 148 [.v .nilFunc] := ⟨[.nilFunc], by kernel_rfl, rfl, rfl⟩
instance : Typ Try.prog 149 1 false := ⟨by kernel_rfl⟩
instance : Zer Try.prog 149 [.v .nilFunc] := ⟨[.nilFunc], by kernel_rfl, rfl, rfl⟩
instance : Typ Try.prog 150 256 true := ⟨by kernel_rfl⟩
instance : Typ Try.prog 151 256 true := ⟨by kernel_rfl⟩
instance : Typ Try.prog 152 1 false := ⟨by kernel_rfl⟩
instance : Typ Try.prog 153 1 false := ⟨by kernel_rfl⟩
instance : Zer Try.prog 153 [.v .nilFunc] := ⟨[.nilFunc], by kernel_rfl, rfl, rfl⟩
instance : Typ Try.prog 154 1 false := ⟨by kernel_rfl⟩
instance : Zer Try.prog 154 [.v .nilFunc] := ⟨[.nilFunc], by kernel_rfl, rfl, rfl⟩
instance : Typ Try.prog 155 1 false := ⟨by kernel_rfl⟩
instance : Zer Try.prog 155 [.v .nilFunc] := ⟨[.nilFunc], by kernel_rfl, rfl, rfl⟩
instance : Typ Try.prog 156 1 false := ⟨by kernel_rfl⟩
instance : Zer Try.prog 156 [.v (.int .u64 0)] := ⟨[.int .u64 0], by kernel_rfl, rfl, rfl⟩
instance : Typ Try.prog 157 1 false := ⟨by kernel_rfl⟩
instance : Zer Try.prog 157 [.v (.pointer none)] := ⟨[.pointer none], by kernel_rfl, rfl, rfl⟩
instance : Typ Try.prog 158 4 true := ⟨by kernel_rfl⟩
instance : Zer Try.prog 158 [.v (.pointer none), .v (.pointer none), .v (.pointer none), .v (.string ⟨#[]⟩)] := ⟨[.pointer none, .pointer none, .pointer none, .string ⟨#[]⟩], by kernel_rfl, rfl, rfl⟩
instance : Plc Try.prog 158 [(0, 1), (1, 1), (2, 1), (3, 1)] := ⟨by kernel_rfl⟩
instance : Fld Try.prog 158 0 0 1 := ⟨by kernel_rfl⟩
instance : Fld Try.prog 158 1 1 1 := ⟨by kernel_rfl⟩
instance : Fld Try.prog 158 2 2 1 := ⟨by kernel_rfl⟩
instance : Fld Try.prog 158 3 3 1 := ⟨by kernel_rfl⟩
instance : Typ Try.prog 159 4 true := ⟨by kernel_rfl⟩
instance : Zer Try.prog 159 [.v (.pointer none), .v (.pointer none), .v (.pointer none), .v (.string ⟨#[]⟩)] := ⟨[.pointer none, .pointer none, .pointer none, .string ⟨#[]⟩], by kernel_rfl, rfl, rfl⟩
instance : Plc Try.prog 159 [(0, 1), (1, 1), (2, 1), (3, 1)] := ⟨by kernel_rfl⟩
instance : Fld Try.prog 159 0 0 1 := ⟨by kernel_rfl⟩
instance : Fld Try.prog 159 1 1 1 := ⟨by kernel_rfl⟩
instance : Fld Try.prog 159 2 2 1 := ⟨by kernel_rfl⟩
instance : Fld Try.prog 159 3 3 1 := ⟨by kernel_rfl⟩
instance : Typ Try.prog 160 0 true := ⟨by kernel_rfl⟩
instance : Typ Try.prog 161 0 true := ⟨by kernel_rfl⟩
instance : Plc Try.prog 161 [(0, 0)] := ⟨by kernel_rfl⟩
instance : Typ Try.prog 162 0 true := ⟨by kernel_rfl⟩
instance : Plc Try.prog 162 [(0, 0)] := ⟨by kernel_rfl⟩
instance : Typ Try.prog 163 1 false := ⟨by kernel_rfl⟩
instance : Zer Try.prog 163 [.v .nilFunc] := ⟨[.nilFunc], by kernel_rfl, rfl, rfl⟩
instance : Typ Try.prog 164 1 false := ⟨by kernel_rfl⟩
instance : Zer Try.prog 164 [.v (.int .u32 0)] := ⟨[.int .u32 0], by kernel_rfl, rfl, rfl⟩
instance : Typ Try.prog 165 1 false := ⟨by kernel_rfl⟩
instance : Zer Try.prog 165 [.v (.int .u8 0)] := ⟨[.int .u8 0], by kernel_rfl, rfl, rfl⟩
instance : Typ Try.prog 166 1 false := ⟨by kernel_rfl⟩
instance : Zer Try.prog 166 [.v (.int .u8 0)] := ⟨[.int .u8 0], by kernel_rfl, rfl, rfl⟩
instance : Typ Try.prog 167 1 false := ⟨by kernel_rfl⟩
instance : Zer Try.prog 167 [.v .nilFunc] := ⟨[.nilFunc], by kernel_rfl, rfl, rfl⟩
instance : Typ Try.prog 168 1 false := ⟨by kernel_rfl⟩
instance : Zer Try.prog 168 [.v (.pointer none)] := ⟨[.pointer none], by kernel_rfl, rfl, rfl⟩
instance : Typ Try.prog 169 1 false := ⟨by kernel_rfl⟩
instance : Zer Try.prog 169 [.v (.int .i32 0)] := ⟨[.int .i32 0], by kernel_rfl, rfl, rfl⟩
instance : Typ Try.prog 170 1 false := ⟨by kernel_rfl⟩
instance : Zer Try.prog 170 [.v (.int .i32 0)] := ⟨[.int .i32 0], by kernel_rfl, rfl, rfl⟩
instance : Typ Try.prog 171 11 true := ⟨by kernel_rfl⟩
instance : Zer Try.prog 171 [.v (.int .u64 0), .v (.int .u64 0), .v (.int .u32 0), .v (.int .u8 0), .v (.int .u8 0), .v (.int .u8 0), .v (.int .u8 0), .v .nilFunc, .v (.pointer none), .v (.int .i32 0), .v (.int .i32 0)] := ⟨[.int .u64 0, .int .u64 0, .int .u32 0, .int .u8 0, .int .u8 0, .int .u8 0, .int .u8 0, .nilFunc, .pointer none, .int .i32 0, .int .i32 0], by kernel_rfl, rfl, rfl⟩
instance : Plc Try.prog 171 [(0, 1), (1, 1), (2, 1), (3, 1), (4, 1), (5, 1), (6, 1), (7, 1), (8, 1), (9, 1), (10, 1)] := ⟨by kernel_rfl⟩
instance : Fld Try.prog 171 0 0 1 := ⟨by kernel_rfl⟩
instance : Fld Try.prog 171 1 1 1 := ⟨by kernel_rfl⟩
instance : Fld Try.prog 171 2 2 1 := ⟨by kernel_rfl⟩
instance : Fld Try.prog 171 3 3 1 := ⟨by kernel_rfl⟩
instance : Fld Try.prog 171 4 4 1 := ⟨by kernel_rfl⟩
instance : Fld Try.prog 171 5 5 1 := ⟨by kernel_rfl⟩
instance : Fld Try.prog 171 6 6 1 := ⟨by kernel_rfl⟩
instance : Fld Try.prog 171 7 7 1 := ⟨by kernel_rfl⟩
instance : Fld Try.prog 171 8 8 1 := ⟨by kernel_rfl⟩
instance : Fld Try.prog 171 9 9 1 := ⟨by kernel_rfl⟩
instance : Fld Try.prog 171 10 10 1 := ⟨by kernel_rfl⟩
instance : Typ Try.prog 172 11 true := ⟨by kernel_rfl⟩
instance : Zer Try.prog 172 [.v (.int .u64 0), .v (.int .u64 0), .v (.int .u32 0), .v (.int .u8 0), .v (.int .u8 0), .v (.int .u8 0), .v (.int .u8 0), .v .nilFunc, .v (.pointer none), .v (.int .i32 0), .v (.int .i32 0)] := ⟨[.int .u64 0, .int .u64 0, .int .u32 0, .int .u8 0, .int .u8 0, .int .u8 0, .int .u8 0, .nilFunc, .pointer none, .int .i32 0, .int .i32 0], by kernel_rfl, rfl, rfl⟩
instance : Plc Try.prog 172 [(0, 1), (1, 1), (2, 1), (3, 1), (4, 1), (5, 1), (6, 1), (7, 1), (8, 1), (9, 1), (10, 1)] := ⟨by kernel_rfl⟩
instance : Fld Try.prog 172 0 0 1 := ⟨by kernel_rfl⟩
instance : Fld Try.prog 172 1 1 1 := ⟨by kernel_rfl⟩
instance : Fld Try.prog 172 2 2 1 := ⟨by kernel_rfl⟩
instance : Fld Try.prog 172 3 3 1 := ⟨by kernel_rfl⟩
instance : Fld Try.prog 172 4 4 1 := ⟨by kernel_rfl⟩
instance : Fld Try.prog 172 5 5 1 := ⟨by kernel_rfl⟩
instance : Fld Try.prog 172 6 6 1 := ⟨by kernel_rfl⟩
instance : Fld Try.prog 172 7 7 1 := ⟨by kernel_rfl⟩
instance : Fld Try.prog 172 8 8 1 := ⟨by kernel_rfl⟩
instance : Fld Try.prog 172 9 9 1 := ⟨by kernel_rfl⟩
instance : Fld Try.prog 172 10 10 1 := ⟨by kernel_rfl⟩
instance : Typ Try.prog 173 1 false := ⟨by kernel_rfl⟩
instance : Zer Try.prog 173 [.v (.pointer none)] := ⟨[.pointer none], by kernel_rfl, rfl, rfl⟩
instance : Fun Try.prog 2 := ⟨by kernel_rfl⟩
instance : Fun Try.prog 3 := ⟨by kernel_rfl⟩
instance : Fun Try.prog 4 := ⟨by kernel_rfl⟩
instance : Fun Try.prog 5 := ⟨by kernel_rfl⟩
instance : Fun Try.prog 6 := ⟨by kernel_rfl⟩
instance : Fun Try.prog 7 := ⟨by kernel_rfl⟩
instance : Fun Try.prog 8 := ⟨by kernel_rfl⟩
instance : Fun Try.prog 9 := ⟨by kernel_rfl⟩
instance : Fun Try.prog 10 := ⟨by kernel_rfl⟩
instance : Fun Try.prog 11 := ⟨by kernel_rfl⟩
instance : Fun Try.prog 12 := ⟨by kernel_rfl⟩
instance : Fun Try.prog 13 := ⟨by kernel_rfl⟩
instance : Fun Try.prog 14 := ⟨by kernel_rfl⟩
instance : Fun Try.prog 15 := ⟨by kernel_rfl⟩
instance : Fun Try.prog 16 := ⟨by kernel_rfl⟩
instance : Fun Try.prog 17 := ⟨by kernel_rfl⟩
instance : Fun Try.prog 18 := ⟨by kernel_rfl⟩
instance : Fun Try.prog 19 := ⟨by kernel_rfl⟩
instance : Fun Try.prog 20 := ⟨by kernel_rfl⟩
instance : Fun Try.prog 21 := ⟨by kernel_rfl⟩
instance : Fun Try.prog 22 := ⟨by kernel_rfl⟩
instance : Fun Try.prog 23 := ⟨by kernel_rfl⟩
instance : Fun Try.prog 24 := ⟨by kernel_rfl⟩
instance : Fun Try.prog 25 := ⟨by kernel_rfl⟩
instance : Fun Try.prog 26 := ⟨by kernel_rfl⟩
instance : Fun Try.prog 27 := ⟨by kernel_rfl⟩
instance : Fun Try.prog 28 := ⟨by kernel_rfl⟩
instance : Fun Try.prog 29 := ⟨by kernel_rfl⟩
instance : Fun Try.prog 30 := ⟨by kernel_rfl⟩
instance : Fun Try.prog 31 := ⟨by kernel_rfl⟩
instance : Fun Try.prog 32 := ⟨by kernel_rfl⟩
instance : Fun Try.prog 33 := ⟨by kernel_rfl⟩
instance : Fun Try.prog 34 := ⟨by kernel_rfl⟩
instance : Fun Try.prog 35 := ⟨by kernel_rfl⟩
instance : Fun Try.prog 36 := ⟨by kernel_rfl⟩
instance : Fun Try.prog 37 := ⟨by kernel_rfl⟩
instance : Fun Try.prog 38 := ⟨by kernel_rfl⟩
instance : Fun Try.prog 39 := ⟨by kernel_rfl⟩
instance : Fun Try.prog 40 := ⟨by kernel_rfl⟩
instance : Fun Try.prog 41 := ⟨by kernel_rfl⟩
instance : Fun Try.prog 42 := ⟨by kernel_rfl⟩
instance : Fun Try.prog 43 := ⟨by kernel_rfl⟩
instance : Fun Try.prog 44 := ⟨by kernel_rfl⟩
instance : Fun Try.prog 45 := ⟨by kernel_rfl⟩
instance : Fun Try.prog 46 := ⟨by kernel_rfl⟩
instance : Fun Try.prog 47 := ⟨by kernel_rfl⟩
instance : Fun Try.prog 48 := ⟨by kernel_rfl⟩
instance : Fun Try.prog 49 := ⟨by kernel_rfl⟩
instance : Fun Try.prog 50 := ⟨by kernel_rfl⟩
instance : Fun Try.prog 51 := ⟨by kernel_rfl⟩
instance : Fun Try.prog 52 := ⟨by kernel_rfl⟩
instance : Fun Try.prog 53 := ⟨by kernel_rfl⟩
instance : Fun Try.prog 54 := ⟨by kernel_rfl⟩
instance : Fun Try.prog 55 := ⟨by kernel_rfl⟩
instance : Fun Try.prog 56 := ⟨by kernel_rfl⟩
instance : Fun Try.prog 57 := ⟨by kernel_rfl⟩
instance : Fun Try.prog 58 := ⟨by kernel_rfl⟩
instance : Fun Try.prog 59 := ⟨by kernel_rfl⟩
instance : Fun Try.prog 60 := ⟨by kernel_rfl⟩
instance : Fun Try.prog 61 := ⟨by kernel_rfl⟩
instance : Fun Try.prog 62 := ⟨by kernel_rfl⟩
instance : Fun Try.prog 63 := ⟨by kernel_rfl⟩
instance : Fun Try.prog 64 := ⟨by kernel_rfl⟩
instance : Fun Try.prog 65 := ⟨by kernel_rfl⟩
instance : Fun Try.prog 66 := ⟨by kernel_rfl⟩
instance : Fun Try.prog 67 := ⟨by kernel_rfl⟩
instance : Fun Try.prog 68 := ⟨by kernel_rfl⟩
instance : Fun Try.prog 69 := ⟨by kernel_rfl⟩
instance : Fun Try.prog 70 := ⟨by kernel_rfl⟩
instance : Fun Try.prog 71 := ⟨by kernel_rfl⟩
instance : Fun Try.prog 72 := ⟨by kernel_rfl⟩
instance : Fun Try.prog 73 := ⟨by kernel_rfl⟩
instance : Fun Try.prog 74 := ⟨by kernel_rfl⟩
instance : Fun Try.prog 75 := ⟨by kernel_rfl⟩
instance : Fun Try.prog 76 := ⟨by kernel_rfl⟩
instance : Fun Try.prog 77 := ⟨by kernel_rfl⟩
instance : Fun Try.prog 78 := ⟨by kernel_rfl⟩
instance : Fun Try.prog 79 := ⟨by kernel_rfl⟩
instance : Fun Try.prog 80 := ⟨by kernel_rfl⟩
instance : Fun Try.prog 81 := ⟨by kernel_rfl⟩
instance : Fun Try.prog 82 := ⟨by kernel_rfl⟩
instance : Fun Try.prog 83 := ⟨by kernel_rfl⟩
instance : Fun Try.prog 84 := ⟨by kernel_rfl⟩
instance : Fun Try.prog 85 := ⟨by kernel_rfl⟩
instance : Fun Try.prog 86 := ⟨by kernel_rfl⟩
instance : Fun Try.prog 87 := ⟨by kernel_rfl⟩
instance : Fun Try.prog 88 := ⟨by kernel_rfl⟩
instance : Fun Try.prog 89 := ⟨by kernel_rfl⟩
instance : Fun Try.prog 90 := ⟨by kernel_rfl⟩
instance : Fun Try.prog 91 := ⟨by kernel_rfl⟩
instance : Fun Try.prog 92 := ⟨by kernel_rfl⟩
instance : Fun Try.prog 93 := ⟨by kernel_rfl⟩
instance : Fun Try.prog 94 := ⟨by kernel_rfl⟩
instance : Fun Try.prog 95 := ⟨by kernel_rfl⟩
instance : Fun Try.prog 96 := ⟨by kernel_rfl⟩
instance : Fun Try.prog 97 := ⟨by kernel_rfl⟩
instance : Fun Try.prog 98 := ⟨by kernel_rfl⟩
instance : Fun Try.prog 99 := ⟨by kernel_rfl⟩
instance : Fun Try.prog 100 := ⟨by kernel_rfl⟩
instance : Fun Try.prog 101 := ⟨by kernel_rfl⟩
instance : Fun Try.prog 102 := ⟨by kernel_rfl⟩
instance : Fun Try.prog 103 := ⟨by kernel_rfl⟩
instance : Fun Try.prog 104 := ⟨by kernel_rfl⟩
instance : Fun Try.prog 105 := ⟨by kernel_rfl⟩
instance : Fun Try.prog 106 := ⟨by kernel_rfl⟩
instance : Fun Try.prog 107 := ⟨by kernel_rfl⟩
instance : Fun Try.prog 108 := ⟨by kernel_rfl⟩
instance : Fun Try.prog 109 := ⟨by kernel_rfl⟩
instance : Fun Try.prog 110 := ⟨by kernel_rfl⟩
instance : Fun Try.prog 111 := ⟨by kernel_rfl⟩
instance : Fun Try.prog 112 := ⟨by kernel_rfl⟩
instance : Fun Try.prog 113 := ⟨by kernel_rfl⟩
instance : Fun Try.prog 114 := ⟨by kernel_rfl⟩
instance : Fun Try.prog 115 := ⟨by kernel_rfl⟩
instance : Fun Try.prog 116 := ⟨by kernel_rfl⟩
instance : Fun Try.prog 117 := ⟨by kernel_rfl⟩
instance : Fun Try.prog 118 := ⟨by kernel_rfl⟩
instance : Fun Try.prog 119 := ⟨by kernel_rfl⟩
instance : Fun Try.prog 120 := ⟨by kernel_rfl⟩
instance : Fun Try.prog 121 := ⟨by kernel_rfl⟩
instance : Fun Try.prog 122 := ⟨by kernel_rfl⟩
instance : Fun Try.prog 123 := ⟨by kernel_rfl⟩
instance : Fun Try.prog 125 := ⟨by kernel_rfl⟩
instance : Fun Try.prog 126 := ⟨by kernel_rfl⟩
instance : Fun Try.prog 127 := ⟨by kernel_rfl⟩
instance : Fun Try.prog 128 := ⟨by kernel_rfl⟩
instance : Fun Try.prog 129 := ⟨by kernel_rfl⟩
instance : Fun Try.prog 130 := ⟨by kernel_rfl⟩
instance : Fun Try.prog 131 := ⟨by kernel_rfl⟩
end Go.Proofs.Ytgliiknfmlmddaa
namespace Go.Proofs.Ytgliiknfmlmddaa

abbrev Str := ByteArray
abbrev Fil := Int × Int
abbrev Ent := Str × Int
abbrev Mnt := Int × Fil
abbrev Chg := Fil × Str × Fil × Fil
structure Nod where
  ino : Int
  kind : Int
  mode : Int
  uid : Int
  gid : Int
  parent : Int
  target : Str
  entries : List Ent
structure Dvc where
  next : Int
  nodes : List Nod
abbrev Fls := List Dvc
structure Spc where
  files : Fls
  mounts : List Mnt

def Nod.zero : Nod := ⟨0, 0, 0, 0, 0, 0, ⟨#[]⟩, []⟩

def idxBy {α : Type} (p : α → Bool) (l : List α) : Int :=
  match l.findIdx? p with
  | some i => (i : Int)
  | none => -1

def atI {α : Type} (l : List α) (i : Int) : Option α := if i < 0 then none else l[i.toNat]?

theorem atI_nat {α : Type} (l : List α) (k : Nat) : atI l (k : Int) = l[k]? := by
  simp [atI, show ¬ ((k : Int) < 0) by omega]
theorem atI_none {α : Type} {l : List α} {i : Int} (h : i < 0 ∨ (l.length : Int) ≤ i) : atI l i = none := by
  unfold atI
  split
  · rfl
  · rw [List.getElem?_eq_none]; omega
theorem atI_some {α : Type} {l : List α} {i : Int} {x : α} (h : atI l i = some x) : 0 ≤ i ∧ i < l.length ∧ l[i.toNat]? = some x := by
  unfold atI at h
  split at h
  · cases h
  · have := (List.getElem?_eq_some_iff.1 h).1
    exact ⟨by omega, by omega, h⟩

theorem findIdx?_first {α : Type} {p : α → Bool} {l : List α} {m : Nat} {x : α} (hx : l[m]? = some x) (hp : p x = true) (h : ∀ j y, j < m → l[j]? = some y → p y = false) : l.findIdx? p = some m := by
  have hl : m < l.length := (List.getElem?_eq_some_iff.1 hx).1
  rw [List.findIdx?_eq_some_iff_getElem]
  refine ⟨hl, by rw [(List.getElem?_eq_some_iff.1 hx).2]; exact hp, fun j hj => ?_⟩
  have := h j l[j] hj (List.getElem?_eq_getElem _)
  simp [this]
theorem idxBy_first {α : Type} {p : α → Bool} {l : List α} {m : Nat} {x : α} (hx : l[m]? = some x) (hp : p x = true) (h : ∀ j y, j < m → l[j]? = some y → p y = false) : idxBy p l = m := by
  unfold idxBy
  rw [findIdx?_first hx hp h]
theorem idxBy_none {α : Type} {p : α → Bool} {l : List α} (h : ∀ j y, j < l.length → l[j]? = some y → p y = false) : idxBy p l = -1 := by
  unfold idxBy
  rw [List.findIdx?_eq_none_iff.2]
  intro x hx
  obtain ⟨j, hj, rfl⟩ := List.mem_iff_getElem.1 hx
  exact h j _ hj (List.getElem?_eq_getElem hj)
theorem upto_snoc {α : Type} {P : α → Prop} {l : List α} {m : Nat} {x : α} (hx : l[m]? = some x) (h : ∀ j y, j < m → l[j]? = some y → P y) (hp : P x) : ∀ j y, j < m + 1 → l[j]? = some y → P y := by
  intro j y hj hy
  by_cases e : j = m
  · subst e
    rw [hx] at hy
    cases hy
    exact hp
  · exact h j y (by omega) hy

def indexL (f : Fls) (at_ : Fil) : Int :=
  match atI f at_.1 with
  | none => -1
  | some d => idxBy (fun n : Nod => n.ino == at_.2) d.nodes
def nodeL (f : Fls) (at_ : Fil) : Option Nod :=
  match atI f at_.1 with
  | none => none
  | some d => d.nodes.find? (fun n : Nod => n.ino == at_.2)

theorem find?_of_findIdx? {α : Type} {p : α → Bool} {l : List α} : (l.findIdx? p).bind (fun i => l[i]?) = l.find? p := by
  cases h : l.findIdx? p with
  | none =>
    rw [List.findIdx?_eq_none_iff] at h
    simp only [Option.bind_none]
    exact (List.find?_eq_none.2 (fun x hx => by simp [h x hx])).symm
  | some i =>
    obtain ⟨hi, hp, hf⟩ := List.findIdx?_eq_some_iff_getElem.1 h
    simp only [Option.bind_some, List.getElem?_eq_getElem hi]
    exact (List.find?_eq_some_iff_getElem.2 ⟨hp, i, hi, rfl, fun j hj => by simpa using hf j hj⟩).symm
theorem index_node (f : Fls) (at_ : Fil) : (indexL f at_ = -1 ∧ nodeL f at_ = none) ∨
    ∃ (k i : Nat) (d : Dvc) (n : Nod), at_.1 = k ∧ f[k]? = some d ∧ d.nodes[i]? = some n ∧ n.ino = at_.2 ∧ indexL f at_ = i ∧ nodeL f at_ = some n := by
  unfold indexL nodeL
  cases h : atI f at_.1 with
  | none => exact .inl ⟨rfl, rfl⟩
  | some d =>
    obtain ⟨h0, h1, h2⟩ := atI_some h
    simp only [← find?_of_findIdx?]
    unfold idxBy
    cases hi : d.nodes.findIdx? (fun n : Nod => n.ino == at_.2) with
    | none => exact .inl ⟨rfl, rfl⟩
    | some i =>
      obtain ⟨hl, hp, _⟩ := List.findIdx?_eq_some_iff_getElem.1 hi
      exact .inr ⟨at_.1.toNat, i, d, d.nodes[i], by omega, h2, List.getElem?_eq_getElem hl, by simpa using hp, rfl, by simp⟩

theorem str_eq (a b : Str) : (a.toList == b.toList) = decide (a = b) := by
  rw [ByteArray.toList_eq, ByteArray.toList_eq, Bool.eq_iff_iff]
  simp only [beq_iff_eq, decide_eq_true_eq]
  constructor
  · intro h
    cases a with
    | mk a =>
      cases b with
      | mk b => exact congrArg ByteArray.mk (Array.toList_inj.1 h)
  · intro h
    rw [h]
def byteOK (c : UInt8) : Bool := !((c.toNat : Int) == 0) && !((c.toNat : Int) == 47)
def nameL (s : Str) : Bool :=
  if s.size < 1 ∨ 12 < s.size then false else if (s.toList == [46]) = true then false else if (s.toList == [46, 46]) = true then false else s.data.toList.all byteOK
def targetL (s : Str) : Bool := s.data.toList.all (fun c => !((c.toNat : Int) == 0)) && decide (1 ≤ s.size) && decide (s.size ≤ 128)
theorem all_upto {p : UInt8 → Bool} {s : Str} (h : ∀ j (hj : j < s.size), p s[j] = true) : s.data.toList.all p = true := by
  rw [List.all_eq_true]
  intro c hc
  obtain ⟨j, hj, rfl⟩ := List.mem_iff_getElem.1 hc
  exact h j (by simpa using hj)
theorem all_not {p : UInt8 → Bool} {s : Str} {j : Nat} (hj : j < s.size) (h : p s[j] = false) : s.data.toList.all p = false := by
  rw [List.all_eq_false]
  refine ⟨s[j], ?_, by simp [h]⟩
  have : s[j] = s.data.toList[j]'(by simpa using hj) := rfl
  rw [this]
  exact List.getElem_mem _
theorem bytes_snoc {p : UInt8 → Bool} {s : Str} {m : Nat} (hm : m < s.size) (h : ∀ j (hj : j < s.size), j < m → p s[j] = true) (hp : p s[m] = true) : ∀ j (hj : j < s.size), j < m + 1 → p s[j] = true := by
  intro j hj hlt
  by_cases e : j = m
  · subst e; exact hp
  · exact h j hj (by omega)

def dirL (f : Fls) (at_ : Fil) : Bool :=
  match nodeL f at_ with
  | none => false
  | some n => n.kind == 2
def placeL (f : Fls) (dir : Fil) (name : Str) : Int :=
  match nodeL f dir with
  | none => 2
  | some n => if n.kind = 2 then (if nameL name then 0 else 22) else 20
def fullL (f : Fls) (dir : Fil) : Bool :=
  match nodeL f dir with
  | none => false
  | some n => decide (12 ≤ n.entries.length)
def emptyL (f : Fls) (dir : Fil) : Bool :=
  match nodeL f dir with
  | none => true
  | some n => decide (n.entries.length = 0)
def lookL (f : Fls) (dir : Fil) (name : Str) : Fil × Int :=
  match nodeL f dir with
  | none => ((0, 0), 2)
  | some n => if n.kind = 2 then
      match n.entries.find? (fun e : Ent => decide (e.1 = name)) with
      | none => ((0, 0), 2)
      | some e => ((dir.1, e.2), 0)
    else ((0, 0), 20)
def holdsL (n : Nod) (ino : Int) : Bool := n.entries.any fun e : Ent => e.2 == ino
def parentL (d : Dvc) (ino : Int) : Int :=
  match d.nodes.find? (fun n : Nod => n.ino == ino) with
  | none => 0
  | some n => n.parent
def plainL (n : Nod) : Bool :=
  if n.kind < 1 ∨ 3 < n.kind ∨ n.mode < 0 ∨ 511 < n.mode ∨ n.uid < 0 ∨ 4294967295 < n.uid ∨ n.gid < 0 ∨ 4294967295 < n.gid then false
  else if n.kind = 3 then targetL n.target else n.target.toList.isEmpty
end Go.Proofs.Ytgliiknfmlmddaa
namespace Go.Proofs.Ytgliiknfmlmddaa

def strLt (a b : Str) : Bool := Op.bytesLess a.toList b.toList
def entGo (name : Str) (ino : Int) : Bool → List Ent → List Ent
  | done, [] => if done then [] else [(name, ino)]
  | done, e :: r =>
    (if !done && !strLt e.1 name then [(name, ino)] else []) ++ ((if e.1 = name then [] else [e]) ++ entGo name ino (done || !strLt e.1 name) r)
def entL (es : List Ent) (name : Str) (ino : Int) : List Ent := entGo name ino (ino == 0) es

def cntE (ino : Int) (es : List Ent) : Nat := es.countP fun e : Ent => e.2 == ino
def cntN (ino : Int) (ns : List Nod) : Nat := cntE ino (ns.flatMap fun n => n.entries)
def linksF (f : Fls) (at_ : Fil) : Nat :=
  match nodeL f at_, atI f at_.1 with
  | some _, some d => cntN at_.2 d.nodes
  | _, _ => 0
theorem cntE_snoc {ino : Int} {es : List Ent} {k : Nat} {e : Ent} (h : es[k]? = some e) : cntE ino (es.take (k + 1)) = cntE ino (es.take k) + (if e.2 == ino then 1 else 0) := by
  unfold cntE
  rw [List.take_add_one, h, List.countP_append]
  simp [List.countP_cons]
theorem cntE_le (ino : Int) (es : List Ent) : cntE ino es ≤ es.length := List.countP_le_length
theorem cntN_snoc {ino : Int} {ns : List Nod} {m : Nat} {n : Nod} (h : ns[m]? = some n) : cntN ino (ns.take (m + 1)) = cntN ino (ns.take m) + cntE ino n.entries := by
  unfold cntN cntE
  rw [List.take_add_one, h, List.flatMap_append, List.countP_append]
  simp
def keepNot (ino : Int) (ns : List Nod) : List Nod := ns.filter fun n => n.ino != ino
def rootNod : Nod := ⟨1, 2, 493, 0, 0, 1, ⟨#[]⟩, []⟩
def rootDvc : Dvc := ⟨2, [rootNod]⟩
def newL (n : Int) : Fls × Int := if n < 1 ∨ 3 < n then ([], 50) else (List.replicate n.toNat rootDvc, 0)
abbrev ChgRes := Fls × List Chg × Int
def mkNod (n : Nod) (next dirIno : Int) : Nod := ⟨next, n.kind, n.mode, n.uid, n.gid, if n.kind = 2 then dirIno else 0, n.target, []⟩
end Go.Proofs.Ytgliiknfmlmddaa
