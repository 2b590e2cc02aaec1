/-
  A region that draws its order: an operation that yields the same whenever it comes up is taken first.
-/
import Derived.Test.YtokaaebbmcldaaaGreatDoorAvC
namespace Go.Proofs.YtokaaebbmcldaaaGreatDoor
open Go.RowKit

section
variable {P : Program} {N : Dim} {Q : Exit → AS → Prop} {ops : Array Oper} {S : AH → Prop} {tl : Nat}
theorem put_comm {x y : Option Tmp} (f : Nat → Option AV) (u v : AV) (h : ∀ d, x = some d → y ≠ some d) : put y v (put x u f) = put x u (put y v f) := by
  cases x with
  | none => rfl
  | some d =>
    cases y with
    | none => rfl
    | some e =>
      have hne : d ≠ e := fun he => h d rfl (he ▸ rfl)
      funext t
      simp only [put_some]
      by_cases h1 : d = t
      · by_cases h2 : e = t
        · exact absurd (h1.trans h2.symm) hne
        · rw [if_neg h2, if_pos h1, if_pos h1]
      · rw [if_neg h1, if_neg h1]
theorem put_other {d : Option Tmp} (f : Nat → Option AV) (u : AV) {t : Nat} (h : d ≠ some t) : put d u f t = f t := by
  cases d with
  | none => rfl
  | some d => rw [put_some, if_neg (fun e => h (by rw [e]))]
theorem evs_put {d : Option Tmp} (f : Nat → Option AV) (u : AV) {x : Operand} (h : ∀ t, d = some t → x ≠ .tmp t) : evs (put d u f) x = evs f x := by
  cases x with
  | tmp t => exact put_other f u (fun e => h t e rfl)
  | _ => rfl
theorem mem_looks {o : Oper} {t : Tmp} (h : Operand.tmp t ∈ o.op.operands) : t ∈ o.looksAt ops := by
  unfold Oper.looksAt
  refine List.mem_append.2 (.inl (List.mem_filterMap.2 ⟨.tmp t, by simpa using h, rfl⟩))
theorem wantedA_put {d : Option Tmp} {o : Oper} (f : Nat → Option AV) (u : AV) (h : ∀ t, d = some t → t ∉ o.looksAt ops) : wantedA ops (put d u f) o = wantedA ops f o := by
  unfold wantedA
  cases hg : o.guard with
  | none => rfl
  | some jw =>
    obtain ⟨j, want⟩ := jw
    simp only
    unfold yv
    cases hj : (ops[j]?).bind (·.dst) with
    | none => rfl
    | some t =>
      simp only
      rw [put_other f u]
      intro e
      refine h t e ?_
      unfold Oper.looksAt
      rw [hg]
      simp only [hj]
      exact List.mem_append.2 (.inr (by simp))

/-- It yields the same whenever it comes up. -/
def Steady (P : Program) (ops : Array Oper) (S : AH → Prop) (o : Oper) (x : AV) (f : Nat → Option AV) : Prop :=
  (wantedA ops f o = some true ∧ ∀ h, S h → AStep P o (evs f) h (fun x' h' => x' = x ∧ h' = h)) ∨ (wantedA ops f o = some false ∧ x = .v undef)
theorem Steady.put {o : Oper} {x : AV} {f : Nat → Option AV} (hs : Steady P ops S o x f) {d : Option Tmp} (u : AV) (h : ∀ t, d = some t → t ∉ o.looksAt ops) : Steady P ops S o x (put d u f) := by
  rcases hs with ⟨h1, h2⟩ | ⟨h1, h2⟩
  · exact .inl ⟨by rw [wantedA_put f u h]; exact h1, fun hh hS => (h2 hh hS).congr fun y hy => evs_put f u fun t e he => h t e (mem_looks (he ▸ hy))⟩
  · exact .inr ⟨by rw [wantedA_put f u h]; exact h1, h2⟩
theorem Steady.op {i : Nat} {o : Oper} {x : AV} {s : AS} {K : AS → Prop} (hi : ops[i]? = some o) (hd : dstIn o.dst N = true) (hs : Steady P ops S o x s.sl) (hS : S s.h) (hK : K ⟨Go.Proofs.YtokaaebbmcldaaaGreatDoor.put o.dst x s.sl, s.h⟩) : AOp P N ops i K s := by
  unfold AOp
  simp only [hi]
  refine ⟨hd, ?_⟩
  rcases hs with ⟨h1, h2⟩ | ⟨h1, h2⟩
  · exact ⟨true, h1, fun _ => (h2 s.h hS).mono fun x' h' ⟨e1, e2⟩ => by subst e1; subst e2; exact hK, fun h => by cases h⟩
  · exact ⟨false, h1, (fun h => by cases h), fun _ => by subst h2; exact hK⟩

/-- The operation tl waits for all others. -/
def tailOk (ops : Array Oper) (tl : Nat) : Bool :=
  match ops[tl]? with
  | none => true
  | some o => (List.range ops.size).all fun j => j == tl || o.after.any fun e => Region.binds .any e && e.on == j
theorem AAny.first {i : Nat} {oi : Oper} {x : AV} (hi : ops[i]? = some oi) (hd : dstIn oi.dst N = true) (htl : tailOk ops tl = true) (hit : i ≠ tl) :
    ∀ (fuel : Nat) (listed : Array Bool) (s : AS),
      (∀ j oj, ops[j]? = some oj → j ≠ i → listed.getD j true = false → (∀ e ∈ oj.after, Region.binds .any e = true → e.on ≠ i) → oi.apart ops oj = true) →
      i ∈ Region.ready .any ops listed → Steady P ops S oi x s.sl → S s.h →
      AAny P N ops Q S tl fuel (listed.setIfInBounds i true) ⟨put oi.dst x s.sl, s.h⟩ → AAny P N ops Q S tl (fuel + 1) listed s := by
  intro fuel
  induction fuel with
  | zero =>
    intro listed s _ hr hy hS H
    refine ⟨fun h => (by rw [h] at hr; cases hr), fun j hj => ?_⟩
    by_cases hji : j = i
    · subst hji; exact hy.op hi hd hS ⟨.inr hS, H⟩
    · have := ready_mono hj hji
      rw [H.1] at this
      cases this
  | succ fuel ih =>
    intro listed s hfree hr hy hS H
    refine ⟨fun h => (by rw [h] at hr; cases hr), fun j hj => ?_⟩
    by_cases hji : j = i
    · subst hji; exact hy.op hi hd hS ⟨.inr hS, H⟩
    · have h1 := H.2 j (ready_mono hj hji)
      obtain ⟨hjun, oj, hoj, hall⟩ := mem_ready.1 hj
      have hnot : ∀ e ∈ oj.after, Region.binds .any e = true → e.on ≠ i := fun e he hb heq => by
        have h1 := hall e he hb
        have h0 := (mem_ready.1 hr).1
        rw [heq] at h1
        rcases Nat.lt_or_ge i listed.size with h' | h'
        · simp [h'] at h0 h1; rw [h0] at h1; cases h1
        · simp [Array.getElem?_eq_none h'] at h1
      obtain ⟨a1, a2, a3⟩ := Oper.apart_spec (hfree j oj hoj hji hjun hnot)
      have hfree' : ∀ k ok, ops[k]? = some ok → k ≠ i → (listed.setIfInBounds j true).getD k true = false →
          (∀ e ∈ ok.after, Region.binds .any e = true → e.on ≠ i) → oi.apart ops ok = true := fun k ok hk hki hun hno => by
        refine hfree k ok hk hki ?_ hno
        by_cases hjk : j = k
        · subst hjk; exact hjun
        · rw [getD_set_ne true hjk] at hun; exact hun
      have hjt : j ≠ tl := by
        intro e
        subst e
        unfold tailOk at htl
        simp only [hoj] at htl
        have h1 := List.all_eq_true.1 htl i (List.mem_range.2 (Array.getElem?_eq_some_iff.1 hi).1)
        simp only [Bool.or_eq_true, beq_iff_eq, Ne.symm hji, false_or] at h1
        obtain ⟨e, he, hb⟩ := Array.any_eq_true'.1 h1
        simp only [Bool.and_eq_true, beq_iff_eq] at hb
        exact hnot e he hb.1 hb.2
      have hgo : ∀ (y : AV) (h' : AH), S h' → AAny P N ops Q S tl fuel ((listed.setIfInBounds i true).setIfInBounds j true) ⟨put oj.dst y (put oi.dst x s.sl), h'⟩ →
          AAny P N ops Q S tl (fuel + 1) (listed.setIfInBounds j true) ⟨put oj.dst y s.sl, h'⟩ := fun y h' hS' hA => by
        refine ih (listed.setIfInBounds j true) ⟨put oj.dst y s.sl, h'⟩ hfree' (ready_mono hr (Ne.symm hji)) (hy.put y a3) hS' ?_
        rw [Array.setIfInBounds_comm _ _ hji, ← put_comm s.sl x y a2]
        exact hA
      unfold AOp at h1 ⊢
      simp only [hoj] at h1 ⊢
      obtain ⟨k1, t, k2, k3, k4⟩ := h1
      rw [wantedA_put s.sl x a1] at k2
      refine ⟨k1, t, k2, fun ht => ?_, fun ht => ?_⟩
      · refine ((k3 ht).congr fun z hz => (evs_put s.sl x fun u e he => a1 u e (mem_looks (he ▸ hz))).symm).mono ?_
        rintro y h' ⟨q1, q2⟩
        have q1' := q1.resolve_left hjt
        exact ⟨.inr q1', hgo y h' q1' q2⟩
      · obtain ⟨q1, q2⟩ := k4 ht
        have q1' := q1.resolve_left hjt
        exact ⟨.inr q1', hgo (.v undef) s.h q1' q2⟩
end
section
variable {P : Program} {N : Dim} {Q : Exit → AS → Prop} {l : List Oper} {S : AH → Prop} {tl : Nat} {fuel : Nat} {listed : Array Bool} {f : Nat → Option AV} {h : AH}
theorem get_arr {i : Nat} {oi : Oper} (hi : l[i]? = some oi) : l.toArray[i]? = some oi := by simpa using hi
end
section
variable {P : Program} {N : Dim} {Q : Exit → AS → Prop} {l : List Oper} {S : AH → Prop} {tl : Nat} {fuel : Nat} {listed : Array Bool} {m : List (Nat × AV)} {h : AH} {op : Op} {ty : TypeId} {pos : String} {af : Array Edge} {gd : Option (Nat × Bool)}
/-- Taken first. -/
theorem aa_t {i d : Nat} {x : AV} (hi : l[i]? = some ⟨some d, op, ty, pos, af, gd⟩) (hd : Nat.blt d N.n = true) (htl : (tailOk l.toArray tl && !Nat.beq i tl && Region.free .any l.toArray listed i && (Region.ready .any l.toArray listed).contains i) = true)
    (hw : wantedA l.toArray (look m) ⟨some d, op, ty, pos, af, gd⟩ = some true) (hst : ∀ h, S h → AStep P ⟨some d, op, ty, pos, af, gd⟩ (evs (look m)) h (fun x' h' => x' = x ∧ h' = h)) (hS : S h)
    (H : AAny P N l.toArray Q S tl fuel (listed.setIfInBounds i true) ⟨look ((d, x) :: m), h⟩) : AAny P N l.toArray Q S tl (fuel + 1) listed ⟨look m, h⟩ := by
  simp only [Bool.and_eq_true, Bool.not_eq_true'] at htl
  obtain ⟨⟨⟨t1, t2⟩, t3⟩, t4⟩ := htl
  exact AAny.first (oi := ⟨some d, op, ty, pos, af, gd⟩) (get_arr hi) hd t1 (fun e => by subst e; simp at t2) fuel listed ⟨look m, h⟩ (Region.free_spec (get_arr hi) t3) (List.contains_iff_mem.1 t4) (.inl ⟨hw, hst⟩) hS H
/-- The same where nothing is written. -/
theorem aa_r {i d : Nat} {x : AV} (hi : l[i]? = some ⟨some d, op, ty, pos, af, gd⟩) (hd : Nat.blt d N.n = true) (htl : (tailOk l.toArray tl && !Nat.beq i tl && Region.free .any l.toArray listed i && (Region.ready .any l.toArray listed).contains i) = true)
    (hw : wantedA l.toArray (look m) ⟨some d, op, ty, pos, af, gd⟩ = some true) (hst : AStep P ⟨some d, op, ty, pos, af, gd⟩ (evs (look m)) h (fun x' h' => x' = x ∧ h' = h))
    (H : AAny P N l.toArray Q (fun h' => h' = h) tl fuel (listed.setIfInBounds i true) ⟨look ((d, x) :: m), h⟩) : AAny P N l.toArray Q (fun h' => h' = h) tl (fuel + 1) listed ⟨look m, h⟩ :=
  aa_t hi hd htl hw (fun h' e => by subst e; exact hst) rfl H
/-- Not wanted. -/
theorem aa_n {i d : Nat} (hi : l[i]? = some ⟨some d, op, ty, pos, af, gd⟩) (hd : Nat.blt d N.n = true) (htl : (tailOk l.toArray tl && !Nat.beq i tl && Region.free .any l.toArray listed i && (Region.ready .any l.toArray listed).contains i) = true)
    (hw : wantedA l.toArray (look m) ⟨some d, op, ty, pos, af, gd⟩ = some false) (hS : S h)
    (H : AAny P N l.toArray Q S tl fuel (listed.setIfInBounds i true) ⟨look ((d, .v undef) :: m), h⟩) : AAny P N l.toArray Q S tl (fuel + 1) listed ⟨look m, h⟩ := by
  simp only [Bool.and_eq_true, Bool.not_eq_true'] at htl
  obtain ⟨⟨⟨t1, t2⟩, t3⟩, t4⟩ := htl
  exact AAny.first (oi := ⟨some d, op, ty, pos, af, gd⟩) (get_arr hi) hd t1 (fun e => by subst e; simp at t2) fuel listed ⟨look m, h⟩ (Region.free_spec (get_arr hi) t3) (List.contains_iff_mem.1 t4) (.inr ⟨hw, rfl⟩) hS H
/-- Carried out, the only one that may come up. -/
theorem aa_c {i d : Nat} (hi : l[i]? = some ⟨some d, op, ty, pos, af, gd⟩) (hd : Nat.blt d N.n = true) (hr : Region.ready .any l.toArray listed = [i]) (hw : wantedA l.toArray (look m) ⟨some d, op, ty, pos, af, gd⟩ = some true)
    (H : AStep P ⟨some d, op, ty, pos, af, gd⟩ (evs (look m)) h (fun x h' => (i = tl ∨ S h') ∧ AAny P N l.toArray Q S tl fuel (listed.setIfInBounds i true) ⟨look ((d, x) :: m), h'⟩)) : AAny P N l.toArray Q S tl (fuel + 1) listed ⟨look m, h⟩ := by
  refine ⟨(fun h0 => by rw [hr] at h0; cases h0), fun j hj => ?_⟩
  rw [hr] at hj
  simp at hj
  subst hj
  unfold AOp
  simp only [get_arr hi]
  exact ⟨hd, true, hw, fun _ => H, fun h => by cases h⟩
theorem aa_c0 {i : Nat} (hi : l[i]? = some ⟨none, op, ty, pos, af, gd⟩) (hr : Region.ready .any l.toArray listed = [i]) (hw : wantedA l.toArray (look m) ⟨none, op, ty, pos, af, gd⟩ = some true)
    (H : AStep P ⟨none, op, ty, pos, af, gd⟩ (evs (look m)) h (fun _ h' => (i = tl ∨ S h') ∧ AAny P N l.toArray Q S tl fuel (listed.setIfInBounds i true) ⟨look m, h'⟩)) : AAny P N l.toArray Q S tl (fuel + 1) listed ⟨look m, h⟩ := by
  refine ⟨(fun h0 => by rw [hr] at h0; cases h0), fun j hj => ?_⟩
  rw [hr] at hj
  simp at hj
  subst hj
  unfold AOp
  simp only [get_arr hi]
  exact ⟨rfl, true, hw, fun _ => H, fun h => by cases h⟩
/-- A guard that is not known: both ways. -/
theorem aa_both {j : Nat} {t : Bool} (_hy : yv l.toArray (look m) j = some (some t)) (h1 : t = true → AAny P N l.toArray Q S tl fuel listed ⟨look m, h⟩) (h2 : t = false → AAny P N l.toArray Q S tl fuel listed ⟨look m, h⟩) : AAny P N l.toArray Q S tl fuel listed ⟨look m, h⟩ := by
  cases t with
  | true => exact h1 rfl
  | false => exact h2 rfl
theorem aw_drawR {id : Nat} (tl : Nat) (hm : P.follows .mixedOrders = true) (H : AAny P N l.toArray Q (fun h' => h' = h) tl l.length (Array.replicate l.length false) ⟨look m, h⟩) : AWp P N (.region id l.toArray true) Q ⟨look m, h⟩ := aw_draw _ tl hm H
theorem aa_done (hr : Region.ready .any l.toArray listed = []) (hq : Q .normal ⟨look m, h⟩) : ∀ fuel, AAny P N l.toArray Q S tl fuel listed ⟨look m, h⟩
  | 0 => ⟨hr, hq⟩
  | _ + 1 => ⟨fun _ => hq, by rw [hr]; simp⟩
theorem wan_y {o : Oper} {ops : Array Oper} {f : Nat → Option AV} {j : Nat} {want t : Bool} (hg : o.guard = some (j, want)) (hy : yv ops f j = some (some t)) (ht : (t == want) = true) : wantedA ops f o = some true := by simp only [wantedA, hg, hy, ht]
theorem wan_n {o : Oper} {ops : Array Oper} {f : Nat → Option AV} {j : Nat} {want t : Bool} (hg : o.guard = some (j, want)) (hy : yv ops f j = some (some t)) (ht : (t == want) = false) : wantedA ops f o = some false := by simp only [wantedA, hg, hy, ht]
theorem wan_u {o : Oper} {ops : Array Oper} {f : Nat → Option AV} {j : Nat} {want : Bool} (hg : o.guard = some (j, want)) (hy : yv ops f j = some none) : wantedA ops f o = some false := by simp only [wantedA, hg, hy]
end
end Go.Proofs.YtokaaebbmcldaaaGreatDoor
