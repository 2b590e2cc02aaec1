/-
  Part 12 of the proof of FilesKeepP: what the statement's proof uses of the texts in wip/tpl.
-/
import Derived.Lib.Hide
import Derived.Lib.IndexLaws
import Derived.Test.YthcbdkmhamhciaaQk11
namespace Go.Proofs.Ythcbdkmhamhciaa
open Go.RowKit
theorem indexAny_mem (s : ByteArray) : (0 ≤ Lib.indexAny s.data.toList [0, 47]) ↔ ((0 : UInt8) ∈ s.data.toList ∨ (47 : UInt8) ∈ s.data.toList) := by
 generalize s.data.toList = l
 induction l with
 | nil => simp [Lib.indexAny]
 | cons b l ih =>
   have hge := Lib.indexAny_ge [0, 47] l
   unfold Lib.indexAny
   by_cases hb : [0, 47].contains b = true
   ·rw [if_pos hb]
    simp only [List.contains_cons, List.contains_nil, Bool.or_false, Bool.or_eq_true, beq_iff_eq] at hb
    rcases hb with rfl | rfl <;> simp
   rw [if_neg hb]
   have h0 : (0 : UInt8) ≠ b := by rintro rfl; simp at hb
   have h47 : (47 : UInt8) ≠ b := by rintro rfl; simp at hb
   simp only [List.mem_cons, h0, h47, false_or]
   rw [← ih]
   split
   ·rename_i h
    have : Lib.indexAny l [0, 47] = -1 := by simpa using h
    rw [this]
   rename_i h
   have : Lib.indexAny l [0, 47] ≠ -1 := by simpa using h
   constructor <;> intro h' <;> omega
theorem IndexAny_any (s : ByteArray) (w : World) (hs : s.size ≤ 1000000) : Calls Try.prog 106 #[.string s, .string ⟨#[0, 47]⟩] w (AnyQ s w) := by
 by_cases h8 : s.size ≤ 8
 ·exact IndexAny_short s w h8
 refine (Try.strings_IndexAny_long (fun w => by kernel_rfl) s ⟨#[0, 47]⟩ w (by decide) (by omega) (by omega) (by decide) ?_).mono ?_
 ·intro j b hj
  have : b ∈ [0, 47] := List.mem_of_getElem? hj
  simp at this
  rcases this with rfl | rfl <;> decide
 rintro e w' ⟨rfl, rfl⟩
 exact ⟨_, rfl, below_a2 _ _ _, indexAny_mem s⟩
def badB (s : ByteArray) : Bool := decide ((0 : UInt8) ∈ s.data.toList ∨ (47 : UInt8) ∈ s.data.toList)
theorem ContainsAny_any (s : ByteArray) (w : World) (hs : s.size ≤ 1000000) :
    Calls Try.prog 89 #[.string s, .string ⟨#[0, 47]⟩] w fun e w' => e = .returned (.bool (badB s)) ∧ Below w.heap.size w w' := by
 go_enter Try.func89, Try.ntmps89
 go_wp2_with fail
 refine (IndexAny_any s w hs).mono ?_
 rintro e w' ⟨v, rfl, hb, hv⟩
 have HV := Lib.hid hv
 clear hv
 go_wp2
 go_ret
 exact ⟨ret_bool (decide_eq_decide.2 HV.out), hb⟩
theorem eq_dot (s : ByteArray) : (s.toList == [46]) = decide (s.data.toList = [46]) := by rw [toL, Bool.eq_iff_iff]; simp
theorem eq_dots (s : ByteArray) : (s.toList == [46, 46]) = decide (s.data.toList = [46, 46]) := by rw [toL, Bool.eq_iff_iff]; simp
set_option maxHeartbeats 1000000 in
theorem PName_any (s : ByteArray) (w : World) :
    Calls Try.prog 59 #[.string s] w fun e w' => e = .returned (.bool (nmL s.data.toList)) ∧ Below w.heap.size w w' := by
 have hsz := Lib.size_eq s
 by_cases h0 : s.size = 0
 ·have he : s.toList.isEmpty = true := by rw [empty_iff']; simp [h0]
  have he' : s.toList = [] := List.isEmpty_iff.1 he
  have HF : Hid (nmL s.data.toList = false) := Lib.hid (by
   rw [← toL, he']; rfl)
  clear hsz
  go_enter Try.func59, Try.ntmps59
  go_wp2
  go_ret
  exact ⟨ret_bool HF.out.symm, Below.refl _ _⟩
 have he : s.toList.isEmpty = false := by rw [empty_iff']; simp [h0]
 have hne : s.data.toList ≠ [] := by intro e; rw [e] at hsz; exact h0 hsz
 by_cases h12 : s.size ≤ 12
 ·have hle : decide ((s.size : Int) ≤ 12) = true := decide_eq_true (by omega)
  by_cases h1 : s.data.toList = [46]
  ·have e1 : (s.toList == [46]) = true := by rw [eq_dot]; simp [h1]
   have e1' : (s.toList != [46]) = false := by simp [bne, e1]
   have HF : Hid (nmL s.data.toList = false) := Lib.hid (by rw [h1]; rfl)
   clear hsz hne h1
   go_enter Try.func59, Try.ntmps59
   go_wp2
   go_ret
   exact ⟨ret_bool HF.out.symm, Below.refl _ _⟩
  have e1 : (s.toList == [46]) = false := by rw [eq_dot]; simp [h1]
  have e1' : (s.toList != [46]) = true := by simp [bne, e1]
  by_cases h2 : s.data.toList = [46, 46]
  ·have e2 : (s.toList == [46, 46]) = true := by rw [eq_dots]; simp [h2]
   have e2' : (s.toList != [46, 46]) = false := by simp [bne, e2]
   have HF : Hid (nmL s.data.toList = false) := Lib.hid (by rw [h2]; rfl)
   clear hsz hne h1 h2
   go_enter Try.func59, Try.ntmps59
   go_wp2
   go_ret
   exact ⟨ret_bool HF.out.symm, Below.refl _ _⟩
  have e2 : (s.toList == [46, 46]) = false := by rw [eq_dots]; simp [h2]
  have e2' : (s.toList != [46, 46]) = true := by simp [bne, e2]
  have HF : Hid (nmL s.data.toList = !badB s) := Lib.hid (by
   unfold badB
   rw [Bool.eq_iff_iff, nmL_iff]
   simp only [Bool.not_eq_true', decide_eq_false_iff_not, not_or]
   exact ⟨fun h => h.2.2.2.2, fun h => ⟨hne, by omega, h1, h2, h⟩⟩)
  clear hsz hne h1 h2
  go_enter Try.func59, Try.ntmps59
  go_wp2_with fail
  refine (ContainsAny_any s _ (by omega)).mono ?_
  rintro e w' ⟨rfl, hb⟩
  go_wp2
  go_ret
  exact ⟨ret_bool HF.out.symm, hb⟩
 have hle : decide ((s.size : Int) ≤ 12) = false := decide_eq_false (by omega)
 have HF : Hid (nmL s.data.toList = false) := Lib.hid (decide_eq_false (fun h => by have := h.2.1; omega))
 clear hsz hne
 go_enter Try.func59, Try.ntmps59
 go_wp2
 go_ret
 exact ⟨ret_bool HF.out.symm, Below.refl _ _⟩
end Go.Proofs.Ythcbdkmhamhciaa
namespace Go.Proofs.Ythcbdkmhamhciaa
theorem byte47 (x : UInt8) : ((x.toNat : Int) == 47) = decide (x = 47) := by
 rw [Bool.eq_iff_iff, beq_iff_eq, decide_eq_true_iff]
 constructor
 ·intro h
  apply UInt8.toNat_inj.1
  have : (47 : UInt8).toNat = 47 := rfl
  omega
 rintro rfl; rfl
theorem toLd (s : ByteArray) : s.toList = s.data.toList := Lib.toList_data s
theorem eq_dotS (s : ByteArray) : (s.toList == [46]) = decide (s.data.toList = [46]) := by rw [toLd, Bool.eq_iff_iff]; simp
theorem eq_dotsS (s : ByteArray) : (s.toList == [46, 46]) = decide (s.data.toList = [46, 46]) := by rw [toLd, Bool.eq_iff_iff]; simp
theorem nameL_eq (s : Str) : nameL s = nmL s.data.toList := by
 have hs := Lib.size_eq s
 rw [Bool.eq_iff_iff, nmL_iff]
 unfold nameL
 by_cases h1 : s.size < 1 ∨ 12 < s.size
 ·rw [if_pos h1]
  constructor
  ·intro h; cases h
  rintro ⟨h2, h3, _⟩
  have : 0 < s.data.toList.length := List.length_pos_iff.2 h2
  omega
 rw [if_neg h1, eq_dotS, eq_dotsS]
 have hne : s.data.toList ≠ [] := by intro e; rw [e] at hs; change s.size = 0 at hs; omega
 by_cases h2 : s.data.toList = [46]
 ·rw [if_pos (decide_eq_true h2)]
  constructor
  ·intro h; cases h
  exact fun h => absurd h2 h.2.2.1
 rw [if_neg (by simpa using h2)]
 by_cases h3 : s.data.toList = [46, 46]
 ·rw [if_pos (decide_eq_true h3)]
  constructor
  ·intro h; cases h
  exact fun h => absurd h3 h.2.2.2.1
 rw [if_neg (by simpa using h3), List.all_eq_true]
 have hb : ∀ c : UInt8, byteOK c = true ↔ c ≠ 0 ∧ c ≠ 47 := by
  intro c
  unfold byteOK
  rw [Bool.and_eq_true, byte47]
  have : ((c.toNat : Int) == 0) = decide (c = 0) := by
   rw [Bool.eq_iff_iff, beq_iff_eq, decide_eq_true_iff]
   constructor
   ·intro h
    apply UInt8.toNat_inj.1
    have : (0 : UInt8).toNat = 0 := rfl
    omega
   rintro rfl; rfl
  rw [this]
  simp
 constructor
 ·intro h
  exact ⟨hne, by omega, h2, h3, fun h0 => ((hb _).1 (h _ h0)).1 rfl, fun h0 => ((hb _).1 (h _ h0)).2 rfl⟩
 rintro ⟨_, _, _, _, h0, h47⟩ c hc
 exact (hb c).2 ⟨fun e => h0 (e ▸ hc), fun e => h47 (e ▸ hc)⟩
end Go.Proofs.Ythcbdkmhamhciaa
namespace Go.Proofs.Ythcbdkmhamhciaa
open Go.RowKit
theorem Pname (s : Str) : AFn Try.prog 59 [.v (.string s)] (fun r => r = .v (.bool (nameL s))) := by
 rw [nameL_eq]
 exact afn_of (us := [.string s]) fun w => PName_any s w
theorem PidxB (s : Str) : AFn Try.prog 107 [.v (.string s), .v (.int .u8 0)] (fun r => r = .v (.int .i64 (Lib.indexByte s.data.toList 0))) :=
 afn_of (us := [.string s, .int .u8 0]) fun w => (Try.strings_IndexByte s 0 w).mono fun e w' ⟨h1, h2⟩ => ⟨h1, by rw [h2]; exact Below.refl _ _⟩
def attrP (m u g : Int) : Bool := decide (0 ≤ m ∧ m ≤ 511 ∧ 0 ≤ u ∧ u ≤ 4294967295 ∧ 0 ≤ g ∧ g ≤ 4294967295)
theorem idx_zero (s : Str) : decide (Lib.indexByte s.data.toList 0 < 0) = s.data.toList.all (fun c => !((c.toNat : Int) == 0)) := by
 have hge := Lib.indexByte_ge s.data.toList 0
 by_cases h : Lib.indexByte s.data.toList 0 < 0
 ·rw [decide_eq_true h]
  have h1 := Lib.indexByte_none (l := s.data.toList) (c := 0) (by omega)
  refine (List.all_eq_true.2 fun c hc => ?_).symm
  obtain ⟨k, hk⟩ := List.getElem?_of_mem hc
  have h2 : c ≠ 0 := fun e => h1 k (by rw [hk, e])
  have h3 : (c.toNat : Int) ≠ 0 := fun e => h2 (UInt8.toNat_inj.1 (by show c.toNat = 0; omega))
  simpa using h3
 rw [decide_eq_false h]
 obtain ⟨o, ho⟩ := Int.eq_ofNat_of_zero_le (show 0 ≤ Lib.indexByte s.data.toList 0 by omega)
 have h1 := (Lib.indexByte_some ho).1
 exact (List.all_eq_false.2 ⟨0, List.mem_of_getElem? h1, by decide⟩).symm
theorem str_pos {s : Str} (h : ¬ s = ⟨#[]⟩) : 1 ≤ s.size := by
 by_cases h0 : s.size = 0
 ·refine absurd ?_ h
  refine ByteArray.ext (Array.toList_inj.1 ?_)
  exact List.eq_nil_of_length_eq_zero (by rw [← Lib.size_eq]; exact h0)
 omega
section
set_option maxRecDepth 10000
set_option maxHeartbeats 1000000
theorem Pattr (m u g : Int) : AFn Try.prog 73 [.v (.int .i64 m), .v (.int .i64 u), .v (.int .i64 g)] (fun r => r = .v (.bool (attrP m u g))) := by
 refine enter Try.func73 rfl rfl rfl rfl rfl 0 rfl ?_
 refine w_ (a_ (h:=e_ (w_ (m_ (h:=ge_ (h:=m_ (h:=?_)))))))
 refine al_gs true rfl rfl (fun hb1 => ?_) (fun hb1 => ?_)
 ·have hc1 := bp hb1
  refine m_ (h:=le_ (h:=pt_ (h:=m_ (h:=?_))))
  refine al_gs true rfl rfl (fun hb2 => ?_) (fun hb2 => ?_)
  ·have hc2 := bp hb2
   refine m_ (h:=ge_ (h:=pt_ (h:=m_ (h:=?_))))
   refine al_gs true rfl rfl (fun hb3 => ?_) (fun hb3 => ?_)
   ·have hc3 := bp hb3
    refine m_ (h:=le_ (h:=pt_ (h:=m_ (h:=?_))))
    refine al_gs true rfl rfl (fun hb4 => ?_) (fun hb4 => ?_)
    ·have hc4 := bp hb4
     refine m_ (h:=ge_ (h:=pt_ (h:=m_ (h:=?_))))
     refine al_gs true rfl rfl (fun hb5 => ?_) (fun hb5 => ?_)
     ·have hc5 := bp hb5
      refine m_ (h:=le_ (h:=pt_ (h:=a_ (h:=e_ (aw_ret (?_))))))
      refine e_ret ?_
      exact vb (by unfold attrP; rw [Bool.eq_iff_iff]; simp; try omega)
     have hc5 := bp hb5
     refine g0_ (h:=g0_ (h:=pf_ (h:=a_ (h:=e_ (aw_ret (?_))))))
     refine e_ret ?_
     exact vb (by unfold attrP; rw [Bool.eq_iff_iff]; simp; try omega)
    have hc4 := bp hb4
    refine g0_ (h:=g0_ (h:=pf_ (h:=m_ (h:=g0_ (h:=g0_ (h:=pf_ (h:=a_ (h:=e_ (aw_ret (?_))))))))))
    refine e_ret ?_
    exact vb (by unfold attrP; rw [Bool.eq_iff_iff]; simp; try omega)
   have hc3 := bp hb3
   refine g0_ (h:=g0_ (h:=pf_ (h:=m_ (h:=g0_ (h:=g0_ (h:=pf_ (h:=m_ (h:=g0_ (h:=g0_ (h:=pf_ (h:=a_ (h:=e_ (aw_ret (?_))))))))))))))
   refine e_ret ?_
   exact vb (by unfold attrP; rw [Bool.eq_iff_iff]; simp; try omega)
  have hc2 := bp hb2
  refine g0_ (h:=g0_ (h:=pf_ (h:=m_ (h:=g0_ (h:=g0_ (h:=pf_ (h:=m_ (h:=g0_ (h:=g0_ (h:=pf_ (h:=m_ (h:=g0_ (h:=g0_ (h:=pf_ (h:=a_ (h:=e_ (aw_ret (?_))))))))))))))))))
  refine e_ret ?_
  exact vb (by unfold attrP; rw [Bool.eq_iff_iff]; simp; try omega)
 have hc1 := bp hb1
 refine g0_ (h:=g0_ (h:=pf_ (h:=m_ (h:=g0_ (h:=g0_ (h:=pf_ (h:=m_ (h:=g0_ (h:=g0_ (h:=pf_ (h:=m_ (h:=g0_ (h:=g0_ (h:=pf_ (h:=m_ (h:=g0_ (h:=g0_ (h:=pf_ (h:=a_ (h:=e_ (aw_ret (?_))))))))))))))))))))))
 refine e_ret ?_
 exact vb (by unfold attrP; rw [Bool.eq_iff_iff]; simp; try omega)
theorem Ptarget (s : Str) (hs : s.size ≤ 100000) : AFn Try.prog 90 [.v (.string s)] (fun r => r = .v (.bool (targetL s))) := by
 refine enter Try.func90 rfl rfl rfl rfl rfl 0 rfl ?_
 refine w_ (a_ (h:=e_ (w_ (m_ (h:=nq_ (h:=m_ (h:=?_)))))))
 refine al_gs true rfl rfl (fun hb1 => ?_) (fun hb1 => ?_)
 ·have hc1 := bp hb1
  refine m_ (h:=n_ (h:=le_ (h:=pt_ (h:=m_ (h:=?_)))))
  refine al_gs true rfl rfl (fun hb2 => ?_) (fun hb2 => ?_)
  ·have hc2 := bp hb2
   refine m_ (h:=?_)
   refine g_y (q_call (PidxB s) ?_)
   rintro r rfl
   refine lt_ (h:=pt_ (h:=a_ (h:=e_ (aw_ret (?_)))))
   refine e_ret ?_
   exact vb (by rw [idx_zero]; unfold targetL; have := str_pos hc1; rw [decide_eq_true (show 1 ≤ s.size by omega), decide_eq_true (show s.size ≤ 128 by omega), Bool.and_true, Bool.and_true])
  have hc2 := bp hb2
  refine g0_ (h:=g0_ (h:=g0_ (h:=pf_ (h:=a_ (h:=e_ (aw_ret (?_)))))))
  refine e_ret ?_
  exact vb (by unfold targetL; rw [decide_eq_false (show ¬ s.size ≤ 128 by omega), Bool.and_false])
 have hc1 := bp hb1
 refine g0_ (h:=g0_ (h:=g0_ (h:=pf_ (h:=m_ (h:=g0_ (h:=g0_ (h:=g0_ (h:=pf_ (h:=a_ (h:=e_ (aw_ret (?_))))))))))))
 refine e_ret ?_
 exact vb (by rw [hc1]; rfl)
end
theorem NF_NX {ns : List Nod} {i : Nat} {nI : Nod} {cap : Nat} (hi : ns[i]? = some nI) (hE : nI.entries = []) : NF ns cap = NX ns i nI (.v (.slice none 0 0)) cap := by
 unfold NF NX
 congr 1
 have e : nodX nI (.v (.slice none 0 0)) = nodF nI := by unfold nodF entX; rw [if_pos hE]
 obtain ⟨hl, e2⟩ := List.getElem?_eq_some_iff.1 hi
 rw [e]
 apply List.ext_getElem?
 intro k
 rw [List.getElem?_set]
 split
 ·rename_i h
  subst h
  simp [hl, e2]
 rfl
theorem ren_NX {g : Nat → Option Nat} {ns : List Nod} {i : Nat} {nI : Nod} {e e' : AV} {cap1 : Nat} (h : ren g e = e') : renL g (NX ns i nI e cap1) = NX ns i nI e' cap1 := by
 rw [renL_map]
 unfold NX
 rw [rowsB_map (ren g) rfl, List.map_set]
 congr 1
 have e1 : ((ns.map nodF).map fun r => r.map (ren g)) = ns.map nodF := by
  rw [List.map_map]
  apply List.map_congr_left
  intro n _
  exact map_nodF (fun _ => rfl) (fun _ _ => rfl) n
 rw [e1]
 congr 1
 simp [nodX, ren, h]
theorem back_copyG {bx : List (List AV)} {n : Nat} (hn : bx.length = n) (f : Fls) (K : Nat) (d : Dvc) (i : Nat) (nI : Nod) (L m l : Nat) : Back bx [] [[.bs 2 0 2 L L], [.bs 2 0 2 L L], DB f K d 3 L m, NG d.nodes i nI 4 l m, EB nI.entries l] (bx ++ [[.bs (n + 2) 0 2 L L], [.bs (n + 2) 0 2 L L], DB f K d (n + 3) L m, NX d.nodes i nI (.bs (n + 4) 0 2 nI.entries.length l) m, EB nI.entries l]) := by
 subst hn
 have := back_F (bx := bx) (is := []) (bc := [[.bs 2 0 2 L L], [.bs 2 0 2 L L], DB f K d 3 L m, NG d.nodes i nI 4 l m, EB nI.entries l]) List.nodup_nil (by simp) (by simp)
 have e1 : renL (backS [] bx.length) (DB f K d 3 L m) = DB f K d (bx.length + 3) L m := ren_DB (by simp [backS]) _ _ _ _ _
 have e2 : renL (backS [] bx.length) (NG d.nodes i nI 4 l m) = NX d.nodes i nI (.bs (bx.length + 4) 0 2 nI.entries.length l) m := ren_NG (by simp [backS]) _ _ _ _ _
 have e3 : renL (backS [] bx.length) [.bs 2 0 2 L L] = [.bs (bx.length + 2) 0 2 L L] := by simp [renL, ren, backS]
 simpa [backF, ren_EB, e1, e2, e3] using this
theorem back_copy0 {bx : List (List AV)} {n : Nat} (hn : bx.length = n) (f : Fls) (K : Nat) (d : Dvc) (i : Nat) (nI : Nod) (L m : Nat) : Back bx [] [[.bs 2 0 2 L L], [.bs 2 0 2 L L], DB f K d 3 L m, NX d.nodes i nI (.v (.slice none 0 0)) m] (bx ++ [[.bs (n + 2) 0 2 L L], [.bs (n + 2) 0 2 L L], DB f K d (n + 3) L m, NX d.nodes i nI (.v (.slice none 0 0)) m]) := by
 subst hn
 have := back_F (bx := bx) (is := []) (bc := [[.bs 2 0 2 L L], [.bs 2 0 2 L L], DB f K d 3 L m, NX d.nodes i nI (.v (.slice none 0 0)) m]) List.nodup_nil (by simp) (by simp)
 have e1 : renL (backS [] bx.length) (DB f K d 3 L m) = DB f K d (bx.length + 3) L m := ren_DB (by simp [backS]) _ _ _ _ _
 have e2 : renL (backS [] bx.length) (NX d.nodes i nI (.v (.slice none 0 0)) m) = NX d.nodes i nI (.v (.slice none 0 0)) m := ren_NX rfl
 have e3 : renL (backS [] bx.length) [.bs 2 0 2 L L] = [.bs (bx.length + 2) 0 2 L L] := by simp [renL, ren, backS]
 simpa [backF, e1, e2, e3] using this
theorem back_find {bx : List (List AV)} {i0 i1 i2 : Nat} {f : Fls} {q : Nat} {d : Dvc} {c c1 : Nat} {ns : List Nod} {i : Nat} {nI : Nod} {l l2 : Nat} {es : List Ent} {cap : Nat} (h0 : bx[i0]? = some (DB f q d i1 c c1)) (h1 : bx[i1]? = some (NX ns i nI (.bs i2 0 2 l l2) c1)) (h2 : bx[i2]? = some (EB es cap)) : Back bx [i0, i1, i2] [DB f q d 1 c c1, NX ns i nI (.bs 2 0 2 l l2) c1, EB es cap] bx := by
 refine ⟨by simp, fun _ _ _ h => h, fun k j row hk hr => ?_, fun k row hk => by simp at hk⟩
 match k, hk, hr with
 | 0, hk, hr =>
   simp at hk hr; subst hk hr
   rw [h0, ren_DB (j' := i1) (by simp [backS])]
 | 1, hk, hr =>
   simp at hk hr; subst hk hr
   rw [h1, ren_NX (e' := .bs i2 0 2 l l2) (by simp [ren, backS])]
 | 2, hk, hr =>
   simp at hk hr; subst hk hr
   rw [h2, ren_EB]
 | k + 3, hk, _ => simp at hk
theorem back_find0 {bx : List (List AV)} {i0 i1 : Nat} {f : Fls} {q : Nat} {d : Dvc} {c c1 : Nat} {ns : List Nod} {i : Nat} {nI : Nod} (h0 : bx[i0]? = some (DB f q d i1 c c1)) (h1 : bx[i1]? = some (NX ns i nI (.v (.slice none 0 0)) c1)) : Back bx [i0, i1] [DB f q d 1 c c1, NX ns i nI (.v (.slice none 0 0)) c1] bx := by
 refine ⟨by simp, fun _ _ _ h => h, fun k j row hk hr => ?_, fun k row hk => by simp at hk⟩
 match k, hk, hr with
 | 0, hk, hr =>
   simp at hk hr; subst hk hr
   rw [h0, ren_DB (j' := i1) (by simp [backS])]
 | 1, hk, hr =>
   simp at hk hr; subst hk hr
   rw [h1, ren_NX (e' := .v (.slice none 0 0)) rfl]
 | k + 2, hk, _ => simp at hk
theorem back_put {bx : List (List AV)} {n i1 i2 : Nat} (hn : bx.length = n) (h1 : i1 < n) (h2 : i2 < n) (hne : i1 ≠ i2) (ns : List Nod) (i : Nat) (nI : Nod) (l cap c1 : Nat) (es : List Ent) (c2 : Nat) (es' : List Ent) : Back bx [i1, i2] [NX ns i nI (.bs 2 0 2 l cap) c1, EB es c2, EB es' cap] (((bx.set i1 (NX ns i nI (.bs n 0 2 l cap) c1)).set i2 (EB es c2)) ++ [EB es' cap]) := by
 subst hn
 have := back_F (bx := bx) (is := [i1, i2]) (bc := [NX ns i nI (.bs 2 0 2 l cap) c1, EB es c2, EB es' cap]) (by simpa using hne) (by simp [h1, h2]) (by simp)
 have e1 : renL (backS [i1, i2] bx.length) (NX ns i nI (.bs 2 0 2 l cap) c1) = NX ns i nI (.bs bx.length 0 2 l cap) c1 := ren_NX (by simp [ren, backS])
 simpa [backF, ren_EB, e1] using this
theorem back_put0 {bx : List (List AV)} {i1 : Nat} (h1 : i1 < bx.length) (ns : List Nod) (i : Nat) (nI : Nod) (e : List (List AV)) (c1 : Nat) : Back bx [i1] [NX ns i nI (.sl 2 e none) c1] (bx.set i1 (NX ns i nI (.sl 2 e none) c1)) := by
 have := back_F (bx := bx) (is := [i1]) (bc := [NX ns i nI (.sl 2 e none) c1]) (by simp) (by simp [h1]) (by simp)
 have e1 : renL (backS [i1] bx.length) (NX ns i nI (.sl 2 e none) c1) = NX ns i nI (.sl 2 e none) c1 := ren_NX rfl
 simpa [backF, e1] using this
theorem place_dir {f : Fls} {dir : Fil} {name : Str} (h : ¬ dirE f dir = 0) : placeL f dir name = dirE f dir := by
 unfold dirE at h ⊢
 unfold placeL
 cases hn : nodeL f dir with
 | none => rfl
 | some n =>
   simp only [hn] at h ⊢
   by_cases hk : n.kind = 2
   ·rw [if_pos hk] at h; exact absurd rfl h
   rw [if_neg hk, if_neg hk]
theorem place_kind {f : Fls} {dir : Fil} (h : dirE f dir = 0) : ∃ n, nodeL f dir = some n ∧ n.kind = 2 := by
 unfold dirE at h
 cases hn : nodeL f dir with
 | none => rw [hn] at h; exact absurd h (by decide)
 | some n =>
   simp only [hn] at h
   by_cases hk : n.kind = 2
   ·exact ⟨n, rfl, hk⟩
   rw [if_neg hk] at h; exact absurd h (by decide)
theorem place_nm {f : Fls} {dir : Fil} {name : Str} (h : dirE f dir = 0) (hn : nameL name = false) : placeL f dir name = 22 := by
 obtain ⟨n, h1, h2⟩ := place_kind h
 simp [placeL, h1, h2, hn]
theorem place_zero {f : Fls} {dir : Fil} {name : Str} (h : dirE f dir = 0) (hn : nameL name = true) : placeL f dir name = 0 := by
 obtain ⟨n, h1, h2⟩ := place_kind h
 simp [placeL, h1, h2, hn]
theorem idx_first {f : Fls} {a : Fil} {q i : Nat} {d : Dvc} (ha : a.1 = (q : Int)) (hq : f[q]? = some d) (hi : indexL f a = (i : Int)) : ∀ (k : Nat) (x : Nod), k < i → d.nodes[k]? = some x → x.ino ≠ a.2 := by
 rw [indexL_at ha hq] at hi
 unfold idxBy at hi
 intro k x hk hx e
 cases h : d.nodes.findIdx? (fun n : Nod => n.ino == a.2) with
 | none => rw [h] at hi; exact absurd hi (by show ¬ (-1 : Int) = (i : Int); omega)
 | some j =>
   rw [h] at hi
   obtain ⟨hl, hp, hf⟩ := List.findIdx?_eq_some_iff_getElem.1 h
   have hji : j = i := by
    have : ((j : Nat) : Int) = (i : Int) := hi
    omega
   have h1 := hf k (by omega)
   obtain ⟨l2, e2⟩ := List.getElem?_eq_some_iff.1 hx
   rw [e2] at h1
   exact h1 (by simpa using e)
theorem ent_none {f : Fls} {dir : Fil} {name : Str} {n : Nod} (hn : nodeL f dir = some n) (h : (entP f dir name).2 = false) : ∀ e ∈ n.entries, e.1 ≠ name := by
 unfold entP at h
 simp only [hn] at h
 cases hf : n.entries.find? (fun e : Ent => decide (e.1 = name)) with
 | none =>
   intro e he
   have := List.find?_eq_none.1 hf e he
   simpa using this
 | some e => rw [hf] at h; cases h
theorem entL_new {name : Str} {ino : Int} {es : List Ent} (h0 : ino ≠ 0) (hn : ∀ e ∈ es, e.1 ≠ name) : (entL es name ino).length = es.length + 1 := by
 have h1 := (entL_perm es name h0).length_eq
 have h2 : without name es = es := by
  unfold without
  rw [List.filter_eq_self]
  intro x hx
  simpa using hn x hx
 rw [h1, h2]
 rfl
theorem entL_nil {name : Str} {ino : Int} {es : List Ent} (h : es = []) (h0 : ino ≠ 0) : entL es name ino = [(name, ino)] := by
 subst h
 unfold entL
 rw [show (ino == 0) = false by simpa using h0]
 rfl
theorem node_ino0 {f : Fls} {a : Fil} {n : Nod} (hv : FlsV f) (h : nodeL f a = some n) : a.2 ≠ 0 := by
 rcases index_node f a with ⟨-, h'⟩ | ⟨k, i, d, m, -, h1, h2, h3, -, -⟩
 ·rw [h] at h'; cases h'
 have := (hv.vd d (List.mem_of_getElem? h1)).pos (List.mem_of_getElem? h2)
 omega
section
set_option maxRecDepth 10000
set_option maxHeartbeats 2000000
theorem Plink0 (f : Fls) (dir : Fil) (name : Str) (a : Fil) (hv : FlsV f) (hE0 : (nodG f dir).entries = []) : AFn Try.prog 27 [.agg (flsA f), .agg (filA dir), .v (.string name), .agg (filA a)] (fun r => r = chgR (linkL f dir name a)) := by
 have hf := hv.b
 refine enter Try.func27 rfl rfl rfl rfl rfl 0 rfl ?_
 refine w_ (b_ (h:=b_ (h:=b_ (h:=al_ (h:=a_ (h:=a_ (h:=e_ (q_ (w_ (l_ (h:=l_ (h:=?_))))))))))))
 refine al_p rfl (q_call (PdirF f dir hf) ?_)
 rintro r rfl
 refine a_ (h:=e_ (w_ (m_ (h:=nq_ (h:=e_ (?_))))))
 refine aw_cond rfl (fun hb1 => ?_) (fun hb1 => ?_)
 ·have hc1 := bp hb1
  refine w_ (bd_ (h:=m_ (h:=s_ (h:=a_ (h:=a_ (h:=e_ (aw_ret (x_thenR (?_)))))))))
  refine rt_ (r := chgR (linkL f dir name a)) none (h5 := ?_) (h6 := ⟨rfl, rfl, rfl⟩)
  rw [linkL, if_pos (show placeL f dir name ≠ 0 by rw [place_dir hc1]; exact hc1), place_dir hc1]
  exact err_le _
 have hc1 := bp hb1
 refine kt_ (q_ (w_ (m_ (h:=?_))))
 refine al_p rfl (q_call (Pname name) ?_)
 rintro r rfl
 refine nt_ (h:=e_ (?_))
 refine aw_cond rfl (fun hb2 => ?_) (fun hb2 => ?_)
 ·have hc2 := bp hb2
  refine w_ (bd_ (h:=s_ (h:=a_ (h:=a_ (h:=e_ (aw_ret (x_thenR (?_))))))))
  refine rt_ (r := chgR (linkL f dir name a)) none (h5 := ?_) (h6 := ⟨rfl, rfl, rfl⟩)
  rw [linkL, show placeL f dir name = 22 from place_nm (by omega) hc2, if_pos (by decide)]
  exact err_le _
 have hc2 := bp hb2
 have hpl : placeL f dir name = 0 := place_zero (by omega) hc2
 refine kt_ (w_ (l_ (h:=l_ (h:=?_))))
 refine al_p rfl (q_call (Pfind f a hf) ?_)
 rintro r (⟨e, rfl⟩ | ⟨n, e, rfl⟩)
 ·skip
  refine a_ (h:=e_ (q_ (w_ (m_ (h:=?_)))))
  first | refine al_p rfl (st_eqPnil (by kernel_rfl) rfl rfl ?_) | refine al_p rfl (st_eqPfp (by kernel_rfl) rfl rfl ?_)
  refine e_ (?_)
  refine aw_cond rfl (fun hb3 => ?_) (fun hb3 => ?_)
  ·have hc3 := bp hb3
   refine w_ (bd_ (h:=s_ (h:=a_ (h:=a_ (h:=e_ (aw_ret (x_thenR (?_))))))))
   refine rt_ (r := chgR (linkL f dir name a)) none (h5 := ?_) (h6 := ⟨rfl, rfl, rfl⟩)
   rw [linkL, if_neg (by rw [hpl]; simp), if_pos (show hasG f a = false by simp [hasG, e])]
   exact err_le _
  have hc3 := bp hb3
  exfalso; first | contradiction | omega
 skip
 refine a_ (h:=e_ (q_ (w_ (m_ (h:=?_)))))
 first | refine al_p rfl (st_eqPnil (by kernel_rfl) rfl rfl ?_) | refine al_p rfl (st_eqPfp (by kernel_rfl) rfl rfl ?_)
 refine e_ (?_)
 refine aw_cond rfl (fun hb4 => ?_) (fun hb4 => ?_)
 ·have hc4 := bp hb4
  exfalso; first | contradiction | omega
 have hc4 := bp hb4
 refine kt_ (q_ (w_ (f_ (h:=l_ (h:=f_ (h:=l_ (h:=nq_ (h:=e_ (?_)))))))))
 refine aw_cond rfl (fun hb5 => ?_) (fun hb5 => ?_)
 ·have hc5 := bp hb5
  refine w_ (bd_ (h:=s_ (h:=a_ (h:=a_ (h:=e_ (aw_ret (x_thenR (?_))))))))
  refine rt_ (r := chgR (linkL f dir name a)) none (h5 := ?_) (h6 := ⟨rfl, rfl, rfl⟩)
  rw [linkL, if_neg (by rw [hpl]; simp), if_neg (show ¬ hasG f a = false by simp [hasG, e]), if_pos hc5]
  exact err_le _
 have hc5 := bp hb5
 refine kt_ (q_ (w_ (m_ (h:=k_ (h:=f_ (h:=l_ (h:=eq_ (h:=e_ (?_)))))))))
 refine aw_cond rfl (fun hb6 => ?_) (fun hb6 => ?_)
 ·have hc6 := bp hb6
  refine w_ (bd_ (h:=s_ (h:=a_ (h:=a_ (h:=e_ (aw_ret (x_thenR (?_))))))))
  refine rt_ (r := chgR (linkL f dir name a)) none (h5 := ?_) (h6 := ⟨rfl, rfl, rfl⟩)
  rw [linkL, if_neg (by rw [hpl]; simp), if_neg (show ¬ hasG f a = false by simp [hasG, e]), if_neg (not_not_intro hc5), if_pos (show (nodG f a).kind = 2 by simpa [nodG, e] using hc6)]
  exact err_le _
 have hc6 := bp hb6
 refine kt_ (q_ (w_ (l_ (h:=l_ (h:=m_ (h:=?_))))))
 refine al_p rfl (q_call (Pentry f dir name hf) ?_)
 rintro r rfl
 refine m_ (h:=x_ (h:=x_ (h:=al_ (h:=s_ (h:=a_ (h:=e_ (w_ (m_ (h:=e_ (?_))))))))))
 refine aw_cond rfl (fun hb7 => ?_) (fun hb7 => ?_)
 ·have hc7 := bp hb7
  refine w_ (bd_ (h:=s_ (h:=a_ (h:=a_ (h:=e_ (aw_ret (x_thenR (?_))))))))
  refine rt_ (r := chgR (linkL f dir name a)) none (h5 := ?_) (h6 := ⟨rfl, rfl, rfl⟩)
  rw [linkL, if_neg (by rw [hpl]; simp), if_neg (show ¬ hasG f a = false by simp [hasG, e]), if_neg (not_not_intro hc5), if_neg (show ¬ (nodG f a).kind = 2 by simpa [nodG, e] using hc6), if_pos (show (lookL f dir name).2 = 0 by rw [lkE_yes (by omega) hc7])]
  exact err_le _
 have hc7 := bp hb7
 refine kt_ (q_ (w_ (l_ (h:=l_ (h:=?_)))))
 refine al_p rfl (q_call (Pfull f dir hf) ?_)
 rintro r rfl
 refine e_ (?_)
 refine aw_cond rfl (fun hb8 => ?_) (fun hb8 => ?_)
 ·have hc8 := bp hb8
  refine w_ (bd_ (h:=s_ (h:=a_ (h:=a_ (h:=e_ (aw_ret (x_thenR (?_))))))))
  refine rt_ (r := chgR (linkL f dir name a)) none (h5 := ?_) (h6 := ⟨rfl, rfl, rfl⟩)
  rw [linkL, if_neg (by rw [hpl]; simp), if_neg (show ¬ hasG f a = false by simp [hasG, e]), if_neg (not_not_intro hc5), if_neg (show ¬ (nodG f a).kind = 2 by simpa [nodG, e] using hc6), if_neg (show ¬ (lookL f dir name).2 = 0 by rw [lkE_two (by omega) hc7]; decide), if_pos hc8]
  exact err_le _
 have hc8 := bp hb8
 obtain ⟨q, i, d, n0, hdq, hq, hn0, hino, hidx, hnode, hk0, hnm⟩ := place_ok hpl
 have hil := (List.getElem?_eq_some_iff.1 hn0).1
 have hql := (List.getElem?_eq_some_iff.1 hq).1
 have hdn := hf.nodes d (List.mem_of_getElem? hq)
 have hen0 := hf.ents d (List.mem_of_getElem? hq) n0 (List.mem_of_getElem? hn0)
 have hfst := idx_first hdq hq hidx
 have hno := ent_none hnode hc7
 have hfew := hf.few
 have hino0 : a.2 ≠ 0 := node_ino0 hv e
 have hE : n0.entries = [] := by simpa [nodG, hnode] using hE0
 refine kt_ (w_ (l_ (h:=?_)))
 refine al_p rfl (s_callM [] rfl (.cons _ _ _ _ _ rfl (LeA.refl _) .nil) (by decide) .nil (PcopyFiles0 f q d hf hq (by omega)) ?_)
 rintro r bc tc ⟨rfl, rfl, rfl⟩
 rw [NF_NX hn0 hE]
 refine ⟨rfl, _, (back_copy0 (n := 5) rfl f q d i n0 f.length d.nodes.length : Back _ [] _ [_, _, _, _, _, _, _, _, _]), ?_⟩
 refine s_ (h:=e_ (q_ (yk_ ([(0, [.bs 7 0 2 f.length f.length]), (1, filA dir), (2, filA a)]) 7 (h:=dl_ 0 (h:=dl_ 1 (h:=dm_ 3 (h:=df_ 4 (h:=dl_ 5 (h:=?_)))))))))
 refine c_ 2 rfl (s_callM [7, 8] rfl (.cons _ _ _ _ _ rfl (LeA.refl _) (.cons _ _ _ _ _ rfl (LeA.refl _) .nil)) (by decide) (.cons _ _ _ _ _ rfl (ren_DB (by rfl) _ _ _ _ _) (.cons _ _ _ _ _ rfl (ren_NX (by rfl)) .nil)) (PfindB0 f q d i n0 dir hq hn0 hdq hino hfst (by omega) (by omega)) ?_)
 rintro r bc tc ⟨rfl, rfl, rfl⟩
 refine ⟨rfl, _, back_find0 rfl rfl, ?_⟩
 refine o_ (h:=?_)
 refine c_ 6 rfl (s_callM [8] rfl (.cons _ _ _ _ _ rfl (LeA.refl _) (.cons _ _ _ _ _ rfl (LeA.refl _) (.cons _ _ _ _ _ rfl (LeA.refl _) .nil))) (by decide) (.cons _ _ _ _ _ rfl (ren_NX (by rfl)) .nil) (Pput0 d.nodes i n0 name a.2 hil) ?_)
 rintro r bc tc ⟨rfl, rfl, rfl⟩
 refine ⟨rfl, _, (back_put0 (Nat.le_of_ble_eq_true rfl) d.nodes i n0 _ d.nodes.length : Back _ [8] _ [_, _, _, _, _, _, _, _, _]), ?_⟩
 refine o_ (h:=z_ (h:=t_ (?_)))
 refine aw_midI (fun t => t = ⟨look [(8, .bp 3 0), (9, .sl 7 [chgA (dir, name, (0, 0), a)] none), (10, .v (.int .i64 0))], ⟨[[.sl 2 (resD f q d ((d.nodes.map nodF).set i (nodX n0 (.sl 2 ([(name, a.2)].map entA) none)))) none], filA dir, filA a, [.sl 2 (resD f q d ((d.nodes.map nodF).set i (nodX n0 (.sl 2 ([(name, a.2)].map entA) none)))) none]], []⟩⟩) ?_ ?_
 ·skip
  refine yk_ ([(0, [.bs 7 0 2 f.length f.length]), (1, filA dir), (2, filA a)]) 9 (h:=dl_ 0 (h:=dl_ 1 (h:=dm_ 2 (h:=dl_ 3 (h:=?_)))))
  refine tk_ 4 rfl (fun _ hS => st_le (y := .agg (chgA (dir, name, (0, 0), a))) (st_build (by repeat (first | exact FillA.nil _ | (apply FillA.cons; (focus exact rfl); (focus exact rfl); (focus exact rfl); (focus exact rfl); (focus exact rfl); (focus (repeat constructor))))) ⟨rfl, rfl⟩) (by repeat (first | exact LeA.refl _ | exact LeA.nil _ | exact LeL.refl _ | refine LeA.agg ⟨rfl, rfl⟩ | refine LeA.tup ⟨rfl, rfl⟩ | exact LeL.nil | refine LeL.cons ⟨rfl, rfl⟩ ⟨rfl, rfl⟩ | exact LeA.any _)) ⟨rfl, rfl⟩) ?_
  refine dbs_ 5 (h:=?_)
  refine c0_ 6 rfl (s_store rfl rfl rfl rfl rfl rfl (by repeat constructor) (by repeat constructor) ?_)
  refine o_ (h:=da_ 7 (h:=da_ 8 (h:=z_ (h:=?_))))
  refine x_then ?_
  exact ⟨_, rfl, weak_fz 4 3 rfl (congrArg (fun x : List AV => [x, filA dir, filA a, x]) (liv_NX (n := 4) (i0 := 7) (i1 := 8) (f := f) (q := q) (d := d) (ns := d.nodes) (i := i) (nI := n0) (cap := f.length) (cap0 := f.length) (cap1 := d.nodes.length) hql (Nat.le_refl _) (Nat.le_refl _) rfl (Nat.le_of_ble_eq_true rfl) (Nat.le_of_ble_eq_true rfl) (by rfl) (by rfl) (by rfl))) (.cons _ _ _ _ rfl (LeA.refl _) (.cons _ _ _ _ rfl (LeA.refl _) (.cons _ _ _ _ rfl (LeA.refl _) .nil)))⟩
 rintro t rfl
 refine aw_ret (?_)
 refine rt_ (r := chgR (linkL f dir name a)) none (h5 := ?_) (h6 := ⟨rfl, rfl, rfl⟩)
 rw [linkL, if_neg (by rw [hpl]; simp), if_neg (show ¬ hasG f a = false by simp [hasG, e]), if_neg (not_not_intro hc5), if_neg (show ¬ (nodG f a).kind = 2 by simpa [nodG, e] using hc6), if_neg (show ¬ (lookL f dir name).2 = 0 by rw [lkE_two (by omega) hc7]; decide), if_neg (by simp [hc8]), hdq, Int.toNat_natCast, onD_set hq, ← hino, ← entS_D (hv.vd d (List.mem_of_getElem? hq)) hn0]
 have hen : entL n0.entries name a.2 = [(name, a.2)] := entL_nil hE hino0
 unfold entS
 rw [hen]
 exact LeA.tup (.cons fls_le (.cons (LeA.refl _) (.cons (LeA.refl _) .nil)))
theorem PlinkG (f : Fls) (dir : Fil) (name : Str) (a : Fil) (hv : FlsV f) (hE0 : 0 < (nodG f dir).entries.length) : AFn Try.prog 27 [.agg (flsA f), .agg (filA dir), .v (.string name), .agg (filA a)] (fun r => r = chgR (linkL f dir name a)) := by
 have hf := hv.b
 refine enter Try.func27 rfl rfl rfl rfl rfl 0 rfl ?_
 refine w_ (b_ (h:=b_ (h:=b_ (h:=al_ (h:=a_ (h:=a_ (h:=e_ (q_ (w_ (l_ (h:=l_ (h:=?_))))))))))))
 refine al_p rfl (q_call (PdirF f dir hf) ?_)
 rintro r rfl
 refine a_ (h:=e_ (w_ (m_ (h:=nq_ (h:=e_ (?_))))))
 refine aw_cond rfl (fun hb1 => ?_) (fun hb1 => ?_)
 ·have hc1 := bp hb1
  refine w_ (bd_ (h:=m_ (h:=s_ (h:=a_ (h:=a_ (h:=e_ (aw_ret (x_thenR (?_)))))))))
  refine rt_ (r := chgR (linkL f dir name a)) none (h5 := ?_) (h6 := ⟨rfl, rfl, rfl⟩)
  rw [linkL, if_pos (show placeL f dir name ≠ 0 by rw [place_dir hc1]; exact hc1), place_dir hc1]
  exact err_le _
 have hc1 := bp hb1
 refine kt_ (q_ (w_ (m_ (h:=?_))))
 refine al_p rfl (q_call (Pname name) ?_)
 rintro r rfl
 refine nt_ (h:=e_ (?_))
 refine aw_cond rfl (fun hb2 => ?_) (fun hb2 => ?_)
 ·have hc2 := bp hb2
  refine w_ (bd_ (h:=s_ (h:=a_ (h:=a_ (h:=e_ (aw_ret (x_thenR (?_))))))))
  refine rt_ (r := chgR (linkL f dir name a)) none (h5 := ?_) (h6 := ⟨rfl, rfl, rfl⟩)
  rw [linkL, show placeL f dir name = 22 from place_nm (by omega) hc2, if_pos (by decide)]
  exact err_le _
 have hc2 := bp hb2
 have hpl : placeL f dir name = 0 := place_zero (by omega) hc2
 refine kt_ (w_ (l_ (h:=l_ (h:=?_))))
 refine al_p rfl (q_call (Pfind f a hf) ?_)
 rintro r (⟨e, rfl⟩ | ⟨n, e, rfl⟩)
 ·skip
  refine a_ (h:=e_ (q_ (w_ (m_ (h:=?_)))))
  first | refine al_p rfl (st_eqPnil (by kernel_rfl) rfl rfl ?_) | refine al_p rfl (st_eqPfp (by kernel_rfl) rfl rfl ?_)
  refine e_ (?_)
  refine aw_cond rfl (fun hb3 => ?_) (fun hb3 => ?_)
  ·have hc3 := bp hb3
   refine w_ (bd_ (h:=s_ (h:=a_ (h:=a_ (h:=e_ (aw_ret (x_thenR (?_))))))))
   refine rt_ (r := chgR (linkL f dir name a)) none (h5 := ?_) (h6 := ⟨rfl, rfl, rfl⟩)
   rw [linkL, if_neg (by rw [hpl]; simp), if_pos (show hasG f a = false by simp [hasG, e])]
   exact err_le _
  have hc3 := bp hb3
  exfalso; first | contradiction | omega
 skip
 refine a_ (h:=e_ (q_ (w_ (m_ (h:=?_)))))
 first | refine al_p rfl (st_eqPnil (by kernel_rfl) rfl rfl ?_) | refine al_p rfl (st_eqPfp (by kernel_rfl) rfl rfl ?_)
 refine e_ (?_)
 refine aw_cond rfl (fun hb4 => ?_) (fun hb4 => ?_)
 ·have hc4 := bp hb4
  exfalso; first | contradiction | omega
 have hc4 := bp hb4
 refine kt_ (q_ (w_ (f_ (h:=l_ (h:=f_ (h:=l_ (h:=nq_ (h:=e_ (?_)))))))))
 refine aw_cond rfl (fun hb5 => ?_) (fun hb5 => ?_)
 ·have hc5 := bp hb5
  refine w_ (bd_ (h:=s_ (h:=a_ (h:=a_ (h:=e_ (aw_ret (x_thenR (?_))))))))
  refine rt_ (r := chgR (linkL f dir name a)) none (h5 := ?_) (h6 := ⟨rfl, rfl, rfl⟩)
  rw [linkL, if_neg (by rw [hpl]; simp), if_neg (show ¬ hasG f a = false by simp [hasG, e]), if_pos hc5]
  exact err_le _
 have hc5 := bp hb5
 refine kt_ (q_ (w_ (m_ (h:=k_ (h:=f_ (h:=l_ (h:=eq_ (h:=e_ (?_)))))))))
 refine aw_cond rfl (fun hb6 => ?_) (fun hb6 => ?_)
 ·have hc6 := bp hb6
  refine w_ (bd_ (h:=s_ (h:=a_ (h:=a_ (h:=e_ (aw_ret (x_thenR (?_))))))))
  refine rt_ (r := chgR (linkL f dir name a)) none (h5 := ?_) (h6 := ⟨rfl, rfl, rfl⟩)
  rw [linkL, if_neg (by rw [hpl]; simp), if_neg (show ¬ hasG f a = false by simp [hasG, e]), if_neg (not_not_intro hc5), if_pos (show (nodG f a).kind = 2 by simpa [nodG, e] using hc6)]
  exact err_le _
 have hc6 := bp hb6
 refine kt_ (q_ (w_ (l_ (h:=l_ (h:=m_ (h:=?_))))))
 refine al_p rfl (q_call (Pentry f dir name hf) ?_)
 rintro r rfl
 refine m_ (h:=x_ (h:=x_ (h:=al_ (h:=s_ (h:=a_ (h:=e_ (w_ (m_ (h:=e_ (?_))))))))))
 refine aw_cond rfl (fun hb7 => ?_) (fun hb7 => ?_)
 ·have hc7 := bp hb7
  refine w_ (bd_ (h:=s_ (h:=a_ (h:=a_ (h:=e_ (aw_ret (x_thenR (?_))))))))
  refine rt_ (r := chgR (linkL f dir name a)) none (h5 := ?_) (h6 := ⟨rfl, rfl, rfl⟩)
  rw [linkL, if_neg (by rw [hpl]; simp), if_neg (show ¬ hasG f a = false by simp [hasG, e]), if_neg (not_not_intro hc5), if_neg (show ¬ (nodG f a).kind = 2 by simpa [nodG, e] using hc6), if_pos (show (lookL f dir name).2 = 0 by rw [lkE_yes (by omega) hc7])]
  exact err_le _
 have hc7 := bp hb7
 refine kt_ (q_ (w_ (l_ (h:=l_ (h:=?_)))))
 refine al_p rfl (q_call (Pfull f dir hf) ?_)
 rintro r rfl
 refine e_ (?_)
 refine aw_cond rfl (fun hb8 => ?_) (fun hb8 => ?_)
 ·have hc8 := bp hb8
  refine w_ (bd_ (h:=s_ (h:=a_ (h:=a_ (h:=e_ (aw_ret (x_thenR (?_))))))))
  refine rt_ (r := chgR (linkL f dir name a)) none (h5 := ?_) (h6 := ⟨rfl, rfl, rfl⟩)
  rw [linkL, if_neg (by rw [hpl]; simp), if_neg (show ¬ hasG f a = false by simp [hasG, e]), if_neg (not_not_intro hc5), if_neg (show ¬ (nodG f a).kind = 2 by simpa [nodG, e] using hc6), if_neg (show ¬ (lookL f dir name).2 = 0 by rw [lkE_two (by omega) hc7]; decide), if_pos hc8]
  exact err_le _
 have hc8 := bp hb8
 obtain ⟨q, i, d, n0, hdq, hq, hn0, hino, hidx, hnode, hk0, hnm⟩ := place_ok hpl
 have hil := (List.getElem?_eq_some_iff.1 hn0).1
 have hql := (List.getElem?_eq_some_iff.1 hq).1
 have hdn := hf.nodes d (List.mem_of_getElem? hq)
 have hen0 := hf.ents d (List.mem_of_getElem? hq) n0 (List.mem_of_getElem? hn0)
 have hfst := idx_first hdq hq hidx
 have hno := ent_none hnode hc7
 have hfew := hf.few
 have hino0 : a.2 ≠ 0 := node_ino0 hv e
 have hE : 0 < n0.entries.length := by simpa [nodG, hnode] using hE0
 refine kt_ (w_ (l_ (h:=?_)))
 refine al_p rfl (s_callM [] rfl (.cons _ _ _ _ _ rfl (LeA.refl _) .nil) (by decide) .nil (PcopyFilesG f q d i n0 hf hq hn0 hE) ?_)
 rintro r bc tc ⟨rfl, rfl, rfl⟩
 refine ⟨rfl, _, (back_copyG (n := 5) rfl f q d i n0 f.length d.nodes.length n0.entries.length : Back _ [] _ [_, _, _, _, _, _, _, _, _, _]), ?_⟩
 refine s_ (h:=e_ (q_ (yk_ ([(0, [.bs 7 0 2 f.length f.length]), (1, filA dir), (2, filA a)]) 7 (h:=dl_ 0 (h:=dl_ 1 (h:=dm_ 3 (h:=df_ 4 (h:=dl_ 5 (h:=?_)))))))))
 refine c_ 2 rfl (s_callM [7, 8, 9] rfl (.cons _ _ _ _ _ rfl (LeA.refl _) (.cons _ _ _ _ _ rfl (LeA.refl _) .nil)) (by decide) (.cons _ _ _ _ _ rfl (ren_DB (by rfl) _ _ _ _ _) (.cons _ _ _ _ _ rfl (ren_NX (by rfl)) (.cons _ _ _ _ _ rfl (ren_EB _ _ _) .nil))) (PfindBG f q d i n0 dir hq hn0 hdq hino hfst (by omega) (by omega)) ?_)
 rintro r bc tc ⟨rfl, rfl, rfl⟩
 refine ⟨rfl, _, back_find rfl rfl rfl, ?_⟩
 refine o_ (h:=?_)
 refine c_ 6 rfl (s_callM [8, 9] rfl (.cons _ _ _ _ _ rfl (LeA.refl _) (.cons _ _ _ _ _ rfl (LeA.refl _) (.cons _ _ _ _ _ rfl (LeA.refl _) .nil))) (by decide) (.cons _ _ _ _ _ rfl (ren_NX (by rfl)) (.cons _ _ _ _ _ rfl (ren_EB _ _ _) .nil)) (Pput d.nodes i n0 name a.2 hil hE (by omega) hino0 hno) ?_)
 rintro r bc tc ⟨rfl, rfl, cap, hcap, rfl⟩
 refine ⟨rfl, _, (back_put (n := 10) rfl (Nat.le_of_ble_eq_true rfl) (Nat.le_of_ble_eq_true rfl) (by decide) d.nodes i n0 (n0.entries.length + 1) cap d.nodes.length n0.entries n0.entries.length (entL n0.entries name a.2) : Back _ [8, 9] _ [_, _, _, _, _, _, _, _, _, _, _]), ?_⟩
 refine o_ (h:=z_ (h:=t_ (?_)))
 refine aw_midI (fun t => t = ⟨look [(8, .bp 3 0), (9, .sl 7 [chgA (dir, name, (0, 0), a)] none), (10, .v (.int .i64 0))], ⟨[[.sl 2 (resD f q d ((d.nodes.map nodF).set i (nodX n0 (.sl 2 ((entL n0.entries name a.2).map entA) none)))) none], filA dir, filA a, [.sl 2 (resD f q d ((d.nodes.map nodF).set i (nodX n0 (.sl 2 ((entL n0.entries name a.2).map entA) none)))) none]], []⟩⟩) ?_ ?_
 ·skip
  refine yk_ ([(0, [.bs 7 0 2 f.length f.length]), (1, filA dir), (2, filA a)]) 9 (h:=dl_ 0 (h:=dl_ 1 (h:=dm_ 2 (h:=dl_ 3 (h:=?_)))))
  refine tk_ 4 rfl (fun _ hS => st_le (y := .agg (chgA (dir, name, (0, 0), a))) (st_build (by repeat (first | exact FillA.nil _ | (apply FillA.cons; (focus exact rfl); (focus exact rfl); (focus exact rfl); (focus exact rfl); (focus exact rfl); (focus (repeat constructor))))) ⟨rfl, rfl⟩) (by repeat (first | exact LeA.refl _ | exact LeA.nil _ | exact LeL.refl _ | refine LeA.agg ⟨rfl, rfl⟩ | refine LeA.tup ⟨rfl, rfl⟩ | exact LeL.nil | refine LeL.cons ⟨rfl, rfl⟩ ⟨rfl, rfl⟩ | exact LeA.any _)) ⟨rfl, rfl⟩) ?_
  refine dbs_ 5 (h:=?_)
  refine c0_ 6 rfl (s_store rfl rfl rfl rfl rfl rfl (by repeat constructor) (by repeat constructor) ?_)
  refine o_ (h:=da_ 7 (h:=da_ 8 (h:=z_ (h:=?_))))
  refine x_then ?_
  have hcap2 : (entL n0.entries name a.2).length ≤ cap := Nat.le_trans (entL_len _ _ _) hcap
  have hll : n0.entries.length + 1 = (entL n0.entries name a.2).length := (entL_new hino0 hno).symm
  exact ⟨_, rfl, weak_fz 4 3 rfl (congrArg (fun x : List AV => [x, filA dir, filA a, x]) (liv_NX (n := 4) (i0 := 7) (i1 := 8) (f := f) (q := q) (d := d) (ns := d.nodes) (i := i) (nI := n0) (cap := f.length) (cap0 := f.length) (cap1 := d.nodes.length) hql (Nat.le_refl _) (Nat.le_refl _) rfl (Nat.le_of_ble_eq_true rfl) (Nat.le_of_ble_eq_true rfl) (by rfl) (by rfl) (by exact low_EB (j := 10) (by decide) rfl hll hcap2))) (.cons _ _ _ _ rfl (LeA.refl _) (.cons _ _ _ _ rfl (LeA.refl _) (.cons _ _ _ _ rfl (LeA.refl _) .nil)))⟩
 rintro t rfl
 refine aw_ret (?_)
 refine rt_ (r := chgR (linkL f dir name a)) none (h5 := ?_) (h6 := ⟨rfl, rfl, rfl⟩)
 rw [linkL, if_neg (by rw [hpl]; simp), if_neg (show ¬ hasG f a = false by simp [hasG, e]), if_neg (not_not_intro hc5), if_neg (show ¬ (nodG f a).kind = 2 by simpa [nodG, e] using hc6), if_neg (show ¬ (lookL f dir name).2 = 0 by rw [lkE_two (by omega) hc7]; decide), if_neg (by simp [hc8]), hdq, Int.toNat_natCast, onD_set hq, ← hino, ← entS_D (hv.vd d (List.mem_of_getElem? hq)) hn0]
 exact LeA.tup (.cons fls_le (.cons (LeA.refl _) (.cons (LeA.refl _) .nil)))
end
section
set_option maxRecDepth 10000
set_option maxHeartbeats 2000000
theorem plain_eq (n : Nod) : plainL n = if attrP n.mode n.uid n.gid = false then false else if n.kind = 1 then decide (n.target = ⟨#[]⟩) else if n.kind = 2 then decide (n.target = ⟨#[]⟩) else if n.kind = 3 then targetL n.target else false := by
 have ee : n.target.toList.isEmpty = decide (n.target = ⟨#[]⟩) := by
  rw [← str_eq n.target ⟨#[]⟩, show (⟨#[]⟩ : ByteArray).toList = [] by rw [ByteArray.toList_eq]]
  cases n.target.toList <;> rfl
 unfold plainL
 rw [ee]
 by_cases ha : attrP n.mode n.uid n.gid = false
 ·rw [if_pos ha]
  unfold attrP at ha
  simp only [decide_eq_false_iff_not] at ha
  rw [if_pos (by omega)]
 rw [if_neg ha]
 unfold attrP at ha
 simp only [decide_eq_false_iff_not, Decidable.not_not] at ha
 by_cases h1 : n.kind = 1
 ·rw [if_pos h1, if_neg (by omega), if_neg (by omega)]
 rw [if_neg h1]
 by_cases h2 : n.kind = 2
 ·rw [if_pos h2, if_neg (by omega), if_neg (by omega)]
 rw [if_neg h2]
 by_cases h3 : n.kind = 3
 ·rw [if_pos h3, if_neg (by omega), if_pos h3]
 rw [if_neg h3, if_neg h3, if_pos (by omega)]
theorem Pmakeable (n : Nod) (ht : n.target.size ≤ 100000) : AFn Try.prog 60 [.agg (nodA n)] (fun r => r = .v (.bool (plainL n))) := by
 refine enter Try.func60 rfl rfl rfl rfl rfl 0 rfl ?_
 refine w_ (b_ (h:=a_ (h:=e_ (q_ (w_ (f_ (h:=l_ (h:=f_ (h:=l_ (h:=f_ (h:=l_ (h:=?_))))))))))))
 refine al_p rfl (q_call (Pattr n.mode n.uid n.gid) ?_)
 rintro r rfl
 refine nt_ (h:=e_ (?_))
 refine aw_cond rfl (fun hb1 => ?_) (fun hb1 => ?_)
 ·have hc1 := bp hb1
  refine w_ (a_ (h:=e_ (aw_ret (x_thenR (?_)))))
  refine e_ret ?_
  exact vb (by rw [plain_eq]; simp_all)
 have hc1 := bp hb1
 refine kt_ (q_ (w_ (f_ (h:=l_ (h:=e_ (aw_block (q_ (w_ (eq_ (h:=a_ (h:=e_ (?_))))))))))))
 refine aw_cond rfl (fun hb2 => ?_) (fun hb2 => ?_)
 ·have hc2 := bp hb2
  refine kt_ (cy_ (h:=w_ (f_ (h:=l_ (h:=eq_ (h:=a_ (h:=e_ (aw_ret (x_blockR (x_thenR (?_)))))))))))
  refine e_ret ?_
  exact vb (by rw [plain_eq]; simp_all)
 have hc2 := bp hb2
 refine aw_region (eq_ (h:=a_ (h:=e_ (?_))))
 refine aw_cond rfl (fun hb3 => ?_) (fun hb3 => ?_)
 ·have hc3 := bp hb3
  refine w_ (f_ (h:=l_ (h:=eq_ (h:=a_ (h:=e_ (aw_ret (x_blockR (x_thenR (?_)))))))))
  refine e_ret ?_
  exact vb (by rw [plain_eq]; simp_all)
 have hc3 := bp hb3
 refine w_ (eq_ (h:=a_ (h:=e_ (?_))))
 refine aw_cond rfl (fun hb4 => ?_) (fun hb4 => ?_)
 ·have hc4 := bp hb4
  refine w_ (f_ (h:=l_ (h:=?_)))
  refine al_p rfl (q_call (Ptarget n.target ht) ?_)
  rintro r rfl
  refine a_ (h:=e_ (aw_ret (x_blockR (x_thenR (?_)))))
  refine e_ret ?_
  exact vb (by rw [plain_eq]; simp_all)
 have hc4 := bp hb4
 refine aw_skip (x_blockN (t_ (w_ (a_ (h:=e_ (aw_ret (?_)))))))
 refine e_ret ?_
 exact vb (by rw [plain_eq]; simp_all)
theorem NX_len (ns : List Nod) (i : Nat) (nI : Nod) (e : AV) (cap1 : Nat) (h : ns.length ≤ cap1) : (NX ns i nI e cap1).length = cap1 * 8 := rowsB_len (NX_eight _ _ _ _) (by simpa using h)
theorem NX_new {ns : List Nod} {i : Nat} {nI : Nod} {e : AV} {cap0 cap : Nat} {m : Nod} (hi : i < ns.length) (he : m.entries = []) : ((NX ns i nI e cap0).drop 0).take (ns.length * 8) ++ cellsA (.agg (nodX m (.v (.slice none 0 0)))) ++ List.replicate ((cap - (ns.length + 1)) * 8) .any = NX (ns ++ [m]) i nI e cap := by
 show _ ++ nodX m (.v (.slice none 0 0)) ++ _ = _
 unfold NX
 rw [rowsB_new (NX_eight _ _ _ _) (by simp)]
 congr 1
 rw [List.map_append, List.set_append_left _ _ (by simpa using hi)]
 simp [nodF, entX, he]
theorem Pmake0 (f : Fls) (dir : Fil) (name : Str) (n : Nod) (hv : FlsV f) (hns : n.target.size ≤ 100000) (hE0 : (nodG f dir).entries = []) : AFn Try.prog 24 [.agg (flsA f), .agg (filA dir), .v (.string name), .agg (nodA n)] (fun r => r = chgR (mkL f dir name n)) := by
 have hf := hv.b
 refine enter Try.func24 rfl rfl rfl rfl rfl 0 rfl ?_
 refine w_ (b_ (h:=b_ (h:=b_ (h:=al_ (h:=a_ (h:=a_ (h:=e_ (q_ (w_ (l_ (h:=l_ (h:=?_))))))))))))
 refine al_p rfl (q_call (PdirF f dir hf) ?_)
 rintro r rfl
 refine a_ (h:=e_ (w_ (m_ (h:=nq_ (h:=e_ (?_))))))
 refine aw_cond rfl (fun hb1 => ?_) (fun hb1 => ?_)
 ·have hc1 := bp hb1
  refine w_ (bd_ (h:=m_ (h:=s_ (h:=a_ (h:=a_ (h:=e_ (aw_ret (x_thenR (?_)))))))))
  refine rt_ (r := chgR (mkL f dir name n)) none (h5 := ?_) (h6 := ⟨rfl, rfl, rfl⟩)
  (rw [mkL, if_pos (show placeL f dir name ≠ 0 by rw [place_dir hc1]; exact hc1), place_dir hc1]; exact err_le _)
 have hc1 := bp hb1
 refine kt_ (q_ (w_ (m_ (h:=?_))))
 refine al_p rfl (q_call (Pname name) ?_)
 rintro r rfl
 refine nt_ (h:=m_ (h:=?_))
 refine al_gs false rfl rfl (fun hb2 => ?_) (fun hb2 => ?_)
 ·have hc2 := bp hb2
  refine g0_ (h:=g0_ (h:=g0_ (h:=pt_ (h:=e_ (cy_ (h:=w_ (bd_ (h:=s_ (h:=a_ (h:=a_ (h:=e_ (aw_ret (x_thenR (?_))))))))))))))
  refine rt_ (r := chgR (mkL f dir name n)) none (h5 := ?_) (h6 := ⟨rfl, rfl, rfl⟩)
  first
  | (rw [mkL, if_pos (show placeL f dir name ≠ 0 by rw [place_dir hc1]; exact hc1), place_dir hc1]; exact err_le _)
  | (rw [mkL, show placeL f dir name = 22 from place_nm (by omega) hc2, if_pos (by decide)]; exact err_le _)
 have hc2 := bp hb2
 have hpl : placeL f dir name = 0 := place_zero (by omega) hc2
 refine l_ (h:=?_)
 refine g_y (q_call (Pmakeable n hns) ?_)
 rintro r rfl
 refine nt_ (h:=pf_ (h:=e_ (?_)))
 refine aw_cond rfl (fun hb3 => ?_) (fun hb3 => ?_)
 ·have hc3 := bp hb3
  have hpn := hc3
  refine w_ (bd_ (h:=s_ (h:=a_ (h:=a_ (h:=e_ (aw_ret (x_thenR (?_))))))))
  refine rt_ (r := chgR (mkL f dir name n)) none (h5 := ?_) (h6 := ⟨rfl, rfl, rfl⟩)
  first
  | (rw [mkL, if_pos (show placeL f dir name ≠ 0 by rw [place_dir hc1]; exact hc1), place_dir hc1]; exact err_le _)
  | (rw [mkL, show placeL f dir name = 22 from place_nm (by omega) hc2, if_pos (by decide)]; exact err_le _)
  | (rw [mkL, if_neg (by rw [hpl]; simp), if_pos (by assumption)]; exact err_le _)
 have hc3 := bp hb3
 have hpn : ¬ plainL n = false := by simp [hc3]
 refine kt_ (q_ (w_ (l_ (h:=l_ (h:=m_ (h:=?_))))))
 refine al_p rfl (q_call (Pentry f dir name hf) ?_)
 rintro r rfl
 refine m_ (h:=x_ (h:=x_ (h:=al_ (h:=s_ (h:=a_ (h:=e_ (w_ (m_ (h:=e_ (?_))))))))))
 refine aw_cond rfl (fun hb4 => ?_) (fun hb4 => ?_)
 ·have hc4 := bp hb4
  refine w_ (bd_ (h:=s_ (h:=a_ (h:=a_ (h:=e_ (aw_ret (x_thenR (?_))))))))
  refine rt_ (r := chgR (mkL f dir name n)) none (h5 := ?_) (h6 := ⟨rfl, rfl, rfl⟩)
  first
  | (rw [mkL, if_pos (show placeL f dir name ≠ 0 by rw [place_dir hc1]; exact hc1), place_dir hc1]; exact err_le _)
  | (rw [mkL, show placeL f dir name = 22 from place_nm (by omega) hc2, if_pos (by decide)]; exact err_le _)
  | (rw [mkL, if_neg (by rw [hpl]; simp), if_pos (by assumption)]; exact err_le _)
  | (rw [mkL, if_neg (by rw [hpl]; simp), if_neg hpn, if_pos (show (lookL f dir name).2 = 0 by rw [lkE_yes (by omega) (by assumption)])]; exact err_le _)
 have hc4 := bp hb4
 obtain ⟨q, i, d, n0, hdq, hq, hn0, hino, hidx, hnode, hk0, hnm⟩ := place_ok hpl
 have hil := (List.getElem?_eq_some_iff.1 hn0).1
 have hql := (List.getElem?_eq_some_iff.1 hq).1
 have hdn := hf.nodes d (List.mem_of_getElem? hq)
 have hen0 := hf.ents d (List.mem_of_getElem? hq) n0 (List.mem_of_getElem? hn0)
 have hfst := idx_first hdq hq hidx
 have hno := ent_none hnode hc4
 have hfew := hf.few
 have hvd := hv.vd d (List.mem_of_getElem? hq)
 have hatI : atI f dir.1 = some d := by rw [hdq, atI_nat, hq]
 have hD0 : (DB f q d 11 f.length d.nodes.length)[0 + q * 2 + 1]? = some (.bs 11 0 8 d.nodes.length d.nodes.length) := DB_nodes hql
 have hrow : (f.map dvcA)[q]? = some (dvcA d) := by rw [List.getElem?_map, hq]; rfl
 have hnx1 := hvd.next2
 have hnx2 := hvd.nextM
 have hdl := hvd.len
 have hino0 : d.next ≠ 0 := by omega
 have hlk : ¬ (lookL f dir name).2 = 0 := by rw [lkE_two (by omega) hc4]; decide
 have hE : n0.entries = [] := by simpa [nodG, hnode] using hE0
 obtain ⟨mk, hmk⟩ : ∃ mk, mk = mkNod n d.next dir.2 := ⟨_, rfl⟩
 refine kt_ (w_ (f_ (h:=l_ (h:=f_ (h:=l_ (h:=?_))))))
 refine al_p rfl (st_index (n := q) rfl rfl hdq hrow ?_)
 refine l_ (h:=al_ (h:=s_ (h:=e_ (q_ (w_ (f_ (h:=l_ (h:=n_ (h:=ge_ (h:=m_ (h:=?_)))))))))))
 refine al_gs false rfl rfl (fun hb5 => ?_) (fun hb5 => ?_)
 ·have hc5 := bp hb5
  refine g0_ (h:=g0_ (h:=g0_ (h:=pt_ (h:=m_ (h:=g0_ (h:=g0_ (h:=g0_ (h:=pt_ (h:=e_ (cy_ (h:=w_ (bd_ (h:=s_ (h:=a_ (h:=a_ (h:=e_ (aw_ret (x_thenR (?_)))))))))))))))))))
  refine rt_ (r := chgR (mkL f dir name n)) none (h5 := ?_) (h6 := ⟨rfl, rfl, rfl⟩)
  first
  | (rw [mkL, if_pos (show placeL f dir name ≠ 0 by rw [place_dir hc1]; exact hc1), place_dir hc1]; exact err_le _)
  | (rw [mkL, show placeL f dir name = 22 from place_nm (by omega) hc2, if_pos (by decide)]; exact err_le _)
  | (rw [mkL, if_neg (by rw [hpl]; simp), if_pos (by assumption)]; exact err_le _)
  | (rw [mkL, if_neg (by rw [hpl]; simp), if_neg hpn, if_pos (show (lookL f dir name).2 = 0 by rw [lkE_yes (by omega) (by assumption)])]; exact err_le _)
  | (rw [mkL, if_neg (by rw [hpl]; simp), if_neg hpn, if_neg hlk, hatI]; simp only; rw [if_pos (by first | exact .inl (by rw [List.length_map] at hc5; omega) | exact .inr (.inl (by omega)) | exact .inr (.inr (by assumption)))]; exact err_le _)
 have hc5 := bp hb5
 refine f_ (h:=l_ (h:=ge_ (h:=pf_ (h:=m_ (h:=?_)))))
 refine al_gs false rfl rfl (fun hb6 => ?_) (fun hb6 => ?_)
 ·have hc6 := bp hb6
  refine g0_ (h:=g0_ (h:=g0_ (h:=pt_ (h:=e_ (cy_ (h:=w_ (bd_ (h:=s_ (h:=a_ (h:=a_ (h:=e_ (aw_ret (x_thenR (?_))))))))))))))
  refine rt_ (r := chgR (mkL f dir name n)) none (h5 := ?_) (h6 := ⟨rfl, rfl, rfl⟩)
  first
  | (rw [mkL, if_pos (show placeL f dir name ≠ 0 by rw [place_dir hc1]; exact hc1), place_dir hc1]; exact err_le _)
  | (rw [mkL, show placeL f dir name = 22 from place_nm (by omega) hc2, if_pos (by decide)]; exact err_le _)
  | (rw [mkL, if_neg (by rw [hpl]; simp), if_pos (by assumption)]; exact err_le _)
  | (rw [mkL, if_neg (by rw [hpl]; simp), if_neg hpn, if_pos (show (lookL f dir name).2 = 0 by rw [lkE_yes (by omega) (by assumption)])]; exact err_le _)
  | (rw [mkL, if_neg (by rw [hpl]; simp), if_neg hpn, if_neg hlk, hatI]; simp only; rw [if_pos (by first | exact .inl (by rw [List.length_map] at hc5; omega) | exact .inr (.inl (by omega)) | exact .inr (.inr (by assumption)))]; exact err_le _)
 have hc6 := bp hb6
 refine l_ (h:=l_ (h:=?_))
 refine g_y (q_call (Pfull f dir hf) ?_)
 rintro r rfl
 refine pf_ (h:=e_ (?_))
 refine aw_cond rfl (fun hb7 => ?_) (fun hb7 => ?_)
 ·have hc7 := bp hb7
  refine w_ (bd_ (h:=s_ (h:=a_ (h:=a_ (h:=e_ (aw_ret (x_thenR (?_))))))))
  refine rt_ (r := chgR (mkL f dir name n)) none (h5 := ?_) (h6 := ⟨rfl, rfl, rfl⟩)
  first
  | (rw [mkL, if_pos (show placeL f dir name ≠ 0 by rw [place_dir hc1]; exact hc1), place_dir hc1]; exact err_le _)
  | (rw [mkL, show placeL f dir name = 22 from place_nm (by omega) hc2, if_pos (by decide)]; exact err_le _)
  | (rw [mkL, if_neg (by rw [hpl]; simp), if_pos (by assumption)]; exact err_le _)
  | (rw [mkL, if_neg (by rw [hpl]; simp), if_neg hpn, if_pos (show (lookL f dir name).2 = 0 by rw [lkE_yes (by omega) (by assumption)])]; exact err_le _)
  | (rw [mkL, if_neg (by rw [hpl]; simp), if_neg hpn, if_neg hlk, hatI]; simp only; rw [if_pos (by first | exact .inl (by rw [List.length_map] at hc5; omega) | exact .inr (.inl (by omega)) | exact .inr (.inr (by assumption)))]; exact err_le _)
 have hc7 := bp hb7
 have hnf : ¬ (16 ≤ d.nodes.length ∨ d.next = 1073741824 ∨ fullL f dir = true) := by
  rw [List.length_map] at hc5
  rw [hc7]
  simp
  omega
 refine kt_ (w_ (f_ (h:=l_ (h:=f_ (h:=l_ (h:=f_ (h:=l_ (h:=f_ (h:=l_ (h:=f_ (h:=l_ (h:=f_ (h:=l_ (h:=bd_ (h:=al_ (h:=s_ (h:=e_ (?_))))))))))))))))))
 refine aw_midI (fun t => t = ⟨look [(2, .v (.string name)), (4, .bp 0 0), (5, .bp 1 0), (7, .bp 2 0), (8, .bp 3 0), (15, .bp 6 0)], ⟨[flsA f, filA dir, nodA n, [.v (.slice none 0 0)], filA (entP f dir name).1, dvcA d, nodX mk (.v (.slice none 0 0))], []⟩⟩) ?_ ?_
 ·skip
  refine w_ (f_ (h:=l_ (h:=eq_ (h:=e_ (?_)))))
  refine aw_cond rfl (fun hb8 => ?_) (fun hb8 => ?_)
  ·have hc8 := bp hb8
   have hmk2 : mk = ⟨d.next, n.kind, n.mode, n.uid, n.gid, dir.2, n.target, []⟩ := by rw [hmk]; unfold mkNod; rw [if_pos hc8]
   refine aw_region (f_ (h:=l_ (h:=f_ (h:=s_ (h:=al_nil (?_))))))
   refine x_then ?_
   refine ⟨_, rfl, ?_⟩
   rw [hmk2]
   exact (wk 7 0)
  have hc8 := bp hb8
  have hmk2 : mk = ⟨d.next, n.kind, n.mode, n.uid, n.gid, 0, n.target, []⟩ := by rw [hmk]; unfold mkNod; rw [if_neg hc8]
  refine aw_skip (?_)
  refine x_then ?_
  refine ⟨_, rfl, ?_⟩
  rw [hmk2]
  exact (wk 7 0)
 rintro t rfl
 have hmki : mk.ino = d.next := by rw [hmk]; rfl
 have hmk0 : (nodX mk (.v (.slice none 0 0)))[0 + 0]? = some (.v (.int .i64 d.next)) := by rw [hmk]; rfl
 have hmke : mk.entries = [] := by rw [hmk]; rfl
 refine w_ (f_ (h:=l_ (h:=f_ (h:=?_))))
 refine al_p rfl (st_loadB1 (row := nodX mk (.v (.slice none 0 0))) rfl rfl hmk0 ?_)
 refine al_p rfl (st_le (y := .agg (filA (dir.1, d.next))) (st_build (by repeat (first | exact FillA.nil _ | (apply FillA.cons; (focus exact rfl); (focus exact rfl); (focus exact rfl); (focus exact rfl); (focus exact rfl); (focus (repeat constructor))))) ⟨rfl, rfl⟩) (by repeat (first | exact LeA.refl _ | exact LeA.nil _ | exact LeL.refl _ | refine LeA.agg ?_ | refine LeA.tup ?_ | exact LeL.nil | refine LeL.cons ?_ ?_ | exact LeA.any _)) ?_)
 refine al_ (h:=s_ (h:=e_ (w_ (l_ (h:=?_)))))
 refine al_p rfl (s_callM [] rfl (.cons _ _ _ _ _ rfl (LeA.refl _) .nil) (by decide) .nil (PcopyFiles0 f q d hf hq (by omega)) ?_)
 rintro r bc tc ⟨rfl, rfl, rfl⟩
 rw [NF_NX hn0 hE]
 refine ⟨rfl, _, (back_copy0 (n := 8) rfl f q d i n0 f.length d.nodes.length : Back _ [] _ [_, _, _, _, _, _, _, _, _, _, _, _]), ?_⟩
 refine s_ (h:=e_ (q_ (yk_ ([(0, [.bs 10 0 2 f.length f.length]), (1, filA dir), (2, nodA n), (3, [.v (.slice none 0 0)]), (4, filA (entP f dir name).1), (5, dvcA d), (6, nodX mk (.v (.slice none 0 0))), (7, filA (dir.1, d.next))]) 7 (h:=dl_ 0 (h:=dl_ 1 (h:=dm_ 3 (h:=df_ 4 (h:=?_))))))))
 refine tk_ 5 rfl (fun _ hS => st_loadB1 (row := nodX mk (.v (.slice none 0 0))) rfl (kb hS rfl) hmk0 ⟨rfl, rfl⟩) ?_
 refine c_ 2 rfl (s_callM [10, 11] rfl (.cons _ _ _ _ _ rfl (LeA.refl _) (.cons _ _ _ _ _ rfl (LeA.refl _) .nil)) (by decide) (.cons _ _ _ _ _ rfl (ren_DB (by rfl) _ _ _ _ _) (.cons _ _ _ _ _ rfl (ren_NX (by rfl)) .nil)) (PfindB0 f q d i n0 dir hq hn0 hdq hino hfst (by omega) (by omega)) ?_)
 rintro r bc tc ⟨rfl, rfl, rfl⟩
 refine ⟨rfl, _, back_find0 rfl rfl, ?_⟩
 refine o_ (h:=?_)
 refine c_ 6 rfl (s_callM [11] rfl (.cons _ _ _ _ _ rfl (LeA.refl _) (.cons _ _ _ _ _ rfl (LeA.refl _) (.cons _ _ _ _ _ rfl (LeA.refl _) .nil))) (by decide) (.cons _ _ _ _ _ rfl (ren_NX (by rfl)) .nil) (Pput0 d.nodes i n0 name d.next hil) ?_)
 rintro r bc tc ⟨rfl, rfl, rfl⟩
 refine ⟨rfl, _, (back_put0 (Nat.le_of_ble_eq_true rfl) d.nodes i n0 _ d.nodes.length : Back _ [11] _ [_, _, _, _, _, _, _, _, _, _, _, _]), ?_⟩
 refine o_ (h:=z_ (h:=t_ (w_ (f_ (h:=l_ (h:=f_ (h:=l_ (h:=?_))))))))
 refine al_p rfl (st_indexS (m := q) rfl rfl hdq hql ?_)
 refine a_ (h:=e_ (q_ (yk_ ([(0, [.bs 10 0 2 f.length f.length]), (1, filA dir), (2, nodA n), (3, [.v (.slice none 0 0)]), (4, filA (entP f dir name).1), (5, dvcA d), (6, nodX mk (.v (.slice none 0 0))), (7, filA (dir.1, d.next)), (8, [.bs 10 0 2 f.length f.length]), (9, [.bs 10 0 2 f.length f.length]), (10, DB f q d 11 f.length d.nodes.length)]) 10 (h:=?_))))
 refine t2_ 0 rfl (fun h0 hS => st_move rfl ⟨rfl, rfl⟩) ?_
 refine t2_ 1 rfl (fun h0 hS => st_move rfl ⟨rfl, rfl⟩) ?_
 refine t2_ 2 rfl (fun h0 hS => st_nilB rfl ⟨rfl, rfl⟩) ?_
 refine t2_ 3 rfl (fun h0 hS => st_fieldB rfl ⟨rfl, rfl⟩) ?_
 refine t2_ 4 rfl (fun h0 hS => st_loadB1 (row := DB f q d 11 f.length d.nodes.length) rfl (kb hS rfl) hD0 ⟨rfl, rfl⟩) ?_
 first | refine t2_ 5 rfl (fun h0 hS => st_loadB1 (row := DB f q d 11 f.length d.nodes.length) rfl (kb hS rfl) hD0 ⟨rfl, rfl⟩) ?_ | refine t2_ 5 rfl (fun h0 hS => st_loadBW rfl (kb hS rfl) rfl ⟨rfl, rfl⟩) ?_
 refine t2_ 6 rfl (fun h0 hS => st_slit (by repeat (first | exact DenseA.nil _ | (apply DenseA.cons; (focus exact rfl); (focus exact rfl); (focus exact rfl); (focus exact rfl)) | (apply DenseA.consE; (focus exact rfl); (focus exact rfl); (focus exact rfl)))) rfl rfl rfl rfl ⟨rfl, rfl⟩) ?_
 refine c_ 7 rfl (st_appendB rfl rfl rfl (by rw [NX_len _ _ _ _ _ (Nat.le_refl _)]; omega) src1 (by omega) (by omega) ?_ ?_)
 ·intro hg
  exact absurd hg (by omega)
 rintro hg cap3 k bx2 hcp3 hs
 rw [NX_new hil hmke] at hs
 obtain ⟨rfl, rfl⟩ : k = 12 ∧ bx2 = [_, _, _, _, _, _, _, _, _, _, _, _, _] := hs.eq
 have hc : (d.nodes ++ [mk]).length ≤ cap3 := by simpa using hcp3
 refine o_ (h:=?_)
 refine t2_ 8 rfl (fun h0 hS => st_nilB rfl ⟨rfl, rfl⟩) ?_
 refine t2_ 9 rfl (fun h0 hS => st_fieldB rfl ⟨rfl, rfl⟩) ?_
 refine c0_ 10 rfl (s_store rfl rfl rfl rfl rfl rfl (DB_push mk hql) (by repeat constructor) ?_)
 refine o_ (h:=z_ (h:=t_ (w_ (m_ (h:=k_ (h:=f_ (h:=?_)))))))
 refine al_p rfl (st_loadB1 rfl rfl (DB_next hql) ?_)
 refine al_p rfl (st_add64 rfl rfl (by dsimp only; omega) ?_)
 refine k_ (h:=f_ (h:=?_))
 refine al_p0 (s_store rfl rfl rfl rfl rfl rfl (DB_set (d' := ⟨d.next + 1, d.nodes ++ [mk]⟩) (j' := 12) (cap1' := cap3) (k := 0) (cs := [.v (.int .i64 (d.next + 1))]) hql (by repeat constructor) (by simp)) (by repeat constructor) ?_)
 refine e_ (?_)
 refine aw_midI (fun t => t = ⟨look [(8, .bp 3 0), (9, .sl 7 [chgA (dir, name, (0, 0), (dir.1, d.next))] none), (10, .v (.int .i64 0))], ⟨[[.sl 2 (resD f q ⟨d.next + 1, d.nodes ++ [mk]⟩ (((d.nodes ++ [mk]).map nodF).set i (nodX n0 (.sl 2 ([(name, d.next)].map entA) none)))) none], filA dir, nodA n, [.sl 2 (resD f q ⟨d.next + 1, d.nodes ++ [mk]⟩ (((d.nodes ++ [mk]).map nodF).set i (nodX n0 (.sl 2 ([(name, d.next)].map entA) none)))) none]], []⟩⟩) ?_ ?_
 ·skip
  refine yk_ ([(0, [.bs 10 0 2 f.length f.length]), (1, filA dir), (2, nodA n), (4, filA (entP f dir name).1), (5, dvcA d), (6, nodX mk (.v (.slice none 0 0))), (7, filA (dir.1, d.next))]) 9 (h:=dl_ 0 (h:=dl_ 1 (h:=dm_ 2 (h:=dl_ 3 (h:=?_)))))
  refine tk_ 4 rfl (fun _ hS => st_le (y := .agg (chgA (dir, name, (0, 0), (dir.1, d.next)))) (st_build (by repeat (first | exact FillA.nil _ | (apply FillA.cons; (focus exact rfl); (focus exact rfl); (focus exact rfl); (focus exact rfl); (focus exact rfl); (focus (repeat constructor))))) ⟨rfl, rfl⟩) (by repeat (first | exact LeA.refl _ | exact LeA.nil _ | exact LeL.refl _ | refine LeA.agg ⟨rfl, rfl⟩ | refine LeA.tup ⟨rfl, rfl⟩ | exact LeL.nil | refine LeL.cons ⟨rfl, rfl⟩ ⟨rfl, rfl⟩ | exact LeA.any _)) ⟨rfl, rfl⟩) ?_
  refine dbs_ 5 (h:=?_)
  refine c0_ 6 rfl (s_store rfl rfl rfl rfl rfl rfl (by repeat constructor) (by repeat constructor) ?_)
  refine o_ (h:=da_ 7 (h:=da_ 8 (h:=z_ (h:=?_))))
  refine x_then ?_
  exact ⟨_, rfl, weak_fz 4 3 rfl (congrArg (fun x : List AV => [x, filA dir, nodA n, x]) (liv_NX (n := 4) (i0 := 10) (i1 := 12) (f := f) (q := q) (d := ⟨d.next + 1, d.nodes ++ [mk]⟩) (ns := d.nodes ++ [mk]) (i := i) (nI := n0) (cap := f.length) (cap0 := f.length) (cap1 := cap3) hql (Nat.le_refl _) hc rfl (Nat.le_of_ble_eq_true rfl) (Nat.le_of_ble_eq_true rfl) (by rfl) (by rfl) (by rfl))) (.cons _ _ _ _ rfl (LeA.refl _) (.cons _ _ _ _ rfl (LeA.refl _) (.cons _ _ _ _ rfl (LeA.refl _) .nil)))⟩
 rintro t rfl
 refine aw_ret (?_)
 refine rt_ (r := chgR (mkL f dir name n)) none (h5 := ?_) (h6 := ⟨rfl, rfl, rfl⟩)
 first
 | (rw [mkL, if_pos (show placeL f dir name ≠ 0 by rw [place_dir hc1]; exact hc1), place_dir hc1]; exact err_le _)
 | (rw [mkL, show placeL f dir name = 22 from place_nm (by omega) hc2, if_pos (by decide)]; exact err_le _)
 | (rw [mkL, if_neg (by rw [hpl]; simp), if_pos (by assumption)]; exact err_le _)
 | (rw [mkL, if_neg (by rw [hpl]; simp), if_neg hpn, if_pos (show (lookL f dir name).2 = 0 by rw [lkE_yes (by omega) (by assumption)])]; exact err_le _)
 | (rw [mkL, if_neg (by rw [hpl]; simp), if_neg hpn, if_neg hlk, hatI]; simp only; rw [if_pos (by first | exact .inl (by rw [List.length_map] at hc5; omega) | exact .inr (.inl (by omega)) | exact .inr (.inr (by assumption)))]; exact err_le _)
 | (rw [mkL, if_neg (by rw [hpl]; simp), if_neg hpn, if_neg hlk, hatI]; simp only; rw [if_neg hnf, hdq, Int.toNat_natCast, ← hino, ← entS_D (hv.vd d (List.mem_of_getElem? hq)) hn0, hino, ← hmk, show entS d.nodes i n0 name d.next ++ [mk] = (d.nodes ++ [mk]).set i { n0 with entries := [(name, d.next)] } by (unfold entS; rw [show entL n0.entries name d.next = [(name, d.next)] from entL_nil hE hino0]; rw [List.set_append_left _ _ hil]), ← hdq]; exact LeA.tup (.cons (fls_le (d := ⟨d.next + 1, d.nodes ++ [mk]⟩)) (.cons (LeA.refl _) (.cons (LeA.refl _) .nil))))
theorem PmakeG (f : Fls) (dir : Fil) (name : Str) (n : Nod) (hv : FlsV f) (hns : n.target.size ≤ 100000) (hE0 : 0 < (nodG f dir).entries.length) : AFn Try.prog 24 [.agg (flsA f), .agg (filA dir), .v (.string name), .agg (nodA n)] (fun r => r = chgR (mkL f dir name n)) := by
 have hf := hv.b
 refine enter Try.func24 rfl rfl rfl rfl rfl 0 rfl ?_
 refine w_ (b_ (h:=b_ (h:=b_ (h:=al_ (h:=a_ (h:=a_ (h:=e_ (q_ (w_ (l_ (h:=l_ (h:=?_))))))))))))
 refine al_p rfl (q_call (PdirF f dir hf) ?_)
 rintro r rfl
 refine a_ (h:=e_ (w_ (m_ (h:=nq_ (h:=e_ (?_))))))
 refine aw_cond rfl (fun hb1 => ?_) (fun hb1 => ?_)
 ·have hc1 := bp hb1
  refine w_ (bd_ (h:=m_ (h:=s_ (h:=a_ (h:=a_ (h:=e_ (aw_ret (x_thenR (?_)))))))))
  refine rt_ (r := chgR (mkL f dir name n)) none (h5 := ?_) (h6 := ⟨rfl, rfl, rfl⟩)
  (rw [mkL, if_pos (show placeL f dir name ≠ 0 by rw [place_dir hc1]; exact hc1), place_dir hc1]; exact err_le _)
 have hc1 := bp hb1
 refine kt_ (q_ (w_ (m_ (h:=?_))))
 refine al_p rfl (q_call (Pname name) ?_)
 rintro r rfl
 refine nt_ (h:=m_ (h:=?_))
 refine al_gs false rfl rfl (fun hb2 => ?_) (fun hb2 => ?_)
 ·have hc2 := bp hb2
  refine g0_ (h:=g0_ (h:=g0_ (h:=pt_ (h:=e_ (cy_ (h:=w_ (bd_ (h:=s_ (h:=a_ (h:=a_ (h:=e_ (aw_ret (x_thenR (?_))))))))))))))
  refine rt_ (r := chgR (mkL f dir name n)) none (h5 := ?_) (h6 := ⟨rfl, rfl, rfl⟩)
  first
  | (rw [mkL, if_pos (show placeL f dir name ≠ 0 by rw [place_dir hc1]; exact hc1), place_dir hc1]; exact err_le _)
  | (rw [mkL, show placeL f dir name = 22 from place_nm (by omega) hc2, if_pos (by decide)]; exact err_le _)
 have hc2 := bp hb2
 have hpl : placeL f dir name = 0 := place_zero (by omega) hc2
 refine l_ (h:=?_)
 refine g_y (q_call (Pmakeable n hns) ?_)
 rintro r rfl
 refine nt_ (h:=pf_ (h:=e_ (?_)))
 refine aw_cond rfl (fun hb3 => ?_) (fun hb3 => ?_)
 ·have hc3 := bp hb3
  have hpn := hc3
  refine w_ (bd_ (h:=s_ (h:=a_ (h:=a_ (h:=e_ (aw_ret (x_thenR (?_))))))))
  refine rt_ (r := chgR (mkL f dir name n)) none (h5 := ?_) (h6 := ⟨rfl, rfl, rfl⟩)
  first
  | (rw [mkL, if_pos (show placeL f dir name ≠ 0 by rw [place_dir hc1]; exact hc1), place_dir hc1]; exact err_le _)
  | (rw [mkL, show placeL f dir name = 22 from place_nm (by omega) hc2, if_pos (by decide)]; exact err_le _)
  | (rw [mkL, if_neg (by rw [hpl]; simp), if_pos (by assumption)]; exact err_le _)
 have hc3 := bp hb3
 have hpn : ¬ plainL n = false := by simp [hc3]
 refine kt_ (q_ (w_ (l_ (h:=l_ (h:=m_ (h:=?_))))))
 refine al_p rfl (q_call (Pentry f dir name hf) ?_)
 rintro r rfl
 refine m_ (h:=x_ (h:=x_ (h:=al_ (h:=s_ (h:=a_ (h:=e_ (w_ (m_ (h:=e_ (?_))))))))))
 refine aw_cond rfl (fun hb4 => ?_) (fun hb4 => ?_)
 ·have hc4 := bp hb4
  refine w_ (bd_ (h:=s_ (h:=a_ (h:=a_ (h:=e_ (aw_ret (x_thenR (?_))))))))
  refine rt_ (r := chgR (mkL f dir name n)) none (h5 := ?_) (h6 := ⟨rfl, rfl, rfl⟩)
  first
  | (rw [mkL, if_pos (show placeL f dir name ≠ 0 by rw [place_dir hc1]; exact hc1), place_dir hc1]; exact err_le _)
  | (rw [mkL, show placeL f dir name = 22 from place_nm (by omega) hc2, if_pos (by decide)]; exact err_le _)
  | (rw [mkL, if_neg (by rw [hpl]; simp), if_pos (by assumption)]; exact err_le _)
  | (rw [mkL, if_neg (by rw [hpl]; simp), if_neg hpn, if_pos (show (lookL f dir name).2 = 0 by rw [lkE_yes (by omega) (by assumption)])]; exact err_le _)
 have hc4 := bp hb4
 obtain ⟨q, i, d, n0, hdq, hq, hn0, hino, hidx, hnode, hk0, hnm⟩ := place_ok hpl
 have hil := (List.getElem?_eq_some_iff.1 hn0).1
 have hql := (List.getElem?_eq_some_iff.1 hq).1
 have hdn := hf.nodes d (List.mem_of_getElem? hq)
 have hen0 := hf.ents d (List.mem_of_getElem? hq) n0 (List.mem_of_getElem? hn0)
 have hfst := idx_first hdq hq hidx
 have hno := ent_none hnode hc4
 have hfew := hf.few
 have hvd := hv.vd d (List.mem_of_getElem? hq)
 have hatI : atI f dir.1 = some d := by rw [hdq, atI_nat, hq]
 have hD0 : (DB f q d 11 f.length d.nodes.length)[0 + q * 2 + 1]? = some (.bs 11 0 8 d.nodes.length d.nodes.length) := DB_nodes hql
 have hrow : (f.map dvcA)[q]? = some (dvcA d) := by rw [List.getElem?_map, hq]; rfl
 have hnx1 := hvd.next2
 have hnx2 := hvd.nextM
 have hdl := hvd.len
 have hino0 : d.next ≠ 0 := by omega
 have hlk : ¬ (lookL f dir name).2 = 0 := by rw [lkE_two (by omega) hc4]; decide
 have hE : 0 < n0.entries.length := by simpa [nodG, hnode] using hE0
 obtain ⟨mk, hmk⟩ : ∃ mk, mk = mkNod n d.next dir.2 := ⟨_, rfl⟩
 refine kt_ (w_ (f_ (h:=l_ (h:=f_ (h:=l_ (h:=?_))))))
 refine al_p rfl (st_index (n := q) rfl rfl hdq hrow ?_)
 refine l_ (h:=al_ (h:=s_ (h:=e_ (q_ (w_ (f_ (h:=l_ (h:=n_ (h:=ge_ (h:=m_ (h:=?_)))))))))))
 refine al_gs false rfl rfl (fun hb5 => ?_) (fun hb5 => ?_)
 ·have hc5 := bp hb5
  refine g0_ (h:=g0_ (h:=g0_ (h:=pt_ (h:=m_ (h:=g0_ (h:=g0_ (h:=g0_ (h:=pt_ (h:=e_ (cy_ (h:=w_ (bd_ (h:=s_ (h:=a_ (h:=a_ (h:=e_ (aw_ret (x_thenR (?_)))))))))))))))))))
  refine rt_ (r := chgR (mkL f dir name n)) none (h5 := ?_) (h6 := ⟨rfl, rfl, rfl⟩)
  first
  | (rw [mkL, if_pos (show placeL f dir name ≠ 0 by rw [place_dir hc1]; exact hc1), place_dir hc1]; exact err_le _)
  | (rw [mkL, show placeL f dir name = 22 from place_nm (by omega) hc2, if_pos (by decide)]; exact err_le _)
  | (rw [mkL, if_neg (by rw [hpl]; simp), if_pos (by assumption)]; exact err_le _)
  | (rw [mkL, if_neg (by rw [hpl]; simp), if_neg hpn, if_pos (show (lookL f dir name).2 = 0 by rw [lkE_yes (by omega) (by assumption)])]; exact err_le _)
  | (rw [mkL, if_neg (by rw [hpl]; simp), if_neg hpn, if_neg hlk, hatI]; simp only; rw [if_pos (by first | exact .inl (by rw [List.length_map] at hc5; omega) | exact .inr (.inl (by omega)) | exact .inr (.inr (by assumption)))]; exact err_le _)
 have hc5 := bp hb5
 refine f_ (h:=l_ (h:=ge_ (h:=pf_ (h:=m_ (h:=?_)))))
 refine al_gs false rfl rfl (fun hb6 => ?_) (fun hb6 => ?_)
 ·have hc6 := bp hb6
  refine g0_ (h:=g0_ (h:=g0_ (h:=pt_ (h:=e_ (cy_ (h:=w_ (bd_ (h:=s_ (h:=a_ (h:=a_ (h:=e_ (aw_ret (x_thenR (?_))))))))))))))
  refine rt_ (r := chgR (mkL f dir name n)) none (h5 := ?_) (h6 := ⟨rfl, rfl, rfl⟩)
  first
  | (rw [mkL, if_pos (show placeL f dir name ≠ 0 by rw [place_dir hc1]; exact hc1), place_dir hc1]; exact err_le _)
  | (rw [mkL, show placeL f dir name = 22 from place_nm (by omega) hc2, if_pos (by decide)]; exact err_le _)
  | (rw [mkL, if_neg (by rw [hpl]; simp), if_pos (by assumption)]; exact err_le _)
  | (rw [mkL, if_neg (by rw [hpl]; simp), if_neg hpn, if_pos (show (lookL f dir name).2 = 0 by rw [lkE_yes (by omega) (by assumption)])]; exact err_le _)
  | (rw [mkL, if_neg (by rw [hpl]; simp), if_neg hpn, if_neg hlk, hatI]; simp only; rw [if_pos (by first | exact .inl (by rw [List.length_map] at hc5; omega) | exact .inr (.inl (by omega)) | exact .inr (.inr (by assumption)))]; exact err_le _)
 have hc6 := bp hb6
 refine l_ (h:=l_ (h:=?_))
 refine g_y (q_call (Pfull f dir hf) ?_)
 rintro r rfl
 refine pf_ (h:=e_ (?_))
 refine aw_cond rfl (fun hb7 => ?_) (fun hb7 => ?_)
 ·have hc7 := bp hb7
  refine w_ (bd_ (h:=s_ (h:=a_ (h:=a_ (h:=e_ (aw_ret (x_thenR (?_))))))))
  refine rt_ (r := chgR (mkL f dir name n)) none (h5 := ?_) (h6 := ⟨rfl, rfl, rfl⟩)
  first
  | (rw [mkL, if_pos (show placeL f dir name ≠ 0 by rw [place_dir hc1]; exact hc1), place_dir hc1]; exact err_le _)
  | (rw [mkL, show placeL f dir name = 22 from place_nm (by omega) hc2, if_pos (by decide)]; exact err_le _)
  | (rw [mkL, if_neg (by rw [hpl]; simp), if_pos (by assumption)]; exact err_le _)
  | (rw [mkL, if_neg (by rw [hpl]; simp), if_neg hpn, if_pos (show (lookL f dir name).2 = 0 by rw [lkE_yes (by omega) (by assumption)])]; exact err_le _)
  | (rw [mkL, if_neg (by rw [hpl]; simp), if_neg hpn, if_neg hlk, hatI]; simp only; rw [if_pos (by first | exact .inl (by rw [List.length_map] at hc5; omega) | exact .inr (.inl (by omega)) | exact .inr (.inr (by assumption)))]; exact err_le _)
 have hc7 := bp hb7
 have hnf : ¬ (16 ≤ d.nodes.length ∨ d.next = 1073741824 ∨ fullL f dir = true) := by
  rw [List.length_map] at hc5
  rw [hc7]
  simp
  omega
 refine kt_ (w_ (f_ (h:=l_ (h:=f_ (h:=l_ (h:=f_ (h:=l_ (h:=f_ (h:=l_ (h:=f_ (h:=l_ (h:=f_ (h:=l_ (h:=bd_ (h:=al_ (h:=s_ (h:=e_ (?_))))))))))))))))))
 refine aw_midI (fun t => t = ⟨look [(2, .v (.string name)), (4, .bp 0 0), (5, .bp 1 0), (7, .bp 2 0), (8, .bp 3 0), (15, .bp 6 0)], ⟨[flsA f, filA dir, nodA n, [.v (.slice none 0 0)], filA (entP f dir name).1, dvcA d, nodX mk (.v (.slice none 0 0))], []⟩⟩) ?_ ?_
 ·skip
  refine w_ (f_ (h:=l_ (h:=eq_ (h:=e_ (?_)))))
  refine aw_cond rfl (fun hb8 => ?_) (fun hb8 => ?_)
  ·have hc8 := bp hb8
   have hmk2 : mk = ⟨d.next, n.kind, n.mode, n.uid, n.gid, dir.2, n.target, []⟩ := by rw [hmk]; unfold mkNod; rw [if_pos hc8]
   refine aw_region (f_ (h:=l_ (h:=f_ (h:=s_ (h:=al_nil (?_))))))
   refine x_then ?_
   refine ⟨_, rfl, ?_⟩
   rw [hmk2]
   exact (wk 7 0)
  have hc8 := bp hb8
  have hmk2 : mk = ⟨d.next, n.kind, n.mode, n.uid, n.gid, 0, n.target, []⟩ := by rw [hmk]; unfold mkNod; rw [if_neg hc8]
  refine aw_skip (?_)
  refine x_then ?_
  refine ⟨_, rfl, ?_⟩
  rw [hmk2]
  exact (wk 7 0)
 rintro t rfl
 have hmki : mk.ino = d.next := by rw [hmk]; rfl
 have hmk0 : (nodX mk (.v (.slice none 0 0)))[0 + 0]? = some (.v (.int .i64 d.next)) := by rw [hmk]; rfl
 have hmke : mk.entries = [] := by rw [hmk]; rfl
 refine w_ (f_ (h:=l_ (h:=f_ (h:=?_))))
 refine al_p rfl (st_loadB1 (row := nodX mk (.v (.slice none 0 0))) rfl rfl hmk0 ?_)
 refine al_p rfl (st_le (y := .agg (filA (dir.1, d.next))) (st_build (by repeat (first | exact FillA.nil _ | (apply FillA.cons; (focus exact rfl); (focus exact rfl); (focus exact rfl); (focus exact rfl); (focus exact rfl); (focus (repeat constructor))))) ⟨rfl, rfl⟩) (by repeat (first | exact LeA.refl _ | exact LeA.nil _ | exact LeL.refl _ | refine LeA.agg ?_ | refine LeA.tup ?_ | exact LeL.nil | refine LeL.cons ?_ ?_ | exact LeA.any _)) ?_)
 refine al_ (h:=s_ (h:=e_ (w_ (l_ (h:=?_)))))
 refine al_p rfl (s_callM [] rfl (.cons _ _ _ _ _ rfl (LeA.refl _) .nil) (by decide) .nil (PcopyFilesG f q d i n0 hf hq hn0 hE) ?_)
 rintro r bc tc ⟨rfl, rfl, rfl⟩
 refine ⟨rfl, _, (back_copyG (n := 8) rfl f q d i n0 f.length d.nodes.length n0.entries.length : Back _ [] _ [_, _, _, _, _, _, _, _, _, _, _, _, _]), ?_⟩
 refine s_ (h:=e_ (q_ (yk_ ([(0, [.bs 10 0 2 f.length f.length]), (1, filA dir), (2, nodA n), (3, [.v (.slice none 0 0)]), (4, filA (entP f dir name).1), (5, dvcA d), (6, nodX mk (.v (.slice none 0 0))), (7, filA (dir.1, d.next))]) 7 (h:=dl_ 0 (h:=dl_ 1 (h:=dm_ 3 (h:=df_ 4 (h:=?_))))))))
 refine tk_ 5 rfl (fun _ hS => st_loadB1 (row := nodX mk (.v (.slice none 0 0))) rfl (kb hS rfl) hmk0 ⟨rfl, rfl⟩) ?_
 refine c_ 2 rfl (s_callM [10, 11, 12] rfl (.cons _ _ _ _ _ rfl (LeA.refl _) (.cons _ _ _ _ _ rfl (LeA.refl _) .nil)) (by decide) (.cons _ _ _ _ _ rfl (ren_DB (by rfl) _ _ _ _ _) (.cons _ _ _ _ _ rfl (ren_NX (by rfl)) (.cons _ _ _ _ _ rfl (ren_EB _ _ _) .nil))) (PfindBG f q d i n0 dir hq hn0 hdq hino hfst (by omega) (by omega)) ?_)
 rintro r bc tc ⟨rfl, rfl, rfl⟩
 refine ⟨rfl, _, back_find rfl rfl rfl, ?_⟩
 refine o_ (h:=?_)
 refine c_ 6 rfl (s_callM [11, 12] rfl (.cons _ _ _ _ _ rfl (LeA.refl _) (.cons _ _ _ _ _ rfl (LeA.refl _) (.cons _ _ _ _ _ rfl (LeA.refl _) .nil))) (by decide) (.cons _ _ _ _ _ rfl (ren_NX (by rfl)) (.cons _ _ _ _ _ rfl (ren_EB _ _ _) .nil)) (Pput d.nodes i n0 name d.next hil hE (by omega) hino0 hno) ?_)
 rintro r bc tc ⟨rfl, rfl, cap, hcap, rfl⟩
 refine ⟨rfl, _, (back_put (n := 13) rfl (Nat.le_of_ble_eq_true rfl) (Nat.le_of_ble_eq_true rfl) (by decide) d.nodes i n0 (n0.entries.length + 1) cap d.nodes.length n0.entries n0.entries.length (entL n0.entries name d.next) : Back _ [11, 12] _ [_, _, _, _, _, _, _, _, _, _, _, _, _, _]), ?_⟩
 refine o_ (h:=z_ (h:=t_ (w_ (f_ (h:=l_ (h:=f_ (h:=l_ (h:=?_))))))))
 refine al_p rfl (st_indexS (m := q) rfl rfl hdq hql ?_)
 refine a_ (h:=e_ (q_ (yk_ ([(0, [.bs 10 0 2 f.length f.length]), (1, filA dir), (2, nodA n), (3, [.v (.slice none 0 0)]), (4, filA (entP f dir name).1), (5, dvcA d), (6, nodX mk (.v (.slice none 0 0))), (7, filA (dir.1, d.next)), (8, [.bs 10 0 2 f.length f.length]), (9, [.bs 10 0 2 f.length f.length]), (10, DB f q d 11 f.length d.nodes.length)]) 10 (h:=?_))))
 refine t2_ 0 rfl (fun h0 hS => st_move rfl ⟨rfl, rfl⟩) ?_
 refine t2_ 1 rfl (fun h0 hS => st_move rfl ⟨rfl, rfl⟩) ?_
 refine t2_ 2 rfl (fun h0 hS => st_nilB rfl ⟨rfl, rfl⟩) ?_
 refine t2_ 3 rfl (fun h0 hS => st_fieldB rfl ⟨rfl, rfl⟩) ?_
 refine t2_ 4 rfl (fun h0 hS => st_loadB1 (row := DB f q d 11 f.length d.nodes.length) rfl (kb hS rfl) hD0 ⟨rfl, rfl⟩) ?_
 first | refine t2_ 5 rfl (fun h0 hS => st_loadB1 (row := DB f q d 11 f.length d.nodes.length) rfl (kb hS rfl) hD0 ⟨rfl, rfl⟩) ?_ | refine t2_ 5 rfl (fun h0 hS => st_loadBW rfl (kb hS rfl) rfl ⟨rfl, rfl⟩) ?_
 refine t2_ 6 rfl (fun h0 hS => st_slit (by repeat (first | exact DenseA.nil _ | (apply DenseA.cons; (focus exact rfl); (focus exact rfl); (focus exact rfl); (focus exact rfl)) | (apply DenseA.consE; (focus exact rfl); (focus exact rfl); (focus exact rfl)))) rfl rfl rfl rfl ⟨rfl, rfl⟩) ?_
 refine c_ 7 rfl (st_appendB rfl rfl rfl (by rw [NX_len _ _ _ _ _ (Nat.le_refl _)]; omega) src1 (by omega) (by omega) ?_ ?_)
 ·intro hg
  exact absurd hg (by omega)
 rintro hg cap3 k bx2 hcp3 hs
 rw [NX_new hil hmke] at hs
 obtain ⟨rfl, rfl⟩ : k = 14 ∧ bx2 = [_, _, _, _, _, _, _, _, _, _, _, _, _, _, _] := hs.eq
 have hc : (d.nodes ++ [mk]).length ≤ cap3 := by simpa using hcp3
 refine o_ (h:=?_)
 refine t2_ 8 rfl (fun h0 hS => st_nilB rfl ⟨rfl, rfl⟩) ?_
 refine t2_ 9 rfl (fun h0 hS => st_fieldB rfl ⟨rfl, rfl⟩) ?_
 refine c0_ 10 rfl (s_store rfl rfl rfl rfl rfl rfl (DB_push mk hql) (by repeat constructor) ?_)
 refine o_ (h:=z_ (h:=t_ (w_ (m_ (h:=k_ (h:=f_ (h:=?_)))))))
 refine al_p rfl (st_loadB1 rfl rfl (DB_next hql) ?_)
 refine al_p rfl (st_add64 rfl rfl (by dsimp only; omega) ?_)
 refine k_ (h:=f_ (h:=?_))
 refine al_p0 (s_store rfl rfl rfl rfl rfl rfl (DB_set (d' := ⟨d.next + 1, d.nodes ++ [mk]⟩) (j' := 14) (cap1' := cap3) (k := 0) (cs := [.v (.int .i64 (d.next + 1))]) hql (by repeat constructor) (by simp)) (by repeat constructor) ?_)
 refine e_ (?_)
 refine aw_midI (fun t => t = ⟨look [(8, .bp 3 0), (9, .sl 7 [chgA (dir, name, (0, 0), (dir.1, d.next))] none), (10, .v (.int .i64 0))], ⟨[[.sl 2 (resD f q ⟨d.next + 1, d.nodes ++ [mk]⟩ (((d.nodes ++ [mk]).map nodF).set i (nodX n0 (.sl 2 ((entL n0.entries name d.next).map entA) none)))) none], filA dir, nodA n, [.sl 2 (resD f q ⟨d.next + 1, d.nodes ++ [mk]⟩ (((d.nodes ++ [mk]).map nodF).set i (nodX n0 (.sl 2 ((entL n0.entries name d.next).map entA) none)))) none]], []⟩⟩) ?_ ?_
 ·skip
  refine yk_ ([(0, [.bs 10 0 2 f.length f.length]), (1, filA dir), (2, nodA n), (4, filA (entP f dir name).1), (5, dvcA d), (6, nodX mk (.v (.slice none 0 0))), (7, filA (dir.1, d.next))]) 9 (h:=dl_ 0 (h:=dl_ 1 (h:=dm_ 2 (h:=dl_ 3 (h:=?_)))))
  refine tk_ 4 rfl (fun _ hS => st_le (y := .agg (chgA (dir, name, (0, 0), (dir.1, d.next)))) (st_build (by repeat (first | exact FillA.nil _ | (apply FillA.cons; (focus exact rfl); (focus exact rfl); (focus exact rfl); (focus exact rfl); (focus exact rfl); (focus (repeat constructor))))) ⟨rfl, rfl⟩) (by repeat (first | exact LeA.refl _ | exact LeA.nil _ | exact LeL.refl _ | refine LeA.agg ⟨rfl, rfl⟩ | refine LeA.tup ⟨rfl, rfl⟩ | exact LeL.nil | refine LeL.cons ⟨rfl, rfl⟩ ⟨rfl, rfl⟩ | exact LeA.any _)) ⟨rfl, rfl⟩) ?_
  refine dbs_ 5 (h:=?_)
  refine c0_ 6 rfl (s_store rfl rfl rfl rfl rfl rfl (by repeat constructor) (by repeat constructor) ?_)
  refine o_ (h:=da_ 7 (h:=da_ 8 (h:=z_ (h:=?_))))
  refine x_then ?_
  have hcap2 : (entL n0.entries name d.next).length ≤ cap := Nat.le_trans (entL_len _ _ _) hcap
  have hll : n0.entries.length + 1 = (entL n0.entries name d.next).length := (entL_new hino0 hno).symm
  exact ⟨_, rfl, weak_fz 4 3 rfl (congrArg (fun x : List AV => [x, filA dir, nodA n, x]) (liv_NX (n := 4) (i0 := 10) (i1 := 14) (f := f) (q := q) (d := ⟨d.next + 1, d.nodes ++ [mk]⟩) (ns := d.nodes ++ [mk]) (i := i) (nI := n0) (cap := f.length) (cap0 := f.length) (cap1 := cap3) hql (Nat.le_refl _) hc rfl (Nat.le_of_ble_eq_true rfl) (Nat.le_of_ble_eq_true rfl) (by rfl) (by rfl) (by exact low_EB (j := 13) (by decide) rfl hll hcap2))) (.cons _ _ _ _ rfl (LeA.refl _) (.cons _ _ _ _ rfl (LeA.refl _) (.cons _ _ _ _ rfl (LeA.refl _) .nil)))⟩
 rintro t rfl
 refine aw_ret (?_)
 refine rt_ (r := chgR (mkL f dir name n)) none (h5 := ?_) (h6 := ⟨rfl, rfl, rfl⟩)
 first
 | (rw [mkL, if_pos (show placeL f dir name ≠ 0 by rw [place_dir hc1]; exact hc1), place_dir hc1]; exact err_le _)
 | (rw [mkL, show placeL f dir name = 22 from place_nm (by omega) hc2, if_pos (by decide)]; exact err_le _)
 | (rw [mkL, if_neg (by rw [hpl]; simp), if_pos (by assumption)]; exact err_le _)
 | (rw [mkL, if_neg (by rw [hpl]; simp), if_neg hpn, if_pos (show (lookL f dir name).2 = 0 by rw [lkE_yes (by omega) (by assumption)])]; exact err_le _)
 | (rw [mkL, if_neg (by rw [hpl]; simp), if_neg hpn, if_neg hlk, hatI]; simp only; rw [if_pos (by first | exact .inl (by rw [List.length_map] at hc5; omega) | exact .inr (.inl (by omega)) | exact .inr (.inr (by assumption)))]; exact err_le _)
 | (rw [mkL, if_neg (by rw [hpl]; simp), if_neg hpn, if_neg hlk, hatI]; simp only; rw [if_neg hnf, hdq, Int.toNat_natCast, ← hino, ← entS_D (hv.vd d (List.mem_of_getElem? hq)) hn0, hino, ← hmk, show entS d.nodes i n0 name d.next ++ [mk] = (d.nodes ++ [mk]).set i { n0 with entries := (entL n0.entries name d.next) } by (unfold entS; rw [List.set_append_left _ _ hil]), ← hdq]; exact LeA.tup (.cons (fls_le (d := ⟨d.next + 1, d.nodes ++ [mk]⟩)) (.cons (LeA.refl _) (.cons (LeA.refl _) .nil))))
end
theorem Plink (f : Fls) (dir : Fil) (name : Str) (a : Fil) (hv : FlsV f) : AFn Try.prog 27 [.agg (flsA f), .agg (filA dir), .v (.string name), .agg (filA a)] (fun r => r = chgR (linkL f dir name a)) := by
 by_cases h : (nodG f dir).entries = []
 ·exact Plink0 f dir name a hv h
 exact PlinkG f dir name a hv (List.length_pos_iff.2 h)
theorem Pmake (f : Fls) (dir : Fil) (name : Str) (n : Nod) (hv : FlsV f) (hns : n.target.size ≤ 100000) : AFn Try.prog 24 [.agg (flsA f), .agg (filA dir), .v (.string name), .agg (nodA n)] (fun r => r = chgR (mkL f dir name n)) := by
 by_cases h : (nodG f dir).entries = []
 ·exact Pmake0 f dir name n hv hns h
 exact PmakeG f dir name n hv hns (List.length_pos_iff.2 h)
section
set_option maxRecDepth 10000
set_option maxHeartbeats 2000000
theorem Pnew (n : Int) : AFn Try.prog 15 [.v (.int .i64 n)] (fun r => r = .tup [.agg (flsA (newL n).1), .v (.int .i64 (newL n).2)]) := by
 refine enter Try.func15 rfl rfl rfl rfl rfl 0 rfl ?_
 refine w_ (al_ (h:=a_ (h:=e_ (q_ (w_ (m_ (h:=lt_ (h:=m_ (h:=?_)))))))))
 refine al_gs false rfl rfl (fun hb1 => ?_) (fun hb1 => ?_)
 ·have hc1 := bp hb1
  refine g0_ (h:=g0_ (h:=pt_ (h:=e_ (cy_ (h:=w_ (bd_ (h:=s_ (h:=a_ (h:=e_ (aw_ret (x_thenR (?_))))))))))))
  refine rt_ (r := .tup [.agg (flsA (newL n).1), .v (.int .i64 (newL n).2)]) none (h5 := ?_) (h6 := ⟨rfl, rfl, rfl⟩)
  rw [newL_bad (by omega)]
  exact (by repeat (first | exact LeA.refl _ | exact LeA.nil _ | exact LeL.refl _ | refine LeA.agg ?_ | refine LeA.tup ?_ | exact LeL.nil | refine LeL.cons ?_ ?_ | exact LeA.any _))
 have hc1 := bp hb1
 refine m_ (h:=gt_ (h:=pf_ (h:=e_ (?_))))
 refine aw_cond rfl (fun hb2 => ?_) (fun hb2 => ?_)
 ·have hc2 := bp hb2
  refine w_ (bd_ (h:=s_ (h:=a_ (h:=e_ (aw_ret (x_thenR (?_)))))))
  refine rt_ (r := .tup [.agg (flsA (newL n).1), .v (.int .i64 (newL n).2)]) none (h5 := ?_) (h6 := ⟨rfl, rfl, rfl⟩)
  rw [newL_bad (by omega)]
  exact (by repeat (first | exact LeA.refl _ | exact LeA.nil _ | exact LeL.refl _ | refine LeA.agg ?_ | refine LeA.tup ?_ | exact LeL.nil | refine LeL.cons ?_ ?_ | exact LeA.any _))
 have hc2 := bp hb2
 obtain ⟨k, rfl⟩ := Int.eq_ofNat_of_zero_le (show 0 ≤ n by omega)
 refine kt_ (w_ (al_ (h:=e_ (q_ (w_ (m_ (h:=m_ (h:=e_ (aw_block (?_))))))))))
 refine aw_nilTokB 1 0 79 2 rfl rfl (by repeat constructor) (by repeat constructor) (by repeat constructor) ?_
 refine aw_loopW (fun m s => ∃ j : Nat, j ≤ k ∧ m = k - j ∧ s = ⟨look [(2, .bp 0 0), (4, .bp 1 0), (13, .v (.int .i64 (k : Int))), (14, .v (.int .i64 (j : Int)))], ⟨[[.v (.slice none 0 0)], [.sl 2 ((List.replicate j rootDvc).map dvcA) (some 0)]], [(79, 2, (List.replicate j rootDvc).map dvcA)]⟩⟩) (k) ((wk 2 1)) (⟨0, by omega, rfl, rfl⟩) ?_
 rintro m s ⟨j, hj, rfl, rfl⟩
 refine w_ (lt_ (h:=e_ (q_ (?_))))
 refine aw_cond rfl (fun hb3 => ?_) (fun hb3 => ?_)
 ·have hc3 := bp hb3
  refine kt_ (q_ (aw_block (w_ (?_))))
  refine al_p rfl (st_le (y := .agg (nodA rootNod)) (st_build (by repeat (first | exact FillA.nil _ | (apply FillA.cons; (focus exact rfl); (focus exact rfl); (focus exact rfl); (focus exact rfl); (focus exact rfl); (focus (repeat constructor))))) ⟨rfl, rfl⟩) (by repeat (first | exact LeA.refl _ | exact LeA.nil _ | exact LeL.refl _ | refine LeA.agg ?_ | refine LeA.tup ?_ | exact LeL.nil | refine LeL.cons ?_ ?_ | exact LeA.any _)) ?_)
  refine al_ (h:=s_ (h:=e_ (aw_region (f_ (h:=l_ (h:=l_ (h:=bs_ (h:=bd_ (h:=bs_ (h:=?_))))))))))
  first | refine al_p rfl (s_append rfl rfl rfl (by simp; omega) (by repeat constructor) ?_) | refine al_p rfl (s_append0 rfl rfl (by simp; omega) (by repeat constructor) ?_)
  refine f_ (h:=s_ (h:=al_nil (x_blockN (t_ (aw_region (ad_ (h:=m_ (h:=al_nil (?_)))))))))
  refine x_then ?_
  refine ⟨_, _, ?_, ⟨j + 1, by omega, rfl, rfl⟩, (by rw [List.replicate_succ', List.map_append]; exact (wk 2 1))⟩
  omega
 have hc3 := bp hb3
 obtain rfl : j = k := by omega
 refine aw_exit (x_thenE (x_thenE (ABlock_out (t_ (w_ (l_ (h:=s_ (h:=a_ (h:=e_ (aw_ret (?_)))))))))))
 refine e_ret ?_
 rw [newL_ok hc1 hc2]
 rfl
end
def belowP (f : Fls) (top : Fil) : Nat → Fil → Bool
 | 0, _ => false
 | k + 1, a => if a = top then true else match nodeL f a with
   | none => false
   | some n => if n.ino = 1 then false else belowP f top k (a.1, n.parent)
theorem below_succ (f : Fls) (top : Fil) (k : Nat) (a : Fil) : belowP f top (k + 1) a = if a = top then true else match nodeL f a with
    | none => false
    | some n => if n.ino = 1 then false else belowP f top k (a.1, n.parent) := rfl
section
set_option maxRecDepth 20000
set_option maxHeartbeats 4000000
theorem Plinks (f : Fls) (a : Fil) (hf : FlsB f) : AFn Try.prog 37 [.agg (flsA f), .agg (filA a)] (fun r => r = .v (.int .i64 (linksF f a : Int))) := by
 refine enter Try.func37 rfl rfl rfl rfl rfl 0 rfl ?_
 refine w_ (b_ (h:=b_ (h:=a_ (h:=e_ (q_ (w_ (l_ (h:=l_ (h:=?_)))))))))
 refine al_p rfl (q_call (Pfind f a hf) ?_)
 rintro r (⟨e, rfl⟩ | ⟨n, e, rfl⟩)
 ·skip
  refine al_p rfl (st_eqPnil (by kernel_rfl) rfl rfl ?_)
  refine e_ (?_)
  refine aw_cond rfl (fun hb1 => ?_) (fun hb1 => ?_)
  ·have hc1 := bp hb1
   refine w_ (a_ (h:=e_ (aw_ret (x_thenR (?_)))))
   refine e_ret ?_
   exact vi (by simp [linksF, e])
  have hc1 := bp hb1
  exfalso; first | contradiction | omega
 skip
 first | refine al_p rfl (st_eqPnil (by kernel_rfl) rfl rfl ?_) | refine al_p rfl (st_eqPfp (by kernel_rfl) rfl rfl ?_)
 refine e_ (?_)
 refine aw_cond rfl (fun hb2 => ?_) (fun hb2 => ?_)
 ·have hc2 := bp hb2
  exfalso; first | contradiction | omega
 have hc2 := bp hb2
 obtain ⟨k, i0, d, n1, g1, g2, g3, g4, g5, g6⟩ := (index_node f a).resolve_left (fun h => by rw [h.2] at e; cases e)
 have hr1 : (f.map dvcA)[k]? = some (dvcA d) := by rw [List.getElem?_map, g2]; rfl
 have hdn := hf.nodes d (List.mem_of_getElem? g2)
 refine kt_ (w_ (a_ (h:=e_ (q_ (w_ (f_ (h:=l_ (h:=f_ (h:=l_ (h:=?_))))))))))
 refine al_p rfl (st_index (n := k) rfl rfl g1 hr1 ?_)
 refine f_ (h:=l_ (h:=n_ (h:=m_ (h:=e_ (aw_block (?_))))))
 refine aw_loopW (fun m s => ∃ j c : Nat, j ≤ d.nodes.length ∧ m = d.nodes.length - j ∧ c = cntN a.2 (d.nodes.take j) ∧ c ≤ 1000 * j ∧ s = ⟨look [(3, .bp 1 0), (5, .v (.int .i64 (c : Int))), (20, .sl 8 (d.nodes.map nodA) none), (21, .v (.int .i64 ((d.nodes.map nodA).length : Int))), (22, .v (.int .i64 (j : Int)))], ⟨[flsA f, filA a], []⟩⟩) (d.nodes.length) ((wk 2 0)) (⟨0, 0, by omega, rfl, rfl, by omega, rfl⟩) ?_
 rintro m s ⟨j, c, hj, rfl, hcn, hcb, rfl⟩
 refine w_ (lt_ (h:=e_ (q_ (?_))))
 refine aw_cond rfl (fun hb3 => ?_) (fun hb3 => ?_)
 ·have hc3 := bp hb3
  obtain ⟨hlt, x, hx, hrow, -⟩ := row_at nodA hc3
  have hen := hf.ents d (List.mem_of_getElem? g2) x (List.mem_of_getElem? hx)
  refine kt_ (q_ (aw_block (w_ (?_))))
  refine al_p rfl (st_index (n := j) rfl rfl rfl hrow ?_)
  refine l_ (h:=al_ (h:=s_ (h:=e_ (w_ (f_ (h:=l_ (h:=n_ (h:=m_ (h:=e_ (aw_block (?_)))))))))))
  refine aw_loopW (fun m s => ∃ i c2 : Nat, i ≤ x.entries.length ∧ m = x.entries.length - i ∧ c2 = c + cntE a.2 (x.entries.take i) ∧ c2 ≤ c + i ∧ s = ⟨look [(3, .bp 1 0), (5, .v (.int .i64 (c2 : Int))), (20, .sl 8 (d.nodes.map nodA) none), (21, .v (.int .i64 ((d.nodes.map nodA).length : Int))), (22, .v (.int .i64 (j : Int))), (27, .sl 2 (x.entries.map entA) none), (28, .v (.int .i64 ((x.entries.map entA).length : Int))), (29, .v (.int .i64 (i : Int)))], ⟨[flsA f, filA a], []⟩⟩) (x.entries.length) ((wk 2 0)) (⟨0, c, by omega, rfl, rfl, by omega, rfl⟩) ?_
  rintro m s ⟨i, c2, hi, rfl, hc2n, hc2b, rfl⟩
  refine w_ (lt_ (h:=e_ (q_ (?_))))
  refine aw_cond rfl (fun hb4 => ?_) (fun hb4 => ?_)
  ·have hc4 := bp hb4
   obtain ⟨hlt3, y, hy, hrow3, -⟩ := row_at entA hc4
   refine kt_ (q_ (aw_block (w_ (?_))))
   refine al_p rfl (st_index (n := i) rfl rfl rfl hrow3 ?_)
   refine l_ (h:=al_ (h:=s_ (h:=e_ (w_ (f_ (h:=l_ (h:=f_ (h:=l_ (h:=eq_ (h:=e_ (?_)))))))))))
   refine aw_cond rfl (fun hb5 => ?_) (fun hb5 => ?_)
   ·have hc5 := bp hb5
    refine aw_region (m_ (h:=ad_ (h:=a_ (h:=al_nil (x_blockN (t_ (aw_region (ad_ (h:=m_ (h:=al_nil (?_)))))))))))
    refine x_then ?_
    (refine ⟨_, _, ?_, ⟨i + 1, c2 + 1, by omega, rfl, ?_, by omega, rfl⟩, (wk 2 0)⟩ <;> first | omega | (rw [cntE_snoc hy]; simp [hc5]; omega))
   have hc5 := bp hb5
   refine aw_skip (x_blockN (t_ (aw_region (ad_ (h:=m_ (h:=al_nil (?_)))))))
   refine x_then ?_
   first | (refine ⟨_, _, ?_, ⟨i + 1, c2 + 1, by omega, rfl, ?_, by omega, rfl⟩, (wk 2 0)⟩ <;> first | omega | (rw [cntE_snoc hy]; simp [hc5]; omega)) | (refine ⟨_, _, ?_, ⟨i + 1, c2, by omega, rfl, ?_, by omega, rfl⟩, (wk 2 0)⟩ <;> first | omega | (rw [cntE_snoc hy]; simp [hc5]; omega))
  have hc4 := bp hb4
  have e3 := row_no entA hi hc4
  subst e3
  refine aw_exit (x_thenE (x_thenE (ABlock_out (x_blockN (t_ (aw_region (ad_ (h:=m_ (h:=al_nil (?_))))))))))
  refine x_then ?_
  refine ⟨_, _, ?_, ⟨j + 1, c2, by omega, rfl, ?_, ?_, rfl⟩, (wk 2 0)⟩
  ·omega
  ·rw [hc2n, cntN_snoc hx, List.take_length]; omega
  have := cntE_le a.2 (x.entries.take x.entries.length); simp at this; omega
 have hc3 := bp hb3
 have e2 := row_no nodA hj hc3
 subst e2
 refine aw_exit (x_thenE (x_thenE (ABlock_out (t_ (w_ (m_ (h:=a_ (h:=e_ (aw_ret (?_))))))))))
 refine e_ret ?_
 exact vi (by rw [linksF_at g1 g2 g6, hcn, List.take_length])
theorem Pbelow (f : Fls) (top a : Fil) (q : Nat) (d : Dvc) (hf : FlsB f) (ht : top.1 = (q : Int)) (hq : f[q]? = some d) : AFn Try.prog 99 [.agg (flsA f), .agg (filA top), .agg (filA a)] (fun r => r = .v (.bool (belowP f top d.nodes.length a))) := by
 have hrq : (f.map dvcA)[q]? = some (dvcA d) := by rw [List.getElem?_map, hq]; rfl
 have hdn := hf.nodes d (List.mem_of_getElem? hq)
 have hel : (d.nodes.map nodA).length = d.nodes.length := by simp
 refine enter Try.func99 rfl rfl rfl rfl rfl 0 rfl ?_
 refine w_ (b_ (h:=b_ (h:=b_ (h:=a_ (h:=e_ (q_ (w_ (f_ (h:=l_ (h:=f_ (h:=l_ (h:=?_))))))))))))
 refine al_p rfl (st_index (n := q) rfl rfl ht hrq ?_)
 refine f_ (h:=l_ (h:=n_ (h:=m_ (h:=e_ (aw_block (?_))))))
 refine aw_loopW (fun m t => ∃ (j : Nat) (b : Fil), j ≤ d.nodes.length ∧ m = d.nodes.length - j ∧ belowP f top (d.nodes.length - j) b = belowP f top d.nodes.length a ∧ t = ⟨look [(3, .bp 0 0), (4, .bp 1 0), (5, .bp 2 0), (15, .v (.int .i64 ((d.nodes.map nodA).length : Int))), (16, .v (.int .i64 (j : Int)))], ⟨[flsA f, filA top, filA b], []⟩⟩) (d.nodes.length) ((wk 3 0)) (⟨0, a, by omega, rfl, rfl, rfl⟩) ?_
 rintro m t ⟨j, b, hj, rfl, hb, rfl⟩
 refine w_ (lt_ (h:=e_ (q_ (?_))))
 refine aw_cond rfl (fun hb1 => ?_) (fun hb1 => ?_)
 ·have hc1 := bp hb1
  obtain ⟨k, hk⟩ : ∃ k, d.nodes.length - j = k + 1 := ⟨d.nodes.length - j - 1, by omega⟩
  rw [hk, below_succ] at hb
  refine kt_ (q_ (aw_block (q_ (w_ (l_ (h:=l_ (h:=?_)))))))
  refine al_p rfl (st_binA rfl rfl (by repeat constructor) (by repeat constructor) (fun w => eqlFil _ _ _ _ w) (by kernel_rfl) ?_)
  refine e_ (?_)
  refine aw_cond rfl (fun hb2 => ?_) (fun hb2 => ?_)
  ·have hc2 := bp hb2
   refine w_ (a_ (h:=e_ (aw_ret (x_thenR (x_blockR (x_thenR (x_thenR (x_blockR (x_thenR (?_))))))))))
   refine e_ret ?_
   rw [if_pos (show b = top from hc2)] at hb
   exact vb hb
  have hc2 := bp hb2
  rw [if_neg (show ¬ b = top from hc2)] at hb
  refine kt_ (w_ (l_ (h:=l_ (h:=?_))))
  refine al_p rfl (q_call (Pfind f b hf) ?_)
  rintro r (⟨e, rfl⟩ | ⟨n, e, rfl⟩)
  ·skip
   refine a_ (h:=e_ (q_ (w_ (m_ (h:=?_)))))
   refine al_p rfl (st_eqPnil (by kernel_rfl) rfl rfl ?_)
   refine m_ (h:=?_)
   refine al_gs false rfl rfl (fun hb3 => ?_) (fun hb3 => ?_)
   ·have hc3 := bp hb3
    refine g0_ (h:=g0_ (h:=g0_ (h:=g0_ (h:=g0_ (h:=pt_ (h:=e_ (cy_ (h:=w_ (a_ (h:=e_ (aw_ret (x_thenR (x_blockR (x_thenR (x_thenR (x_blockR (x_thenR (?_))))))))))))))))))
    refine e_ret ?_
    rw [e] at hb
    exact vb hb
   have hc3 := bp hb3
   exfalso; first | contradiction | omega
  skip
  refine a_ (h:=e_ (q_ (w_ (m_ (h:=?_)))))
  first | refine al_p rfl (st_eqPnil (by kernel_rfl) rfl rfl ?_) | refine al_p rfl (st_eqPfp (by kernel_rfl) rfl rfl ?_)
  refine m_ (h:=?_)
  refine al_gs false rfl rfl (fun hb4 => ?_) (fun hb4 => ?_)
  ·have hc4 := bp hb4
   exfalso; first | contradiction | omega
  have hc4 := bp hb4
  refine m_ (h:=k_ (h:=f_ (h:=l_ (h:=eq_ (h:=pf_ (h:=e_ (?_)))))))
  refine aw_cond rfl (fun hb5 => ?_) (fun hb5 => ?_)
  ·have hc5 := bp hb5
   refine w_ (a_ (h:=e_ (aw_ret (x_thenR (x_blockR (x_thenR (x_thenR (x_blockR (x_thenR (?_))))))))))
   refine e_ret ?_
   rw [e] at hb
   simp only [hc5, if_true] at hb
   exact vb hb
  have hc5 := bp hb5
  rw [e] at hb
  simp only [hc5, if_false] at hb
  refine kt_ (aw_region (m_ (h:=k_ (h:=f_ (h:=l_ (h:=f_ (h:=s_ (h:=al_nil (x_blockN (t_ (aw_region (ad_ (h:=m_ (h:=al_nil (?_)))))))))))))))
  refine x_then ?_
  refine ⟨_, _, ?_, ⟨j + 1, (b.1, n.parent), by omega, rfl, (by rw [← hb, show d.nodes.length - (j + 1) = k by omega]), rfl⟩, (wk 3 0)⟩
  omega
 have hc1 := bp hb1
 refine aw_exit (x_thenE (x_thenE (ABlock_out (t_ (w_ (a_ (h:=e_ (aw_ret (?_)))))))))
 refine e_ret ?_
 rw [show d.nodes.length - j = 0 by omega] at hb
 exact vb hb
end
end Go.Proofs.Ythcbdkmhamhciaa
