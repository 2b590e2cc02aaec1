/-
  Part 8 of the proof of MountsWithinP: what the statement's proof uses of the texts in wip/tpl.
-/
import Derived.Test.YtgliiknfmlmddaaMw7
namespace Go.Proofs.Ytgliiknfmlmddaa
open Go.RowKit

theorem entGo_at {es : List Ent} {j : Nat} {e : Ent} (h : es[j]? = some e) (name : Str) (ino : Int) (dn : Bool) : entGo name ino dn (es.drop j) = (if !dn && !strLt e.1 name then [(name, ino)] else []) ++ ((if e.1 = name then [] else [e]) ++ entGo name ino (dn || !strLt e.1 name) (es.drop (j + 1))) := by
  obtain ⟨hj, rfl⟩ := List.getElem?_eq_some_iff.1 h
  rw [List.drop_eq_getElem_cons hj]
  rfl
section
set_option maxRecDepth 10000
set_option maxHeartbeats 2000000
theorem Renter (f : Fls) (q : Nat) (d : Dvc) (n : Nod) (i : Nat) (a : Fil) (name : Str) (ino : Int) (cap cap1 : Nat) (hf : FlsB f) (hq : f[q]? = some d) (ha : a.1 = (q : Int)) (hi : indexL f a = (i : Int)) (hn : d.nodes[i]? = some n) (hcap : f.length ≤ cap) (hcap1 : d.nodes.length ≤ cap1) :
    ACall Try.prog 84 [.agg [.bs 0 0 2 f.length cap], .agg (filA a), .v (.string name), .v (.int .i64 ino)] [DB f q d 1 cap cap1, NB d.nodes cap1] (fun r b t => t = [] ∧ r = .tup [] ∧ b = [DB f q d 1 cap cap1, NB (d.nodes.set i { n with entries := entL n.entries name ino }) cap1]) := by
  have hql := (List.getElem?_eq_some_iff.1 hq).1
  have hil := (List.getElem?_eq_some_iff.1 hn).1
  have hen := hf.ents d (List.mem_of_getElem? hq) n (List.mem_of_getElem? hn)
  have hN0 : 0 + i * 8 + 8 ≤ (NB d.nodes cap1).length := by rw [NB_len hcap1]; omega
  have hD0 : (DB f q d 1 cap cap1)[0 + q * 2 + 1]? = some (.bs 1 0 8 d.nodes.length cap1) := DB_nodes hql
  have hset : SetAt (NB d.nodes cap1) (0 + i * 8 + 7) [.sl 2 ((entL n.entries name ino).map entA) none] (NB (d.nodes.set i { n with entries := entL n.entries name ino }) cap1) := NB_set hn (by repeat constructor) (by simp)
  refine enter Try.func84 rfl rfl rfl rfl rfl 2 rfl ?_
  refine p_sr (fun K hK => ?_)
  first | refine al_p rfl (s_boxA rfl rfl (by repeat constructor) ?_) | refine al_p rfl (s_box rfl rfl (by repeat constructor) ?_)
  first | refine al_p rfl (s_boxA rfl rfl (by repeat constructor) ?_) | refine al_p rfl (s_box rfl rfl (by repeat constructor) ?_)
  refine al_nil (x_then (hK _ ?_))
  clear hK K
  refine aw_midI (fun t => t = ⟨look [(2, .v (.string name)), (3, .v (.int .i64 ino)), (4, .bp 2 0), (5, .bp 3 0), (8, .bp 4 0)], ⟨[DB f q d 1 cap cap1, NB d.nodes cap1, [.bs 0 0 2 f.length cap], filA a, nodA n], []⟩⟩) ?_ ?_
  · skip
    refine aw_draw (fun h => ∃ x, h.bx = [DB f q d 1 cap cap1, NB d.nodes cap1, [.bs 0 0 2 f.length cap], filA a] ++ x) 13 (by kernel_rfl) ?_
    refine aa_t (i := 0) rfl rfl (by kernel_rfl) (by first | rfl | exact wan_y rfl rfl (beq_tt ‹_›) | exact wan_y rfl rfl (beq_ff ‹_›) | exact wan_y rfl rfl (by simp [*])) (fun h0 hS => st_fieldB rfl ⟨rfl, rfl⟩) ⟨_, rfl⟩ ?_
    first | refine aa_t (i := 1) rfl rfl (by kernel_rfl) (by first | rfl | exact wan_y rfl rfl (beq_tt ‹_›) | exact wan_y rfl rfl (beq_ff ‹_›) | exact wan_y rfl rfl (by simp [*])) (fun h0 hS => st_loadB1 (row := [.bs 0 0 2 f.length cap]) rfl (by obtain ⟨_, e⟩ := hS; rw [e]; rfl) rfl ⟨rfl, rfl⟩) ⟨_, rfl⟩ ?_ | refine aa_t (i := 1) rfl rfl (by kernel_rfl) (by first | rfl | exact wan_y rfl rfl (beq_tt ‹_›) | exact wan_y rfl rfl (beq_ff ‹_›) | exact wan_y rfl rfl (by simp [*])) (fun h0 hS => st_loadB1 (row := filA a) rfl (by obtain ⟨_, e⟩ := hS; rw [e]; rfl) rfl ⟨rfl, rfl⟩) ⟨_, rfl⟩ ?_ | refine aa_t (i := 1) rfl rfl (by kernel_rfl) (by first | rfl | exact wan_y rfl rfl (beq_tt ‹_›) | exact wan_y rfl rfl (beq_ff ‹_›) | exact wan_y rfl rfl (by simp [*])) (fun h0 hS => st_loadB1 (row := DB f q d 1 cap cap1) rfl (by obtain ⟨_, e⟩ := hS; rw [e]; rfl) hD0 ⟨rfl, rfl⟩) ⟨_, rfl⟩ ?_ | refine aa_t (i := 1) rfl rfl (by kernel_rfl) (by first | rfl | exact wan_y rfl rfl (beq_tt ‹_›) | exact wan_y rfl rfl (beq_ff ‹_›) | exact wan_y rfl rfl (by simp [*])) (fun h0 hS => st_loadBW (row := [.bs 0 0 2 f.length cap]) rfl (by obtain ⟨_, e⟩ := hS; rw [e]; rfl) rfl ⟨rfl, rfl⟩) ⟨_, rfl⟩ ?_ | refine aa_t (i := 1) rfl rfl (by kernel_rfl) (by first | rfl | exact wan_y rfl rfl (beq_tt ‹_›) | exact wan_y rfl rfl (beq_ff ‹_›) | exact wan_y rfl rfl (by simp [*])) (fun h0 hS => st_loadBW (row := filA a) rfl (by obtain ⟨_, e⟩ := hS; rw [e]; rfl) rfl ⟨rfl, rfl⟩) ⟨_, rfl⟩ ?_ | refine aa_t (i := 1) rfl rfl (by kernel_rfl) (by first | rfl | exact wan_y rfl rfl (beq_tt ‹_›) | exact wan_y rfl rfl (beq_ff ‹_›) | exact wan_y rfl rfl (by simp [*])) (fun h0 hS => st_loadBE (row := NB d.nodes cap1) rfl (by obtain ⟨_, e⟩ := hS; rw [e]; rfl) hN0 (NB_row hn) ⟨rfl, rfl⟩) ⟨_, rfl⟩ ?_ | refine aa_t (i := 1) rfl rfl (by kernel_rfl) (by first | rfl | exact wan_y rfl rfl (beq_tt ‹_›) | exact wan_y rfl rfl (beq_ff ‹_›) | exact wan_y rfl rfl (by simp [*])) (fun h0 hS => st_loadB1 rfl rfl rfl ⟨rfl, rfl⟩) ⟨_, rfl⟩ ?_
    refine aa_t (i := 2) rfl rfl (by kernel_rfl) (by first | rfl | exact wan_y rfl rfl (beq_tt ‹_›) | exact wan_y rfl rfl (beq_ff ‹_›) | exact wan_y rfl rfl (by simp [*])) (fun h0 hS => st_fieldB rfl ⟨rfl, rfl⟩) ⟨_, rfl⟩ ?_
    first | refine aa_t (i := 3) rfl rfl (by kernel_rfl) (by first | rfl | exact wan_y rfl rfl (beq_tt ‹_›) | exact wan_y rfl rfl (beq_ff ‹_›) | exact wan_y rfl rfl (by simp [*])) (fun h0 hS => st_loadB1 (row := [.bs 0 0 2 f.length cap]) rfl (by obtain ⟨_, e⟩ := hS; rw [e]; rfl) rfl ⟨rfl, rfl⟩) ⟨_, rfl⟩ ?_ | refine aa_t (i := 3) rfl rfl (by kernel_rfl) (by first | rfl | exact wan_y rfl rfl (beq_tt ‹_›) | exact wan_y rfl rfl (beq_ff ‹_›) | exact wan_y rfl rfl (by simp [*])) (fun h0 hS => st_loadB1 (row := filA a) rfl (by obtain ⟨_, e⟩ := hS; rw [e]; rfl) rfl ⟨rfl, rfl⟩) ⟨_, rfl⟩ ?_ | refine aa_t (i := 3) rfl rfl (by kernel_rfl) (by first | rfl | exact wan_y rfl rfl (beq_tt ‹_›) | exact wan_y rfl rfl (beq_ff ‹_›) | exact wan_y rfl rfl (by simp [*])) (fun h0 hS => st_loadB1 (row := DB f q d 1 cap cap1) rfl (by obtain ⟨_, e⟩ := hS; rw [e]; rfl) hD0 ⟨rfl, rfl⟩) ⟨_, rfl⟩ ?_ | refine aa_t (i := 3) rfl rfl (by kernel_rfl) (by first | rfl | exact wan_y rfl rfl (beq_tt ‹_›) | exact wan_y rfl rfl (beq_ff ‹_›) | exact wan_y rfl rfl (by simp [*])) (fun h0 hS => st_loadBW (row := [.bs 0 0 2 f.length cap]) rfl (by obtain ⟨_, e⟩ := hS; rw [e]; rfl) rfl ⟨rfl, rfl⟩) ⟨_, rfl⟩ ?_ | refine aa_t (i := 3) rfl rfl (by kernel_rfl) (by first | rfl | exact wan_y rfl rfl (beq_tt ‹_›) | exact wan_y rfl rfl (beq_ff ‹_›) | exact wan_y rfl rfl (by simp [*])) (fun h0 hS => st_loadBW (row := filA a) rfl (by obtain ⟨_, e⟩ := hS; rw [e]; rfl) rfl ⟨rfl, rfl⟩) ⟨_, rfl⟩ ?_ | refine aa_t (i := 3) rfl rfl (by kernel_rfl) (by first | rfl | exact wan_y rfl rfl (beq_tt ‹_›) | exact wan_y rfl rfl (beq_ff ‹_›) | exact wan_y rfl rfl (by simp [*])) (fun h0 hS => st_loadBE (row := NB d.nodes cap1) rfl (by obtain ⟨_, e⟩ := hS; rw [e]; rfl) hN0 (NB_row hn) ⟨rfl, rfl⟩) ⟨_, rfl⟩ ?_ | refine aa_t (i := 3) rfl rfl (by kernel_rfl) (by first | rfl | exact wan_y rfl rfl (beq_tt ‹_›) | exact wan_y rfl rfl (beq_ff ‹_›) | exact wan_y rfl rfl (by simp [*])) (fun h0 hS => st_loadB1 rfl rfl rfl ⟨rfl, rfl⟩) ⟨_, rfl⟩ ?_
    refine aa_t (i := 4) rfl rfl (by kernel_rfl) (by first | rfl | exact wan_y rfl rfl (beq_tt ‹_›) | exact wan_y rfl rfl (beq_ff ‹_›) | exact wan_y rfl rfl (by simp [*])) (fun h0 hS => st_indexS (m := q) rfl rfl ha hql ⟨rfl, rfl⟩) ⟨_, rfl⟩ ?_
    refine aa_t (i := 5) rfl rfl (by kernel_rfl) (by first | rfl | exact wan_y rfl rfl (beq_tt ‹_›) | exact wan_y rfl rfl (beq_ff ‹_›) | exact wan_y rfl rfl (by simp [*])) (fun h0 hS => st_fieldB rfl ⟨rfl, rfl⟩) ⟨_, rfl⟩ ?_
    first | refine aa_t (i := 6) rfl rfl (by kernel_rfl) (by first | rfl | exact wan_y rfl rfl (beq_tt ‹_›) | exact wan_y rfl rfl (beq_ff ‹_›) | exact wan_y rfl rfl (by simp [*])) (fun h0 hS => st_loadB1 (row := [.bs 0 0 2 f.length cap]) rfl (by obtain ⟨_, e⟩ := hS; rw [e]; rfl) rfl ⟨rfl, rfl⟩) ⟨_, rfl⟩ ?_ | refine aa_t (i := 6) rfl rfl (by kernel_rfl) (by first | rfl | exact wan_y rfl rfl (beq_tt ‹_›) | exact wan_y rfl rfl (beq_ff ‹_›) | exact wan_y rfl rfl (by simp [*])) (fun h0 hS => st_loadB1 (row := filA a) rfl (by obtain ⟨_, e⟩ := hS; rw [e]; rfl) rfl ⟨rfl, rfl⟩) ⟨_, rfl⟩ ?_ | refine aa_t (i := 6) rfl rfl (by kernel_rfl) (by first | rfl | exact wan_y rfl rfl (beq_tt ‹_›) | exact wan_y rfl rfl (beq_ff ‹_›) | exact wan_y rfl rfl (by simp [*])) (fun h0 hS => st_loadB1 (row := DB f q d 1 cap cap1) rfl (by obtain ⟨_, e⟩ := hS; rw [e]; rfl) hD0 ⟨rfl, rfl⟩) ⟨_, rfl⟩ ?_ | refine aa_t (i := 6) rfl rfl (by kernel_rfl) (by first | rfl | exact wan_y rfl rfl (beq_tt ‹_›) | exact wan_y rfl rfl (beq_ff ‹_›) | exact wan_y rfl rfl (by simp [*])) (fun h0 hS => st_loadBW (row := [.bs 0 0 2 f.length cap]) rfl (by obtain ⟨_, e⟩ := hS; rw [e]; rfl) rfl ⟨rfl, rfl⟩) ⟨_, rfl⟩ ?_ | refine aa_t (i := 6) rfl rfl (by kernel_rfl) (by first | rfl | exact wan_y rfl rfl (beq_tt ‹_›) | exact wan_y rfl rfl (beq_ff ‹_›) | exact wan_y rfl rfl (by simp [*])) (fun h0 hS => st_loadBW (row := filA a) rfl (by obtain ⟨_, e⟩ := hS; rw [e]; rfl) rfl ⟨rfl, rfl⟩) ⟨_, rfl⟩ ?_ | refine aa_t (i := 6) rfl rfl (by kernel_rfl) (by first | rfl | exact wan_y rfl rfl (beq_tt ‹_›) | exact wan_y rfl rfl (beq_ff ‹_›) | exact wan_y rfl rfl (by simp [*])) (fun h0 hS => st_loadBE (row := NB d.nodes cap1) rfl (by obtain ⟨_, e⟩ := hS; rw [e]; rfl) hN0 (NB_row hn) ⟨rfl, rfl⟩) ⟨_, rfl⟩ ?_ | refine aa_t (i := 6) rfl rfl (by kernel_rfl) (by first | rfl | exact wan_y rfl rfl (beq_tt ‹_›) | exact wan_y rfl rfl (beq_ff ‹_›) | exact wan_y rfl rfl (by simp [*])) (fun h0 hS => st_loadB1 rfl rfl rfl ⟨rfl, rfl⟩) ⟨_, rfl⟩ ?_
    first | refine aa_t (i := 7) rfl rfl (by kernel_rfl) (by first | rfl | exact wan_y rfl rfl (beq_tt ‹_›) | exact wan_y rfl rfl (beq_ff ‹_›) | exact wan_y rfl rfl (by simp [*])) (fun h0 hS => st_loadB1 (row := [.bs 0 0 2 f.length cap]) rfl (by obtain ⟨_, e⟩ := hS; rw [e]; rfl) rfl ⟨rfl, rfl⟩) ⟨_, rfl⟩ ?_ | refine aa_t (i := 7) rfl rfl (by kernel_rfl) (by first | rfl | exact wan_y rfl rfl (beq_tt ‹_›) | exact wan_y rfl rfl (beq_ff ‹_›) | exact wan_y rfl rfl (by simp [*])) (fun h0 hS => st_loadB1 (row := filA a) rfl (by obtain ⟨_, e⟩ := hS; rw [e]; rfl) rfl ⟨rfl, rfl⟩) ⟨_, rfl⟩ ?_ | refine aa_t (i := 7) rfl rfl (by kernel_rfl) (by first | rfl | exact wan_y rfl rfl (beq_tt ‹_›) | exact wan_y rfl rfl (beq_ff ‹_›) | exact wan_y rfl rfl (by simp [*])) (fun h0 hS => st_loadB1 (row := DB f q d 1 cap cap1) rfl (by obtain ⟨_, e⟩ := hS; rw [e]; rfl) hD0 ⟨rfl, rfl⟩) ⟨_, rfl⟩ ?_ | refine aa_t (i := 7) rfl rfl (by kernel_rfl) (by first | rfl | exact wan_y rfl rfl (beq_tt ‹_›) | exact wan_y rfl rfl (beq_ff ‹_›) | exact wan_y rfl rfl (by simp [*])) (fun h0 hS => st_loadBW (row := [.bs 0 0 2 f.length cap]) rfl (by obtain ⟨_, e⟩ := hS; rw [e]; rfl) rfl ⟨rfl, rfl⟩) ⟨_, rfl⟩ ?_ | refine aa_t (i := 7) rfl rfl (by kernel_rfl) (by first | rfl | exact wan_y rfl rfl (beq_tt ‹_›) | exact wan_y rfl rfl (beq_ff ‹_›) | exact wan_y rfl rfl (by simp [*])) (fun h0 hS => st_loadBW (row := filA a) rfl (by obtain ⟨_, e⟩ := hS; rw [e]; rfl) rfl ⟨rfl, rfl⟩) ⟨_, rfl⟩ ?_ | refine aa_t (i := 7) rfl rfl (by kernel_rfl) (by first | rfl | exact wan_y rfl rfl (beq_tt ‹_›) | exact wan_y rfl rfl (beq_ff ‹_›) | exact wan_y rfl rfl (by simp [*])) (fun h0 hS => st_loadBE (row := NB d.nodes cap1) rfl (by obtain ⟨_, e⟩ := hS; rw [e]; rfl) hN0 (NB_row hn) ⟨rfl, rfl⟩) ⟨_, rfl⟩ ?_ | refine aa_t (i := 7) rfl rfl (by kernel_rfl) (by first | rfl | exact wan_y rfl rfl (beq_tt ‹_›) | exact wan_y rfl rfl (beq_ff ‹_›) | exact wan_y rfl rfl (by simp [*])) (fun h0 hS => st_loadBW rfl rfl rfl ⟨rfl, rfl⟩) ⟨_, rfl⟩ ?_
    first | refine aa_t (i := 8) rfl rfl (by kernel_rfl) (by first | rfl | exact wan_y rfl rfl (beq_tt ‹_›) | exact wan_y rfl rfl (beq_ff ‹_›) | exact wan_y rfl rfl (by simp [*])) (fun h0 hS => st_loadB1 (row := [.bs 0 0 2 f.length cap]) rfl (by obtain ⟨_, e⟩ := hS; rw [e]; rfl) rfl ⟨rfl, rfl⟩) ⟨_, rfl⟩ ?_ | refine aa_t (i := 8) rfl rfl (by kernel_rfl) (by first | rfl | exact wan_y rfl rfl (beq_tt ‹_›) | exact wan_y rfl rfl (beq_ff ‹_›) | exact wan_y rfl rfl (by simp [*])) (fun h0 hS => st_loadB1 (row := filA a) rfl (by obtain ⟨_, e⟩ := hS; rw [e]; rfl) rfl ⟨rfl, rfl⟩) ⟨_, rfl⟩ ?_ | refine aa_t (i := 8) rfl rfl (by kernel_rfl) (by first | rfl | exact wan_y rfl rfl (beq_tt ‹_›) | exact wan_y rfl rfl (beq_ff ‹_›) | exact wan_y rfl rfl (by simp [*])) (fun h0 hS => st_loadB1 (row := DB f q d 1 cap cap1) rfl (by obtain ⟨_, e⟩ := hS; rw [e]; rfl) hD0 ⟨rfl, rfl⟩) ⟨_, rfl⟩ ?_ | refine aa_t (i := 8) rfl rfl (by kernel_rfl) (by first | rfl | exact wan_y rfl rfl (beq_tt ‹_›) | exact wan_y rfl rfl (beq_ff ‹_›) | exact wan_y rfl rfl (by simp [*])) (fun h0 hS => st_loadBW (row := [.bs 0 0 2 f.length cap]) rfl (by obtain ⟨_, e⟩ := hS; rw [e]; rfl) rfl ⟨rfl, rfl⟩) ⟨_, rfl⟩ ?_ | refine aa_t (i := 8) rfl rfl (by kernel_rfl) (by first | rfl | exact wan_y rfl rfl (beq_tt ‹_›) | exact wan_y rfl rfl (beq_ff ‹_›) | exact wan_y rfl rfl (by simp [*])) (fun h0 hS => st_loadBW (row := filA a) rfl (by obtain ⟨_, e⟩ := hS; rw [e]; rfl) rfl ⟨rfl, rfl⟩) ⟨_, rfl⟩ ?_ | refine aa_t (i := 8) rfl rfl (by kernel_rfl) (by first | rfl | exact wan_y rfl rfl (beq_tt ‹_›) | exact wan_y rfl rfl (beq_ff ‹_›) | exact wan_y rfl rfl (by simp [*])) (fun h0 hS => st_loadBE (row := NB d.nodes cap1) rfl (by obtain ⟨_, e⟩ := hS; rw [e]; rfl) hN0 (NB_row hn) ⟨rfl, rfl⟩) ⟨_, rfl⟩ ?_ | refine aa_t (i := 8) rfl rfl (by kernel_rfl) (by first | rfl | exact wan_y rfl rfl (beq_tt ‹_›) | exact wan_y rfl rfl (beq_ff ‹_›) | exact wan_y rfl rfl (by simp [*])) (fun h0 hS => st_loadBW rfl rfl rfl ⟨rfl, rfl⟩) ⟨_, rfl⟩ ?_
    refine aa_two (i := 9) (j := 12) (by kernel_rfl) rfl rfl (by first | rfl | exact wan_y rfl rfl (beq_tt ‹_›) | exact wan_y rfl rfl (beq_ff ‹_›) | exact wan_y rfl rfl (by simp [*])) rfl rfl (by first | rfl | exact wan_y rfl rfl (beq_tt ‹_›) | exact wan_y rfl rfl (beq_ff ‹_›) | exact wan_y rfl rfl (by simp [*])) ?_ ?_
    · refine s_callR 2 rfl (.cons _ _ _ _ _ rfl (LeA.of_eq (low_fls hq hcap hcap1 (Nat.zero_le _) (Nat.zero_le _) rfl rfl)) (.cons _ _ _ _ _ rfl (LeA.refl _) .nil)) (Rindex f a hf) ?_
      rintro r rfl
      refine ⟨rfl, ?_⟩
      refine ⟨.inr ⟨_, rfl⟩, ?_⟩
      refine aa_t (i := 10) rfl rfl (by kernel_rfl) (by first | rfl | exact wan_y rfl rfl (beq_tt ‹_›) | exact wan_y rfl rfl (beq_ff ‹_›) | exact wan_y rfl rfl (by simp [*])) (fun h0 hS => st_indexS (m := i) rfl rfl hi hil ⟨rfl, rfl⟩) ⟨_, rfl⟩ ?_
      first | refine aa_t (i := 11) rfl rfl (by kernel_rfl) (by first | rfl | exact wan_y rfl rfl (beq_tt ‹_›) | exact wan_y rfl rfl (beq_ff ‹_›) | exact wan_y rfl rfl (by simp [*])) (fun h0 hS => st_loadB1 (row := [.bs 0 0 2 f.length cap]) rfl (by obtain ⟨_, e⟩ := hS; rw [e]; rfl) rfl ⟨rfl, rfl⟩) ⟨_, rfl⟩ ?_ | refine aa_t (i := 11) rfl rfl (by kernel_rfl) (by first | rfl | exact wan_y rfl rfl (beq_tt ‹_›) | exact wan_y rfl rfl (beq_ff ‹_›) | exact wan_y rfl rfl (by simp [*])) (fun h0 hS => st_loadB1 (row := filA a) rfl (by obtain ⟨_, e⟩ := hS; rw [e]; rfl) rfl ⟨rfl, rfl⟩) ⟨_, rfl⟩ ?_ | refine aa_t (i := 11) rfl rfl (by kernel_rfl) (by first | rfl | exact wan_y rfl rfl (beq_tt ‹_›) | exact wan_y rfl rfl (beq_ff ‹_›) | exact wan_y rfl rfl (by simp [*])) (fun h0 hS => st_loadB1 (row := DB f q d 1 cap cap1) rfl (by obtain ⟨_, e⟩ := hS; rw [e]; rfl) hD0 ⟨rfl, rfl⟩) ⟨_, rfl⟩ ?_ | refine aa_t (i := 11) rfl rfl (by kernel_rfl) (by first | rfl | exact wan_y rfl rfl (beq_tt ‹_›) | exact wan_y rfl rfl (beq_ff ‹_›) | exact wan_y rfl rfl (by simp [*])) (fun h0 hS => st_loadBW (row := [.bs 0 0 2 f.length cap]) rfl (by obtain ⟨_, e⟩ := hS; rw [e]; rfl) rfl ⟨rfl, rfl⟩) ⟨_, rfl⟩ ?_ | refine aa_t (i := 11) rfl rfl (by kernel_rfl) (by first | rfl | exact wan_y rfl rfl (beq_tt ‹_›) | exact wan_y rfl rfl (beq_ff ‹_›) | exact wan_y rfl rfl (by simp [*])) (fun h0 hS => st_loadBW (row := filA a) rfl (by obtain ⟨_, e⟩ := hS; rw [e]; rfl) rfl ⟨rfl, rfl⟩) ⟨_, rfl⟩ ?_ | refine aa_t (i := 11) rfl rfl (by kernel_rfl) (by first | rfl | exact wan_y rfl rfl (beq_tt ‹_›) | exact wan_y rfl rfl (beq_ff ‹_›) | exact wan_y rfl rfl (by simp [*])) (fun h0 hS => st_loadBE (row := NB d.nodes cap1) rfl (by obtain ⟨_, e⟩ := hS; rw [e]; rfl) hN0 (NB_row hn) ⟨rfl, rfl⟩) ⟨_, rfl⟩ ?_ | refine aa_t (i := 11) rfl rfl (by kernel_rfl) (by first | rfl | exact wan_y rfl rfl (beq_tt ‹_›) | exact wan_y rfl rfl (beq_ff ‹_›) | exact wan_y rfl rfl (by simp [*])) (fun h0 hS => st_loadBW rfl rfl rfl ⟨rfl, rfl⟩) ⟨_, rfl⟩ ?_
      refine aa_c (i := 12) rfl rfl (by kernel_rfl) (by first | rfl | exact wan_y rfl rfl (beq_tt ‹_›) | exact wan_y rfl rfl (beq_ff ‹_›) | exact wan_y rfl rfl (by simp [*])) (s_alloc (by repeat constructor) ?_)
      refine ⟨.inr ⟨_, rfl⟩, ?_⟩
      refine aa_c0 (i := 13) rfl (by kernel_rfl) (by first | rfl | exact wan_y rfl rfl (beq_tt ‹_›) | exact wan_y rfl rfl (beq_ff ‹_›) | exact wan_y rfl rfl (by simp [*])) (s_store rfl rfl rfl rfl rfl rfl (by repeat constructor) (by repeat constructor) ?_)
      refine ⟨.inl rfl, ?_⟩
      refine aa_done (by kernel_rfl) ?_ _
      refine x_then ?_
      exact ⟨_, rfl, weak_of 5 0 rfl rfl rfl (by simp [bpLtB, bpLtL, bpLt, bp_DB, bp_NB, filA, nodA]) (by repeat (first | exact Sub.nil | refine Sub.cons _ _ _ rfl rfl ?_ | refine Sub.any _ _ ?_ | refine Sub.sl _ _ _ _ _ rfl ?_ | refine Sub.slnil _ _ _ rfl ?_))⟩
    · refine s_alloc (by repeat constructor) ?_
      refine ⟨.inr ⟨_, rfl⟩, ?_⟩
      refine aa_c (i := 9) rfl rfl (by kernel_rfl) (by first | rfl | exact wan_y rfl rfl (beq_tt ‹_›) | exact wan_y rfl rfl (beq_ff ‹_›) | exact wan_y rfl rfl (by simp [*])) (s_callR 2 rfl (.cons _ _ _ _ _ rfl (LeA.of_eq (low_fls hq hcap hcap1 (Nat.zero_le _) (Nat.zero_le _) rfl rfl)) (.cons _ _ _ _ _ rfl (LeA.refl _) .nil)) (Rindex f a hf) ?_)
      rintro r rfl
      refine ⟨rfl, ?_⟩
      refine ⟨.inr ⟨_, rfl⟩, ?_⟩
      refine aa_t (i := 10) rfl rfl (by kernel_rfl) (by first | rfl | exact wan_y rfl rfl (beq_tt ‹_›) | exact wan_y rfl rfl (beq_ff ‹_›) | exact wan_y rfl rfl (by simp [*])) (fun h0 hS => st_indexS (m := i) rfl rfl hi hil ⟨rfl, rfl⟩) ⟨_, rfl⟩ ?_
      first | refine aa_t (i := 11) rfl rfl (by kernel_rfl) (by first | rfl | exact wan_y rfl rfl (beq_tt ‹_›) | exact wan_y rfl rfl (beq_ff ‹_›) | exact wan_y rfl rfl (by simp [*])) (fun h0 hS => st_loadB1 (row := [.bs 0 0 2 f.length cap]) rfl (by obtain ⟨_, e⟩ := hS; rw [e]; rfl) rfl ⟨rfl, rfl⟩) ⟨_, rfl⟩ ?_ | refine aa_t (i := 11) rfl rfl (by kernel_rfl) (by first | rfl | exact wan_y rfl rfl (beq_tt ‹_›) | exact wan_y rfl rfl (beq_ff ‹_›) | exact wan_y rfl rfl (by simp [*])) (fun h0 hS => st_loadB1 (row := filA a) rfl (by obtain ⟨_, e⟩ := hS; rw [e]; rfl) rfl ⟨rfl, rfl⟩) ⟨_, rfl⟩ ?_ | refine aa_t (i := 11) rfl rfl (by kernel_rfl) (by first | rfl | exact wan_y rfl rfl (beq_tt ‹_›) | exact wan_y rfl rfl (beq_ff ‹_›) | exact wan_y rfl rfl (by simp [*])) (fun h0 hS => st_loadB1 (row := DB f q d 1 cap cap1) rfl (by obtain ⟨_, e⟩ := hS; rw [e]; rfl) hD0 ⟨rfl, rfl⟩) ⟨_, rfl⟩ ?_ | refine aa_t (i := 11) rfl rfl (by kernel_rfl) (by first | rfl | exact wan_y rfl rfl (beq_tt ‹_›) | exact wan_y rfl rfl (beq_ff ‹_›) | exact wan_y rfl rfl (by simp [*])) (fun h0 hS => st_loadBW (row := [.bs 0 0 2 f.length cap]) rfl (by obtain ⟨_, e⟩ := hS; rw [e]; rfl) rfl ⟨rfl, rfl⟩) ⟨_, rfl⟩ ?_ | refine aa_t (i := 11) rfl rfl (by kernel_rfl) (by first | rfl | exact wan_y rfl rfl (beq_tt ‹_›) | exact wan_y rfl rfl (beq_ff ‹_›) | exact wan_y rfl rfl (by simp [*])) (fun h0 hS => st_loadBW (row := filA a) rfl (by obtain ⟨_, e⟩ := hS; rw [e]; rfl) rfl ⟨rfl, rfl⟩) ⟨_, rfl⟩ ?_ | refine aa_t (i := 11) rfl rfl (by kernel_rfl) (by first | rfl | exact wan_y rfl rfl (beq_tt ‹_›) | exact wan_y rfl rfl (beq_ff ‹_›) | exact wan_y rfl rfl (by simp [*])) (fun h0 hS => st_loadBE (row := NB d.nodes cap1) rfl (by obtain ⟨_, e⟩ := hS; rw [e]; rfl) hN0 (NB_row hn) ⟨rfl, rfl⟩) ⟨_, rfl⟩ ?_ | refine aa_t (i := 11) rfl rfl (by kernel_rfl) (by first | rfl | exact wan_y rfl rfl (beq_tt ‹_›) | exact wan_y rfl rfl (beq_ff ‹_›) | exact wan_y rfl rfl (by simp [*])) (fun h0 hS => st_loadBW rfl rfl rfl ⟨rfl, rfl⟩) ⟨_, rfl⟩ ?_
      refine aa_c0 (i := 13) rfl (by kernel_rfl) (by first | rfl | exact wan_y rfl rfl (beq_tt ‹_›) | exact wan_y rfl rfl (beq_ff ‹_›) | exact wan_y rfl rfl (by simp [*])) (s_store rfl rfl rfl rfl rfl rfl (by repeat constructor) (by repeat constructor) ?_)
      refine ⟨.inl rfl, ?_⟩
      refine aa_done (by kernel_rfl) ?_ _
      refine x_then ?_
      exact ⟨_, rfl, weak_of 5 0 rfl rfl rfl (by simp [bpLtB, bpLtL, bpLt, bp_DB, bp_NB, filA, nodA]) (by repeat (first | exact Sub.nil | refine Sub.cons _ _ _ rfl rfl ?_ | refine Sub.any _ _ ?_ | refine Sub.sl _ _ _ _ _ rfl ?_ | refine Sub.slnil _ _ _ rfl ?_))⟩
  · rintro t rfl
    refine p_sr (fun K hK => ?_)
    refine p_as ?_
    refine al_nil (x_then (hK _ ?_))
    clear hK K
    refine p_sr (fun K hK => ?_)
    refine p_mv ?_
    first | refine al_p rfl (st_eql rfl rfl ?_) | refine al_p rfl (st_eqlS rfl rfl ?_) | refine al_p rfl (st_eqlB (by kernel_rfl) rfl rfl ?_)
    refine p_as ?_
    refine al_nil (x_then (hK _ ?_))
    clear hK K
    refine aw_seq (fun K hK => ?_)
    refine p_sr (fun K hK => ?_)
    refine p_as ?_
    refine al_nil (x_then (hK _ ?_))
    clear hK K
    refine aw_block ?_
    refine aw_nilTok 9 112 2 rfl (by repeat constructor) ?_
    refine aw_loopW (fun m t => ∃ (j : Nat) (acc : List Ent) (dn : Bool), j ≤ n.entries.length ∧ m = n.entries.length - j ∧ acc ++ entGo name ino dn (n.entries.drop j) = entL n.entries name ino ∧ acc.length ≤ 2 * j ∧ t = ⟨look [(2, .v (.string name)), (3, .v (.int .i64 ino)), (4, .bp 2 0), (5, .bp 3 0), (8, .bp 4 0), (9, .sl 2 (acc.map entA) (some 0)), (10, .v (.bool dn)), (11, .v (.int .i64 (j : Int)))], ⟨[DB f q d 1 cap cap1, NB d.nodes cap1, [.bs 0 0 2 f.length cap], filA a, nodA n], [(112, 2, acc.map entA)]⟩⟩) (n.entries.length) (weak_of 5 1 rfl rfl rfl (by simp [bpLtB, bpLtL, bpLt, bp_DB, bp_NB, filA, nodA]) (by repeat (first | exact Sub.nil | refine Sub.cons _ _ _ rfl rfl ?_ | refine Sub.any _ _ ?_ | refine Sub.sl _ _ _ _ _ rfl ?_ | refine Sub.slnil _ _ _ rfl ?_))) (⟨0, [], _, Nat.zero_le _, rfl, rfl, by simp, rfl⟩) ?_
    rintro m t ⟨j, acc, dn, hj, rfl, hacc, hal, rfl⟩
    refine aw_seq (fun K hK => ?_)
    refine p_sr (fun K hK => ?_)
    refine p_mv ?_
    refine al_p rfl (st_fieldB rfl ?_)
    refine al_p rfl (st_loadB1 rfl rfl rfl ?_)
    first | refine al_p rfl (st_len rfl ?_) | refine al_p rfl (st_lenS (by kernel_rfl) rfl ?_) | refine al_p rfl (st_len0 rfl ?_)
    first | refine al_p rfl (st_lss rfl rfl ?_) | refine al_p rfl (st_lssS rfl rfl ?_)
    refine al_nil (x_then (hK _ ?_))
    clear hK K
    refine aw_cond rfl (fun hb1 => ?_) (fun hb1 => ?_)
    · have hc1 := bp hb1
      obtain ⟨hlt, e, hy, hrow, -⟩ := row_at entA hc1
      refine aw_skip ?_
      refine x_then ?_
      refine hK _ ?_
      clear hK K
      refine aw_seq (fun K hK => ?_)
      refine aw_block ?_
      refine aw_seq (fun K hK => ?_)
      refine p_sr (fun K hK => ?_)
      refine p_mv ?_
      refine al_p rfl (st_not rfl ?_)
      refine p_mv ?_
      refine al_gs true rfl rfl (fun hb2 => ?_) (fun hb2 => ?_)
      · have hc2 := bp hb2
        have hdn := hc2
        refine g_y (st_fieldB rfl ?_)
        refine g_y (st_loadB1 rfl rfl rfl ?_)
        refine g_y (st_move rfl ?_)
        refine g_y (st_index rfl rfl rfl (by first | assumption | rfl) ?_)
        refine g_y (st_fieldF rfl ?_)
        refine g_y (st_loadF1 rfl rfl ?_)
        refine g_y (st_move rfl ?_)
        first | refine g_y (st_geq rfl rfl ?_) | refine g_y (st_geqS rfl rfl ?_)
        refine al_p rfl (p_t ?_)
        refine al_nil (x_then (hK _ ?_))
        clear hK K
        refine aw_cond rfl (fun hb3 => ?_) (fun hb3 => ?_)
        · have hc3 := bp hb3
          have hsl : strLt e.1 name = false := hc3
          refine p_sr (fun K hK => ?_)
          refine p_mv ?_
          refine p_mv ?_
          refine p_mv ?_
          refine p_bd ?_
          refine al_p rfl (st_slit (by repeat (first | exact DenseA.nil _ | (apply DenseA.cons; (focus exact rfl); (focus exact rfl); (focus exact rfl); (focus exact rfl)) | (apply DenseA.consE; (focus exact rfl); (focus exact rfl); (focus exact rfl)))) rfl rfl rfl rfl ?_)
          first | refine al_p rfl (s_append rfl rfl rfl (by simp <;> omega) (by repeat constructor) ?_) | refine al_p rfl (s_append0 rfl rfl (by simp <;> omega) (by repeat constructor) ?_)
          refine p_as ?_
          refine al_nil (x_then (hK _ ?_))
          clear hK K
          refine aw_region ?_
          refine p_as ?_
          refine al_nil (x_then (hK _ ?_))
          clear hK K
          refine p_sr (fun K hK => ?_)
          refine al_p rfl (st_fieldB rfl ?_)
          refine al_p rfl (st_loadB1 rfl rfl rfl ?_)
          refine p_mv ?_
          refine al_p rfl (st_index rfl rfl rfl (by first | assumption | rfl) ?_)
          refine al_p rfl (st_fieldF rfl ?_)
          refine al_p rfl (st_loadF1 rfl rfl ?_)
          refine p_mv ?_
          first | refine al_p rfl (st_neq rfl rfl ?_) | refine al_p rfl (st_neqS rfl rfl ?_) | refine al_p rfl (st_neqB (by kernel_rfl) rfl rfl ?_)
          refine al_nil (x_then (hK _ ?_))
          clear hK K
          refine aw_cond rfl (fun hb4 => ?_) (fun hb4 => ?_)
          · have hc4 := bp hb4
            have hnm : ¬ e.1 = name := hc4
            refine aw_region ?_
            refine p_mv ?_
            refine al_p rfl (st_fieldB rfl ?_)
            refine al_p rfl (st_loadB1 rfl rfl rfl ?_)
            refine p_mv ?_
            refine al_p rfl (st_index rfl rfl rfl (by first | assumption | rfl) ?_)
            refine al_p rfl (st_loadFW rfl rfl ?_)
            refine al_p rfl (st_slit (by repeat (first | exact DenseA.nil _ | (apply DenseA.cons; (focus exact rfl); (focus exact rfl); (focus exact rfl); (focus exact rfl)) | (apply DenseA.consE; (focus exact rfl); (focus exact rfl); (focus exact rfl)))) rfl rfl rfl rfl ?_)
            first | refine al_p rfl (s_append rfl rfl rfl (by simp <;> omega) (by repeat constructor) ?_) | refine al_p rfl (s_append0 rfl rfl (by simp <;> omega) (by repeat constructor) ?_)
            refine p_as ?_
            refine al_nil ?_
            refine x_blockN ?_
            refine x_then ?_
            refine hK _ ?_
            clear hK K
            refine aw_region ?_
            refine p_mv ?_
            first | refine al_p rfl (st_add64 rfl rfl (by omega) ?_) | refine al_p rfl (st_addS rfl rfl (by omega) ?_) | refine al_p rfl (st_add rfl rfl ?_)
            refine p_as ?_
            refine al_nil ?_
            refine x_then ?_
            first | (exact ⟨n.entries.length - (j + 1), _, by omega, ⟨j + 1, acc ++ [(name, ino)] ++ [e], true, by omega, rfl, (by rw [← hacc, entGo_at hy]; first | (simp only [hsl, hdn]; simp [hnm]; done) | (simp only [hdn]; simp [hnm]; done)), (by (try simp); omega), rfl⟩, (by (try simp only [List.map_append, List.map_cons, List.map_nil]); exact weak_of 5 1 rfl rfl rfl (by simp [bpLtB, bpLtL, bpLt, bp_DB, bp_NB, filA, nodA]) ((by repeat (first | exact Sub.nil | refine Sub.cons _ _ _ rfl rfl ?_ | refine Sub.any _ _ ?_ | refine Sub.sl _ _ _ _ _ rfl ?_ | refine Sub.slnil _ _ _ rfl ?_))))⟩) | (exact ⟨n.entries.length - (j + 1), _, by omega, ⟨j + 1, acc ++ [(name, ino)], true, by omega, rfl, (by rw [← hacc, entGo_at hy]; first | (simp only [hsl, hdn]; simp [hnm]; done) | (simp only [hdn]; simp [hnm]; done)), (by (try simp); omega), rfl⟩, (by (try simp only [List.map_append, List.map_cons, List.map_nil]); exact weak_of 5 1 rfl rfl rfl (by simp [bpLtB, bpLtL, bpLt, bp_DB, bp_NB, filA, nodA]) ((by repeat (first | exact Sub.nil | refine Sub.cons _ _ _ rfl rfl ?_ | refine Sub.any _ _ ?_ | refine Sub.sl _ _ _ _ _ rfl ?_ | refine Sub.slnil _ _ _ rfl ?_))))⟩) | (exact ⟨n.entries.length - (j + 1), _, by omega, ⟨j + 1, acc ++ [e], dn, by omega, rfl, (by rw [← hacc, entGo_at hy]; first | (simp only [hsl, hdn]; simp [hnm]; done) | (simp only [hdn]; simp [hnm]; done)), (by (try simp); omega), rfl⟩, (by (try simp only [List.map_append, List.map_cons, List.map_nil]); exact weak_of 5 1 rfl rfl rfl (by simp [bpLtB, bpLtL, bpLt, bp_DB, bp_NB, filA, nodA]) ((by repeat (first | exact Sub.nil | refine Sub.cons _ _ _ rfl rfl ?_ | refine Sub.any _ _ ?_ | refine Sub.sl _ _ _ _ _ rfl ?_ | refine Sub.slnil _ _ _ rfl ?_))))⟩) | (exact ⟨n.entries.length - (j + 1), _, by omega, ⟨j + 1, acc, dn, by omega, rfl, (by rw [← hacc, entGo_at hy]; first | (simp only [hsl, hdn]; simp [hnm]; done) | (simp only [hdn]; simp [hnm]; done)), (by (try simp); omega), rfl⟩, (by (try simp only [List.map_append, List.map_cons, List.map_nil]); exact weak_of 5 1 rfl rfl rfl (by simp [bpLtB, bpLtL, bpLt, bp_DB, bp_NB, filA, nodA]) ((by repeat (first | exact Sub.nil | refine Sub.cons _ _ _ rfl rfl ?_ | refine Sub.any _ _ ?_ | refine Sub.sl _ _ _ _ _ rfl ?_ | refine Sub.slnil _ _ _ rfl ?_))))⟩)
          · have hc4 := bp hb4
            have hnm : e.1 = name := hc4
            refine aw_skip ?_
            refine x_blockN ?_
            refine x_then ?_
            refine hK _ ?_
            clear hK K
            refine aw_region ?_
            refine p_mv ?_
            first | refine al_p rfl (st_add64 rfl rfl (by omega) ?_) | refine al_p rfl (st_addS rfl rfl (by omega) ?_) | refine al_p rfl (st_add rfl rfl ?_)
            refine p_as ?_
            refine al_nil ?_
            refine x_then ?_
            first | (exact ⟨n.entries.length - (j + 1), _, by omega, ⟨j + 1, acc ++ [(name, ino)] ++ [e], true, by omega, rfl, (by rw [← hacc, entGo_at hy]; first | (simp only [hsl, hdn]; simp [hnm]; done) | (simp only [hdn]; simp [hnm]; done)), (by (try simp); omega), rfl⟩, (by (try simp only [List.map_append, List.map_cons, List.map_nil]); exact weak_of 5 1 rfl rfl rfl (by simp [bpLtB, bpLtL, bpLt, bp_DB, bp_NB, filA, nodA]) ((by repeat (first | exact Sub.nil | refine Sub.cons _ _ _ rfl rfl ?_ | refine Sub.any _ _ ?_ | refine Sub.sl _ _ _ _ _ rfl ?_ | refine Sub.slnil _ _ _ rfl ?_))))⟩) | (exact ⟨n.entries.length - (j + 1), _, by omega, ⟨j + 1, acc ++ [(name, ino)], true, by omega, rfl, (by rw [← hacc, entGo_at hy]; first | (simp only [hsl, hdn]; simp [hnm]; done) | (simp only [hdn]; simp [hnm]; done)), (by (try simp); omega), rfl⟩, (by (try simp only [List.map_append, List.map_cons, List.map_nil]); exact weak_of 5 1 rfl rfl rfl (by simp [bpLtB, bpLtL, bpLt, bp_DB, bp_NB, filA, nodA]) ((by repeat (first | exact Sub.nil | refine Sub.cons _ _ _ rfl rfl ?_ | refine Sub.any _ _ ?_ | refine Sub.sl _ _ _ _ _ rfl ?_ | refine Sub.slnil _ _ _ rfl ?_))))⟩) | (exact ⟨n.entries.length - (j + 1), _, by omega, ⟨j + 1, acc ++ [e], dn, by omega, rfl, (by rw [← hacc, entGo_at hy]; first | (simp only [hsl, hdn]; simp [hnm]; done) | (simp only [hdn]; simp [hnm]; done)), (by (try simp); omega), rfl⟩, (by (try simp only [List.map_append, List.map_cons, List.map_nil]); exact weak_of 5 1 rfl rfl rfl (by simp [bpLtB, bpLtL, bpLt, bp_DB, bp_NB, filA, nodA]) ((by repeat (first | exact Sub.nil | refine Sub.cons _ _ _ rfl rfl ?_ | refine Sub.any _ _ ?_ | refine Sub.sl _ _ _ _ _ rfl ?_ | refine Sub.slnil _ _ _ rfl ?_))))⟩) | (exact ⟨n.entries.length - (j + 1), _, by omega, ⟨j + 1, acc, dn, by omega, rfl, (by rw [← hacc, entGo_at hy]; first | (simp only [hsl, hdn]; simp [hnm]; done) | (simp only [hdn]; simp [hnm]; done)), (by (try simp); omega), rfl⟩, (by (try simp only [List.map_append, List.map_cons, List.map_nil]); exact weak_of 5 1 rfl rfl rfl (by simp [bpLtB, bpLtL, bpLt, bp_DB, bp_NB, filA, nodA]) ((by repeat (first | exact Sub.nil | refine Sub.cons _ _ _ rfl rfl ?_ | refine Sub.any _ _ ?_ | refine Sub.sl _ _ _ _ _ rfl ?_ | refine Sub.slnil _ _ _ rfl ?_))))⟩)
        · have hc3 := bp hb3
          have hsl : strLt e.1 name = true := hc3
          refine aw_skip ?_
          refine x_then ?_
          refine hK _ ?_
          clear hK K
          refine p_sr (fun K hK => ?_)
          refine al_p rfl (st_fieldB rfl ?_)
          refine al_p rfl (st_loadB1 rfl rfl rfl ?_)
          refine p_mv ?_
          refine al_p rfl (st_index rfl rfl rfl (by first | assumption | rfl) ?_)
          refine al_p rfl (st_fieldF rfl ?_)
          refine al_p rfl (st_loadF1 rfl rfl ?_)
          refine p_mv ?_
          first | refine al_p rfl (st_neq rfl rfl ?_) | refine al_p rfl (st_neqS rfl rfl ?_) | refine al_p rfl (st_neqB (by kernel_rfl) rfl rfl ?_)
          refine al_nil (x_then (hK _ ?_))
          clear hK K
          refine aw_cond rfl (fun hb5 => ?_) (fun hb5 => ?_)
          · have hc5 := bp hb5
            have hnm : ¬ e.1 = name := hc5
            refine aw_region ?_
            refine p_mv ?_
            refine al_p rfl (st_fieldB rfl ?_)
            refine al_p rfl (st_loadB1 rfl rfl rfl ?_)
            refine p_mv ?_
            refine al_p rfl (st_index rfl rfl rfl (by first | assumption | rfl) ?_)
            refine al_p rfl (st_loadFW rfl rfl ?_)
            refine al_p rfl (st_slit (by repeat (first | exact DenseA.nil _ | (apply DenseA.cons; (focus exact rfl); (focus exact rfl); (focus exact rfl); (focus exact rfl)) | (apply DenseA.consE; (focus exact rfl); (focus exact rfl); (focus exact rfl)))) rfl rfl rfl rfl ?_)
            first | refine al_p rfl (s_append rfl rfl rfl (by simp <;> omega) (by repeat constructor) ?_) | refine al_p rfl (s_append0 rfl rfl (by simp <;> omega) (by repeat constructor) ?_)
            refine p_as ?_
            refine al_nil ?_
            refine x_blockN ?_
            refine x_then ?_
            refine hK _ ?_
            clear hK K
            refine aw_region ?_
            refine p_mv ?_
            first | refine al_p rfl (st_add64 rfl rfl (by omega) ?_) | refine al_p rfl (st_addS rfl rfl (by omega) ?_) | refine al_p rfl (st_add rfl rfl ?_)
            refine p_as ?_
            refine al_nil ?_
            refine x_then ?_
            first | (exact ⟨n.entries.length - (j + 1), _, by omega, ⟨j + 1, acc ++ [(name, ino)] ++ [e], true, by omega, rfl, (by rw [← hacc, entGo_at hy]; first | (simp only [hsl, hdn]; simp [hnm]; done) | (simp only [hdn]; simp [hnm]; done)), (by (try simp); omega), rfl⟩, (by (try simp only [List.map_append, List.map_cons, List.map_nil]); exact weak_of 5 1 rfl rfl rfl (by simp [bpLtB, bpLtL, bpLt, bp_DB, bp_NB, filA, nodA]) ((by repeat (first | exact Sub.nil | refine Sub.cons _ _ _ rfl rfl ?_ | refine Sub.any _ _ ?_ | refine Sub.sl _ _ _ _ _ rfl ?_ | refine Sub.slnil _ _ _ rfl ?_))))⟩) | (exact ⟨n.entries.length - (j + 1), _, by omega, ⟨j + 1, acc ++ [(name, ino)], true, by omega, rfl, (by rw [← hacc, entGo_at hy]; first | (simp only [hsl, hdn]; simp [hnm]; done) | (simp only [hdn]; simp [hnm]; done)), (by (try simp); omega), rfl⟩, (by (try simp only [List.map_append, List.map_cons, List.map_nil]); exact weak_of 5 1 rfl rfl rfl (by simp [bpLtB, bpLtL, bpLt, bp_DB, bp_NB, filA, nodA]) ((by repeat (first | exact Sub.nil | refine Sub.cons _ _ _ rfl rfl ?_ | refine Sub.any _ _ ?_ | refine Sub.sl _ _ _ _ _ rfl ?_ | refine Sub.slnil _ _ _ rfl ?_))))⟩) | (exact ⟨n.entries.length - (j + 1), _, by omega, ⟨j + 1, acc ++ [e], dn, by omega, rfl, (by rw [← hacc, entGo_at hy]; first | (simp only [hsl, hdn]; simp [hnm]; done) | (simp only [hdn]; simp [hnm]; done)), (by (try simp); omega), rfl⟩, (by (try simp only [List.map_append, List.map_cons, List.map_nil]); exact weak_of 5 1 rfl rfl rfl (by simp [bpLtB, bpLtL, bpLt, bp_DB, bp_NB, filA, nodA]) ((by repeat (first | exact Sub.nil | refine Sub.cons _ _ _ rfl rfl ?_ | refine Sub.any _ _ ?_ | refine Sub.sl _ _ _ _ _ rfl ?_ | refine Sub.slnil _ _ _ rfl ?_))))⟩) | (exact ⟨n.entries.length - (j + 1), _, by omega, ⟨j + 1, acc, dn, by omega, rfl, (by rw [← hacc, entGo_at hy]; first | (simp only [hsl, hdn]; simp [hnm]; done) | (simp only [hdn]; simp [hnm]; done)), (by (try simp); omega), rfl⟩, (by (try simp only [List.map_append, List.map_cons, List.map_nil]); exact weak_of 5 1 rfl rfl rfl (by simp [bpLtB, bpLtL, bpLt, bp_DB, bp_NB, filA, nodA]) ((by repeat (first | exact Sub.nil | refine Sub.cons _ _ _ rfl rfl ?_ | refine Sub.any _ _ ?_ | refine Sub.sl _ _ _ _ _ rfl ?_ | refine Sub.slnil _ _ _ rfl ?_))))⟩)
          · have hc5 := bp hb5
            have hnm : e.1 = name := hc5
            refine aw_skip ?_
            refine x_blockN ?_
            refine x_then ?_
            refine hK _ ?_
            clear hK K
            refine aw_region ?_
            refine p_mv ?_
            first | refine al_p rfl (st_add64 rfl rfl (by omega) ?_) | refine al_p rfl (st_addS rfl rfl (by omega) ?_) | refine al_p rfl (st_add rfl rfl ?_)
            refine p_as ?_
            refine al_nil ?_
            refine x_then ?_
            first | (exact ⟨n.entries.length - (j + 1), _, by omega, ⟨j + 1, acc ++ [(name, ino)] ++ [e], true, by omega, rfl, (by rw [← hacc, entGo_at hy]; first | (simp only [hsl, hdn]; simp [hnm]; done) | (simp only [hdn]; simp [hnm]; done)), (by (try simp); omega), rfl⟩, (by (try simp only [List.map_append, List.map_cons, List.map_nil]); exact weak_of 5 1 rfl rfl rfl (by simp [bpLtB, bpLtL, bpLt, bp_DB, bp_NB, filA, nodA]) ((by repeat (first | exact Sub.nil | refine Sub.cons _ _ _ rfl rfl ?_ | refine Sub.any _ _ ?_ | refine Sub.sl _ _ _ _ _ rfl ?_ | refine Sub.slnil _ _ _ rfl ?_))))⟩) | (exact ⟨n.entries.length - (j + 1), _, by omega, ⟨j + 1, acc ++ [(name, ino)], true, by omega, rfl, (by rw [← hacc, entGo_at hy]; first | (simp only [hsl, hdn]; simp [hnm]; done) | (simp only [hdn]; simp [hnm]; done)), (by (try simp); omega), rfl⟩, (by (try simp only [List.map_append, List.map_cons, List.map_nil]); exact weak_of 5 1 rfl rfl rfl (by simp [bpLtB, bpLtL, bpLt, bp_DB, bp_NB, filA, nodA]) ((by repeat (first | exact Sub.nil | refine Sub.cons _ _ _ rfl rfl ?_ | refine Sub.any _ _ ?_ | refine Sub.sl _ _ _ _ _ rfl ?_ | refine Sub.slnil _ _ _ rfl ?_))))⟩) | (exact ⟨n.entries.length - (j + 1), _, by omega, ⟨j + 1, acc ++ [e], dn, by omega, rfl, (by rw [← hacc, entGo_at hy]; first | (simp only [hsl, hdn]; simp [hnm]; done) | (simp only [hdn]; simp [hnm]; done)), (by (try simp); omega), rfl⟩, (by (try simp only [List.map_append, List.map_cons, List.map_nil]); exact weak_of 5 1 rfl rfl rfl (by simp [bpLtB, bpLtL, bpLt, bp_DB, bp_NB, filA, nodA]) ((by repeat (first | exact Sub.nil | refine Sub.cons _ _ _ rfl rfl ?_ | refine Sub.any _ _ ?_ | refine Sub.sl _ _ _ _ _ rfl ?_ | refine Sub.slnil _ _ _ rfl ?_))))⟩) | (exact ⟨n.entries.length - (j + 1), _, by omega, ⟨j + 1, acc, dn, by omega, rfl, (by rw [← hacc, entGo_at hy]; first | (simp only [hsl, hdn]; simp [hnm]; done) | (simp only [hdn]; simp [hnm]; done)), (by (try simp); omega), rfl⟩, (by (try simp only [List.map_append, List.map_cons, List.map_nil]); exact weak_of 5 1 rfl rfl rfl (by simp [bpLtB, bpLtL, bpLt, bp_DB, bp_NB, filA, nodA]) ((by repeat (first | exact Sub.nil | refine Sub.cons _ _ _ rfl rfl ?_ | refine Sub.any _ _ ?_ | refine Sub.sl _ _ _ _ _ rfl ?_ | refine Sub.slnil _ _ _ rfl ?_))))⟩)
      · have hc2 := bp hb2
        have hdn := hc2
        refine g_n ?_
        refine g_n ?_
        refine g_n ?_
        refine g_n ?_
        refine g_n ?_
        refine g_n ?_
        refine g_n ?_
        refine g_n ?_
        refine al_p rfl (p_f ?_)
        refine al_nil (x_then (hK _ ?_))
        clear hK K
        refine aw_cn rfl (by first | rfl | assumption | simp [*]) ?_
        refine aw_skip ?_
        refine x_then ?_
        refine hK _ ?_
        clear hK K
        refine p_sr (fun K hK => ?_)
        refine al_p rfl (st_fieldB rfl ?_)
        refine al_p rfl (st_loadB1 rfl rfl rfl ?_)
        refine p_mv ?_
        refine al_p rfl (st_index rfl rfl rfl (by first | assumption | rfl) ?_)
        refine al_p rfl (st_fieldF rfl ?_)
        refine al_p rfl (st_loadF1 rfl rfl ?_)
        refine p_mv ?_
        first | refine al_p rfl (st_neq rfl rfl ?_) | refine al_p rfl (st_neqS rfl rfl ?_) | refine al_p rfl (st_neqB (by kernel_rfl) rfl rfl ?_)
        refine al_nil (x_then (hK _ ?_))
        clear hK K
        refine aw_cond rfl (fun hb6 => ?_) (fun hb6 => ?_)
        · have hc6 := bp hb6
          have hnm : ¬ e.1 = name := hc6
          refine aw_region ?_
          refine p_mv ?_
          refine al_p rfl (st_fieldB rfl ?_)
          refine al_p rfl (st_loadB1 rfl rfl rfl ?_)
          refine p_mv ?_
          refine al_p rfl (st_index rfl rfl rfl (by first | assumption | rfl) ?_)
          refine al_p rfl (st_loadFW rfl rfl ?_)
          refine al_p rfl (st_slit (by repeat (first | exact DenseA.nil _ | (apply DenseA.cons; (focus exact rfl); (focus exact rfl); (focus exact rfl); (focus exact rfl)) | (apply DenseA.consE; (focus exact rfl); (focus exact rfl); (focus exact rfl)))) rfl rfl rfl rfl ?_)
          first | refine al_p rfl (s_append rfl rfl rfl (by simp <;> omega) (by repeat constructor) ?_) | refine al_p rfl (s_append0 rfl rfl (by simp <;> omega) (by repeat constructor) ?_)
          refine p_as ?_
          refine al_nil ?_
          refine x_blockN ?_
          refine x_then ?_
          refine hK _ ?_
          clear hK K
          refine aw_region ?_
          refine p_mv ?_
          first | refine al_p rfl (st_add64 rfl rfl (by omega) ?_) | refine al_p rfl (st_addS rfl rfl (by omega) ?_) | refine al_p rfl (st_add rfl rfl ?_)
          refine p_as ?_
          refine al_nil ?_
          refine x_then ?_
          first | (exact ⟨n.entries.length - (j + 1), _, by omega, ⟨j + 1, acc ++ [(name, ino)] ++ [e], true, by omega, rfl, (by rw [← hacc, entGo_at hy]; first | (simp only [hsl, hdn]; simp [hnm]; done) | (simp only [hdn]; simp [hnm]; done)), (by (try simp); omega), rfl⟩, (by (try simp only [List.map_append, List.map_cons, List.map_nil]); exact weak_of 5 1 rfl rfl rfl (by simp [bpLtB, bpLtL, bpLt, bp_DB, bp_NB, filA, nodA]) ((by repeat (first | exact Sub.nil | refine Sub.cons _ _ _ rfl rfl ?_ | refine Sub.any _ _ ?_ | refine Sub.sl _ _ _ _ _ rfl ?_ | refine Sub.slnil _ _ _ rfl ?_))))⟩) | (exact ⟨n.entries.length - (j + 1), _, by omega, ⟨j + 1, acc ++ [(name, ino)], true, by omega, rfl, (by rw [← hacc, entGo_at hy]; first | (simp only [hsl, hdn]; simp [hnm]; done) | (simp only [hdn]; simp [hnm]; done)), (by (try simp); omega), rfl⟩, (by (try simp only [List.map_append, List.map_cons, List.map_nil]); exact weak_of 5 1 rfl rfl rfl (by simp [bpLtB, bpLtL, bpLt, bp_DB, bp_NB, filA, nodA]) ((by repeat (first | exact Sub.nil | refine Sub.cons _ _ _ rfl rfl ?_ | refine Sub.any _ _ ?_ | refine Sub.sl _ _ _ _ _ rfl ?_ | refine Sub.slnil _ _ _ rfl ?_))))⟩) | (exact ⟨n.entries.length - (j + 1), _, by omega, ⟨j + 1, acc ++ [e], dn, by omega, rfl, (by rw [← hacc, entGo_at hy]; first | (simp only [hsl, hdn]; simp [hnm]; done) | (simp only [hdn]; simp [hnm]; done)), (by (try simp); omega), rfl⟩, (by (try simp only [List.map_append, List.map_cons, List.map_nil]); exact weak_of 5 1 rfl rfl rfl (by simp [bpLtB, bpLtL, bpLt, bp_DB, bp_NB, filA, nodA]) ((by repeat (first | exact Sub.nil | refine Sub.cons _ _ _ rfl rfl ?_ | refine Sub.any _ _ ?_ | refine Sub.sl _ _ _ _ _ rfl ?_ | refine Sub.slnil _ _ _ rfl ?_))))⟩) | (exact ⟨n.entries.length - (j + 1), _, by omega, ⟨j + 1, acc, dn, by omega, rfl, (by rw [← hacc, entGo_at hy]; first | (simp only [hsl, hdn]; simp [hnm]; done) | (simp only [hdn]; simp [hnm]; done)), (by (try simp); omega), rfl⟩, (by (try simp only [List.map_append, List.map_cons, List.map_nil]); exact weak_of 5 1 rfl rfl rfl (by simp [bpLtB, bpLtL, bpLt, bp_DB, bp_NB, filA, nodA]) ((by repeat (first | exact Sub.nil | refine Sub.cons _ _ _ rfl rfl ?_ | refine Sub.any _ _ ?_ | refine Sub.sl _ _ _ _ _ rfl ?_ | refine Sub.slnil _ _ _ rfl ?_))))⟩)
        · have hc6 := bp hb6
          have hnm : e.1 = name := hc6
          refine aw_skip ?_
          refine x_blockN ?_
          refine x_then ?_
          refine hK _ ?_
          clear hK K
          refine aw_region ?_
          refine p_mv ?_
          first | refine al_p rfl (st_add64 rfl rfl (by omega) ?_) | refine al_p rfl (st_addS rfl rfl (by omega) ?_) | refine al_p rfl (st_add rfl rfl ?_)
          refine p_as ?_
          refine al_nil ?_
          refine x_then ?_
          first | (exact ⟨n.entries.length - (j + 1), _, by omega, ⟨j + 1, acc ++ [(name, ino)] ++ [e], true, by omega, rfl, (by rw [← hacc, entGo_at hy]; first | (simp only [hsl, hdn]; simp [hnm]; done) | (simp only [hdn]; simp [hnm]; done)), (by (try simp); omega), rfl⟩, (by (try simp only [List.map_append, List.map_cons, List.map_nil]); exact weak_of 5 1 rfl rfl rfl (by simp [bpLtB, bpLtL, bpLt, bp_DB, bp_NB, filA, nodA]) ((by repeat (first | exact Sub.nil | refine Sub.cons _ _ _ rfl rfl ?_ | refine Sub.any _ _ ?_ | refine Sub.sl _ _ _ _ _ rfl ?_ | refine Sub.slnil _ _ _ rfl ?_))))⟩) | (exact ⟨n.entries.length - (j + 1), _, by omega, ⟨j + 1, acc ++ [(name, ino)], true, by omega, rfl, (by rw [← hacc, entGo_at hy]; first | (simp only [hsl, hdn]; simp [hnm]; done) | (simp only [hdn]; simp [hnm]; done)), (by (try simp); omega), rfl⟩, (by (try simp only [List.map_append, List.map_cons, List.map_nil]); exact weak_of 5 1 rfl rfl rfl (by simp [bpLtB, bpLtL, bpLt, bp_DB, bp_NB, filA, nodA]) ((by repeat (first | exact Sub.nil | refine Sub.cons _ _ _ rfl rfl ?_ | refine Sub.any _ _ ?_ | refine Sub.sl _ _ _ _ _ rfl ?_ | refine Sub.slnil _ _ _ rfl ?_))))⟩) | (exact ⟨n.entries.length - (j + 1), _, by omega, ⟨j + 1, acc ++ [e], dn, by omega, rfl, (by rw [← hacc, entGo_at hy]; first | (simp only [hsl, hdn]; simp [hnm]; done) | (simp only [hdn]; simp [hnm]; done)), (by (try simp); omega), rfl⟩, (by (try simp only [List.map_append, List.map_cons, List.map_nil]); exact weak_of 5 1 rfl rfl rfl (by simp [bpLtB, bpLtL, bpLt, bp_DB, bp_NB, filA, nodA]) ((by repeat (first | exact Sub.nil | refine Sub.cons _ _ _ rfl rfl ?_ | refine Sub.any _ _ ?_ | refine Sub.sl _ _ _ _ _ rfl ?_ | refine Sub.slnil _ _ _ rfl ?_))))⟩) | (exact ⟨n.entries.length - (j + 1), _, by omega, ⟨j + 1, acc, dn, by omega, rfl, (by rw [← hacc, entGo_at hy]; first | (simp only [hsl, hdn]; simp [hnm]; done) | (simp only [hdn]; simp [hnm]; done)), (by (try simp); omega), rfl⟩, (by (try simp only [List.map_append, List.map_cons, List.map_nil]); exact weak_of 5 1 rfl rfl rfl (by simp [bpLtB, bpLtL, bpLt, bp_DB, bp_NB, filA, nodA]) ((by repeat (first | exact Sub.nil | refine Sub.cons _ _ _ rfl rfl ?_ | refine Sub.any _ _ ?_ | refine Sub.sl _ _ _ _ _ rfl ?_ | refine Sub.slnil _ _ _ rfl ?_))))⟩)
    · have hc1 := bp hb1
      have e := row_no entA hj hc1
      subst e
      rw [List.drop_length] at hacc
      refine aw_exit ?_
      refine x_thenE ?_
      clear hK K
      refine x_thenE ?_
      refine ABlock_out ?_
      refine x_then ?_
      refine hK _ ?_
      clear hK K
      refine aw_seq (fun K hK => ?_)
      refine p_sr (fun K hK => ?_)
      refine p_mv ?_
      refine al_p rfl (st_not rfl ?_)
      refine al_nil (x_then (hK _ ?_))
      clear hK K
      refine aw_cond rfl (fun hb7 => ?_) (fun hb7 => ?_)
      · have hc7 := bp hb7
        have hdn : dn = false := hc7
        have ea : acc ++ [(name, ino)] = entL n.entries name ino := by rw [← hacc, hdn]; rfl
        refine aw_region ?_
        refine p_mv ?_
        refine p_mv ?_
        refine p_mv ?_
        refine p_bd ?_
        refine al_p rfl (st_slit (by repeat (first | exact DenseA.nil _ | (apply DenseA.cons; (focus exact rfl); (focus exact rfl); (focus exact rfl); (focus exact rfl)) | (apply DenseA.consE; (focus exact rfl); (focus exact rfl); (focus exact rfl)))) rfl rfl rfl rfl ?_)
        first | refine al_p rfl (s_append rfl rfl rfl (by simp <;> omega) (by repeat constructor) ?_) | refine al_p rfl (s_append0 rfl rfl (by simp <;> omega) (by repeat constructor) ?_)
        refine p_as ?_
        refine al_nil (x_then (hK _ ?_))
        clear hK K
        refine aw_draw (fun h => ∃ x, h.bx = [DB f q d 1 cap cap1, x, [.bs 0 0 2 f.length cap], filA a, nodA n]) 14 (by kernel_rfl) ?_
        refine aa_t (i := 0) rfl rfl (by kernel_rfl) (by first | rfl | exact wan_y rfl rfl (beq_tt ‹_›) | exact wan_y rfl rfl (beq_ff ‹_›) | exact wan_y rfl rfl (by simp [*])) (fun h0 hS => st_fieldB rfl ⟨rfl, rfl⟩) ⟨_, rfl⟩ ?_
        first | refine aa_t (i := 1) rfl rfl (by kernel_rfl) (by first | rfl | exact wan_y rfl rfl (beq_tt ‹_›) | exact wan_y rfl rfl (beq_ff ‹_›) | exact wan_y rfl rfl (by simp [*])) (fun h0 hS => st_loadB1 (row := [.bs 0 0 2 f.length cap]) rfl (by obtain ⟨_, e⟩ := hS; rw [e]; rfl) rfl ⟨rfl, rfl⟩) ⟨_, rfl⟩ ?_ | refine aa_t (i := 1) rfl rfl (by kernel_rfl) (by first | rfl | exact wan_y rfl rfl (beq_tt ‹_›) | exact wan_y rfl rfl (beq_ff ‹_›) | exact wan_y rfl rfl (by simp [*])) (fun h0 hS => st_loadB1 (row := filA a) rfl (by obtain ⟨_, e⟩ := hS; rw [e]; rfl) rfl ⟨rfl, rfl⟩) ⟨_, rfl⟩ ?_ | refine aa_t (i := 1) rfl rfl (by kernel_rfl) (by first | rfl | exact wan_y rfl rfl (beq_tt ‹_›) | exact wan_y rfl rfl (beq_ff ‹_›) | exact wan_y rfl rfl (by simp [*])) (fun h0 hS => st_loadB1 (row := DB f q d 1 cap cap1) rfl (by obtain ⟨_, e⟩ := hS; rw [e]; rfl) hD0 ⟨rfl, rfl⟩) ⟨_, rfl⟩ ?_ | refine aa_t (i := 1) rfl rfl (by kernel_rfl) (by first | rfl | exact wan_y rfl rfl (beq_tt ‹_›) | exact wan_y rfl rfl (beq_ff ‹_›) | exact wan_y rfl rfl (by simp [*])) (fun h0 hS => st_loadBW (row := [.bs 0 0 2 f.length cap]) rfl (by obtain ⟨_, e⟩ := hS; rw [e]; rfl) rfl ⟨rfl, rfl⟩) ⟨_, rfl⟩ ?_ | refine aa_t (i := 1) rfl rfl (by kernel_rfl) (by first | rfl | exact wan_y rfl rfl (beq_tt ‹_›) | exact wan_y rfl rfl (beq_ff ‹_›) | exact wan_y rfl rfl (by simp [*])) (fun h0 hS => st_loadBW (row := filA a) rfl (by obtain ⟨_, e⟩ := hS; rw [e]; rfl) rfl ⟨rfl, rfl⟩) ⟨_, rfl⟩ ?_ | refine aa_t (i := 1) rfl rfl (by kernel_rfl) (by first | rfl | exact wan_y rfl rfl (beq_tt ‹_›) | exact wan_y rfl rfl (beq_ff ‹_›) | exact wan_y rfl rfl (by simp [*])) (fun h0 hS => st_loadB1 rfl rfl rfl ⟨rfl, rfl⟩) ⟨_, rfl⟩ ?_
        refine aa_t (i := 2) rfl rfl (by kernel_rfl) (by first | rfl | exact wan_y rfl rfl (beq_tt ‹_›) | exact wan_y rfl rfl (beq_ff ‹_›) | exact wan_y rfl rfl (by simp [*])) (fun h0 hS => st_fieldB rfl ⟨rfl, rfl⟩) ⟨_, rfl⟩ ?_
        first | refine aa_t (i := 3) rfl rfl (by kernel_rfl) (by first | rfl | exact wan_y rfl rfl (beq_tt ‹_›) | exact wan_y rfl rfl (beq_ff ‹_›) | exact wan_y rfl rfl (by simp [*])) (fun h0 hS => st_loadB1 (row := [.bs 0 0 2 f.length cap]) rfl (by obtain ⟨_, e⟩ := hS; rw [e]; rfl) rfl ⟨rfl, rfl⟩) ⟨_, rfl⟩ ?_ | refine aa_t (i := 3) rfl rfl (by kernel_rfl) (by first | rfl | exact wan_y rfl rfl (beq_tt ‹_›) | exact wan_y rfl rfl (beq_ff ‹_›) | exact wan_y rfl rfl (by simp [*])) (fun h0 hS => st_loadB1 (row := filA a) rfl (by obtain ⟨_, e⟩ := hS; rw [e]; rfl) rfl ⟨rfl, rfl⟩) ⟨_, rfl⟩ ?_ | refine aa_t (i := 3) rfl rfl (by kernel_rfl) (by first | rfl | exact wan_y rfl rfl (beq_tt ‹_›) | exact wan_y rfl rfl (beq_ff ‹_›) | exact wan_y rfl rfl (by simp [*])) (fun h0 hS => st_loadB1 (row := DB f q d 1 cap cap1) rfl (by obtain ⟨_, e⟩ := hS; rw [e]; rfl) hD0 ⟨rfl, rfl⟩) ⟨_, rfl⟩ ?_ | refine aa_t (i := 3) rfl rfl (by kernel_rfl) (by first | rfl | exact wan_y rfl rfl (beq_tt ‹_›) | exact wan_y rfl rfl (beq_ff ‹_›) | exact wan_y rfl rfl (by simp [*])) (fun h0 hS => st_loadBW (row := [.bs 0 0 2 f.length cap]) rfl (by obtain ⟨_, e⟩ := hS; rw [e]; rfl) rfl ⟨rfl, rfl⟩) ⟨_, rfl⟩ ?_ | refine aa_t (i := 3) rfl rfl (by kernel_rfl) (by first | rfl | exact wan_y rfl rfl (beq_tt ‹_›) | exact wan_y rfl rfl (beq_ff ‹_›) | exact wan_y rfl rfl (by simp [*])) (fun h0 hS => st_loadBW (row := filA a) rfl (by obtain ⟨_, e⟩ := hS; rw [e]; rfl) rfl ⟨rfl, rfl⟩) ⟨_, rfl⟩ ?_ | refine aa_t (i := 3) rfl rfl (by kernel_rfl) (by first | rfl | exact wan_y rfl rfl (beq_tt ‹_›) | exact wan_y rfl rfl (beq_ff ‹_›) | exact wan_y rfl rfl (by simp [*])) (fun h0 hS => st_loadB1 rfl rfl rfl ⟨rfl, rfl⟩) ⟨_, rfl⟩ ?_
        refine aa_t (i := 4) rfl rfl (by kernel_rfl) (by first | rfl | exact wan_y rfl rfl (beq_tt ‹_›) | exact wan_y rfl rfl (beq_ff ‹_›) | exact wan_y rfl rfl (by simp [*])) (fun h0 hS => st_indexS (m := q) rfl rfl ha hql ⟨rfl, rfl⟩) ⟨_, rfl⟩ ?_
        refine aa_t (i := 5) rfl rfl (by kernel_rfl) (by first | rfl | exact wan_y rfl rfl (beq_tt ‹_›) | exact wan_y rfl rfl (beq_ff ‹_›) | exact wan_y rfl rfl (by simp [*])) (fun h0 hS => st_fieldB rfl ⟨rfl, rfl⟩) ⟨_, rfl⟩ ?_
        first | refine aa_t (i := 6) rfl rfl (by kernel_rfl) (by first | rfl | exact wan_y rfl rfl (beq_tt ‹_›) | exact wan_y rfl rfl (beq_ff ‹_›) | exact wan_y rfl rfl (by simp [*])) (fun h0 hS => st_loadB1 (row := [.bs 0 0 2 f.length cap]) rfl (by obtain ⟨_, e⟩ := hS; rw [e]; rfl) rfl ⟨rfl, rfl⟩) ⟨_, rfl⟩ ?_ | refine aa_t (i := 6) rfl rfl (by kernel_rfl) (by first | rfl | exact wan_y rfl rfl (beq_tt ‹_›) | exact wan_y rfl rfl (beq_ff ‹_›) | exact wan_y rfl rfl (by simp [*])) (fun h0 hS => st_loadB1 (row := filA a) rfl (by obtain ⟨_, e⟩ := hS; rw [e]; rfl) rfl ⟨rfl, rfl⟩) ⟨_, rfl⟩ ?_ | refine aa_t (i := 6) rfl rfl (by kernel_rfl) (by first | rfl | exact wan_y rfl rfl (beq_tt ‹_›) | exact wan_y rfl rfl (beq_ff ‹_›) | exact wan_y rfl rfl (by simp [*])) (fun h0 hS => st_loadB1 (row := DB f q d 1 cap cap1) rfl (by obtain ⟨_, e⟩ := hS; rw [e]; rfl) hD0 ⟨rfl, rfl⟩) ⟨_, rfl⟩ ?_ | refine aa_t (i := 6) rfl rfl (by kernel_rfl) (by first | rfl | exact wan_y rfl rfl (beq_tt ‹_›) | exact wan_y rfl rfl (beq_ff ‹_›) | exact wan_y rfl rfl (by simp [*])) (fun h0 hS => st_loadBW (row := [.bs 0 0 2 f.length cap]) rfl (by obtain ⟨_, e⟩ := hS; rw [e]; rfl) rfl ⟨rfl, rfl⟩) ⟨_, rfl⟩ ?_ | refine aa_t (i := 6) rfl rfl (by kernel_rfl) (by first | rfl | exact wan_y rfl rfl (beq_tt ‹_›) | exact wan_y rfl rfl (beq_ff ‹_›) | exact wan_y rfl rfl (by simp [*])) (fun h0 hS => st_loadBW (row := filA a) rfl (by obtain ⟨_, e⟩ := hS; rw [e]; rfl) rfl ⟨rfl, rfl⟩) ⟨_, rfl⟩ ?_ | refine aa_t (i := 6) rfl rfl (by kernel_rfl) (by first | rfl | exact wan_y rfl rfl (beq_tt ‹_›) | exact wan_y rfl rfl (beq_ff ‹_›) | exact wan_y rfl rfl (by simp [*])) (fun h0 hS => st_loadB1 rfl rfl rfl ⟨rfl, rfl⟩) ⟨_, rfl⟩ ?_
        first | refine aa_t (i := 7) rfl rfl (by kernel_rfl) (by first | rfl | exact wan_y rfl rfl (beq_tt ‹_›) | exact wan_y rfl rfl (beq_ff ‹_›) | exact wan_y rfl rfl (by simp [*])) (fun h0 hS => st_loadB1 (row := [.bs 0 0 2 f.length cap]) rfl (by obtain ⟨_, e⟩ := hS; rw [e]; rfl) rfl ⟨rfl, rfl⟩) ⟨_, rfl⟩ ?_ | refine aa_t (i := 7) rfl rfl (by kernel_rfl) (by first | rfl | exact wan_y rfl rfl (beq_tt ‹_›) | exact wan_y rfl rfl (beq_ff ‹_›) | exact wan_y rfl rfl (by simp [*])) (fun h0 hS => st_loadB1 (row := filA a) rfl (by obtain ⟨_, e⟩ := hS; rw [e]; rfl) rfl ⟨rfl, rfl⟩) ⟨_, rfl⟩ ?_ | refine aa_t (i := 7) rfl rfl (by kernel_rfl) (by first | rfl | exact wan_y rfl rfl (beq_tt ‹_›) | exact wan_y rfl rfl (beq_ff ‹_›) | exact wan_y rfl rfl (by simp [*])) (fun h0 hS => st_loadB1 (row := DB f q d 1 cap cap1) rfl (by obtain ⟨_, e⟩ := hS; rw [e]; rfl) hD0 ⟨rfl, rfl⟩) ⟨_, rfl⟩ ?_ | refine aa_t (i := 7) rfl rfl (by kernel_rfl) (by first | rfl | exact wan_y rfl rfl (beq_tt ‹_›) | exact wan_y rfl rfl (beq_ff ‹_›) | exact wan_y rfl rfl (by simp [*])) (fun h0 hS => st_loadBW (row := [.bs 0 0 2 f.length cap]) rfl (by obtain ⟨_, e⟩ := hS; rw [e]; rfl) rfl ⟨rfl, rfl⟩) ⟨_, rfl⟩ ?_ | refine aa_t (i := 7) rfl rfl (by kernel_rfl) (by first | rfl | exact wan_y rfl rfl (beq_tt ‹_›) | exact wan_y rfl rfl (beq_ff ‹_›) | exact wan_y rfl rfl (by simp [*])) (fun h0 hS => st_loadBW (row := filA a) rfl (by obtain ⟨_, e⟩ := hS; rw [e]; rfl) rfl ⟨rfl, rfl⟩) ⟨_, rfl⟩ ?_ | refine aa_t (i := 7) rfl rfl (by kernel_rfl) (by first | rfl | exact wan_y rfl rfl (beq_tt ‹_›) | exact wan_y rfl rfl (beq_ff ‹_›) | exact wan_y rfl rfl (by simp [*])) (fun h0 hS => st_loadBW rfl rfl rfl ⟨rfl, rfl⟩) ⟨_, rfl⟩ ?_
        first | refine aa_t (i := 8) rfl rfl (by kernel_rfl) (by first | rfl | exact wan_y rfl rfl (beq_tt ‹_›) | exact wan_y rfl rfl (beq_ff ‹_›) | exact wan_y rfl rfl (by simp [*])) (fun h0 hS => st_loadB1 (row := [.bs 0 0 2 f.length cap]) rfl (by obtain ⟨_, e⟩ := hS; rw [e]; rfl) rfl ⟨rfl, rfl⟩) ⟨_, rfl⟩ ?_ | refine aa_t (i := 8) rfl rfl (by kernel_rfl) (by first | rfl | exact wan_y rfl rfl (beq_tt ‹_›) | exact wan_y rfl rfl (beq_ff ‹_›) | exact wan_y rfl rfl (by simp [*])) (fun h0 hS => st_loadB1 (row := filA a) rfl (by obtain ⟨_, e⟩ := hS; rw [e]; rfl) rfl ⟨rfl, rfl⟩) ⟨_, rfl⟩ ?_ | refine aa_t (i := 8) rfl rfl (by kernel_rfl) (by first | rfl | exact wan_y rfl rfl (beq_tt ‹_›) | exact wan_y rfl rfl (beq_ff ‹_›) | exact wan_y rfl rfl (by simp [*])) (fun h0 hS => st_loadB1 (row := DB f q d 1 cap cap1) rfl (by obtain ⟨_, e⟩ := hS; rw [e]; rfl) hD0 ⟨rfl, rfl⟩) ⟨_, rfl⟩ ?_ | refine aa_t (i := 8) rfl rfl (by kernel_rfl) (by first | rfl | exact wan_y rfl rfl (beq_tt ‹_›) | exact wan_y rfl rfl (beq_ff ‹_›) | exact wan_y rfl rfl (by simp [*])) (fun h0 hS => st_loadBW (row := [.bs 0 0 2 f.length cap]) rfl (by obtain ⟨_, e⟩ := hS; rw [e]; rfl) rfl ⟨rfl, rfl⟩) ⟨_, rfl⟩ ?_ | refine aa_t (i := 8) rfl rfl (by kernel_rfl) (by first | rfl | exact wan_y rfl rfl (beq_tt ‹_›) | exact wan_y rfl rfl (beq_ff ‹_›) | exact wan_y rfl rfl (by simp [*])) (fun h0 hS => st_loadBW (row := filA a) rfl (by obtain ⟨_, e⟩ := hS; rw [e]; rfl) rfl ⟨rfl, rfl⟩) ⟨_, rfl⟩ ?_ | refine aa_t (i := 8) rfl rfl (by kernel_rfl) (by first | rfl | exact wan_y rfl rfl (beq_tt ‹_›) | exact wan_y rfl rfl (beq_ff ‹_›) | exact wan_y rfl rfl (by simp [*])) (fun h0 hS => st_loadBW rfl rfl rfl ⟨rfl, rfl⟩) ⟨_, rfl⟩ ?_
        refine aa_t (i := 10) rfl rfl (by kernel_rfl) (by first | rfl | exact wan_y rfl rfl (beq_tt ‹_›) | exact wan_y rfl rfl (beq_ff ‹_›) | exact wan_y rfl rfl (by simp [*])) (fun h0 hS => st_le (y := .sl 2 ((entL n.entries name ino).map entA) none) (st_move rfl ⟨rfl, rfl⟩) (by rw [← ea]; (try simp only [List.map_append, List.map_cons, List.map_nil]); exact LeA.tok _ _ _) ⟨rfl, rfl⟩) ⟨_, rfl⟩ ?_
        refine aa_c (i := 9) rfl rfl (by kernel_rfl) (by first | rfl | exact wan_y rfl rfl (beq_tt ‹_›) | exact wan_y rfl rfl (beq_ff ‹_›) | exact wan_y rfl rfl (by simp [*])) (s_callR 2 rfl (.cons _ _ _ _ _ rfl (LeA.of_eq (low_fls hq hcap hcap1 (Nat.zero_le _) (Nat.zero_le _) rfl rfl)) (.cons _ _ _ _ _ rfl (LeA.refl _) .nil)) (Rindex f a hf) ?_)
        rintro r rfl
        refine ⟨rfl, ?_⟩
        refine ⟨.inr ⟨_, rfl⟩, ?_⟩
        refine aa_t (i := 11) rfl rfl (by kernel_rfl) (by first | rfl | exact wan_y rfl rfl (beq_tt ‹_›) | exact wan_y rfl rfl (beq_ff ‹_›) | exact wan_y rfl rfl (by simp [*])) (fun h0 hS => st_indexS (m := i) rfl rfl hi hil ⟨rfl, rfl⟩) ⟨_, rfl⟩ ?_
        refine aa_t (i := 12) rfl rfl (by kernel_rfl) (by first | rfl | exact wan_y rfl rfl (beq_tt ‹_›) | exact wan_y rfl rfl (beq_ff ‹_›) | exact wan_y rfl rfl (by simp [*])) (fun h0 hS => st_fieldB rfl ⟨rfl, rfl⟩) ⟨_, rfl⟩ ?_
        refine aa_c0 (i := 13) rfl (by kernel_rfl) (by first | rfl | exact wan_y rfl rfl (beq_tt ‹_›) | exact wan_y rfl rfl (beq_ff ‹_›) | exact wan_y rfl rfl (by simp [*])) (s_store rfl rfl rfl rfl rfl rfl hset (by repeat constructor) ?_)
        refine ⟨.inr ⟨_, rfl⟩, ?_⟩
        refine aa_done (by kernel_rfl) ?_ _
        refine abody_end (r := .tup []) none (by repeat (first | exact ResA.nil | (apply ResA.tmp; (focus exact rfl)) | (apply ResA.cellN; (focus exact inferInstance); (focus exact rfl); (focus exact rfl); (focus exact rfl)) | (apply ResA.cell1; (focus exact inferInstance); (focus exact rfl); (focus exact rfl); (focus exact rfl)))) rfl rfl (by simp [bpLtB, bp_DB, bp_NB]) (LeA.refl _) ⟨rfl, rfl, rfl⟩
      · have hc7 := bp hb7
        have hdn : dn = true := hc7
        have ea : acc = entL n.entries name ino := by rw [← hacc, hdn]; simp [entGo]
        refine aw_skip ?_
        refine x_then ?_
        refine hK _ ?_
        clear hK K
        refine aw_draw (fun h => ∃ x, h.bx = [DB f q d 1 cap cap1, x, [.bs 0 0 2 f.length cap], filA a, nodA n]) 14 (by kernel_rfl) ?_
        refine aa_t (i := 0) rfl rfl (by kernel_rfl) (by first | rfl | exact wan_y rfl rfl (beq_tt ‹_›) | exact wan_y rfl rfl (beq_ff ‹_›) | exact wan_y rfl rfl (by simp [*])) (fun h0 hS => st_fieldB rfl ⟨rfl, rfl⟩) ⟨_, rfl⟩ ?_
        first | refine aa_t (i := 1) rfl rfl (by kernel_rfl) (by first | rfl | exact wan_y rfl rfl (beq_tt ‹_›) | exact wan_y rfl rfl (beq_ff ‹_›) | exact wan_y rfl rfl (by simp [*])) (fun h0 hS => st_loadB1 (row := [.bs 0 0 2 f.length cap]) rfl (by obtain ⟨_, e⟩ := hS; rw [e]; rfl) rfl ⟨rfl, rfl⟩) ⟨_, rfl⟩ ?_ | refine aa_t (i := 1) rfl rfl (by kernel_rfl) (by first | rfl | exact wan_y rfl rfl (beq_tt ‹_›) | exact wan_y rfl rfl (beq_ff ‹_›) | exact wan_y rfl rfl (by simp [*])) (fun h0 hS => st_loadB1 (row := filA a) rfl (by obtain ⟨_, e⟩ := hS; rw [e]; rfl) rfl ⟨rfl, rfl⟩) ⟨_, rfl⟩ ?_ | refine aa_t (i := 1) rfl rfl (by kernel_rfl) (by first | rfl | exact wan_y rfl rfl (beq_tt ‹_›) | exact wan_y rfl rfl (beq_ff ‹_›) | exact wan_y rfl rfl (by simp [*])) (fun h0 hS => st_loadB1 (row := DB f q d 1 cap cap1) rfl (by obtain ⟨_, e⟩ := hS; rw [e]; rfl) hD0 ⟨rfl, rfl⟩) ⟨_, rfl⟩ ?_ | refine aa_t (i := 1) rfl rfl (by kernel_rfl) (by first | rfl | exact wan_y rfl rfl (beq_tt ‹_›) | exact wan_y rfl rfl (beq_ff ‹_›) | exact wan_y rfl rfl (by simp [*])) (fun h0 hS => st_loadBW (row := [.bs 0 0 2 f.length cap]) rfl (by obtain ⟨_, e⟩ := hS; rw [e]; rfl) rfl ⟨rfl, rfl⟩) ⟨_, rfl⟩ ?_ | refine aa_t (i := 1) rfl rfl (by kernel_rfl) (by first | rfl | exact wan_y rfl rfl (beq_tt ‹_›) | exact wan_y rfl rfl (beq_ff ‹_›) | exact wan_y rfl rfl (by simp [*])) (fun h0 hS => st_loadBW (row := filA a) rfl (by obtain ⟨_, e⟩ := hS; rw [e]; rfl) rfl ⟨rfl, rfl⟩) ⟨_, rfl⟩ ?_ | refine aa_t (i := 1) rfl rfl (by kernel_rfl) (by first | rfl | exact wan_y rfl rfl (beq_tt ‹_›) | exact wan_y rfl rfl (beq_ff ‹_›) | exact wan_y rfl rfl (by simp [*])) (fun h0 hS => st_loadB1 rfl rfl rfl ⟨rfl, rfl⟩) ⟨_, rfl⟩ ?_
        refine aa_t (i := 2) rfl rfl (by kernel_rfl) (by first | rfl | exact wan_y rfl rfl (beq_tt ‹_›) | exact wan_y rfl rfl (beq_ff ‹_›) | exact wan_y rfl rfl (by simp [*])) (fun h0 hS => st_fieldB rfl ⟨rfl, rfl⟩) ⟨_, rfl⟩ ?_
        first | refine aa_t (i := 3) rfl rfl (by kernel_rfl) (by first | rfl | exact wan_y rfl rfl (beq_tt ‹_›) | exact wan_y rfl rfl (beq_ff ‹_›) | exact wan_y rfl rfl (by simp [*])) (fun h0 hS => st_loadB1 (row := [.bs 0 0 2 f.length cap]) rfl (by obtain ⟨_, e⟩ := hS; rw [e]; rfl) rfl ⟨rfl, rfl⟩) ⟨_, rfl⟩ ?_ | refine aa_t (i := 3) rfl rfl (by kernel_rfl) (by first | rfl | exact wan_y rfl rfl (beq_tt ‹_›) | exact wan_y rfl rfl (beq_ff ‹_›) | exact wan_y rfl rfl (by simp [*])) (fun h0 hS => st_loadB1 (row := filA a) rfl (by obtain ⟨_, e⟩ := hS; rw [e]; rfl) rfl ⟨rfl, rfl⟩) ⟨_, rfl⟩ ?_ | refine aa_t (i := 3) rfl rfl (by kernel_rfl) (by first | rfl | exact wan_y rfl rfl (beq_tt ‹_›) | exact wan_y rfl rfl (beq_ff ‹_›) | exact wan_y rfl rfl (by simp [*])) (fun h0 hS => st_loadB1 (row := DB f q d 1 cap cap1) rfl (by obtain ⟨_, e⟩ := hS; rw [e]; rfl) hD0 ⟨rfl, rfl⟩) ⟨_, rfl⟩ ?_ | refine aa_t (i := 3) rfl rfl (by kernel_rfl) (by first | rfl | exact wan_y rfl rfl (beq_tt ‹_›) | exact wan_y rfl rfl (beq_ff ‹_›) | exact wan_y rfl rfl (by simp [*])) (fun h0 hS => st_loadBW (row := [.bs 0 0 2 f.length cap]) rfl (by obtain ⟨_, e⟩ := hS; rw [e]; rfl) rfl ⟨rfl, rfl⟩) ⟨_, rfl⟩ ?_ | refine aa_t (i := 3) rfl rfl (by kernel_rfl) (by first | rfl | exact wan_y rfl rfl (beq_tt ‹_›) | exact wan_y rfl rfl (beq_ff ‹_›) | exact wan_y rfl rfl (by simp [*])) (fun h0 hS => st_loadBW (row := filA a) rfl (by obtain ⟨_, e⟩ := hS; rw [e]; rfl) rfl ⟨rfl, rfl⟩) ⟨_, rfl⟩ ?_ | refine aa_t (i := 3) rfl rfl (by kernel_rfl) (by first | rfl | exact wan_y rfl rfl (beq_tt ‹_›) | exact wan_y rfl rfl (beq_ff ‹_›) | exact wan_y rfl rfl (by simp [*])) (fun h0 hS => st_loadB1 rfl rfl rfl ⟨rfl, rfl⟩) ⟨_, rfl⟩ ?_
        refine aa_t (i := 4) rfl rfl (by kernel_rfl) (by first | rfl | exact wan_y rfl rfl (beq_tt ‹_›) | exact wan_y rfl rfl (beq_ff ‹_›) | exact wan_y rfl rfl (by simp [*])) (fun h0 hS => st_indexS (m := q) rfl rfl ha hql ⟨rfl, rfl⟩) ⟨_, rfl⟩ ?_
        refine aa_t (i := 5) rfl rfl (by kernel_rfl) (by first | rfl | exact wan_y rfl rfl (beq_tt ‹_›) | exact wan_y rfl rfl (beq_ff ‹_›) | exact wan_y rfl rfl (by simp [*])) (fun h0 hS => st_fieldB rfl ⟨rfl, rfl⟩) ⟨_, rfl⟩ ?_
        first | refine aa_t (i := 6) rfl rfl (by kernel_rfl) (by first | rfl | exact wan_y rfl rfl (beq_tt ‹_›) | exact wan_y rfl rfl (beq_ff ‹_›) | exact wan_y rfl rfl (by simp [*])) (fun h0 hS => st_loadB1 (row := [.bs 0 0 2 f.length cap]) rfl (by obtain ⟨_, e⟩ := hS; rw [e]; rfl) rfl ⟨rfl, rfl⟩) ⟨_, rfl⟩ ?_ | refine aa_t (i := 6) rfl rfl (by kernel_rfl) (by first | rfl | exact wan_y rfl rfl (beq_tt ‹_›) | exact wan_y rfl rfl (beq_ff ‹_›) | exact wan_y rfl rfl (by simp [*])) (fun h0 hS => st_loadB1 (row := filA a) rfl (by obtain ⟨_, e⟩ := hS; rw [e]; rfl) rfl ⟨rfl, rfl⟩) ⟨_, rfl⟩ ?_ | refine aa_t (i := 6) rfl rfl (by kernel_rfl) (by first | rfl | exact wan_y rfl rfl (beq_tt ‹_›) | exact wan_y rfl rfl (beq_ff ‹_›) | exact wan_y rfl rfl (by simp [*])) (fun h0 hS => st_loadB1 (row := DB f q d 1 cap cap1) rfl (by obtain ⟨_, e⟩ := hS; rw [e]; rfl) hD0 ⟨rfl, rfl⟩) ⟨_, rfl⟩ ?_ | refine aa_t (i := 6) rfl rfl (by kernel_rfl) (by first | rfl | exact wan_y rfl rfl (beq_tt ‹_›) | exact wan_y rfl rfl (beq_ff ‹_›) | exact wan_y rfl rfl (by simp [*])) (fun h0 hS => st_loadBW (row := [.bs 0 0 2 f.length cap]) rfl (by obtain ⟨_, e⟩ := hS; rw [e]; rfl) rfl ⟨rfl, rfl⟩) ⟨_, rfl⟩ ?_ | refine aa_t (i := 6) rfl rfl (by kernel_rfl) (by first | rfl | exact wan_y rfl rfl (beq_tt ‹_›) | exact wan_y rfl rfl (beq_ff ‹_›) | exact wan_y rfl rfl (by simp [*])) (fun h0 hS => st_loadBW (row := filA a) rfl (by obtain ⟨_, e⟩ := hS; rw [e]; rfl) rfl ⟨rfl, rfl⟩) ⟨_, rfl⟩ ?_ | refine aa_t (i := 6) rfl rfl (by kernel_rfl) (by first | rfl | exact wan_y rfl rfl (beq_tt ‹_›) | exact wan_y rfl rfl (beq_ff ‹_›) | exact wan_y rfl rfl (by simp [*])) (fun h0 hS => st_loadB1 rfl rfl rfl ⟨rfl, rfl⟩) ⟨_, rfl⟩ ?_
        first | refine aa_t (i := 7) rfl rfl (by kernel_rfl) (by first | rfl | exact wan_y rfl rfl (beq_tt ‹_›) | exact wan_y rfl rfl (beq_ff ‹_›) | exact wan_y rfl rfl (by simp [*])) (fun h0 hS => st_loadB1 (row := [.bs 0 0 2 f.length cap]) rfl (by obtain ⟨_, e⟩ := hS; rw [e]; rfl) rfl ⟨rfl, rfl⟩) ⟨_, rfl⟩ ?_ | refine aa_t (i := 7) rfl rfl (by kernel_rfl) (by first | rfl | exact wan_y rfl rfl (beq_tt ‹_›) | exact wan_y rfl rfl (beq_ff ‹_›) | exact wan_y rfl rfl (by simp [*])) (fun h0 hS => st_loadB1 (row := filA a) rfl (by obtain ⟨_, e⟩ := hS; rw [e]; rfl) rfl ⟨rfl, rfl⟩) ⟨_, rfl⟩ ?_ | refine aa_t (i := 7) rfl rfl (by kernel_rfl) (by first | rfl | exact wan_y rfl rfl (beq_tt ‹_›) | exact wan_y rfl rfl (beq_ff ‹_›) | exact wan_y rfl rfl (by simp [*])) (fun h0 hS => st_loadB1 (row := DB f q d 1 cap cap1) rfl (by obtain ⟨_, e⟩ := hS; rw [e]; rfl) hD0 ⟨rfl, rfl⟩) ⟨_, rfl⟩ ?_ | refine aa_t (i := 7) rfl rfl (by kernel_rfl) (by first | rfl | exact wan_y rfl rfl (beq_tt ‹_›) | exact wan_y rfl rfl (beq_ff ‹_›) | exact wan_y rfl rfl (by simp [*])) (fun h0 hS => st_loadBW (row := [.bs 0 0 2 f.length cap]) rfl (by obtain ⟨_, e⟩ := hS; rw [e]; rfl) rfl ⟨rfl, rfl⟩) ⟨_, rfl⟩ ?_ | refine aa_t (i := 7) rfl rfl (by kernel_rfl) (by first | rfl | exact wan_y rfl rfl (beq_tt ‹_›) | exact wan_y rfl rfl (beq_ff ‹_›) | exact wan_y rfl rfl (by simp [*])) (fun h0 hS => st_loadBW (row := filA a) rfl (by obtain ⟨_, e⟩ := hS; rw [e]; rfl) rfl ⟨rfl, rfl⟩) ⟨_, rfl⟩ ?_ | refine aa_t (i := 7) rfl rfl (by kernel_rfl) (by first | rfl | exact wan_y rfl rfl (beq_tt ‹_›) | exact wan_y rfl rfl (beq_ff ‹_›) | exact wan_y rfl rfl (by simp [*])) (fun h0 hS => st_loadBW rfl rfl rfl ⟨rfl, rfl⟩) ⟨_, rfl⟩ ?_
        first | refine aa_t (i := 8) rfl rfl (by kernel_rfl) (by first | rfl | exact wan_y rfl rfl (beq_tt ‹_›) | exact wan_y rfl rfl (beq_ff ‹_›) | exact wan_y rfl rfl (by simp [*])) (fun h0 hS => st_loadB1 (row := [.bs 0 0 2 f.length cap]) rfl (by obtain ⟨_, e⟩ := hS; rw [e]; rfl) rfl ⟨rfl, rfl⟩) ⟨_, rfl⟩ ?_ | refine aa_t (i := 8) rfl rfl (by kernel_rfl) (by first | rfl | exact wan_y rfl rfl (beq_tt ‹_›) | exact wan_y rfl rfl (beq_ff ‹_›) | exact wan_y rfl rfl (by simp [*])) (fun h0 hS => st_loadB1 (row := filA a) rfl (by obtain ⟨_, e⟩ := hS; rw [e]; rfl) rfl ⟨rfl, rfl⟩) ⟨_, rfl⟩ ?_ | refine aa_t (i := 8) rfl rfl (by kernel_rfl) (by first | rfl | exact wan_y rfl rfl (beq_tt ‹_›) | exact wan_y rfl rfl (beq_ff ‹_›) | exact wan_y rfl rfl (by simp [*])) (fun h0 hS => st_loadB1 (row := DB f q d 1 cap cap1) rfl (by obtain ⟨_, e⟩ := hS; rw [e]; rfl) hD0 ⟨rfl, rfl⟩) ⟨_, rfl⟩ ?_ | refine aa_t (i := 8) rfl rfl (by kernel_rfl) (by first | rfl | exact wan_y rfl rfl (beq_tt ‹_›) | exact wan_y rfl rfl (beq_ff ‹_›) | exact wan_y rfl rfl (by simp [*])) (fun h0 hS => st_loadBW (row := [.bs 0 0 2 f.length cap]) rfl (by obtain ⟨_, e⟩ := hS; rw [e]; rfl) rfl ⟨rfl, rfl⟩) ⟨_, rfl⟩ ?_ | refine aa_t (i := 8) rfl rfl (by kernel_rfl) (by first | rfl | exact wan_y rfl rfl (beq_tt ‹_›) | exact wan_y rfl rfl (beq_ff ‹_›) | exact wan_y rfl rfl (by simp [*])) (fun h0 hS => st_loadBW (row := filA a) rfl (by obtain ⟨_, e⟩ := hS; rw [e]; rfl) rfl ⟨rfl, rfl⟩) ⟨_, rfl⟩ ?_ | refine aa_t (i := 8) rfl rfl (by kernel_rfl) (by first | rfl | exact wan_y rfl rfl (beq_tt ‹_›) | exact wan_y rfl rfl (beq_ff ‹_›) | exact wan_y rfl rfl (by simp [*])) (fun h0 hS => st_loadBW rfl rfl rfl ⟨rfl, rfl⟩) ⟨_, rfl⟩ ?_
        refine aa_t (i := 10) rfl rfl (by kernel_rfl) (by first | rfl | exact wan_y rfl rfl (beq_tt ‹_›) | exact wan_y rfl rfl (beq_ff ‹_›) | exact wan_y rfl rfl (by simp [*])) (fun h0 hS => st_le (y := .sl 2 ((entL n.entries name ino).map entA) none) (st_move rfl ⟨rfl, rfl⟩) (by rw [← ea]; (try simp only [List.map_append, List.map_cons, List.map_nil]); exact LeA.tok _ _ _) ⟨rfl, rfl⟩) ⟨_, rfl⟩ ?_
        refine aa_c (i := 9) rfl rfl (by kernel_rfl) (by first | rfl | exact wan_y rfl rfl (beq_tt ‹_›) | exact wan_y rfl rfl (beq_ff ‹_›) | exact wan_y rfl rfl (by simp [*])) (s_callR 2 rfl (.cons _ _ _ _ _ rfl (LeA.of_eq (low_fls hq hcap hcap1 (Nat.zero_le _) (Nat.zero_le _) rfl rfl)) (.cons _ _ _ _ _ rfl (LeA.refl _) .nil)) (Rindex f a hf) ?_)
        rintro r rfl
        refine ⟨rfl, ?_⟩
        refine ⟨.inr ⟨_, rfl⟩, ?_⟩
        refine aa_t (i := 11) rfl rfl (by kernel_rfl) (by first | rfl | exact wan_y rfl rfl (beq_tt ‹_›) | exact wan_y rfl rfl (beq_ff ‹_›) | exact wan_y rfl rfl (by simp [*])) (fun h0 hS => st_indexS (m := i) rfl rfl hi hil ⟨rfl, rfl⟩) ⟨_, rfl⟩ ?_
        refine aa_t (i := 12) rfl rfl (by kernel_rfl) (by first | rfl | exact wan_y rfl rfl (beq_tt ‹_›) | exact wan_y rfl rfl (beq_ff ‹_›) | exact wan_y rfl rfl (by simp [*])) (fun h0 hS => st_fieldB rfl ⟨rfl, rfl⟩) ⟨_, rfl⟩ ?_
        refine aa_c0 (i := 13) rfl (by kernel_rfl) (by first | rfl | exact wan_y rfl rfl (beq_tt ‹_›) | exact wan_y rfl rfl (beq_ff ‹_›) | exact wan_y rfl rfl (by simp [*])) (s_store rfl rfl rfl rfl rfl rfl hset (by repeat constructor) ?_)
        refine ⟨.inr ⟨_, rfl⟩, ?_⟩
        refine aa_done (by kernel_rfl) ?_ _
        refine abody_end (r := .tup []) none (by repeat (first | exact ResA.nil | (apply ResA.tmp; (focus exact rfl)) | (apply ResA.cellN; (focus exact inferInstance); (focus exact rfl); (focus exact rfl); (focus exact rfl)) | (apply ResA.cell1; (focus exact inferInstance); (focus exact rfl); (focus exact rfl); (focus exact rfl)))) rfl rfl (by simp [bpLtB, bp_DB, bp_NB]) (LeA.refl _) ⟨rfl, rfl, rfl⟩

end
end Go.Proofs.Ytgliiknfmlmddaa
namespace Go.Proofs.Ytgliiknfmlmddaa
open Go.RowKit

theorem src1 {h : AH} {sz : Nat} {r : List AV} {tok : Option Nat} : SrcA h sz (.sl sz [r] tok) 1 r := by
  have := SrcA.sl (h := h) (sz := sz) [r] tok
  simpa using this
theorem NB_first (n : Nod) (cap : Nat) : nodA n ++ List.replicate ((cap - 1) * 8) .any = NB [n] cap := by
  unfold NB rowsB
  simp
theorem NB_new (acc : List Nod) (n : Nod) (cap0 cap : Nat) : ((NB acc cap0).drop 0).take (acc.length * 8) ++ nodA n ++ List.replicate ((cap - (acc.length + 1)) * 8) .any = NB (acc ++ [n]) cap := by
  unfold NB
  rw [rowsB_new (nods_eight acc) (by simp), List.map_append]
  rfl
theorem NB_push {acc : List Nod} {n : Nod} {cap : Nat} {row : List AV} (hs : SetAt (NB acc cap) (0 + acc.length * 8) (nodA n) row) (hc : acc.length + 1 ≤ cap) : row = NB (acc ++ [n]) cap := by
  have key := rowsB_push (rows := acc.map nodA) (sz := 8) (cap := cap) (r := nodA n) (row' := row) (nods_eight acc) rfl (by omega) (by simpa using hc) (by rw [List.length_map]; exact hs)
  rw [key]
  unfold NB
  rw [List.map_append]
  rfl
theorem ni2 {is : List Nat} : ∀ i, i < 2 → (0 :: 1 :: is)[i]? = some i := by
  intro i hi
  match i, hi with
  | 0, _ => rfl
  | 1, _ => rfl
theorem keep_at {ns : List Nod} {j : Nat} {n : Nod} (h : ns[j]? = some n) (ino : Int) : keepNot ino (ns.take (j + 1)) = keepNot ino (ns.take j) ++ (if n.ino = ino then [] else [n]) := by
  unfold keepNot
  rw [List.take_add_one, h, List.filter_append]
  by_cases e : n.ino = ino <;> simp [e]
section
set_option maxRecDepth 10000
set_option maxHeartbeats 2000000
theorem Rdrop (f : Fls) (q : Nat) (d : Dvc) (a : Fil) (cap cap1 : Nat) (hf : FlsB f) (hq : f[q]? = some d) (ha : a.1 = (q : Int)) (hcap : f.length ≤ cap) (hcap1 : d.nodes.length ≤ cap1) (hne : 0 < (keepNot a.2 d.nodes).length) :
    ACall Try.prog 111 [.agg [.bs 0 0 2 f.length cap], .agg (filA a)] [DB f q d 1 cap cap1, NB d.nodes cap1] (fun r b t => t = [] ∧ r = .tup [] ∧ ((0 < linksF f a ∧ b = [DB f q d 1 cap cap1, NB d.nodes cap1, [.bs 0 0 2 f.length cap], filA a]) ∨ (linksF f a = 0 ∧ ∃ cap2, (keepNot a.2 d.nodes).length ≤ cap2 ∧ b = [DB f q { d with nodes := keepNot a.2 d.nodes } 4 cap cap2, NB d.nodes cap1, [.bs 0 0 2 f.length cap], filA a, NB (keepNot a.2 d.nodes) cap2]))) := by
  have hql := (List.getElem?_eq_some_iff.1 hq).1
  have hdn := hf.nodes d (List.mem_of_getElem? hq)
  have hD0 : (DB f q d 1 cap cap1)[0 + q * 2 + 1]? = some (.bs 1 0 8 d.nodes.length cap1) := DB_nodes hql
  have hset : ∀ (acc : List Nod) (cap2 : Nat), SetAt (DB f q d 1 cap cap1) (0 + q * 2 + 1) [.bs 4 0 8 acc.length cap2] (DB f q { d with nodes := acc } 4 cap cap2) := fun acc cap2 => DB_set hql (by repeat constructor) (by simp)
  refine enter Try.func111 rfl rfl rfl rfl rfl 5 rfl ?_
  refine p_sr (fun K hK => ?_)
  first | refine al_p rfl (s_boxA rfl rfl (by repeat constructor) ?_) | refine al_p rfl (s_box rfl rfl (by repeat constructor) ?_)
  first | refine al_p rfl (s_boxA rfl rfl (by repeat constructor) ?_) | refine al_p rfl (s_box rfl rfl (by repeat constructor) ?_)
  refine al_nil (x_then (hK _ ?_))
  clear hK K
  refine aw_seq (fun K hK => ?_)
  refine p_sr (fun K hK => ?_)
  refine al_p rfl (st_loadBW rfl rfl rfl ?_)
  refine al_p rfl (st_loadBW rfl rfl rfl ?_)
  refine al_p rfl (s_callR 2 rfl (.cons _ _ _ _ _ rfl (LeA.of_eq (low_fls hq hcap hcap1 (Nat.zero_le _) (Nat.zero_le _) rfl rfl)) (.cons _ _ _ _ _ rfl (LeA.refl _) .nil)) (Rlinks f a hf) ?_)
  rintro r rfl
  refine ⟨rfl, ?_⟩
  refine al_p rfl (st_gtr rfl rfl ?_)
  refine al_nil (x_then (hK _ ?_))
  clear hK K
  refine aw_cond rfl (fun hb1 => ?_) (fun hb1 => ?_)
  · have hc1 := bp hb1
    have hl : 0 < linksF f a := by omega
    refine aw_ret ?_
    refine x_thenR ?_
    clear hK K
    refine abody_ret (r := .tup []) none (by repeat (first | exact ResA.nil | (apply ResA.tmp; (focus exact rfl)) | (apply ResA.cellN; (focus exact inferInstance); (focus exact rfl); (focus exact rfl); (focus exact rfl)) | (apply ResA.cell1; (focus exact inferInstance); (focus exact rfl); (focus exact rfl); (focus exact rfl)))) rfl rfl (by simp [bpLtB, bpLtL, bpLt, bp_DB, bp_NB, filA]) (LeA.refl _) ⟨rfl, rfl, .inl ⟨hl, rfl⟩⟩
  · have hc1 := bp hb1
    have hl : linksF f a = 0 := by omega
    refine aw_skip ?_
    refine x_then ?_
    refine hK _ ?_
    clear hK K
    refine p_sr (fun K hK => ?_)
    refine p_as ?_
    refine al_nil (x_then (hK _ ?_))
    clear hK K
    refine p_sr (fun K hK => ?_)
    refine al_p rfl (st_fieldB rfl ?_)
    refine al_p rfl (st_loadB1 rfl rfl rfl ?_)
    refine al_p rfl (st_fieldB rfl ?_)
    refine al_p rfl (st_loadB1 rfl rfl rfl ?_)
    refine al_p rfl (st_indexS (m := q) rfl rfl ha hql ?_)
    refine al_p rfl (st_fieldB rfl ?_)
    refine al_p rfl (st_loadB1 rfl rfl hD0 ?_)
    refine p_as ?_
    refine al_nil (x_then (hK _ ?_))
    clear hK K
    refine aw_seq (fun K hK => ?_)
    refine p_sr (fun K hK => ?_)
    refine p_as ?_
    refine al_nil (x_then (hK _ ?_))
    clear hK K
    refine aw_block ?_
    refine aw_loopW (fun m t => ∃ (j : Nat) (acc : List Nod), j ≤ d.nodes.length ∧ m = d.nodes.length - j ∧ keepNot a.2 (d.nodes.take j) = acc ∧ acc.length ≤ j ∧ ((acc = [] ∧ t = ⟨look [(2, .bp 2 0), (3, .bp 3 0), (4, .v (.slice none 0 0)), (5, .bs 1 0 8 d.nodes.length cap1), (6, .v (.int .i64 (j : Int)))], ⟨[DB f q d 1 cap cap1, NB d.nodes cap1, [.bs 0 0 2 f.length cap], filA a], []⟩⟩) ∨ (∃ cap2, acc.length ≤ cap2 ∧ t = ⟨look [(2, .bp 2 0), (3, .bp 3 0), (4, .bs 4 0 8 acc.length cap2), (5, .bs 1 0 8 d.nodes.length cap1), (6, .v (.int .i64 (j : Int)))], ⟨[DB f q d 1 cap cap1, NB d.nodes cap1, [.bs 0 0 2 f.length cap], filA a, NB acc cap2], []⟩⟩))) (d.nodes.length) (weak_of 4 0 rfl rfl rfl (by simp [bpLtB, bpLtL, bpLt, bp_DB, bp_NB, filA, nodA]) (by repeat (first | exact Sub.nil | refine Sub.cons _ _ _ rfl rfl ?_ | refine Sub.any _ _ ?_ | refine Sub.sl _ _ _ _ _ rfl ?_ | refine Sub.slnil _ _ _ rfl ?_))) (⟨0, [], Nat.zero_le _, rfl, rfl, Nat.le_refl _, .inl ⟨rfl, rfl⟩⟩) ?_
    rintro m t ⟨j, acc, hj, rfl, hacc, hal, ⟨rfl, rfl⟩ | ⟨cap2, hcp, rfl⟩⟩
    · skip
      refine aw_seq (fun K hK => ?_)
      refine p_sr (fun K hK => ?_)
      refine p_mv ?_
      refine p_mv ?_
      refine al_p rfl (st_lenB rfl ?_)
      first | refine al_p rfl (st_lss rfl rfl ?_) | refine al_p rfl (st_lssS rfl rfl ?_)
      refine al_nil (x_then (hK _ ?_))
      clear hK K
      refine aw_cond rfl (fun hb2 => ?_) (fun hb2 => ?_)
      · have hc2 := bp hb2
        have hlt : j < d.nodes.length := by omega
        obtain ⟨n, hy⟩ : ∃ n, d.nodes[j]? = some n := ⟨_, List.getElem?_eq_getElem hlt⟩
        have hk := keep_at hy a.2
        refine aw_skip ?_
        refine x_then ?_
        refine hK _ ?_
        clear hK K
        refine aw_seq (fun K hK => ?_)
        refine aw_block ?_
        refine aw_seq (fun K hK => ?_)
        refine aw_drawR 8 (by kernel_rfl) ?_
        refine r_y (i := 0) rfl (st_move rfl ⟨rfl, rfl⟩) ?_
        refine r_y (i := 1) rfl (st_move rfl ⟨rfl, rfl⟩) ?_
        refine r_y (i := 2) rfl (st_indexS (m := j) rfl rfl rfl hlt ⟨rfl, rfl⟩) ?_
        refine r_y (i := 3) rfl (st_fieldB rfl ⟨rfl, rfl⟩) ?_
        refine r_y (i := 4) rfl (st_loadB1 rfl rfl (NB_get hy rfl) ⟨rfl, rfl⟩) ?_
        refine r_y (i := 5) rfl (st_fieldB rfl ⟨rfl, rfl⟩) ?_
        refine r_y (i := 6) rfl (st_loadB1 rfl rfl rfl ⟨rfl, rfl⟩) ?_
        first | refine r_y (i := 7) rfl (st_neq rfl rfl ⟨rfl, rfl⟩) ?_ | refine r_y (i := 7) rfl (st_neqS rfl rfl ⟨rfl, rfl⟩) ?_ | refine r_y (i := 7) rfl (st_neqB (by kernel_rfl) rfl rfl ⟨rfl, rfl⟩) ?_
        refine aa_done (by kernel_rfl) ?_ _
        refine x_then ?_
        refine hK _ ?_
        clear hK K
        refine aw_cond rfl (fun hb3 => ?_) (fun hb3 => ?_)
        · have hc3 := bp hb3
          rw [if_neg hc3] at hk
          refine aw_region ?_
          refine p_mv ?_
          refine p_mv ?_
          refine p_mv ?_
          refine al_p rfl (st_indexS (m := j) rfl rfl rfl hlt ?_)
          refine al_p rfl (st_loadBE rfl rfl (by rw [NB_len hcap1]; omega) (NB_row hy) ?_)
          refine al_p rfl (st_slit (by repeat (first | exact DenseA.nil _ | (apply DenseA.cons; (focus exact rfl); (focus exact rfl); (focus exact rfl); (focus exact rfl)) | (apply DenseA.consE; (focus exact rfl); (focus exact rfl); (focus exact rfl)))) rfl rfl rfl rfl ?_)
          refine al_p rfl (st_append0B rfl rfl src1 (by omega) (by omega) ?_)
          · rintro cap2 k bx2 hcp hs
            rw [show cellsA (.agg (nodA n)) ++ List.replicate ((cap2 - 1) * 8) AV.any = NB [n] cap2 from NB_first n cap2] at hs
            obtain ⟨rfl, rfl⟩ : k = 4 ∧ bx2 = [_, _, _, _, _] := hs.eq
            refine p_as ?_
            refine al_nil ?_
            refine x_blockN ?_
            refine x_then ?_
            refine hK _ ?_
            clear hK K
            refine aw_region ?_
            refine p_mv ?_
            first | refine al_p rfl (st_add64 rfl rfl (by omega) ?_) | refine al_p rfl (st_addS rfl rfl (by omega) ?_) | refine al_p rfl (st_add rfl rfl ?_)
            refine p_as ?_
            refine al_nil ?_
            refine x_then ?_
            first | exact ⟨d.nodes.length - (j + 1), _, by omega, ⟨j + 1, [n], by omega, rfl, (by rw [hk, hacc]; rfl), by simp, .inr ⟨cap2, hcp, rfl⟩⟩, weak_of 5 0 rfl rfl rfl (by simp [bpLtB, bpLtL, bpLt, bp_DB, bp_NB, filA, nodA]) ((by repeat (first | exact Sub.nil | refine Sub.cons _ _ _ rfl rfl ?_ | refine Sub.any _ _ ?_ | refine Sub.sl _ _ _ _ _ rfl ?_ | refine Sub.slnil _ _ _ rfl ?_)))⟩ | exact ⟨d.nodes.length - (j + 1), _, by omega, ⟨j + 1, [], by omega, rfl, (by rw [hk, hacc]), by simp, .inl ⟨rfl, rfl⟩⟩, weak_of 4 0 rfl rfl rfl (by simp [bpLtB, bpLtL, bpLt, bp_DB, bp_NB, filA, nodA]) ((by repeat (first | exact Sub.nil | refine Sub.cons _ _ _ rfl rfl ?_ | refine Sub.any _ _ ?_ | refine Sub.sl _ _ _ _ _ rfl ?_ | refine Sub.slnil _ _ _ rfl ?_)))⟩
        · have hc3 := bp hb3
          rw [if_pos hc3, List.append_nil] at hk
          refine aw_skip ?_
          refine x_blockN ?_
          refine x_then ?_
          refine hK _ ?_
          clear hK K
          refine aw_region ?_
          refine p_mv ?_
          first | refine al_p rfl (st_add64 rfl rfl (by omega) ?_) | refine al_p rfl (st_addS rfl rfl (by omega) ?_) | refine al_p rfl (st_add rfl rfl ?_)
          refine p_as ?_
          refine al_nil ?_
          refine x_then ?_
          first | exact ⟨d.nodes.length - (j + 1), _, by omega, ⟨j + 1, [n], by omega, rfl, (by rw [hk, hacc]; rfl), by simp, .inr ⟨cap2, hcp, rfl⟩⟩, weak_of 5 0 rfl rfl rfl (by simp [bpLtB, bpLtL, bpLt, bp_DB, bp_NB, filA, nodA]) ((by repeat (first | exact Sub.nil | refine Sub.cons _ _ _ rfl rfl ?_ | refine Sub.any _ _ ?_ | refine Sub.sl _ _ _ _ _ rfl ?_ | refine Sub.slnil _ _ _ rfl ?_)))⟩ | exact ⟨d.nodes.length - (j + 1), _, by omega, ⟨j + 1, [], by omega, rfl, (by rw [hk, hacc]), by simp, .inl ⟨rfl, rfl⟩⟩, weak_of 4 0 rfl rfl rfl (by simp [bpLtB, bpLtL, bpLt, bp_DB, bp_NB, filA, nodA]) ((by repeat (first | exact Sub.nil | refine Sub.cons _ _ _ rfl rfl ?_ | refine Sub.any _ _ ?_ | refine Sub.sl _ _ _ _ _ rfl ?_ | refine Sub.slnil _ _ _ rfl ?_)))⟩
      · have hc2 := bp hb2
        exfalso
        obtain rfl : j = d.nodes.length := by omega
        rw [List.take_length] at hacc
        rw [hacc] at hne
        exact absurd hne (by simp)
    · skip
      refine aw_seq (fun K hK => ?_)
      refine p_sr (fun K hK => ?_)
      refine p_mv ?_
      refine p_mv ?_
      refine al_p rfl (st_lenB rfl ?_)
      first | refine al_p rfl (st_lss rfl rfl ?_) | refine al_p rfl (st_lssS rfl rfl ?_)
      refine al_nil (x_then (hK _ ?_))
      clear hK K
      refine aw_cond rfl (fun hb4 => ?_) (fun hb4 => ?_)
      · have hc4 := bp hb4
        have hlt : j < d.nodes.length := by omega
        obtain ⟨n, hy⟩ : ∃ n, d.nodes[j]? = some n := ⟨_, List.getElem?_eq_getElem hlt⟩
        have hk := keep_at hy a.2
        refine aw_skip ?_
        refine x_then ?_
        refine hK _ ?_
        clear hK K
        refine aw_seq (fun K hK => ?_)
        refine aw_block ?_
        refine aw_seq (fun K hK => ?_)
        refine aw_drawR 8 (by kernel_rfl) ?_
        refine r_y (i := 0) rfl (st_move rfl ⟨rfl, rfl⟩) ?_
        refine r_y (i := 1) rfl (st_move rfl ⟨rfl, rfl⟩) ?_
        refine r_y (i := 2) rfl (st_indexS (m := j) rfl rfl rfl hlt ⟨rfl, rfl⟩) ?_
        refine r_y (i := 3) rfl (st_fieldB rfl ⟨rfl, rfl⟩) ?_
        refine r_y (i := 4) rfl (st_loadB1 rfl rfl (NB_get hy rfl) ⟨rfl, rfl⟩) ?_
        refine r_y (i := 5) rfl (st_fieldB rfl ⟨rfl, rfl⟩) ?_
        refine r_y (i := 6) rfl (st_loadB1 rfl rfl rfl ⟨rfl, rfl⟩) ?_
        first | refine r_y (i := 7) rfl (st_neq rfl rfl ⟨rfl, rfl⟩) ?_ | refine r_y (i := 7) rfl (st_neqS rfl rfl ⟨rfl, rfl⟩) ?_ | refine r_y (i := 7) rfl (st_neqB (by kernel_rfl) rfl rfl ⟨rfl, rfl⟩) ?_
        refine aa_done (by kernel_rfl) ?_ _
        refine x_then ?_
        refine hK _ ?_
        clear hK K
        refine aw_cond rfl (fun hb5 => ?_) (fun hb5 => ?_)
        · have hc5 := bp hb5
          rw [if_neg hc5] at hk
          refine aw_region ?_
          refine p_mv ?_
          refine p_mv ?_
          refine p_mv ?_
          refine al_p rfl (st_indexS (m := j) rfl rfl rfl hlt ?_)
          refine al_p rfl (st_loadBE rfl rfl (by rw [NB_len hcap1]; omega) (NB_row hy) ?_)
          refine al_p rfl (st_slit (by repeat (first | exact DenseA.nil _ | (apply DenseA.cons; (focus exact rfl); (focus exact rfl); (focus exact rfl); (focus exact rfl)) | (apply DenseA.consE; (focus exact rfl); (focus exact rfl); (focus exact rfl)))) rfl rfl rfl rfl ?_)
          refine al_p rfl (st_appendB rfl rfl rfl (by rw [NB_len hcp]; omega) src1 (by omega) (by omega) ?_ ?_)
          · rintro hg row2 bx2 hs hb
            obtain rfl := NB_push hs hg
            obtain rfl : bx2 = [_, _, _, _, _] := hb.one.2
            refine p_as ?_
            refine al_nil ?_
            refine x_blockN ?_
            refine x_then ?_
            refine hK _ ?_
            clear hK K
            refine aw_region ?_
            refine p_mv ?_
            first | refine al_p rfl (st_add64 rfl rfl (by omega) ?_) | refine al_p rfl (st_addS rfl rfl (by omega) ?_) | refine al_p rfl (st_add rfl rfl ?_)
            refine p_as ?_
            refine al_nil ?_
            refine x_then ?_
            first | exact ⟨d.nodes.length - (j + 1), _, by omega, ⟨j + 1, acc ++ [n], by omega, rfl, (by rw [hk, hacc]), by simp; omega, .inr ⟨cap2, by simpa using hg, by rw [List.length_append]; rfl⟩⟩, weak_of 5 0 rfl rfl rfl (by simp [bpLtB, bpLtL, bpLt, bp_DB, bp_NB, filA, nodA]) ((by repeat (first | exact Sub.nil | refine Sub.cons _ _ _ rfl rfl ?_ | refine Sub.any _ _ ?_ | refine Sub.sl _ _ _ _ _ rfl ?_ | refine Sub.slnil _ _ _ rfl ?_)))⟩ | exact ⟨d.nodes.length - (j + 1), _, by omega, ⟨j + 1, acc ++ [n], by omega, rfl, (by rw [hk, hacc]), by simp; omega, .inr ⟨cap3, by simpa using hcp3, by rw [List.length_append]; rfl⟩⟩, weak_ren [0, 1, 2, 3, 5] ni2 (by decide) (.cons _ _ _ _ _ rfl (renK_DB (by rfl) _ _ _ _ _) (.cons _ _ _ _ _ rfl (renK_NB _ _ _) (.cons _ _ _ _ _ rfl rfl (.cons _ _ _ _ _ rfl rfl (.cons _ _ _ _ _ rfl (renK_NB _ _ _) .nil))))) (by repeat (first | exact SubK.nil | refine SubK.cons _ _ _ _ rfl (LeA.refl _) ?_))⟩ | exact ⟨d.nodes.length - (j + 1), _, by omega, ⟨j + 1, acc, by omega, rfl, (by rw [hk, hacc]), by omega, .inr ⟨cap2, hcp, rfl⟩⟩, weak_of 5 0 rfl rfl rfl (by simp [bpLtB, bpLtL, bpLt, bp_DB, bp_NB, filA, nodA]) ((by repeat (first | exact Sub.nil | refine Sub.cons _ _ _ rfl rfl ?_ | refine Sub.any _ _ ?_ | refine Sub.sl _ _ _ _ _ rfl ?_ | refine Sub.slnil _ _ _ rfl ?_)))⟩
          · rintro hg cap3 k bx2 hcp3 hs
            rw [show ((NB acc cap2).drop 0).take (acc.length * 8) ++ cellsA (.agg (nodA n)) ++ List.replicate ((cap3 - (acc.length + 1)) * 8) AV.any = NB (acc ++ [n]) cap3 from NB_new acc n cap2 cap3] at hs
            obtain ⟨rfl, rfl⟩ : k = 5 ∧ bx2 = [_, _, _, _, _, _] := hs.eq
            refine p_as ?_
            refine al_nil ?_
            refine x_blockN ?_
            refine x_then ?_
            refine hK _ ?_
            clear hK K
            refine aw_region ?_
            refine p_mv ?_
            first | refine al_p rfl (st_add64 rfl rfl (by omega) ?_) | refine al_p rfl (st_addS rfl rfl (by omega) ?_) | refine al_p rfl (st_add rfl rfl ?_)
            refine p_as ?_
            refine al_nil ?_
            refine x_then ?_
            first | exact ⟨d.nodes.length - (j + 1), _, by omega, ⟨j + 1, acc ++ [n], by omega, rfl, (by rw [hk, hacc]), by simp; omega, .inr ⟨cap2, by simpa using hg, by rw [List.length_append]; rfl⟩⟩, weak_of 5 0 rfl rfl rfl (by simp [bpLtB, bpLtL, bpLt, bp_DB, bp_NB, filA, nodA]) ((by repeat (first | exact Sub.nil | refine Sub.cons _ _ _ rfl rfl ?_ | refine Sub.any _ _ ?_ | refine Sub.sl _ _ _ _ _ rfl ?_ | refine Sub.slnil _ _ _ rfl ?_)))⟩ | exact ⟨d.nodes.length - (j + 1), _, by omega, ⟨j + 1, acc ++ [n], by omega, rfl, (by rw [hk, hacc]), by simp; omega, .inr ⟨cap3, by simpa using hcp3, by rw [List.length_append]; rfl⟩⟩, weak_ren [0, 1, 2, 3, 5] ni2 (by decide) (.cons _ _ _ _ _ rfl (renK_DB (by rfl) _ _ _ _ _) (.cons _ _ _ _ _ rfl (renK_NB _ _ _) (.cons _ _ _ _ _ rfl rfl (.cons _ _ _ _ _ rfl rfl (.cons _ _ _ _ _ rfl (renK_NB _ _ _) .nil))))) (by repeat (first | exact SubK.nil | refine SubK.cons _ _ _ _ rfl (LeA.refl _) ?_))⟩ | exact ⟨d.nodes.length - (j + 1), _, by omega, ⟨j + 1, acc, by omega, rfl, (by rw [hk, hacc]), by omega, .inr ⟨cap2, hcp, rfl⟩⟩, weak_of 5 0 rfl rfl rfl (by simp [bpLtB, bpLtL, bpLt, bp_DB, bp_NB, filA, nodA]) ((by repeat (first | exact Sub.nil | refine Sub.cons _ _ _ rfl rfl ?_ | refine Sub.any _ _ ?_ | refine Sub.sl _ _ _ _ _ rfl ?_ | refine Sub.slnil _ _ _ rfl ?_)))⟩
        · have hc5 := bp hb5
          rw [if_pos hc5, List.append_nil] at hk
          refine aw_skip ?_
          refine x_blockN ?_
          refine x_then ?_
          refine hK _ ?_
          clear hK K
          refine aw_region ?_
          refine p_mv ?_
          first | refine al_p rfl (st_add64 rfl rfl (by omega) ?_) | refine al_p rfl (st_addS rfl rfl (by omega) ?_) | refine al_p rfl (st_add rfl rfl ?_)
          refine p_as ?_
          refine al_nil ?_
          refine x_then ?_
          first | exact ⟨d.nodes.length - (j + 1), _, by omega, ⟨j + 1, acc ++ [n], by omega, rfl, (by rw [hk, hacc]), by simp; omega, .inr ⟨cap2, by simpa using hg, by rw [List.length_append]; rfl⟩⟩, weak_of 5 0 rfl rfl rfl (by simp [bpLtB, bpLtL, bpLt, bp_DB, bp_NB, filA, nodA]) ((by repeat (first | exact Sub.nil | refine Sub.cons _ _ _ rfl rfl ?_ | refine Sub.any _ _ ?_ | refine Sub.sl _ _ _ _ _ rfl ?_ | refine Sub.slnil _ _ _ rfl ?_)))⟩ | exact ⟨d.nodes.length - (j + 1), _, by omega, ⟨j + 1, acc ++ [n], by omega, rfl, (by rw [hk, hacc]), by simp; omega, .inr ⟨cap3, by simpa using hcp3, by rw [List.length_append]; rfl⟩⟩, weak_ren [0, 1, 2, 3, 5] ni2 (by decide) (.cons _ _ _ _ _ rfl (renK_DB (by rfl) _ _ _ _ _) (.cons _ _ _ _ _ rfl (renK_NB _ _ _) (.cons _ _ _ _ _ rfl rfl (.cons _ _ _ _ _ rfl rfl (.cons _ _ _ _ _ rfl (renK_NB _ _ _) .nil))))) (by repeat (first | exact SubK.nil | refine SubK.cons _ _ _ _ rfl (LeA.refl _) ?_))⟩ | exact ⟨d.nodes.length - (j + 1), _, by omega, ⟨j + 1, acc, by omega, rfl, (by rw [hk, hacc]), by omega, .inr ⟨cap2, hcp, rfl⟩⟩, weak_of 5 0 rfl rfl rfl (by simp [bpLtB, bpLtL, bpLt, bp_DB, bp_NB, filA, nodA]) ((by repeat (first | exact Sub.nil | refine Sub.cons _ _ _ rfl rfl ?_ | refine Sub.any _ _ ?_ | refine Sub.sl _ _ _ _ _ rfl ?_ | refine Sub.slnil _ _ _ rfl ?_)))⟩
      · have hc4 := bp hb4
        obtain rfl : j = d.nodes.length := by omega
        rw [List.take_length] at hacc
        refine aw_exit ?_
        refine x_thenE ?_
        clear hK K
        refine x_thenE ?_
        refine ABlock_out ?_
        refine x_then ?_
        refine hK _ ?_
        clear hK K
        refine aw_region ?_
        refine al_p rfl (st_fieldB rfl ?_)
        refine al_p rfl (st_loadB1 rfl rfl rfl ?_)
        refine al_p rfl (st_fieldB rfl ?_)
        refine al_p rfl (st_loadB1 rfl rfl rfl ?_)
        refine p_mv ?_
        refine al_p rfl (st_indexS (m := q) rfl rfl ha hql ?_)
        refine al_p rfl (st_fieldB rfl ?_)
        refine al_p0 (s_store rfl rfl rfl rfl rfl rfl (hset _ _) (by repeat constructor) ?_)
        refine al_nil ?_
        refine abody_end (r := .tup []) none (by repeat (first | exact ResA.nil | (apply ResA.tmp; (focus exact rfl)) | (apply ResA.cellN; (focus exact inferInstance); (focus exact rfl); (focus exact rfl); (focus exact rfl)) | (apply ResA.cell1; (focus exact inferInstance); (focus exact rfl); (focus exact rfl); (focus exact rfl)))) rfl rfl (by simp [bpLtB, bpLtL, bpLt, bp_DB, bp_NB, filA]) (LeA.refl _) ⟨rfl, rfl, .inr ⟨hl, cap2, by rw [hacc]; exact hcp, by rw [hacc]; rfl⟩⟩

end
end Go.Proofs.Ytgliiknfmlmddaa
