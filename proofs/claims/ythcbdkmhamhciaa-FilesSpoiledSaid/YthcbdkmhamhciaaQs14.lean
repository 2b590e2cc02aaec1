/-
  Part 14 of the proof of FilesSpoiledP: what the statement's proof uses of the texts in wip/tpl.
-/
import Derived.Test.YthcbdkmhamhciaaQs13
namespace Go.Proofs.Ythcbdkmhamhciaa
open Go.RowKit
def GhE (es : List Ent) (j : Nat) (e : AV) (X : List (List AV)) : Prop := (es = [] ∧ e = .v (.slice none 0 0) ∧ X = []) ∨ ∃ cap2, es.length ≤ cap2 ∧ e = .bs j 0 2 es.length cap2 ∧ X = [EB es cap2]
theorem bp_spl {es : List Ent} {e : AV} {X : List (List AV)} (h : GhE es 5 e X) (l : List Int) (b n c : Nat) (f : Fls) (q : Nat) (d : Dvc) (cap cap1 : Nat) (ns : List Nod) (P : Nat) (nP : Nod) : bpLtB 6 0 (srcA l b :: [.bs 3 0 2 n c] :: [.v (.slice none 0 0)] :: DB f q d 4 cap cap1 :: QB ns P nP e cap1 :: X) = true := by
 rcases h with ⟨_, rfl, rfl⟩ | ⟨c2, _, rfl, rfl⟩
 ·have := bp_QB (n := 6) (m := 0) (ns := ns) (P := P) (nP := nP) (e := .v (.slice none 0 0)) (cap := cap1) rfl
  simp [bpLtB, srcA, bpLtL, bpLt, bp_DB, this]
 have := bp_QB (n := 6) (m := 0) (ns := ns) (P := P) (nP := nP) (e := .bs 5 0 2 es.length c2) (cap := cap1) rfl
 simp [bpLtB, srcA, bpLtL, bpLt, bp_DB, this, bp_EB]
theorem take_spl {es : List Ent} {e : AV} {X : List (List AV)} {j : Nat} (h : GhE es j e X) (a b c d k : List AV) : (a :: b :: c :: d :: k :: X).take 6 = a :: b :: c :: d :: k :: X := by
 rcases h with ⟨_, rfl, rfl⟩ | ⟨c2, _, rfl, rfl⟩ <;> rfl
theorem EB_drop (es : List Ent) (cap k : Nat) (hk : k ≤ es.length) : (EB es cap).drop (0 + k * 2) = EB (es.drop k) (cap - k) := by
 unfold EB rowsB
 have hl : (((es.take k).map entA).flatten).length = k * 2 := by
  have : ∀ l : List Ent, ((l.map entA).flatten).length = l.length * 2 := fun l => by induction l with
   | nil => rfl
   | cons x r ih => simp only [List.map_cons, List.flatten_cons, List.length_append, ih, entA, List.length_cons, List.length_nil]; omega
  rw [this, List.length_take]; omega
 have e1 : (es.map entA).flatten = ((es.take k).map entA).flatten ++ ((es.drop k).map entA).flatten := by rw [← List.flatten_append, ← List.map_append, List.take_append_drop]
 rw [e1, List.append_assoc, Nat.zero_add, ← hl, List.drop_left]
 congr 2
 simp only [List.length_map, List.length_drop]
 congr 1
 omega
theorem lowG_drop {g : Nat → Option (List AV)} {j k cap c' : Nat} {es : List Ent} (hg : g j = some (EB es cap)) (h1 : es.length ≤ cap) (hk : k ≤ es.length) : lowG g (.bs j (0 + k * 2) 2 (es.length - k) c') = .sl 2 ((es.drop k).map entA) none := by
 have hl := EB_len es cap h1
 have hb : Nat.ble (0 + k * 2 + (es.length - k) * 2) (EB es cap).length = true := by
  rw [hl, Nat.ble_eq]
  have := Nat.mul_le_mul_right 2 h1
  omega
 simp only [lowG, hg, hb, EB_drop es cap k hk]
 have e2 : es.length - k = ((es.drop k).map entA).length := by simp
 rw [e2]
 unfold EB rowsB
 rw [chunk_flat (fun r hr => by obtain ⟨x, _, rfl⟩ := List.mem_map.1 hr; rfl)]
def GhB (es : List Ent) (B : List (List AV)) (e : AV) : Prop := (es = [] ∧ e = .v (.slice none 0 0)) ∨ (∃ (j k cap2 c' : Nat) (es0 : List Ent), 3 ≤ j ∧ B[j]? = some (EB es0 cap2) ∧ es0.length ≤ cap2 ∧ k ≤ es0.length ∧ es = es0.drop k ∧ e = .bs j (0 + k * 2) 2 (es0.length - k) c') ∨ e = .sl 2 (es.map entA) none
theorem GhE.b {es : List Ent} {e : AV} {X : List (List AV)} (h : GhE es 5 e X) (a b c d k : List AV) : GhB es (a :: b :: c :: d :: k :: X) e := by
 rcases h with ⟨h1, h2, _⟩ | ⟨cap2, h1, rfl, rfl⟩
 ·exact .inl ⟨h1, h2⟩
 exact .inr (.inl ⟨5, 0, cap2, cap2, es, by omega, rfl, h1, Nat.zero_le _, rfl, by simp⟩)
theorem GhE.bY {es : List Ent} {e : AV} {X : List (List AV)} (h : GhE es 5 e X) (a b c d k : List AV) (Y : List (List AV)) : GhB es (a :: b :: c :: d :: k :: (X ++ Y)) e := by
 rcases h with ⟨h1, h2, _⟩ | ⟨cap2, h1, rfl, rfl⟩
 ·exact .inl ⟨h1, h2⟩
 exact .inr (.inl ⟨5, 0, cap2, cap2, es, by omega, rfl, h1, Nat.zero_le _, rfl, by simp⟩)
theorem spl_end {l : List Int} {b c0 n0 : Nat} {f : Fls} {q : Nat} {d' : Dvc} {cap cap1 : Nat} {ns : List Nod} {P : Nat} {n' : Nod} {es : List Ent} {e : AV} {R B : List (List AV)} {i0 j : Nat} (hBB : B = srcA l b :: [.bs i0 0 2 n0 c0] :: [.v (.slice none 0 0)] :: R) (hn0 : n0 = f.length) (h : GhB es B e) (hi : 3 ≤ i0) (hj : 3 ≤ j) (h0 : B[i0]? = some (DB f q d' j cap cap1)) (h1 : B[j]? = some (QB ns P n' e cap1)) (hq : q < f.length) (hc : f.length ≤ cap) (hP : P < ns.length) (hc1 : ns.length ≤ cap1) (hd : d'.nodes = ns.set P { n' with entries := es }) :
    ∃ rows, (B.take 3).map (livL 3 (frzG 3 B 3)) = [srcA l b, [.sl 2 rows none], [.v (.slice none 0 0)]] ∧ LeA (.agg [.sl 2 rows none]) (.agg (flsA (f.set q d'))) := by
 subst hn0
 have hdl : d'.nodes.length = ns.length := by rw [hd, List.length_set]
 have ht : B.take 3 = [srcA l b, [.bs i0 0 2 f.length c0], [.v (.slice none 0 0)]] := by rw [hBB]; rfl
 have key : ∀ x, lowG (frzG 3 B 3) (.bs i0 0 2 f.length c0) = x → (B.take 3).map (livL 3 (frzG 3 B 3)) = [srcA l b, [x], [.v (.slice none 0 0)]] := by
  intro x hx
  have e3 : livL 3 (frzG 3 B 3) [.bs i0 0 2 f.length c0] = [x] := by
   have : Nat.blt i0 3 = false := by rw [← Bool.not_eq_true, Nat.blt_eq]; omega
   simp only [livL, liv, this, hx]
  have e1 : livL 3 (frzG 3 B 3) (srcA l b) = srcA l b := rfl
  rw [ht]
  simp only [List.map_cons, List.map_nil, e1, e3]
  rfl
 have low : ∀ {e' : AV}, B[j]? = some (QB ns P n' e' cap1) → lowG (frzG 3 B 1) e' = .sl 2 (es.map entA) none → lowG (frzG 3 B 3) (.bs i0 0 2 f.length c0) = .sl 2 ((f.set q d').map dvcA) none := by
  intro e' h1' he'
  have := low_QB3 (n := 3) (bx := B) (es := es) (cap0 := c0) hq hc hd hP hc1 hi hj h0 h1' he'
  injection this with this
  injection this with this
 rcases h with ⟨h2, rfl⟩ | ⟨j2, k, c2, c', es0, hj2, hB, h2, hk, rfl, rfl⟩ | rfl
 ·subst h2
  have hR : RowsN (nodsB ns P n' (.v (.slice none 0 0))) d'.nodes := by
   rw [hd]
   exact (rowsN_A ns).set P ⟨_, rfl, .inr ⟨rfl, rfl⟩⟩
  exact ⟨_, key _ (low_rows hR hq hc (by omega) hi hj h0 h1), resD_leN hR⟩
 ·exact ⟨_, key _ (low h1 (lowG_drop (frz_plain (k := 0) hj2 hB (ent_plain es0)) h2 hk)), LeA.refl _⟩
 exact ⟨_, key _ (low h1 rfl), LeA.refl _⟩
theorem DB_dev (f : Fls) (q : Nat) {d d' : Dvc} (h1 : d.next = d'.next) (h2 : d.nodes.length = d'.nodes.length) (j cap cap1 : Nat) : DB f q d j cap cap1 = DB f q d' j cap cap1 := by
 unfold DB devB devR
 rw [h1, h2]
theorem spl_doneG {N : Dim} {fs : Nat → Option AV} {l : List Int} {a b m c0 n0 : Nat} {f : Fls} {q : Nat} {dd : Dvc} {cap cap1 : Nat} {ns : List Nod} {P : Nat} {n' : Nod} {es : List Ent} {e : AV} {R B : List (List AV)} {i0 j : Nat} (hBB : B = srcA l b :: [.bs i0 0 2 n0 c0] :: [.v (.slice none 0 0)] :: R) (hn0 : n0 = f.length) (h : GhB es B e) (hi : 3 ≤ i0) (h0 : B[i0]? = some (DB f q dd j cap cap1)) (hj : 3 ≤ j) (h1 : B[j]? = some (QB ns P n' e cap1)) (hq : q < f.length) (hc : f.length ≤ cap) (hP : P < ns.length) (hc1 : ns.length ≤ cap1) (hdl : dd.nodes.length = ns.length) (hg : FlsS (m + 1) (f.set q ⟨dd.next, ns.set P { n' with entries := es }⟩)) (hb : b ≤ a + 60) (hN : Nat.ble N.ni 3 = true)
    (hl : SubF 3 (frzG 3 B 3) fs [(3, .bp 1 0), (4, .bp 2 0)]) :
    ∃ t, (∃ (b : Nat) (g : Fls) (rows : List (List AV)), FlsS (m + 1) g ∧ LeA (.agg [.sl 2 rows none]) (.agg (flsA g)) ∧ b ≤ a + 60 ∧ t = ⟨look [(3, .bp 1 0), (4, .bp 2 0)], ⟨[srcA l b, [.sl 2 rows none], [.v (.slice none 0 0)]], []⟩⟩) ∧ Weak N ⟨fs, ⟨B, []⟩⟩ t := by
 have e1 : DB f q dd j cap cap1 = DB f q ⟨dd.next, ns.set P { n' with entries := es }⟩ j cap cap1 := DB_dev f q (d := dd) (d' := ⟨dd.next, ns.set P { n' with entries := es }⟩) rfl (by rw [List.length_set, hdl]) j cap cap1
 rw [e1] at h0
 obtain ⟨x, hx, hle⟩ := spl_end (d' := ⟨dd.next, ns.set P { n' with entries := es }⟩) hBB hn0 h hi hj h0 h1 hq hc hP hc1 rfl
 exact ⟨_, ⟨b, _, x, hg, hle, hb, rfl⟩, weak_fz 3 3 hN hx hl⟩
theorem spl_done {N : Dim} {fs : Nat → Option AV} {l : List Int} {a b m c0 : Nat} {f : Fls} {q : Nat} {d dd : Dvc} {cap cap1 : Nat} {P : Nat} {n' : Nod} {es : List Ent} {e : AV} {X : List (List AV)} (h : GhB es (srcA l b :: [.bs 3 0 2 f.length c0] :: [.v (.slice none 0 0)] :: DB f q dd 4 cap cap1 :: QB d.nodes P n' e cap1 :: X) e) (hs : FlsS m f) (hq : f[q]? = some d) (hc : f.length ≤ cap) (hP : P < d.nodes.length) (hc1 : d.nodes.length ≤ cap1) (hdl : dd.nodes.length = d.nodes.length) (hn : NodS (m + 1) { n' with entries := es }) (hb : b ≤ a + 60) (hN : Nat.ble N.ni 3 = true)
    (hl : SubF 3 (frzG 3 (srcA l b :: [.bs 3 0 2 f.length c0] :: [.v (.slice none 0 0)] :: DB f q dd 4 cap cap1 :: QB d.nodes P n' e cap1 :: X) 3) fs [(3, .bp 1 0), (4, .bp 2 0)]) :
    ∃ t, (∃ (b : Nat) (g : Fls) (rows : List (List AV)), FlsS (m + 1) g ∧ LeA (.agg [.sl 2 rows none]) (.agg (flsA g)) ∧ b ≤ a + 60 ∧ t = ⟨look [(3, .bp 1 0), (4, .bp 2 0)], ⟨[srcA l b, [.sl 2 rows none], [.v (.slice none 0 0)]], []⟩⟩) ∧ Weak N ⟨fs, ⟨srcA l b :: [.bs 3 0 2 f.length c0] :: [.v (.slice none 0 0)] :: DB f q dd 4 cap cap1 :: QB d.nodes P n' e cap1 :: X, []⟩⟩ t :=
 spl_doneG rfl rfl h (Nat.le_refl _) rfl (by omega) rfl (List.getElem?_eq_some_iff.1 hq).1 hc hP hc1 hdl (hs.setN hq hn) hb hN hl
def splN (k : Int) : Nod := ⟨IntKind.i64.wrap (k - 1), 1, 0, 0, 0, 0, ⟨#[]⟩, []⟩
theorem splN_le (k : Int) : LeA (.agg [.v (.int .i64 (IntKind.i64.wrap (k - 1))), .v (.int .i64 1), .v (.int .i64 0), .v (.int .i64 0), .v (.int .i64 0), .v (.int .i64 0), .v (.string ⟨#[]⟩), .v (.slice none 0 0)]) (.agg (nodA (splN k))) :=
 LeA.agg (.cons (.refl _) (.cons (.refl _) (.cons (.refl _) (.cons (.refl _) (.cons (.refl _) (.cons (.refl _) (.cons (.refl _) (.cons (.nil _) .nil))))))))
def splD : Dvc := ⟨2, []⟩
theorem splD_le : LeA (.agg [.v (.int .i64 2), .v (.slice none 0 0)]) (.agg (dvcA splD)) := LeA.agg (.cons (.refl _) (.cons (.nil _) .nil))
theorem nodsB_snoc {ns : List Nod} {P : Nat} (hP : P < ns.length) (n x : Nod) (e : AV) : nodsB (ns ++ [x]) P n e = nodsB ns P n e ++ [nodA x] := by
 unfold nodsB
 rw [List.map_append, List.set_append_left _ _ (by simpa using hP)]
 rfl
theorem QB_push {ns : List Nod} {P : Nat} {n x : Nod} {e : AV} {cap : Nat} {row : List AV} (hP : P < ns.length) (hs : SetAt (QB ns P n e cap) (0 + ns.length * 8) (nodA x) row) (hc : ns.length + 1 ≤ cap) : row = QB (ns ++ [x]) P n e cap := by
 have key := rowsB_push (rows := nodsB ns P n e) (sz := 8) (cap := cap) (r := nodA x) (row' := row) (nodsB_eight _ _ _ _) rfl (by omega) (by rw [nodsB_len]; exact hc) (by rw [nodsB_len]; exact hs)
 rw [key]
 unfold QB
 rw [nodsB_snoc hP]
theorem QB_grow {ns : List Nod} {P : Nat} (hP : P < ns.length) (n x : Nod) (e : AV) (cap0 cap : Nat) : ((QB ns P n e cap0).drop 0).take (ns.length * 8) ++ nodA x ++ List.replicate ((cap - (ns.length + 1)) * 8) .any = QB (ns ++ [x]) P n e cap := by
 unfold QB
 rw [nodsB_snoc hP]
 exact rowsB_new (nodsB_eight ns P n e) (nodsB_len ns P n e).symm
theorem devB_snoc {f : Fls} {q : Nat} (hq : q < f.length) (d y : Dvc) (j cap1 : Nat) : devB (f ++ [y]) q d j cap1 = devB f q d j cap1 ++ [dvcA y] := by
 unfold devB
 rw [List.map_append, List.set_append_left _ _ (by simpa using hq)]
 rfl
theorem DBs_push {f : Fls} {q : Nat} {d y : Dvc} {j cap cap1 : Nat} {row : List AV} (hq : q < f.length) (hs : SetAt (DB f q d j cap cap1) (0 + f.length * 2) (dvcA y) row) (hc : f.length + 1 ≤ cap) : row = DB (f ++ [y]) q d j cap cap1 := by
 have key := rowsB_push (rows := devB f q d j cap1) (sz := 2) (cap := cap) (r := dvcA y) (row' := row) (devB_two _ _ _ _ _) rfl (by omega) (by rw [devB_len]; exact hc) (by rw [devB_len]; exact hs)
 rw [key]
 unfold DB
 rw [devB_snoc hq]
theorem DBs_grow {f : Fls} {q : Nat} (hq : q < f.length) (d y : Dvc) (j cap0 cap cap1 : Nat) : ((DB f q d j cap0 cap1).drop 0).take (f.length * 2) ++ dvcA y ++ List.replicate ((cap - (f.length + 1)) * 2) .any = DB (f ++ [y]) q d j cap cap1 := by
 unfold DB
 rw [devB_snoc hq]
 exact rowsB_new (devB_two f q d j cap1) (devB_len f q d j cap1).symm
theorem EB_push {es : List Ent} {e : Ent} {cap : Nat} {row : List AV} (hs : SetAt (EB es cap) (0 + es.length * 2) (entA e) row) (hc : es.length + 1 ≤ cap) : row = EB (es ++ [e]) cap := by
 have key := rowsB_push (rows := es.map entA) (sz := 2) (cap := cap) (r := entA e) (row' := row) (ent_two es) rfl (by omega) (by simpa using hc) (by rw [List.length_map]; exact hs)
 rw [key]
 unfold EB
 rw [List.map_append]
 rfl
theorem EB_grow (es : List Ent) (e : Ent) (cap0 cap : Nat) : ((EB es cap0).drop 0).take (es.length * 2) ++ entA e ++ List.replicate ((cap - (es.length + 1)) * 2) .any = EB (es ++ [e]) cap := by
 have := EB_snoc es e cap0 cap
 simpa using this
theorem NodS.pushE {m : Nat} {n : Nod} (h : NodS m n) {e' : Ent} (he : e'.1.size ≤ 300) : NodS (m + 1) { n with entries := n.entries ++ [e'] } := by
 refine ⟨by have := h.ents; show (n.entries ++ [e']).length ≤ m + 1; rw [List.length_append]; simp; omega, fun e hx => ?_, h.tg⟩
 rcases List.mem_append.1 hx with hx | hx
 ·exact h.nm e hx
 rw [List.mem_singleton.1 hx]; exact he
theorem GhB.box6 {es : List Ent} {B : List (List AV)} {cap2 c' : Nat} {L : Nat} (hB : B[6]? = some (EB es cap2)) (h : es.length ≤ cap2) (hL : L = es.length) : GhB es B (.bs 6 0 2 L c') := by
 subst hL
 exact .inr (.inl ⟨6, 0, cap2, c', es, by omega, hB, h, Nat.zero_le _, rfl, by simp⟩)
theorem EB_setE {es : List Ent} {cap k c : Nat} {e e' : Ent} {cs : List AV} (h : es[k]? = some e) (hs : SetAt (entA e) c cs (entA e')) (hne : cs ≠ []) : SetAt (EB es cap) (0 + k * 2 + c) cs (EB (es.set k e') cap) := by
 have := rowsB_set (sz := 2) (cap := cap) (q := k) (k := c) (rows := es.map entA) (ent_two es) (by rw [List.getElem?_map, h]; rfl) hs hne
 unfold EB; rw [List.map_set]; exact this
theorem NodS.setE {m : Nat} {n : Nod} (h : NodS m n) (k : Nat) {e' : Ent} (he : e'.1.size ≤ 300) : NodS m { n with entries := n.entries.set k e' } := by
 refine ⟨by show (n.entries.set k e').length ≤ m; rw [List.length_set]; exact h.ents, fun e hx => ?_, h.tg⟩
 rcases List.mem_or_eq_of_mem_set hx with hx | rfl
 ·exact h.nm e hx
 exact he
theorem GhB.box {es : List Ent} {B : List (List AV)} {cap2 c' : Nat} {L : Nat} (hB : B[5]? = some (EB es cap2)) (h : es.length ≤ cap2) (hL : L = es.length) : GhB es B (.bs 5 0 2 L c') := by
 subst hL
 exact .inr (.inl ⟨5, 0, cap2, c', es, by omega, hB, h, Nat.zero_le _, rfl, by simp⟩)
section
set_option maxRecDepth 20000
set_option maxHeartbeats 4000000
theorem LspoilB (l : List Int) (a m : Nat) (f : Fls) (q P : Nat) (d : Dvc) (nP : Nod) (ha : a ≤ 1000000000) (hm : m ≤ 900) (hs : FlsS m f) (hqv : nV l a (f.length : Int) = (q : Int)) (hq : f[q]? = some d) (hPv : nV l (a + 1) (d.nodes.length : Int) = (P : Int)) (hP : d.nodes[P]? = some nP) : GenF Try.prog 39 l a [.agg (flsA f)] 60 (fun r => ∃ g, FlsS (m + 1) g ∧ r = .agg (flsA g)) := by
 have hql := (List.getElem?_eq_some_iff.1 hq).1
 have hPl := (List.getElem?_eq_some_iff.1 hP).1
 have hfw := hs.few
 have hnd := hs.nodes d (List.mem_of_getElem? hq)
 have hb := (hs.t (by omega)).b
 have hnS := (hs.nod d (List.mem_of_getElem? hq) nP (List.mem_of_getElem? hP)).up
 have hnE := hnS.ents
 have hnS0 := hs.nod d (List.mem_of_getElem? hq) nP (List.mem_of_getElem? hP)
 have hd0 : d.nodes.set P nP = d.nodes := by
  rw [← (List.getElem?_eq_some_iff.1 hP).2]; exact List.set_getElem_self _
 have hg9 : FlsS (m + 1) (f.set q ⟨d.next, (d.nodes ++ [splN d.next]).set P nP⟩) := by
  rw [List.set_append_left _ _ hPl, hd0]
  refine hs.set q (by have := hnd; rw [List.length_append]; simp; omega) fun n hn => ?_
  rcases List.mem_append.1 hn with hn | hn
  ·exact (hs.nod d (List.mem_of_getElem? hq) n hn).up
  rw [List.mem_singleton.1 hn]
  exact ⟨Nat.zero_le _, fun e he => (by cases he), Nat.zero_le _⟩
 have hg10 : FlsS (m + 1) ((f ++ [splD]).set q ⟨d.next, d.nodes.set P nP⟩) := by
  rw [List.set_append_left _ _ hql, hd0]
  have e0 : f.set q ⟨d.next, d.nodes⟩ = f := by
   have := (List.getElem?_eq_some_iff.1 hq).2
   rw [show (⟨d.next, d.nodes⟩ : Dvc) = f[q] from this.symm]
   exact List.set_getElem_self _
  rw [e0]
  exact hs.push rfl
 refine enter Try.func39 rfl rfl rfl rfl rfl 1 rfl ?_
 refine w_ (b_ (h:=al_ (h:=e_ (w_ (l_ (h:=?_))))))
 refine al_p rfl (s_callM [] rfl (.cons _ _ _ _ _ rfl (LeA.refl _) .nil) (by decide) .nil (RcopyG f q d P nP hb hq hP) ?_)
 rintro r bc tc ⟨rfl, cap, cap1, hcap, hcap1, rfl, e0, X, hX, rfl⟩
 rcases hX with ⟨hE0, rfl, rfl⟩ | ⟨cap2, hE2, rfl, rfl⟩
 ·have hQ : GhE nP.entries 5 (.v (.slice none 0 0)) [] := .inl ⟨hE0, rfl, rfl⟩
  refine ⟨rfl, _, (back_QB0 (k := 3) rfl f q d cap cap1 P nP : Back _ [] _ [_, _, _, _, _]), ?_⟩
  refine s_ (h:=e_ (q_ (yk_ ([(1, [.bs 3 0 2 f.length cap])]) 9 (h:=df_ 0 (h:=dl_ 1 (h:=dm_ 2 (h:=df_ 3 (h:=dl_ 4 (h:=?_)))))))))
  refine tk_ 5 rfl (fun _ hS => st_lenB rfl ⟨rfl, rfl⟩) ?_
  refine c_ 6 rfl (s_callB 0 rfl (by repeat (first | exact ArgsB.nil | refine ArgsB.cons _ _ _ _ _ rfl rfl ?_)) rfl rfl (GnD l a (f.length : Int) (by omega) (by omega) (by omega)) ?_)
  rintro r row ⟨rfl, rfl⟩
  rw [hqv]
  refine ⟨rfl, rfl, _, (by repeat constructor), ?_⟩
  refine o_ (h:=?_)
  refine tk_ 7 rfl (fun _ hS => st_indexS (m := q) rfl rfl rfl hql ⟨rfl, rfl⟩) ?_
  refine da_ 8 (h:=z_ (h:=t_ (q_ (w_ (m_ (h:=?_))))))
  refine al_p rfl (st_nilB rfl ?_)
  refine al_p rfl (st_fieldB rfl ?_)
  refine al_p rfl (st_loadB1 rfl rfl (DB_nodes hql) ?_)
  refine al_p rfl (st_lenB rfl ?_)
  refine eq_ (h:=e_ (?_))
  refine aw_cond rfl (fun hb1 => ?_) (fun hb1 => ?_)
  ·have hc1 := bp hb1
   exfalso; omega
  have hc1 := bp hb1
  refine kt_ (q_ (yk_ ([(3, DB f q d 4 cap cap1)]) 13 (h:=dm_ 0 (h:=?_))))
  refine tk_ 1 rfl (fun _ hS => st_nilB rfl ⟨rfl, rfl⟩) ?_
  refine tk_ 2 rfl (fun _ hS => st_fieldB rfl ⟨rfl, rfl⟩) ?_
  refine tk_ 3 rfl (fun _ hS => st_loadB1 rfl (kb hS rfl) (DB_nodes hql) ⟨rfl, rfl⟩) ?_
  refine dm_ 4 (h:=dm_ 5 (h:=?_))
  refine tk_ 6 rfl (fun _ hS => st_nilB rfl ⟨rfl, rfl⟩) ?_
  refine tk_ 7 rfl (fun _ hS => st_fieldB rfl ⟨rfl, rfl⟩) ?_
  refine tk_ 8 rfl (fun _ hS => st_loadB1 rfl (kb hS rfl) (DB_nodes hql) ⟨rfl, rfl⟩) ?_
  refine tk_ 9 rfl (fun _ hS => st_lenB rfl ⟨rfl, rfl⟩) ?_
  refine c_ 10 rfl (s_callB 0 rfl (by repeat (first | exact ArgsB.nil | refine ArgsB.cons _ _ _ _ _ rfl rfl ?_)) rfl rfl (GnD l (a + 1) (d.nodes.length : Int) (by omega) (by omega) (by omega)) ?_)
  rintro r row ⟨rfl, rfl⟩
  rw [hPv]
  refine ⟨rfl, rfl, _, (by repeat constructor), ?_⟩
  refine o_ (h:=?_)
  refine tk_ 11 rfl (fun _ hS => st_indexS (m := P) rfl rfl rfl hPl ⟨rfl, rfl⟩) ?_
  refine da_ 12 (h:=z_ (h:=t_ (?_)))
  refine aw_midI (fun t => ∃ (b : Nat) (g : Fls) (rows : List (List AV)), FlsS (m + 1) g ∧ LeA (.agg [.sl 2 rows none]) (.agg (flsA g)) ∧ b ≤ a + 60 ∧ t = ⟨look [(3, .bp 1 0), (4, .bp 2 0)], ⟨[srcA l b, [.sl 2 rows none], [.v (.slice none 0 0)]], []⟩⟩) ?_ ?_
  ·skip
   refine aw_midI (fun t => ∃ (b : Nat) (kk : Int), b ≤ a + 3 ∧ t = ⟨look [(0, .bp 0 0), (3, .bp 1 0), (4, .bp 2 0), (5, .bp 3 (0 + q * 2)), (6, .bp 4 (0 + P * 8)), (37, .v (.int .i64 kk))], ⟨srcA l b :: [.bs 3 0 2 f.length cap] :: [.v (.slice none 0 0)] :: DB f q d 4 cap cap1 :: QB d.nodes P nP (.v (.slice none 0 0)) cap1 :: [], []⟩⟩) ?_ ?_
   ·skip
    refine aw_region (m_ (h:=?_))
    refine al_p rfl (s_gen 0 (hc := Gn l _ 12 (by omega) (by omega)) (hR := ?_))
    rintro r a1 ha1 ⟨kk, rfl, hk0, hk1, -⟩
    refine ⟨rfl, _, (by repeat constructor), ?_⟩
    refine al_nil (?_)
    refine x_then ?_
    exact ⟨_, ⟨_, _, by omega, rfl⟩, weak_of 6 0 rfl (take_spl hQ _ _ _ _ _) rfl (bp_spl hQ _ _ _ _ _ _ _ _ _ _ _ _) ((by repeat (first | exact Sub.nil | refine Sub.cons _ _ _ rfl rfl ?_ | refine Sub.any _ _ ?_ | refine Sub.sl _ _ _ _ _ rfl ?_ | refine Sub.slnil _ _ _ rfl ?_)))⟩
   rintro t ⟨b, kk, hbb, rfl⟩
   refine aw_block (w_ (eq_ (h:=a_ (h:=e_ (?_)))))
   refine aw_cond rfl (fun hb2 => ?_) (fun hb2 => ?_)
   ·have hc2 := bp hb2
    refine aw_region (m_ (h:=m_ (h:=bs_ (h:=?_))))
    refine al_p rfl (s_gen 0 (hc := Gpick l _ _ (fun _ => true) (by omega) (by rfl) (by rfl) (by rfl)) (hR := ?_))
    rintro r a2 ha2 ⟨z0, rfl, -⟩
    refine ⟨rfl, _, (by repeat constructor), ?_⟩
    refine al_p rfl (st_nilB rfl ?_)
    refine al_p rfl (st_fieldB rfl ?_)
    refine al_p0 (s_store rfl rfl rfl rfl rfl rfl (DB_set (k := 0) (d' := { d with next := z0 }) (j' := 4) (cap1' := cap1) hql (by repeat constructor) (List.cons_ne_nil _ _)) (by repeat constructor) ?_)
    refine al_nil (x_blockN (?_))
    refine x_then ?_
    first
    | exact spl_doneG (ns := d.nodes ++ [splN d.next]) rfl rfl (hQ.bY _ _ _ _ _ _) (by omega) rfl (by omega) rfl hql hcap (by rw [List.length_append]; omega) (by first | simpa using hgr | simpa using hcp) (by simp) hg9 (by omega) rfl (by repeat (first | exact SubF.nil | refine SubF.cons _ _ _ _ rfl (LeA.refl _) ?_))
    | exact spl_doneG (f := f ++ [splD]) rfl (by simp) (hQ.bY _ _ _ _ _ _) (by omega) rfl (by omega) rfl (by rw [List.length_append]; omega) (by first | simpa using hgr | simpa using hcp) hPl hcap1 rfl hg10 (by omega) rfl (by repeat (first | exact SubF.nil | refine SubF.cons _ _ _ _ rfl (LeA.refl _) ?_))
    | exact spl_done (.box rfl (by simpa using hgr) (by simp)) hs hq hcap hPl hcap1 rfl (hnS0.pushE (e' := (nm, ze)) (by show nm.size ≤ 300; omega)) (by omega) rfl (by repeat (first | exact SubF.nil | refine SubF.cons _ _ _ _ rfl (LeA.refl _) ?_))
    | exact spl_done (.box6 rfl (by simpa using hcp) (by simp)) hs hq hcap hPl hcap1 rfl (hnS0.pushE (e' := (nm, ze)) (by show nm.size ≤ 300; omega)) (by omega) rfl (by repeat (first | exact SubF.nil | refine SubF.cons _ _ _ _ rfl (LeA.refl _) ?_))
    | exact spl_done (es := [(nm, ze)]) (.box rfl hcp rfl) hs hq hcap hPl hcap1 rfl ⟨by show 1 ≤ _; omega, fun e he => by rw [List.mem_singleton.1 he]; show nm.size ≤ 300; omega, hnS.tg⟩ (by omega) rfl (by repeat (first | exact SubF.nil | refine SubF.cons _ _ _ _ rfl (LeA.refl _) ?_))
    | exact spl_done (.box rfl (by rw [List.length_set]; exact hE2) (by rw [List.length_set])) hs hq hcap hPl hcap1 rfl (hnS.setE kn (hnS.nm e8 (List.mem_of_getElem? he8))) (by omega) rfl (by repeat (first | exact SubF.nil | refine SubF.cons _ _ _ _ rfl (LeA.refl _) ?_))
    | exact spl_done (.box rfl (by rw [List.length_set]; exact hE2) (by rw [List.length_set])) hs hq hcap hPl hcap1 rfl (hnS.setE 0 (by show nm.size ≤ 300; omega)) (by omega) rfl (by repeat (first | exact SubF.nil | refine SubF.cons _ _ _ _ rfl (LeA.refl _) ?_))
    | exact spl_done (es := nP.entries.drop 1) (.inr (.inl ⟨5, 1, cap2, cap2 - 1, nP.entries, by omega, rfl, hE2, by omega, rfl, rfl⟩)) hs hq hcap hPl hcap1 rfl ⟨by have := hnS.ents; rw [List.length_drop]; omega, fun e he => hnS.nm e (List.mem_of_mem_drop he), hnS.tg⟩ (by omega) rfl (by repeat (first | exact SubF.nil | refine SubF.cons _ _ _ _ rfl (LeA.refl _) ?_))
    | exact spl_done (es := []) (.inr (.inr rfl)) hs hq hcap hPl hcap1 rfl ⟨Nat.zero_le _, fun e he => (by cases he), hnS.tg⟩ (by omega) rfl (by repeat (first | exact SubF.nil | refine SubF.cons _ _ _ _ rfl (LeA.refl _) ?_))
    | exact spl_done (hQ.b _ _ _ _ _) hs hq hcap hPl hcap1 rfl ⟨hnS.ents, hnS.nm, hnS.tg⟩ (by omega) rfl (by repeat (first | exact SubF.nil | refine SubF.cons _ _ _ _ rfl (LeA.refl _) ?_))
   have hc2 := bp hb2
   refine w_ (eq_ (h:=a_ (h:=e_ (?_))))
   refine aw_cond rfl (fun hb3 => ?_) (fun hb3 => ?_)
   ·have hc3 := bp hb3
    refine yk_ ([]) 10 (h:=dm_ 0 (h:=dk_ 1 (h:=df_ 2 (h:=dm_ 4 (h:=?_)))))
    refine c2_ 3 5 rfl rfl ?_ ?_
    ·refine st_loadB1 rfl rfl (QB_get hPl rfl) ?_
     refine o_ (h:=?_)
     refine c_ 5 rfl (s_gen 0 (hc := Grange l _ (-1) (1) (by omega) (by omega) (by omega) (by omega)) (hR := ?_))
     rintro r a3 ha3 ⟨zi, rfl, zil, zih⟩
     refine ⟨rfl, _, (by repeat constructor), ?_⟩
     refine o_ (h:=dad_ 6 (h:=dk_ 7 (h:=df_ 8 (h:=?_))))
     refine c0_ 9 rfl (s_store rfl rfl rfl rfl rfl rfl (QB_set (k := 0) (n' := { nP with ino := IntKind.i64.wrap (nP.ino + zi) }) hPl (by repeat constructor) (List.cons_ne_nil _ _)) (by repeat constructor) ?_)
     refine o_ (h:=z_ (h:=x_blockN (?_)))
     refine x_then ?_
     first
     | exact spl_doneG (ns := d.nodes ++ [splN d.next]) rfl rfl (hQ.bY _ _ _ _ _ _) (by omega) rfl (by omega) rfl hql hcap (by rw [List.length_append]; omega) (by first | simpa using hgr | simpa using hcp) (by simp) hg9 (by omega) rfl (by repeat (first | exact SubF.nil | refine SubF.cons _ _ _ _ rfl (LeA.refl _) ?_))
     | exact spl_doneG (f := f ++ [splD]) rfl (by simp) (hQ.bY _ _ _ _ _ _) (by omega) rfl (by omega) rfl (by rw [List.length_append]; omega) (by first | simpa using hgr | simpa using hcp) hPl hcap1 rfl hg10 (by omega) rfl (by repeat (first | exact SubF.nil | refine SubF.cons _ _ _ _ rfl (LeA.refl _) ?_))
     | exact spl_done (.box rfl (by simpa using hgr) (by simp)) hs hq hcap hPl hcap1 rfl (hnS0.pushE (e' := (nm, ze)) (by show nm.size ≤ 300; omega)) (by omega) rfl (by repeat (first | exact SubF.nil | refine SubF.cons _ _ _ _ rfl (LeA.refl _) ?_))
     | exact spl_done (.box6 rfl (by simpa using hcp) (by simp)) hs hq hcap hPl hcap1 rfl (hnS0.pushE (e' := (nm, ze)) (by show nm.size ≤ 300; omega)) (by omega) rfl (by repeat (first | exact SubF.nil | refine SubF.cons _ _ _ _ rfl (LeA.refl _) ?_))
     | exact spl_done (es := [(nm, ze)]) (.box rfl hcp rfl) hs hq hcap hPl hcap1 rfl ⟨by show 1 ≤ _; omega, fun e he => by rw [List.mem_singleton.1 he]; show nm.size ≤ 300; omega, hnS.tg⟩ (by omega) rfl (by repeat (first | exact SubF.nil | refine SubF.cons _ _ _ _ rfl (LeA.refl _) ?_))
     | exact spl_done (.box rfl (by rw [List.length_set]; exact hE2) (by rw [List.length_set])) hs hq hcap hPl hcap1 rfl (hnS.setE kn (hnS.nm e8 (List.mem_of_getElem? he8))) (by omega) rfl (by repeat (first | exact SubF.nil | refine SubF.cons _ _ _ _ rfl (LeA.refl _) ?_))
     | exact spl_done (.box rfl (by rw [List.length_set]; exact hE2) (by rw [List.length_set])) hs hq hcap hPl hcap1 rfl (hnS.setE 0 (by show nm.size ≤ 300; omega)) (by omega) rfl (by repeat (first | exact SubF.nil | refine SubF.cons _ _ _ _ rfl (LeA.refl _) ?_))
     | exact spl_done (es := nP.entries.drop 1) (.inr (.inl ⟨5, 1, cap2, cap2 - 1, nP.entries, by omega, rfl, hE2, by omega, rfl, rfl⟩)) hs hq hcap hPl hcap1 rfl ⟨by have := hnS.ents; rw [List.length_drop]; omega, fun e he => hnS.nm e (List.mem_of_mem_drop he), hnS.tg⟩ (by omega) rfl (by repeat (first | exact SubF.nil | refine SubF.cons _ _ _ _ rfl (LeA.refl _) ?_))
     | exact spl_done (es := []) (.inr (.inr rfl)) hs hq hcap hPl hcap1 rfl ⟨Nat.zero_le _, fun e he => (by cases he), hnS.tg⟩ (by omega) rfl (by repeat (first | exact SubF.nil | refine SubF.cons _ _ _ _ rfl (LeA.refl _) ?_))
     | exact spl_done (hQ.b _ _ _ _ _) hs hq hcap hPl hcap1 rfl ⟨hnS.ents, hnS.nm, hnS.tg⟩ (by omega) rfl (by repeat (first | exact SubF.nil | refine SubF.cons _ _ _ _ rfl (LeA.refl _) ?_))
    refine s_gen 0 (hc := Grange l _ (-1) (1) (by omega) (by omega) (by omega) (by omega)) (hR := ?_)
    rintro r a4 ha4 ⟨zi, rfl, zil, zih⟩
    refine ⟨rfl, _, (by repeat constructor), ?_⟩
    refine o_ (h:=?_)
    refine c_ 3 rfl (st_loadB1 rfl rfl (QB_get hPl rfl) ?_)
    refine o_ (h:=dad_ 6 (h:=dk_ 7 (h:=df_ 8 (h:=?_))))
    refine c0_ 9 rfl (s_store rfl rfl rfl rfl rfl rfl (QB_set (k := 0) (n' := { nP with ino := IntKind.i64.wrap (nP.ino + zi) }) hPl (by repeat constructor) (List.cons_ne_nil _ _)) (by repeat constructor) ?_)
    refine o_ (h:=z_ (h:=x_blockN (?_)))
    refine x_then ?_
    first
    | exact spl_doneG (ns := d.nodes ++ [splN d.next]) rfl rfl (hQ.bY _ _ _ _ _ _) (by omega) rfl (by omega) rfl hql hcap (by rw [List.length_append]; omega) (by first | simpa using hgr | simpa using hcp) (by simp) hg9 (by omega) rfl (by repeat (first | exact SubF.nil | refine SubF.cons _ _ _ _ rfl (LeA.refl _) ?_))
    | exact spl_doneG (f := f ++ [splD]) rfl (by simp) (hQ.bY _ _ _ _ _ _) (by omega) rfl (by omega) rfl (by rw [List.length_append]; omega) (by first | simpa using hgr | simpa using hcp) hPl hcap1 rfl hg10 (by omega) rfl (by repeat (first | exact SubF.nil | refine SubF.cons _ _ _ _ rfl (LeA.refl _) ?_))
    | exact spl_done (.box rfl (by simpa using hgr) (by simp)) hs hq hcap hPl hcap1 rfl (hnS0.pushE (e' := (nm, ze)) (by show nm.size ≤ 300; omega)) (by omega) rfl (by repeat (first | exact SubF.nil | refine SubF.cons _ _ _ _ rfl (LeA.refl _) ?_))
    | exact spl_done (.box6 rfl (by simpa using hcp) (by simp)) hs hq hcap hPl hcap1 rfl (hnS0.pushE (e' := (nm, ze)) (by show nm.size ≤ 300; omega)) (by omega) rfl (by repeat (first | exact SubF.nil | refine SubF.cons _ _ _ _ rfl (LeA.refl _) ?_))
    | exact spl_done (es := [(nm, ze)]) (.box rfl hcp rfl) hs hq hcap hPl hcap1 rfl ⟨by show 1 ≤ _; omega, fun e he => by rw [List.mem_singleton.1 he]; show nm.size ≤ 300; omega, hnS.tg⟩ (by omega) rfl (by repeat (first | exact SubF.nil | refine SubF.cons _ _ _ _ rfl (LeA.refl _) ?_))
    | exact spl_done (.box rfl (by rw [List.length_set]; exact hE2) (by rw [List.length_set])) hs hq hcap hPl hcap1 rfl (hnS.setE kn (hnS.nm e8 (List.mem_of_getElem? he8))) (by omega) rfl (by repeat (first | exact SubF.nil | refine SubF.cons _ _ _ _ rfl (LeA.refl _) ?_))
    | exact spl_done (.box rfl (by rw [List.length_set]; exact hE2) (by rw [List.length_set])) hs hq hcap hPl hcap1 rfl (hnS.setE 0 (by show nm.size ≤ 300; omega)) (by omega) rfl (by repeat (first | exact SubF.nil | refine SubF.cons _ _ _ _ rfl (LeA.refl _) ?_))
    | exact spl_done (es := nP.entries.drop 1) (.inr (.inl ⟨5, 1, cap2, cap2 - 1, nP.entries, by omega, rfl, hE2, by omega, rfl, rfl⟩)) hs hq hcap hPl hcap1 rfl ⟨by have := hnS.ents; rw [List.length_drop]; omega, fun e he => hnS.nm e (List.mem_of_mem_drop he), hnS.tg⟩ (by omega) rfl (by repeat (first | exact SubF.nil | refine SubF.cons _ _ _ _ rfl (LeA.refl _) ?_))
    | exact spl_done (es := []) (.inr (.inr rfl)) hs hq hcap hPl hcap1 rfl ⟨Nat.zero_le _, fun e he => (by cases he), hnS.tg⟩ (by omega) rfl (by repeat (first | exact SubF.nil | refine SubF.cons _ _ _ _ rfl (LeA.refl _) ?_))
    | exact spl_done (hQ.b _ _ _ _ _) hs hq hcap hPl hcap1 rfl ⟨hnS.ents, hnS.nm, hnS.tg⟩ (by omega) rfl (by repeat (first | exact SubF.nil | refine SubF.cons _ _ _ _ rfl (LeA.refl _) ?_))
   have hc3 := bp hb3
   refine w_ (eq_ (h:=a_ (h:=e_ (?_))))
   refine aw_cond rfl (fun hb4 => ?_) (fun hb4 => ?_)
   ·have hc4 := bp hb4
    refine aw_region (m_ (h:=m_ (h:=?_)))
    refine al_p rfl (s_gen 0 (hc := Grange l _ (0) (4) (by omega) (by omega) (by omega) (by omega)) (hR := ?_))
    rintro r a5 ha5 ⟨zk, rfl, zkl, zkh⟩
    refine ⟨rfl, _, (by repeat constructor), ?_⟩
    refine k_ (h:=f_ (h:=?_))
    refine al_p0 (s_store rfl rfl rfl rfl rfl rfl (QB_set (k := 1) (n' := { nP with kind := zk }) hPl (by repeat constructor) (List.cons_ne_nil _ _)) (by repeat constructor) ?_)
    refine al_nil (x_blockN (?_))
    refine x_then ?_
    first
    | exact spl_doneG (ns := d.nodes ++ [splN d.next]) rfl rfl (hQ.bY _ _ _ _ _ _) (by omega) rfl (by omega) rfl hql hcap (by rw [List.length_append]; omega) (by first | simpa using hgr | simpa using hcp) (by simp) hg9 (by omega) rfl (by repeat (first | exact SubF.nil | refine SubF.cons _ _ _ _ rfl (LeA.refl _) ?_))
    | exact spl_doneG (f := f ++ [splD]) rfl (by simp) (hQ.bY _ _ _ _ _ _) (by omega) rfl (by omega) rfl (by rw [List.length_append]; omega) (by first | simpa using hgr | simpa using hcp) hPl hcap1 rfl hg10 (by omega) rfl (by repeat (first | exact SubF.nil | refine SubF.cons _ _ _ _ rfl (LeA.refl _) ?_))
    | exact spl_done (.box rfl (by simpa using hgr) (by simp)) hs hq hcap hPl hcap1 rfl (hnS0.pushE (e' := (nm, ze)) (by show nm.size ≤ 300; omega)) (by omega) rfl (by repeat (first | exact SubF.nil | refine SubF.cons _ _ _ _ rfl (LeA.refl _) ?_))
    | exact spl_done (.box6 rfl (by simpa using hcp) (by simp)) hs hq hcap hPl hcap1 rfl (hnS0.pushE (e' := (nm, ze)) (by show nm.size ≤ 300; omega)) (by omega) rfl (by repeat (first | exact SubF.nil | refine SubF.cons _ _ _ _ rfl (LeA.refl _) ?_))
    | exact spl_done (es := [(nm, ze)]) (.box rfl hcp rfl) hs hq hcap hPl hcap1 rfl ⟨by show 1 ≤ _; omega, fun e he => by rw [List.mem_singleton.1 he]; show nm.size ≤ 300; omega, hnS.tg⟩ (by omega) rfl (by repeat (first | exact SubF.nil | refine SubF.cons _ _ _ _ rfl (LeA.refl _) ?_))
    | exact spl_done (.box rfl (by rw [List.length_set]; exact hE2) (by rw [List.length_set])) hs hq hcap hPl hcap1 rfl (hnS.setE kn (hnS.nm e8 (List.mem_of_getElem? he8))) (by omega) rfl (by repeat (first | exact SubF.nil | refine SubF.cons _ _ _ _ rfl (LeA.refl _) ?_))
    | exact spl_done (.box rfl (by rw [List.length_set]; exact hE2) (by rw [List.length_set])) hs hq hcap hPl hcap1 rfl (hnS.setE 0 (by show nm.size ≤ 300; omega)) (by omega) rfl (by repeat (first | exact SubF.nil | refine SubF.cons _ _ _ _ rfl (LeA.refl _) ?_))
    | exact spl_done (es := nP.entries.drop 1) (.inr (.inl ⟨5, 1, cap2, cap2 - 1, nP.entries, by omega, rfl, hE2, by omega, rfl, rfl⟩)) hs hq hcap hPl hcap1 rfl ⟨by have := hnS.ents; rw [List.length_drop]; omega, fun e he => hnS.nm e (List.mem_of_mem_drop he), hnS.tg⟩ (by omega) rfl (by repeat (first | exact SubF.nil | refine SubF.cons _ _ _ _ rfl (LeA.refl _) ?_))
    | exact spl_done (es := []) (.inr (.inr rfl)) hs hq hcap hPl hcap1 rfl ⟨Nat.zero_le _, fun e he => (by cases he), hnS.tg⟩ (by omega) rfl (by repeat (first | exact SubF.nil | refine SubF.cons _ _ _ _ rfl (LeA.refl _) ?_))
    | exact spl_done (hQ.b _ _ _ _ _) hs hq hcap hPl hcap1 rfl ⟨hnS.ents, hnS.nm, hnS.tg⟩ (by omega) rfl (by repeat (first | exact SubF.nil | refine SubF.cons _ _ _ _ rfl (LeA.refl _) ?_))
   have hc4 := bp hb4
   refine w_ (eq_ (h:=a_ (h:=e_ (?_))))
   refine aw_cond rfl (fun hb5 => ?_) (fun hb5 => ?_)
   ·have hc5 := bp hb5
    refine aw_region (m_ (h:=m_ (h:=m_ (h:=m_ (h:=bs_ (h:=?_))))))
    refine al_p rfl (s_gen 0 (hc := Gpick l _ _ (fun _ => true) (by omega) (by rfl) (by rfl) (by rfl)) (hR := ?_))
    rintro r a6 ha6 ⟨zm, rfl, -⟩
    refine ⟨rfl, _, (by repeat constructor), ?_⟩
    refine m_ (h:=bs_ (h:=?_))
    refine al_p rfl (s_gen 0 (hc := Gpick l _ _ (fun _ => true) (by omega) (by rfl) (by rfl) (by rfl)) (hR := ?_))
    rintro r a7 ha7 ⟨zu, rfl, -⟩
    refine ⟨rfl, _, (by repeat constructor), ?_⟩
    refine m_ (h:=bs_ (h:=?_))
    refine al_p rfl (s_gen 0 (hc := Gpick l _ _ (fun _ => true) (by omega) (by rfl) (by rfl) (by rfl)) (hR := ?_))
    rintro r a8 ha8 ⟨zg, rfl, -⟩
    refine ⟨rfl, _, (by repeat constructor), ?_⟩
    refine k_ (h:=f_ (h:=?_))
    refine al_p0 (s_store rfl rfl rfl rfl rfl rfl (QB_set (k := 2) (n' := { nP with mode := zm }) hPl (by repeat constructor) (List.cons_ne_nil _ _)) (by repeat constructor) ?_)
    refine k_ (h:=f_ (h:=?_))
    refine al_p0 (s_store rfl rfl rfl rfl rfl rfl (QB_set (k := 3) (n' := { nP with mode := zm, uid := zu }) hPl (by repeat constructor) (List.cons_ne_nil _ _)) (by repeat constructor) ?_)
    refine k_ (h:=f_ (h:=?_))
    refine al_p0 (s_store rfl rfl rfl rfl rfl rfl (QB_set (k := 4) (n' := { nP with mode := zm, uid := zu, gid := zg }) hPl (by repeat constructor) (List.cons_ne_nil _ _)) (by repeat constructor) ?_)
    refine al_nil (x_blockN (?_))
    refine x_then ?_
    first
    | exact spl_doneG (ns := d.nodes ++ [splN d.next]) rfl rfl (hQ.bY _ _ _ _ _ _) (by omega) rfl (by omega) rfl hql hcap (by rw [List.length_append]; omega) (by first | simpa using hgr | simpa using hcp) (by simp) hg9 (by omega) rfl (by repeat (first | exact SubF.nil | refine SubF.cons _ _ _ _ rfl (LeA.refl _) ?_))
    | exact spl_doneG (f := f ++ [splD]) rfl (by simp) (hQ.bY _ _ _ _ _ _) (by omega) rfl (by omega) rfl (by rw [List.length_append]; omega) (by first | simpa using hgr | simpa using hcp) hPl hcap1 rfl hg10 (by omega) rfl (by repeat (first | exact SubF.nil | refine SubF.cons _ _ _ _ rfl (LeA.refl _) ?_))
    | exact spl_done (.box rfl (by simpa using hgr) (by simp)) hs hq hcap hPl hcap1 rfl (hnS0.pushE (e' := (nm, ze)) (by show nm.size ≤ 300; omega)) (by omega) rfl (by repeat (first | exact SubF.nil | refine SubF.cons _ _ _ _ rfl (LeA.refl _) ?_))
    | exact spl_done (.box6 rfl (by simpa using hcp) (by simp)) hs hq hcap hPl hcap1 rfl (hnS0.pushE (e' := (nm, ze)) (by show nm.size ≤ 300; omega)) (by omega) rfl (by repeat (first | exact SubF.nil | refine SubF.cons _ _ _ _ rfl (LeA.refl _) ?_))
    | exact spl_done (es := [(nm, ze)]) (.box rfl hcp rfl) hs hq hcap hPl hcap1 rfl ⟨by show 1 ≤ _; omega, fun e he => by rw [List.mem_singleton.1 he]; show nm.size ≤ 300; omega, hnS.tg⟩ (by omega) rfl (by repeat (first | exact SubF.nil | refine SubF.cons _ _ _ _ rfl (LeA.refl _) ?_))
    | exact spl_done (.box rfl (by rw [List.length_set]; exact hE2) (by rw [List.length_set])) hs hq hcap hPl hcap1 rfl (hnS.setE kn (hnS.nm e8 (List.mem_of_getElem? he8))) (by omega) rfl (by repeat (first | exact SubF.nil | refine SubF.cons _ _ _ _ rfl (LeA.refl _) ?_))
    | exact spl_done (.box rfl (by rw [List.length_set]; exact hE2) (by rw [List.length_set])) hs hq hcap hPl hcap1 rfl (hnS.setE 0 (by show nm.size ≤ 300; omega)) (by omega) rfl (by repeat (first | exact SubF.nil | refine SubF.cons _ _ _ _ rfl (LeA.refl _) ?_))
    | exact spl_done (es := nP.entries.drop 1) (.inr (.inl ⟨5, 1, cap2, cap2 - 1, nP.entries, by omega, rfl, hE2, by omega, rfl, rfl⟩)) hs hq hcap hPl hcap1 rfl ⟨by have := hnS.ents; rw [List.length_drop]; omega, fun e he => hnS.nm e (List.mem_of_mem_drop he), hnS.tg⟩ (by omega) rfl (by repeat (first | exact SubF.nil | refine SubF.cons _ _ _ _ rfl (LeA.refl _) ?_))
    | exact spl_done (es := []) (.inr (.inr rfl)) hs hq hcap hPl hcap1 rfl ⟨Nat.zero_le _, fun e he => (by cases he), hnS.tg⟩ (by omega) rfl (by repeat (first | exact SubF.nil | refine SubF.cons _ _ _ _ rfl (LeA.refl _) ?_))
    | exact spl_done (hQ.b _ _ _ _ _) hs hq hcap hPl hcap1 rfl ⟨hnS.ents, hnS.nm, hnS.tg⟩ (by omega) rfl (by repeat (first | exact SubF.nil | refine SubF.cons _ _ _ _ rfl (LeA.refl _) ?_))
   have hc5 := bp hb5
   refine w_ (eq_ (h:=a_ (h:=e_ (?_))))
   refine aw_cond rfl (fun hb6 => ?_) (fun hb6 => ?_)
   ·have hc6 := bp hb6
    refine aw_region (m_ (h:=m_ (h:=?_)))
    refine al_p rfl (s_gen 0 (hc := Grange l _ (0) (4) (by omega) (by omega) (by omega) (by omega)) (hR := ?_))
    rintro r a9 ha9 ⟨zp, rfl, zpl, zph⟩
    refine ⟨rfl, _, (by repeat constructor), ?_⟩
    refine k_ (h:=f_ (h:=?_))
    refine al_p0 (s_store rfl rfl rfl rfl rfl rfl (QB_set (k := 5) (n' := { nP with parent := zp }) hPl (by repeat constructor) (List.cons_ne_nil _ _)) (by repeat constructor) ?_)
    refine al_nil (x_blockN (?_))
    refine x_then ?_
    first
    | exact spl_doneG (ns := d.nodes ++ [splN d.next]) rfl rfl (hQ.bY _ _ _ _ _ _) (by omega) rfl (by omega) rfl hql hcap (by rw [List.length_append]; omega) (by first | simpa using hgr | simpa using hcp) (by simp) hg9 (by omega) rfl (by repeat (first | exact SubF.nil | refine SubF.cons _ _ _ _ rfl (LeA.refl _) ?_))
    | exact spl_doneG (f := f ++ [splD]) rfl (by simp) (hQ.bY _ _ _ _ _ _) (by omega) rfl (by omega) rfl (by rw [List.length_append]; omega) (by first | simpa using hgr | simpa using hcp) hPl hcap1 rfl hg10 (by omega) rfl (by repeat (first | exact SubF.nil | refine SubF.cons _ _ _ _ rfl (LeA.refl _) ?_))
    | exact spl_done (.box rfl (by simpa using hgr) (by simp)) hs hq hcap hPl hcap1 rfl (hnS0.pushE (e' := (nm, ze)) (by show nm.size ≤ 300; omega)) (by omega) rfl (by repeat (first | exact SubF.nil | refine SubF.cons _ _ _ _ rfl (LeA.refl _) ?_))
    | exact spl_done (.box6 rfl (by simpa using hcp) (by simp)) hs hq hcap hPl hcap1 rfl (hnS0.pushE (e' := (nm, ze)) (by show nm.size ≤ 300; omega)) (by omega) rfl (by repeat (first | exact SubF.nil | refine SubF.cons _ _ _ _ rfl (LeA.refl _) ?_))
    | exact spl_done (es := [(nm, ze)]) (.box rfl hcp rfl) hs hq hcap hPl hcap1 rfl ⟨by show 1 ≤ _; omega, fun e he => by rw [List.mem_singleton.1 he]; show nm.size ≤ 300; omega, hnS.tg⟩ (by omega) rfl (by repeat (first | exact SubF.nil | refine SubF.cons _ _ _ _ rfl (LeA.refl _) ?_))
    | exact spl_done (.box rfl (by rw [List.length_set]; exact hE2) (by rw [List.length_set])) hs hq hcap hPl hcap1 rfl (hnS.setE kn (hnS.nm e8 (List.mem_of_getElem? he8))) (by omega) rfl (by repeat (first | exact SubF.nil | refine SubF.cons _ _ _ _ rfl (LeA.refl _) ?_))
    | exact spl_done (.box rfl (by rw [List.length_set]; exact hE2) (by rw [List.length_set])) hs hq hcap hPl hcap1 rfl (hnS.setE 0 (by show nm.size ≤ 300; omega)) (by omega) rfl (by repeat (first | exact SubF.nil | refine SubF.cons _ _ _ _ rfl (LeA.refl _) ?_))
    | exact spl_done (es := nP.entries.drop 1) (.inr (.inl ⟨5, 1, cap2, cap2 - 1, nP.entries, by omega, rfl, hE2, by omega, rfl, rfl⟩)) hs hq hcap hPl hcap1 rfl ⟨by have := hnS.ents; rw [List.length_drop]; omega, fun e he => hnS.nm e (List.mem_of_mem_drop he), hnS.tg⟩ (by omega) rfl (by repeat (first | exact SubF.nil | refine SubF.cons _ _ _ _ rfl (LeA.refl _) ?_))
    | exact spl_done (es := []) (.inr (.inr rfl)) hs hq hcap hPl hcap1 rfl ⟨Nat.zero_le _, fun e he => (by cases he), hnS.tg⟩ (by omega) rfl (by repeat (first | exact SubF.nil | refine SubF.cons _ _ _ _ rfl (LeA.refl _) ?_))
    | exact spl_done (hQ.b _ _ _ _ _) hs hq hcap hPl hcap1 rfl ⟨hnS.ents, hnS.nm, hnS.tg⟩ (by omega) rfl (by repeat (first | exact SubF.nil | refine SubF.cons _ _ _ _ rfl (LeA.refl _) ?_))
   have hc6 := bp hb6
   refine w_ (eq_ (h:=a_ (h:=e_ (?_))))
   refine aw_cond rfl (fun hb7 => ?_) (fun hb7 => ?_)
   ·have hc7 := bp hb7
    refine aw_region (m_ (h:=m_ (h:=?_)))
    refine al_p rfl (s_gen 0 (hc := Gpath l _ (by omega)) (hR := ?_))
    rintro r a10 ha10 ⟨tg, rfl, htg⟩
    refine ⟨rfl, _, (by repeat constructor), ?_⟩
    refine k_ (h:=f_ (h:=?_))
    refine al_p0 (s_store rfl rfl rfl rfl rfl rfl (QB_set (k := 6) (n' := { nP with target := tg }) hPl (by repeat constructor) (List.cons_ne_nil _ _)) (by repeat constructor) ?_)
    refine al_nil (x_blockN (?_))
    refine x_then ?_
    first
    | exact spl_doneG (ns := d.nodes ++ [splN d.next]) rfl rfl (hQ.bY _ _ _ _ _ _) (by omega) rfl (by omega) rfl hql hcap (by rw [List.length_append]; omega) (by first | simpa using hgr | simpa using hcp) (by simp) hg9 (by omega) rfl (by repeat (first | exact SubF.nil | refine SubF.cons _ _ _ _ rfl (LeA.refl _) ?_))
    | exact spl_doneG (f := f ++ [splD]) rfl (by simp) (hQ.bY _ _ _ _ _ _) (by omega) rfl (by omega) rfl (by rw [List.length_append]; omega) (by first | simpa using hgr | simpa using hcp) hPl hcap1 rfl hg10 (by omega) rfl (by repeat (first | exact SubF.nil | refine SubF.cons _ _ _ _ rfl (LeA.refl _) ?_))
    | exact spl_done (.box rfl (by simpa using hgr) (by simp)) hs hq hcap hPl hcap1 rfl (hnS0.pushE (e' := (nm, ze)) (by show nm.size ≤ 300; omega)) (by omega) rfl (by repeat (first | exact SubF.nil | refine SubF.cons _ _ _ _ rfl (LeA.refl _) ?_))
    | exact spl_done (.box6 rfl (by simpa using hcp) (by simp)) hs hq hcap hPl hcap1 rfl (hnS0.pushE (e' := (nm, ze)) (by show nm.size ≤ 300; omega)) (by omega) rfl (by repeat (first | exact SubF.nil | refine SubF.cons _ _ _ _ rfl (LeA.refl _) ?_))
    | exact spl_done (es := [(nm, ze)]) (.box rfl hcp rfl) hs hq hcap hPl hcap1 rfl ⟨by show 1 ≤ _; omega, fun e he => by rw [List.mem_singleton.1 he]; show nm.size ≤ 300; omega, hnS.tg⟩ (by omega) rfl (by repeat (first | exact SubF.nil | refine SubF.cons _ _ _ _ rfl (LeA.refl _) ?_))
    | exact spl_done (.box rfl (by rw [List.length_set]; exact hE2) (by rw [List.length_set])) hs hq hcap hPl hcap1 rfl (hnS.setE kn (hnS.nm e8 (List.mem_of_getElem? he8))) (by omega) rfl (by repeat (first | exact SubF.nil | refine SubF.cons _ _ _ _ rfl (LeA.refl _) ?_))
    | exact spl_done (.box rfl (by rw [List.length_set]; exact hE2) (by rw [List.length_set])) hs hq hcap hPl hcap1 rfl (hnS.setE 0 (by show nm.size ≤ 300; omega)) (by omega) rfl (by repeat (first | exact SubF.nil | refine SubF.cons _ _ _ _ rfl (LeA.refl _) ?_))
    | exact spl_done (es := nP.entries.drop 1) (.inr (.inl ⟨5, 1, cap2, cap2 - 1, nP.entries, by omega, rfl, hE2, by omega, rfl, rfl⟩)) hs hq hcap hPl hcap1 rfl ⟨by have := hnS.ents; rw [List.length_drop]; omega, fun e he => hnS.nm e (List.mem_of_mem_drop he), hnS.tg⟩ (by omega) rfl (by repeat (first | exact SubF.nil | refine SubF.cons _ _ _ _ rfl (LeA.refl _) ?_))
    | exact spl_done (es := []) (.inr (.inr rfl)) hs hq hcap hPl hcap1 rfl ⟨Nat.zero_le _, fun e he => (by cases he), hnS.tg⟩ (by omega) rfl (by repeat (first | exact SubF.nil | refine SubF.cons _ _ _ _ rfl (LeA.refl _) ?_))
    | exact spl_done (hQ.b _ _ _ _ _) hs hq hcap hPl hcap1 rfl ⟨hnS.ents, hnS.nm, hnS.tg⟩ (by omega) rfl (by repeat (first | exact SubF.nil | refine SubF.cons _ _ _ _ rfl (LeA.refl _) ?_))
    | exact spl_done (hQ.b _ _ _ _ _) hs hq hcap hPl hcap1 rfl ⟨hnS.ents, hnS.nm, by show tg.size ≤ 300; omega⟩ (by omega) rfl (by repeat (first | exact SubF.nil | refine SubF.cons _ _ _ _ rfl (LeA.refl _) ?_))
   have hc7 := bp hb7
   refine w_ (eq_ (h:=a_ (h:=e_ (?_))))
   refine aw_cond rfl (fun hb8 => ?_) (fun hb8 => ?_)
   ·have hc8 := bp hb8
    refine yk_ ([]) 15 (h:=dm_ 0 (h:=dm_ 1 (h:=dk_ 2 (h:=df_ 3 (h:=dm_ 5 (h:=dm_ 7 (h:=?_)))))))
    refine c2_ 4 6 rfl rfl ?_ ?_
    ·refine st_loadB1 rfl rfl (QB_get (k := 7) hPl rfl) ?_
     refine o_ (h:=?_)
     refine c_ 6 rfl (s_gen 0 (hc := Gname l _ (by omega)) (hR := ?_))
     rintro r a11 ha11 ⟨nm, rfl, hnm⟩
     refine ⟨rfl, _, (by repeat constructor), ?_⟩
     refine o_ (h:=?_)
     refine c_ 8 rfl (s_gen 0 (hc := Grange l _ (0) (6) (by omega) (by omega) (by omega) (by omega)) (hR := ?_))
     rintro r a12 ha12 ⟨ze, rfl, zel, zeh⟩
     refine ⟨rfl, _, (by repeat constructor), ?_⟩
     refine o_ (h:=dbd_ 9 (h:=dbs_ 10 (h:=?_)))
     refine c_ 11 rfl (st_append0B rfl rfl src1 (by omega) (by omega) ?_)
     skip
     rintro capn k bx2 hcp hsn
     rw [show cellsA (.agg [.v (.string nm), .v (.int .i64 ze)]) ++ List.replicate ((capn - 1) * 2) AV.any = EB [(nm, ze)] capn by unfold EB rowsB; simp [cellsA, entA]] at hsn
     obtain ⟨rfl, rfl⟩ : k = 5 ∧ bx2 = [_, _, _, _, _, _] := hsn.eq
     refine o_ (h:=?_)
     refine dk_ 12 (h:=df_ 13 (h:=?_))
     refine c0_ 14 rfl (s_store rfl rfl rfl rfl rfl rfl (QB_set (k := 7) (n' := nP) (e' := .bs 5 0 2 1 capn) hPl (by repeat constructor) (List.cons_ne_nil _ _)) (by repeat constructor) ?_)
     refine o_ (h:=z_ (h:=x_blockN (?_)))
     refine x_then ?_
     first
     | exact spl_doneG (ns := d.nodes ++ [splN d.next]) rfl rfl (hQ.bY _ _ _ _ _ _) (by omega) rfl (by omega) rfl hql hcap (by rw [List.length_append]; omega) (by first | simpa using hgr | simpa using hcp) (by simp) hg9 (by omega) rfl (by repeat (first | exact SubF.nil | refine SubF.cons _ _ _ _ rfl (LeA.refl _) ?_))
     | exact spl_doneG (f := f ++ [splD]) rfl (by simp) (hQ.bY _ _ _ _ _ _) (by omega) rfl (by omega) rfl (by rw [List.length_append]; omega) (by first | simpa using hgr | simpa using hcp) hPl hcap1 rfl hg10 (by omega) rfl (by repeat (first | exact SubF.nil | refine SubF.cons _ _ _ _ rfl (LeA.refl _) ?_))
     | exact spl_done (.box rfl (by simpa using hgr) (by simp)) hs hq hcap hPl hcap1 rfl (hnS0.pushE (e' := (nm, ze)) (by show nm.size ≤ 300; omega)) (by omega) rfl (by repeat (first | exact SubF.nil | refine SubF.cons _ _ _ _ rfl (LeA.refl _) ?_))
     | exact spl_done (.box6 rfl (by simpa using hcp) (by simp)) hs hq hcap hPl hcap1 rfl (hnS0.pushE (e' := (nm, ze)) (by show nm.size ≤ 300; omega)) (by omega) rfl (by repeat (first | exact SubF.nil | refine SubF.cons _ _ _ _ rfl (LeA.refl _) ?_))
     | exact spl_done (es := [(nm, ze)]) (.box rfl hcp rfl) hs hq hcap hPl hcap1 rfl ⟨by show 1 ≤ _; omega, fun e he => by rw [List.mem_singleton.1 he]; show nm.size ≤ 300; omega, hnS.tg⟩ (by omega) rfl (by repeat (first | exact SubF.nil | refine SubF.cons _ _ _ _ rfl (LeA.refl _) ?_))
    refine s_gen 0 (hc := Gname l _ (by omega)) (hR := ?_)
    rintro r a13 ha13 ⟨nm, rfl, hnm⟩
    refine ⟨rfl, _, (by repeat constructor), ?_⟩
    refine o_ (h:=?_)
    refine c2_ 4 8 rfl rfl ?_ ?_
    ·refine st_loadB1 rfl rfl (QB_get (k := 7) hPl rfl) ?_
     refine o_ (h:=?_)
     refine c_ 8 rfl (s_gen 0 (hc := Grange l _ (0) (6) (by omega) (by omega) (by omega) (by omega)) (hR := ?_))
     rintro r a14 ha14 ⟨ze, rfl, zel, zeh⟩
     refine ⟨rfl, _, (by repeat constructor), ?_⟩
     refine o_ (h:=dbd_ 9 (h:=dbs_ 10 (h:=?_)))
     refine c_ 11 rfl (st_append0B rfl rfl src1 (by omega) (by omega) ?_)
     skip
     rintro capn k bx2 hcp hsn
     rw [show cellsA (.agg [.v (.string nm), .v (.int .i64 ze)]) ++ List.replicate ((capn - 1) * 2) AV.any = EB [(nm, ze)] capn by unfold EB rowsB; simp [cellsA, entA]] at hsn
     obtain ⟨rfl, rfl⟩ : k = 5 ∧ bx2 = [_, _, _, _, _, _] := hsn.eq
     refine o_ (h:=?_)
     refine dk_ 12 (h:=df_ 13 (h:=?_))
     refine c0_ 14 rfl (s_store rfl rfl rfl rfl rfl rfl (QB_set (k := 7) (n' := nP) (e' := .bs 5 0 2 1 capn) hPl (by repeat constructor) (List.cons_ne_nil _ _)) (by repeat constructor) ?_)
     refine o_ (h:=z_ (h:=x_blockN (?_)))
     refine x_then ?_
     first
     | exact spl_doneG (ns := d.nodes ++ [splN d.next]) rfl rfl (hQ.bY _ _ _ _ _ _) (by omega) rfl (by omega) rfl hql hcap (by rw [List.length_append]; omega) (by first | simpa using hgr | simpa using hcp) (by simp) hg9 (by omega) rfl (by repeat (first | exact SubF.nil | refine SubF.cons _ _ _ _ rfl (LeA.refl _) ?_))
     | exact spl_doneG (f := f ++ [splD]) rfl (by simp) (hQ.bY _ _ _ _ _ _) (by omega) rfl (by omega) rfl (by rw [List.length_append]; omega) (by first | simpa using hgr | simpa using hcp) hPl hcap1 rfl hg10 (by omega) rfl (by repeat (first | exact SubF.nil | refine SubF.cons _ _ _ _ rfl (LeA.refl _) ?_))
     | exact spl_done (.box rfl (by simpa using hgr) (by simp)) hs hq hcap hPl hcap1 rfl (hnS0.pushE (e' := (nm, ze)) (by show nm.size ≤ 300; omega)) (by omega) rfl (by repeat (first | exact SubF.nil | refine SubF.cons _ _ _ _ rfl (LeA.refl _) ?_))
     | exact spl_done (.box6 rfl (by simpa using hcp) (by simp)) hs hq hcap hPl hcap1 rfl (hnS0.pushE (e' := (nm, ze)) (by show nm.size ≤ 300; omega)) (by omega) rfl (by repeat (first | exact SubF.nil | refine SubF.cons _ _ _ _ rfl (LeA.refl _) ?_))
     | exact spl_done (es := [(nm, ze)]) (.box rfl hcp rfl) hs hq hcap hPl hcap1 rfl ⟨by show 1 ≤ _; omega, fun e he => by rw [List.mem_singleton.1 he]; show nm.size ≤ 300; omega, hnS.tg⟩ (by omega) rfl (by repeat (first | exact SubF.nil | refine SubF.cons _ _ _ _ rfl (LeA.refl _) ?_))
    refine s_gen 0 (hc := Grange l _ (0) (6) (by omega) (by omega) (by omega) (by omega)) (hR := ?_)
    rintro r a15 ha15 ⟨ze, rfl, zel, zeh⟩
    refine ⟨rfl, _, (by repeat constructor), ?_⟩
    refine o_ (h:=?_)
    refine dbd_ 9 (h:=dbs_ 10 (h:=?_))
    refine c_ 4 rfl (st_loadB1 rfl rfl (QB_get (k := 7) hPl rfl) ?_)
    refine o_ (h:=?_)
    refine c_ 11 rfl (st_append0B rfl rfl src1 (by omega) (by omega) ?_)
    skip
    rintro capn k bx2 hcp hsn
    rw [show cellsA (.agg [.v (.string nm), .v (.int .i64 ze)]) ++ List.replicate ((capn - 1) * 2) AV.any = EB [(nm, ze)] capn by unfold EB rowsB; simp [cellsA, entA]] at hsn
    obtain ⟨rfl, rfl⟩ : k = 5 ∧ bx2 = [_, _, _, _, _, _] := hsn.eq
    refine o_ (h:=?_)
    refine dk_ 12 (h:=df_ 13 (h:=?_))
    refine c0_ 14 rfl (s_store rfl rfl rfl rfl rfl rfl (QB_set (k := 7) (n' := nP) (e' := .bs 5 0 2 1 capn) hPl (by repeat constructor) (List.cons_ne_nil _ _)) (by repeat constructor) ?_)
    refine o_ (h:=z_ (h:=x_blockN (?_)))
    refine x_then ?_
    first
    | exact spl_doneG (ns := d.nodes ++ [splN d.next]) rfl rfl (hQ.bY _ _ _ _ _ _) (by omega) rfl (by omega) rfl hql hcap (by rw [List.length_append]; omega) (by first | simpa using hgr | simpa using hcp) (by simp) hg9 (by omega) rfl (by repeat (first | exact SubF.nil | refine SubF.cons _ _ _ _ rfl (LeA.refl _) ?_))
    | exact spl_doneG (f := f ++ [splD]) rfl (by simp) (hQ.bY _ _ _ _ _ _) (by omega) rfl (by omega) rfl (by rw [List.length_append]; omega) (by first | simpa using hgr | simpa using hcp) hPl hcap1 rfl hg10 (by omega) rfl (by repeat (first | exact SubF.nil | refine SubF.cons _ _ _ _ rfl (LeA.refl _) ?_))
    | exact spl_done (.box rfl (by simpa using hgr) (by simp)) hs hq hcap hPl hcap1 rfl (hnS0.pushE (e' := (nm, ze)) (by show nm.size ≤ 300; omega)) (by omega) rfl (by repeat (first | exact SubF.nil | refine SubF.cons _ _ _ _ rfl (LeA.refl _) ?_))
    | exact spl_done (.box6 rfl (by simpa using hcp) (by simp)) hs hq hcap hPl hcap1 rfl (hnS0.pushE (e' := (nm, ze)) (by show nm.size ≤ 300; omega)) (by omega) rfl (by repeat (first | exact SubF.nil | refine SubF.cons _ _ _ _ rfl (LeA.refl _) ?_))
    | exact spl_done (es := [(nm, ze)]) (.box rfl hcp rfl) hs hq hcap hPl hcap1 rfl ⟨by show 1 ≤ _; omega, fun e he => by rw [List.mem_singleton.1 he]; show nm.size ≤ 300; omega, hnS.tg⟩ (by omega) rfl (by repeat (first | exact SubF.nil | refine SubF.cons _ _ _ _ rfl (LeA.refl _) ?_))
   have hc8 := bp hb8
   refine w_ (eq_ (h:=a_ (h:=e_ (?_))))
   refine aw_cond rfl (fun hb9 => ?_) (fun hb9 => ?_)
   ·have hc9 := bp hb9
    refine w_ (m_ (h:=k_ (h:=f_ (h:=?_))))
    refine al_p rfl (st_loadB1 rfl rfl (QB_get (k := 7) hPl rfl) ?_)
    refine al_p rfl (st_len0 rfl ?_)
    refine gt_ (h:=e_ (?_))
    refine aw_cond rfl (fun hb10 => ?_) (fun hb10 => ?_)
    ·have hc10 := bp hb10
     exfalso; simp at hb10
    have hc10 := bp hb10
    refine aw_skip (x_blockN (?_))
    refine x_then ?_
    first
    | exact spl_doneG (ns := d.nodes ++ [splN d.next]) rfl rfl (hQ.bY _ _ _ _ _ _) (by omega) rfl (by omega) rfl hql hcap (by rw [List.length_append]; omega) (by first | simpa using hgr | simpa using hcp) (by simp) hg9 (by omega) rfl (by repeat (first | exact SubF.nil | refine SubF.cons _ _ _ _ rfl (LeA.refl _) ?_))
    | exact spl_doneG (f := f ++ [splD]) rfl (by simp) (hQ.bY _ _ _ _ _ _) (by omega) rfl (by omega) rfl (by rw [List.length_append]; omega) (by first | simpa using hgr | simpa using hcp) hPl hcap1 rfl hg10 (by omega) rfl (by repeat (first | exact SubF.nil | refine SubF.cons _ _ _ _ rfl (LeA.refl _) ?_))
    | exact spl_done (.box rfl (by simpa using hgr) (by simp)) hs hq hcap hPl hcap1 rfl (hnS0.pushE (e' := (nm, ze)) (by show nm.size ≤ 300; omega)) (by omega) rfl (by repeat (first | exact SubF.nil | refine SubF.cons _ _ _ _ rfl (LeA.refl _) ?_))
    | exact spl_done (.box6 rfl (by simpa using hcp) (by simp)) hs hq hcap hPl hcap1 rfl (hnS0.pushE (e' := (nm, ze)) (by show nm.size ≤ 300; omega)) (by omega) rfl (by repeat (first | exact SubF.nil | refine SubF.cons _ _ _ _ rfl (LeA.refl _) ?_))
    | exact spl_done (es := [(nm, ze)]) (.box rfl hcp rfl) hs hq hcap hPl hcap1 rfl ⟨by show 1 ≤ _; omega, fun e he => by rw [List.mem_singleton.1 he]; show nm.size ≤ 300; omega, hnS.tg⟩ (by omega) rfl (by repeat (first | exact SubF.nil | refine SubF.cons _ _ _ _ rfl (LeA.refl _) ?_))
    | exact spl_done (.box rfl (by rw [List.length_set]; exact hE2) (by rw [List.length_set])) hs hq hcap hPl hcap1 rfl (hnS.setE kn (hnS.nm e8 (List.mem_of_getElem? he8))) (by omega) rfl (by repeat (first | exact SubF.nil | refine SubF.cons _ _ _ _ rfl (LeA.refl _) ?_))
    | exact spl_done (.box rfl (by rw [List.length_set]; exact hE2) (by rw [List.length_set])) hs hq hcap hPl hcap1 rfl (hnS.setE 0 (by show nm.size ≤ 300; omega)) (by omega) rfl (by repeat (first | exact SubF.nil | refine SubF.cons _ _ _ _ rfl (LeA.refl _) ?_))
    | exact spl_done (es := nP.entries.drop 1) (.inr (.inl ⟨5, 1, cap2, cap2 - 1, nP.entries, by omega, rfl, hE2, by omega, rfl, rfl⟩)) hs hq hcap hPl hcap1 rfl ⟨by have := hnS.ents; rw [List.length_drop]; omega, fun e he => hnS.nm e (List.mem_of_mem_drop he), hnS.tg⟩ (by omega) rfl (by repeat (first | exact SubF.nil | refine SubF.cons _ _ _ _ rfl (LeA.refl _) ?_))
    | exact spl_done (es := []) (.inr (.inr rfl)) hs hq hcap hPl hcap1 rfl ⟨Nat.zero_le _, fun e he => (by cases he), hnS.tg⟩ (by omega) rfl (by repeat (first | exact SubF.nil | refine SubF.cons _ _ _ _ rfl (LeA.refl _) ?_))
    | exact spl_done (hQ.b _ _ _ _ _) hs hq hcap hPl hcap1 rfl ⟨hnS.ents, hnS.nm, hnS.tg⟩ (by omega) rfl (by repeat (first | exact SubF.nil | refine SubF.cons _ _ _ _ rfl (LeA.refl _) ?_))
   have hc9 := bp hb9
   refine w_ (eq_ (h:=a_ (h:=e_ (?_))))
   refine aw_cond rfl (fun hb11 => ?_) (fun hb11 => ?_)
   ·have hc11 := bp hb11
    refine w_ (m_ (h:=k_ (h:=f_ (h:=?_))))
    refine al_p rfl (st_loadB1 rfl rfl (QB_get (k := 7) hPl rfl) ?_)
    refine al_p rfl (st_len0 rfl ?_)
    refine gt_ (h:=e_ (?_))
    refine aw_cond rfl (fun hb12 => ?_) (fun hb12 => ?_)
    ·have hc12 := bp hb12
     exfalso; simp at hb12
    have hc12 := bp hb12
    refine aw_skip (x_blockN (?_))
    refine x_then ?_
    first
    | exact spl_doneG (ns := d.nodes ++ [splN d.next]) rfl rfl (hQ.bY _ _ _ _ _ _) (by omega) rfl (by omega) rfl hql hcap (by rw [List.length_append]; omega) (by first | simpa using hgr | simpa using hcp) (by simp) hg9 (by omega) rfl (by repeat (first | exact SubF.nil | refine SubF.cons _ _ _ _ rfl (LeA.refl _) ?_))
    | exact spl_doneG (f := f ++ [splD]) rfl (by simp) (hQ.bY _ _ _ _ _ _) (by omega) rfl (by omega) rfl (by rw [List.length_append]; omega) (by first | simpa using hgr | simpa using hcp) hPl hcap1 rfl hg10 (by omega) rfl (by repeat (first | exact SubF.nil | refine SubF.cons _ _ _ _ rfl (LeA.refl _) ?_))
    | exact spl_done (.box rfl (by simpa using hgr) (by simp)) hs hq hcap hPl hcap1 rfl (hnS0.pushE (e' := (nm, ze)) (by show nm.size ≤ 300; omega)) (by omega) rfl (by repeat (first | exact SubF.nil | refine SubF.cons _ _ _ _ rfl (LeA.refl _) ?_))
    | exact spl_done (.box6 rfl (by simpa using hcp) (by simp)) hs hq hcap hPl hcap1 rfl (hnS0.pushE (e' := (nm, ze)) (by show nm.size ≤ 300; omega)) (by omega) rfl (by repeat (first | exact SubF.nil | refine SubF.cons _ _ _ _ rfl (LeA.refl _) ?_))
    | exact spl_done (es := [(nm, ze)]) (.box rfl hcp rfl) hs hq hcap hPl hcap1 rfl ⟨by show 1 ≤ _; omega, fun e he => by rw [List.mem_singleton.1 he]; show nm.size ≤ 300; omega, hnS.tg⟩ (by omega) rfl (by repeat (first | exact SubF.nil | refine SubF.cons _ _ _ _ rfl (LeA.refl _) ?_))
    | exact spl_done (.box rfl (by rw [List.length_set]; exact hE2) (by rw [List.length_set])) hs hq hcap hPl hcap1 rfl (hnS.setE kn (hnS.nm e8 (List.mem_of_getElem? he8))) (by omega) rfl (by repeat (first | exact SubF.nil | refine SubF.cons _ _ _ _ rfl (LeA.refl _) ?_))
    | exact spl_done (.box rfl (by rw [List.length_set]; exact hE2) (by rw [List.length_set])) hs hq hcap hPl hcap1 rfl (hnS.setE 0 (by show nm.size ≤ 300; omega)) (by omega) rfl (by repeat (first | exact SubF.nil | refine SubF.cons _ _ _ _ rfl (LeA.refl _) ?_))
    | exact spl_done (es := nP.entries.drop 1) (.inr (.inl ⟨5, 1, cap2, cap2 - 1, nP.entries, by omega, rfl, hE2, by omega, rfl, rfl⟩)) hs hq hcap hPl hcap1 rfl ⟨by have := hnS.ents; rw [List.length_drop]; omega, fun e he => hnS.nm e (List.mem_of_mem_drop he), hnS.tg⟩ (by omega) rfl (by repeat (first | exact SubF.nil | refine SubF.cons _ _ _ _ rfl (LeA.refl _) ?_))
    | exact spl_done (es := []) (.inr (.inr rfl)) hs hq hcap hPl hcap1 rfl ⟨Nat.zero_le _, fun e he => (by cases he), hnS.tg⟩ (by omega) rfl (by repeat (first | exact SubF.nil | refine SubF.cons _ _ _ _ rfl (LeA.refl _) ?_))
    | exact spl_done (hQ.b _ _ _ _ _) hs hq hcap hPl hcap1 rfl ⟨hnS.ents, hnS.nm, hnS.tg⟩ (by omega) rfl (by repeat (first | exact SubF.nil | refine SubF.cons _ _ _ _ rfl (LeA.refl _) ?_))
   have hc11 := bp hb11
   refine w_ (eq_ (h:=a_ (h:=e_ (?_))))
   refine aw_cond rfl (fun hb13 => ?_) (fun hb13 => ?_)
   ·have hc13 := bp hb13
    refine yk_ ([]) 16 (h:=dm_ 0 (h:=dm_ 1 (h:=dk_ 2 (h:=df_ 3 (h:=dm_ 5 (h:=dk_ 6 (h:=df_ 7 (h:=?_))))))))
    refine c2_ 4 8 rfl rfl ?_ ?_
    ·refine st_loadB1 rfl rfl (DB_nodes hql) ?_
     refine o_ (h:=?_)
     refine c_ 8 rfl (st_loadB1 rfl rfl (DB_next hql) ?_)
     refine o_ (h:=dsb_ 9 (h:=?_))
     refine tk_ 10 rfl (fun _ hS => st_le (y := .agg (nodA (splN d.next))) (st_build (by repeat (first | exact FillA.nil _ | (apply FillA.cons; (focus exact rfl); (focus exact rfl); (focus exact rfl); (focus exact rfl); (focus exact rfl); (focus (repeat constructor))))) ⟨rfl, rfl⟩) (splN_le _) ⟨rfl, rfl⟩) ?_
     refine dbs_ 11 (h:=?_)
     refine c_ 12 rfl (st_appendB rfl rfl rfl (by rw [QB_len hcap1]; omega) src1 (by omega) (by omega) ?_ ?_)
     skip
     ·rintro hgr row2 bx2 hsn hb2
      obtain rfl := QB_push (x := splN d.next) hPl hsn hgr
      obtain rfl : bx2 = [_, _, _, _, _] := hb2.one.2
      refine o_ (h:=?_)
      refine dk_ 13 (h:=df_ 14 (h:=?_))
      refine c0_ 15 rfl (s_store rfl rfl rfl rfl rfl rfl (DB_set (k := 1) (d' := ⟨d.next, splN d.next :: d.nodes⟩) (j' := 4) (cap1' := cap1) hql (by repeat constructor) (List.cons_ne_nil _ _)) (by repeat constructor) ?_)
      refine o_ (h:=z_ (h:=x_blockN (?_)))
      refine x_then ?_
      exact spl_doneG (ns := d.nodes ++ [splN d.next]) rfl rfl (hQ.bY _ _ _ _ _ _) (by omega) rfl (by omega) rfl hql hcap (by rw [List.length_append]; omega) (by first | simpa using hgr | simpa using hcp) (by simp) hg9 (by omega) rfl (by repeat (first | exact SubF.nil | refine SubF.cons _ _ _ _ rfl (LeA.refl _) ?_))
     rintro hgr capn k bx2 hcp hsn
     rw [show ((QB d.nodes P nP (.v (.slice none 0 0)) cap1).drop 0).take (d.nodes.length * 8) ++ cellsA (.agg (nodA (splN d.next))) ++ List.replicate ((capn - (d.nodes.length + 1)) * 8) AV.any = QB (d.nodes ++ [splN d.next]) P nP (.v (.slice none 0 0)) capn from QB_grow hPl nP (splN d.next) _ cap1 capn] at hsn
     obtain ⟨rfl, rfl⟩ : k = 5 ∧ bx2 = [_, _, _, _, _, _] := hsn.eq
     refine o_ (h:=?_)
     refine dk_ 13 (h:=df_ 14 (h:=?_))
     refine c0_ 15 rfl (s_store rfl rfl rfl rfl rfl rfl (DB_set (k := 1) (d' := ⟨d.next, splN d.next :: d.nodes⟩) (j' := 5) (cap1' := capn) hql (by repeat constructor) (List.cons_ne_nil _ _)) (by repeat constructor) ?_)
     refine o_ (h:=z_ (h:=x_blockN (?_)))
     refine x_then ?_
     exact spl_doneG (ns := d.nodes ++ [splN d.next]) rfl rfl (hQ.bY _ _ _ _ _ _) (by omega) rfl (by omega) rfl hql hcap (by rw [List.length_append]; omega) (by first | simpa using hgr | simpa using hcp) (by simp) hg9 (by omega) rfl (by repeat (first | exact SubF.nil | refine SubF.cons _ _ _ _ rfl (LeA.refl _) ?_))
    refine st_loadB1 rfl rfl (DB_next hql) ?_
    refine o_ (h:=?_)
    refine dsb_ 9 (h:=?_)
    refine tk_ 10 rfl (fun _ hS => st_le (y := .agg (nodA (splN d.next))) (st_build (by repeat (first | exact FillA.nil _ | (apply FillA.cons; (focus exact rfl); (focus exact rfl); (focus exact rfl); (focus exact rfl); (focus exact rfl); (focus (repeat constructor))))) ⟨rfl, rfl⟩) (splN_le _) ⟨rfl, rfl⟩) ?_
    refine dbs_ 11 (h:=?_)
    refine c_ 4 rfl (st_loadB1 rfl rfl (DB_nodes hql) ?_)
    refine o_ (h:=?_)
    refine c_ 12 rfl (st_appendB rfl rfl rfl (by rw [QB_len hcap1]; omega) src1 (by omega) (by omega) ?_ ?_)
    skip
    ·rintro hgr row2 bx2 hsn hb2
     obtain rfl := QB_push (x := splN d.next) hPl hsn hgr
     obtain rfl : bx2 = [_, _, _, _, _] := hb2.one.2
     refine o_ (h:=?_)
     refine dk_ 13 (h:=df_ 14 (h:=?_))
     refine c0_ 15 rfl (s_store rfl rfl rfl rfl rfl rfl (DB_set (k := 1) (d' := ⟨d.next, splN d.next :: d.nodes⟩) (j' := 4) (cap1' := cap1) hql (by repeat constructor) (List.cons_ne_nil _ _)) (by repeat constructor) ?_)
     refine o_ (h:=z_ (h:=x_blockN (?_)))
     refine x_then ?_
     exact spl_doneG (ns := d.nodes ++ [splN d.next]) rfl rfl (hQ.bY _ _ _ _ _ _) (by omega) rfl (by omega) rfl hql hcap (by rw [List.length_append]; omega) (by first | simpa using hgr | simpa using hcp) (by simp) hg9 (by omega) rfl (by repeat (first | exact SubF.nil | refine SubF.cons _ _ _ _ rfl (LeA.refl _) ?_))
    rintro hgr capn k bx2 hcp hsn
    rw [show ((QB d.nodes P nP (.v (.slice none 0 0)) cap1).drop 0).take (d.nodes.length * 8) ++ cellsA (.agg (nodA (splN d.next))) ++ List.replicate ((capn - (d.nodes.length + 1)) * 8) AV.any = QB (d.nodes ++ [splN d.next]) P nP (.v (.slice none 0 0)) capn from QB_grow hPl nP (splN d.next) _ cap1 capn] at hsn
    obtain ⟨rfl, rfl⟩ : k = 5 ∧ bx2 = [_, _, _, _, _, _] := hsn.eq
    refine o_ (h:=?_)
    refine dk_ 13 (h:=df_ 14 (h:=?_))
    refine c0_ 15 rfl (s_store rfl rfl rfl rfl rfl rfl (DB_set (k := 1) (d' := ⟨d.next, splN d.next :: d.nodes⟩) (j' := 5) (cap1' := capn) hql (by repeat constructor) (List.cons_ne_nil _ _)) (by repeat constructor) ?_)
    refine o_ (h:=z_ (h:=x_blockN (?_)))
    refine x_then ?_
    exact spl_doneG (ns := d.nodes ++ [splN d.next]) rfl rfl (hQ.bY _ _ _ _ _ _) (by omega) rfl (by omega) rfl hql hcap (by rw [List.length_append]; omega) (by first | simpa using hgr | simpa using hcp) (by simp) hg9 (by omega) rfl (by repeat (first | exact SubF.nil | refine SubF.cons _ _ _ _ rfl (LeA.refl _) ?_))
   have hc13 := bp hb13
   refine w_ (eq_ (h:=a_ (h:=e_ (?_))))
   refine aw_cond rfl (fun hb14 => ?_) (fun hb14 => ?_)
   ·have hc14 := bp hb14
    refine aw_region (f_ (h:=l_ (h:=?_)))
    refine al_p rfl (st_le (y := .agg (dvcA splD)) (st_build (by repeat (first | exact FillA.nil _ | (apply FillA.cons; (focus exact rfl); (focus exact rfl); (focus exact rfl); (focus exact rfl); (focus exact rfl); (focus (repeat constructor))))) ⟨rfl, rfl⟩) splD_le ?_)
    refine bs_ (h:=?_)
    refine al_p rfl (st_appendB rfl rfl rfl (by rw [DB_len hcap]; omega) src1 (by omega) (by omega) ?_ ?_)
    skip
    ·rintro hgr row2 bx2 hsn hb2
     obtain rfl := DBs_push (y := splD) hql hsn hgr
     obtain rfl : bx2 = [_, _, _, _, _] := hb2.one.2
     refine f_ (h:=s_ (h:=al_nil (x_blockN (?_))))
     refine x_then ?_
     first
     | exact spl_doneG (ns := d.nodes ++ [splN d.next]) rfl rfl (hQ.bY _ _ _ _ _ _) (by omega) rfl (by omega) rfl hql hcap (by rw [List.length_append]; omega) (by first | simpa using hgr | simpa using hcp) (by simp) hg9 (by omega) rfl (by repeat (first | exact SubF.nil | refine SubF.cons _ _ _ _ rfl (LeA.refl _) ?_))
     | exact spl_doneG (f := f ++ [splD]) rfl (by simp) (hQ.bY _ _ _ _ _ _) (by omega) rfl (by omega) rfl (by rw [List.length_append]; omega) (by first | simpa using hgr | simpa using hcp) hPl hcap1 rfl hg10 (by omega) rfl (by repeat (first | exact SubF.nil | refine SubF.cons _ _ _ _ rfl (LeA.refl _) ?_))
    rintro hgr capn k bx2 hcp hsn
    rw [show ((DB f q d 4 cap cap1).drop 0).take (f.length * 2) ++ cellsA (.agg (dvcA splD)) ++ List.replicate ((capn - (f.length + 1)) * 2) AV.any = DB (f ++ [splD]) q d 4 capn cap1 from DBs_grow hql d splD 4 cap capn cap1] at hsn
    obtain ⟨rfl, rfl⟩ : k = 5 ∧ bx2 = [_, _, _, _, _, _] := hsn.eq
    refine f_ (h:=s_ (h:=al_nil (x_blockN (?_))))
    refine x_then ?_
    first
    | exact spl_doneG (ns := d.nodes ++ [splN d.next]) rfl rfl (hQ.bY _ _ _ _ _ _) (by omega) rfl (by omega) rfl hql hcap (by rw [List.length_append]; omega) (by first | simpa using hgr | simpa using hcp) (by simp) hg9 (by omega) rfl (by repeat (first | exact SubF.nil | refine SubF.cons _ _ _ _ rfl (LeA.refl _) ?_))
    | exact spl_doneG (f := f ++ [splD]) rfl (by simp) (hQ.bY _ _ _ _ _ _) (by omega) rfl (by omega) rfl (by rw [List.length_append]; omega) (by first | simpa using hgr | simpa using hcp) hPl hcap1 rfl hg10 (by omega) rfl (by repeat (first | exact SubF.nil | refine SubF.cons _ _ _ _ rfl (LeA.refl _) ?_))
   have hc14 := bp hb14
   refine w_ (eq_ (h:=a_ (h:=e_ (?_))))
   refine aw_cond rfl (fun hb15 => ?_) (fun hb15 => ?_)
   ·have hc15 := bp hb15
    refine w_ (m_ (h:=k_ (h:=f_ (h:=?_))))
    refine al_p rfl (st_loadB1 rfl rfl (QB_get (k := 7) hPl rfl) ?_)
    refine al_p rfl (st_len0 rfl ?_)
    refine gt_ (h:=e_ (?_))
    refine aw_cond rfl (fun hb16 => ?_) (fun hb16 => ?_)
    ·have hc16 := bp hb16
     exfalso; simp at hb16
    have hc16 := bp hb16
    refine aw_skip (x_blockN (?_))
    refine x_then ?_
    first
    | exact spl_doneG (ns := d.nodes ++ [splN d.next]) rfl rfl (hQ.bY _ _ _ _ _ _) (by omega) rfl (by omega) rfl hql hcap (by rw [List.length_append]; omega) (by first | simpa using hgr | simpa using hcp) (by simp) hg9 (by omega) rfl (by repeat (first | exact SubF.nil | refine SubF.cons _ _ _ _ rfl (LeA.refl _) ?_))
    | exact spl_doneG (f := f ++ [splD]) rfl (by simp) (hQ.bY _ _ _ _ _ _) (by omega) rfl (by omega) rfl (by rw [List.length_append]; omega) (by first | simpa using hgr | simpa using hcp) hPl hcap1 rfl hg10 (by omega) rfl (by repeat (first | exact SubF.nil | refine SubF.cons _ _ _ _ rfl (LeA.refl _) ?_))
    | exact spl_done (.box rfl (by simpa using hgr) (by simp)) hs hq hcap hPl hcap1 rfl (hnS0.pushE (e' := (nm, ze)) (by show nm.size ≤ 300; omega)) (by omega) rfl (by repeat (first | exact SubF.nil | refine SubF.cons _ _ _ _ rfl (LeA.refl _) ?_))
    | exact spl_done (.box6 rfl (by simpa using hcp) (by simp)) hs hq hcap hPl hcap1 rfl (hnS0.pushE (e' := (nm, ze)) (by show nm.size ≤ 300; omega)) (by omega) rfl (by repeat (first | exact SubF.nil | refine SubF.cons _ _ _ _ rfl (LeA.refl _) ?_))
    | exact spl_done (es := [(nm, ze)]) (.box rfl hcp rfl) hs hq hcap hPl hcap1 rfl ⟨by show 1 ≤ _; omega, fun e he => by rw [List.mem_singleton.1 he]; show nm.size ≤ 300; omega, hnS.tg⟩ (by omega) rfl (by repeat (first | exact SubF.nil | refine SubF.cons _ _ _ _ rfl (LeA.refl _) ?_))
    | exact spl_done (.box rfl (by rw [List.length_set]; exact hE2) (by rw [List.length_set])) hs hq hcap hPl hcap1 rfl (hnS.setE kn (hnS.nm e8 (List.mem_of_getElem? he8))) (by omega) rfl (by repeat (first | exact SubF.nil | refine SubF.cons _ _ _ _ rfl (LeA.refl _) ?_))
    | exact spl_done (.box rfl (by rw [List.length_set]; exact hE2) (by rw [List.length_set])) hs hq hcap hPl hcap1 rfl (hnS.setE 0 (by show nm.size ≤ 300; omega)) (by omega) rfl (by repeat (first | exact SubF.nil | refine SubF.cons _ _ _ _ rfl (LeA.refl _) ?_))
    | exact spl_done (es := nP.entries.drop 1) (.inr (.inl ⟨5, 1, cap2, cap2 - 1, nP.entries, by omega, rfl, hE2, by omega, rfl, rfl⟩)) hs hq hcap hPl hcap1 rfl ⟨by have := hnS.ents; rw [List.length_drop]; omega, fun e he => hnS.nm e (List.mem_of_mem_drop he), hnS.tg⟩ (by omega) rfl (by repeat (first | exact SubF.nil | refine SubF.cons _ _ _ _ rfl (LeA.refl _) ?_))
    | exact spl_done (es := []) (.inr (.inr rfl)) hs hq hcap hPl hcap1 rfl ⟨Nat.zero_le _, fun e he => (by cases he), hnS.tg⟩ (by omega) rfl (by repeat (first | exact SubF.nil | refine SubF.cons _ _ _ _ rfl (LeA.refl _) ?_))
    | exact spl_done (hQ.b _ _ _ _ _) hs hq hcap hPl hcap1 rfl ⟨hnS.ents, hnS.nm, hnS.tg⟩ (by omega) rfl (by repeat (first | exact SubF.nil | refine SubF.cons _ _ _ _ rfl (LeA.refl _) ?_))
   have hc15 := bp hb15
   refine aw_skip (x_blockN (?_))
   refine x_then ?_
   first
   | exact spl_doneG (ns := d.nodes ++ [splN d.next]) rfl rfl (hQ.bY _ _ _ _ _ _) (by omega) rfl (by omega) rfl hql hcap (by rw [List.length_append]; omega) (by first | simpa using hgr | simpa using hcp) (by simp) hg9 (by omega) rfl (by repeat (first | exact SubF.nil | refine SubF.cons _ _ _ _ rfl (LeA.refl _) ?_))
   | exact spl_doneG (f := f ++ [splD]) rfl (by simp) (hQ.bY _ _ _ _ _ _) (by omega) rfl (by omega) rfl (by rw [List.length_append]; omega) (by first | simpa using hgr | simpa using hcp) hPl hcap1 rfl hg10 (by omega) rfl (by repeat (first | exact SubF.nil | refine SubF.cons _ _ _ _ rfl (LeA.refl _) ?_))
   | exact spl_done (.box rfl (by simpa using hgr) (by simp)) hs hq hcap hPl hcap1 rfl (hnS0.pushE (e' := (nm, ze)) (by show nm.size ≤ 300; omega)) (by omega) rfl (by repeat (first | exact SubF.nil | refine SubF.cons _ _ _ _ rfl (LeA.refl _) ?_))
   | exact spl_done (.box6 rfl (by simpa using hcp) (by simp)) hs hq hcap hPl hcap1 rfl (hnS0.pushE (e' := (nm, ze)) (by show nm.size ≤ 300; omega)) (by omega) rfl (by repeat (first | exact SubF.nil | refine SubF.cons _ _ _ _ rfl (LeA.refl _) ?_))
   | exact spl_done (es := [(nm, ze)]) (.box rfl hcp rfl) hs hq hcap hPl hcap1 rfl ⟨by show 1 ≤ _; omega, fun e he => by rw [List.mem_singleton.1 he]; show nm.size ≤ 300; omega, hnS.tg⟩ (by omega) rfl (by repeat (first | exact SubF.nil | refine SubF.cons _ _ _ _ rfl (LeA.refl _) ?_))
   | exact spl_done (.box rfl (by rw [List.length_set]; exact hE2) (by rw [List.length_set])) hs hq hcap hPl hcap1 rfl (hnS.setE kn (hnS.nm e8 (List.mem_of_getElem? he8))) (by omega) rfl (by repeat (first | exact SubF.nil | refine SubF.cons _ _ _ _ rfl (LeA.refl _) ?_))
   | exact spl_done (.box rfl (by rw [List.length_set]; exact hE2) (by rw [List.length_set])) hs hq hcap hPl hcap1 rfl (hnS.setE 0 (by show nm.size ≤ 300; omega)) (by omega) rfl (by repeat (first | exact SubF.nil | refine SubF.cons _ _ _ _ rfl (LeA.refl _) ?_))
   | exact spl_done (es := nP.entries.drop 1) (.inr (.inl ⟨5, 1, cap2, cap2 - 1, nP.entries, by omega, rfl, hE2, by omega, rfl, rfl⟩)) hs hq hcap hPl hcap1 rfl ⟨by have := hnS.ents; rw [List.length_drop]; omega, fun e he => hnS.nm e (List.mem_of_mem_drop he), hnS.tg⟩ (by omega) rfl (by repeat (first | exact SubF.nil | refine SubF.cons _ _ _ _ rfl (LeA.refl _) ?_))
   | exact spl_done (es := []) (.inr (.inr rfl)) hs hq hcap hPl hcap1 rfl ⟨Nat.zero_le _, fun e he => (by cases he), hnS.tg⟩ (by omega) rfl (by repeat (first | exact SubF.nil | refine SubF.cons _ _ _ _ rfl (LeA.refl _) ?_))
   | exact spl_done (hQ.b _ _ _ _ _) hs hq hcap hPl hcap1 rfl ⟨hnS.ents, hnS.nm, hnS.tg⟩ (by omega) rfl (by repeat (first | exact SubF.nil | refine SubF.cons _ _ _ _ rfl (LeA.refl _) ?_))
  rintro t ⟨b, g, rows, hg, hle, hbb, rfl⟩
  refine w_ (l_ (h:=s_ (h:=e_ (aw_ret (?_)))))
  refine rt_ (r := .agg (flsA g)) none (h5 := ?_) (h6 := ⟨_, rfl, rfl, b, by omega, rfl, g, hg, rfl⟩)
  exact hle
 have hQ : GhE nP.entries 5 (.bs 5 0 2 nP.entries.length cap2) [EB nP.entries cap2] := .inr ⟨cap2, hE2, rfl, rfl⟩
 refine ⟨rfl, _, (back_QB (k := 3) rfl f q d cap cap1 P nP nP.entries nP.entries.length cap2 cap2 : Back _ [] _ [_, _, _, _, _, _]), ?_⟩
 refine s_ (h:=e_ (q_ (yk_ ([(1, [.bs 3 0 2 f.length cap])]) 9 (h:=df_ 0 (h:=dl_ 1 (h:=dm_ 2 (h:=df_ 3 (h:=dl_ 4 (h:=?_)))))))))
 refine tk_ 5 rfl (fun _ hS => st_lenB rfl ⟨rfl, rfl⟩) ?_
 refine c_ 6 rfl (s_callB 0 rfl (by repeat (first | exact ArgsB.nil | refine ArgsB.cons _ _ _ _ _ rfl rfl ?_)) rfl rfl (GnD l a (f.length : Int) (by omega) (by omega) (by omega)) ?_)
 rintro r row ⟨rfl, rfl⟩
 rw [hqv]
 refine ⟨rfl, rfl, _, (by repeat constructor), ?_⟩
 refine o_ (h:=?_)
 refine tk_ 7 rfl (fun _ hS => st_indexS (m := q) rfl rfl rfl hql ⟨rfl, rfl⟩) ?_
 refine da_ 8 (h:=z_ (h:=t_ (q_ (w_ (m_ (h:=?_))))))
 refine al_p rfl (st_nilB rfl ?_)
 refine al_p rfl (st_fieldB rfl ?_)
 refine al_p rfl (st_loadB1 rfl rfl (DB_nodes hql) ?_)
 refine al_p rfl (st_lenB rfl ?_)
 refine eq_ (h:=e_ (?_))
 refine aw_cond rfl (fun hb17 => ?_) (fun hb17 => ?_)
 ·have hc17 := bp hb17
  exfalso; omega
 have hc17 := bp hb17
 refine kt_ (q_ (yk_ ([(3, DB f q d 4 cap cap1)]) 13 (h:=dm_ 0 (h:=?_))))
 refine tk_ 1 rfl (fun _ hS => st_nilB rfl ⟨rfl, rfl⟩) ?_
 refine tk_ 2 rfl (fun _ hS => st_fieldB rfl ⟨rfl, rfl⟩) ?_
 refine tk_ 3 rfl (fun _ hS => st_loadB1 rfl (kb hS rfl) (DB_nodes hql) ⟨rfl, rfl⟩) ?_
 refine dm_ 4 (h:=dm_ 5 (h:=?_))
 refine tk_ 6 rfl (fun _ hS => st_nilB rfl ⟨rfl, rfl⟩) ?_
 refine tk_ 7 rfl (fun _ hS => st_fieldB rfl ⟨rfl, rfl⟩) ?_
 refine tk_ 8 rfl (fun _ hS => st_loadB1 rfl (kb hS rfl) (DB_nodes hql) ⟨rfl, rfl⟩) ?_
 refine tk_ 9 rfl (fun _ hS => st_lenB rfl ⟨rfl, rfl⟩) ?_
 refine c_ 10 rfl (s_callB 0 rfl (by repeat (first | exact ArgsB.nil | refine ArgsB.cons _ _ _ _ _ rfl rfl ?_)) rfl rfl (GnD l (a + 1) (d.nodes.length : Int) (by omega) (by omega) (by omega)) ?_)
 rintro r row ⟨rfl, rfl⟩
 rw [hPv]
 refine ⟨rfl, rfl, _, (by repeat constructor), ?_⟩
 refine o_ (h:=?_)
 refine tk_ 11 rfl (fun _ hS => st_indexS (m := P) rfl rfl rfl hPl ⟨rfl, rfl⟩) ?_
 refine da_ 12 (h:=z_ (h:=t_ (?_)))
 refine aw_midI (fun t => ∃ (b : Nat) (g : Fls) (rows : List (List AV)), FlsS (m + 1) g ∧ LeA (.agg [.sl 2 rows none]) (.agg (flsA g)) ∧ b ≤ a + 60 ∧ t = ⟨look [(3, .bp 1 0), (4, .bp 2 0)], ⟨[srcA l b, [.sl 2 rows none], [.v (.slice none 0 0)]], []⟩⟩) ?_ ?_
 ·skip
  refine aw_midI (fun t => ∃ (b : Nat) (kk : Int), b ≤ a + 3 ∧ t = ⟨look [(0, .bp 0 0), (3, .bp 1 0), (4, .bp 2 0), (5, .bp 3 (0 + q * 2)), (6, .bp 4 (0 + P * 8)), (37, .v (.int .i64 kk))], ⟨srcA l b :: [.bs 3 0 2 f.length cap] :: [.v (.slice none 0 0)] :: DB f q d 4 cap cap1 :: QB d.nodes P nP (.bs 5 0 2 nP.entries.length cap2) cap1 :: [EB nP.entries cap2], []⟩⟩) ?_ ?_
  ·skip
   refine aw_region (m_ (h:=?_))
   refine al_p rfl (s_gen 0 (hc := Gn l _ 12 (by omega) (by omega)) (hR := ?_))
   rintro r a16 ha16 ⟨kk, rfl, hk0, hk1, -⟩
   refine ⟨rfl, _, (by repeat constructor), ?_⟩
   refine al_nil (?_)
   refine x_then ?_
   exact ⟨_, ⟨_, _, by omega, rfl⟩, weak_of 6 0 rfl (take_spl hQ _ _ _ _ _) rfl (bp_spl hQ _ _ _ _ _ _ _ _ _ _ _ _) ((by repeat (first | exact Sub.nil | refine Sub.cons _ _ _ rfl rfl ?_ | refine Sub.any _ _ ?_ | refine Sub.sl _ _ _ _ _ rfl ?_ | refine Sub.slnil _ _ _ rfl ?_)))⟩
  rintro t ⟨b, kk, hbb, rfl⟩
  refine aw_block (w_ (eq_ (h:=a_ (h:=e_ (?_)))))
  refine aw_cond rfl (fun hb18 => ?_) (fun hb18 => ?_)
  ·have hc18 := bp hb18
   refine aw_region (m_ (h:=m_ (h:=bs_ (h:=?_))))
   refine al_p rfl (s_gen 0 (hc := Gpick l _ _ (fun _ => true) (by omega) (by rfl) (by rfl) (by rfl)) (hR := ?_))
   rintro r a17 ha17 ⟨z0, rfl, -⟩
   refine ⟨rfl, _, (by repeat constructor), ?_⟩
   refine al_p rfl (st_nilB rfl ?_)
   refine al_p rfl (st_fieldB rfl ?_)
   refine al_p0 (s_store rfl rfl rfl rfl rfl rfl (DB_set (k := 0) (d' := { d with next := z0 }) (j' := 4) (cap1' := cap1) hql (by repeat constructor) (List.cons_ne_nil _ _)) (by repeat constructor) ?_)
   refine al_nil (x_blockN (?_))
   refine x_then ?_
   first
   | exact spl_doneG (ns := d.nodes ++ [splN d.next]) rfl rfl (hQ.bY _ _ _ _ _ _) (by omega) rfl (by omega) rfl hql hcap (by rw [List.length_append]; omega) (by first | simpa using hgr | simpa using hcp) (by simp) hg9 (by omega) rfl (by repeat (first | exact SubF.nil | refine SubF.cons _ _ _ _ rfl (LeA.refl _) ?_))
   | exact spl_doneG (f := f ++ [splD]) rfl (by simp) (hQ.bY _ _ _ _ _ _) (by omega) rfl (by omega) rfl (by rw [List.length_append]; omega) (by first | simpa using hgr | simpa using hcp) hPl hcap1 rfl hg10 (by omega) rfl (by repeat (first | exact SubF.nil | refine SubF.cons _ _ _ _ rfl (LeA.refl _) ?_))
   | exact spl_done (.box rfl (by simpa using hgr) (by simp)) hs hq hcap hPl hcap1 rfl (hnS0.pushE (e' := (nm, ze)) (by show nm.size ≤ 300; omega)) (by omega) rfl (by repeat (first | exact SubF.nil | refine SubF.cons _ _ _ _ rfl (LeA.refl _) ?_))
   | exact spl_done (.box6 rfl (by simpa using hcp) (by simp)) hs hq hcap hPl hcap1 rfl (hnS0.pushE (e' := (nm, ze)) (by show nm.size ≤ 300; omega)) (by omega) rfl (by repeat (first | exact SubF.nil | refine SubF.cons _ _ _ _ rfl (LeA.refl _) ?_))
   | exact spl_done (es := [(nm, ze)]) (.box rfl hcp rfl) hs hq hcap hPl hcap1 rfl ⟨by show 1 ≤ _; omega, fun e he => by rw [List.mem_singleton.1 he]; show nm.size ≤ 300; omega, hnS.tg⟩ (by omega) rfl (by repeat (first | exact SubF.nil | refine SubF.cons _ _ _ _ rfl (LeA.refl _) ?_))
   | exact spl_done (.box rfl (by rw [List.length_set]; exact hE2) (by rw [List.length_set])) hs hq hcap hPl hcap1 rfl (hnS.setE kn (hnS.nm e8 (List.mem_of_getElem? he8))) (by omega) rfl (by repeat (first | exact SubF.nil | refine SubF.cons _ _ _ _ rfl (LeA.refl _) ?_))
   | exact spl_done (.box rfl (by rw [List.length_set]; exact hE2) (by rw [List.length_set])) hs hq hcap hPl hcap1 rfl (hnS.setE 0 (by show nm.size ≤ 300; omega)) (by omega) rfl (by repeat (first | exact SubF.nil | refine SubF.cons _ _ _ _ rfl (LeA.refl _) ?_))
   | exact spl_done (es := nP.entries.drop 1) (.inr (.inl ⟨5, 1, cap2, cap2 - 1, nP.entries, by omega, rfl, hE2, by omega, rfl, rfl⟩)) hs hq hcap hPl hcap1 rfl ⟨by have := hnS.ents; rw [List.length_drop]; omega, fun e he => hnS.nm e (List.mem_of_mem_drop he), hnS.tg⟩ (by omega) rfl (by repeat (first | exact SubF.nil | refine SubF.cons _ _ _ _ rfl (LeA.refl _) ?_))
   | exact spl_done (es := []) (.inr (.inr rfl)) hs hq hcap hPl hcap1 rfl ⟨Nat.zero_le _, fun e he => (by cases he), hnS.tg⟩ (by omega) rfl (by repeat (first | exact SubF.nil | refine SubF.cons _ _ _ _ rfl (LeA.refl _) ?_))
   | exact spl_done (hQ.b _ _ _ _ _) hs hq hcap hPl hcap1 rfl ⟨hnS.ents, hnS.nm, hnS.tg⟩ (by omega) rfl (by repeat (first | exact SubF.nil | refine SubF.cons _ _ _ _ rfl (LeA.refl _) ?_))
  have hc18 := bp hb18
  refine w_ (eq_ (h:=a_ (h:=e_ (?_))))
  refine aw_cond rfl (fun hb19 => ?_) (fun hb19 => ?_)
  ·have hc19 := bp hb19
   refine yk_ ([]) 10 (h:=dm_ 0 (h:=dk_ 1 (h:=df_ 2 (h:=dm_ 4 (h:=?_)))))
   refine c2_ 3 5 rfl rfl ?_ ?_
   ·refine st_loadB1 rfl rfl (QB_get hPl rfl) ?_
    refine o_ (h:=?_)
    refine c_ 5 rfl (s_gen 0 (hc := Grange l _ (-1) (1) (by omega) (by omega) (by omega) (by omega)) (hR := ?_))
    rintro r a18 ha18 ⟨zi, rfl, zil, zih⟩
    refine ⟨rfl, _, (by repeat constructor), ?_⟩
    refine o_ (h:=dad_ 6 (h:=dk_ 7 (h:=df_ 8 (h:=?_))))
    refine c0_ 9 rfl (s_store rfl rfl rfl rfl rfl rfl (QB_set (k := 0) (n' := { nP with ino := IntKind.i64.wrap (nP.ino + zi) }) hPl (by repeat constructor) (List.cons_ne_nil _ _)) (by repeat constructor) ?_)
    refine o_ (h:=z_ (h:=x_blockN (?_)))
    refine x_then ?_
    first
    | exact spl_doneG (ns := d.nodes ++ [splN d.next]) rfl rfl (hQ.bY _ _ _ _ _ _) (by omega) rfl (by omega) rfl hql hcap (by rw [List.length_append]; omega) (by first | simpa using hgr | simpa using hcp) (by simp) hg9 (by omega) rfl (by repeat (first | exact SubF.nil | refine SubF.cons _ _ _ _ rfl (LeA.refl _) ?_))
    | exact spl_doneG (f := f ++ [splD]) rfl (by simp) (hQ.bY _ _ _ _ _ _) (by omega) rfl (by omega) rfl (by rw [List.length_append]; omega) (by first | simpa using hgr | simpa using hcp) hPl hcap1 rfl hg10 (by omega) rfl (by repeat (first | exact SubF.nil | refine SubF.cons _ _ _ _ rfl (LeA.refl _) ?_))
    | exact spl_done (.box rfl (by simpa using hgr) (by simp)) hs hq hcap hPl hcap1 rfl (hnS0.pushE (e' := (nm, ze)) (by show nm.size ≤ 300; omega)) (by omega) rfl (by repeat (first | exact SubF.nil | refine SubF.cons _ _ _ _ rfl (LeA.refl _) ?_))
    | exact spl_done (.box6 rfl (by simpa using hcp) (by simp)) hs hq hcap hPl hcap1 rfl (hnS0.pushE (e' := (nm, ze)) (by show nm.size ≤ 300; omega)) (by omega) rfl (by repeat (first | exact SubF.nil | refine SubF.cons _ _ _ _ rfl (LeA.refl _) ?_))
    | exact spl_done (es := [(nm, ze)]) (.box rfl hcp rfl) hs hq hcap hPl hcap1 rfl ⟨by show 1 ≤ _; omega, fun e he => by rw [List.mem_singleton.1 he]; show nm.size ≤ 300; omega, hnS.tg⟩ (by omega) rfl (by repeat (first | exact SubF.nil | refine SubF.cons _ _ _ _ rfl (LeA.refl _) ?_))
    | exact spl_done (.box rfl (by rw [List.length_set]; exact hE2) (by rw [List.length_set])) hs hq hcap hPl hcap1 rfl (hnS.setE kn (hnS.nm e8 (List.mem_of_getElem? he8))) (by omega) rfl (by repeat (first | exact SubF.nil | refine SubF.cons _ _ _ _ rfl (LeA.refl _) ?_))
    | exact spl_done (.box rfl (by rw [List.length_set]; exact hE2) (by rw [List.length_set])) hs hq hcap hPl hcap1 rfl (hnS.setE 0 (by show nm.size ≤ 300; omega)) (by omega) rfl (by repeat (first | exact SubF.nil | refine SubF.cons _ _ _ _ rfl (LeA.refl _) ?_))
    | exact spl_done (es := nP.entries.drop 1) (.inr (.inl ⟨5, 1, cap2, cap2 - 1, nP.entries, by omega, rfl, hE2, by omega, rfl, rfl⟩)) hs hq hcap hPl hcap1 rfl ⟨by have := hnS.ents; rw [List.length_drop]; omega, fun e he => hnS.nm e (List.mem_of_mem_drop he), hnS.tg⟩ (by omega) rfl (by repeat (first | exact SubF.nil | refine SubF.cons _ _ _ _ rfl (LeA.refl _) ?_))
    | exact spl_done (es := []) (.inr (.inr rfl)) hs hq hcap hPl hcap1 rfl ⟨Nat.zero_le _, fun e he => (by cases he), hnS.tg⟩ (by omega) rfl (by repeat (first | exact SubF.nil | refine SubF.cons _ _ _ _ rfl (LeA.refl _) ?_))
    | exact spl_done (hQ.b _ _ _ _ _) hs hq hcap hPl hcap1 rfl ⟨hnS.ents, hnS.nm, hnS.tg⟩ (by omega) rfl (by repeat (first | exact SubF.nil | refine SubF.cons _ _ _ _ rfl (LeA.refl _) ?_))
   refine s_gen 0 (hc := Grange l _ (-1) (1) (by omega) (by omega) (by omega) (by omega)) (hR := ?_)
   rintro r a19 ha19 ⟨zi, rfl, zil, zih⟩
   refine ⟨rfl, _, (by repeat constructor), ?_⟩
   refine o_ (h:=?_)
   refine c_ 3 rfl (st_loadB1 rfl rfl (QB_get hPl rfl) ?_)
   refine o_ (h:=dad_ 6 (h:=dk_ 7 (h:=df_ 8 (h:=?_))))
   refine c0_ 9 rfl (s_store rfl rfl rfl rfl rfl rfl (QB_set (k := 0) (n' := { nP with ino := IntKind.i64.wrap (nP.ino + zi) }) hPl (by repeat constructor) (List.cons_ne_nil _ _)) (by repeat constructor) ?_)
   refine o_ (h:=z_ (h:=x_blockN (?_)))
   refine x_then ?_
   first
   | exact spl_doneG (ns := d.nodes ++ [splN d.next]) rfl rfl (hQ.bY _ _ _ _ _ _) (by omega) rfl (by omega) rfl hql hcap (by rw [List.length_append]; omega) (by first | simpa using hgr | simpa using hcp) (by simp) hg9 (by omega) rfl (by repeat (first | exact SubF.nil | refine SubF.cons _ _ _ _ rfl (LeA.refl _) ?_))
   | exact spl_doneG (f := f ++ [splD]) rfl (by simp) (hQ.bY _ _ _ _ _ _) (by omega) rfl (by omega) rfl (by rw [List.length_append]; omega) (by first | simpa using hgr | simpa using hcp) hPl hcap1 rfl hg10 (by omega) rfl (by repeat (first | exact SubF.nil | refine SubF.cons _ _ _ _ rfl (LeA.refl _) ?_))
   | exact spl_done (.box rfl (by simpa using hgr) (by simp)) hs hq hcap hPl hcap1 rfl (hnS0.pushE (e' := (nm, ze)) (by show nm.size ≤ 300; omega)) (by omega) rfl (by repeat (first | exact SubF.nil | refine SubF.cons _ _ _ _ rfl (LeA.refl _) ?_))
   | exact spl_done (.box6 rfl (by simpa using hcp) (by simp)) hs hq hcap hPl hcap1 rfl (hnS0.pushE (e' := (nm, ze)) (by show nm.size ≤ 300; omega)) (by omega) rfl (by repeat (first | exact SubF.nil | refine SubF.cons _ _ _ _ rfl (LeA.refl _) ?_))
   | exact spl_done (es := [(nm, ze)]) (.box rfl hcp rfl) hs hq hcap hPl hcap1 rfl ⟨by show 1 ≤ _; omega, fun e he => by rw [List.mem_singleton.1 he]; show nm.size ≤ 300; omega, hnS.tg⟩ (by omega) rfl (by repeat (first | exact SubF.nil | refine SubF.cons _ _ _ _ rfl (LeA.refl _) ?_))
   | exact spl_done (.box rfl (by rw [List.length_set]; exact hE2) (by rw [List.length_set])) hs hq hcap hPl hcap1 rfl (hnS.setE kn (hnS.nm e8 (List.mem_of_getElem? he8))) (by omega) rfl (by repeat (first | exact SubF.nil | refine SubF.cons _ _ _ _ rfl (LeA.refl _) ?_))
   | exact spl_done (.box rfl (by rw [List.length_set]; exact hE2) (by rw [List.length_set])) hs hq hcap hPl hcap1 rfl (hnS.setE 0 (by show nm.size ≤ 300; omega)) (by omega) rfl (by repeat (first | exact SubF.nil | refine SubF.cons _ _ _ _ rfl (LeA.refl _) ?_))
   | exact spl_done (es := nP.entries.drop 1) (.inr (.inl ⟨5, 1, cap2, cap2 - 1, nP.entries, by omega, rfl, hE2, by omega, rfl, rfl⟩)) hs hq hcap hPl hcap1 rfl ⟨by have := hnS.ents; rw [List.length_drop]; omega, fun e he => hnS.nm e (List.mem_of_mem_drop he), hnS.tg⟩ (by omega) rfl (by repeat (first | exact SubF.nil | refine SubF.cons _ _ _ _ rfl (LeA.refl _) ?_))
   | exact spl_done (es := []) (.inr (.inr rfl)) hs hq hcap hPl hcap1 rfl ⟨Nat.zero_le _, fun e he => (by cases he), hnS.tg⟩ (by omega) rfl (by repeat (first | exact SubF.nil | refine SubF.cons _ _ _ _ rfl (LeA.refl _) ?_))
   | exact spl_done (hQ.b _ _ _ _ _) hs hq hcap hPl hcap1 rfl ⟨hnS.ents, hnS.nm, hnS.tg⟩ (by omega) rfl (by repeat (first | exact SubF.nil | refine SubF.cons _ _ _ _ rfl (LeA.refl _) ?_))
  have hc19 := bp hb19
  refine w_ (eq_ (h:=a_ (h:=e_ (?_))))
  refine aw_cond rfl (fun hb20 => ?_) (fun hb20 => ?_)
  ·have hc20 := bp hb20
   refine aw_region (m_ (h:=m_ (h:=?_)))
   refine al_p rfl (s_gen 0 (hc := Grange l _ (0) (4) (by omega) (by omega) (by omega) (by omega)) (hR := ?_))
   rintro r a20 ha20 ⟨zk, rfl, zkl, zkh⟩
   refine ⟨rfl, _, (by repeat constructor), ?_⟩
   refine k_ (h:=f_ (h:=?_))
   refine al_p0 (s_store rfl rfl rfl rfl rfl rfl (QB_set (k := 1) (n' := { nP with kind := zk }) hPl (by repeat constructor) (List.cons_ne_nil _ _)) (by repeat constructor) ?_)
   refine al_nil (x_blockN (?_))
   refine x_then ?_
   first
   | exact spl_doneG (ns := d.nodes ++ [splN d.next]) rfl rfl (hQ.bY _ _ _ _ _ _) (by omega) rfl (by omega) rfl hql hcap (by rw [List.length_append]; omega) (by first | simpa using hgr | simpa using hcp) (by simp) hg9 (by omega) rfl (by repeat (first | exact SubF.nil | refine SubF.cons _ _ _ _ rfl (LeA.refl _) ?_))
   | exact spl_doneG (f := f ++ [splD]) rfl (by simp) (hQ.bY _ _ _ _ _ _) (by omega) rfl (by omega) rfl (by rw [List.length_append]; omega) (by first | simpa using hgr | simpa using hcp) hPl hcap1 rfl hg10 (by omega) rfl (by repeat (first | exact SubF.nil | refine SubF.cons _ _ _ _ rfl (LeA.refl _) ?_))
   | exact spl_done (.box rfl (by simpa using hgr) (by simp)) hs hq hcap hPl hcap1 rfl (hnS0.pushE (e' := (nm, ze)) (by show nm.size ≤ 300; omega)) (by omega) rfl (by repeat (first | exact SubF.nil | refine SubF.cons _ _ _ _ rfl (LeA.refl _) ?_))
   | exact spl_done (.box6 rfl (by simpa using hcp) (by simp)) hs hq hcap hPl hcap1 rfl (hnS0.pushE (e' := (nm, ze)) (by show nm.size ≤ 300; omega)) (by omega) rfl (by repeat (first | exact SubF.nil | refine SubF.cons _ _ _ _ rfl (LeA.refl _) ?_))
   | exact spl_done (es := [(nm, ze)]) (.box rfl hcp rfl) hs hq hcap hPl hcap1 rfl ⟨by show 1 ≤ _; omega, fun e he => by rw [List.mem_singleton.1 he]; show nm.size ≤ 300; omega, hnS.tg⟩ (by omega) rfl (by repeat (first | exact SubF.nil | refine SubF.cons _ _ _ _ rfl (LeA.refl _) ?_))
   | exact spl_done (.box rfl (by rw [List.length_set]; exact hE2) (by rw [List.length_set])) hs hq hcap hPl hcap1 rfl (hnS.setE kn (hnS.nm e8 (List.mem_of_getElem? he8))) (by omega) rfl (by repeat (first | exact SubF.nil | refine SubF.cons _ _ _ _ rfl (LeA.refl _) ?_))
   | exact spl_done (.box rfl (by rw [List.length_set]; exact hE2) (by rw [List.length_set])) hs hq hcap hPl hcap1 rfl (hnS.setE 0 (by show nm.size ≤ 300; omega)) (by omega) rfl (by repeat (first | exact SubF.nil | refine SubF.cons _ _ _ _ rfl (LeA.refl _) ?_))
   | exact spl_done (es := nP.entries.drop 1) (.inr (.inl ⟨5, 1, cap2, cap2 - 1, nP.entries, by omega, rfl, hE2, by omega, rfl, rfl⟩)) hs hq hcap hPl hcap1 rfl ⟨by have := hnS.ents; rw [List.length_drop]; omega, fun e he => hnS.nm e (List.mem_of_mem_drop he), hnS.tg⟩ (by omega) rfl (by repeat (first | exact SubF.nil | refine SubF.cons _ _ _ _ rfl (LeA.refl _) ?_))
   | exact spl_done (es := []) (.inr (.inr rfl)) hs hq hcap hPl hcap1 rfl ⟨Nat.zero_le _, fun e he => (by cases he), hnS.tg⟩ (by omega) rfl (by repeat (first | exact SubF.nil | refine SubF.cons _ _ _ _ rfl (LeA.refl _) ?_))
   | exact spl_done (hQ.b _ _ _ _ _) hs hq hcap hPl hcap1 rfl ⟨hnS.ents, hnS.nm, hnS.tg⟩ (by omega) rfl (by repeat (first | exact SubF.nil | refine SubF.cons _ _ _ _ rfl (LeA.refl _) ?_))
  have hc20 := bp hb20
  refine w_ (eq_ (h:=a_ (h:=e_ (?_))))
  refine aw_cond rfl (fun hb21 => ?_) (fun hb21 => ?_)
  ·have hc21 := bp hb21
   refine aw_region (m_ (h:=m_ (h:=m_ (h:=m_ (h:=bs_ (h:=?_))))))
   refine al_p rfl (s_gen 0 (hc := Gpick l _ _ (fun _ => true) (by omega) (by rfl) (by rfl) (by rfl)) (hR := ?_))
   rintro r a21 ha21 ⟨zm, rfl, -⟩
   refine ⟨rfl, _, (by repeat constructor), ?_⟩
   refine m_ (h:=bs_ (h:=?_))
   refine al_p rfl (s_gen 0 (hc := Gpick l _ _ (fun _ => true) (by omega) (by rfl) (by rfl) (by rfl)) (hR := ?_))
   rintro r a22 ha22 ⟨zu, rfl, -⟩
   refine ⟨rfl, _, (by repeat constructor), ?_⟩
   refine m_ (h:=bs_ (h:=?_))
   refine al_p rfl (s_gen 0 (hc := Gpick l _ _ (fun _ => true) (by omega) (by rfl) (by rfl) (by rfl)) (hR := ?_))
   rintro r a23 ha23 ⟨zg, rfl, -⟩
   refine ⟨rfl, _, (by repeat constructor), ?_⟩
   refine k_ (h:=f_ (h:=?_))
   refine al_p0 (s_store rfl rfl rfl rfl rfl rfl (QB_set (k := 2) (n' := { nP with mode := zm }) hPl (by repeat constructor) (List.cons_ne_nil _ _)) (by repeat constructor) ?_)
   refine k_ (h:=f_ (h:=?_))
   refine al_p0 (s_store rfl rfl rfl rfl rfl rfl (QB_set (k := 3) (n' := { nP with mode := zm, uid := zu }) hPl (by repeat constructor) (List.cons_ne_nil _ _)) (by repeat constructor) ?_)
   refine k_ (h:=f_ (h:=?_))
   refine al_p0 (s_store rfl rfl rfl rfl rfl rfl (QB_set (k := 4) (n' := { nP with mode := zm, uid := zu, gid := zg }) hPl (by repeat constructor) (List.cons_ne_nil _ _)) (by repeat constructor) ?_)
   refine al_nil (x_blockN (?_))
   refine x_then ?_
   first
   | exact spl_doneG (ns := d.nodes ++ [splN d.next]) rfl rfl (hQ.bY _ _ _ _ _ _) (by omega) rfl (by omega) rfl hql hcap (by rw [List.length_append]; omega) (by first | simpa using hgr | simpa using hcp) (by simp) hg9 (by omega) rfl (by repeat (first | exact SubF.nil | refine SubF.cons _ _ _ _ rfl (LeA.refl _) ?_))
   | exact spl_doneG (f := f ++ [splD]) rfl (by simp) (hQ.bY _ _ _ _ _ _) (by omega) rfl (by omega) rfl (by rw [List.length_append]; omega) (by first | simpa using hgr | simpa using hcp) hPl hcap1 rfl hg10 (by omega) rfl (by repeat (first | exact SubF.nil | refine SubF.cons _ _ _ _ rfl (LeA.refl _) ?_))
   | exact spl_done (.box rfl (by simpa using hgr) (by simp)) hs hq hcap hPl hcap1 rfl (hnS0.pushE (e' := (nm, ze)) (by show nm.size ≤ 300; omega)) (by omega) rfl (by repeat (first | exact SubF.nil | refine SubF.cons _ _ _ _ rfl (LeA.refl _) ?_))
   | exact spl_done (.box6 rfl (by simpa using hcp) (by simp)) hs hq hcap hPl hcap1 rfl (hnS0.pushE (e' := (nm, ze)) (by show nm.size ≤ 300; omega)) (by omega) rfl (by repeat (first | exact SubF.nil | refine SubF.cons _ _ _ _ rfl (LeA.refl _) ?_))
   | exact spl_done (es := [(nm, ze)]) (.box rfl hcp rfl) hs hq hcap hPl hcap1 rfl ⟨by show 1 ≤ _; omega, fun e he => by rw [List.mem_singleton.1 he]; show nm.size ≤ 300; omega, hnS.tg⟩ (by omega) rfl (by repeat (first | exact SubF.nil | refine SubF.cons _ _ _ _ rfl (LeA.refl _) ?_))
   | exact spl_done (.box rfl (by rw [List.length_set]; exact hE2) (by rw [List.length_set])) hs hq hcap hPl hcap1 rfl (hnS.setE kn (hnS.nm e8 (List.mem_of_getElem? he8))) (by omega) rfl (by repeat (first | exact SubF.nil | refine SubF.cons _ _ _ _ rfl (LeA.refl _) ?_))
   | exact spl_done (.box rfl (by rw [List.length_set]; exact hE2) (by rw [List.length_set])) hs hq hcap hPl hcap1 rfl (hnS.setE 0 (by show nm.size ≤ 300; omega)) (by omega) rfl (by repeat (first | exact SubF.nil | refine SubF.cons _ _ _ _ rfl (LeA.refl _) ?_))
   | exact spl_done (es := nP.entries.drop 1) (.inr (.inl ⟨5, 1, cap2, cap2 - 1, nP.entries, by omega, rfl, hE2, by omega, rfl, rfl⟩)) hs hq hcap hPl hcap1 rfl ⟨by have := hnS.ents; rw [List.length_drop]; omega, fun e he => hnS.nm e (List.mem_of_mem_drop he), hnS.tg⟩ (by omega) rfl (by repeat (first | exact SubF.nil | refine SubF.cons _ _ _ _ rfl (LeA.refl _) ?_))
   | exact spl_done (es := []) (.inr (.inr rfl)) hs hq hcap hPl hcap1 rfl ⟨Nat.zero_le _, fun e he => (by cases he), hnS.tg⟩ (by omega) rfl (by repeat (first | exact SubF.nil | refine SubF.cons _ _ _ _ rfl (LeA.refl _) ?_))
   | exact spl_done (hQ.b _ _ _ _ _) hs hq hcap hPl hcap1 rfl ⟨hnS.ents, hnS.nm, hnS.tg⟩ (by omega) rfl (by repeat (first | exact SubF.nil | refine SubF.cons _ _ _ _ rfl (LeA.refl _) ?_))
  have hc21 := bp hb21
  refine w_ (eq_ (h:=a_ (h:=e_ (?_))))
  refine aw_cond rfl (fun hb22 => ?_) (fun hb22 => ?_)
  ·have hc22 := bp hb22
   refine aw_region (m_ (h:=m_ (h:=?_)))
   refine al_p rfl (s_gen 0 (hc := Grange l _ (0) (4) (by omega) (by omega) (by omega) (by omega)) (hR := ?_))
   rintro r a24 ha24 ⟨zp, rfl, zpl, zph⟩
   refine ⟨rfl, _, (by repeat constructor), ?_⟩
   refine k_ (h:=f_ (h:=?_))
   refine al_p0 (s_store rfl rfl rfl rfl rfl rfl (QB_set (k := 5) (n' := { nP with parent := zp }) hPl (by repeat constructor) (List.cons_ne_nil _ _)) (by repeat constructor) ?_)
   refine al_nil (x_blockN (?_))
   refine x_then ?_
   first
   | exact spl_doneG (ns := d.nodes ++ [splN d.next]) rfl rfl (hQ.bY _ _ _ _ _ _) (by omega) rfl (by omega) rfl hql hcap (by rw [List.length_append]; omega) (by first | simpa using hgr | simpa using hcp) (by simp) hg9 (by omega) rfl (by repeat (first | exact SubF.nil | refine SubF.cons _ _ _ _ rfl (LeA.refl _) ?_))
   | exact spl_doneG (f := f ++ [splD]) rfl (by simp) (hQ.bY _ _ _ _ _ _) (by omega) rfl (by omega) rfl (by rw [List.length_append]; omega) (by first | simpa using hgr | simpa using hcp) hPl hcap1 rfl hg10 (by omega) rfl (by repeat (first | exact SubF.nil | refine SubF.cons _ _ _ _ rfl (LeA.refl _) ?_))
   | exact spl_done (.box rfl (by simpa using hgr) (by simp)) hs hq hcap hPl hcap1 rfl (hnS0.pushE (e' := (nm, ze)) (by show nm.size ≤ 300; omega)) (by omega) rfl (by repeat (first | exact SubF.nil | refine SubF.cons _ _ _ _ rfl (LeA.refl _) ?_))
   | exact spl_done (.box6 rfl (by simpa using hcp) (by simp)) hs hq hcap hPl hcap1 rfl (hnS0.pushE (e' := (nm, ze)) (by show nm.size ≤ 300; omega)) (by omega) rfl (by repeat (first | exact SubF.nil | refine SubF.cons _ _ _ _ rfl (LeA.refl _) ?_))
   | exact spl_done (es := [(nm, ze)]) (.box rfl hcp rfl) hs hq hcap hPl hcap1 rfl ⟨by show 1 ≤ _; omega, fun e he => by rw [List.mem_singleton.1 he]; show nm.size ≤ 300; omega, hnS.tg⟩ (by omega) rfl (by repeat (first | exact SubF.nil | refine SubF.cons _ _ _ _ rfl (LeA.refl _) ?_))
   | exact spl_done (.box rfl (by rw [List.length_set]; exact hE2) (by rw [List.length_set])) hs hq hcap hPl hcap1 rfl (hnS.setE kn (hnS.nm e8 (List.mem_of_getElem? he8))) (by omega) rfl (by repeat (first | exact SubF.nil | refine SubF.cons _ _ _ _ rfl (LeA.refl _) ?_))
   | exact spl_done (.box rfl (by rw [List.length_set]; exact hE2) (by rw [List.length_set])) hs hq hcap hPl hcap1 rfl (hnS.setE 0 (by show nm.size ≤ 300; omega)) (by omega) rfl (by repeat (first | exact SubF.nil | refine SubF.cons _ _ _ _ rfl (LeA.refl _) ?_))
   | exact spl_done (es := nP.entries.drop 1) (.inr (.inl ⟨5, 1, cap2, cap2 - 1, nP.entries, by omega, rfl, hE2, by omega, rfl, rfl⟩)) hs hq hcap hPl hcap1 rfl ⟨by have := hnS.ents; rw [List.length_drop]; omega, fun e he => hnS.nm e (List.mem_of_mem_drop he), hnS.tg⟩ (by omega) rfl (by repeat (first | exact SubF.nil | refine SubF.cons _ _ _ _ rfl (LeA.refl _) ?_))
   | exact spl_done (es := []) (.inr (.inr rfl)) hs hq hcap hPl hcap1 rfl ⟨Nat.zero_le _, fun e he => (by cases he), hnS.tg⟩ (by omega) rfl (by repeat (first | exact SubF.nil | refine SubF.cons _ _ _ _ rfl (LeA.refl _) ?_))
   | exact spl_done (hQ.b _ _ _ _ _) hs hq hcap hPl hcap1 rfl ⟨hnS.ents, hnS.nm, hnS.tg⟩ (by omega) rfl (by repeat (first | exact SubF.nil | refine SubF.cons _ _ _ _ rfl (LeA.refl _) ?_))
  have hc22 := bp hb22
  refine w_ (eq_ (h:=a_ (h:=e_ (?_))))
  refine aw_cond rfl (fun hb23 => ?_) (fun hb23 => ?_)
  ·have hc23 := bp hb23
   refine aw_region (m_ (h:=m_ (h:=?_)))
   refine al_p rfl (s_gen 0 (hc := Gpath l _ (by omega)) (hR := ?_))
   rintro r a25 ha25 ⟨tg, rfl, htg⟩
   refine ⟨rfl, _, (by repeat constructor), ?_⟩
   refine k_ (h:=f_ (h:=?_))
   refine al_p0 (s_store rfl rfl rfl rfl rfl rfl (QB_set (k := 6) (n' := { nP with target := tg }) hPl (by repeat constructor) (List.cons_ne_nil _ _)) (by repeat constructor) ?_)
   refine al_nil (x_blockN (?_))
   refine x_then ?_
   first
   | exact spl_doneG (ns := d.nodes ++ [splN d.next]) rfl rfl (hQ.bY _ _ _ _ _ _) (by omega) rfl (by omega) rfl hql hcap (by rw [List.length_append]; omega) (by first | simpa using hgr | simpa using hcp) (by simp) hg9 (by omega) rfl (by repeat (first | exact SubF.nil | refine SubF.cons _ _ _ _ rfl (LeA.refl _) ?_))
   | exact spl_doneG (f := f ++ [splD]) rfl (by simp) (hQ.bY _ _ _ _ _ _) (by omega) rfl (by omega) rfl (by rw [List.length_append]; omega) (by first | simpa using hgr | simpa using hcp) hPl hcap1 rfl hg10 (by omega) rfl (by repeat (first | exact SubF.nil | refine SubF.cons _ _ _ _ rfl (LeA.refl _) ?_))
   | exact spl_done (.box rfl (by simpa using hgr) (by simp)) hs hq hcap hPl hcap1 rfl (hnS0.pushE (e' := (nm, ze)) (by show nm.size ≤ 300; omega)) (by omega) rfl (by repeat (first | exact SubF.nil | refine SubF.cons _ _ _ _ rfl (LeA.refl _) ?_))
   | exact spl_done (.box6 rfl (by simpa using hcp) (by simp)) hs hq hcap hPl hcap1 rfl (hnS0.pushE (e' := (nm, ze)) (by show nm.size ≤ 300; omega)) (by omega) rfl (by repeat (first | exact SubF.nil | refine SubF.cons _ _ _ _ rfl (LeA.refl _) ?_))
   | exact spl_done (es := [(nm, ze)]) (.box rfl hcp rfl) hs hq hcap hPl hcap1 rfl ⟨by show 1 ≤ _; omega, fun e he => by rw [List.mem_singleton.1 he]; show nm.size ≤ 300; omega, hnS.tg⟩ (by omega) rfl (by repeat (first | exact SubF.nil | refine SubF.cons _ _ _ _ rfl (LeA.refl _) ?_))
   | exact spl_done (.box rfl (by rw [List.length_set]; exact hE2) (by rw [List.length_set])) hs hq hcap hPl hcap1 rfl (hnS.setE kn (hnS.nm e8 (List.mem_of_getElem? he8))) (by omega) rfl (by repeat (first | exact SubF.nil | refine SubF.cons _ _ _ _ rfl (LeA.refl _) ?_))
   | exact spl_done (.box rfl (by rw [List.length_set]; exact hE2) (by rw [List.length_set])) hs hq hcap hPl hcap1 rfl (hnS.setE 0 (by show nm.size ≤ 300; omega)) (by omega) rfl (by repeat (first | exact SubF.nil | refine SubF.cons _ _ _ _ rfl (LeA.refl _) ?_))
   | exact spl_done (es := nP.entries.drop 1) (.inr (.inl ⟨5, 1, cap2, cap2 - 1, nP.entries, by omega, rfl, hE2, by omega, rfl, rfl⟩)) hs hq hcap hPl hcap1 rfl ⟨by have := hnS.ents; rw [List.length_drop]; omega, fun e he => hnS.nm e (List.mem_of_mem_drop he), hnS.tg⟩ (by omega) rfl (by repeat (first | exact SubF.nil | refine SubF.cons _ _ _ _ rfl (LeA.refl _) ?_))
   | exact spl_done (es := []) (.inr (.inr rfl)) hs hq hcap hPl hcap1 rfl ⟨Nat.zero_le _, fun e he => (by cases he), hnS.tg⟩ (by omega) rfl (by repeat (first | exact SubF.nil | refine SubF.cons _ _ _ _ rfl (LeA.refl _) ?_))
   | exact spl_done (hQ.b _ _ _ _ _) hs hq hcap hPl hcap1 rfl ⟨hnS.ents, hnS.nm, hnS.tg⟩ (by omega) rfl (by repeat (first | exact SubF.nil | refine SubF.cons _ _ _ _ rfl (LeA.refl _) ?_))
   | exact spl_done (hQ.b _ _ _ _ _) hs hq hcap hPl hcap1 rfl ⟨hnS.ents, hnS.nm, by show tg.size ≤ 300; omega⟩ (by omega) rfl (by repeat (first | exact SubF.nil | refine SubF.cons _ _ _ _ rfl (LeA.refl _) ?_))
  have hc23 := bp hb23
  refine w_ (eq_ (h:=a_ (h:=e_ (?_))))
  refine aw_cond rfl (fun hb24 => ?_) (fun hb24 => ?_)
  ·have hc24 := bp hb24
   refine yk_ ([]) 15 (h:=dm_ 0 (h:=dm_ 1 (h:=dk_ 2 (h:=df_ 3 (h:=dm_ 5 (h:=dm_ 7 (h:=?_)))))))
   refine c2_ 4 6 rfl rfl ?_ ?_
   ·refine st_loadB1 rfl rfl (QB_get (k := 7) hPl rfl) ?_
    refine o_ (h:=?_)
    refine c_ 6 rfl (s_gen 0 (hc := Gname l _ (by omega)) (hR := ?_))
    rintro r a26 ha26 ⟨nm, rfl, hnm⟩
    refine ⟨rfl, _, (by repeat constructor), ?_⟩
    refine o_ (h:=?_)
    refine c_ 8 rfl (s_gen 0 (hc := Grange l _ (0) (6) (by omega) (by omega) (by omega) (by omega)) (hR := ?_))
    rintro r a27 ha27 ⟨ze, rfl, zel, zeh⟩
    refine ⟨rfl, _, (by repeat constructor), ?_⟩
    refine o_ (h:=dbd_ 9 (h:=dbs_ 10 (h:=?_)))
    refine c_ 11 rfl (st_appendB rfl rfl rfl (by rw [EB_len _ _ hE2]; omega) src1 (by omega) (by omega) ?_ ?_)
    skip
    ·rintro hgr row2 bx2 hsn hb2
     obtain rfl := EB_push (e := (nm, ze)) hsn hgr
     obtain rfl : bx2 = [_, _, _, _, _, _] := hb2.one.2
     refine o_ (h:=?_)
     refine dk_ 12 (h:=df_ 13 (h:=?_))
     refine c0_ 14 rfl (s_store rfl rfl rfl rfl rfl rfl (QB_set (k := 7) (n' := nP) (e' := .bs 5 0 2 (nP.entries.length + 1) cap2) hPl (by repeat constructor) (List.cons_ne_nil _ _)) (by repeat constructor) ?_)
     refine o_ (h:=z_ (h:=x_blockN (?_)))
     refine x_then ?_
     first
     | exact spl_doneG (ns := d.nodes ++ [splN d.next]) rfl rfl (hQ.bY _ _ _ _ _ _) (by omega) rfl (by omega) rfl hql hcap (by rw [List.length_append]; omega) (by first | simpa using hgr | simpa using hcp) (by simp) hg9 (by omega) rfl (by repeat (first | exact SubF.nil | refine SubF.cons _ _ _ _ rfl (LeA.refl _) ?_))
     | exact spl_doneG (f := f ++ [splD]) rfl (by simp) (hQ.bY _ _ _ _ _ _) (by omega) rfl (by omega) rfl (by rw [List.length_append]; omega) (by first | simpa using hgr | simpa using hcp) hPl hcap1 rfl hg10 (by omega) rfl (by repeat (first | exact SubF.nil | refine SubF.cons _ _ _ _ rfl (LeA.refl _) ?_))
     | exact spl_done (.box rfl (by simpa using hgr) (by simp)) hs hq hcap hPl hcap1 rfl (hnS0.pushE (e' := (nm, ze)) (by show nm.size ≤ 300; omega)) (by omega) rfl (by repeat (first | exact SubF.nil | refine SubF.cons _ _ _ _ rfl (LeA.refl _) ?_))
    rintro hgr capn k bx2 hcp hsn
    rw [show ((EB nP.entries cap2).drop 0).take (nP.entries.length * 2) ++ cellsA (.agg [.v (.string nm), .v (.int .i64 ze)]) ++ List.replicate ((capn - (nP.entries.length + 1)) * 2) AV.any = EB (nP.entries ++ [(nm, ze)]) capn from EB_grow nP.entries (nm, ze) cap2 capn] at hsn
    obtain ⟨rfl, rfl⟩ : k = 6 ∧ bx2 = [_, _, _, _, _, _, _] := hsn.eq
    refine o_ (h:=?_)
    refine dk_ 12 (h:=df_ 13 (h:=?_))
    refine c0_ 14 rfl (s_store rfl rfl rfl rfl rfl rfl (QB_set (k := 7) (n' := nP) (e' := .bs 6 0 2 (nP.entries.length + 1) capn) hPl (by repeat constructor) (List.cons_ne_nil _ _)) (by repeat constructor) ?_)
    refine o_ (h:=z_ (h:=x_blockN (?_)))
    refine x_then ?_
    first
    | exact spl_doneG (ns := d.nodes ++ [splN d.next]) rfl rfl (hQ.bY _ _ _ _ _ _) (by omega) rfl (by omega) rfl hql hcap (by rw [List.length_append]; omega) (by first | simpa using hgr | simpa using hcp) (by simp) hg9 (by omega) rfl (by repeat (first | exact SubF.nil | refine SubF.cons _ _ _ _ rfl (LeA.refl _) ?_))
    | exact spl_doneG (f := f ++ [splD]) rfl (by simp) (hQ.bY _ _ _ _ _ _) (by omega) rfl (by omega) rfl (by rw [List.length_append]; omega) (by first | simpa using hgr | simpa using hcp) hPl hcap1 rfl hg10 (by omega) rfl (by repeat (first | exact SubF.nil | refine SubF.cons _ _ _ _ rfl (LeA.refl _) ?_))
    | exact spl_done (.box rfl (by simpa using hgr) (by simp)) hs hq hcap hPl hcap1 rfl (hnS0.pushE (e' := (nm, ze)) (by show nm.size ≤ 300; omega)) (by omega) rfl (by repeat (first | exact SubF.nil | refine SubF.cons _ _ _ _ rfl (LeA.refl _) ?_))
    | exact spl_done (.box6 rfl (by simpa using hcp) (by simp)) hs hq hcap hPl hcap1 rfl (hnS0.pushE (e' := (nm, ze)) (by show nm.size ≤ 300; omega)) (by omega) rfl (by repeat (first | exact SubF.nil | refine SubF.cons _ _ _ _ rfl (LeA.refl _) ?_))
   refine s_gen 0 (hc := Gname l _ (by omega)) (hR := ?_)
   rintro r a28 ha28 ⟨nm, rfl, hnm⟩
   refine ⟨rfl, _, (by repeat constructor), ?_⟩
   refine o_ (h:=?_)
   refine c2_ 4 8 rfl rfl ?_ ?_
   ·refine st_loadB1 rfl rfl (QB_get (k := 7) hPl rfl) ?_
    refine o_ (h:=?_)
    refine c_ 8 rfl (s_gen 0 (hc := Grange l _ (0) (6) (by omega) (by omega) (by omega) (by omega)) (hR := ?_))
    rintro r a29 ha29 ⟨ze, rfl, zel, zeh⟩
    refine ⟨rfl, _, (by repeat constructor), ?_⟩
    refine o_ (h:=dbd_ 9 (h:=dbs_ 10 (h:=?_)))
    refine c_ 11 rfl (st_appendB rfl rfl rfl (by rw [EB_len _ _ hE2]; omega) src1 (by omega) (by omega) ?_ ?_)
    skip
    ·rintro hgr row2 bx2 hsn hb2
     obtain rfl := EB_push (e := (nm, ze)) hsn hgr
     obtain rfl : bx2 = [_, _, _, _, _, _] := hb2.one.2
     refine o_ (h:=?_)
     refine dk_ 12 (h:=df_ 13 (h:=?_))
     refine c0_ 14 rfl (s_store rfl rfl rfl rfl rfl rfl (QB_set (k := 7) (n' := nP) (e' := .bs 5 0 2 (nP.entries.length + 1) cap2) hPl (by repeat constructor) (List.cons_ne_nil _ _)) (by repeat constructor) ?_)
     refine o_ (h:=z_ (h:=x_blockN (?_)))
     refine x_then ?_
     first
     | exact spl_doneG (ns := d.nodes ++ [splN d.next]) rfl rfl (hQ.bY _ _ _ _ _ _) (by omega) rfl (by omega) rfl hql hcap (by rw [List.length_append]; omega) (by first | simpa using hgr | simpa using hcp) (by simp) hg9 (by omega) rfl (by repeat (first | exact SubF.nil | refine SubF.cons _ _ _ _ rfl (LeA.refl _) ?_))
     | exact spl_doneG (f := f ++ [splD]) rfl (by simp) (hQ.bY _ _ _ _ _ _) (by omega) rfl (by omega) rfl (by rw [List.length_append]; omega) (by first | simpa using hgr | simpa using hcp) hPl hcap1 rfl hg10 (by omega) rfl (by repeat (first | exact SubF.nil | refine SubF.cons _ _ _ _ rfl (LeA.refl _) ?_))
     | exact spl_done (.box rfl (by simpa using hgr) (by simp)) hs hq hcap hPl hcap1 rfl (hnS0.pushE (e' := (nm, ze)) (by show nm.size ≤ 300; omega)) (by omega) rfl (by repeat (first | exact SubF.nil | refine SubF.cons _ _ _ _ rfl (LeA.refl _) ?_))
    rintro hgr capn k bx2 hcp hsn
    rw [show ((EB nP.entries cap2).drop 0).take (nP.entries.length * 2) ++ cellsA (.agg [.v (.string nm), .v (.int .i64 ze)]) ++ List.replicate ((capn - (nP.entries.length + 1)) * 2) AV.any = EB (nP.entries ++ [(nm, ze)]) capn from EB_grow nP.entries (nm, ze) cap2 capn] at hsn
    obtain ⟨rfl, rfl⟩ : k = 6 ∧ bx2 = [_, _, _, _, _, _, _] := hsn.eq
    refine o_ (h:=?_)
    refine dk_ 12 (h:=df_ 13 (h:=?_))
    refine c0_ 14 rfl (s_store rfl rfl rfl rfl rfl rfl (QB_set (k := 7) (n' := nP) (e' := .bs 6 0 2 (nP.entries.length + 1) capn) hPl (by repeat constructor) (List.cons_ne_nil _ _)) (by repeat constructor) ?_)
    refine o_ (h:=z_ (h:=x_blockN (?_)))
    refine x_then ?_
    first
    | exact spl_doneG (ns := d.nodes ++ [splN d.next]) rfl rfl (hQ.bY _ _ _ _ _ _) (by omega) rfl (by omega) rfl hql hcap (by rw [List.length_append]; omega) (by first | simpa using hgr | simpa using hcp) (by simp) hg9 (by omega) rfl (by repeat (first | exact SubF.nil | refine SubF.cons _ _ _ _ rfl (LeA.refl _) ?_))
    | exact spl_doneG (f := f ++ [splD]) rfl (by simp) (hQ.bY _ _ _ _ _ _) (by omega) rfl (by omega) rfl (by rw [List.length_append]; omega) (by first | simpa using hgr | simpa using hcp) hPl hcap1 rfl hg10 (by omega) rfl (by repeat (first | exact SubF.nil | refine SubF.cons _ _ _ _ rfl (LeA.refl _) ?_))
    | exact spl_done (.box rfl (by simpa using hgr) (by simp)) hs hq hcap hPl hcap1 rfl (hnS0.pushE (e' := (nm, ze)) (by show nm.size ≤ 300; omega)) (by omega) rfl (by repeat (first | exact SubF.nil | refine SubF.cons _ _ _ _ rfl (LeA.refl _) ?_))
    | exact spl_done (.box6 rfl (by simpa using hcp) (by simp)) hs hq hcap hPl hcap1 rfl (hnS0.pushE (e' := (nm, ze)) (by show nm.size ≤ 300; omega)) (by omega) rfl (by repeat (first | exact SubF.nil | refine SubF.cons _ _ _ _ rfl (LeA.refl _) ?_))
   refine s_gen 0 (hc := Grange l _ (0) (6) (by omega) (by omega) (by omega) (by omega)) (hR := ?_)
   rintro r a30 ha30 ⟨ze, rfl, zel, zeh⟩
   refine ⟨rfl, _, (by repeat constructor), ?_⟩
   refine o_ (h:=?_)
   refine dbd_ 9 (h:=dbs_ 10 (h:=?_))
   refine c_ 4 rfl (st_loadB1 rfl rfl (QB_get (k := 7) hPl rfl) ?_)
   refine o_ (h:=?_)
   refine c_ 11 rfl (st_appendB rfl rfl rfl (by rw [EB_len _ _ hE2]; omega) src1 (by omega) (by omega) ?_ ?_)
   skip
   ·rintro hgr row2 bx2 hsn hb2
    obtain rfl := EB_push (e := (nm, ze)) hsn hgr
    obtain rfl : bx2 = [_, _, _, _, _, _] := hb2.one.2
    refine o_ (h:=?_)
    refine dk_ 12 (h:=df_ 13 (h:=?_))
    refine c0_ 14 rfl (s_store rfl rfl rfl rfl rfl rfl (QB_set (k := 7) (n' := nP) (e' := .bs 5 0 2 (nP.entries.length + 1) cap2) hPl (by repeat constructor) (List.cons_ne_nil _ _)) (by repeat constructor) ?_)
    refine o_ (h:=z_ (h:=x_blockN (?_)))
    refine x_then ?_
    first
    | exact spl_doneG (ns := d.nodes ++ [splN d.next]) rfl rfl (hQ.bY _ _ _ _ _ _) (by omega) rfl (by omega) rfl hql hcap (by rw [List.length_append]; omega) (by first | simpa using hgr | simpa using hcp) (by simp) hg9 (by omega) rfl (by repeat (first | exact SubF.nil | refine SubF.cons _ _ _ _ rfl (LeA.refl _) ?_))
    | exact spl_doneG (f := f ++ [splD]) rfl (by simp) (hQ.bY _ _ _ _ _ _) (by omega) rfl (by omega) rfl (by rw [List.length_append]; omega) (by first | simpa using hgr | simpa using hcp) hPl hcap1 rfl hg10 (by omega) rfl (by repeat (first | exact SubF.nil | refine SubF.cons _ _ _ _ rfl (LeA.refl _) ?_))
    | exact spl_done (.box rfl (by simpa using hgr) (by simp)) hs hq hcap hPl hcap1 rfl (hnS0.pushE (e' := (nm, ze)) (by show nm.size ≤ 300; omega)) (by omega) rfl (by repeat (first | exact SubF.nil | refine SubF.cons _ _ _ _ rfl (LeA.refl _) ?_))
   rintro hgr capn k bx2 hcp hsn
   rw [show ((EB nP.entries cap2).drop 0).take (nP.entries.length * 2) ++ cellsA (.agg [.v (.string nm), .v (.int .i64 ze)]) ++ List.replicate ((capn - (nP.entries.length + 1)) * 2) AV.any = EB (nP.entries ++ [(nm, ze)]) capn from EB_grow nP.entries (nm, ze) cap2 capn] at hsn
   obtain ⟨rfl, rfl⟩ : k = 6 ∧ bx2 = [_, _, _, _, _, _, _] := hsn.eq
   refine o_ (h:=?_)
   refine dk_ 12 (h:=df_ 13 (h:=?_))
   refine c0_ 14 rfl (s_store rfl rfl rfl rfl rfl rfl (QB_set (k := 7) (n' := nP) (e' := .bs 6 0 2 (nP.entries.length + 1) capn) hPl (by repeat constructor) (List.cons_ne_nil _ _)) (by repeat constructor) ?_)
   refine o_ (h:=z_ (h:=x_blockN (?_)))
   refine x_then ?_
   first
   | exact spl_doneG (ns := d.nodes ++ [splN d.next]) rfl rfl (hQ.bY _ _ _ _ _ _) (by omega) rfl (by omega) rfl hql hcap (by rw [List.length_append]; omega) (by first | simpa using hgr | simpa using hcp) (by simp) hg9 (by omega) rfl (by repeat (first | exact SubF.nil | refine SubF.cons _ _ _ _ rfl (LeA.refl _) ?_))
   | exact spl_doneG (f := f ++ [splD]) rfl (by simp) (hQ.bY _ _ _ _ _ _) (by omega) rfl (by omega) rfl (by rw [List.length_append]; omega) (by first | simpa using hgr | simpa using hcp) hPl hcap1 rfl hg10 (by omega) rfl (by repeat (first | exact SubF.nil | refine SubF.cons _ _ _ _ rfl (LeA.refl _) ?_))
   | exact spl_done (.box rfl (by simpa using hgr) (by simp)) hs hq hcap hPl hcap1 rfl (hnS0.pushE (e' := (nm, ze)) (by show nm.size ≤ 300; omega)) (by omega) rfl (by repeat (first | exact SubF.nil | refine SubF.cons _ _ _ _ rfl (LeA.refl _) ?_))
   | exact spl_done (.box6 rfl (by simpa using hcp) (by simp)) hs hq hcap hPl hcap1 rfl (hnS0.pushE (e' := (nm, ze)) (by show nm.size ≤ 300; omega)) (by omega) rfl (by repeat (first | exact SubF.nil | refine SubF.cons _ _ _ _ rfl (LeA.refl _) ?_))
  have hc24 := bp hb24
  refine w_ (eq_ (h:=a_ (h:=e_ (?_))))
  refine aw_cond rfl (fun hb25 => ?_) (fun hb25 => ?_)
  ·have hc25 := bp hb25
   refine w_ (m_ (h:=k_ (h:=f_ (h:=?_))))
   refine al_p rfl (st_loadB1 rfl rfl (QB_get (k := 7) hPl rfl) ?_)
   first | refine al_p rfl (st_len0 rfl ?_) | refine al_p rfl (st_lenB rfl ?_)
   refine gt_ (h:=e_ (?_))
   refine aw_cond rfl (fun hb26 => ?_) (fun hb26 => ?_)
   ·have hc26 := bp hb26
    refine aw_region (m_ (h:=m_ (h:=k_ (h:=f_ (h:=?_)))))
    refine al_p rfl (st_loadB1 rfl rfl (QB_get (k := 7) hPl rfl) ?_)
    rcases Nat.lt_or_ge 1 nP.entries.length with h1 | h1
    ·skip
     refine al_p rfl (st_sliceLoB (l := 1) rfl rfl rfl h1 ?_)
     refine k_ (h:=f_ (h:=?_))
     refine al_p0 (s_store rfl rfl rfl rfl rfl rfl (QB_set (k := 7) (n' := nP) (e' := .bs 5 (0 + 1 * 2) 2 (nP.entries.length - 1) (cap2 - 1)) hPl (by repeat constructor) (List.cons_ne_nil _ _)) (by repeat constructor) ?_)
     refine al_nil (x_blockN (?_))
     refine x_then ?_
     first
     | exact spl_doneG (ns := d.nodes ++ [splN d.next]) rfl rfl (hQ.bY _ _ _ _ _ _) (by omega) rfl (by omega) rfl hql hcap (by rw [List.length_append]; omega) (by first | simpa using hgr | simpa using hcp) (by simp) hg9 (by omega) rfl (by repeat (first | exact SubF.nil | refine SubF.cons _ _ _ _ rfl (LeA.refl _) ?_))
     | exact spl_doneG (f := f ++ [splD]) rfl (by simp) (hQ.bY _ _ _ _ _ _) (by omega) rfl (by omega) rfl (by rw [List.length_append]; omega) (by first | simpa using hgr | simpa using hcp) hPl hcap1 rfl hg10 (by omega) rfl (by repeat (first | exact SubF.nil | refine SubF.cons _ _ _ _ rfl (LeA.refl _) ?_))
     | exact spl_done (.box rfl (by simpa using hgr) (by simp)) hs hq hcap hPl hcap1 rfl (hnS0.pushE (e' := (nm, ze)) (by show nm.size ≤ 300; omega)) (by omega) rfl (by repeat (first | exact SubF.nil | refine SubF.cons _ _ _ _ rfl (LeA.refl _) ?_))
     | exact spl_done (.box6 rfl (by simpa using hcp) (by simp)) hs hq hcap hPl hcap1 rfl (hnS0.pushE (e' := (nm, ze)) (by show nm.size ≤ 300; omega)) (by omega) rfl (by repeat (first | exact SubF.nil | refine SubF.cons _ _ _ _ rfl (LeA.refl _) ?_))
     | exact spl_done (es := [(nm, ze)]) (.box rfl hcp rfl) hs hq hcap hPl hcap1 rfl ⟨by show 1 ≤ _; omega, fun e he => by rw [List.mem_singleton.1 he]; show nm.size ≤ 300; omega, hnS.tg⟩ (by omega) rfl (by repeat (first | exact SubF.nil | refine SubF.cons _ _ _ _ rfl (LeA.refl _) ?_))
     | exact spl_done (.box rfl (by rw [List.length_set]; exact hE2) (by rw [List.length_set])) hs hq hcap hPl hcap1 rfl (hnS.setE kn (hnS.nm e8 (List.mem_of_getElem? he8))) (by omega) rfl (by repeat (first | exact SubF.nil | refine SubF.cons _ _ _ _ rfl (LeA.refl _) ?_))
     | exact spl_done (.box rfl (by rw [List.length_set]; exact hE2) (by rw [List.length_set])) hs hq hcap hPl hcap1 rfl (hnS.setE 0 (by show nm.size ≤ 300; omega)) (by omega) rfl (by repeat (first | exact SubF.nil | refine SubF.cons _ _ _ _ rfl (LeA.refl _) ?_))
     | exact spl_done (es := nP.entries.drop 1) (.inr (.inl ⟨5, 1, cap2, cap2 - 1, nP.entries, by omega, rfl, hE2, by omega, rfl, rfl⟩)) hs hq hcap hPl hcap1 rfl ⟨by have := hnS.ents; rw [List.length_drop]; omega, fun e he => hnS.nm e (List.mem_of_mem_drop he), hnS.tg⟩ (by omega) rfl (by repeat (first | exact SubF.nil | refine SubF.cons _ _ _ _ rfl (LeA.refl _) ?_))
    have h1e : nP.entries.length = 1 := by omega
    refine al_p rfl (st_sliceEnd rfl rfl (by omega) ?_)
    refine k_ (h:=f_ (h:=?_))
    refine al_p0 (s_store rfl rfl rfl rfl rfl rfl (QB_set (k := 7) (n' := nP) (e' := .sl 2 [] none) hPl (by repeat constructor) (List.cons_ne_nil _ _)) (by repeat constructor) ?_)
    refine al_nil (x_blockN (?_))
    refine x_then ?_
    first
    | exact spl_doneG (ns := d.nodes ++ [splN d.next]) rfl rfl (hQ.bY _ _ _ _ _ _) (by omega) rfl (by omega) rfl hql hcap (by rw [List.length_append]; omega) (by first | simpa using hgr | simpa using hcp) (by simp) hg9 (by omega) rfl (by repeat (first | exact SubF.nil | refine SubF.cons _ _ _ _ rfl (LeA.refl _) ?_))
    | exact spl_doneG (f := f ++ [splD]) rfl (by simp) (hQ.bY _ _ _ _ _ _) (by omega) rfl (by omega) rfl (by rw [List.length_append]; omega) (by first | simpa using hgr | simpa using hcp) hPl hcap1 rfl hg10 (by omega) rfl (by repeat (first | exact SubF.nil | refine SubF.cons _ _ _ _ rfl (LeA.refl _) ?_))
    | exact spl_done (.box rfl (by simpa using hgr) (by simp)) hs hq hcap hPl hcap1 rfl (hnS0.pushE (e' := (nm, ze)) (by show nm.size ≤ 300; omega)) (by omega) rfl (by repeat (first | exact SubF.nil | refine SubF.cons _ _ _ _ rfl (LeA.refl _) ?_))
    | exact spl_done (.box6 rfl (by simpa using hcp) (by simp)) hs hq hcap hPl hcap1 rfl (hnS0.pushE (e' := (nm, ze)) (by show nm.size ≤ 300; omega)) (by omega) rfl (by repeat (first | exact SubF.nil | refine SubF.cons _ _ _ _ rfl (LeA.refl _) ?_))
    | exact spl_done (es := [(nm, ze)]) (.box rfl hcp rfl) hs hq hcap hPl hcap1 rfl ⟨by show 1 ≤ _; omega, fun e he => by rw [List.mem_singleton.1 he]; show nm.size ≤ 300; omega, hnS.tg⟩ (by omega) rfl (by repeat (first | exact SubF.nil | refine SubF.cons _ _ _ _ rfl (LeA.refl _) ?_))
    | exact spl_done (.box rfl (by rw [List.length_set]; exact hE2) (by rw [List.length_set])) hs hq hcap hPl hcap1 rfl (hnS.setE kn (hnS.nm e8 (List.mem_of_getElem? he8))) (by omega) rfl (by repeat (first | exact SubF.nil | refine SubF.cons _ _ _ _ rfl (LeA.refl _) ?_))
    | exact spl_done (.box rfl (by rw [List.length_set]; exact hE2) (by rw [List.length_set])) hs hq hcap hPl hcap1 rfl (hnS.setE 0 (by show nm.size ≤ 300; omega)) (by omega) rfl (by repeat (first | exact SubF.nil | refine SubF.cons _ _ _ _ rfl (LeA.refl _) ?_))
    | exact spl_done (es := nP.entries.drop 1) (.inr (.inl ⟨5, 1, cap2, cap2 - 1, nP.entries, by omega, rfl, hE2, by omega, rfl, rfl⟩)) hs hq hcap hPl hcap1 rfl ⟨by have := hnS.ents; rw [List.length_drop]; omega, fun e he => hnS.nm e (List.mem_of_mem_drop he), hnS.tg⟩ (by omega) rfl (by repeat (first | exact SubF.nil | refine SubF.cons _ _ _ _ rfl (LeA.refl _) ?_))
    | exact spl_done (es := []) (.inr (.inr rfl)) hs hq hcap hPl hcap1 rfl ⟨Nat.zero_le _, fun e he => (by cases he), hnS.tg⟩ (by omega) rfl (by repeat (first | exact SubF.nil | refine SubF.cons _ _ _ _ rfl (LeA.refl _) ?_))
   have hc26 := bp hb26
   refine aw_skip (x_blockN (?_))
   refine x_then ?_
   first
   | exact spl_doneG (ns := d.nodes ++ [splN d.next]) rfl rfl (hQ.bY _ _ _ _ _ _) (by omega) rfl (by omega) rfl hql hcap (by rw [List.length_append]; omega) (by first | simpa using hgr | simpa using hcp) (by simp) hg9 (by omega) rfl (by repeat (first | exact SubF.nil | refine SubF.cons _ _ _ _ rfl (LeA.refl _) ?_))
   | exact spl_doneG (f := f ++ [splD]) rfl (by simp) (hQ.bY _ _ _ _ _ _) (by omega) rfl (by omega) rfl (by rw [List.length_append]; omega) (by first | simpa using hgr | simpa using hcp) hPl hcap1 rfl hg10 (by omega) rfl (by repeat (first | exact SubF.nil | refine SubF.cons _ _ _ _ rfl (LeA.refl _) ?_))
   | exact spl_done (.box rfl (by simpa using hgr) (by simp)) hs hq hcap hPl hcap1 rfl (hnS0.pushE (e' := (nm, ze)) (by show nm.size ≤ 300; omega)) (by omega) rfl (by repeat (first | exact SubF.nil | refine SubF.cons _ _ _ _ rfl (LeA.refl _) ?_))
   | exact spl_done (.box6 rfl (by simpa using hcp) (by simp)) hs hq hcap hPl hcap1 rfl (hnS0.pushE (e' := (nm, ze)) (by show nm.size ≤ 300; omega)) (by omega) rfl (by repeat (first | exact SubF.nil | refine SubF.cons _ _ _ _ rfl (LeA.refl _) ?_))
   | exact spl_done (es := [(nm, ze)]) (.box rfl hcp rfl) hs hq hcap hPl hcap1 rfl ⟨by show 1 ≤ _; omega, fun e he => by rw [List.mem_singleton.1 he]; show nm.size ≤ 300; omega, hnS.tg⟩ (by omega) rfl (by repeat (first | exact SubF.nil | refine SubF.cons _ _ _ _ rfl (LeA.refl _) ?_))
   | exact spl_done (.box rfl (by rw [List.length_set]; exact hE2) (by rw [List.length_set])) hs hq hcap hPl hcap1 rfl (hnS.setE kn (hnS.nm e8 (List.mem_of_getElem? he8))) (by omega) rfl (by repeat (first | exact SubF.nil | refine SubF.cons _ _ _ _ rfl (LeA.refl _) ?_))
   | exact spl_done (.box rfl (by rw [List.length_set]; exact hE2) (by rw [List.length_set])) hs hq hcap hPl hcap1 rfl (hnS.setE 0 (by show nm.size ≤ 300; omega)) (by omega) rfl (by repeat (first | exact SubF.nil | refine SubF.cons _ _ _ _ rfl (LeA.refl _) ?_))
   | exact spl_done (es := nP.entries.drop 1) (.inr (.inl ⟨5, 1, cap2, cap2 - 1, nP.entries, by omega, rfl, hE2, by omega, rfl, rfl⟩)) hs hq hcap hPl hcap1 rfl ⟨by have := hnS.ents; rw [List.length_drop]; omega, fun e he => hnS.nm e (List.mem_of_mem_drop he), hnS.tg⟩ (by omega) rfl (by repeat (first | exact SubF.nil | refine SubF.cons _ _ _ _ rfl (LeA.refl _) ?_))
   | exact spl_done (es := []) (.inr (.inr rfl)) hs hq hcap hPl hcap1 rfl ⟨Nat.zero_le _, fun e he => (by cases he), hnS.tg⟩ (by omega) rfl (by repeat (first | exact SubF.nil | refine SubF.cons _ _ _ _ rfl (LeA.refl _) ?_))
   | exact spl_done (hQ.b _ _ _ _ _) hs hq hcap hPl hcap1 rfl ⟨hnS.ents, hnS.nm, hnS.tg⟩ (by omega) rfl (by repeat (first | exact SubF.nil | refine SubF.cons _ _ _ _ rfl (LeA.refl _) ?_))
  have hc25 := bp hb25
  refine w_ (eq_ (h:=a_ (h:=e_ (?_))))
  refine aw_cond rfl (fun hb27 => ?_) (fun hb27 => ?_)
  ·have hc27 := bp hb27
   refine w_ (m_ (h:=k_ (h:=f_ (h:=?_))))
   refine al_p rfl (st_loadB1 rfl rfl (QB_get (k := 7) hPl rfl) ?_)
   first | refine al_p rfl (st_len0 rfl ?_) | refine al_p rfl (st_lenB rfl ?_)
   refine gt_ (h:=e_ (?_))
   refine aw_cond rfl (fun hb28 => ?_) (fun hb28 => ?_)
   ·have hc28 := bp hb28
    refine yk_ ([(4, QB d.nodes P nP (.bs 5 0 2 nP.entries.length cap2) cap1)]) 16 (h:=dm_ 0 (h:=dk_ 1 (h:=df_ 2 (h:=?_))))
    refine tk_ 3 rfl (fun _ hS => st_loadB1 rfl (kb hS rfl) (QB_get (k := 7) hPl rfl) ⟨rfl, rfl⟩) ?_
    refine dm_ 4 (h:=dm_ 5 (h:=dk_ 6 (h:=df_ 7 (h:=?_))))
    refine tk_ 8 rfl (fun _ hS => st_loadB1 rfl (kb hS rfl) (QB_get (k := 7) hPl rfl) ⟨rfl, rfl⟩) ?_
    refine tk_ 9 rfl (fun _ hS => st_lenB rfl ⟨rfl, rfl⟩) ?_
    refine dm_ 11 (h:=?_)
    refine c_ 10 rfl (s_gen 0 (hc := Gn l _ (nP.entries.length : Int) (by omega) (by omega)) (hR := ?_))
    rintro r a31 ha31 ⟨kx, rfl, kx0, kx1, -⟩
    refine ⟨rfl, _, (by repeat constructor), ?_⟩
    obtain ⟨kn, rfl⟩ := Int.eq_ofNat_of_zero_le kx0
    have hkn : kn < nP.entries.length := by have := kx1 (by omega); omega
    obtain ⟨e8, he8⟩ : ∃ x, nP.entries[kn]? = some x := ⟨_, List.getElem?_eq_getElem hkn⟩
    refine o_ (h:=?_)
    refine c_ 12 rfl (s_gen 0 (hc := Grange l _ (1) (6) (by omega) (by omega) (by omega) (by omega)) (hR := ?_))
    rintro r a32 ha32 ⟨zf, rfl, zfl, zfh⟩
    refine ⟨rfl, _, (by repeat constructor), ?_⟩
    refine o_ (h:=?_)
    refine tk_ 13 rfl (fun _ hS => st_indexS (m := kn) rfl rfl rfl hkn ⟨rfl, rfl⟩) ?_
    refine df_ 14 (h:=?_)
    refine c0_ 15 rfl (s_store rfl rfl rfl rfl rfl rfl (EB_setE (c := 1) (e' := (e8.1, zf)) he8 (by repeat constructor) (List.cons_ne_nil _ _)) (by repeat constructor) ?_)
    refine o_ (h:=z_ (h:=x_blockN (?_)))
    refine x_then ?_
    first
    | exact spl_doneG (ns := d.nodes ++ [splN d.next]) rfl rfl (hQ.bY _ _ _ _ _ _) (by omega) rfl (by omega) rfl hql hcap (by rw [List.length_append]; omega) (by first | simpa using hgr | simpa using hcp) (by simp) hg9 (by omega) rfl (by repeat (first | exact SubF.nil | refine SubF.cons _ _ _ _ rfl (LeA.refl _) ?_))
    | exact spl_doneG (f := f ++ [splD]) rfl (by simp) (hQ.bY _ _ _ _ _ _) (by omega) rfl (by omega) rfl (by rw [List.length_append]; omega) (by first | simpa using hgr | simpa using hcp) hPl hcap1 rfl hg10 (by omega) rfl (by repeat (first | exact SubF.nil | refine SubF.cons _ _ _ _ rfl (LeA.refl _) ?_))
    | exact spl_done (.box rfl (by simpa using hgr) (by simp)) hs hq hcap hPl hcap1 rfl (hnS0.pushE (e' := (nm, ze)) (by show nm.size ≤ 300; omega)) (by omega) rfl (by repeat (first | exact SubF.nil | refine SubF.cons _ _ _ _ rfl (LeA.refl _) ?_))
    | exact spl_done (.box6 rfl (by simpa using hcp) (by simp)) hs hq hcap hPl hcap1 rfl (hnS0.pushE (e' := (nm, ze)) (by show nm.size ≤ 300; omega)) (by omega) rfl (by repeat (first | exact SubF.nil | refine SubF.cons _ _ _ _ rfl (LeA.refl _) ?_))
    | exact spl_done (es := [(nm, ze)]) (.box rfl hcp rfl) hs hq hcap hPl hcap1 rfl ⟨by show 1 ≤ _; omega, fun e he => by rw [List.mem_singleton.1 he]; show nm.size ≤ 300; omega, hnS.tg⟩ (by omega) rfl (by repeat (first | exact SubF.nil | refine SubF.cons _ _ _ _ rfl (LeA.refl _) ?_))
    | exact spl_done (.box rfl (by rw [List.length_set]; exact hE2) (by rw [List.length_set])) hs hq hcap hPl hcap1 rfl (hnS.setE kn (hnS.nm e8 (List.mem_of_getElem? he8))) (by omega) rfl (by repeat (first | exact SubF.nil | refine SubF.cons _ _ _ _ rfl (LeA.refl _) ?_))
   have hc28 := bp hb28
   refine aw_skip (x_blockN (?_))
   refine x_then ?_
   first
   | exact spl_doneG (ns := d.nodes ++ [splN d.next]) rfl rfl (hQ.bY _ _ _ _ _ _) (by omega) rfl (by omega) rfl hql hcap (by rw [List.length_append]; omega) (by first | simpa using hgr | simpa using hcp) (by simp) hg9 (by omega) rfl (by repeat (first | exact SubF.nil | refine SubF.cons _ _ _ _ rfl (LeA.refl _) ?_))
   | exact spl_doneG (f := f ++ [splD]) rfl (by simp) (hQ.bY _ _ _ _ _ _) (by omega) rfl (by omega) rfl (by rw [List.length_append]; omega) (by first | simpa using hgr | simpa using hcp) hPl hcap1 rfl hg10 (by omega) rfl (by repeat (first | exact SubF.nil | refine SubF.cons _ _ _ _ rfl (LeA.refl _) ?_))
   | exact spl_done (.box rfl (by simpa using hgr) (by simp)) hs hq hcap hPl hcap1 rfl (hnS0.pushE (e' := (nm, ze)) (by show nm.size ≤ 300; omega)) (by omega) rfl (by repeat (first | exact SubF.nil | refine SubF.cons _ _ _ _ rfl (LeA.refl _) ?_))
   | exact spl_done (.box6 rfl (by simpa using hcp) (by simp)) hs hq hcap hPl hcap1 rfl (hnS0.pushE (e' := (nm, ze)) (by show nm.size ≤ 300; omega)) (by omega) rfl (by repeat (first | exact SubF.nil | refine SubF.cons _ _ _ _ rfl (LeA.refl _) ?_))
   | exact spl_done (es := [(nm, ze)]) (.box rfl hcp rfl) hs hq hcap hPl hcap1 rfl ⟨by show 1 ≤ _; omega, fun e he => by rw [List.mem_singleton.1 he]; show nm.size ≤ 300; omega, hnS.tg⟩ (by omega) rfl (by repeat (first | exact SubF.nil | refine SubF.cons _ _ _ _ rfl (LeA.refl _) ?_))
   | exact spl_done (.box rfl (by rw [List.length_set]; exact hE2) (by rw [List.length_set])) hs hq hcap hPl hcap1 rfl (hnS.setE kn (hnS.nm e8 (List.mem_of_getElem? he8))) (by omega) rfl (by repeat (first | exact SubF.nil | refine SubF.cons _ _ _ _ rfl (LeA.refl _) ?_))
   | exact spl_done (.box rfl (by rw [List.length_set]; exact hE2) (by rw [List.length_set])) hs hq hcap hPl hcap1 rfl (hnS.setE 0 (by show nm.size ≤ 300; omega)) (by omega) rfl (by repeat (first | exact SubF.nil | refine SubF.cons _ _ _ _ rfl (LeA.refl _) ?_))
   | exact spl_done (es := nP.entries.drop 1) (.inr (.inl ⟨5, 1, cap2, cap2 - 1, nP.entries, by omega, rfl, hE2, by omega, rfl, rfl⟩)) hs hq hcap hPl hcap1 rfl ⟨by have := hnS.ents; rw [List.length_drop]; omega, fun e he => hnS.nm e (List.mem_of_mem_drop he), hnS.tg⟩ (by omega) rfl (by repeat (first | exact SubF.nil | refine SubF.cons _ _ _ _ rfl (LeA.refl _) ?_))
   | exact spl_done (es := []) (.inr (.inr rfl)) hs hq hcap hPl hcap1 rfl ⟨Nat.zero_le _, fun e he => (by cases he), hnS.tg⟩ (by omega) rfl (by repeat (first | exact SubF.nil | refine SubF.cons _ _ _ _ rfl (LeA.refl _) ?_))
   | exact spl_done (hQ.b _ _ _ _ _) hs hq hcap hPl hcap1 rfl ⟨hnS.ents, hnS.nm, hnS.tg⟩ (by omega) rfl (by repeat (first | exact SubF.nil | refine SubF.cons _ _ _ _ rfl (LeA.refl _) ?_))
  have hc27 := bp hb27
  refine w_ (eq_ (h:=a_ (h:=e_ (?_))))
  refine aw_cond rfl (fun hb29 => ?_) (fun hb29 => ?_)
  ·have hc29 := bp hb29
   refine yk_ ([]) 16 (h:=dm_ 0 (h:=dm_ 1 (h:=dk_ 2 (h:=df_ 3 (h:=dm_ 5 (h:=dk_ 6 (h:=df_ 7 (h:=?_))))))))
   refine c2_ 4 8 rfl rfl ?_ ?_
   ·refine st_loadB1 rfl rfl (DB_nodes hql) ?_
    refine o_ (h:=?_)
    refine c_ 8 rfl (st_loadB1 rfl rfl (DB_next hql) ?_)
    refine o_ (h:=dsb_ 9 (h:=?_))
    refine tk_ 10 rfl (fun _ hS => st_le (y := .agg (nodA (splN d.next))) (st_build (by repeat (first | exact FillA.nil _ | (apply FillA.cons; (focus exact rfl); (focus exact rfl); (focus exact rfl); (focus exact rfl); (focus exact rfl); (focus (repeat constructor))))) ⟨rfl, rfl⟩) (splN_le _) ⟨rfl, rfl⟩) ?_
    refine dbs_ 11 (h:=?_)
    refine c_ 12 rfl (st_appendB rfl rfl rfl (by rw [QB_len hcap1]; omega) src1 (by omega) (by omega) ?_ ?_)
    skip
    ·rintro hgr row2 bx2 hsn hb2
     obtain rfl := QB_push (x := splN d.next) hPl hsn hgr
     obtain rfl : bx2 = [_, _, _, _, _, _] := hb2.one.2
     refine o_ (h:=?_)
     refine dk_ 13 (h:=df_ 14 (h:=?_))
     refine c0_ 15 rfl (s_store rfl rfl rfl rfl rfl rfl (DB_set (k := 1) (d' := ⟨d.next, splN d.next :: d.nodes⟩) (j' := 4) (cap1' := cap1) hql (by repeat constructor) (List.cons_ne_nil _ _)) (by repeat constructor) ?_)
     refine o_ (h:=z_ (h:=x_blockN (?_)))
     refine x_then ?_
     exact spl_doneG (ns := d.nodes ++ [splN d.next]) rfl rfl (hQ.bY _ _ _ _ _ _) (by omega) rfl (by omega) rfl hql hcap (by rw [List.length_append]; omega) (by first | simpa using hgr | simpa using hcp) (by simp) hg9 (by omega) rfl (by repeat (first | exact SubF.nil | refine SubF.cons _ _ _ _ rfl (LeA.refl _) ?_))
    rintro hgr capn k bx2 hcp hsn
    rw [show ((QB d.nodes P nP (.bs 5 0 2 nP.entries.length cap2) cap1).drop 0).take (d.nodes.length * 8) ++ cellsA (.agg (nodA (splN d.next))) ++ List.replicate ((capn - (d.nodes.length + 1)) * 8) AV.any = QB (d.nodes ++ [splN d.next]) P nP (.bs 5 0 2 nP.entries.length cap2) capn from QB_grow hPl nP (splN d.next) _ cap1 capn] at hsn
    obtain ⟨rfl, rfl⟩ : k = 6 ∧ bx2 = [_, _, _, _, _, _, _] := hsn.eq
    refine o_ (h:=?_)
    refine dk_ 13 (h:=df_ 14 (h:=?_))
    refine c0_ 15 rfl (s_store rfl rfl rfl rfl rfl rfl (DB_set (k := 1) (d' := ⟨d.next, splN d.next :: d.nodes⟩) (j' := 6) (cap1' := capn) hql (by repeat constructor) (List.cons_ne_nil _ _)) (by repeat constructor) ?_)
    refine o_ (h:=z_ (h:=x_blockN (?_)))
    refine x_then ?_
    exact spl_doneG (ns := d.nodes ++ [splN d.next]) rfl rfl (hQ.bY _ _ _ _ _ _) (by omega) rfl (by omega) rfl hql hcap (by rw [List.length_append]; omega) (by first | simpa using hgr | simpa using hcp) (by simp) hg9 (by omega) rfl (by repeat (first | exact SubF.nil | refine SubF.cons _ _ _ _ rfl (LeA.refl _) ?_))
   refine st_loadB1 rfl rfl (DB_next hql) ?_
   refine o_ (h:=?_)
   refine dsb_ 9 (h:=?_)
   refine tk_ 10 rfl (fun _ hS => st_le (y := .agg (nodA (splN d.next))) (st_build (by repeat (first | exact FillA.nil _ | (apply FillA.cons; (focus exact rfl); (focus exact rfl); (focus exact rfl); (focus exact rfl); (focus exact rfl); (focus (repeat constructor))))) ⟨rfl, rfl⟩) (splN_le _) ⟨rfl, rfl⟩) ?_
   refine dbs_ 11 (h:=?_)
   refine c_ 4 rfl (st_loadB1 rfl rfl (DB_nodes hql) ?_)
   refine o_ (h:=?_)
   refine c_ 12 rfl (st_appendB rfl rfl rfl (by rw [QB_len hcap1]; omega) src1 (by omega) (by omega) ?_ ?_)
   skip
   ·rintro hgr row2 bx2 hsn hb2
    obtain rfl := QB_push (x := splN d.next) hPl hsn hgr
    obtain rfl : bx2 = [_, _, _, _, _, _] := hb2.one.2
    refine o_ (h:=?_)
    refine dk_ 13 (h:=df_ 14 (h:=?_))
    refine c0_ 15 rfl (s_store rfl rfl rfl rfl rfl rfl (DB_set (k := 1) (d' := ⟨d.next, splN d.next :: d.nodes⟩) (j' := 4) (cap1' := cap1) hql (by repeat constructor) (List.cons_ne_nil _ _)) (by repeat constructor) ?_)
    refine o_ (h:=z_ (h:=x_blockN (?_)))
    refine x_then ?_
    exact spl_doneG (ns := d.nodes ++ [splN d.next]) rfl rfl (hQ.bY _ _ _ _ _ _) (by omega) rfl (by omega) rfl hql hcap (by rw [List.length_append]; omega) (by first | simpa using hgr | simpa using hcp) (by simp) hg9 (by omega) rfl (by repeat (first | exact SubF.nil | refine SubF.cons _ _ _ _ rfl (LeA.refl _) ?_))
   rintro hgr capn k bx2 hcp hsn
   rw [show ((QB d.nodes P nP (.bs 5 0 2 nP.entries.length cap2) cap1).drop 0).take (d.nodes.length * 8) ++ cellsA (.agg (nodA (splN d.next))) ++ List.replicate ((capn - (d.nodes.length + 1)) * 8) AV.any = QB (d.nodes ++ [splN d.next]) P nP (.bs 5 0 2 nP.entries.length cap2) capn from QB_grow hPl nP (splN d.next) _ cap1 capn] at hsn
   obtain ⟨rfl, rfl⟩ : k = 6 ∧ bx2 = [_, _, _, _, _, _, _] := hsn.eq
   refine o_ (h:=?_)
   refine dk_ 13 (h:=df_ 14 (h:=?_))
   refine c0_ 15 rfl (s_store rfl rfl rfl rfl rfl rfl (DB_set (k := 1) (d' := ⟨d.next, splN d.next :: d.nodes⟩) (j' := 6) (cap1' := capn) hql (by repeat constructor) (List.cons_ne_nil _ _)) (by repeat constructor) ?_)
   refine o_ (h:=z_ (h:=x_blockN (?_)))
   refine x_then ?_
   exact spl_doneG (ns := d.nodes ++ [splN d.next]) rfl rfl (hQ.bY _ _ _ _ _ _) (by omega) rfl (by omega) rfl hql hcap (by rw [List.length_append]; omega) (by first | simpa using hgr | simpa using hcp) (by simp) hg9 (by omega) rfl (by repeat (first | exact SubF.nil | refine SubF.cons _ _ _ _ rfl (LeA.refl _) ?_))
  have hc29 := bp hb29
  refine w_ (eq_ (h:=a_ (h:=e_ (?_))))
  refine aw_cond rfl (fun hb30 => ?_) (fun hb30 => ?_)
  ·have hc30 := bp hb30
   refine aw_region (f_ (h:=l_ (h:=?_)))
   refine al_p rfl (st_le (y := .agg (dvcA splD)) (st_build (by repeat (first | exact FillA.nil _ | (apply FillA.cons; (focus exact rfl); (focus exact rfl); (focus exact rfl); (focus exact rfl); (focus exact rfl); (focus (repeat constructor))))) ⟨rfl, rfl⟩) splD_le ?_)
   refine bs_ (h:=?_)
   refine al_p rfl (st_appendB rfl rfl rfl (by rw [DB_len hcap]; omega) src1 (by omega) (by omega) ?_ ?_)
   skip
   ·rintro hgr row2 bx2 hsn hb2
    obtain rfl := DBs_push (y := splD) hql hsn hgr
    obtain rfl : bx2 = [_, _, _, _, _, _] := hb2.one.2
    refine f_ (h:=s_ (h:=al_nil (x_blockN (?_))))
    refine x_then ?_
    first
    | exact spl_doneG (ns := d.nodes ++ [splN d.next]) rfl rfl (hQ.bY _ _ _ _ _ _) (by omega) rfl (by omega) rfl hql hcap (by rw [List.length_append]; omega) (by first | simpa using hgr | simpa using hcp) (by simp) hg9 (by omega) rfl (by repeat (first | exact SubF.nil | refine SubF.cons _ _ _ _ rfl (LeA.refl _) ?_))
    | exact spl_doneG (f := f ++ [splD]) rfl (by simp) (hQ.bY _ _ _ _ _ _) (by omega) rfl (by omega) rfl (by rw [List.length_append]; omega) (by first | simpa using hgr | simpa using hcp) hPl hcap1 rfl hg10 (by omega) rfl (by repeat (first | exact SubF.nil | refine SubF.cons _ _ _ _ rfl (LeA.refl _) ?_))
   rintro hgr capn k bx2 hcp hsn
   rw [show ((DB f q d 4 cap cap1).drop 0).take (f.length * 2) ++ cellsA (.agg (dvcA splD)) ++ List.replicate ((capn - (f.length + 1)) * 2) AV.any = DB (f ++ [splD]) q d 4 capn cap1 from DBs_grow hql d splD 4 cap capn cap1] at hsn
   obtain ⟨rfl, rfl⟩ : k = 6 ∧ bx2 = [_, _, _, _, _, _, _] := hsn.eq
   refine f_ (h:=s_ (h:=al_nil (x_blockN (?_))))
   refine x_then ?_
   first
   | exact spl_doneG (ns := d.nodes ++ [splN d.next]) rfl rfl (hQ.bY _ _ _ _ _ _) (by omega) rfl (by omega) rfl hql hcap (by rw [List.length_append]; omega) (by first | simpa using hgr | simpa using hcp) (by simp) hg9 (by omega) rfl (by repeat (first | exact SubF.nil | refine SubF.cons _ _ _ _ rfl (LeA.refl _) ?_))
   | exact spl_doneG (f := f ++ [splD]) rfl (by simp) (hQ.bY _ _ _ _ _ _) (by omega) rfl (by omega) rfl (by rw [List.length_append]; omega) (by first | simpa using hgr | simpa using hcp) hPl hcap1 rfl hg10 (by omega) rfl (by repeat (first | exact SubF.nil | refine SubF.cons _ _ _ _ rfl (LeA.refl _) ?_))
  have hc30 := bp hb30
  refine w_ (eq_ (h:=a_ (h:=e_ (?_))))
  refine aw_cond rfl (fun hb31 => ?_) (fun hb31 => ?_)
  ·have hc31 := bp hb31
   refine w_ (m_ (h:=k_ (h:=f_ (h:=?_))))
   refine al_p rfl (st_loadB1 rfl rfl (QB_get (k := 7) hPl rfl) ?_)
   first | refine al_p rfl (st_len0 rfl ?_) | refine al_p rfl (st_lenB rfl ?_)
   refine gt_ (h:=e_ (?_))
   refine aw_cond rfl (fun hb32 => ?_) (fun hb32 => ?_)
   ·have hc32 := bp hb32
    obtain ⟨e0, he0⟩ : ∃ x, nP.entries[0]? = some x := ⟨_, List.getElem?_eq_getElem (by omega)⟩
    refine yk_ ([(4, QB d.nodes P nP (.bs 5 0 2 nP.entries.length cap2) cap1)]) 9 (h:=dm_ 0 (h:=dk_ 1 (h:=df_ 2 (h:=?_))))
    refine tk_ 3 rfl (fun _ hS => st_loadB1 rfl (kb hS rfl) (QB_get (k := 7) hPl rfl) ⟨rfl, rfl⟩) ?_
    refine dm_ 4 (h:=?_)
    refine c_ 5 rfl (s_gen 0 (hc := Gname l _ (by omega)) (hR := ?_))
    rintro r a33 ha33 ⟨nm, rfl, hnm⟩
    refine ⟨rfl, _, (by repeat constructor), ?_⟩
    refine o_ (h:=?_)
    refine tk_ 6 rfl (fun _ hS => st_indexS (m := 0) rfl rfl rfl (by omega) ⟨rfl, rfl⟩) ?_
    refine df_ 7 (h:=?_)
    refine c0_ 8 rfl (s_store rfl rfl rfl rfl rfl rfl (EB_setE (c := 0) (e' := (nm, e0.2)) he0 (by repeat constructor) (List.cons_ne_nil _ _)) (by repeat constructor) ?_)
    refine o_ (h:=z_ (h:=x_blockN (?_)))
    refine x_then ?_
    first
    | exact spl_doneG (ns := d.nodes ++ [splN d.next]) rfl rfl (hQ.bY _ _ _ _ _ _) (by omega) rfl (by omega) rfl hql hcap (by rw [List.length_append]; omega) (by first | simpa using hgr | simpa using hcp) (by simp) hg9 (by omega) rfl (by repeat (first | exact SubF.nil | refine SubF.cons _ _ _ _ rfl (LeA.refl _) ?_))
    | exact spl_doneG (f := f ++ [splD]) rfl (by simp) (hQ.bY _ _ _ _ _ _) (by omega) rfl (by omega) rfl (by rw [List.length_append]; omega) (by first | simpa using hgr | simpa using hcp) hPl hcap1 rfl hg10 (by omega) rfl (by repeat (first | exact SubF.nil | refine SubF.cons _ _ _ _ rfl (LeA.refl _) ?_))
    | exact spl_done (.box rfl (by simpa using hgr) (by simp)) hs hq hcap hPl hcap1 rfl (hnS0.pushE (e' := (nm, ze)) (by show nm.size ≤ 300; omega)) (by omega) rfl (by repeat (first | exact SubF.nil | refine SubF.cons _ _ _ _ rfl (LeA.refl _) ?_))
    | exact spl_done (.box6 rfl (by simpa using hcp) (by simp)) hs hq hcap hPl hcap1 rfl (hnS0.pushE (e' := (nm, ze)) (by show nm.size ≤ 300; omega)) (by omega) rfl (by repeat (first | exact SubF.nil | refine SubF.cons _ _ _ _ rfl (LeA.refl _) ?_))
    | exact spl_done (es := [(nm, ze)]) (.box rfl hcp rfl) hs hq hcap hPl hcap1 rfl ⟨by show 1 ≤ _; omega, fun e he => by rw [List.mem_singleton.1 he]; show nm.size ≤ 300; omega, hnS.tg⟩ (by omega) rfl (by repeat (first | exact SubF.nil | refine SubF.cons _ _ _ _ rfl (LeA.refl _) ?_))
    | exact spl_done (.box rfl (by rw [List.length_set]; exact hE2) (by rw [List.length_set])) hs hq hcap hPl hcap1 rfl (hnS.setE kn (hnS.nm e8 (List.mem_of_getElem? he8))) (by omega) rfl (by repeat (first | exact SubF.nil | refine SubF.cons _ _ _ _ rfl (LeA.refl _) ?_))
    | exact spl_done (.box rfl (by rw [List.length_set]; exact hE2) (by rw [List.length_set])) hs hq hcap hPl hcap1 rfl (hnS.setE 0 (by show nm.size ≤ 300; omega)) (by omega) rfl (by repeat (first | exact SubF.nil | refine SubF.cons _ _ _ _ rfl (LeA.refl _) ?_))
   have hc32 := bp hb32
   refine aw_skip (x_blockN (?_))
   refine x_then ?_
   first
   | exact spl_doneG (ns := d.nodes ++ [splN d.next]) rfl rfl (hQ.bY _ _ _ _ _ _) (by omega) rfl (by omega) rfl hql hcap (by rw [List.length_append]; omega) (by first | simpa using hgr | simpa using hcp) (by simp) hg9 (by omega) rfl (by repeat (first | exact SubF.nil | refine SubF.cons _ _ _ _ rfl (LeA.refl _) ?_))
   | exact spl_doneG (f := f ++ [splD]) rfl (by simp) (hQ.bY _ _ _ _ _ _) (by omega) rfl (by omega) rfl (by rw [List.length_append]; omega) (by first | simpa using hgr | simpa using hcp) hPl hcap1 rfl hg10 (by omega) rfl (by repeat (first | exact SubF.nil | refine SubF.cons _ _ _ _ rfl (LeA.refl _) ?_))
   | exact spl_done (.box rfl (by simpa using hgr) (by simp)) hs hq hcap hPl hcap1 rfl (hnS0.pushE (e' := (nm, ze)) (by show nm.size ≤ 300; omega)) (by omega) rfl (by repeat (first | exact SubF.nil | refine SubF.cons _ _ _ _ rfl (LeA.refl _) ?_))
   | exact spl_done (.box6 rfl (by simpa using hcp) (by simp)) hs hq hcap hPl hcap1 rfl (hnS0.pushE (e' := (nm, ze)) (by show nm.size ≤ 300; omega)) (by omega) rfl (by repeat (first | exact SubF.nil | refine SubF.cons _ _ _ _ rfl (LeA.refl _) ?_))
   | exact spl_done (es := [(nm, ze)]) (.box rfl hcp rfl) hs hq hcap hPl hcap1 rfl ⟨by show 1 ≤ _; omega, fun e he => by rw [List.mem_singleton.1 he]; show nm.size ≤ 300; omega, hnS.tg⟩ (by omega) rfl (by repeat (first | exact SubF.nil | refine SubF.cons _ _ _ _ rfl (LeA.refl _) ?_))
   | exact spl_done (.box rfl (by rw [List.length_set]; exact hE2) (by rw [List.length_set])) hs hq hcap hPl hcap1 rfl (hnS.setE kn (hnS.nm e8 (List.mem_of_getElem? he8))) (by omega) rfl (by repeat (first | exact SubF.nil | refine SubF.cons _ _ _ _ rfl (LeA.refl _) ?_))
   | exact spl_done (.box rfl (by rw [List.length_set]; exact hE2) (by rw [List.length_set])) hs hq hcap hPl hcap1 rfl (hnS.setE 0 (by show nm.size ≤ 300; omega)) (by omega) rfl (by repeat (first | exact SubF.nil | refine SubF.cons _ _ _ _ rfl (LeA.refl _) ?_))
   | exact spl_done (es := nP.entries.drop 1) (.inr (.inl ⟨5, 1, cap2, cap2 - 1, nP.entries, by omega, rfl, hE2, by omega, rfl, rfl⟩)) hs hq hcap hPl hcap1 rfl ⟨by have := hnS.ents; rw [List.length_drop]; omega, fun e he => hnS.nm e (List.mem_of_mem_drop he), hnS.tg⟩ (by omega) rfl (by repeat (first | exact SubF.nil | refine SubF.cons _ _ _ _ rfl (LeA.refl _) ?_))
   | exact spl_done (es := []) (.inr (.inr rfl)) hs hq hcap hPl hcap1 rfl ⟨Nat.zero_le _, fun e he => (by cases he), hnS.tg⟩ (by omega) rfl (by repeat (first | exact SubF.nil | refine SubF.cons _ _ _ _ rfl (LeA.refl _) ?_))
   | exact spl_done (hQ.b _ _ _ _ _) hs hq hcap hPl hcap1 rfl ⟨hnS.ents, hnS.nm, hnS.tg⟩ (by omega) rfl (by repeat (first | exact SubF.nil | refine SubF.cons _ _ _ _ rfl (LeA.refl _) ?_))
  have hc31 := bp hb31
  refine aw_skip (x_blockN (?_))
  refine x_then ?_
  first
  | exact spl_doneG (ns := d.nodes ++ [splN d.next]) rfl rfl (hQ.bY _ _ _ _ _ _) (by omega) rfl (by omega) rfl hql hcap (by rw [List.length_append]; omega) (by first | simpa using hgr | simpa using hcp) (by simp) hg9 (by omega) rfl (by repeat (first | exact SubF.nil | refine SubF.cons _ _ _ _ rfl (LeA.refl _) ?_))
  | exact spl_doneG (f := f ++ [splD]) rfl (by simp) (hQ.bY _ _ _ _ _ _) (by omega) rfl (by omega) rfl (by rw [List.length_append]; omega) (by first | simpa using hgr | simpa using hcp) hPl hcap1 rfl hg10 (by omega) rfl (by repeat (first | exact SubF.nil | refine SubF.cons _ _ _ _ rfl (LeA.refl _) ?_))
  | exact spl_done (.box rfl (by simpa using hgr) (by simp)) hs hq hcap hPl hcap1 rfl (hnS0.pushE (e' := (nm, ze)) (by show nm.size ≤ 300; omega)) (by omega) rfl (by repeat (first | exact SubF.nil | refine SubF.cons _ _ _ _ rfl (LeA.refl _) ?_))
  | exact spl_done (.box6 rfl (by simpa using hcp) (by simp)) hs hq hcap hPl hcap1 rfl (hnS0.pushE (e' := (nm, ze)) (by show nm.size ≤ 300; omega)) (by omega) rfl (by repeat (first | exact SubF.nil | refine SubF.cons _ _ _ _ rfl (LeA.refl _) ?_))
  | exact spl_done (es := [(nm, ze)]) (.box rfl hcp rfl) hs hq hcap hPl hcap1 rfl ⟨by show 1 ≤ _; omega, fun e he => by rw [List.mem_singleton.1 he]; show nm.size ≤ 300; omega, hnS.tg⟩ (by omega) rfl (by repeat (first | exact SubF.nil | refine SubF.cons _ _ _ _ rfl (LeA.refl _) ?_))
  | exact spl_done (.box rfl (by rw [List.length_set]; exact hE2) (by rw [List.length_set])) hs hq hcap hPl hcap1 rfl (hnS.setE kn (hnS.nm e8 (List.mem_of_getElem? he8))) (by omega) rfl (by repeat (first | exact SubF.nil | refine SubF.cons _ _ _ _ rfl (LeA.refl _) ?_))
  | exact spl_done (.box rfl (by rw [List.length_set]; exact hE2) (by rw [List.length_set])) hs hq hcap hPl hcap1 rfl (hnS.setE 0 (by show nm.size ≤ 300; omega)) (by omega) rfl (by repeat (first | exact SubF.nil | refine SubF.cons _ _ _ _ rfl (LeA.refl _) ?_))
  | exact spl_done (es := nP.entries.drop 1) (.inr (.inl ⟨5, 1, cap2, cap2 - 1, nP.entries, by omega, rfl, hE2, by omega, rfl, rfl⟩)) hs hq hcap hPl hcap1 rfl ⟨by have := hnS.ents; rw [List.length_drop]; omega, fun e he => hnS.nm e (List.mem_of_mem_drop he), hnS.tg⟩ (by omega) rfl (by repeat (first | exact SubF.nil | refine SubF.cons _ _ _ _ rfl (LeA.refl _) ?_))
  | exact spl_done (es := []) (.inr (.inr rfl)) hs hq hcap hPl hcap1 rfl ⟨Nat.zero_le _, fun e he => (by cases he), hnS.tg⟩ (by omega) rfl (by repeat (first | exact SubF.nil | refine SubF.cons _ _ _ _ rfl (LeA.refl _) ?_))
  | exact spl_done (hQ.b _ _ _ _ _) hs hq hcap hPl hcap1 rfl ⟨hnS.ents, hnS.nm, hnS.tg⟩ (by omega) rfl (by repeat (first | exact SubF.nil | refine SubF.cons _ _ _ _ rfl (LeA.refl _) ?_))
 rintro t ⟨b, g, rows, hg, hle, hbb, rfl⟩
 refine w_ (l_ (h:=s_ (h:=e_ (aw_ret (?_)))))
 refine rt_ (r := .agg (flsA g)) none (h5 := ?_) (h6 := ⟨_, rfl, rfl, b, by omega, rfl, g, hg, rfl⟩)
 exact hle
end
end Go.Proofs.Ythcbdkmhamhciaa
