/-
  Rules, tests, contexts that come in, as trees; the walk of RulesMatch as a statement about calls.
-/
import Derived.Test.YtokaaebbmcldaaaDoorRo
import Derived.Test.YtokaaebbmcldaaaDoorAvR
namespace Go.Proofs.YtokaaebbmcldaaaDoor
open Go.RowKit

abbrev IsI (r : List AV) : Prop := ∃ n, r = [.v (.int .i64 n)] ∧ (Lit.int .i64 n).wf = true
abbrev IsS (r : List AV) : Prop := ∃ s : ByteArray, r = [.v (.string s)] ∧ s.size ≤ maxLen
theorem opI : Opens Tryd.prog 3 IsI := opens_int Tryd.underlying3
theorem opS : Opens Tryd.prog 9 IsS := opens_string Tryd.underlying9
theorem opB : Opens Tryd.prog 4 (fun r => ∃ b, r = [.v (.bool b)]) := opens_bool Tryd.underlying4
theorem opTest : Opens Tryd.prog 66 (fun r => ∃ t, r = tstA t) :=
  (opens_fields (l := [(0, 3, 1), (1, 3, 1), (2, 3, 1), (3, 9, 1), (4, 3, 1)]) (n := 5) (by kernel_rfl)
    (.cons _ _ _ _ _ _ _ opI (.cons _ _ _ _ _ _ _ opI (.cons _ _ _ _ _ _ _ opI (.cons _ _ _ _ _ _ _ opS (.cons _ _ _ _ _ _ _ opI (.nil _))))))).mono (by
    rintro r ⟨_, _, ⟨a, rfl, _⟩, ⟨_, _, ⟨b, rfl, _⟩, ⟨_, _, ⟨c, rfl, _⟩, ⟨_, _, ⟨d, rfl, _⟩, ⟨_, _, ⟨e, rfl, _⟩, rfl, rfl⟩, rfl⟩, rfl⟩, rfl⟩, rfl⟩
    exact ⟨⟨a, b, c, d, e⟩, rfl⟩)
theorem opTests : Opens Tryd.prog 39 (fun r => ∃ l : List Tst, r = [.sl 5 (l.map tstA) none] ∧ l.length ≤ maxLen) :=
  (opens_slice (n := 5) Tryd.underlying39 (by kernel_rfl) (by omega) opTest).mono (by
    rintro r ⟨rows, rfl, hl, hr⟩
    obtain ⟨l, rfl, _⟩ := rows_map (enc := tstA) (Q := fun _ => True) (fun x hx => by obtain ⟨t, rfl⟩ := hr x hx; exact ⟨t, rfl, trivial⟩)
    exact ⟨l, rfl, by simpa using hl⟩)
theorem opMask : Opens Tryd.prog 38 (fun r => ∃ n, r = [.v (.int .u64 n)] ∧ (Lit.int .u64 n).wf = true) := opens_int Tryd.underlying38
theorem opRule : Opens Tryd.prog 41 (fun r => ∃ x, r = rulA x) :=
  (opens_fields (l := [(0, 3, 1), (1, 3, 1), (2, 38, 1), (3, 39, 1), (4, 3, 1), (5, 9, 1), (6, 3, 1), (7, 9, 1)]) (n := 8) (by kernel_rfl)
    (.cons _ _ _ _ _ _ _ opI (.cons _ _ _ _ _ _ _ opI (.cons _ _ _ _ _ _ _ opMask (.cons _ _ _ _ _ _ _ opTests (.cons _ _ _ _ _ _ _ opI (.cons _ _ _ _ _ _ _ opS (.cons _ _ _ _ _ _ _ opI (.cons _ _ _ _ _ _ _ opS (.nil _)))))))))).mono (by
    rintro r ⟨_, _, ⟨a, rfl, _⟩, ⟨_, _, ⟨b, rfl, _⟩, ⟨_, _, ⟨c, rfl, _⟩, ⟨_, _, ⟨d, rfl, _⟩, ⟨_, _, ⟨e, rfl, _⟩, ⟨_, _, ⟨f, rfl, _⟩, ⟨_, _, ⟨g, rfl, _⟩, ⟨_, _, ⟨h, rfl, _⟩, rfl, rfl⟩, rfl⟩, rfl⟩, rfl⟩, rfl⟩, rfl⟩, rfl⟩, rfl⟩
    exact ⟨⟨a, b, c, d, e, f, g, h⟩, rfl⟩)
theorem opRules : Opens Tryd.prog 22 (fun r => ∃ l : List Rul, r = [.sl 8 (l.map rulA) none]) :=
  (opens_slice (n := 8) Tryd.underlying22 (by kernel_rfl) (by omega) opRule).mono (by
    rintro r ⟨rows, rfl, _, hr⟩
    obtain ⟨l, rfl, _⟩ := rows_map (enc := rulA) (Q := fun _ => True) (fun x hx => by obtain ⟨t, rfl⟩ := hr x hx; exact ⟨t, rfl, trivial⟩)
    exact ⟨l, rfl⟩)
theorem opBools : Opens Tryd.prog 23 (fun r => ∃ l : List Bool, r = [.sl 1 (l.map bolA) none]) :=
  (opens_slice (n := 1) Tryd.underlying23 (by kernel_rfl) (by omega) opB).mono (by
    rintro r ⟨rows, rfl, _, hr⟩
    obtain ⟨l, rfl, _⟩ := rows_map (enc := bolA) (Q := fun _ => True) (fun x hx => by obtain ⟨t, rfl⟩ := hr x hx; exact ⟨t, rfl, trivial⟩)
    exact ⟨l, rfl⟩)
theorem opFile : Opens Tryd.prog 25 (fun r => ∃ a b, r = [.v (.int .i64 a), .v (.int .i64 b)]) :=
  (opens_fields (l := [(0, 3, 1), (1, 3, 1)]) (n := 2) (by kernel_rfl) (.cons _ _ _ _ _ _ _ opI (.cons _ _ _ _ _ _ _ opI (.nil _)))).mono (by
    rintro r ⟨_, _, ⟨a, rfl, _⟩, ⟨_, _, ⟨b, rfl, _⟩, rfl, rfl⟩, rfl⟩
    exact ⟨a, b, rfl⟩)
theorem opItem : Opens Tryd.prog 77 (fun r => ∃ x, r = itmA x) :=
  (opens_fields (l := [(0, 9, 1), (1, 9, 1), (2, 25, 2), (4, 9, 1), (5, 25, 2), (7, 3, 1), (8, 3, 1), (9, 3, 1), (10, 3, 1), (11, 3, 1), (12, 3, 1)]) (n := 13) (by kernel_rfl)
    (.cons _ _ _ _ _ _ _ opS (.cons _ _ _ _ _ _ _ opS (.cons _ _ _ _ _ _ _ opFile (.cons _ _ _ _ _ _ _ opS (.cons _ _ _ _ _ _ _ opFile (.cons _ _ _ _ _ _ _ opI (.cons _ _ _ _ _ _ _ opI (.cons _ _ _ _ _ _ _ opI (.cons _ _ _ _ _ _ _ opI (.cons _ _ _ _ _ _ _ opI (.cons _ _ _ _ _ _ _ opI (.nil _))))))))))))).mono (by
    rintro r ⟨_, _, ⟨a, rfl, _⟩, ⟨_, _, ⟨b, rfl, _⟩, ⟨_, _, ⟨c, c', rfl⟩, ⟨_, _, ⟨d, rfl, _⟩, ⟨_, _, ⟨e, e', rfl⟩, ⟨_, _, ⟨f, rfl, _⟩, ⟨_, _, ⟨g, rfl, _⟩, ⟨_, _, ⟨h, rfl, _⟩, ⟨_, _, ⟨i, rfl, _⟩, ⟨_, _, ⟨j, rfl, _⟩, ⟨_, _, ⟨k, rfl, _⟩, rfl, rfl⟩, rfl⟩, rfl⟩, rfl⟩, rfl⟩, rfl⟩, rfl⟩, rfl⟩, rfl⟩, rfl⟩, rfl⟩
    exact ⟨⟨a, b, (c, c'), d, (e, e'), f, g, h, i, j, k⟩, rfl⟩)
theorem opItems : Opens Tryd.prog 33 (fun r => ∃ l : List Itm, r = [.sl 13 (l.map itmA) none]) :=
  (opens_slice (n := 13) Tryd.underlying33 (by kernel_rfl) (by omega) opItem).mono (by
    rintro r ⟨rows, rfl, _, hr⟩
    obtain ⟨l, rfl, _⟩ := rows_map (enc := itmA) (Q := fun _ => True) (fun x hx => by obtain ⟨t, rfl⟩ := hr x hx; exact ⟨t, rfl, trivial⟩)
    exact ⟨l, rfl⟩)
theorem opStrs : Opens Tryd.prog 30 (fun r => ∃ rows, r = [.sl 1 rows none]) :=
  (opens_slice (n := 1) Tryd.underlying30 (by kernel_rfl) (by omega) opS).mono (by rintro r ⟨rows, rfl, _⟩; exact ⟨rows, rfl⟩)
theorem opDesc : Opens Tryd.prog 152 (fun _ => True) :=
  (opens_fields (l := [(0, 3, 1), (1, 25, 2), (3, 3, 1)]) (n := 4) (by kernel_rfl)
    (.cons _ _ _ _ _ _ _ opI (.cons _ _ _ _ _ _ _ opFile (.cons _ _ _ _ _ _ _ opI (.nil _))))).mono (fun _ _ => trivial)
theorem opDescs : Opens Tryd.prog 26 (fun r => ∃ rows, r = [.sl 4 rows none]) :=
  (opens_slice (n := 4) Tryd.underlying26 (by kernel_rfl) (by omega) opDesc).mono (by rintro r ⟨rows, rfl, _⟩; exact ⟨rows, rfl⟩)
theorem opArr : Opens Tryd.prog 29 (fun r => ∃ a b c d, r = [.v (.int .i64 a), .v (.int .i64 b), .v (.int .i64 c), .v (.int .i64 d)]) :=
  (opens_array (n := 1) Tryd.underlying29 (by kernel_rfl) (by kernel_rfl) opI).mono (by
    rintro r ⟨_, _, ⟨a, rfl, _⟩, ⟨_, _, ⟨b, rfl, _⟩, ⟨_, _, ⟨c, rfl, _⟩, ⟨_, _, ⟨d, rfl, _⟩, rfl, rfl⟩, rfl⟩, rfl⟩, rfl⟩
    exact ⟨a, b, c, d, rfl⟩)
theorem opCall : Opens Tryd.prog 32 (fun r => ∃ n a b c d ps rs, r = [.v (.int .i64 n), .v (.int .i64 a), .v (.int .i64 b), .v (.int .i64 c), .v (.int .i64 d), .sl 1 ps none, .sl 1 rs none]) :=
  (opens_fields (l := [(0, 3, 1), (1, 29, 4), (5, 30, 1), (6, 30, 1)]) (n := 7) (by kernel_rfl)
    (.cons _ _ _ _ _ _ _ opI (.cons _ _ _ _ _ _ _ opArr (.cons _ _ _ _ _ _ _ opStrs (.cons _ _ _ _ _ _ _ opStrs (.nil _)))))).mono (by
    rintro r ⟨_, _, ⟨n, rfl, _⟩, ⟨_, _, ⟨a, b, c, d, rfl⟩, ⟨_, _, ⟨ps, rfl⟩, ⟨_, _, ⟨rs, rfl⟩, rfl, rfl⟩, rfl⟩, rfl⟩, rfl⟩
    exact ⟨n, a, b, c, d, ps, rs, rfl⟩)
theorem opProc : Opens Tryd.prog 28 (fun r => ∃ a b c d e f g h i j s t os w, r = [.v (.int .i64 a), .v (.int .i64 b), .v (.int .i64 c), .v (.int .i64 d), .v (.int .i64 e), .v (.int .i64 f), .v (.int .i64 g), .v (.int .i64 h), .v (.int .i64 i), .v (.int .i64 j), .v (.string s), .v (.string t), .sl 4 os none, .v (.bool w)]) :=
  (opens_fields (l := [(0, 3, 1), (1, 3, 1), (2, 3, 1), (3, 3, 1), (4, 3, 1), (5, 3, 1), (6, 3, 1), (7, 3, 1), (8, 25, 2), (10, 9, 1), (11, 9, 1), (12, 26, 1), (13, 4, 1)]) (n := 14) (by kernel_rfl)
    (.cons _ _ _ _ _ _ _ opI (.cons _ _ _ _ _ _ _ opI (.cons _ _ _ _ _ _ _ opI (.cons _ _ _ _ _ _ _ opI (.cons _ _ _ _ _ _ _ opI (.cons _ _ _ _ _ _ _ opI (.cons _ _ _ _ _ _ _ opI (.cons _ _ _ _ _ _ _ opI (.cons _ _ _ _ _ _ _ opFile (.cons _ _ _ _ _ _ _ opS (.cons _ _ _ _ _ _ _ opS (.cons _ _ _ _ _ _ _ opDescs (.cons _ _ _ _ _ _ _ opB (.nil _))))))))))))))).mono (by
    rintro r ⟨_, _, ⟨a, rfl, _⟩, ⟨_, _, ⟨b, rfl, _⟩, ⟨_, _, ⟨c, rfl, _⟩, ⟨_, _, ⟨d, rfl, _⟩, ⟨_, _, ⟨e, rfl, _⟩, ⟨_, _, ⟨f, rfl, _⟩, ⟨_, _, ⟨g, rfl, _⟩, ⟨_, _, ⟨h, rfl, _⟩, ⟨_, _, ⟨i, j, rfl⟩, ⟨_, _, ⟨s, rfl, _⟩, ⟨_, _, ⟨t, rfl, _⟩, ⟨_, _, ⟨os, rfl⟩, ⟨_, _, ⟨w, rfl⟩, rfl, rfl⟩, rfl⟩, rfl⟩, rfl⟩, rfl⟩, rfl⟩, rfl⟩, rfl⟩, rfl⟩, rfl⟩, rfl⟩, rfl⟩, rfl⟩
    exact ⟨a, b, c, d, e, f, g, h, i, j, s, t, os, w, rfl⟩)
theorem opContext : Opens Tryd.prog 35 (fun r => ∃ c k, r = ctxA c k) :=
  (opens_fields (l := [(0, 3, 1), (1, 28, 14), (15, 32, 7), (22, 3, 1), (23, 33, 1), (24, 3, 1)]) (n := 25) (by kernel_rfl)
    (.cons _ _ _ _ _ _ _ opI (.cons _ _ _ _ _ _ _ opProc (.cons _ _ _ _ _ _ _ opCall (.cons _ _ _ _ _ _ _ opI (.cons _ _ _ _ _ _ _ opItems (.cons _ _ _ _ _ _ _ opI (.nil _)))))))).mono (by
    rintro r ⟨_, _, ⟨ph, rfl, _⟩, ⟨_, _, ⟨a, b, c, d, e, f, g, h, i, j, s, t, os, w, rfl⟩, ⟨_, _, ⟨n, a0, a1, a2, a3, ps, rs, rfl⟩, ⟨_, _, ⟨x, rfl, _⟩, ⟨_, _, ⟨l, rfl⟩, ⟨_, _, ⟨y, rfl, _⟩, rfl, rfl⟩, rfl⟩, rfl⟩, rfl⟩, rfl⟩, rfl⟩
    exact ⟨⟨ph, a, b, c, d, e, f, g, h, (i, j), s, t, w, n, a0, a1, a2, a3, x, l, y⟩, ⟨os, ps, rs⟩, rfl⟩)
/-- The walk, out of what comes in. -/
theorem RulesMatch_walk {H : Type} {enc : TypeId × Value → H} {sp : Nat → Bool} {held : Bool} {base : Nat} (a0 : Option Addr) (l0 c0 : Nat) (n : Int) (a2 : Option Addr) (l2 c2 : Nat) (cs : Array Value) (w : World) {d0 d2 d3 : DataW H} {p0 p2 p3 : List MemPlace}
    (h0 : DataW.Trod enc Tryd.prog w base sp held 22 (.slice a0 l0 c0) d0 p0) (_ : -9223372036854775808 ≤ n) (_ : n ≤ 9223372036854775807) (h2 : DataW.Trod enc Tryd.prog w base sp held 23 (.slice a2 l2 c2) d2 p2) (h3 : DataW.Trod enc Tryd.prog w base sp held 35 (.agg cs) d3 p3) :
    Calls Tryd.prog 3 #[.slice a0 l0 c0, .int .i64 n, .slice a2 l2 c2, .agg cs] w fun e w' => e = .returned (.bool true) ∧ Below w.heap.size w w' := by
  obtain ⟨r0, ⟨l, rfl⟩, k0⟩ := opRules.one rfl h0
  obtain ⟨r2, ⟨hits, rfl⟩, k2⟩ := opBools.one rfl h2
  obtain ⟨r3, ⟨c, k, rfl⟩, k3⟩ := opContext.agg h3
  simp only [froL] at k0 k2
  obtain ⟨_, _, e0, k0, rfl⟩ := k0
  obtain ⟨_, _, e2, k2, rfl⟩ := k2
  injection e0 with e0
  injection e2 with e2
  subst e0
  subst e2
  refine calls_of (vs := [.slice a0 l0 c0, .int .i64 n, .slice a2 l2 c2, .agg cs]) (Lmatch l n hits c k) (StAll w) (fun b o h => h) ?_
  simp only [repL]
  exact ⟨_, _, rfl, rep_fro (G := ⟨StAll w, [], []⟩) _ _ k0, _, _, rfl, by simp only [rep], _, _, rfl, rep_fro (G := ⟨StAll w, [], []⟩) _ _ k2, _, _, rfl, rep_fro (G := ⟨StAll w, [], []⟩) _ _ k3, rfl⟩
end Go.Proofs.YtokaaebbmcldaaaDoor
