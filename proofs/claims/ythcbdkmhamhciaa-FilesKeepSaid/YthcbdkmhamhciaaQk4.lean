/-
  Part 4 of the proof of FilesKeepP: what the statement's proof uses of the texts in wip/tpl.
-/
import Derived.Lib.SliceRun
import Derived.Lib.AppendZerosOnto
import Derived.Test.YthcbdkmhamhciaaQk3
namespace Go.Proofs.Ythcbdkmhamhciaa
open Go.RowKit
theorem setL_take : ∀ (vs us : List Value) (o : Nat), (setL us o vs).take o = us.take o
 | [], _, _ => rfl
 | v :: vs, us, o => by
   simp only [setL]
   have h1 := setL_take vs (us.set o v) (o + 1)
   have h2 := congrArg (List.take o) h1
   rw [List.take_take, List.take_take, Nat.min_eq_left (by omega)] at h2
   rw [h2]
   apply List.ext_getElem?
   intro k
   rw [List.getElem?_take, List.getElem?_take]
   split
   ·rw [List.getElem?_set_ne (by omega)]
   rfl
section
variable {P : Program} {ev : Operand → Option AV} {h : AH} {R : AV → AH → Prop} {d : Option Tmp} {ty : TypeId} {pos : String} {af : Array Edge} {gd : Option (Nat × Bool)}
theorem st_sliceHiB {T : TypeId} {x hi : Operand} {E sz bytes i off n cap k : Nat} {iv : Int} [hE : Elm P T E sz bytes] (hx : ev x = some (.bs i off sz n cap)) (hh : ev hi = some (.v (.int .i64 iv))) (hi' : iv = (k : Int)) (hk : k ≤ n) (hR : R (.bs i off sz k cap) h) :
    AStep P ⟨d, .slice T x none (some hi) none, ty, pos, af, gd⟩ ev h R := by
 refine st_val (fun _ G w ec _ he => ?_) hR
 have k1 := he x (by simp [Op.operands]) _ hx
 have k2 := he hi (by simp [Op.operands]) _ hh
 simp only [rep] at k1 k2
 obtain ⟨b, e1, e2, e3, e4⟩ := k1
 obtain ⟨hu, inf, z, hinf, hz, hzs, hs, hby, hp⟩ := elm_spec hE.eq
 subst hi'
 have hle : k ≤ cap := by omega
 refine ⟨.slice (some ⟨b, off, none⟩) k cap, ?_, by simp only [rep]; exact ⟨b, e1, rfl, hle, e4⟩⟩
 simp [execOp, e2, k2, Instr.sliceAt, Instr.slice, Instr.sliceBounds, Instr.sliceBound, asIntOf, run_underlying hu, sizeOf, typeInfo, hinf, hs, hle, Addr.add_mid]
theorem st_sliceLoB {T : TypeId} {x lo : Operand} {E sz bytes i off n cap l : Nat} {iv : Int} [hE : Elm P T E sz bytes] (hx : ev x = some (.bs i off sz n cap)) (hh : ev lo = some (.v (.int .i64 iv))) (hi' : iv = (l : Int)) (hk : l < n) (hR : R (.bs i (off + l * sz) sz (n - l) (cap - l)) h) :
    AStep P ⟨d, .slice T x (some lo) none none, ty, pos, af, gd⟩ ev h R := by
 refine st_val (fun _ G w ec _ he => ?_) hR
 have k1 := he x (by simp [Op.operands]) _ hx
 have k2 := he lo (by simp [Op.operands]) _ hh
 simp only [rep] at k1 k2
 obtain ⟨b, e1, e2, e3, e4⟩ := k1
 obtain ⟨hu, inf, z, hinf, hz, hzs, hs, hby, hp⟩ := elm_spec hE.eq
 subst hi'
 have hle : l ≤ n := by omega
 have hne : ¬ cap = l := by omega
 have hne' : ¬ (cap - l = 0) := by omega
 refine ⟨.slice (some ⟨b, off + l * sz, none⟩) (n - l) (cap - l), ?_, by simp only [rep]; exact ⟨b, e1, rfl, by omega, by omega⟩⟩
 simp [execOp, e2, k2, Instr.sliceAt, Instr.slice, Instr.sliceBounds, Instr.sliceBound, asIntOf, run_underlying hu, sizeOf, typeInfo, hinf, hs, hle, hne, hne', Addr.add_mid]
theorem st_clearB {T : TypeId} {x : Operand} {E sz bytes i off n cap : Nat} {row : List AV} {bx' : List (List AV)} {zrow : List AV} [hE : Elm P T E sz bytes] [hzr : Zer P E zrow] (hx : ev x = some (.bs i off sz n cap)) (hb : h.bx[i]? = some row) (hn : 0 < n) (hfit : off + n * sz ≤ row.length) (hset : SetAt h.bx i [row.take off ++ List.replicate (row.length - off) .any] bx') (hR : R (.tup []) ⟨bx', h.tk⟩) :
    AStep P ⟨d, .call { callee := .builtin .clear, args := #[x], argTypes := #[T] }, ty, pos, af, gd⟩ ev h R := by
 intro E' G w ec hr he
 have k1 := he x (by simp [Op.operands, Call.operands]) _ hx
 simp only [rep] at k1
 obtain ⟨b, k3, k4, k5, k6⟩ := k1
 obtain ⟨hu, inf, z, hinf, hz, hzs, hsz, hby, hp⟩ := elm_spec hE.eq
 obtain ⟨us, T', q1, q2, q3⟩ := hr.boxAt k3 hb
 have hlen := repL_length q2
 obtain ⟨zs, hzc⟩ : ∃ zs : List Value, Builtin.zeroCells z.cells n = zs.toArray := ⟨(Builtin.zeroCells z.cells n).toList, by simp⟩
 have hzl : zs.length = n * sz := by
  have := size_zeroCells z.cells n
  rw [hzc, hzs] at this
  simpa using this
 have hone : ∀ u ∈ zs, u.oneCell' = true := by
  intro u hu
  have : u ∈ Builtin.zeroCells z.cells n := by rw [hzc]; simpa using hu
  exact zero_one hzr hinf hz this
 have hst := run_storeCells_cells (P := P) b off zs 0 w (fun j hj => by simp only [World.cell?, q1]; simp; omega) (fun j hj => by simp [World.frozen?, q1]) hone
 simp only [Nat.add_zero] at hst
 obtain ⟨m, rfl⟩ : ∃ m, n = m + 1 := ⟨n - 1, by omega⟩
 have hrun : (Builtin.clear_ #[T] ty #[.slice (some ⟨b, off, none⟩) (m + 1) cap]).run P w = .ok (.tuple #[]) (w.setCells b off zs) := by
  simp [Builtin.clear_, run_underlying hu, zeroValue, typeInfo, hinf, hz, hzc, hst]
 obtain ⟨r1, r2, r3, r4, r5, r6⟩ := setCells_heap b T' zs off us w q1
 obtain ⟨t1, t2⟩ := hr.setBox (w' := w.setCells b off zs) (row := row.take off ++ List.replicate (row.length - off) .any) k3 r4 r5 r6 r3 r2 ⟨_, T', r1, by
  rw [← List.take_append_drop off (setL us off zs), setL_take]
  refine repL_app (repL_take q2 off) ?_
  have : ((setL us off zs).drop off).length = row.length - off := by rw [List.length_drop, setL_length]; omega
  rw [← this]
  exact repL_anys _, fun u hu => by
   rcases setL_mem zs us off u hu with e | e
   ·exact q3 u e
   exact hone u e⟩
 have hbx := (SetAt.one hset).2
 subst hbx
 simp only [execOp, resolve, invoke, builtin, Sem.run_bind, Sem.run_pure, Result.andThen_ok, List.map_toArray, List.map_cons, List.map_nil, k4, hrun]
 exact ⟨_, _, G, hR, t1, t2, by simp only [rep, repL]; exact ⟨[], rfl, rfl⟩⟩
end
section
variable {P : Program} {ev : Operand → Option AV} {h : AH} {R : AV → AH → Prop} {d : Option Tmp} {ty : TypeId} {pos : String} {af : Array Edge} {gd : Option (Nat × Bool)}
theorem zero_mod {z : Value} {k n : Nat} (hk : 0 < k) (hs : z.cells.size = k) {u : Value} (hu : u ∈ ((Array.range n).map fun x => z.cells[x % z.cells.size]!).toList) : u ∈ Builtin.zeroCells z.cells (n + 1) := by
 simp only [Array.toList_map, Array.toList_range, List.mem_map, List.mem_range] at hu
 obtain ⟨i, hi, rfl⟩ := hu
 simp only [Builtin.zeroCells, Array.mem_map, Array.mem_range]
 refine ⟨i, ?_, rfl⟩
 rw [hs]
 have : n + 1 ≤ (n + 1) * k := Nat.le_mul_of_pos_right _ hk
 omega
theorem st_makeB {T : TypeId} {x y : Operand} {E sz bytes l m k : Nat} {i j : Int} {zrow : List AV} {bx' : List (List AV)} [hE : Elm P T E sz bytes] [hzr : Zer P E zrow] (hx : ev x = some (.v (.int .i64 i))) (hy : ev y = some (.v (.int .i64 j))) (hi : i = (l : Int)) (hj : j = (m : Int)) (hlm : l ≤ m) (hm0 : 0 < m) (hm : m ≤ 1000000)
    (hset : SnocAt h.bx (List.replicate (m * sz) .any) k bx') (hR : R (.bs k 0 sz l m) ⟨bx', h.tk⟩) : AStep P ⟨d, .makeSlice T x y, ty, pos, af, gd⟩ ev h R := by
 intro E' G w ec hr he
 have k1 := he x (by simp [Op.operands]) _ hx
 have k2 := he y (by simp [Op.operands]) _ hy
 simp only [rep] at k1 k2
 subst hi hj
 obtain ⟨hu, inf, z, hinf, hz, hzs, hs, hby, hp⟩ := elm_spec hE.eq
 have hw : IntKind.i64.wrap (m : Int) = m := IntWalk.i64_in _ (by omega)
 have hw0 : IntKind.i64.wrap (l : Int) = l := IntWalk.i64_in _ (by omega)
 have hbig : ∀ q : Nat, q ≤ m → ¬ (inf.bytes : Int) * (q : Int) > 2 ^ 48 := by
  intro q hq
  have h1 : inf.bytes * q ≤ 100000 * 1000000 := Nat.mul_le_mul (by rw [hby]; exact hE.few) (by omega)
  have h2 : ((inf.bytes * q : Nat) : Int) ≤ 100000000000 := by omega
  rw [Int.natCast_mul] at h2
  omega
 have hneg : ¬ ((m : Int) < 0) := by omega
 have hneg2 : ¬ ((l : Int) < 0) := by omega
 have hgt : ¬ ((l : Int) > (m : Int)) := by omega
 have hrun : ∃ cells : Array Value, cells.size = m * sz ∧ (∀ u ∈ cells.toList, u.oneCell' = true) ∧ (Instr.makeSlice T (.int .i64 l) (.int .i64 m)).run P w = .ok (.slice (some ⟨w.heap.size, 0, none⟩) l m) (w.alloc (.cells cells E)) := by
  have hc : (decide ((m : Int) < 0) || decide ((inf.bytes : Int) * (m : Int) > 2 ^ 48)) = false := by rw [decide_eq_false hneg, decide_eq_false (hbig m (Nat.le_refl _))]; rfl
  have h0 : ¬ m * sz = 0 := by
   have : 0 < m * sz := Nat.mul_pos hm0 hp
   omega
  refine ⟨(Array.range (m * sz)).map fun x => z.cells[x % z.cells.size]!, by simp, fun u hu => zero_one hzr hinf hz (zero_mod hp hzs hu), ?_⟩
  have hb := hbig m (Nat.le_refl _)
  have hnb : (inf.bytes : Int) * (m : Int) ≤ 2 ^ 48 := by omega
  simp [Instr.makeSlice, run_underlying hu, asInt, asIntOf, typeInfo, hinf, hw, hw0, hneg, hneg2, hlm, sizeOf, hs, h0, newRow, zeroValue, hz]
  omega
 obtain ⟨cells, c1, c2, c3⟩ := hrun
 have hcl : cells = cells.toList.toArray := by simp
 rw [hcl] at c3
 have hlen : cells.toList.length = m * sz := by simpa using c1
 have hrep : repL G w (List.replicate (m * sz) .any) cells.toList := by
  rw [← hlen]
  exact repL_anys _
 obtain ⟨G', s1, s2, s3⟩ := new_box (T := E) hr hrep c2 hset
 simp only [rep] at s3
 obtain ⟨b', s4, s5⟩ := s3
 simp only [execOp, k1, k2, Sem.run_bind, c3, Result.andThen_ok, Sem.run_pure]
 refine ⟨_, _, G', hR, s1, s2, ?_⟩
 simp only [rep]
 injection s5 with s5
 injection s5 with s5
 injection s5 with s5
 exact ⟨b', s4, by rw [s5], hlm, by unfold maxLen; omega⟩
theorem st_capB {T : TypeId} {x : Operand} {E sz bytes i off n cap : Nat} [hE : Elm P T E sz bytes] (hx : ev x = some (.bs i off sz n cap)) (hR : R (.v (.int .i64 (cap : Int))) h) : AStep P ⟨d, .call { callee := .builtin .cap, args := #[x], argTypes := #[T] }, ty, pos, af, gd⟩ ev h R := by
 refine st_val (fun _ G w ec _ he => ?_) hR
 have k1 := he x (by simp [Op.operands, Call.operands]) _ hx
 simp only [rep] at k1
 obtain ⟨b, e1, e2, e3, e4⟩ := k1
 obtain ⟨hu, _⟩ := elm_spec hE.eq
 refine ⟨.int .i64 (cap : Int), ?_, by simp only [rep]⟩
 simp [execOp, resolve, invoke, builtin, e2, Builtin.cap_, run_underlying hu, goInt]
theorem st_slice2B {T : TypeId} {x lo hi : Operand} {E sz bytes i off n cap l k : Nat} {iv jv : Int} [hE : Elm P T E sz bytes] (hx : ev x = some (.bs i off sz n cap)) (hl : ev lo = some (.v (.int .i64 iv))) (hh : ev hi = some (.v (.int .i64 jv))) (hl' : iv = (l : Int)) (hh' : jv = (k : Int)) (hlk : l ≤ k) (hk : k ≤ cap) (hlc : l < cap) (hR : R (.bs i (off + l * sz) sz (k - l) (cap - l)) h) :
    AStep P ⟨d, .slice T x (some lo) (some hi) none, ty, pos, af, gd⟩ ev h R := by
 refine st_val (fun _ G w ec _ he => ?_) hR
 have k1 := he x (by simp [Op.operands]) _ hx
 have k2 := he lo (by simp [Op.operands]) _ hl
 have k3 := he hi (by simp [Op.operands]) _ hh
 simp only [rep] at k1 k2 k3
 obtain ⟨b, e1, e2, e3, e4⟩ := k1
 obtain ⟨hu, inf, z, hinf, hz, hzs, hs, hby, hp⟩ := elm_spec hE.eq
 subst hl' hh'
 have hne : ¬ cap = l := by omega
 have hne' : ¬ (cap - l = 0) := by omega
 refine ⟨.slice (some ⟨b, off + l * sz, none⟩) (k - l) (cap - l), ?_, by simp only [rep]; exact ⟨b, e1, rfl, by omega, by omega⟩⟩
 simp [execOp, e2, k2, k3, Instr.sliceAt, Instr.slice, Instr.sliceBounds, Instr.sliceBound, asIntOf, run_underlying hu, sizeOf, typeInfo, hinf, hs, hk, hlk, hne, hne', Addr.add_mid]
theorem st_slice3B {T : TypeId} {x lo hi mx : Operand} {E sz bytes i off n cap l k q : Nat} {iv jv mv : Int} [hE : Elm P T E sz bytes] (hx : ev x = some (.bs i off sz n cap)) (hl : ev lo = some (.v (.int .i64 iv))) (hh : ev hi = some (.v (.int .i64 jv))) (hm : ev mx = some (.v (.int .i64 mv))) (hl' : iv = (l : Int)) (hh' : jv = (k : Int)) (hm' : mv = (q : Int)) (hlk : l ≤ k) (hkq : k ≤ q) (hq : q ≤ cap) (hlc : l < q) (hR : R (.bs i (off + l * sz) sz (k - l) (q - l)) h) :
    AStep P ⟨d, .slice T x (some lo) (some hi) (some mx), ty, pos, af, gd⟩ ev h R := by
 refine st_val (fun _ G w ec _ he => ?_) hR
 have k1 := he x (by simp [Op.operands]) _ hx
 have k2 := he lo (by simp [Op.operands]) _ hl
 have k3 := he hi (by simp [Op.operands]) _ hh
 have k4 := he mx (by simp [Op.operands]) _ hm
 simp only [rep] at k1 k2 k3 k4
 obtain ⟨b, e1, e2, e3, e4⟩ := k1
 obtain ⟨hu, inf, z, hinf, hz, hzs, hs, hby, hp⟩ := elm_spec hE.eq
 subst hl' hh' hm'
 have hne : ¬ q = l := by omega
 have hne' : ¬ (q - l = 0) := by omega
 refine ⟨.slice (some ⟨b, off + l * sz, none⟩) (k - l) (q - l), ?_, by simp only [rep]; exact ⟨b, e1, rfl, by omega, by omega⟩⟩
 simp [execOp, e2, k2, k3, k4, Instr.sliceAt, Instr.slice, Instr.sliceBounds, Instr.sliceBound, asIntOf, run_underlying hu, sizeOf, typeInfo, hinf, hs, hq, hkq, hlk, hne, hne', Addr.add_mid]
theorem st_copyB {T T2 : TypeId} {x y : Operand} {E sz bytes i off n cap m : Nat} {row row' cs : List AV} {av : AV} {bx' : List (List AV)} [hE : Elm P T E sz bytes] (hx : ev x = some (.bs i off sz n cap)) (hy : ev y = some av) (hb : h.bx[i]? = some row) (hsrc : SrcA h sz av m cs) (hm : 0 < m) (hmn : m ≤ n) (hfit : off + n * sz ≤ row.length)
    (hset : SetAt row off cs row') (hbx : SetAt h.bx i [row'] bx') (hR : R (.v (.int .i64 (m : Int))) ⟨bx', h.tk⟩) : AStep P ⟨d, .call { callee := .builtin .copy, args := #[x, y], argTypes := #[T, T2] }, ty, pos, af, gd⟩ ev h R := by
 intro E' G w ec hr he
 have k1 := he x (by simp [Op.operands, Call.operands]) _ hx
 have k2 := he y (by simp [Op.operands, Call.operands]) _ hy
 obtain ⟨hu, inf, z, hinf, hz, hzs, hsz, hbts, hp⟩ := elm_spec hE.eq
 obtain ⟨ad, c, us, e1, e2, e3, e4, e5⟩ := hsrc.run hr k2 hp hm
 simp only [rep] at k1
 obtain ⟨b, k3, k4, k5, k6⟩ := k1
 obtain ⟨vs, Tb, q1, q2, q3⟩ := hr.boxAt k3 hb
 have hlen := repL_length q2
 have hmn2 : m * sz ≤ n * sz := Nat.mul_le_mul_right _ hmn
 have hl := run_loadCells_list (P := P) w ad us e5
 rw [e2] at hl
 have hst := run_storeCells_cells (P := P) b off us 0 w (fun j hj => by simp only [World.cell?, q1]; simp; omega) (fun j hj => by simp [World.frozen?, q1]) e4
 simp only [Nat.add_zero] at hst
 have hrun : (Builtin.copy_ #[T, T2] ty #[.slice (some ⟨b, off, none⟩) n cap, .slice (some ad) m c]).run P w = .ok (.int .i64 (m : Int)) (w.setCells b off us) := by
  have hmin : Nat.min m n = m := Nat.min_eq_left hmn
  simp [Builtin.copy_, run_underlying hu, Builtin.lenOf, Builtin.firstCells, sizeOf, typeInfo, hinf, hsz, hmin, hl, hst, goInt]
 obtain ⟨r1, r2, r3, r4, r5, r6⟩ := setCells_heap b Tb us off vs w q1
 obtain ⟨m1, _⟩ := hset.rep q2 e3
 obtain ⟨t1, t2⟩ := hr.setBox (w' := w.setCells b off us) (row := row') k3 r4 r5 r6 r3 r2 ⟨_, Tb, r1, m1, fun u hu => by
  rcases setL_mem us vs _ u hu with e | e
  ·exact q3 u e
  exact e4 u e⟩
 have hbe := (SetAt.one hbx).2
 subst hbe
 simp only [execOp, resolve, invoke, builtin, Sem.run_bind, Sem.run_pure, Result.andThen_ok, List.map_toArray, List.map_cons, List.map_nil, k4, e1, hrun]
 exact ⟨_, _, G, hR, t1, t2, by simp only [rep]⟩
end
section
variable {P : Program} {ev : Operand → Option AV} {bx : List (List AV)} {tk : List Tok} {R : AV → AH → Prop} {d : Option Tmp} {ty : TypeId} {pos : String} {af : Array Edge} {gd : Option (Nat × Bool)} {ats : Array TypeId}
theorem s_callMC {f : FuncId} {fo : Operand} {l : List Operand} {ys : List AV} {rows : List (List AV)} {R0 : AV → List (List AV) → List Tok → Prop} (is : List Nat) [Fun P f] (hfo : ev fo = some (.fn f [])) (ha : ArgsM (fun j => plcOf' j is 0) ev l ys) (hnd : is.Nodup) (hh : Hand bx (fun j => plcOf' j is 0) is rows) (hc : ACall P f ys rows R0)
    (hR : ∀ r bc tc, R0 r bc tc → tc = [] ∧ ∃ bx', Back bx is bc bx' ∧ R (ren (backS is bx.length) r) ⟨bx', tk⟩) : AStep P ⟨d, .call { callee := .value fo, args := l.toArray, argTypes := ats }, ty, pos, af, gd⟩ ev ⟨bx, tk⟩ R := by
 intro E G w ec hr he
 obtain ⟨cs, k1, k2⟩ := func_op (he fo (by simp [Op.operands, Call.operands]) _ hfo)
 simp only [repL] at k2
 subst k2
 obtain ⟨bs, hbs⟩ : ∃ bs : List Nat, bs.length = is.length ∧ ∀ (k i : Nat), is[k]? = some i → ∃ b, G.bx[i]? = some b ∧ bs[k]? = some b := by
  refine ⟨is.map fun i => (G.bx[i]?).getD 0, by simp, fun k i hk => ?_⟩
  obtain ⟨row, h1, _⟩ := hh.get.2 k i hk
  have hlt : i < G.bx.length := by rw [hr.bxlen]; exact (List.getElem?_eq_some_iff.1 h1).1
  exact ⟨G.bx[i], List.getElem?_eq_getElem hlt, by rw [List.getElem?_map, hk]; simp [hlt]⟩
 obtain ⟨s1, s2⟩ := handM_start hr hnd hbs hh
 refine upon_call k1 ?_
 rw [List.append_nil]
 have hargs : ∀ {l : List Operand} {ys : List AV}, ArgsM (fun j => plcOf' j is 0) ev l ys → (∀ x ∈ l, ∀ av, ev x = some av → rep G w av (ec x)) → repL ⟨G.St, bs, []⟩ w ys (l.map ec) := by
  intro l ys h
  induction h with
  | nil => intro _; simp only [List.map_nil, repL]
  | cons o x y l ys h1 h2 _ ih =>
    intro he
    simp only [List.map_cons, repL]
    exact ⟨_, _, rfl, h2 _ _ _ (rep_ren (G := G) (G' := ⟨G.St, bs, []⟩) rfl s2 _ _ (he o (by simp) _ h1)), ih fun x hx => he x (by simp [hx])⟩
 refine Calls.mono (hc w G.St bs _ s1 (hargs ha fun x hx av hav => he x (by simp [Op.operands, Call.operands, hx]) av hav)) ?_
 intro e w' h3
 cases e with
 | returned v =>
   obtain ⟨r, bc, tc, Gc, hR0, h1, h2, h3⟩ := h3
   obtain ⟨rfl, bx', q1, q2⟩ := hR r bc tc hR0
   obtain ⟨m1, m2, m3⟩ := handM_merge hr hbs h1 h2 q1
   exact ⟨_, _, _, q2, m1, m2, rep_ren (G := Gc) (G' := ⟨Gc.St, G.bx ++ Gc.bx.drop is.length, G.tk⟩) rfl m3 _ _ h3⟩
 | panicked c => exact h3.elim
 | outgrown => exact h3.elim
end
section
variable {P : Program} {ev : Operand → Option AV} {h : AH} {R : AV → AH → Prop} {d : Option Tmp} {ty : TypeId} {pos : String} {af : Array Edge} {gd : Option (Nat × Bool)}
theorem st_appendNB {T T2 : TypeId} {s y : Operand} {T' sz bytes i off n cap q : Nat} {kn : IntKind} {qv : Int} {row : List AV} {zrow : List AV} [hE : Elm P T T' sz bytes] [hzr : Zer P T' zrow] (hT2 : P.underlying T2 = some (.int kn)) (hs : ev s = some (.bs i off sz n cap)) (hy : ev y = some (.v (.int .i64 qv))) (hq : qv = (q : Int)) (hb : h.bx[i]? = some row) (hfit : off + cap * sz ≤ row.length) (h0 : 0 < q) (hgrow : cap < n + q) (hsm : n + q ≤ 1000000)
    (grow : ∀ cap' k bx', n + q ≤ cap' → SnocAt h.bx ((row.drop off).take (n * sz) ++ List.replicate ((cap' - n) * sz) .any) k bx' → R (.bs k 0 sz (n + q) cap') ⟨bx', h.tk⟩) : AStep P ⟨d, .call { callee := .builtin .append, args := #[s, y], argTypes := #[T, T2] }, ty, pos, af, gd⟩ ev h R := by
 intro E G w ec hr he
 have k1 := he s (by simp [Op.operands, Call.operands]) _ hs
 have k2 := he y (by simp [Op.operands, Call.operands]) _ hy
 obtain ⟨hu, inf, z, hinf, hz, hzs, hsz, hbts, hp⟩ := elm_spec hE.eq
 simp only [rep] at k1 k2
 subst hq
 obtain ⟨b, k3, k4, k5, k6⟩ := k1
 obtain ⟨vs, Tb, q1, q2, q3⟩ := hr.boxAt k3 hb
 have hlen := repL_length q2
 have hold : ∀ j u, ((vs.drop off).take (n * sz))[j]? = some u → w.drew.cell? ((⟨b, off, none⟩ : Addr).add j) = some u := by
  intro j u hj
  rw [Addr.add_mid]
  have e : w.drew.cell? ⟨b, off + j, none⟩ = w.cell? ⟨b, off + j, none⟩ := rfl
  rw [e]
  simp only [World.cell?, q1]
  rw [List.getElem?_take] at hj
  split at hj
  ·rw [List.getElem?_drop] at hj; simpa using hj
  cases hj
 have hnf : n * sz ≤ cap * sz := Nat.mul_le_mul_right _ k5
 have hol : ((vs.drop off).take (n * sz)).length = n * sz := by simp; omega
 have hby := hE.few
 have hbb : (n + q) * bytes ≤ 1000000 * 100000 := Nat.mul_le_mul hsm hby
 have hqb : q * bytes ≤ 1000000 * 100000 := Nat.mul_le_mul (by omega) hby
 have hfc := run_firstCells_some (P := P) w.drew inf.size n ⟨b, off, none⟩ n cap ((vs.drop off).take (n * sz)) (by rw [hsz]; exact hol) hold
 have hrun := Lib.run_append_grow_zeros (P := P) w T T2 ty T' inf z .i64 kn hu hT2 hinf hz (some ⟨b, off, none⟩) n cap ((vs.drop off).take (n * sz)) hfc q h0 (by rw [hsz]; exact hp) hgrow (by omega) (by rw [hbts]; omega) (growslice_fits (by omega) (by rw [hbts]; omega))
 have hge := grownCap_ge w (n + q) cap T'
 have hcm : grownCap w (n + q) cap T' ≤ maxLen := grownCap_le_maxLen w (n + q) cap T' (by unfold maxLen; omega)
 generalize hgc : grownCap w (n + q) cap T' = cap' at hrun hge hcm
 obtain ⟨d1, d2⟩ := hr.drew
 have zc : ∀ k : Nat, ∃ zs : List Value, Builtin.zeroCells z.cells k = zs.toArray ∧ zs.length = k * sz ∧ ∀ u ∈ zs, u.oneCell' = true := by
  intro k
  refine ⟨(Builtin.zeroCells z.cells k).toList, by simp, ?_, fun u hu => ?_⟩
  ·have := size_zeroCells z.cells k
   rw [hzs] at this
   simpa using this
  exact zero_one hzr hinf hz (by simpa using hu)
 obtain ⟨z1, hz1, hl1, ho1⟩ := zc q
 obtain ⟨z2, hz2, hl2, ho2⟩ := zc (cap' - (n + q))
 have hrep : repL G w.drew ((row.drop off).take (n * sz) ++ List.replicate ((cap' - n) * sz) .any) ((vs.drop off).take (n * sz) ++ (z1 ++ z2)) := by
  refine repL_app (repL_mono d2 _ _ (repL_take (repL_drop q2 off) _)) ?_
  have e : (cap' - n) * sz = (z1 ++ z2).length := by
   rw [List.length_append, hl1, hl2, ← Nat.add_mul]
   congr 1
   omega
  rw [e]
  exact repL_anys _
 obtain ⟨k, bx', hsn⟩ : ∃ k bx', SnocAt h.bx ((row.drop off).take (n * sz) ++ List.replicate ((cap' - n) * sz) .any) k bx' := ⟨_, _, snoc_ex _ _⟩
 obtain ⟨G', s1, s2, s3⟩ := new_box (T := T') d1 hrep (by
  intro u hu
  rcases List.mem_append.1 hu with hu | hu
  ·exact q3 u (List.mem_of_mem_drop (List.mem_of_mem_take hu))
  rcases List.mem_append.1 hu with hu | hu
  ·exact ho1 u hu
  exact ho2 u hu) hsn
 rw [hz1, hz2] at hrun
 have hcells : ((vs.drop off).take (n * sz)).toArray ++ z1.toArray ++ z2.toArray = ((vs.drop off).take (n * sz) ++ (z1 ++ z2)).toArray := by simp
 rw [hcells] at hrun
 simp only [rep] at s3
 obtain ⟨b', s4, s5⟩ := s3
 simp only [execOp, resolve, invoke, builtin, Sem.run_bind, Sem.run_pure, Result.andThen_ok, List.map_toArray, List.map_cons, List.map_nil, k4, k2, hrun]
 refine ⟨_, _, G', grow cap' k bx' hge hsn, s1, d2.trans s2, ?_⟩
 simp only [rep]
 injection s5 with s5
 injection s5 with s5
 injection s5 with s5
 have s5' : w.heap.size = b' := s5
 exact ⟨b', s4, by rw [s5'], hge, hcm⟩
theorem st_sliceAny {T : TypeId} {x lo : Operand} {E sz bytes i off n cap l : Nat} {iv : Int} [hE : Elm P T E sz bytes] (hx : ev x = some (.bs i off sz n cap)) (hl : ev lo = some (.v (.int .i64 iv))) (hl' : iv = (l : Int)) (hk : l ≤ n) (hR : R .any h) : AStep P ⟨d, .slice T x (some lo) none none, ty, pos, af, gd⟩ ev h R := by
 refine st_val (fun _ G w ec _ he => ?_) hR
 have k1 := he x (by simp [Op.operands]) _ hx
 have k2 := he lo (by simp [Op.operands]) _ hl
 simp only [rep] at k1 k2
 obtain ⟨b, e1, e2, e3, e4⟩ := k1
 obtain ⟨hu, inf, z, hinf, hz, hzs, hs, hby, hp⟩ := elm_spec hE.eq
 subst hl'
 refine ⟨.slice (if cap = l then some ⟨b, off, none⟩ else Option.map (fun y : Addr => y.add (l * sz)) (some ⟨b, off, none⟩)) (n - l) (cap - l), ?_, by simp only [rep]⟩
 simp [execOp, e2, k2, Instr.sliceAt, Instr.slice, Instr.sliceBounds, Instr.sliceBound, asIntOf, run_underlying hu, sizeOf, typeInfo, hinf, hs, hk]
theorem st_sliceNil {T : TypeId} {x lo : Operand} {E sz bytes : Nat} [hE : Elm P T E sz bytes] (hx : ev x = some (.v (.slice none 0 0))) (hl : ev lo = some (.v (.int .i64 0))) (hR : R .any h) : AStep P ⟨d, .slice T x (some lo) none none, ty, pos, af, gd⟩ ev h R := by
 refine st_val (fun _ G w ec _ he => ?_) hR
 have k1 := he x (by simp [Op.operands]) _ hx
 have k2 := he lo (by simp [Op.operands]) _ hl
 simp only [rep] at k1 k2
 obtain ⟨hu, inf, z, hinf, hz, hzs, hs, hby, hp⟩ := elm_spec hE.eq
 refine ⟨.slice none 0 0, ?_, by simp only [rep]⟩
 simp [execOp, k1, k2, Instr.sliceAt, Instr.slice, Instr.sliceBounds, Instr.sliceBound, asIntOf, run_underlying hu, sizeOf, typeInfo, hinf, hs]
end
def backF (bx : List (List AV)) (g : Nat → Option Nat) : List Nat → List (List AV) → List (List AV)
 | [], bc => bx ++ bc.map (renL g)
 | i :: is, [] => backF bx g is []
 | i :: is, r :: bc => backF (bx.set i (renL g r)) g is bc
theorem backF_len {g : Nat → Option Nat} : ∀ (is : List Nat) (bx bc : List (List AV)), is.length ≤ bc.length → (backF bx g is bc).length = bx.length + (bc.length - is.length)
 | [], bx, bc, _ => by simp [backF]
 | i :: is, bx, [], h => by simp at h
 | i :: is, bx, r :: bc, h => by
   unfold backF
   rw [backF_len is _ bc (by simpa using h)]
   simp
theorem backF_out {g : Nat → Option Nat} : ∀ (is : List Nat) (bx bc : List (List AV)) (i : Nat), i ∉ is → i < bx.length → (backF bx g is bc)[i]? = bx[i]?
 | [], bx, bc, i, _, hi => by unfold backF; rw [List.getElem?_append_left hi]
 | j :: is, bx, [], i, h, hi => by
   unfold backF
   exact backF_out is bx [] i (fun hm => h (List.mem_cons_of_mem _ hm)) hi
 | j :: is, bx, r :: bc, i, h, hi => by
   unfold backF
   rw [backF_out is _ bc i (fun hm => h (List.mem_cons_of_mem _ hm)) (by simpa using hi), List.getElem?_set_ne (fun e => h (by rw [e]; exact List.mem_cons_self ..))]
theorem backF_ins {g : Nat → Option Nat} : ∀ (is : List Nat) (bx bc : List (List AV)) (k i : Nat) (row : List AV), is.Nodup → i < bx.length → is[k]? = some i → bc[k]? = some row → (backF bx g is bc)[i]? = some (renL g row)
 | [], _, _, _, _, _, _, _, h, _ => by simp at h
 | j :: is, bx, [], k, i, row, _, _, _, h => by simp at h
 | j :: is, bx, r :: bc, 0, i, row, hn, hi, h1, h2 => by
   simp at h1 h2
   subst h1 h2
   unfold backF
   rw [backF_out is _ bc j (List.nodup_cons.1 hn).1 (by simpa using hi), List.getElem?_set_self hi]
 | j :: is, bx, r :: bc, k + 1, i, row, hn, hi, h1, h2 => by
   unfold backF
   exact backF_ins is _ bc k i row (List.nodup_cons.1 hn).2 (by simpa using hi) (by simpa using h1) (by simpa using h2)
theorem backF_new {g : Nat → Option Nat} : ∀ (is : List Nat) (bx bc : List (List AV)) (k : Nat) (row : List AV), bc[is.length + k]? = some row → (backF bx g is bc)[bx.length + k]? = some (renL g row)
 | [], bx, bc, k, row, h => by
   unfold backF
   rw [List.getElem?_append_right (by omega), show bx.length + k - bx.length = k by omega, List.getElem?_map]
   simp at h
   rw [h]; rfl
 | j :: is, bx, [], k, row, h => by simp at h
 | j :: is, bx, r :: bc, k, row, h => by
   unfold backF
   have := backF_new (g := g) is (bx.set j (renL g r)) bc k row (by simpa [Nat.add_right_comm] using h)
   simpa using this
theorem back_F {bx : List (List AV)} {is : List Nat} {bc : List (List AV)} (hn : is.Nodup) (hi : ∀ i ∈ is, i < bx.length) (hl : is.length ≤ bc.length) : Back bx is bc (backF bx (backS is bx.length) is bc) := by
 refine ⟨backF_len is bx bc hl, fun i row h1 h2 => ?_, fun k i row h1 h2 => ?_, fun k row h => backF_new is bx bc k row h⟩
 ·rw [backF_out is bx bc i h1 (List.getElem?_eq_some_iff.1 h2).1]; exact h2
 exact backF_ins is bx bc k i row hn (hi i (List.mem_of_getElem? h1)) h1 h2
section
variable {P : Program} {N : Dim} {Q : Exit → AS → Prop} {s : AS}
def AC (P : Program) (N : Dim) (y : Code) (Q : Exit → AS → Prop) (s : AS) : Prop := AWp P N y Q s
theorem q_ {x y : Code} (h : AWp P N x (AThen (AC P N y Q) Q) s) : AWp P N (.seq x y) Q s := by
 intro E a w hr
 refine wp_seq (wp_mono (h E a w hr) ?_)
 rintro e a' w' ⟨s', hq, hr'⟩
 cases e with
 | normal => exact hq E a' w' hr'
 | exit id => exact ⟨s', hq, hr'⟩
 | goto l => exact ⟨s', hq, hr'⟩
 | ret => exact ⟨s', hq, hr'⟩
 | panic c => exact ⟨s', hq, hr'⟩
 | outgrown => exact ⟨s', hq, hr'⟩
theorem w_ {id : Nat} {l : List Oper} {y : Code} (h : AL P N l.toArray (AThen (AC P N y Q) Q) l s) : AWp P N (.seq (.region id l.toArray false) y) Q s := q_ (aw_region h)
theorem t_ {y : Code} (h : AWp P N y Q s) : AThen (AC P N y Q) Q .normal s := h
theorem e_ {ops : Array Oper} {y : Code} (h : AWp P N y Q s) : AL P N ops (AThen (AC P N y Q) Q) [] s := al_nil h
theorem kt_ {y : Code} (h : AWp P N y Q s) : AWp P N .skip (AThen (AC P N y Q) Q) s := aw_skip h
theorem cy_ {c : Operand} {x y : Code} {t : Bool} (hc : evs s.sl c = some (.v (.bool t)) := by rfl) (ht : t = true := by first | rfl | assumption | simp [*]) (h : AWp P N x Q s) : AWp P N (.cond c x y) Q s := aw_cy hc ht h
theorem cn_ {c : Operand} {x y : Code} {t : Bool} (hc : evs s.sl c = some (.v (.bool t)) := by rfl) (ht : t = false := by first | rfl | assumption | simp [*]) (h : AWp P N y Q s) : AWp P N (.cond c x y) Q s := aw_cn hc ht h
end
section
variable {P : Program} {N : Dim} {Q : Exit → AS → Prop} {ops : Array Oper} {rest : List Oper} {l : List (Nat × AV)} {hh : AH} {op : Op} {ty : TypeId} {pos : String} {af : Array Edge}
theorem g0_ {d j : Nat} {want t : Bool} (hd : Nat.blt d N.n = true := by rfl) (hy : yv ops (look l) j = some (some t) := by rfl) (ht : (t == want) = false := by first | rfl | exact beq_tf ‹_› | exact beq_ft ‹_› | simp [*]) (h : AL P N ops Q rest ⟨look ((d, .v undef) :: l), hh⟩) : AL P N ops Q (⟨some d, op, ty, pos, af, some (j, want)⟩ :: rest) ⟨look l, hh⟩ := al_gn hd hy ht h
end
def KB : List (Nat × List AV) → AH → Prop
 | [], _ => True
 | (i, r) :: l, h => h.bx[i]? = some r ∧ KB l h
def lookB : List (Nat × List AV) → Nat → Option (List AV)
 | [], _ => none
 | (i, r) :: l, j => match Nat.beq i j with
   | true => some r
   | false => lookB l j
theorem kb : ∀ {l : List (Nat × List AV)} {h : AH} {i : Nat} {row : List AV}, KB l h → lookB l i = some row → h.bx[i]? = some row
 | [], _, _, _, _, e => by cases e
 | (j, r) :: l, h, i, row, k, e => by
   unfold lookB at e
   split at e
   ·rename_i hb
    have := Nat.eq_of_beq_eq_true hb
    subst this
    injection e with e
    subst e
    exact k.1
   exact kb k.2 e
theorem kb_n (h : AH) : KB [] h := trivial
theorem kb_c {l : List (Nat × List AV)} {h : AH} {i : Nat} {r : List AV} (h1 : h.bx[i]? = some r) (h2 : KB l h) : KB ((i, r) :: l) h := ⟨h1, h2⟩
def Do (_i : Nat) (B A : Prop) : Prop := B → A
section
variable {P : Program} {N : Dim} {l : List Oper} {Q : Exit → AS → Prop} {S : AH → Prop} {tl fuel : Nat} {listed : Array Bool} {m : List (Nat × AV)} {hh : AH} {op : Op} {ty : TypeId} {pos : String} {af : Array Edge} {gd : Option (Nat × Bool)}
theorem do_r {i d : Nat} {x : AV} (hi : l[i]? = some ⟨some d, op, ty, pos, af, gd⟩) (hst : AStep P ⟨some d, op, ty, pos, af, gd⟩ (evs (look m)) hh (fun x' h' => x' = x ∧ h' = hh)) (hd : Nat.blt d N.n = true := by rfl) (htl : (tailOk l.toArray tl && !Nat.beq i tl && Region.free .any l.toArray listed i && (Region.ready .any l.toArray listed).contains i) = true := by kernel_rfl)
    (hw : wantedA l.toArray (look m) ⟨some d, op, ty, pos, af, gd⟩ = some true := by first | rfl | exact wan_y rfl rfl (beq_tt ‹_›) | exact wan_y rfl rfl (beq_ff ‹_›) | exact wan_y rfl rfl (by simp [*])) :
    Do i (AAny P N l.toArray Q (fun h' => h' = hh) tl fuel (listed.setIfInBounds i true) ⟨look ((d, x) :: m), hh⟩) (AAny P N l.toArray Q (fun h' => h' = hh) tl (fuel + 1) listed ⟨look m, hh⟩) := fun H => aa_r hi hd htl hw hst H
theorem do_k {K : List (Nat × List AV)} {i d : Nat} {x : AV} (hi : l[i]? = some ⟨some d, op, ty, pos, af, gd⟩) (hst : ∀ h, KB K h → AStep P ⟨some d, op, ty, pos, af, gd⟩ (evs (look m)) h (fun x' h' => x' = x ∧ h' = h)) (hd : Nat.blt d N.n = true := by rfl) (htl : (tailOk l.toArray tl && !Nat.beq i tl && Region.free .any l.toArray listed i && (Region.ready .any l.toArray listed).contains i) = true := by kernel_rfl)
    (hw : wantedA l.toArray (look m) ⟨some d, op, ty, pos, af, gd⟩ = some true := by first | rfl | exact wan_y rfl rfl (beq_tt ‹_›) | exact wan_y rfl rfl (beq_ff ‹_›) | exact wan_y rfl rfl (by simp [*])) (hS : KB K hh := by repeat (first | exact kb_n _ | refine kb_c rfl ?_)) :
    Do i (AAny P N l.toArray Q (KB K) tl fuel (listed.setIfInBounds i true) ⟨look ((d, x) :: m), hh⟩) (AAny P N l.toArray Q (KB K) tl (fuel + 1) listed ⟨look m, hh⟩) := fun H => aa_t hi hd htl hw hst hS H
theorem tk_ {K : List (Nat × List AV)} (i : Nat) {d : Nat} {x : AV} (hi : l[i]? = some ⟨some d, op, ty, pos, af, gd⟩) (hst : ∀ h, KB K h → AStep P ⟨some d, op, ty, pos, af, gd⟩ (evs (look m)) h (fun x' h' => x' = x ∧ h' = h)) (H : AAny P N l.toArray Q (KB K) tl fuel (listed.setIfInBounds i true) ⟨look ((d, x) :: m), hh⟩) (hd : Nat.blt d N.n = true := by rfl) (htl : (tailOk l.toArray tl && !Nat.beq i tl && Region.free .any l.toArray listed i && (Region.ready .any l.toArray listed).contains i) = true := by kernel_rfl)
    (hw : wantedA l.toArray (look m) ⟨some d, op, ty, pos, af, gd⟩ = some true := by first | rfl | exact wan_y rfl rfl (beq_tt ‹_›) | exact wan_y rfl rfl (beq_ff ‹_›) | exact wan_y rfl rfl (by simp [*])) (hS : KB K hh := by repeat (first | exact kb_n _ | refine kb_c rfl ?_)) : AAny P N l.toArray Q (KB K) tl (fuel + 1) listed ⟨look m, hh⟩ := aa_t hi hd htl hw hst hS H
theorem d0_ (i : Nat) {d : Nat} (hi : l[i]? = some ⟨some d, op, ty, pos, af, gd⟩ := by rfl) (hd : Nat.blt d N.n = true := by rfl) (htl : (tailOk l.toArray tl && !Nat.beq i tl && Region.free .any l.toArray listed i && (Region.ready .any l.toArray listed).contains i) = true := by kernel_rfl)
    (hw : wantedA l.toArray (look m) ⟨some d, op, ty, pos, af, gd⟩ = some false := by first | rfl | exact wan_n rfl rfl (beq_tf ‹_›) | exact wan_n rfl rfl (beq_ft ‹_›) | exact wan_u rfl rfl | exact wan_n rfl rfl (by simp [*]))
    (hS : S hh := by first | rfl | (repeat (first | exact kb_n _ | refine kb_c rfl ?_))) (h : AAny P N l.toArray Q S tl fuel (listed.setIfInBounds i true) ⟨look ((d, .v undef) :: m), hh⟩) : AAny P N l.toArray Q S tl (fuel + 1) listed ⟨look m, hh⟩ := aa_n hi hd htl hw hS h
theorem c_ (i : Nat) {d : Nat} (hi : l[i]? = some ⟨some d, op, ty, pos, af, gd⟩) (H : AStep P ⟨some d, op, ty, pos, af, gd⟩ (evs (look m)) hh (fun x h' => (i = tl ∨ S h') ∧ AAny P N l.toArray Q S tl fuel (listed.setIfInBounds i true) ⟨look ((d, x) :: m), h'⟩)) (hd : Nat.blt d N.n = true := by rfl) (hr : Region.ready .any l.toArray listed = [i] := by kernel_rfl)
    (hw : wantedA l.toArray (look m) ⟨some d, op, ty, pos, af, gd⟩ = some true := by first | rfl | exact wan_y rfl rfl (beq_tt ‹_›) | exact wan_y rfl rfl (beq_ff ‹_›) | exact wan_y rfl rfl (by simp [*])) : AAny P N l.toArray Q S tl (fuel + 1) listed ⟨look m, hh⟩ := aa_c hi hd hr hw H
theorem c0_ (i : Nat) (hi : l[i]? = some ⟨none, op, ty, pos, af, gd⟩) (H : AStep P ⟨none, op, ty, pos, af, gd⟩ (evs (look m)) hh (fun _ h' => (i = tl ∨ S h') ∧ AAny P N l.toArray Q S tl fuel (listed.setIfInBounds i true) ⟨look m, h'⟩)) (hr : Region.ready .any l.toArray listed = [i] := by kernel_rfl)
    (hw : wantedA l.toArray (look m) ⟨none, op, ty, pos, af, gd⟩ = some true := by first | rfl | exact wan_y rfl rfl (beq_tt ‹_›) | exact wan_y rfl rfl (beq_ff ‹_›) | exact wan_y rfl rfl (by simp [*])) : AAny P N l.toArray Q S tl (fuel + 1) listed ⟨look m, hh⟩ := aa_c0 hi hr hw H
theorem c2_ (i j : Nat) {di dj : Nat} {op' : Op} {ty' : TypeId} {pos' : String} {af' : Array Edge} {gd' : Option (Nat × Bool)} (hi : l[i]? = some ⟨some di, op, ty, pos, af, gd⟩) (hj : l[j]? = some ⟨some dj, op', ty', pos', af', gd'⟩)
    (H1 : AStep P ⟨some di, op, ty, pos, af, gd⟩ (evs (look m)) hh (fun x h' => (i = tl ∨ S h') ∧ AAny P N l.toArray Q S tl fuel (listed.setIfInBounds i true) ⟨look ((di, x) :: m), h'⟩))
    (H2 : AStep P ⟨some dj, op', ty', pos', af', gd'⟩ (evs (look m)) hh (fun x h' => (j = tl ∨ S h') ∧ AAny P N l.toArray Q S tl fuel (listed.setIfInBounds j true) ⟨look ((dj, x) :: m), h'⟩))
    (hdi : Nat.blt di N.n = true := by rfl) (hdj : Nat.blt dj N.n = true := by rfl) (hr : Region.ready .any l.toArray listed = [i, j] := by kernel_rfl)
    (hwi : wantedA l.toArray (look m) ⟨some di, op, ty, pos, af, gd⟩ = some true := by first | rfl | exact wan_y rfl rfl (beq_tt ‹_›) | exact wan_y rfl rfl (beq_ff ‹_›) | exact wan_y rfl rfl (by simp [*]))
    (hwj : wantedA l.toArray (look m) ⟨some dj, op', ty', pos', af', gd'⟩ = some true := by first | rfl | exact wan_y rfl rfl (beq_tt ‹_›) | exact wan_y rfl rfl (beq_ff ‹_›) | exact wan_y rfl rfl (by simp [*])) : AAny P N l.toArray Q S tl (fuel + 1) listed ⟨look m, hh⟩ := aa_two hr hi hdi hwi hj hdj hwj H1 H2
theorem o_ {i : Nat} {A : Prop} {h' : AH} (hS : i = tl ∨ S h' := by first | exact .inl rfl | exact .inr rfl | exact .inr (by repeat (first | exact kb_n _ | refine kb_c rfl ?_))) (h : A) : (i = tl ∨ S h') ∧ A := ⟨hS, h⟩
theorem z_ (hr : Region.ready .any l.toArray listed = [] := by kernel_rfl) (h : Q .normal ⟨look m, hh⟩) : AAny P N l.toArray Q S tl fuel listed ⟨look m, hh⟩ := aa_done hr h fuel
theorem yr_ (tl : Nat) {id : Nat} (hm : P.follows .mixedOrders = true := by kernel_rfl) (h : AAny P N l.toArray Q (fun h' => h' = hh) tl l.length (Array.replicate l.length false) ⟨look m, hh⟩) : AWp P N (.region id l.toArray true) Q ⟨look m, hh⟩ := aw_drawR tl hm h
theorem yk_ (K : List (Nat × List AV)) (tl : Nat) {id : Nat} (hm : P.follows .mixedOrders = true := by kernel_rfl) (h : AAny P N l.toArray Q (KB K) tl l.length (Array.replicate l.length false) ⟨look m, hh⟩) : AWp P N (.region id l.toArray true) Q ⟨look m, hh⟩ := aw_draw _ tl hm h
end
section
variable {P : Program} {rs : List ResultVar} {n : Nat} {R : AV → List (List AV) → List Tok → Prop} {s : AS} {xs : List AV} {r : AV}
theorem rt_ (g : Option Nat) {tk' : List Tok} (h1 : ResA P s rs xs := by repeat (first | exact ResA.nil | (apply ResA.tmp; (focus exact rfl)) | (apply ResA.cellN; (focus exact inferInstance); (focus exact rfl); (focus exact rfl); (focus exact rfl)) | (apply ResA.cell1; (focus exact inferInstance); (focus exact rfl); (focus exact rfl); (focus exact rfl)))) (h2 : tokOf s.h.tk g = some tk' := by rfl) (h3 : bpLt n 1 (reT g (tupA xs)) = true := by rfl) (h4 : bpLtB n 0 (s.h.bx.take n) = true := by rfl) (h5 : LeA (reT g (tupA xs)) r) (h6 : R r (s.h.bx.take n) tk') : ABody P rs n R .ret s := abody_ret g h1 h2 h3 h4 h5 h6
end
theorem m_ {A B : Prop} (k : B → A := by intro b; first | exact al_p rfl (st_move rfl b) | exact g_y (st_move rfl b)) (h : B) : A := k h
theorem dm_ (i : Nat) {A B : Prop} (k : Do i B A := by first | exact do_r rfl (st_move rfl ⟨rfl, rfl⟩) | exact do_k rfl (fun _ _ => st_move rfl ⟨rfl, rfl⟩)) (h : B) : A := k h
theorem a_ {A B : Prop} (k : B → A := by intro b; first | exact al_p rfl (st_assign rfl b) | exact g_y (st_assign rfl b)) (h : B) : A := k h
theorem da_ (i : Nat) {A B : Prop} (k : Do i B A := by first | exact do_r rfl (st_assign rfl ⟨rfl, rfl⟩) | exact do_k rfl (fun _ _ => st_assign rfl ⟨rfl, rfl⟩)) (h : B) : A := k h
theorem f_ {A B : Prop} (k : B → A := by intro b; first | exact al_p rfl (st_fieldB rfl b) | exact al_p rfl (st_fieldF rfl b) | exact g_y (st_fieldB rfl b) | exact g_y (st_fieldF rfl b)) (h : B) : A := k h
theorem df_ (i : Nat) {A B : Prop} (k : Do i B A := by first | exact do_r rfl (st_fieldB rfl ⟨rfl, rfl⟩) | exact do_r rfl (st_fieldF rfl ⟨rfl, rfl⟩) | exact do_k rfl (fun _ _ => st_fieldB rfl ⟨rfl, rfl⟩) | exact do_k rfl (fun _ _ => st_fieldF rfl ⟨rfl, rfl⟩)) (h : B) : A := k h
theorem l_ {A B : Prop} (k : B → A := by intro b; first | exact al_p rfl (st_loadB1 rfl rfl rfl b) | exact al_p rfl (st_loadBW rfl rfl rfl b) | exact al_p rfl (st_loadF1 rfl rfl b) | exact al_p rfl (st_loadFW rfl rfl b) | exact al_p rfl (st_loadBN rfl rfl rfl b) | exact al_p rfl (st_loadFN rfl rfl b) | exact g_y (st_loadB1 rfl rfl rfl b) | exact g_y (st_loadBW rfl rfl rfl b) | exact g_y (st_loadF1 rfl rfl b) | exact g_y (st_loadFW rfl rfl b) | exact g_y (st_loadBN rfl rfl rfl b) | exact g_y (st_loadFN rfl rfl b)) (h : B) : A := k h
theorem dl_ (i : Nat) {A B : Prop} (k : Do i B A := by first | exact do_r rfl (st_loadB1 rfl rfl rfl ⟨rfl, rfl⟩) | exact do_r rfl (st_loadBW rfl rfl rfl ⟨rfl, rfl⟩) | exact do_r rfl (st_loadF1 rfl rfl ⟨rfl, rfl⟩) | exact do_r rfl (st_loadFW rfl rfl ⟨rfl, rfl⟩) | exact do_r rfl (st_loadBN rfl rfl rfl ⟨rfl, rfl⟩) | exact do_r rfl (st_loadFN rfl rfl ⟨rfl, rfl⟩) | exact do_k rfl (fun _ hS => st_loadB1 rfl (kb hS rfl) rfl ⟨rfl, rfl⟩) | exact do_k rfl (fun _ hS => st_loadBW rfl (kb hS rfl) rfl ⟨rfl, rfl⟩) | exact do_k rfl (fun _ _ => st_loadF1 rfl rfl ⟨rfl, rfl⟩) | exact do_k rfl (fun _ _ => st_loadFW rfl rfl ⟨rfl, rfl⟩) | exact do_k rfl (fun _ hS => st_loadBN rfl (kb hS rfl) rfl ⟨rfl, rfl⟩) | exact do_k rfl (fun _ _ => st_loadFN rfl rfl ⟨rfl, rfl⟩)) (h : B) : A := k h
theorem s_ {A B : Prop} (k : B → A := by intro b; exact al_p0 (s_store rfl rfl rfl rfl rfl rfl (by repeat constructor) (by repeat constructor) b)) (h : B) : A := k h
theorem b_ {A B : Prop} (k : B → A := by intro b; first | exact al_p rfl (s_boxA rfl rfl (by repeat constructor) b) | exact al_p rfl (s_box rfl rfl (by repeat constructor) b) | exact g_y (s_boxA rfl rfl (by repeat constructor) b) | exact g_y (s_box rfl rfl (by repeat constructor) b)) (h : B) : A := k h
theorem al_ {A B : Prop} (k : B → A := by intro b; first | exact al_p rfl (s_alloc (by repeat constructor) b) | exact g_y (s_alloc (by repeat constructor) b)) (h : B) : A := k h
theorem n_ {A B : Prop} (k : B → A := by intro b; first | exact al_p rfl (st_len rfl b) | exact al_p rfl (st_lenS (by kernel_rfl) rfl b) | exact al_p rfl (st_len0 rfl b) | exact g_y (st_len rfl b) | exact g_y (st_lenS (by kernel_rfl) rfl b) | exact g_y (st_len0 rfl b)) (h : B) : A := k h
theorem dn_ (i : Nat) {A B : Prop} (k : Do i B A := by first | exact do_r rfl (st_len rfl ⟨rfl, rfl⟩) | exact do_r rfl (st_lenS (by kernel_rfl) rfl ⟨rfl, rfl⟩) | exact do_r rfl (st_len0 rfl ⟨rfl, rfl⟩) | exact do_k rfl (fun _ _ => st_len rfl ⟨rfl, rfl⟩) | exact do_k rfl (fun _ _ => st_lenS (by kernel_rfl) rfl ⟨rfl, rfl⟩) | exact do_k rfl (fun _ _ => st_len0 rfl ⟨rfl, rfl⟩)) (h : B) : A := k h
theorem ap_ {A B : Prop} (k : B → A := by intro b; first | exact al_p rfl (s_append rfl rfl rfl (by simp <;> omega) (by repeat constructor) b) | exact al_p rfl (s_append0 rfl rfl (by simp <;> omega) (by repeat constructor) b) | exact g_y (s_append rfl rfl rfl (by simp <;> omega) (by repeat constructor) b) | exact g_y (s_append0 rfl rfl (by simp <;> omega) (by repeat constructor) b)) (h : B) : A := k h
theorem x_ {A B : Prop} (k : B → A := by intro b; first | exact al_p rfl (st_extract rfl rfl b) | exact g_y (st_extract rfl rfl b)) (h : B) : A := k h
theorem dx_ (i : Nat) {A B : Prop} (k : Do i B A := by first | exact do_r rfl (st_extract rfl rfl ⟨rfl, rfl⟩) | exact do_k rfl (fun _ _ => st_extract rfl rfl ⟨rfl, rfl⟩)) (h : B) : A := k h
theorem k_ {A B : Prop} (k : B → A := by intro b; first | exact al_p rfl (st_nilB rfl b) | exact al_p rfl (st_nilF rfl b) | exact g_y (st_nilB rfl b) | exact g_y (st_nilF rfl b)) (h : B) : A := k h
theorem dk_ (i : Nat) {A B : Prop} (k : Do i B A := by first | exact do_r rfl (st_nilB rfl ⟨rfl, rfl⟩) | exact do_r rfl (st_nilF rfl ⟨rfl, rfl⟩) | exact do_k rfl (fun _ _ => st_nilB rfl ⟨rfl, rfl⟩) | exact do_k rfl (fun _ _ => st_nilF rfl ⟨rfl, rfl⟩)) (h : B) : A := k h
theorem bd_ {A B : Prop} (k : B → A := by intro b; first | exact al_p rfl (st_build (by repeat (first | exact FillA.nil _ | (apply FillA.cons; (focus exact rfl); (focus exact rfl); (focus exact rfl); (focus exact rfl); (focus exact rfl); (focus (repeat constructor))))) b) | exact g_y (st_build (by repeat (first | exact FillA.nil _ | (apply FillA.cons; (focus exact rfl); (focus exact rfl); (focus exact rfl); (focus exact rfl); (focus exact rfl); (focus (repeat constructor))))) b)) (h : B) : A := k h
theorem dbd_ (i : Nat) {A B : Prop} (k : Do i B A := by first | exact do_r rfl (st_build (by repeat (first | exact FillA.nil _ | (apply FillA.cons; (focus exact rfl); (focus exact rfl); (focus exact rfl); (focus exact rfl); (focus exact rfl); (focus (repeat constructor))))) ⟨rfl, rfl⟩) | exact do_k rfl (fun _ _ => st_build (by repeat (first | exact FillA.nil _ | (apply FillA.cons; (focus exact rfl); (focus exact rfl); (focus exact rfl); (focus exact rfl); (focus exact rfl); (focus (repeat constructor))))) ⟨rfl, rfl⟩)) (h : B) : A := k h
theorem bs_ {A B : Prop} (k : B → A := by intro b; first | exact al_p rfl (st_slit (by repeat (first | exact DenseA.nil _ | (apply DenseA.cons; (focus exact rfl); (focus exact rfl); (focus exact rfl); (focus exact rfl)) | (apply DenseA.consE; (focus exact rfl); (focus exact rfl); (focus exact rfl)))) rfl rfl rfl rfl b) | exact g_y (st_slit (by repeat (first | exact DenseA.nil _ | (apply DenseA.cons; (focus exact rfl); (focus exact rfl); (focus exact rfl); (focus exact rfl)) | (apply DenseA.consE; (focus exact rfl); (focus exact rfl); (focus exact rfl)))) rfl rfl rfl rfl b)) (h : B) : A := k h
theorem dbs_ (i : Nat) {A B : Prop} (k : Do i B A := by first | exact do_r rfl (st_slit (by repeat (first | exact DenseA.nil _ | (apply DenseA.cons; (focus exact rfl); (focus exact rfl); (focus exact rfl); (focus exact rfl)) | (apply DenseA.consE; (focus exact rfl); (focus exact rfl); (focus exact rfl)))) rfl rfl rfl rfl ⟨rfl, rfl⟩) | exact do_k rfl (fun _ _ => st_slit (by repeat (first | exact DenseA.nil _ | (apply DenseA.cons; (focus exact rfl); (focus exact rfl); (focus exact rfl); (focus exact rfl)) | (apply DenseA.consE; (focus exact rfl); (focus exact rfl); (focus exact rfl)))) rfl rfl rfl rfl ⟨rfl, rfl⟩)) (h : B) : A := k h
theorem pt_ {A B : Prop} (k : B → A := by intro b; first | exact al_p rfl (p_t b) | exact g_y (p_t b)) (h : B) : A := k h
theorem dpt_ (i : Nat) {A B : Prop} (k : Do i B A := by first | exact do_r rfl (p_t ⟨rfl, rfl⟩) | exact do_k rfl (fun _ _ => p_t ⟨rfl, rfl⟩)) (h : B) : A := k h
theorem pf_ {A B : Prop} (k : B → A := by intro b; first | exact al_p rfl (p_f b) | exact g_y (p_f b)) (h : B) : A := k h
theorem dpf_ (i : Nat) {A B : Prop} (k : Do i B A := by first | exact do_r rfl (p_f ⟨rfl, rfl⟩) | exact do_k rfl (fun _ _ => p_f ⟨rfl, rfl⟩)) (h : B) : A := k h
theorem mf_ {A B : Prop} (k : B → A := by intro b; first | exact al_p rfl (st_makeFunc rfl b) | exact g_y (st_makeFunc rfl b)) (h : B) : A := k h
theorem i_ {A B : Prop} (k : B → A := by intro b; first | exact al_p rfl (st_index rfl rfl rfl (by first | assumption | rfl) b) | exact g_y (st_index rfl rfl rfl (by first | assumption | rfl) b)) (h : B) : A := k h
theorem di_ (i : Nat) {A B : Prop} (k : Do i B A := by first | exact do_r rfl (st_index rfl rfl rfl (by first | assumption | rfl) ⟨rfl, rfl⟩) | exact do_k rfl (fun _ _ => st_index rfl rfl rfl (by first | assumption | rfl) ⟨rfl, rfl⟩)) (h : B) : A := k h
theorem ms_ {A B : Prop} (k : B → A := by intro b; first | exact al_p rfl (s_make0 rfl rfl (by omega) (by repeat constructor) b) | exact g_y (s_make0 rfl rfl (by omega) (by repeat constructor) b)) (h : B) : A := k h
theorem nt_ {A B : Prop} (k : B → A := by intro b; first | exact al_p rfl (st_not rfl b) | exact g_y (st_not rfl b)) (h : B) : A := k h
theorem dnt_ (i : Nat) {A B : Prop} (k : Do i B A := by first | exact do_r rfl (st_not rfl ⟨rfl, rfl⟩) | exact do_k rfl (fun _ _ => st_not rfl ⟨rfl, rfl⟩)) (h : B) : A := k h
theorem ad_ {A B : Prop} (k : B → A := by intro b; first | exact al_p rfl (st_add64 rfl rfl (by omega) b) | exact al_p rfl (st_addS rfl rfl (by omega) b) | exact al_p rfl (st_add rfl rfl b) | exact g_y (st_add64 rfl rfl (by omega) b) | exact g_y (st_addS rfl rfl (by omega) b) | exact g_y (st_add rfl rfl b)) (h : B) : A := k h
theorem sb_ {A B : Prop} (k : B → A := by intro b; first | exact al_p rfl (st_sub64 rfl rfl (by omega) b) | exact al_p rfl (st_sub rfl rfl b) | exact g_y (st_sub64 rfl rfl (by omega) b) | exact g_y (st_sub rfl rfl b)) (h : B) : A := k h
theorem dsb_ (i : Nat) {A B : Prop} (k : Do i B A := by first | exact do_r rfl (st_sub64 rfl rfl (by omega) ⟨rfl, rfl⟩) | exact do_r rfl (st_sub rfl rfl ⟨rfl, rfl⟩) | exact do_k rfl (fun _ _ => st_sub64 rfl rfl (by omega) ⟨rfl, rfl⟩) | exact do_k rfl (fun _ _ => st_sub rfl rfl ⟨rfl, rfl⟩)) (h : B) : A := k h
theorem ml_ {A B : Prop} (k : B → A := by intro b; first | exact al_p rfl (st_mul rfl rfl b) | exact g_y (st_mul rfl rfl b)) (h : B) : A := k h
theorem eq_ {A B : Prop} (k : B → A := by intro b; first | exact al_p rfl (st_eql rfl rfl b) | exact al_p rfl (st_eqlS rfl rfl b) | exact al_p rfl (st_eqlB (by kernel_rfl) rfl rfl b) | exact g_y (st_eql rfl rfl b) | exact g_y (st_eqlS rfl rfl b) | exact g_y (st_eqlB (by kernel_rfl) rfl rfl b)) (h : B) : A := k h
theorem deq_ (i : Nat) {A B : Prop} (k : Do i B A := by first | exact do_r rfl (st_eql rfl rfl ⟨rfl, rfl⟩) | exact do_r rfl (st_eqlS rfl rfl ⟨rfl, rfl⟩) | exact do_r rfl (st_eqlB (by kernel_rfl) rfl rfl ⟨rfl, rfl⟩) | exact do_k rfl (fun _ _ => st_eql rfl rfl ⟨rfl, rfl⟩) | exact do_k rfl (fun _ _ => st_eqlS rfl rfl ⟨rfl, rfl⟩) | exact do_k rfl (fun _ _ => st_eqlB (by kernel_rfl) rfl rfl ⟨rfl, rfl⟩)) (h : B) : A := k h
theorem nq_ {A B : Prop} (k : B → A := by intro b; first | exact al_p rfl (st_neq rfl rfl b) | exact al_p rfl (st_neqS rfl rfl b) | exact al_p rfl (st_neqB (by kernel_rfl) rfl rfl b) | exact g_y (st_neq rfl rfl b) | exact g_y (st_neqS rfl rfl b) | exact g_y (st_neqB (by kernel_rfl) rfl rfl b)) (h : B) : A := k h
theorem dnq_ (i : Nat) {A B : Prop} (k : Do i B A := by first | exact do_r rfl (st_neq rfl rfl ⟨rfl, rfl⟩) | exact do_r rfl (st_neqS rfl rfl ⟨rfl, rfl⟩) | exact do_r rfl (st_neqB (by kernel_rfl) rfl rfl ⟨rfl, rfl⟩) | exact do_k rfl (fun _ _ => st_neq rfl rfl ⟨rfl, rfl⟩) | exact do_k rfl (fun _ _ => st_neqS rfl rfl ⟨rfl, rfl⟩) | exact do_k rfl (fun _ _ => st_neqB (by kernel_rfl) rfl rfl ⟨rfl, rfl⟩)) (h : B) : A := k h
theorem lt_ {A B : Prop} (k : B → A := by intro b; first | exact al_p rfl (st_lss rfl rfl b) | exact al_p rfl (st_lssS rfl rfl b) | exact g_y (st_lss rfl rfl b) | exact g_y (st_lssS rfl rfl b)) (h : B) : A := k h
theorem dlt_ (i : Nat) {A B : Prop} (k : Do i B A := by first | exact do_r rfl (st_lss rfl rfl ⟨rfl, rfl⟩) | exact do_r rfl (st_lssS rfl rfl ⟨rfl, rfl⟩) | exact do_k rfl (fun _ _ => st_lss rfl rfl ⟨rfl, rfl⟩) | exact do_k rfl (fun _ _ => st_lssS rfl rfl ⟨rfl, rfl⟩)) (h : B) : A := k h
theorem le_ {A B : Prop} (k : B → A := by intro b; first | exact al_p rfl (st_leq rfl rfl b) | exact g_y (st_leq rfl rfl b)) (h : B) : A := k h
theorem dle_ (i : Nat) {A B : Prop} (k : Do i B A := by first | exact do_r rfl (st_leq rfl rfl ⟨rfl, rfl⟩) | exact do_k rfl (fun _ _ => st_leq rfl rfl ⟨rfl, rfl⟩)) (h : B) : A := k h
theorem gt_ {A B : Prop} (k : B → A := by intro b; first | exact al_p rfl (st_gtr rfl rfl b) | exact g_y (st_gtr rfl rfl b)) (h : B) : A := k h
theorem dgt_ (i : Nat) {A B : Prop} (k : Do i B A := by first | exact do_r rfl (st_gtr rfl rfl ⟨rfl, rfl⟩) | exact do_k rfl (fun _ _ => st_gtr rfl rfl ⟨rfl, rfl⟩)) (h : B) : A := k h
theorem ge_ {A B : Prop} (k : B → A := by intro b; first | exact al_p rfl (st_geq rfl rfl b) | exact al_p rfl (st_geqS rfl rfl b) | exact g_y (st_geq rfl rfl b) | exact g_y (st_geqS rfl rfl b)) (h : B) : A := k h
theorem dge_ (i : Nat) {A B : Prop} (k : Do i B A := by first | exact do_r rfl (st_geq rfl rfl ⟨rfl, rfl⟩) | exact do_r rfl (st_geqS rfl rfl ⟨rfl, rfl⟩) | exact do_k rfl (fun _ _ => st_geq rfl rfl ⟨rfl, rfl⟩) | exact do_k rfl (fun _ _ => st_geqS rfl rfl ⟨rfl, rfl⟩)) (h : B) : A := k h
theorem at_ {A B : Prop} (k : B → A := by intro b; first | exact al_p rfl (st_andNot rfl rfl b) | exact g_y (st_andNot rfl rfl b)) (h : B) : A := k h
end Go.Proofs.Ythcbdkmhamhciaa
namespace Go.Proofs.Ythcbdkmhamhciaa
open Go.RowKit
theorem wb_ {f : Nat → Option AV} {bx : List (List AV)} {tk : List (Nat × Nat × List (List AV))} {l : List (Nat × AV)} {N : Dim} (n m : Nat) {bx' : List (List AV)} {tk' : List (Nat × Nat × List (List AV))} (hbp : bpLtB n m bx' = true) (hn : Nat.ble N.ni n = true := by rfl) (hb : bx.take n = bx' := by rfl) (ht : tk.take m = tk' := by rfl) (hl : Sub n m f l := by repeat (first | exact Sub.nil | refine Sub.cons _ _ _ rfl rfl ?_ | refine Sub.any _ _ ?_ | refine Sub.sl _ _ _ _ _ rfl ?_ | refine Sub.slnil _ _ _ rfl ?_)) : Weak N ⟨f, ⟨bx, tk⟩⟩ ⟨look l, ⟨bx', tk'⟩⟩ := weak_of n m hn hb ht hbp hl
instance : Typ Try.prog 0 1 false := ⟨by kernel_rfl⟩
instance : Typ Try.prog 1 1 false := ⟨by kernel_rfl⟩
instance : Zer Try.prog 1 [.v .nilFunc] := ⟨[.nilFunc], by kernel_rfl, rfl, rfl⟩
instance : Typ Try.prog 2 1 false := ⟨by kernel_rfl⟩
instance : Zer Try.prog 2 [.v (.int .i64 0)] := ⟨[.int .i64 0], by kernel_rfl, rfl, rfl⟩
instance : Typ Try.prog 3 1 false := ⟨by kernel_rfl⟩
instance : Zer Try.prog 3 [.v (.int .i64 0)] := ⟨[.int .i64 0], by kernel_rfl, rfl, rfl⟩
instance : Typ Try.prog 4 1 false := ⟨by kernel_rfl⟩
instance : Zer Try.prog 4 [.v (.bool false)] := ⟨[.bool false], by kernel_rfl, rfl, rfl⟩
instance : Typ Try.prog 5 1 false := ⟨by kernel_rfl⟩
instance : Zer Try.prog 5 [.v (.int .u8 0)] := ⟨[.int .u8 0], by kernel_rfl, rfl, rfl⟩
instance : Typ Try.prog 6 1 false := ⟨by kernel_rfl⟩
instance : Zer Try.prog 6 [.v (.int .u8 0)] := ⟨[.int .u8 0], by kernel_rfl, rfl, rfl⟩
instance : Typ Try.prog 7 4 true := ⟨by kernel_rfl⟩
instance : Zer Try.prog 7 [.v (.int .i64 0), .v (.int .i64 0), .v (.bool false), .v (.int .u8 0)] := ⟨[.int .i64 0, .int .i64 0, .bool false, .int .u8 0], by kernel_rfl, rfl, rfl⟩
instance : Plc Try.prog 7 [(0, 1), (1, 1), (2, 1), (3, 1)] := ⟨by kernel_rfl⟩
instance : Fld Try.prog 7 0 0 1 := ⟨by kernel_rfl⟩
instance : Fld Try.prog 7 1 1 1 := ⟨by kernel_rfl⟩
instance : Fld Try.prog 7 2 2 1 := ⟨by kernel_rfl⟩
instance : Fld Try.prog 7 3 3 1 := ⟨by kernel_rfl⟩
instance : Typ Try.prog 8 4 true := ⟨by kernel_rfl⟩
instance : Zer Try.prog 8 [.v (.int .i64 0), .v (.int .i64 0), .v (.bool false), .v (.int .u8 0)] := ⟨[.int .i64 0, .int .i64 0, .bool false, .int .u8 0], by kernel_rfl, rfl, rfl⟩
instance : Plc Try.prog 8 [(0, 1), (1, 1), (2, 1), (3, 1)] := ⟨by kernel_rfl⟩
instance : Fld Try.prog 8 0 0 1 := ⟨by kernel_rfl⟩
instance : Fld Try.prog 8 1 1 1 := ⟨by kernel_rfl⟩
instance : Fld Try.prog 8 2 2 1 := ⟨by kernel_rfl⟩
instance : Fld Try.prog 8 3 3 1 := ⟨by kernel_rfl⟩
instance : Typ Try.prog 9 1 false := ⟨by kernel_rfl⟩
instance : Zer Try.prog 9 [.v (.string ⟨#[]⟩)] := ⟨[.string ⟨#[]⟩], by kernel_rfl, rfl, rfl⟩
instance : Typ Try.prog 10 1 false := ⟨by kernel_rfl⟩
instance : Zer Try.prog 10 [.v (.string ⟨#[]⟩)] := ⟨[.string ⟨#[]⟩], by kernel_rfl, rfl, rfl⟩
instance : Typ Try.prog 11 1 false := ⟨by kernel_rfl⟩
instance : Zer Try.prog 11 [.v (.string ⟨#[]⟩)] := ⟨[.string ⟨#[]⟩], by kernel_rfl, rfl, rfl⟩
instance : Typ Try.prog 12 1 false := ⟨by kernel_rfl⟩
instance : Zer Try.prog 12 [.v (.int .u64 0)] := ⟨[.int .u64 0], by kernel_rfl, rfl, rfl⟩
instance : Typ Try.prog 13 2 true := ⟨by kernel_rfl⟩
instance : Zer Try.prog 13 [.v (.string ⟨#[]⟩), .v (.int .u64 0)] := ⟨[.string ⟨#[]⟩, .int .u64 0], by kernel_rfl, rfl, rfl⟩
instance : Plc Try.prog 13 [(0, 1), (1, 1)] := ⟨by kernel_rfl⟩
instance : Fld Try.prog 13 0 0 1 := ⟨by kernel_rfl⟩
instance : Fld Try.prog 13 1 1 1 := ⟨by kernel_rfl⟩
instance : Typ Try.prog 14 2 true := ⟨by kernel_rfl⟩
instance : Zer Try.prog 14 [.v (.string ⟨#[]⟩), .v (.int .u64 0)] := ⟨[.string ⟨#[]⟩, .int .u64 0], by kernel_rfl, rfl, rfl⟩
instance : Plc Try.prog 14 [(0, 1), (1, 1)] := ⟨by kernel_rfl⟩
instance : Fld Try.prog 14 0 0 1 := ⟨by kernel_rfl⟩
instance : Fld Try.prog 14 1 1 1 := ⟨by kernel_rfl⟩
instance : Typ Try.prog 15 1 false := ⟨by kernel_rfl⟩
instance : Zer Try.prog 15 [.v (.pointer none)] := ⟨[.pointer none], by kernel_rfl, rfl, rfl⟩
instance : Typ Try.prog 16 1 false := ⟨by kernel_rfl⟩
instance : Zer Try.prog 16 [.v (.pointer none)] := ⟨[.pointer none], by kernel_rfl, rfl, rfl⟩
instance : Typ Try.prog 17 1 false := ⟨by kernel_rfl⟩
instance : Zer Try.prog 17 [.v (.pointer none)] := ⟨[.pointer none], by kernel_rfl, rfl, rfl⟩
instance : Typ Try.prog 18 1 true := ⟨by kernel_rfl⟩
instance : Zer Try.prog 18 [.v (.pointer none)] := ⟨[.pointer none], by kernel_rfl, rfl, rfl⟩
instance : Plc Try.prog 18 [(0, 1)] := ⟨by kernel_rfl⟩
instance : Fld Try.prog 18 0 0 1 := ⟨by kernel_rfl⟩
instance : Typ Try.prog 19 1 true := ⟨by kernel_rfl⟩
instance : Zer Try.prog 19 [.v (.pointer none)] := ⟨[.pointer none], by kernel_rfl, rfl, rfl⟩
instance : Plc Try.prog 19 [(0, 1)] := ⟨by kernel_rfl⟩
instance : Fld Try.prog 19 0 0 1 := ⟨by kernel_rfl⟩
instance : Typ Try.prog 20 1 false := ⟨by kernel_rfl⟩
instance : Zer Try.prog 20 [.v .nilIface] := ⟨[.nilIface], by kernel_rfl, rfl, rfl⟩
instance : Typ Try.prog 21 1 false := ⟨by kernel_rfl⟩
instance : Zer Try.prog 21 [.v (.int .i32 0)] := ⟨[.int .i32 0], by kernel_rfl, rfl, rfl⟩
instance : Typ Try.prog 22 1 false := ⟨by kernel_rfl⟩
instance : Elm Try.prog 22 79 2 32 := ⟨by kernel_rfl, by decide⟩
instance : Zer Try.prog 22 [.v (.slice none 0 0)] := ⟨[.slice none 0 0], by kernel_rfl, rfl, rfl⟩
instance : Typ Try.prog 23 1 true := ⟨by kernel_rfl⟩
instance : Zer Try.prog 23 [.v (.slice none 0 0)] := ⟨[.slice none 0 0], by kernel_rfl, rfl, rfl⟩
instance : Plc Try.prog 23 [(0, 1)] := ⟨by kernel_rfl⟩
instance : Fld Try.prog 23 0 0 1 := ⟨by kernel_rfl⟩
instance : Typ Try.prog 24 1 true := ⟨by kernel_rfl⟩
instance : Zer Try.prog 24 [.v (.slice none 0 0)] := ⟨[.slice none 0 0], by kernel_rfl, rfl, rfl⟩
instance : Plc Try.prog 24 [(0, 1)] := ⟨by kernel_rfl⟩
instance : Fld Try.prog 24 0 0 1 := ⟨by kernel_rfl⟩
instance : Typ Try.prog 25 1 false := ⟨by kernel_rfl⟩
instance : Zer Try.prog 25 [.v (.int .i64 0)] := ⟨[.int .i64 0], by kernel_rfl, rfl, rfl⟩
instance : Typ Try.prog 26 1 false := ⟨by kernel_rfl⟩
instance : Typ Try.prog 27 1 false := ⟨by kernel_rfl⟩
instance : Zer Try.prog 27 [.v .nilFunc] := ⟨[.nilFunc], by kernel_rfl, rfl, rfl⟩
instance : Typ Try.prog 28 1 false := ⟨by kernel_rfl⟩
instance : Zer Try.prog 28 [.v .nilFunc] := ⟨[.nilFunc], by kernel_rfl, rfl, rfl⟩
instance : Typ Try.prog 29 1 false := ⟨by kernel_rfl⟩
instance : Zer Try.prog 29 [.v .nilFunc] := ⟨[.nilFunc], by kernel_rfl, rfl, rfl⟩
instance : Typ Try.prog 30 1 false := ⟨by kernel_rfl⟩
instance : Zer Try.prog 30 [.v .nilFunc] := ⟨[.nilFunc], by kernel_rfl, rfl, rfl⟩
instance : Typ Try.prog 31 1 false := ⟨by kernel_rfl⟩
instance : Elm Try.prog 31 3 1 8 := ⟨by kernel_rfl, by decide⟩
instance : Zer Try.prog 31 [.v (.slice none 0 0)] := ⟨[.slice none 0 0], by kernel_rfl, rfl, rfl⟩
instance : Typ Try.prog 32 1 false := ⟨by kernel_rfl⟩
instance : Elm Try.prog 32 101 2 24 := ⟨by kernel_rfl, by decide⟩
instance : Zer Try.prog 32 [.v (.slice none 0 0)] := ⟨[.slice none 0 0], by kernel_rfl, rfl, rfl⟩
instance : Typ Try.prog 33 8 true := ⟨by kernel_rfl⟩
instance : Zer Try.prog 33 [.v (.int .i64 0), .v (.int .i64 0), .v (.int .i64 0), .v (.int .i64 0), .v (.int .i64 0), .v (.int .i64 0), .v (.string ⟨#[]⟩), .v (.slice none 0 0)] := ⟨[.int .i64 0, .int .i64 0, .int .i64 0, .int .i64 0, .int .i64 0, .int .i64 0, .string ⟨#[]⟩, .slice none 0 0], by kernel_rfl, rfl, rfl⟩
instance : Plc Try.prog 33 [(0, 1), (1, 1), (2, 1), (3, 1), (4, 1), (5, 1), (6, 1), (7, 1)] := ⟨by kernel_rfl⟩
instance : Fld Try.prog 33 0 0 1 := ⟨by kernel_rfl⟩
instance : Fld Try.prog 33 1 1 1 := ⟨by kernel_rfl⟩
instance : Fld Try.prog 33 2 2 1 := ⟨by kernel_rfl⟩
instance : Fld Try.prog 33 3 3 1 := ⟨by kernel_rfl⟩
instance : Fld Try.prog 33 4 4 1 := ⟨by kernel_rfl⟩
instance : Fld Try.prog 33 5 5 1 := ⟨by kernel_rfl⟩
instance : Fld Try.prog 33 6 6 1 := ⟨by kernel_rfl⟩
instance : Fld Try.prog 33 7 7 1 := ⟨by kernel_rfl⟩
instance : Typ Try.prog 34 8 true := ⟨by kernel_rfl⟩
instance : Zer Try.prog 34 [.v (.int .i64 0), .v (.int .i64 0), .v (.int .i64 0), .v (.int .i64 0), .v (.int .i64 0), .v (.int .i64 0), .v (.string ⟨#[]⟩), .v (.slice none 0 0)] := ⟨[.int .i64 0, .int .i64 0, .int .i64 0, .int .i64 0, .int .i64 0, .int .i64 0, .string ⟨#[]⟩, .slice none 0 0], by kernel_rfl, rfl, rfl⟩
instance : Plc Try.prog 34 [(0, 1), (1, 1), (2, 1), (3, 1), (4, 1), (5, 1), (6, 1), (7, 1)] := ⟨by kernel_rfl⟩
instance : Fld Try.prog 34 0 0 1 := ⟨by kernel_rfl⟩
instance : Fld Try.prog 34 1 1 1 := ⟨by kernel_rfl⟩
instance : Fld Try.prog 34 2 2 1 := ⟨by kernel_rfl⟩
instance : Fld Try.prog 34 3 3 1 := ⟨by kernel_rfl⟩
instance : Fld Try.prog 34 4 4 1 := ⟨by kernel_rfl⟩
instance : Fld Try.prog 34 5 5 1 := ⟨by kernel_rfl⟩
instance : Fld Try.prog 34 6 6 1 := ⟨by kernel_rfl⟩
instance : Fld Try.prog 34 7 7 1 := ⟨by kernel_rfl⟩
instance : Typ Try.prog 35 1 false := ⟨by kernel_rfl⟩
instance : Zer Try.prog 35 [.v (.pointer none)] := ⟨[.pointer none], by kernel_rfl, rfl, rfl⟩
instance : Typ Try.prog 36 1 false := ⟨by kernel_rfl⟩
instance : Zer Try.prog 36 [.v .nilFunc] := ⟨[.nilFunc], by kernel_rfl, rfl, rfl⟩
instance : Typ Try.prog 37 1 false := ⟨by kernel_rfl⟩
instance : Zer Try.prog 37 [.v .nilFunc] := ⟨[.nilFunc], by kernel_rfl, rfl, rfl⟩
instance : Typ Try.prog 38 2 true := ⟨by kernel_rfl⟩
instance : Zer Try.prog 38 [.v (.int .i64 0), .v (.int .i64 0)] := ⟨[.int .i64 0, .int .i64 0], by kernel_rfl, rfl, rfl⟩
instance : Plc Try.prog 38 [(0, 1), (1, 1)] := ⟨by kernel_rfl⟩
instance : Fld Try.prog 38 0 0 1 := ⟨by kernel_rfl⟩
instance : Fld Try.prog 38 1 1 1 := ⟨by kernel_rfl⟩
instance : Typ Try.prog 39 2 true := ⟨by kernel_rfl⟩
instance : Zer Try.prog 39 [.v (.int .i64 0), .v (.int .i64 0)] := ⟨[.int .i64 0, .int .i64 0], by kernel_rfl, rfl, rfl⟩
instance : Plc Try.prog 39 [(0, 1), (1, 1)] := ⟨by kernel_rfl⟩
instance : Fld Try.prog 39 0 0 1 := ⟨by kernel_rfl⟩
instance : Fld Try.prog 39 1 1 1 := ⟨by kernel_rfl⟩
instance : Typ Try.prog 40 1 false := ⟨by kernel_rfl⟩
instance : Zer Try.prog 40 [.v .nilFunc] := ⟨[.nilFunc], by kernel_rfl, rfl, rfl⟩
instance : Typ Try.prog 41 1 false := ⟨by kernel_rfl⟩
instance : Zer Try.prog 41 [.v .nilFunc] := ⟨[.nilFunc], by kernel_rfl, rfl, rfl⟩
instance : Typ Try.prog 42 1 false := ⟨by kernel_rfl⟩
instance : Zer Try.prog 42 [.v .nilFunc] := ⟨[.nilFunc], by kernel_rfl, rfl, rfl⟩
instance : Typ Try.prog 43 1 false := ⟨by kernel_rfl⟩
instance : Elm Try.prog 43 68 7 64 := ⟨by kernel_rfl, by decide⟩
instance : Zer Try.prog 43 [.v (.slice none 0 0)] := ⟨[.slice none 0 0], by kernel_rfl, rfl, rfl⟩
instance : Typ Try.prog 44 1 false := ⟨by kernel_rfl⟩
instance : Zer Try.prog 44 [.v (.int .i64 0)] := ⟨[.int .i64 0], by kernel_rfl, rfl, rfl⟩
instance : Typ Try.prog 45 1 false := ⟨by kernel_rfl⟩
instance : Typ Try.prog 46 1 false := ⟨by kernel_rfl⟩
instance : Zer Try.prog 46 [.v .nilFunc] := ⟨[.nilFunc], by kernel_rfl, rfl, rfl⟩
instance : Typ Try.prog 47 1 false := ⟨by kernel_rfl⟩
instance : Zer Try.prog 47 [.v .nilFunc] := ⟨[.nilFunc], by kernel_rfl, rfl, rfl⟩
instance : Typ Try.prog 48 1 false := ⟨by kernel_rfl⟩
instance : Zer Try.prog 48 [.v .nilFunc] := ⟨[.nilFunc], by kernel_rfl, rfl, rfl⟩
instance : Typ Try.prog 49 1 false := ⟨by kernel_rfl⟩
instance : Zer Try.prog 49 [.v .nilFunc] := ⟨[.nilFunc], by kernel_rfl, rfl, rfl⟩
instance : Typ Try.prog 50 1 false := ⟨by kernel_rfl⟩
instance : Zer Try.prog 50 [.v .nilFunc] := ⟨[.nilFunc], by kernel_rfl, rfl, rfl⟩
instance : Typ Try.prog 51 1 false := ⟨by kernel_rfl⟩
instance : Zer Try.prog 51 [.v .nilFunc] := ⟨[.nilFunc], by kernel_rfl, rfl, rfl⟩
instance : Typ Try.prog 52 1 false := ⟨by kernel_rfl⟩
instance : Elm Try.prog 52 31 1 24 := ⟨by kernel_rfl, by decide⟩
instance : Zer Try.prog 52 [.v (.slice none 0 0)] := ⟨[.slice none 0 0], by kernel_rfl, rfl, rfl⟩
instance : Typ Try.prog 53 1 false := ⟨by kernel_rfl⟩
instance : Typ Try.prog 54 1 false := ⟨by kernel_rfl⟩
instance : Zer Try.prog 54 [.v .nilFunc] := ⟨[.nilFunc], by kernel_rfl, rfl, rfl⟩
instance : Typ Try.prog 55 1 false := ⟨by kernel_rfl⟩
instance : Zer Try.prog 55 [.v .nilFunc] := ⟨[.nilFunc], by kernel_rfl, rfl, rfl⟩
instance : Typ Try.prog 56 1 false := ⟨by kernel_rfl⟩
instance : Elm Try.prog 56 39 2 16 := ⟨by kernel_rfl, by decide⟩
instance : Zer Try.prog 56 [.v (.slice none 0 0)] := ⟨[.slice none 0 0], by kernel_rfl, rfl, rfl⟩
instance : Typ Try.prog 57 1 false := ⟨by kernel_rfl⟩
instance : Elm Try.prog 57 9 1 16 := ⟨by kernel_rfl, by decide⟩
instance : Zer Try.prog 57 [.v (.slice none 0 0)] := ⟨[.slice none 0 0], by kernel_rfl, rfl, rfl⟩
instance : Typ Try.prog 58 1 false := ⟨by kernel_rfl⟩
instance : Typ Try.prog 59 1 false := ⟨by kernel_rfl⟩
instance : Zer Try.prog 59 [.v .nilFunc] := ⟨[.nilFunc], by kernel_rfl, rfl, rfl⟩
instance : Typ Try.prog 60 1 false := ⟨by kernel_rfl⟩
instance : Typ Try.prog 61 1 false := ⟨by kernel_rfl⟩
instance : Zer Try.prog 61 [.v .nilFunc] := ⟨[.nilFunc], by kernel_rfl, rfl, rfl⟩
instance : Typ Try.prog 62 1 false := ⟨by kernel_rfl⟩
instance : Zer Try.prog 62 [.v .nilFunc] := ⟨[.nilFunc], by kernel_rfl, rfl, rfl⟩
instance : Typ Try.prog 63 1 false := ⟨by kernel_rfl⟩
instance : Zer Try.prog 63 [.v .nilFunc] := ⟨[.nilFunc], by kernel_rfl, rfl, rfl⟩
instance : Typ Try.prog 64 1 false := ⟨by kernel_rfl⟩
instance : Zer Try.prog 64 [.v .nilFunc] := ⟨[.nilFunc], by kernel_rfl, rfl, rfl⟩
instance : Typ Try.prog 65 1 false := ⟨by kernel_rfl⟩
instance : Zer Try.prog 65 [.v .nilFunc] := ⟨[.nilFunc], by kernel_rfl, rfl, rfl⟩
instance : Typ Try.prog 66 1 false := ⟨by kernel_rfl⟩
instance : Zer Try.prog 66 [.v .nilFunc] := ⟨[.nilFunc], by kernel_rfl, rfl, rfl⟩
instance : Typ Try.prog 67 7 true := ⟨by kernel_rfl⟩
instance : Zer Try.prog 67 [.v (.int .i64 0), .v (.int .i64 0), .v (.string ⟨#[]⟩), .v (.int .i64 0), .v (.int .i64 0), .v (.int .i64 0), .v (.int .i64 0)] := ⟨[.int .i64 0, .int .i64 0, .string ⟨#[]⟩, .int .i64 0, .int .i64 0, .int .i64 0, .int .i64 0], by kernel_rfl, rfl, rfl⟩
instance : Plc Try.prog 67 [(0, 2), (2, 1), (3, 2), (5, 2)] := ⟨by kernel_rfl⟩
instance : Fld Try.prog 67 0 0 2 := ⟨by kernel_rfl⟩
instance : Fld Try.prog 67 1 2 1 := ⟨by kernel_rfl⟩
instance : Fld Try.prog 67 2 3 2 := ⟨by kernel_rfl⟩
instance : Fld Try.prog 67 3 5 2 := ⟨by kernel_rfl⟩
instance : Typ Try.prog 68 7 true := ⟨by kernel_rfl⟩
instance : Zer Try.prog 68 [.v (.int .i64 0), .v (.int .i64 0), .v (.string ⟨#[]⟩), .v (.int .i64 0), .v (.int .i64 0), .v (.int .i64 0), .v (.int .i64 0)] := ⟨[.int .i64 0, .int .i64 0, .string ⟨#[]⟩, .int .i64 0, .int .i64 0, .int .i64 0, .int .i64 0], by kernel_rfl, rfl, rfl⟩
instance : Plc Try.prog 68 [(0, 2), (2, 1), (3, 2), (5, 2)] := ⟨by kernel_rfl⟩
instance : Fld Try.prog 68 0 0 2 := ⟨by kernel_rfl⟩
instance : Fld Try.prog 68 1 2 1 := ⟨by kernel_rfl⟩
instance : Fld Try.prog 68 2 3 2 := ⟨by kernel_rfl⟩
instance : Fld Try.prog 68 3 5 2 := ⟨by kernel_rfl⟩
instance : Typ Try.prog 69 1 false := ⟨by kernel_rfl⟩
instance : Zer Try.prog 69 [.v .nilFunc] := ⟨[.nilFunc], by kernel_rfl, rfl, rfl⟩
instance : Typ Try.prog 70 1 false := ⟨by kernel_rfl⟩
instance : Zer Try.prog 70 [.v .nilFunc] := ⟨[.nilFunc], by kernel_rfl, rfl, rfl⟩
instance : Typ Try.prog 71 1 false := ⟨by kernel_rfl⟩
instance : Zer Try.prog 71 [.v .nilFunc] := ⟨[.nilFunc], by kernel_rfl, rfl, rfl⟩
instance : Typ Try.prog 72 1 false := ⟨by kernel_rfl⟩
instance : Zer Try.prog 72 [.v .nilFunc] := ⟨[.nilFunc], by kernel_rfl, rfl, rfl⟩
instance : Typ Try.prog 73 1 false := ⟨by kernel_rfl⟩
instance : Zer Try.prog 73 [.v .nilFunc] := ⟨[.nilFunc], by kernel_rfl, rfl, rfl⟩
instance : Typ Try.prog 74 1 false := ⟨by kernel_rfl⟩
instance : Zer Try.prog 74 [.v .nilFunc] := ⟨[.nilFunc], by kernel_rfl, rfl, rfl⟩
instance : Typ Try.prog 75 1 false := ⟨by kernel_rfl⟩
instance : Zer Try.prog 75 [.v .nilFunc] := ⟨[.nilFunc], by kernel_rfl, rfl, rfl⟩
instance : Typ Try.prog 76 1 false := ⟨by kernel_rfl⟩
instance : Zer Try.prog 76 [.v .nilFunc] := ⟨[.nilFunc], by kernel_rfl, rfl, rfl⟩
instance : Typ Try.prog 77 1 false := ⟨by kernel_rfl⟩
instance : Elm Try.prog 77 34 8 88 := ⟨by kernel_rfl, by decide⟩
instance : Zer Try.prog 77 [.v (.slice none 0 0)] := ⟨[.slice none 0 0], by kernel_rfl, rfl, rfl⟩
instance : Typ Try.prog 78 2 true := ⟨by kernel_rfl⟩
instance : Zer Try.prog 78 [.v (.int .i64 0), .v (.slice none 0 0)] := ⟨[.int .i64 0, .slice none 0 0], by kernel_rfl, rfl, rfl⟩
instance : Plc Try.prog 78 [(0, 1), (1, 1)] := ⟨by kernel_rfl⟩
instance : Fld Try.prog 78 0 0 1 := ⟨by kernel_rfl⟩
instance : Fld Try.prog 78 1 1 1 := ⟨by kernel_rfl⟩
instance : Typ Try.prog 79 2 true := ⟨by kernel_rfl⟩
instance : Zer Try.prog 79 [.v (.int .i64 0), .v (.slice none 0 0)] := ⟨[.int .i64 0, .slice none 0 0], by kernel_rfl, rfl, rfl⟩
instance : Plc Try.prog 79 [(0, 1), (1, 1)] := ⟨by kernel_rfl⟩
instance : Fld Try.prog 79 0 0 1 := ⟨by kernel_rfl⟩
instance : Fld Try.prog 79 1 1 1 := ⟨by kernel_rfl⟩
instance : Typ Try.prog 80 2 true := ⟨by kernel_rfl⟩
instance : Zer Try.prog 80 [.v (.slice none 0 0), .v (.int .i64 0)] := ⟨[.slice none 0 0, .int .i64 0], by kernel_rfl, rfl, rfl⟩
instance : Plc Try.prog 80 [(0, 1), (1, 1)] := ⟨by kernel_rfl⟩
instance : Fld Try.prog 80 0 0 1 := ⟨by kernel_rfl⟩
instance : Fld Try.prog 80 1 1 1 := ⟨by kernel_rfl⟩
instance : Typ Try.prog 81 2 true := ⟨by kernel_rfl⟩
instance : Zer Try.prog 81 [.v (.slice none 0 0), .v (.int .i64 0)] := ⟨[.slice none 0 0, .int .i64 0], by kernel_rfl, rfl, rfl⟩
instance : Plc Try.prog 81 [(0, 1), (1, 1)] := ⟨by kernel_rfl⟩
instance : Fld Try.prog 81 0 0 1 := ⟨by kernel_rfl⟩
instance : Fld Try.prog 81 1 1 1 := ⟨by kernel_rfl⟩
instance : Typ Try.prog 82 1 false := ⟨by kernel_rfl⟩
instance : Zer Try.prog 82 [.v .nilFunc] := ⟨[.nilFunc], by kernel_rfl, rfl, rfl⟩
instance : Typ Try.prog 83 1 false := ⟨by kernel_rfl⟩
instance : Zer Try.prog 83 [.v .nilFunc] := ⟨[.nilFunc], by kernel_rfl, rfl, rfl⟩
instance : Typ Try.prog 84 1 false := ⟨by kernel_rfl⟩
instance : Zer Try.prog 84 [.v .nilFunc] := ⟨[.nilFunc], by kernel_rfl, rfl, rfl⟩
instance : Typ Try.prog 85 1 false := ⟨by kernel_rfl⟩
instance : Zer Try.prog 85 [.v .nilFunc] := ⟨[.nilFunc], by kernel_rfl, rfl, rfl⟩
instance : Typ Try.prog 86 1 false := ⟨by kernel_rfl⟩
instance : Zer Try.prog 86 [.v .nilFunc] := ⟨[.nilFunc], by kernel_rfl, rfl, rfl⟩
instance : Typ Try.prog 87 1 false := ⟨by kernel_rfl⟩
instance : Zer Try.prog 87 [.v .nilFunc] := ⟨[.nilFunc], by kernel_rfl, rfl, rfl⟩
instance : Typ Try.prog 88 1 false := ⟨by kernel_rfl⟩
instance : Typ Try.prog 89 1 false := ⟨by kernel_rfl⟩
instance : Zer Try.prog 89 [.v .nilFunc] := ⟨[.nilFunc], by kernel_rfl, rfl, rfl⟩
instance : Typ Try.prog 90 1 false := ⟨by kernel_rfl⟩
instance : Zer Try.prog 90 [.v .nilFunc] := ⟨[.nilFunc], by kernel_rfl, rfl, rfl⟩
instance : Typ Try.prog 91 1 false := ⟨by kernel_rfl⟩
instance : Zer Try.prog 91 [.v .nilFunc] := ⟨[.nilFunc], by kernel_rfl, rfl, rfl⟩
instance : Typ Try.prog 92 1 false := ⟨by kernel_rfl⟩
instance : Zer Try.prog 92 [.v (.pointer none)] := ⟨[.pointer none], by kernel_rfl, rfl, rfl⟩
instance : Typ Try.prog 93 1 false := ⟨by kernel_rfl⟩
instance : Zer Try.prog 93 [.v .nilFunc] := ⟨[.nilFunc], by kernel_rfl, rfl, rfl⟩
instance : Typ Try.prog 94 1 false := ⟨by kernel_rfl⟩
instance : Zer Try.prog 94 [.v (.pointer none)] := ⟨[.pointer none], by kernel_rfl, rfl, rfl⟩
instance : Typ Try.prog 95 1 false := ⟨by kernel_rfl⟩
instance : Zer Try.prog 95 [.v .nilFunc] := ⟨[.nilFunc], by kernel_rfl, rfl, rfl⟩
instance : Typ Try.prog 96 1 false := ⟨by kernel_rfl⟩
instance : Zer Try.prog 96 [.v .nilFunc] := ⟨[.nilFunc], by kernel_rfl, rfl, rfl⟩
instance : Typ Try.prog 97 1 false := ⟨by kernel_rfl⟩
instance : Zer Try.prog 97 [.v .nilFunc] := ⟨[.nilFunc], by kernel_rfl, rfl, rfl⟩
instance : Typ Try.prog 98 1 false := ⟨by kernel_rfl⟩
instance : Zer Try.prog 98 [.v .nilFunc] := ⟨[.nilFunc], by kernel_rfl, rfl, rfl⟩
instance : Typ Try.prog 99 1 false := ⟨by kernel_rfl⟩
instance : Zer Try.prog 99 [.v .nilFunc] := ⟨[.nilFunc], by kernel_rfl, rfl, rfl⟩
instance : Typ Try.prog 100 2 true := ⟨by kernel_rfl⟩
instance : Zer Try.prog 100 [.v (.string ⟨#[]⟩), .v (.int .i64 0)] := ⟨[.string ⟨#[]⟩, .int .i64 0], by kernel_rfl, rfl, rfl⟩
instance : Plc Try.prog 100 [(0, 1), (1, 1)] := ⟨by kernel_rfl⟩
instance : Fld Try.prog 100 0 0 1 := ⟨by kernel_rfl⟩
instance : Fld Try.prog 100 1 1 1 := ⟨by kernel_rfl⟩
instance : Typ Try.prog 101 2 true := ⟨by kernel_rfl⟩
instance : Zer Try.prog 101 [.v (.string ⟨#[]⟩), .v (.int .i64 0)] := ⟨[.string ⟨#[]⟩, .int .i64 0], by kernel_rfl, rfl, rfl⟩
instance : Plc Try.prog 101 [(0, 1), (1, 1)] := ⟨by kernel_rfl⟩
instance : Fld Try.prog 101 0 0 1 := ⟨by kernel_rfl⟩
instance : Fld Try.prog 101 1 1 1 := ⟨by kernel_rfl⟩
instance : Typ Try.prog 102 1 false := ⟨by kernel_rfl⟩
instance : Zer Try.prog 102 [.v .nilFunc] := ⟨[.nilFunc], by kernel_rfl, rfl, rfl⟩
instance : Typ Try.prog 103 1 false := ⟨by kernel_rfl⟩
instance : Zer Try.prog 103 [.v .nilFunc] := ⟨[.nilFunc], by kernel_rfl, rfl, rfl⟩
instance : Typ Try.prog 104 1 false := ⟨by kernel_rfl⟩
instance : Typ Try.prog 105 1 false := ⟨by kernel_rfl⟩
instance : Zer Try.prog 105 [.v .nilFunc] := ⟨[.nilFunc], by kernel_rfl, rfl, rfl⟩
instance : Typ Try.prog 106 1 false := ⟨by kernel_rfl⟩
instance : Zer Try.prog 106 [.v .nilFunc] := ⟨[.nilFunc], by kernel_rfl, rfl, rfl⟩
instance : Typ Try.prog 107 1 false := ⟨by kernel_rfl⟩
instance : Zer Try.prog 107 [.v .nilFunc] := ⟨[.nilFunc], by kernel_rfl, rfl, rfl⟩
instance : Typ Try.prog 108 1 false := ⟨by kernel_rfl⟩
instance : Zer Try.prog 108 [.v .nilFunc] := ⟨[.nilFunc], by kernel_rfl, rfl, rfl⟩
instance : Typ Try.prog 109 1 false := ⟨by kernel_rfl⟩
instance : Elm Try.prog 109 44 1 8 := ⟨by kernel_rfl, by decide⟩
instance : Zer Try.prog 109 [.v (.slice none 0 0)] := ⟨[.slice none 0 0], by kernel_rfl, rfl, rfl⟩
instance : Typ Try.prog 110 1 false := ⟨by kernel_rfl⟩
instance : Zer Try.prog 110 [.v .nilFunc] := ⟨[.nilFunc], by kernel_rfl, rfl, rfl⟩
instance : Typ Try.prog 111 1 false := ⟨by kernel_rfl⟩
instance : Zer Try.prog 111 [.v .nilFunc] := ⟨[.nilFunc], by kernel_rfl, rfl, rfl⟩
instance : Typ Try.prog 112 1 false := ⟨by kernel_rfl⟩
instance : Zer Try.prog 112 [.v .nilFunc] := ⟨[.nilFunc], by kernel_rfl, rfl, rfl⟩
instance : Typ Try.prog 113 1 false := ⟨by kernel_rfl⟩
instance : Zer Try.prog 113 [.v .nilFunc] := ⟨[.nilFunc], by kernel_rfl, rfl, rfl⟩
instance : Typ Try.prog 114 1 false := ⟨by kernel_rfl⟩
instance : Zer Try.prog 114 [.v .nilFunc] := ⟨[.nilFunc], by kernel_rfl, rfl, rfl⟩
instance : Typ Try.prog 115 1 false := ⟨by kernel_rfl⟩
instance : Zer Try.prog 115 [.v .nilFunc] := ⟨[.nilFunc], by kernel_rfl, rfl, rfl⟩
instance : Typ Try.prog 116 1 false := ⟨by kernel_rfl⟩
instance : Zer Try.prog 116 [.v .nilFunc] := ⟨[.nilFunc], by kernel_rfl, rfl, rfl⟩
instance : Typ Try.prog 117 1 false := ⟨by kernel_rfl⟩
instance : Zer Try.prog 117 [.v .nilFunc] := ⟨[.nilFunc], by kernel_rfl, rfl, rfl⟩
instance : Typ Try.prog 118 1 false := ⟨by kernel_rfl⟩
instance : Zer Try.prog 118 [.v .nilFunc] := ⟨[.nilFunc], by kernel_rfl, rfl, rfl⟩
instance : Typ Try.prog 119 1 false := ⟨by kernel_rfl⟩
instance : Zer Try.prog 119 [.v .nilFunc] := ⟨[.nilFunc], by kernel_rfl, rfl, rfl⟩
instance : Typ Try.prog 120 1 false := ⟨by kernel_rfl⟩
instance : Zer Try.prog 120 [.v .nilFunc] := ⟨[.nilFunc], by kernel_rfl, rfl, rfl⟩
instance : Typ Try.prog 121 1 false := ⟨by kernel_rfl⟩
instance : Zer Try.prog 121 [.v .nilFunc] := ⟨[.nilFunc], by kernel_rfl, rfl, rfl⟩
instance : Typ Try.prog 122 1 false := ⟨by kernel_rfl⟩
instance : Zer Try.prog 122 [.v .nilFunc] := ⟨[.nilFunc], by kernel_rfl, rfl, rfl⟩
instance : Typ Try.prog 123 1 false := ⟨by kernel_rfl⟩
instance : Zer Try.prog 123 [.v .nilFunc] := ⟨[.nilFunc], by kernel_rfl, rfl, rfl⟩
instance : Typ Try.prog 124 1 false := ⟨by kernel_rfl⟩
instance : Zer Try.prog 124 [.v .nilFunc] := ⟨[.nilFunc], by kernel_rfl, rfl, rfl⟩
instance : Typ Try.prog 125 1 false := ⟨by kernel_rfl⟩
instance : Zer Try.prog 125 [.v .nilFunc] := ⟨[.nilFunc], by kernel_rfl, rfl, rfl⟩
instance : Typ Try.prog 126 1 false := ⟨by kernel_rfl⟩
instance : Zer Try.prog 126 [.v .nilFunc] := ⟨[.nilFunc], by kernel_rfl, rfl, rfl⟩
instance : Typ Try.prog 127 1 false := ⟨by kernel_rfl⟩
instance : Zer Try.prog 127 [.v .nilFunc] := ⟨[.nilFunc], by kernel_rfl, rfl, rfl⟩
instance : Typ Try.prog 128 1 false := ⟨by kernel_rfl⟩
instance : Zer Try.prog 128 [.v .nilFunc] := ⟨[.nilFunc], by kernel_rfl, rfl, rfl⟩
instance : Typ Try.prog 129 1 false := ⟨by kernel_rfl⟩
instance : Zer Try.prog 129 [.v .nilFunc] := ⟨[.nilFunc], by kernel_rfl, rfl, rfl⟩
instance : Typ Try.prog 130 256 true := ⟨by kernel_rfl⟩
instance : Typ Try.prog 131 256 true := ⟨by kernel_rfl⟩
instance : Typ Try.prog 132 1 false := ⟨by kernel_rfl⟩
instance : Typ Try.prog 133 1 false := ⟨by kernel_rfl⟩
instance : Zer Try.prog 133 [.v .nilFunc] := ⟨[.nilFunc], by kernel_rfl, rfl, rfl⟩
instance : Typ Try.prog 134 1 false := ⟨by kernel_rfl⟩
instance : Zer Try.prog 134 [.v .nilFunc] := ⟨[.nilFunc], by kernel_rfl, rfl, rfl⟩
instance : Typ Try.prog 135 1 false := ⟨by kernel_rfl⟩
instance : Zer Try.prog 135 [.v .nilFunc] := ⟨[.nilFunc], by kernel_rfl, rfl, rfl⟩
instance : Typ Try.prog 136 1 false := ⟨by kernel_rfl⟩
instance : Zer Try.prog 136 [.v (.int .u64 0)] := ⟨[.int .u64 0], by kernel_rfl, rfl, rfl⟩
instance : Typ Try.prog 137 1 false := ⟨by kernel_rfl⟩
instance : Zer Try.prog 137 [.v (.pointer none)] := ⟨[.pointer none], by kernel_rfl, rfl, rfl⟩
instance : Typ Try.prog 138 1 false := ⟨by kernel_rfl⟩
instance : Zer Try.prog 138 [.v .nilFunc] := ⟨[.nilFunc], by kernel_rfl, rfl, rfl⟩
instance : Typ Try.prog 139 4 true := ⟨by kernel_rfl⟩
instance : Zer Try.prog 139 [.v (.pointer none), .v (.pointer none), .v (.pointer none), .v (.string ⟨#[]⟩)] := ⟨[.pointer none, .pointer none, .pointer none, .string ⟨#[]⟩], by kernel_rfl, rfl, rfl⟩
instance : Plc Try.prog 139 [(0, 1), (1, 1), (2, 1), (3, 1)] := ⟨by kernel_rfl⟩
instance : Fld Try.prog 139 0 0 1 := ⟨by kernel_rfl⟩
instance : Fld Try.prog 139 1 1 1 := ⟨by kernel_rfl⟩
instance : Fld Try.prog 139 2 2 1 := ⟨by kernel_rfl⟩
instance : Fld Try.prog 139 3 3 1 := ⟨by kernel_rfl⟩
instance : Typ Try.prog 140 4 true := ⟨by kernel_rfl⟩
instance : Zer Try.prog 140 [.v (.pointer none), .v (.pointer none), .v (.pointer none), .v (.string ⟨#[]⟩)] := ⟨[.pointer none, .pointer none, .pointer none, .string ⟨#[]⟩], by kernel_rfl, rfl, rfl⟩
instance : Plc Try.prog 140 [(0, 1), (1, 1), (2, 1), (3, 1)] := ⟨by kernel_rfl⟩
instance : Fld Try.prog 140 0 0 1 := ⟨by kernel_rfl⟩
instance : Fld Try.prog 140 1 1 1 := ⟨by kernel_rfl⟩
instance : Fld Try.prog 140 2 2 1 := ⟨by kernel_rfl⟩
instance : Fld Try.prog 140 3 3 1 := ⟨by kernel_rfl⟩
instance : Typ Try.prog 141 0 true := ⟨by kernel_rfl⟩
instance : Typ Try.prog 142 0 true := ⟨by kernel_rfl⟩
instance : Plc Try.prog 142 [(0, 0)] := ⟨by kernel_rfl⟩
instance : Typ Try.prog 143 0 true := ⟨by kernel_rfl⟩
instance : Plc Try.prog 143 [(0, 0)] := ⟨by kernel_rfl⟩
instance : Typ Try.prog 144 1 false := ⟨by kernel_rfl⟩
instance : Zer Try.prog 144 [.v .nilFunc] := ⟨[.nilFunc], by kernel_rfl, rfl, rfl⟩
instance : Typ Try.prog 145 1 false := ⟨by kernel_rfl⟩
instance : Zer Try.prog 145 [.v (.int .u32 0)] := ⟨[.int .u32 0], by kernel_rfl, rfl, rfl⟩
instance : Typ Try.prog 146 1 false := ⟨by kernel_rfl⟩
instance : Zer Try.prog 146 [.v (.int .u8 0)] := ⟨[.int .u8 0], by kernel_rfl, rfl, rfl⟩
instance : Typ Try.prog 147 1 false := ⟨by kernel_rfl⟩
instance : Zer Try.prog 147 [.v (.int .u8 0)] := ⟨[.int .u8 0], by kernel_rfl, rfl, rfl⟩
instance : Typ Try.prog 148 1 false := ⟨by kernel_rfl⟩
instance : Zer Try.prog 148 [.v .nilFunc] := ⟨[.nilFunc], by kernel_rfl, rfl, rfl⟩
instance : Typ Try.prog 149 1 false := ⟨by kernel_rfl⟩
instance : Zer Try.prog 149 [.v (.pointer none)] := ⟨[.pointer none], by kernel_rfl, rfl, rfl⟩
instance : Typ Try.prog 150 1 false := ⟨by kernel_rfl⟩
instance : Zer Try.prog 150 [.v (.int .i32 0)] := ⟨[.int .i32 0], by kernel_rfl, rfl, rfl⟩
instance : Typ Try.prog 151 1 false := ⟨by kernel_rfl⟩
instance : Zer Try.prog 151 [.v (.int .i32 0)] := ⟨[.int .i32 0], by kernel_rfl, rfl, rfl⟩
instance : Typ Try.prog 152 11 true := ⟨by kernel_rfl⟩
instance : Zer Try.prog 152 [.v (.int .u64 0), .v (.int .u64 0), .v (.int .u32 0), .v (.int .u8 0), .v (.int .u8 0), .v (.int .u8 0), .v (.int .u8 0), .v .nilFunc, .v (.pointer none), .v (.int .i32 0), .v (.int .i32 0)] := ⟨[.int .u64 0, .int .u64 0, .int .u32 0, .int .u8 0, .int .u8 0, .int .u8 0, .int .u8 0, .nilFunc, .pointer none, .int .i32 0, .int .i32 0], by kernel_rfl, rfl, rfl⟩
instance : Plc Try.prog 152 [(0, 1), (1, 1), (2, 1), (3, 1), (4, 1), (5, 1), (6, 1), (7, 1), (8, 1), (9, 1), (10, 1)] := ⟨by kernel_rfl⟩
instance : Fld Try.prog 152 0 0 1 := ⟨by kernel_rfl⟩
instance : Fld Try.prog 152 1 1 1 := ⟨by kernel_rfl⟩
instance : Fld Try.prog 152 2 2 1 := ⟨by kernel_rfl⟩
instance : Fld Try.prog 152 3 3 1 := ⟨by kernel_rfl⟩
instance : Fld Try.prog 152 4 4 1 := ⟨by kernel_rfl⟩
instance : Fld Try.prog 152 5 5 1 := ⟨by kernel_rfl⟩
instance : Fld Try.prog 152 6 6 1 := ⟨by kernel_rfl⟩
instance : Fld Try.prog 152 7 7 1 := ⟨by kernel_rfl⟩
instance : Fld Try.prog 152 8 8 1 := ⟨by kernel_rfl⟩
instance : Fld Try.prog 152 9 9 1 := ⟨by kernel_rfl⟩
instance : Fld Try.prog 152 10 10 1 := ⟨by kernel_rfl⟩
instance : Typ Try.prog 153 11 true := ⟨by kernel_rfl⟩
instance : Zer Try.prog 153 [.v (.int .u64 0), .v (.int .u64 0), .v (.int .u32 0), .v (.int .u8 0), .v (.int .u8 0), .v (.int .u8 0), .v (.int .u8 0), .v .nilFunc, .v (.pointer none), .v (.int .i32 0), .v (.int .i32 0)] := ⟨[.int .u64 0, .int .u64 0, .int .u32 0, .int .u8 0, .int .u8 0, .int .u8 0, .int .u8 0, .nilFunc, .pointer none, .int .i32 0, .int .i32 0], by kernel_rfl, rfl, rfl⟩
instance : Plc Try.prog 153 [(0, 1), (1, 1), (2, 1), (3, 1), (4, 1), (5, 1), (6, 1), (7, 1), (8, 1), (9, 1), (10, 1)] := ⟨by kernel_rfl⟩
instance : Fld Try.prog 153 0 0 1 := ⟨by kernel_rfl⟩
instance : Fld Try.prog 153 1 1 1 := ⟨by kernel_rfl⟩
instance : Fld Try.prog 153 2 2 1 := ⟨by kernel_rfl⟩
instance : Fld Try.prog 153 3 3 1 := ⟨by kernel_rfl⟩
instance : Fld Try.prog 153 4 4 1 := ⟨by kernel_rfl⟩
instance : Fld Try.prog 153 5 5 1 := ⟨by kernel_rfl⟩
instance : Fld Try.prog 153 6 6 1 := ⟨by kernel_rfl⟩
instance : Fld Try.prog 153 7 7 1 := ⟨by kernel_rfl⟩
instance : Fld Try.prog 153 8 8 1 := ⟨by kernel_rfl⟩
instance : Fld Try.prog 153 9 9 1 := ⟨by kernel_rfl⟩
instance : Fld Try.prog 153 10 10 1 := ⟨by kernel_rfl⟩
instance : Typ Try.prog 154 1 false := ⟨by kernel_rfl⟩
instance : Zer Try.prog 154 [.v (.pointer none)] := ⟨[.pointer none], by kernel_rfl, rfl, rfl⟩
instance : Fun Try.prog 2 := ⟨by kernel_rfl⟩
instance : Fun Try.prog 3 := ⟨by kernel_rfl⟩
instance : Fun Try.prog 4 := ⟨by kernel_rfl⟩
instance : Fun Try.prog 5 := ⟨by kernel_rfl⟩
instance : Fun Try.prog 6 := ⟨by kernel_rfl⟩
instance : Fun Try.prog 7 := ⟨by kernel_rfl⟩
instance : Fun Try.prog 8 := ⟨by kernel_rfl⟩
instance : Fun Try.prog 9 := ⟨by kernel_rfl⟩
instance : Fun Try.prog 10 := ⟨by kernel_rfl⟩
instance : Fun Try.prog 11 := ⟨by kernel_rfl⟩
instance : Fun Try.prog 12 := ⟨by kernel_rfl⟩
instance : Fun Try.prog 13 := ⟨by kernel_rfl⟩
instance : Fun Try.prog 14 := ⟨by kernel_rfl⟩
instance : Fun Try.prog 15 := ⟨by kernel_rfl⟩
instance : Fun Try.prog 16 := ⟨by kernel_rfl⟩
instance : Fun Try.prog 17 := ⟨by kernel_rfl⟩
instance : Fun Try.prog 18 := ⟨by kernel_rfl⟩
instance : Fun Try.prog 19 := ⟨by kernel_rfl⟩
instance : Fun Try.prog 20 := ⟨by kernel_rfl⟩
instance : Fun Try.prog 21 := ⟨by kernel_rfl⟩
instance : Fun Try.prog 22 := ⟨by kernel_rfl⟩
instance : Fun Try.prog 23 := ⟨by kernel_rfl⟩
instance : Fun Try.prog 24 := ⟨by kernel_rfl⟩
instance : Fun Try.prog 25 := ⟨by kernel_rfl⟩
instance : Fun Try.prog 26 := ⟨by kernel_rfl⟩
instance : Fun Try.prog 27 := ⟨by kernel_rfl⟩
instance : Fun Try.prog 28 := ⟨by kernel_rfl⟩
instance : Fun Try.prog 29 := ⟨by kernel_rfl⟩
instance : Fun Try.prog 30 := ⟨by kernel_rfl⟩
instance : Fun Try.prog 31 := ⟨by kernel_rfl⟩
instance : Fun Try.prog 32 := ⟨by kernel_rfl⟩
instance : Fun Try.prog 33 := ⟨by kernel_rfl⟩
instance : Fun Try.prog 34 := ⟨by kernel_rfl⟩
instance : Fun Try.prog 35 := ⟨by kernel_rfl⟩
instance : Fun Try.prog 36 := ⟨by kernel_rfl⟩
instance : Fun Try.prog 37 := ⟨by kernel_rfl⟩
instance : Fun Try.prog 38 := ⟨by kernel_rfl⟩
instance : Fun Try.prog 39 := ⟨by kernel_rfl⟩
instance : Fun Try.prog 40 := ⟨by kernel_rfl⟩
instance : Fun Try.prog 41 := ⟨by kernel_rfl⟩
instance : Fun Try.prog 42 := ⟨by kernel_rfl⟩
instance : Fun Try.prog 43 := ⟨by kernel_rfl⟩
instance : Fun Try.prog 44 := ⟨by kernel_rfl⟩
instance : Fun Try.prog 45 := ⟨by kernel_rfl⟩
instance : Fun Try.prog 46 := ⟨by kernel_rfl⟩
instance : Fun Try.prog 47 := ⟨by kernel_rfl⟩
instance : Fun Try.prog 48 := ⟨by kernel_rfl⟩
instance : Fun Try.prog 49 := ⟨by kernel_rfl⟩
instance : Fun Try.prog 50 := ⟨by kernel_rfl⟩
instance : Fun Try.prog 51 := ⟨by kernel_rfl⟩
instance : Fun Try.prog 52 := ⟨by kernel_rfl⟩
instance : Fun Try.prog 53 := ⟨by kernel_rfl⟩
instance : Fun Try.prog 54 := ⟨by kernel_rfl⟩
instance : Fun Try.prog 55 := ⟨by kernel_rfl⟩
instance : Fun Try.prog 56 := ⟨by kernel_rfl⟩
instance : Fun Try.prog 57 := ⟨by kernel_rfl⟩
instance : Fun Try.prog 58 := ⟨by kernel_rfl⟩
instance : Fun Try.prog 59 := ⟨by kernel_rfl⟩
instance : Fun Try.prog 60 := ⟨by kernel_rfl⟩
instance : Fun Try.prog 61 := ⟨by kernel_rfl⟩
instance : Fun Try.prog 62 := ⟨by kernel_rfl⟩
instance : Fun Try.prog 63 := ⟨by kernel_rfl⟩
instance : Fun Try.prog 64 := ⟨by kernel_rfl⟩
instance : Fun Try.prog 65 := ⟨by kernel_rfl⟩
instance : Fun Try.prog 66 := ⟨by kernel_rfl⟩
instance : Fun Try.prog 67 := ⟨by kernel_rfl⟩
instance : Fun Try.prog 68 := ⟨by kernel_rfl⟩
instance : Fun Try.prog 69 := ⟨by kernel_rfl⟩
instance : Fun Try.prog 70 := ⟨by kernel_rfl⟩
instance : Fun Try.prog 71 := ⟨by kernel_rfl⟩
instance : Fun Try.prog 72 := ⟨by kernel_rfl⟩
instance : Fun Try.prog 73 := ⟨by kernel_rfl⟩
instance : Fun Try.prog 74 := ⟨by kernel_rfl⟩
instance : Fun Try.prog 75 := ⟨by kernel_rfl⟩
instance : Fun Try.prog 76 := ⟨by kernel_rfl⟩
instance : Fun Try.prog 77 := ⟨by kernel_rfl⟩
instance : Fun Try.prog 78 := ⟨by kernel_rfl⟩
instance : Fun Try.prog 79 := ⟨by kernel_rfl⟩
instance : Fun Try.prog 80 := ⟨by kernel_rfl⟩
instance : Fun Try.prog 81 := ⟨by kernel_rfl⟩
instance : Fun Try.prog 82 := ⟨by kernel_rfl⟩
instance : Fun Try.prog 83 := ⟨by kernel_rfl⟩
instance : Fun Try.prog 84 := ⟨by kernel_rfl⟩
instance : Fun Try.prog 85 := ⟨by kernel_rfl⟩
instance : Fun Try.prog 86 := ⟨by kernel_rfl⟩
instance : Fun Try.prog 87 := ⟨by kernel_rfl⟩
instance : Fun Try.prog 88 := ⟨by kernel_rfl⟩
instance : Fun Try.prog 89 := ⟨by kernel_rfl⟩
instance : Fun Try.prog 90 := ⟨by kernel_rfl⟩
instance : Fun Try.prog 91 := ⟨by kernel_rfl⟩
instance : Fun Try.prog 92 := ⟨by kernel_rfl⟩
instance : Fun Try.prog 93 := ⟨by kernel_rfl⟩
instance : Fun Try.prog 94 := ⟨by kernel_rfl⟩
instance : Fun Try.prog 95 := ⟨by kernel_rfl⟩
instance : Fun Try.prog 96 := ⟨by kernel_rfl⟩
instance : Fun Try.prog 97 := ⟨by kernel_rfl⟩
instance : Fun Try.prog 98 := ⟨by kernel_rfl⟩
instance : Fun Try.prog 99 := ⟨by kernel_rfl⟩
instance : Fun Try.prog 100 := ⟨by kernel_rfl⟩
instance : Fun Try.prog 101 := ⟨by kernel_rfl⟩
instance : Fun Try.prog 102 := ⟨by kernel_rfl⟩
instance : Fun Try.prog 103 := ⟨by kernel_rfl⟩
instance : Fun Try.prog 104 := ⟨by kernel_rfl⟩
instance : Fun Try.prog 105 := ⟨by kernel_rfl⟩
instance : Fun Try.prog 106 := ⟨by kernel_rfl⟩
instance : Fun Try.prog 107 := ⟨by kernel_rfl⟩
instance : Fun Try.prog 108 := ⟨by kernel_rfl⟩
instance : Fun Try.prog 110 := ⟨by kernel_rfl⟩
instance : Fun Try.prog 111 := ⟨by kernel_rfl⟩
instance : Fun Try.prog 112 := ⟨by kernel_rfl⟩
instance : Fun Try.prog 113 := ⟨by kernel_rfl⟩
instance : Fun Try.prog 114 := ⟨by kernel_rfl⟩
instance : Fun Try.prog 115 := ⟨by kernel_rfl⟩
instance : Fun Try.prog 116 := ⟨by kernel_rfl⟩
instance : Fun Try.prog 117 := ⟨by kernel_rfl⟩
instance : Fun Try.prog 118 := ⟨by kernel_rfl⟩
instance : Fun Try.prog 119 := ⟨by kernel_rfl⟩
instance : Fun Try.prog 120 := ⟨by kernel_rfl⟩
instance : Fun Try.prog 121 := ⟨by kernel_rfl⟩
instance : Fun Try.prog 124 := ⟨by kernel_rfl⟩
end Go.Proofs.Ythcbdkmhamhciaa
