/-
  Part 13 of the proof of MountsOrderP: what the statement's proof uses of the texts in wip/tpl.
-/
import Derived.OpenShut
import Derived.ChangeArms
import Derived.ChangeOld
import Derived.DataReads
import Derived.DataElems
import Derived.Test.YtgliiknfmlmddaaMo12
namespace Go.Proofs.Ytgliiknfmlmddaa
open Go.RowKit

section
set_option maxRecDepth 10000
set_option maxHeartbeats 1000000
theorem Padd (s : Spc) (dev : Int) (a : Fil) (hs : SpcB s) (hne : ∀ d ∈ s.files, 0 < d.nodes.length) : AFn Try.prog 15 [.agg (spcA s), .v (.int .i64 dev), .agg (filA a)] (fun r => r = spcR (addL s dev a)) := by
  have hfew := hs.few
  refine enter Try.func15 rfl rfl rfl rfl rfl 0 rfl ?_
  refine w_ (b_ (h:=b_ (h:=al_ (h:=a_ (h:=e_ (q_ (w_ (l_ (h:=m_ (h:=?_))))))))))
  refine al_p rfl (q_call (PdeviceM s dev hs) ?_)
  rintro r rfl
  refine nt_ (h:=e_ (?_))
  refine aw_cond rfl (fun hb1 => ?_) (fun hb1 => ?_)
  · have hc1 := bp hb1
    refine w_ (bd_ (h:=s_ (h:=a_ (h:=e_ (aw_ret (x_thenR (?_)))))))
    refine rt_ (r := spcR (addL s dev a)) none (h5 := ?_) (h6 := ⟨rfl, rfl, rfl⟩)
    rw [addL, if_pos (by omega)]
    exact sperr_le _
  · have hc1 := bp hb1
    refine kt_ (w_ (f_ (h:=l_ (h:=l_ (h:=?_)))))
    refine al_p rfl (q_call (Pnode s.files a hs.files) ?_)
    rintro r rfl
    refine m_ (h:=x_ (h:=x_ (h:=al_ (h:=s_ (h:=a_ (h:=e_ (q_ (aw_block (w_ (m_ (h:=nt_ (h:=a_ (h:=e_ (?_))))))))))))))
    refine aw_cond rfl (fun hb2 => ?_) (fun hb2 => ?_)
    · have hc2 := bp hb2
      refine w_ (bd_ (h:=s_ (h:=a_ (h:=e_ (aw_ret (x_blockR (x_thenR (?_))))))))
      refine rt_ (r := spcR (addL s dev a)) none (h5 := ?_) (h6 := ⟨rfl, rfl, rfl⟩)
      rw [addL, if_neg (by omega), if_pos hc2]
      exact sperr_le _
    · have hc2 := bp hb2
      refine w_ (f_ (h:=l_ (h:=nq_ (h:=a_ (h:=e_ (?_))))))
      refine aw_cond rfl (fun hb3 => ?_) (fun hb3 => ?_)
      · have hc3 := bp hb3
        refine w_ (bd_ (h:=s_ (h:=a_ (h:=e_ (aw_ret (x_blockR (x_thenR (?_))))))))
        refine rt_ (r := spcR (addL s dev a)) none (h5 := ?_) (h6 := ⟨rfl, rfl, rfl⟩)
        rw [addL, if_neg (by omega), if_neg (by simp [hc2]), if_pos hc3]
        exact sperr_le _
      · have hc3 := bp hb3
        refine w_ (l_ (h:=f_ (h:=l_ (h:=?_))))
        refine al_p rfl (q_call (Pmounted s a.1 hs) ?_)
        rintro r rfl
        refine nt_ (h:=m_ (h:=?_))
        refine al_gs false rfl rfl (fun hb4 => ?_) (fun hb4 => ?_)
        · have hc4 := bp hb4
          refine g0_ (h:=g0_ (h:=g0_ (h:=g0_ (h:=pt_ (h:=a_ (h:=e_ (cy_ (h:=w_ (bd_ (h:=s_ (h:=a_ (h:=e_ (aw_ret (x_blockR (x_thenR (?_))))))))))))))))
          refine rt_ (r := spcR (addL s dev a)) none (h5 := ?_) (h6 := ⟨rfl, rfl, rfl⟩)
          rw [addL, if_neg (by omega), if_neg (by simp [hc2]), if_neg (by simp [hc3]), if_pos (.inl hc4)]
          exact sperr_le _
        · have hc4 := bp hb4
          refine f_ (h:=l_ (h:=m_ (h:=eq_ (h:=pf_ (h:=a_ (h:=e_ (?_)))))))
          refine aw_cond rfl (fun hb5 => ?_) (fun hb5 => ?_)
          · have hc5 := bp hb5
            refine w_ (bd_ (h:=s_ (h:=a_ (h:=e_ (aw_ret (x_blockR (x_thenR (?_))))))))
            refine rt_ (r := spcR (addL s dev a)) none (h5 := ?_) (h6 := ⟨rfl, rfl, rfl⟩)
            rw [addL, if_neg (by omega), if_neg (by simp [hc2]), if_neg (by simp [hc3]), if_pos (.inr hc5)]
            exact sperr_le _
          · have hc5 := bp hb5
            refine w_ (l_ (h:=m_ (h:=?_)))
            refine al_p rfl (q_call (Pmounted s dev hs) ?_)
            rintro r rfl
            refine m_ (h:=?_)
            refine al_gs false rfl rfl (fun hb6 => ?_) (fun hb6 => ?_)
            · have hc6 := bp hb6
              refine g0_ (h:=g0_ (h:=g0_ (h:=pt_ (h:=a_ (h:=e_ (cy_ (h:=w_ (bd_ (h:=s_ (h:=a_ (h:=e_ (aw_ret (x_blockR (x_thenR (?_)))))))))))))))
              refine rt_ (r := spcR (addL s dev a)) none (h5 := ?_) (h6 := ⟨rfl, rfl, rfl⟩)
              rw [addL, if_neg (by omega), if_neg (by simp [hc2]), if_neg (by simp [hc3]), if_neg (by simp [hc4, hc5]), if_pos (.inl hc6)]
              exact sperr_le _
            · have hc6 := bp hb6
              refine l_ (h:=l_ (h:=?_))
              refine g_y (q_call (Pcovered s a hs) ?_)
              rintro r rfl
              refine pf_ (h:=a_ (h:=e_ (?_)))
              refine aw_cond rfl (fun hb7 => ?_) (fun hb7 => ?_)
              · have hc7 := bp hb7
                refine w_ (bd_ (h:=s_ (h:=a_ (h:=e_ (aw_ret (x_blockR (x_thenR (?_))))))))
                refine rt_ (r := spcR (addL s dev a)) none (h5 := ?_) (h6 := ⟨rfl, rfl, rfl⟩)
                rw [addL, if_neg (by omega), if_neg (by simp [hc2]), if_neg (by simp [hc3]), if_neg (by simp [hc4, hc5]), if_pos (.inr hc7)]
                exact sperr_le _
              · have hc7 := bp hb7
                refine aw_skip (x_blockN (t_ (w_ (l_ (h:=?_)))))
                refine al_p rfl (s_callT rfl (by repeat (first | exact Args.nil | refine Args.cons _ _ _ _ _ rfl (argOk_clean rfl) ?_ | refine Args.cons _ _ _ _ _ rfl (argOk_nil _) ?_ | refine Args.cons _ _ _ _ _ rfl (argOk_era _) ?_ | refine Args.cons _ _ _ _ _ rfl (argOk_le rfl (by repeat (first | exact LeA.refl _ | exact LeA.nil _ | exact LeL.refl _ | refine LeA.agg ?_ | refine LeA.tup ?_ | exact LeL.nil | refine LeL.cons ?_ ?_ | exact LeA.any _))) ?_)) (PspcT s hs hne) (fun _ => rfl) (by repeat constructor) ?_)
                refine s_ (h:=e_ (w_ (f_ (h:=l_ (h:=m_ (h:=l_ (h:=bd_ (h:=bs_ (h:=?_)))))))))
                first | refine al_p rfl (s_append rfl rfl rfl (by simp; omega) (by repeat constructor) ?_) | refine al_p rfl (s_append0 rfl rfl (by simp; omega) (by repeat constructor) ?_)
                refine f_ (h:=s_ (h:=e_ (w_ (l_ (h:=s_ (h:=a_ (h:=e_ (aw_ret (?_)))))))))
                refine e_ret ?_
                rw [addL, if_neg (by omega), if_neg (by simp [hc2]), if_neg (by simp [hc3]), if_neg (by simp [hc4, hc5]), if_neg (by simp [hc6, hc7])]
                simp only [spcR, spcA, List.map_append]
                rfl

end
end Go.Proofs.Ytgliiknfmlmddaa
namespace Go.Proofs.Ytgliiknfmlmddaa
open Go.RowKit

theorem afn_spc {P : Program} {f : FuncId} {s : Spc} {xs : List AV} {us : List Value} {z : Value} {R : AV} (hx : ∀ (G : Gh) (w : World) (vs : List Value), repL G w xs vs → vs = us) (hR : ∀ (G : Gh) (w : World), rep G w R z)
    (h : ∀ (w : World) (ds ms : Value), SpcIn s w.heap.size w ds ms → Calls P f (.agg #[ds, ms] :: us).toArray w fun e w' => e = .returned z ∧ Below w.heap.size w w') : AFn P f (.agg (spcA s) :: xs) (fun r => r = R) := by
  intro w St bl vs hr hv
  simp only [repL] at hv
  obtain ⟨z0, zs, rfl, h1, h2⟩ := hv
  obtain rfl := hx _ _ _ h2
  simp only [rep, spcA, repL] at h1
  obtain ⟨ys, rfl, ds, _, rfl, h3, ms, _, rfl, h4, rfl⟩ := h1
  have hs : SpcIn s w.heap.size w ds ms := by
    refine ⟨Nat.le_refl _, ?_⟩
    refine froL_mono (St := St) (fun b o hb => ⟨hr.stlt b o hb, rfl⟩) _ _ ?_
    simp only [spcA, froL]
    exact ⟨_, _, rfl, h3, _, _, rfl, h4, rfl⟩
  refine (h w ds ms hs).mono ?_
  rintro e w' ⟨rfl, hb⟩
  obtain ⟨k1, k2⟩ := hr.below hb
  exact ⟨_, _, _, _, ⟨rfl, rfl, rfl⟩, k1, k2, hR _ _⟩
theorem repL_fil {G : Gh} {w : World} {a : Fil} {vs : List Value} (h : repL G w [.agg (filA a)] vs) : vs = [FilV a] := by
  simp only [repL, rep, filA] at h
  obtain ⟨_, _, rfl, ⟨_, rfl, _, _, rfl, rfl, _, _, rfl, rfl, rfl⟩, rfl⟩ := h
  rfl
structure SpcN (s : Spc) : Prop where
  b : SpcB s
  nm : ∀ x, (nmoL s x).size ≤ 100
  most : mostL s.files ≤ 5000
section
variable {s : Spc} (hs : SpcN s)
include hs
theorem Pwhere (a : Fil) : AFn Try.prog 23 [.agg (spcA s), .agg (filA a)] (fun r => r = .tup [.v (.string (whereP s a).1), .v (.bool (whereP s a).2)]) :=
  afn_spc (us := [FilV a]) (z := .tuple #[.string (whereP s a).1, .bool (whereP s a).2]) (fun _ _ _ h => repL_fil h) (fun G w => by simp only [rep, repL]; exact ⟨[_, _], rfl, _, _, rfl, rfl, _, _, rfl, rfl, rfl⟩)
    fun w ds ms h => callsIn_wide.1 (where_o 4 (Lib.hid (Nat.le_refl _)) s hs.b hs.nm hs.most a ds ms w h)
theorem Pvisible (a : Fil) : AFn Try.prog 32 [.agg (spcA s), .agg (filA a)] (fun r => r = .v (.bool (visP s a))) :=
  afn_spc (us := [FilV a]) (z := .bool (visP s a)) (fun _ _ _ h => repL_fil h) (fun G w => by simp only [rep])
    fun w ds ms h => callsIn_wide.1 (visible_o 4 (Lib.hid (Nat.le_refl _)) s hs.b hs.nm hs.most a ds ms w h)
end
theorem Pwithin (s : Spc) (hs : SpcB s) (a b : Fil) : AFn Try.prog 20 [.agg (spcA s), .agg (filA a), .agg (filA b)] (fun r => r = .v (.bool (decide (a ∈ chainP s (mostL s.files) b)))) :=
  afn_spc (us := [FilV a, FilV b]) (z := .bool (decide (a ∈ chainP s (mostL s.files) b))) (fun G w vs h => by
    simp only [repL, rep, filA] at h
    obtain ⟨_, _, rfl, ⟨_, rfl, _, _, rfl, rfl, _, _, rfl, rfl, rfl⟩, _, _, rfl, ⟨_, rfl, _, _, rfl, rfl, _, _, rfl, rfl, rfl⟩, rfl⟩ := h
    rfl) (fun G w => by simp only [rep])
    fun w ds ms h => callsIn_wide.1 (within_o 4 (Lib.hid (by omega)) s hs a b ds ms w h)
theorem mem_nodG {f : Fls} {a : Fil} (h : hasG f a = true) : ∃ d ∈ f, nodG f a ∈ d.nodes := by
  obtain ⟨q, i, d, m, _, h2, h3, _, _, h6⟩ := at_ok h
  exact ⟨d, List.mem_of_getElem? h2, by rw [h6]; exact List.mem_of_getElem? h3⟩
theorem nameL_size {x : Str} (h : nameL x = true) : x.size ≤ 12 := by
  rw [name_eq] at h
  by_cases hc : x.size < 1 ∨ 12 < x.size
  · rw [if_pos hc] at h; cases h
  · omega
theorem nmo_size {s : Spc} (h : FlsV s.files) (x : Fil) : (nmoL s x).size ≤ 12 := by
  unfold nmoL
  cases hf : (abvL s x).entries.find? fun e : Ent => decide (e.2 = x.2) with
  | none => exact Nat.zero_le _
  | some e =>
    have hm := List.mem_of_find?_eq_some hf
    unfold abvL at hm
    by_cases hh : hasG s.files (x.1, (nodG s.files x).parent) = true
    · obtain ⟨d, hd, hn⟩ := mem_nodG hh
      exact nameL_size ((h.vd d hd).ent _ hn e hm).1
    · have : nodG s.files (x.1, (nodG s.files x).parent) = Nod.zero := by
        unfold hasG at hh
        cases hq : nodeL s.files (x.1, (nodG s.files x).parent) with
        | none => show (nodeL s.files (x.1, (nodG s.files x).parent)).getD Nod.zero = Nod.zero; rw [hq]; rfl
        | some m => rw [hq] at hh; exact absurd rfl hh
      rw [this] at hm
      cases hm
theorem most_le {f : Fls} (h : FlsV f) : mostL f ≤ 48 := by
  have : ∀ (l : Fls), (∀ d ∈ l, d.nodes.length ≤ 16) → mostL l ≤ l.length * 16 := by
    intro l
    induction l with
    | nil => intro _; simp [mostL]
    | cons d l ih =>
      intro h
      have h1 := ih fun d hd => h d (List.mem_cons_of_mem _ hd)
      have h2 := h d (List.mem_cons_self ..)
      simp only [mostL, List.map_cons, List.sum_cons, List.length_cons] at h1 ⊢
      omega
  have h1 := this f fun d hd => (h.vd d hd).len
  have h2 := h.few
  omega
theorem SpcV.n {s : Spc} (h : SpcV s) (hm : s.mounts.length ≤ 1000) : SpcN s := ⟨⟨h.files.b, hm⟩, fun x => by have := nmo_size h.files x; omega, by have := most_le h.files; omega⟩

def awNod : Nod := ⟨0, 2, 493, 0, 0, 0, ⟨#[]⟩, []⟩
def awF : Fls := (mkL (newL 2).1 (0, 1) ⟨#[97]⟩ awNod).1
def awS : Spc := ⟨awF, [(1, (0, 2))]⟩
theorem aw_make : mkL (newL 2).1 (0, 1) ⟨#[97]⟩ awNod = (awF, [((0, 1), ⟨#[97]⟩, (0, 0), (0, 2))], 0) := by kernel_rfl
theorem aw_add : addL ⟨awF, []⟩ 1 (0, 2) = (awS, 0) := by kernel_rfl
theorem aw_where : whereP awS (1, 1) = (⟨#[47, 97]⟩, true) := by kernel_rfl
theorem aw_cov : (covL awS (0, 2)).isSome = true := by kernel_rfl
theorem aw_vis : visP awS (0, 2) = false := by kernel_rfl
end Go.Proofs.Ytgliiknfmlmddaa
namespace Go.Proofs.Ytgliiknfmlmddaa
open Go.RowKit

section
set_option maxRecDepth 10000
set_option maxHeartbeats 1000000
theorem aw_fv : FlsV awF := by
  have h := (make_okay (new_valid (k := 2) (by omega) (by omega)).1 (0, 1) ⟨#[97]⟩ awNod)
  unfold Okay at h
  rw [aw_make] at h
  exact (h rfl).1
theorem aw_n : SpcN awS := ⟨⟨aw_fv.b, by decide⟩, fun x => by have := nmo_size (s := awS) aw_fv x; omega, by have := most_le aw_fv; exact Nat.le_trans this (by decide)⟩
theorem aw_le : LeA (.agg [.sl 2 (awF.map dvcA) none, .v (.slice none 0 0)]) (.agg (spcA ⟨awF, []⟩)) := LeA.agg (LeL.cons (LeA.refl _) (LeL.cons (LeA.nil _) LeL.nil))
theorem Lawake : AFn Try.prog 19 [] (fun r => r = .v (.bool true)) := by
  have hnew : AFn Try.prog 50 [.v (.int .i64 2)] (fun r => r = .tup [.agg (flsA (newL 2).1), .v (.int .i64 0)]) := Rnew 2
  have hmk : AFn Try.prog 51 [.agg (flsA (newL 2).1), .agg [.v (.int .i64 0), .v (.int .i64 1)], .v (.string ⟨#[97]⟩), .agg (nodA awNod)] (fun r => r = .tup [.agg (flsA awF), .sl 7 [chgA ((0, 1), ⟨#[97]⟩, (0, 0), (0, 2))] none, .v (.int .i64 0)]) :=
    (Rmake (newL 2).1 (0, 1) ⟨#[97]⟩ awNod (new_valid (k := 2) (by omega) (by omega)).1 (by decide) (by decide)).mono fun r hr => by rw [hr, aw_make]; rfl
  have had : AFn Try.prog 15 [.agg (spcA ⟨awF, []⟩), .v (.int .i64 1), .agg (filA (0, 2))] (fun r => r = .tup [.agg (spcA awS), .v (.int .i64 0)]) :=
    (Padd ⟨awF, []⟩ 1 (0, 2) ⟨aw_fv.b, by decide⟩ aw_fv.ne).mono fun r hr => by rw [hr, aw_add]; rfl
  have hwh : AFn Try.prog 23 [.agg (spcA awS), .agg (filA (1, 1))] (fun r => r = .tup [.v (.string ⟨#[47, 97]⟩), .v (.bool true)]) :=
    (Pwhere aw_n (1, 1)).mono fun r hr => by rw [hr, aw_where]
  have hcv : AFn Try.prog 26 [.agg (spcA awS), .agg (filA (0, 2))] (fun r => r = .v (.bool true)) :=
    (Pcovered awS (0, 2) aw_n.b).mono fun r hr => by rw [hr, aw_cov]
  have hvs : AFn Try.prog 32 [.agg (spcA awS), .agg (filA (0, 2))] (fun r => r = .v (.bool false)) :=
    (Pvisible aw_n (0, 2)).mono fun r hr => by rw [hr, aw_vis]
  refine enter Try.func19 rfl rfl rfl rfl rfl 0 rfl ?_
  refine w_ (a_ (h:=e_ (w_ (?_))))
  refine al_p rfl (q_call (hnew) ?_)
  rintro r rfl
  refine m_ (h:=x_ (h:=x_ (h:=al_ (h:=s_ (h:=a_ (h:=e_ (w_ (l_ (h:=bd_ (h:=?_))))))))))
  refine al_p rfl (st_le (y := .agg (nodA awNod)) (st_build (by repeat (first | exact FillA.nil _ | (apply FillA.cons; (focus exact rfl); (focus exact rfl); (focus exact rfl); (focus exact rfl); (focus exact rfl); (focus (repeat constructor))))) ⟨rfl, rfl⟩) (by repeat (first | exact LeA.refl _ | exact LeA.nil _ | exact LeL.refl _ | refine LeA.agg ?_ | refine LeA.tup ?_ | exact LeL.nil | refine LeL.cons ?_ ?_ | exact LeA.any _)) ?_)
  refine al_p rfl (q_call (hmk) ?_)
  rintro r rfl
  refine m_ (h:=x_ (h:=x_ (h:=x_ (h:=s_ (h:=a_ (h:=a_ (h:=e_ (q_ (yk_ ([(0, flsA awF)]) 13 (h:=?_))))))))))
  first | refine dl_ 0 (h:=?_) | refine tk_ 0 rfl (fun _ hS => st_loadF rfl rfl ⟨rfl, rfl⟩) ?_
  refine tk_ 1 rfl (fun _ hS => st_le (y := .agg (spcA ⟨awF, []⟩)) (st_build (by repeat (first | exact FillA.nil _ | (apply FillA.cons; (focus exact rfl); (focus exact rfl); (focus exact rfl); (focus exact rfl); (focus exact rfl); (focus (repeat constructor))))) ⟨rfl, rfl⟩) aw_le ⟨rfl, rfl⟩) ?_
  refine dm_ 2 (h:=di_ 3 (h:=df_ 4 (h:=?_)))
  first | refine dl_ 5 (h:=?_) | refine tk_ 5 rfl (fun _ hS => st_loadF rfl rfl ⟨rfl, rfl⟩) ?_
  refine c2_ 6 10 rfl rfl ?_ ?_
  · refine q_call (had) ?_
    rintro r rfl
    refine o_ (h:=?_)
    refine dm_ 7 (h:=dx_ 8 (h:=dx_ 9 (h:=?_)))
    refine c_ 10 rfl (s_alloc (by repeat constructor) ?_)
    refine o_ (h:=?_)
    refine c0_ 11 rfl (s_store rfl rfl rfl rfl rfl rfl (by repeat constructor) (by repeat constructor) ?_)
    refine o_ (h:=da_ 12 (h:=z_ (h:=t_ (w_ (l_ (h:=bd_ (h:=?_)))))))
    refine al_p rfl (q_call (hwh) ?_)
    rintro r rfl
    refine m_ (h:=x_ (h:=x_ (h:=a_ (h:=a_ (h:=e_ (q_ (yr_ 27 (h:=dm_ 0 (h:=deq_ 1 (h:=dm_ 2 (h:=?_)))))))))))
    refine aa_both (j := 2) rfl (fun hb1 => ?_) (fun hb1 => ?_)
    · have hc1 := bp hb1
      refine dm_ 3 (h:=dpt_ 4 (h:=dm_ 5 (h:=?_)))
      refine aa_both (j := 5) rfl (fun hb2 => ?_) (fun hb2 => ?_)
      · have hc2 := bp hb2
        refine dm_ 6 (h:=deq_ 7 (h:=dpt_ 8 (h:=dm_ 9 (h:=?_))))
        refine aa_both (j := 9) rfl (fun hb3 => ?_) (fun hb3 => ?_)
        · have hc3 := bp hb3
          refine dl_ 10 (h:=dm_ 11 (h:=di_ 12 (h:=df_ 13 (h:=dl_ 14 (h:=?_)))))
          refine c_ 15 rfl (q_call (hcv) ?_)
          rintro r rfl
          refine o_ (h:=dpt_ 16 (h:=dm_ 17 (h:=?_)))
          refine aa_both (j := 17) rfl (fun hb4 => ?_) (fun hb4 => ?_)
          · have hc4 := bp hb4
            refine dl_ 18 (h:=dm_ 19 (h:=di_ 20 (h:=df_ 21 (h:=dl_ 22 (h:=?_)))))
            refine c_ 23 rfl (q_call (hvs) ?_)
            rintro r rfl
            refine o_ (h:=dnt_ 24 (h:=dpt_ 25 (h:=da_ 26 (h:=z_ (h:=t_ (aw_ret (?_)))))))
            refine e_ret ?_
            first | rfl | (exfalso; simp_all)
          · have hc4 := bp hb4
            refine d0_ 18 (h:=d0_ 19 (h:=d0_ 20 (h:=d0_ 21 (h:=d0_ 22 (h:=d0_ 23 (h:=d0_ 24 (h:=dpf_ 25 (h:=da_ 26 (h:=z_ (h:=t_ (aw_ret (?_))))))))))))
            refine e_ret ?_
            first | rfl | (exfalso; simp_all)
        · have hc3 := bp hb3
          refine d0_ 10 (h:=d0_ 11 (h:=d0_ 12 (h:=d0_ 13 (h:=d0_ 14 (h:=d0_ 15 (h:=dpf_ 16 (h:=dm_ 17 (h:=d0_ 18 (h:=d0_ 19 (h:=d0_ 20 (h:=d0_ 21 (h:=d0_ 22 (h:=d0_ 23 (h:=d0_ 24 (h:=dpf_ 25 (h:=da_ 26 (h:=z_ (h:=t_ (aw_ret (?_))))))))))))))))))))
          refine e_ret ?_
          first | rfl | (exfalso; simp_all)
      · have hc2 := bp hb2
        refine d0_ 6 (h:=d0_ 7 (h:=dpf_ 8 (h:=dm_ 9 (h:=d0_ 10 (h:=d0_ 11 (h:=d0_ 12 (h:=d0_ 13 (h:=d0_ 14 (h:=d0_ 15 (h:=dpf_ 16 (h:=dm_ 17 (h:=d0_ 18 (h:=d0_ 19 (h:=d0_ 20 (h:=d0_ 21 (h:=d0_ 22 (h:=d0_ 23 (h:=d0_ 24 (h:=dpf_ 25 (h:=da_ 26 (h:=z_ (h:=t_ (aw_ret (?_))))))))))))))))))))))))
        refine e_ret ?_
        first | rfl | (exfalso; simp_all)
    · have hc1 := bp hb1
      refine d0_ 3 (h:=dpf_ 4 (h:=dm_ 5 (h:=d0_ 6 (h:=d0_ 7 (h:=dpf_ 8 (h:=dm_ 9 (h:=d0_ 10 (h:=d0_ 11 (h:=d0_ 12 (h:=d0_ 13 (h:=d0_ 14 (h:=d0_ 15 (h:=dpf_ 16 (h:=dm_ 17 (h:=d0_ 18 (h:=d0_ 19 (h:=d0_ 20 (h:=d0_ 21 (h:=d0_ 22 (h:=d0_ 23 (h:=d0_ 24 (h:=dpf_ 25 (h:=da_ 26 (h:=?_))))))))))))))))))))))))
      refine z_ (h:=t_ (aw_ret (?_)))
      refine e_ret ?_
      first | rfl | (exfalso; simp_all)
  · refine s_alloc (by repeat constructor) ?_
    refine o_ (h:=?_)
    refine c_ 6 rfl (q_call (had) ?_)
    rintro r rfl
    refine o_ (h:=dm_ 7 (h:=dx_ 8 (h:=dx_ 9 (h:=?_))))
    refine c0_ 11 rfl (s_store rfl rfl rfl rfl rfl rfl (by repeat constructor) (by repeat constructor) ?_)
    refine o_ (h:=da_ 12 (h:=z_ (h:=t_ (w_ (l_ (h:=bd_ (h:=?_)))))))
    refine al_p rfl (q_call (hwh) ?_)
    rintro r rfl
    refine m_ (h:=x_ (h:=x_ (h:=a_ (h:=a_ (h:=e_ (q_ (yr_ 27 (h:=dm_ 0 (h:=deq_ 1 (h:=dm_ 2 (h:=?_)))))))))))
    refine aa_both (j := 2) rfl (fun hb5 => ?_) (fun hb5 => ?_)
    · have hc5 := bp hb5
      refine dm_ 3 (h:=dpt_ 4 (h:=dm_ 5 (h:=?_)))
      refine aa_both (j := 5) rfl (fun hb6 => ?_) (fun hb6 => ?_)
      · have hc6 := bp hb6
        refine dm_ 6 (h:=deq_ 7 (h:=dpt_ 8 (h:=dm_ 9 (h:=?_))))
        refine aa_both (j := 9) rfl (fun hb7 => ?_) (fun hb7 => ?_)
        · have hc7 := bp hb7
          refine dl_ 10 (h:=dm_ 11 (h:=di_ 12 (h:=df_ 13 (h:=dl_ 14 (h:=?_)))))
          refine c_ 15 rfl (q_call (hcv) ?_)
          rintro r rfl
          refine o_ (h:=dpt_ 16 (h:=dm_ 17 (h:=?_)))
          refine aa_both (j := 17) rfl (fun hb8 => ?_) (fun hb8 => ?_)
          · have hc8 := bp hb8
            refine dl_ 18 (h:=dm_ 19 (h:=di_ 20 (h:=df_ 21 (h:=dl_ 22 (h:=?_)))))
            refine c_ 23 rfl (q_call (hvs) ?_)
            rintro r rfl
            refine o_ (h:=dnt_ 24 (h:=dpt_ 25 (h:=da_ 26 (h:=z_ (h:=t_ (aw_ret (?_)))))))
            refine e_ret ?_
            first | rfl | (exfalso; simp_all)
          · have hc8 := bp hb8
            refine d0_ 18 (h:=d0_ 19 (h:=d0_ 20 (h:=d0_ 21 (h:=d0_ 22 (h:=d0_ 23 (h:=d0_ 24 (h:=dpf_ 25 (h:=da_ 26 (h:=z_ (h:=t_ (aw_ret (?_))))))))))))
            refine e_ret ?_
            first | rfl | (exfalso; simp_all)
        · have hc7 := bp hb7
          refine d0_ 10 (h:=d0_ 11 (h:=d0_ 12 (h:=d0_ 13 (h:=d0_ 14 (h:=d0_ 15 (h:=dpf_ 16 (h:=dm_ 17 (h:=d0_ 18 (h:=d0_ 19 (h:=d0_ 20 (h:=d0_ 21 (h:=d0_ 22 (h:=d0_ 23 (h:=d0_ 24 (h:=dpf_ 25 (h:=da_ 26 (h:=z_ (h:=t_ (aw_ret (?_))))))))))))))))))))
          refine e_ret ?_
          first | rfl | (exfalso; simp_all)
      · have hc6 := bp hb6
        refine d0_ 6 (h:=d0_ 7 (h:=dpf_ 8 (h:=dm_ 9 (h:=d0_ 10 (h:=d0_ 11 (h:=d0_ 12 (h:=d0_ 13 (h:=d0_ 14 (h:=d0_ 15 (h:=dpf_ 16 (h:=dm_ 17 (h:=d0_ 18 (h:=d0_ 19 (h:=d0_ 20 (h:=d0_ 21 (h:=d0_ 22 (h:=d0_ 23 (h:=d0_ 24 (h:=dpf_ 25 (h:=da_ 26 (h:=z_ (h:=t_ (aw_ret (?_))))))))))))))))))))))))
        refine e_ret ?_
        first | rfl | (exfalso; simp_all)
    · have hc5 := bp hb5
      refine d0_ 3 (h:=dpf_ 4 (h:=dm_ 5 (h:=d0_ 6 (h:=d0_ 7 (h:=dpf_ 8 (h:=dm_ 9 (h:=d0_ 10 (h:=d0_ 11 (h:=d0_ 12 (h:=d0_ 13 (h:=d0_ 14 (h:=d0_ 15 (h:=dpf_ 16 (h:=dm_ 17 (h:=d0_ 18 (h:=d0_ 19 (h:=d0_ 20 (h:=d0_ 21 (h:=d0_ 22 (h:=d0_ 23 (h:=d0_ 24 (h:=dpf_ 25 (h:=da_ 26 (h:=?_))))))))))))))))))))))))
      refine z_ (h:=t_ (aw_ret (?_)))
      refine e_ret ?_
      first | rfl | (exfalso; simp_all)

end
end Go.Proofs.Ytgliiknfmlmddaa
namespace Go.Proofs.Ytgliiknfmlmddaa
open Go.RowKit

def StAll (w : World) : Nat → Nat → Prop := fun b _ => b < w.heap.size
def Opens (P : Program) (t : TypeId) (R : List AV → Prop) : Prop :=
  ∀ (H : Type) (enc : TypeId × Value → H) (w : World) (base : Nat) (spare : Nat → Bool) (held : Bool) (fuel : Nat) (cs : List Value) (x : DataW H × List MemPlace), DataW.trod enc P w base spare held fuel t cs = some x →
    ∃ row, R row ∧ froL (StAll w) w row cs ∧ ∀ u ∈ cs, u.oneCell' = true
section
variable {P : Program} {t : TypeId}
theorem Opens.mono {R R' : List AV → Prop} (h : Opens P t R) (hR : ∀ r, R r → R' r) : Opens P t R' := by
  intro H enc w base spare held fuel cs x hx
  obtain ⟨row, h1, h2⟩ := h H enc w base spare held fuel cs x hx
  exact ⟨row, hR _ h1, h2⟩
theorem opens_int {k : IntKind} (ht : P.underlying t = some (.int k)) : Opens P t fun r => ∃ n, r = [.v (.int k n)] ∧ (Lit.int k n).wf = true := by
  intro H enc w base spare held fuel cs x hx
  obtain ⟨b, rfl, _, hw⟩ := DataW.trod_int ht hx
  exact ⟨_, ⟨b, rfl, hw⟩, ⟨_, _, rfl, by simp only [fro], by simp only [froL]⟩, by simp [Value.oneCell']⟩
theorem cell_lt' {w : World} {b o : Nat} {v : Value} (h : w.cell? ⟨b, o, none⟩ = some v) : b < w.heap.size := by
  rcases Nat.lt_or_ge b w.heap.size with hlt | hge
  · exact hlt
  · simp [World.cell?, Array.getElem?_eq_none hge] at h
theorem froL_length' {St : Nat → Nat → Prop} {w : World} {xs : List AV} {ys : List Value} (h : froL St w xs ys) : ys.length = xs.length := repL_length (G := ⟨St, [], []⟩) (repL_fro (G := ⟨St, [], []⟩) _ _ h)
theorem opens_slice {e : TypeId} {n : Nat} {R : List AV → Prop} (ht : P.underlying t = some (.slice e)) (hc : P.cellsOf e = n) (hn : 0 < n) (h : Opens P e R) : Opens P t fun r => ∃ rows, r = [.sl n rows none] ∧ rows.length ≤ maxLen ∧ ∀ x ∈ rows, R x := by
  intro H enc w base spare held fuel cs x hx
  rcases DataW.trod_slice ht hx with ⟨rfl, _⟩ | ⟨⟨b, off, spot⟩, len, cap, elems, rest, m, rfl, rfl, _, hb, hl, hm, hlen, hel, _, _⟩
  · exact ⟨_, ⟨[], rfl, Nat.zero_le _, by simp⟩, ⟨_, _, rfl, by simp only [fro]; exact ⟨trivial, none, 0, rfl, Nat.le_refl _, Nat.zero_le _, .inl trivial⟩, by simp only [froL]⟩, by simp [Value.oneCell']⟩
  · have each : ∀ i, i < len → ∃ row cs', R row ∧ row.length = n ∧ froL (StAll w) w row cs' ∧ (∀ u ∈ cs', u.oneCell' = true) ∧ cs'.length = n ∧ ∀ j, j < n → w.cell? (Addr.add ⟨b, off, spot⟩ (i * n + j)) = cs'[j]? := by
      intro i hi
      have h1 := hel i hi
      rw [hc, List.getElem?_eq_getElem (by omega), Option.bind_eq_some_iff] at h1
      obtain ⟨cs', h2, h3⟩ := h1
      obtain ⟨row, r1, r2, r3⟩ := h _ _ _ _ _ _ _ _ _ h3
      obtain ⟨_, c1, c2⟩ := World.cells?_some h2
      refine ⟨row, cs', r1, by rw [← froL_length' r2, c1], r2, r3, c1, fun j hj => ?_⟩
      have := c2 j hj
      rwa [Addr.add_add] at this
    have hrows : ∃ rows : List (List AV), rows.length = len ∧ (∀ i, i < len → ∃ row cs', rows[i]? = some row ∧ R row ∧ row.length = n ∧ froL (StAll w) w row cs' ∧ (∀ u ∈ cs', u.oneCell' = true) ∧ cs'.length = n ∧ ∀ j, j < n → w.cell? (Addr.add ⟨b, off, spot⟩ (i * n + j)) = cs'[j]?) := by
      clear hel
      have : ∀ k, k ≤ len → ∃ rows : List (List AV), rows.length = k ∧ (∀ i, i < k → ∃ row cs', rows[i]? = some row ∧ R row ∧ row.length = n ∧ froL (StAll w) w row cs' ∧ (∀ u ∈ cs', u.oneCell' = true) ∧ cs'.length = n ∧ ∀ j, j < n → w.cell? (Addr.add ⟨b, off, spot⟩ (i * n + j)) = cs'[j]?) := by
        intro k
        induction k with
        | zero => intro _; exact ⟨[], rfl, fun i hi => by omega⟩
        | succ k ih =>
          intro hk
          obtain ⟨rows, e1, e2⟩ := ih (by omega)
          obtain ⟨row, cs', q⟩ := each k (by omega)
          refine ⟨rows ++ [row], by simp [e1], fun i hi => ?_⟩
          rcases Nat.lt_or_ge i k with hlt | hge
          · obtain ⟨row', cs'', q1, q2⟩ := e2 i hlt
            exact ⟨row', cs'', by rw [List.getElem?_append_left (by omega)]; exact q1, q2⟩
          · obtain rfl : i = k := by omega
            exact ⟨row, cs', by rw [List.getElem?_append_right (by omega), e1]; simp, q⟩
      exact this len (Nat.le_refl _)
    obtain ⟨rows, e1, e2⟩ := hrows
    refine ⟨_, ⟨rows, rfl, by omega, fun x hx => ?_⟩, ⟨_, _, rfl, ?_, by simp only [froL]⟩, by simp [Value.oneCell']⟩
    · obtain ⟨i, hi⟩ := List.getElem?_of_mem hx
      obtain ⟨row, _, q1, q2, _⟩ := e2 i (by rw [← e1]; exact (List.getElem?_eq_some_iff.1 hi).1)
      rw [hi] at q1
      injection q1 with q1
      subst q1
      exact q2
    · simp only [fro]
      refine ⟨trivial, some ⟨b, off, spot⟩, cap, by rw [e1], by omega, hm, ?_⟩
      rcases Nat.eq_zero_or_pos len with h0 | h0
      · left; exact List.eq_nil_of_length_eq_zero (by omega)
      · right
        have hspot : spot = none := by
          obtain ⟨_, cs', _, _, _, _, _, c3, c4⟩ := e2 0 h0
          have := c4 0 hn
          rw [List.getElem?_eq_getElem (by omega)] at this
          simpa [Addr.add] using World.cell?_spot this
        subst hspot
        refine ⟨b, off, rfl, ?_⟩
        have : ∀ (rs : List (List AV)) (k : Nat), (∀ i r, rs[i]? = some r → rows[k + i]? = some r) → froR (StAll w) w b n rs (off + k * n) := by
          intro rs
          induction rs with
          | nil => intro k _; simp only [froR]
          | cons r rs ih =>
            intro k hk
            simp only [froR]
            have h1 := hk 0 r rfl
            rw [Nat.add_zero] at h1
            obtain ⟨row, cs', q1, _, q3, q4, q5, q6, q7⟩ := e2 k (by rw [← e1]; exact (List.getElem?_eq_some_iff.1 h1).1)
            rw [h1] at q1
            injection q1 with q1
            subst q1
            refine ⟨⟨q3, froC_of fun i x hi => ?_⟩, ?_⟩
            · obtain ⟨u, u1, u2⟩ := froL_get q4 hi
              have hin : i < n := by rw [← q3]; exact (List.getElem?_eq_some_iff.1 hi).1
              have hc := q7 i hin
              rw [u1] at hc
              have hc' : w.cell? ⟨b, off + k * n + i, none⟩ = some u := by rw [Addr.add_mid] at hc; rwa [Nat.add_assoc]
              exact ⟨cell_lt' hc', u, hc', q5 u (List.mem_of_getElem? u1), u2⟩
            · have := ih (k + 1) (fun i r' hi => by
                have := hk (i + 1) r' (by simpa using hi)
                rwa [show k + 1 + i = k + (i + 1) by omega])
              rwa [show off + (k + 1) * n = off + k * n + n by rw [Nat.add_mul]; omega] at this
        simpa using this rows 0 (fun i r hi => by simpa using hi)
theorem rows_map {α : Type} {enc : α → List AV} {Q : α → Prop} : ∀ {rows : List (List AV)}, (∀ x ∈ rows, ∃ a, x = enc a ∧ Q a) → ∃ l : List α, rows = l.map enc ∧ ∀ a ∈ l, Q a
  | [], _ => ⟨[], rfl, by simp⟩
  | r :: rs, h => by
    obtain ⟨a, rfl, ha⟩ := h r (by simp)
    obtain ⟨l, rfl, hl⟩ := rows_map (rows := rs) fun x hx => h x (by simp [hx])
    exact ⟨a :: l, rfl, by simpa using ⟨ha, hl⟩⟩
theorem Opens.one {R : List AV → Prop} (h : Opens P t R) {H : Type} {enc : TypeId × Value → H} {w : World} {base : Nat} {spare : Nat → Bool} {held : Bool} {v : Value} {d : DataW H} {ps : List MemPlace} (hv : v.cells = #[v]) (hd : DataW.Trod enc P w base spare held t v d ps) :
    ∃ row, R row ∧ froL (StAll w) w row [v] := by
  obtain ⟨fuel, hf⟩ := hd
  rw [hv] at hf
  obtain ⟨row, h1, h2, _⟩ := h _ _ _ _ _ _ _ _ _ hf
  exact ⟨row, h1, h2⟩
end
end Go.Proofs.Ytgliiknfmlmddaa
namespace Go.Proofs.Ytgliiknfmlmddaa
open Go.RowKit

theorem opInts : Opens Try.prog 22 (fun r => ∃ l : List Int, r = [.sl 1 (l.map intA) none]) :=
  (opens_slice (n := 1) Try.underlying22 (by kernel_rfl) (by omega) (opens_int Try.underlying3)).mono (by
    rintro r ⟨rows, rfl, _, hr⟩
    obtain ⟨l, rfl, _⟩ := rows_map (enc := intA) (Q := fun _ => True) (fun x hx => by obtain ⟨t, rfl, _⟩ := hr x hx; exact ⟨t, rfl, trivial⟩)
    exact ⟨l, rfl⟩)
theorem ints_one {H : Type} {enc : TypeId × Value → H} {sp : Nat → Bool} {held : Bool} {base : Nat} {w : World} {a : Option Addr} {n c : Nat} {d : DataW H} {p : List MemPlace} (h : DataW.Trod enc Try.prog w base sp held 22 (.slice a n c) d p) :
    ∃ l : List Int, rep ⟨StAll w, [], []⟩ w (.sl 1 (l.map intA) none) (.slice a n c) := by
  obtain ⟨r0, ⟨l, rfl⟩, k0⟩ := opInts.one rfl h
  simp only [froL] at k0
  obtain ⟨_, _, e0, k0, rfl⟩ := k0
  injection e0 with e0
  subst e0
  exact ⟨l, rep_fro (G := ⟨StAll w, [], []⟩) _ _ k0⟩
theorem walk_ints {f : FuncId} (hf : ∀ l : List Int, AFn Try.prog f [.sl 1 (l.map intA) none] (fun x => x = .v (.bool true))) {H : Type} {enc : TypeId × Value → H} {sp : Nat → Bool} {held : Bool} {base : Nat} (a : Option Addr) (n c : Nat) (w : World) {d : DataW H} {p : List MemPlace}
    (h : DataW.Trod enc Try.prog w base sp held 22 (.slice a n c) d p) : Calls Try.prog f #[.slice a n c] w fun e w' => e = .returned (.bool true) ∧ Below w.heap.size w w' := by
  obtain ⟨l, k⟩ := ints_one h
  refine calls_of (vs := [.slice a n c]) (hf l) (StAll w) (fun b o h => h) ?_
  simp only [repL]
  exact ⟨_, _, rfl, k, rfl⟩
end Go.Proofs.Ytgliiknfmlmddaa
