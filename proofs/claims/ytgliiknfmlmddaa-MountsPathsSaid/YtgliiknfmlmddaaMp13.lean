/-
  Part 13 of the proof of MountsPathsP: what the statement's proof uses of the texts in wip/tpl.
-/
import Derived.OpenShut
import Derived.ChangeArms
import Derived.ChangeOld
import Derived.DataReads
import Derived.DataElems
import Derived.Test.YtgliiknfmlmddaaMp12
namespace Go.Proofs.Ytgliiknfmlmddaa
open Go.RowKit

section
set_option maxRecDepth 10000
set_option maxHeartbeats 1000000
theorem Padd (s : Spc) (dev : Int) (a : Fil) (hs : SpcB s) (hne : ∀ d ∈ s.files, 0 < d.nodes.length) : AFn Try.prog 15 [.agg (spcA s), .v (.int .i64 dev), .agg (filA a)] (fun r => r = spcR (addL s dev a)) := by
  have hfew := hs.few
  refine enter Try.func15 rfl rfl rfl rfl rfl 0 rfl ?_
  refine w_ (b_ (h:=b_ (h:=al_ (h:=a_ (h:=e_ (q_ (w_ (l_ (h:=m_ (h:=?_))))))))))
  refine al_p rfl (q_call (PdeviceM s dev hs) ?_)
  rintro r rfl
  refine nt_ (h:=e_ (?_))
  refine aw_cond rfl (fun hb1 => ?_) (fun hb1 => ?_)
  · have hc1 := bp hb1
    refine w_ (bd_ (h:=s_ (h:=a_ (h:=e_ (aw_ret (x_thenR (?_)))))))
    refine rt_ (r := spcR (addL s dev a)) none (h5 := ?_) (h6 := ⟨rfl, rfl, rfl⟩)
    rw [addL, if_pos (by omega)]
    exact sperr_le _
  · have hc1 := bp hb1
    refine kt_ (w_ (f_ (h:=l_ (h:=l_ (h:=?_)))))
    refine al_p rfl (q_call (Pnode s.files a hs.files) ?_)
    rintro r rfl
    refine m_ (h:=x_ (h:=x_ (h:=al_ (h:=s_ (h:=a_ (h:=e_ (q_ (aw_block (w_ (m_ (h:=nt_ (h:=a_ (h:=e_ (?_))))))))))))))
    refine aw_cond rfl (fun hb2 => ?_) (fun hb2 => ?_)
    · have hc2 := bp hb2
      refine w_ (bd_ (h:=s_ (h:=a_ (h:=e_ (aw_ret (x_blockR (x_thenR (?_))))))))
      refine rt_ (r := spcR (addL s dev a)) none (h5 := ?_) (h6 := ⟨rfl, rfl, rfl⟩)
      rw [addL, if_neg (by omega), if_pos hc2]
      exact sperr_le _
    · have hc2 := bp hb2
      refine w_ (f_ (h:=l_ (h:=nq_ (h:=a_ (h:=e_ (?_))))))
      refine aw_cond rfl (fun hb3 => ?_) (fun hb3 => ?_)
      · have hc3 := bp hb3
        refine w_ (bd_ (h:=s_ (h:=a_ (h:=e_ (aw_ret (x_blockR (x_thenR (?_))))))))
        refine rt_ (r := spcR (addL s dev a)) none (h5 := ?_) (h6 := ⟨rfl, rfl, rfl⟩)
        rw [addL, if_neg (by omega), if_neg (by simp [hc2]), if_pos hc3]
        exact sperr_le _
      · have hc3 := bp hb3
        refine w_ (l_ (h:=f_ (h:=l_ (h:=?_))))
        refine al_p rfl (q_call (Pmounted s a.1 hs) ?_)
        rintro r rfl
        refine nt_ (h:=m_ (h:=?_))
        refine al_gs false rfl rfl (fun hb4 => ?_) (fun hb4 => ?_)
        · have hc4 := bp hb4
          refine g0_ (h:=g0_ (h:=g0_ (h:=g0_ (h:=pt_ (h:=a_ (h:=e_ (cy_ (h:=w_ (bd_ (h:=s_ (h:=a_ (h:=e_ (aw_ret (x_blockR (x_thenR (?_))))))))))))))))
          refine rt_ (r := spcR (addL s dev a)) none (h5 := ?_) (h6 := ⟨rfl, rfl, rfl⟩)
          rw [addL, if_neg (by omega), if_neg (by simp [hc2]), if_neg (by simp [hc3]), if_pos (.inl hc4)]
          exact sperr_le _
        · have hc4 := bp hb4
          refine f_ (h:=l_ (h:=m_ (h:=eq_ (h:=pf_ (h:=a_ (h:=e_ (?_)))))))
          refine aw_cond rfl (fun hb5 => ?_) (fun hb5 => ?_)
          · have hc5 := bp hb5
            refine w_ (bd_ (h:=s_ (h:=a_ (h:=e_ (aw_ret (x_blockR (x_thenR (?_))))))))
            refine rt_ (r := spcR (addL s dev a)) none (h5 := ?_) (h6 := ⟨rfl, rfl, rfl⟩)
            rw [addL, if_neg (by omega), if_neg (by simp [hc2]), if_neg (by simp [hc3]), if_pos (.inr hc5)]
            exact sperr_le _
          · have hc5 := bp hb5
            refine w_ (l_ (h:=m_ (h:=?_)))
            refine al_p rfl (q_call (Pmounted s dev hs) ?_)
            rintro r rfl
            refine m_ (h:=?_)
            refine al_gs false rfl rfl (fun hb6 => ?_) (fun hb6 => ?_)
            · have hc6 := bp hb6
              refine g0_ (h:=g0_ (h:=g0_ (h:=pt_ (h:=a_ (h:=e_ (cy_ (h:=w_ (bd_ (h:=s_ (h:=a_ (h:=e_ (aw_ret (x_blockR (x_thenR (?_)))))))))))))))
              refine rt_ (r := spcR (addL s dev a)) none (h5 := ?_) (h6 := ⟨rfl, rfl, rfl⟩)
              rw [addL, if_neg (by omega), if_neg (by simp [hc2]), if_neg (by simp [hc3]), if_neg (by simp [hc4, hc5]), if_pos (.inl hc6)]
              exact sperr_le _
            · have hc6 := bp hb6
              refine l_ (h:=l_ (h:=?_))
              refine g_y (q_call (Pcovered s a hs) ?_)
              rintro r rfl
              refine pf_ (h:=a_ (h:=e_ (?_)))
              refine aw_cond rfl (fun hb7 => ?_) (fun hb7 => ?_)
              · have hc7 := bp hb7
                refine w_ (bd_ (h:=s_ (h:=a_ (h:=e_ (aw_ret (x_blockR (x_thenR (?_))))))))
                refine rt_ (r := spcR (addL s dev a)) none (h5 := ?_) (h6 := ⟨rfl, rfl, rfl⟩)
                rw [addL, if_neg (by omega), if_neg (by simp [hc2]), if_neg (by simp [hc3]), if_neg (by simp [hc4, hc5]), if_pos (.inr hc7)]
                exact sperr_le _
              · have hc7 := bp hb7
                refine aw_skip (x_blockN (t_ (w_ (l_ (h:=?_)))))
                refine al_p rfl (s_callT rfl (by repeat (first | exact Args.nil | refine Args.cons _ _ _ _ _ rfl (argOk_clean rfl) ?_ | refine Args.cons _ _ _ _ _ rfl (argOk_nil _) ?_ | refine Args.cons _ _ _ _ _ rfl (argOk_era _) ?_ | refine Args.cons _ _ _ _ _ rfl (argOk_le rfl (by repeat (first | exact LeA.refl _ | exact LeA.nil _ | exact LeL.refl _ | refine LeA.agg ?_ | refine LeA.tup ?_ | exact LeL.nil | refine LeL.cons ?_ ?_ | exact LeA.any _))) ?_)) (PspcT s hs hne) (fun _ => rfl) (by repeat constructor) ?_)
                refine s_ (h:=e_ (w_ (f_ (h:=l_ (h:=m_ (h:=l_ (h:=bd_ (h:=bs_ (h:=?_)))))))))
                first | refine al_p rfl (s_append rfl rfl rfl (by simp; omega) (by repeat constructor) ?_) | refine al_p rfl (s_append0 rfl rfl (by simp; omega) (by repeat constructor) ?_)
                refine f_ (h:=s_ (h:=e_ (w_ (l_ (h:=s_ (h:=a_ (h:=e_ (aw_ret (?_)))))))))
                refine e_ret ?_
                rw [addL, if_neg (by omega), if_neg (by simp [hc2]), if_neg (by simp [hc3]), if_neg (by simp [hc4, hc5]), if_neg (by simp [hc6, hc7])]
                simp only [spcR, spcA, List.map_append]
                rfl

end
end Go.Proofs.Ytgliiknfmlmddaa
namespace Go.Proofs.Ytgliiknfmlmddaa
open Go.RowKit

theorem afn_spc {P : Program} {f : FuncId} {s : Spc} {xs : List AV} {us : List Value} {z : Value} {R : AV} (hx : ∀ (G : Gh) (w : World) (vs : List Value), repL G w xs vs → vs = us) (hR : ∀ (G : Gh) (w : World), rep G w R z)
    (h : ∀ (w : World) (ds ms : Value), SpcIn s w.heap.size w ds ms → Calls P f (.agg #[ds, ms] :: us).toArray w fun e w' => e = .returned z ∧ Below w.heap.size w w') : AFn P f (.agg (spcA s) :: xs) (fun r => r = R) := by
  intro w St bl vs hr hv
  simp only [repL] at hv
  obtain ⟨z0, zs, rfl, h1, h2⟩ := hv
  obtain rfl := hx _ _ _ h2
  simp only [rep, spcA, repL] at h1
  obtain ⟨ys, rfl, ds, _, rfl, h3, ms, _, rfl, h4, rfl⟩ := h1
  have hs : SpcIn s w.heap.size w ds ms := by
    refine ⟨Nat.le_refl _, ?_⟩
    refine froL_mono (St := St) (fun b o hb => ⟨hr.stlt b o hb, rfl⟩) _ _ ?_
    simp only [spcA, froL]
    exact ⟨_, _, rfl, h3, _, _, rfl, h4, rfl⟩
  refine (h w ds ms hs).mono ?_
  rintro e w' ⟨rfl, hb⟩
  obtain ⟨k1, k2⟩ := hr.below hb
  exact ⟨_, _, _, _, ⟨rfl, rfl, rfl⟩, k1, k2, hR _ _⟩
theorem repL_fil {G : Gh} {w : World} {a : Fil} {vs : List Value} (h : repL G w [.agg (filA a)] vs) : vs = [FilV a] := by
  simp only [repL, rep, filA] at h
  obtain ⟨_, _, rfl, ⟨_, rfl, _, _, rfl, rfl, _, _, rfl, rfl, rfl⟩, rfl⟩ := h
  rfl
structure SpcN (s : Spc) : Prop where
  b : SpcB s
  nm : ∀ x, (nmoL s x).size ≤ 100
  most : mostL s.files ≤ 5000
section
variable {s : Spc} (hs : SpcN s)
include hs
theorem Pwhere (a : Fil) : AFn Try.prog 23 [.agg (spcA s), .agg (filA a)] (fun r => r = .tup [.v (.string (whereP s a).1), .v (.bool (whereP s a).2)]) :=
  afn_spc (us := [FilV a]) (z := .tuple #[.string (whereP s a).1, .bool (whereP s a).2]) (fun _ _ _ h => repL_fil h) (fun G w => by simp only [rep, repL]; exact ⟨[_, _], rfl, _, _, rfl, rfl, _, _, rfl, rfl, rfl⟩)
    fun w ds ms h => callsIn_wide.1 (where_o 4 (Lib.hid (Nat.le_refl _)) s hs.b hs.nm hs.most a ds ms w h)
theorem Pvisible (a : Fil) : AFn Try.prog 32 [.agg (spcA s), .agg (filA a)] (fun r => r = .v (.bool (visP s a))) :=
  afn_spc (us := [FilV a]) (z := .bool (visP s a)) (fun _ _ _ h => repL_fil h) (fun G w => by simp only [rep])
    fun w ds ms h => callsIn_wide.1 (visible_o 4 (Lib.hid (Nat.le_refl _)) s hs.b hs.nm hs.most a ds ms w h)
end
theorem mem_nodG {f : Fls} {a : Fil} (h : hasG f a = true) : ∃ d ∈ f, nodG f a ∈ d.nodes := by
  obtain ⟨q, i, d, m, _, h2, h3, _, _, h6⟩ := at_ok h
  exact ⟨d, List.mem_of_getElem? h2, by rw [h6]; exact List.mem_of_getElem? h3⟩
theorem nameL_size {x : Str} (h : nameL x = true) : x.size ≤ 12 := by
  rw [name_eq] at h
  by_cases hc : x.size < 1 ∨ 12 < x.size
  · rw [if_pos hc] at h; cases h
  · omega
theorem nmo_size {s : Spc} (h : FlsV s.files) (x : Fil) : (nmoL s x).size ≤ 12 := by
  unfold nmoL
  cases hf : (abvL s x).entries.find? fun e : Ent => decide (e.2 = x.2) with
  | none => exact Nat.zero_le _
  | some e =>
    have hm := List.mem_of_find?_eq_some hf
    unfold abvL at hm
    by_cases hh : hasG s.files (x.1, (nodG s.files x).parent) = true
    · obtain ⟨d, hd, hn⟩ := mem_nodG hh
      exact nameL_size ((h.vd d hd).ent _ hn e hm).1
    · have : nodG s.files (x.1, (nodG s.files x).parent) = Nod.zero := by
        unfold hasG at hh
        cases hq : nodeL s.files (x.1, (nodG s.files x).parent) with
        | none => show (nodeL s.files (x.1, (nodG s.files x).parent)).getD Nod.zero = Nod.zero; rw [hq]; rfl
        | some m => rw [hq] at hh; exact absurd rfl hh
      rw [this] at hm
      cases hm
theorem most_le {f : Fls} (h : FlsV f) : mostL f ≤ 48 := by
  have : ∀ (l : Fls), (∀ d ∈ l, d.nodes.length ≤ 16) → mostL l ≤ l.length * 16 := by
    intro l
    induction l with
    | nil => intro _; simp [mostL]
    | cons d l ih =>
      intro h
      have h1 := ih fun d hd => h d (List.mem_cons_of_mem _ hd)
      have h2 := h d (List.mem_cons_self ..)
      simp only [mostL, List.map_cons, List.sum_cons, List.length_cons] at h1 ⊢
      omega
  have h1 := this f fun d hd => (h.vd d hd).len
  have h2 := h.few
  omega
theorem SpcV.n {s : Spc} (h : SpcV s) (hm : s.mounts.length ≤ 1000) : SpcN s := ⟨⟨h.files.b, hm⟩, fun x => by have := nmo_size h.files x; omega, by have := most_le h.files; omega⟩

def awNod : Nod := ⟨0, 2, 493, 0, 0, 0, ⟨#[]⟩, []⟩
def awF : Fls := (mkL (newL 2).1 (0, 1) ⟨#[97]⟩ awNod).1
def awS : Spc := ⟨awF, [(1, (0, 2))]⟩
theorem aw_make : mkL (newL 2).1 (0, 1) ⟨#[97]⟩ awNod = (awF, [((0, 1), ⟨#[97]⟩, (0, 0), (0, 2))], 0) := by kernel_rfl
theorem aw_add : addL ⟨awF, []⟩ 1 (0, 2) = (awS, 0) := by kernel_rfl
theorem aw_where : whereP awS (1, 1) = (⟨#[47, 97]⟩, true) := by kernel_rfl
theorem aw_cov : (covL awS (0, 2)).isSome = true := by kernel_rfl
theorem aw_vis : visP awS (0, 2) = false := by kernel_rfl
end Go.Proofs.Ytgliiknfmlmddaa
namespace Go.Proofs.Ytgliiknfmlmddaa
open Go.RowKit

section
set_option maxRecDepth 10000
set_option maxHeartbeats 1000000
theorem aw_fv : FlsV awF := by
  have h := (make_okay (new_valid (k := 2) (by omega) (by omega)).1 (0, 1) ⟨#[97]⟩ awNod)
  unfold Okay at h
  rw [aw_make] at h
  exact (h rfl).1
theorem aw_n : SpcN awS := ⟨⟨aw_fv.b, by decide⟩, fun x => by have := nmo_size (s := awS) aw_fv x; omega, by have := most_le aw_fv; exact Nat.le_trans this (by decide)⟩
theorem aw_le : LeA (.agg [.sl 2 (awF.map dvcA) none, .v (.slice none 0 0)]) (.agg (spcA ⟨awF, []⟩)) := LeA.agg (LeL.cons (LeA.refl _) (LeL.cons (LeA.nil _) LeL.nil))
theorem Lawake : AFn Try.prog 19 [] (fun r => r = .v (.bool true)) := by
  have hnew : AFn Try.prog 50 [.v (.int .i64 2)] (fun r => r = .tup [.agg (flsA (newL 2).1), .v (.int .i64 0)]) := Rnew 2
  have hmk : AFn Try.prog 51 [.agg (flsA (newL 2).1), .agg [.v (.int .i64 0), .v (.int .i64 1)], .v (.string ⟨#[97]⟩), .agg (nodA awNod)] (fun r => r = .tup [.agg (flsA awF), .sl 7 [chgA ((0, 1), ⟨#[97]⟩, (0, 0), (0, 2))] none, .v (.int .i64 0)]) :=
    (Rmake (newL 2).1 (0, 1) ⟨#[97]⟩ awNod (new_valid (k := 2) (by omega) (by omega)).1 (by decide) (by decide)).mono fun r hr => by rw [hr, aw_make]; rfl
  have had : AFn Try.prog 15 [.agg (spcA ⟨awF, []⟩), .v (.int .i64 1), .agg (filA (0, 2))] (fun r => r = .tup [.agg (spcA awS), .v (.int .i64 0)]) :=
    (Padd ⟨awF, []⟩ 1 (0, 2) ⟨aw_fv.b, by decide⟩ aw_fv.ne).mono fun r hr => by rw [hr, aw_add]; rfl
  have hwh : AFn Try.prog 23 [.agg (spcA awS), .agg (filA (1, 1))] (fun r => r = .tup [.v (.string ⟨#[47, 97]⟩), .v (.bool true)]) :=
    (Pwhere aw_n (1, 1)).mono fun r hr => by rw [hr, aw_where]
  have hcv : AFn Try.prog 26 [.agg (spcA awS), .agg (filA (0, 2))] (fun r => r = .v (.bool true)) :=
    (Pcovered awS (0, 2) aw_n.b).mono fun r hr => by rw [hr, aw_cov]
  have hvs : AFn Try.prog 32 [.agg (spcA awS), .agg (filA (0, 2))] (fun r => r = .v (.bool false)) :=
    (Pvisible aw_n (0, 2)).mono fun r hr => by rw [hr, aw_vis]
  refine enter Try.func19 rfl rfl rfl rfl rfl 0 rfl ?_
  refine w_ (a_ (h:=e_ (w_ (?_))))
  refine al_p rfl (q_call (hnew) ?_)
  rintro r rfl
  refine m_ (h:=x_ (h:=x_ (h:=al_ (h:=s_ (h:=a_ (h:=e_ (w_ (l_ (h:=bd_ (h:=?_))))))))))
  refine al_p rfl (st_le (y := .agg (nodA awNod)) (st_build (by repeat (first | exact FillA.nil _ | (apply FillA.cons; (focus exact rfl); (focus exact rfl); (focus exact rfl); (focus exact rfl); (focus exact rfl); (focus (repeat constructor))))) ⟨rfl, rfl⟩) (by repeat (first | exact LeA.refl _ | exact LeA.nil _ | exact LeL.refl _ | refine LeA.agg ?_ | refine LeA.tup ?_ | exact LeL.nil | refine LeL.cons ?_ ?_ | exact LeA.any _)) ?_)
  refine al_p rfl (q_call (hmk) ?_)
  rintro r rfl
  refine m_ (h:=x_ (h:=x_ (h:=x_ (h:=s_ (h:=a_ (h:=a_ (h:=e_ (q_ (yk_ ([(0, flsA awF)]) 13 (h:=?_))))))))))
  first | refine dl_ 0 (h:=?_) | refine tk_ 0 rfl (fun _ hS => st_loadF rfl rfl ⟨rfl, rfl⟩) ?_
  refine tk_ 1 rfl (fun _ hS => st_le (y := .agg (spcA ⟨awF, []⟩)) (st_build (by repeat (first | exact FillA.nil _ | (apply FillA.cons; (focus exact rfl); (focus exact rfl); (focus exact rfl); (focus exact rfl); (focus exact rfl); (focus (repeat constructor))))) ⟨rfl, rfl⟩) aw_le ⟨rfl, rfl⟩) ?_
  refine dm_ 2 (h:=di_ 3 (h:=df_ 4 (h:=?_)))
  first | refine dl_ 5 (h:=?_) | refine tk_ 5 rfl (fun _ hS => st_loadF rfl rfl ⟨rfl, rfl⟩) ?_
  refine c2_ 6 10 rfl rfl ?_ ?_
  · refine q_call (had) ?_
    rintro r rfl
    refine o_ (h:=?_)
    refine dm_ 7 (h:=dx_ 8 (h:=dx_ 9 (h:=?_)))
    refine c_ 10 rfl (s_alloc (by repeat constructor) ?_)
    refine o_ (h:=?_)
    refine c0_ 11 rfl (s_store rfl rfl rfl rfl rfl rfl (by repeat constructor) (by repeat constructor) ?_)
    refine o_ (h:=da_ 12 (h:=z_ (h:=t_ (w_ (l_ (h:=bd_ (h:=?_)))))))
    refine al_p rfl (q_call (hwh) ?_)
    rintro r rfl
    refine m_ (h:=x_ (h:=x_ (h:=a_ (h:=a_ (h:=e_ (q_ (yr_ 27 (h:=dm_ 0 (h:=deq_ 1 (h:=dm_ 2 (h:=?_)))))))))))
    refine aa_both (j := 2) rfl (fun hb1 => ?_) (fun hb1 => ?_)
    · have hc1 := bp hb1
      refine dm_ 3 (h:=dpt_ 4 (h:=dm_ 5 (h:=?_)))
      refine aa_both (j := 5) rfl (fun hb2 => ?_) (fun hb2 => ?_)
      · have hc2 := bp hb2
        refine dm_ 6 (h:=deq_ 7 (h:=dpt_ 8 (h:=dm_ 9 (h:=?_))))
        refine aa_both (j := 9) rfl (fun hb3 => ?_) (fun hb3 => ?_)
        · have hc3 := bp hb3
          refine dl_ 10 (h:=dm_ 11 (h:=di_ 12 (h:=df_ 13 (h:=dl_ 14 (h:=?_)))))
          refine c_ 15 rfl (q_call (hcv) ?_)
          rintro r rfl
          refine o_ (h:=dpt_ 16 (h:=dm_ 17 (h:=?_)))
          refine aa_both (j := 17) rfl (fun hb4 => ?_) (fun hb4 => ?_)
          · have hc4 := bp hb4
            refine dl_ 18 (h:=dm_ 19 (h:=di_ 20 (h:=df_ 21 (h:=dl_ 22 (h:=?_)))))
            refine c_ 23 rfl (q_call (hvs) ?_)
            rintro r rfl
            refine o_ (h:=dnt_ 24 (h:=dpt_ 25 (h:=da_ 26 (h:=z_ (h:=t_ (aw_ret (?_)))))))
            refine e_ret ?_
            first | rfl | (exfalso; simp_all)
          · have hc4 := bp hb4
            refine d0_ 18 (h:=d0_ 19 (h:=d0_ 20 (h:=d0_ 21 (h:=d0_ 22 (h:=d0_ 23 (h:=d0_ 24 (h:=dpf_ 25 (h:=da_ 26 (h:=z_ (h:=t_ (aw_ret (?_))))))))))))
            refine e_ret ?_
            first | rfl | (exfalso; simp_all)
        · have hc3 := bp hb3
          refine d0_ 10 (h:=d0_ 11 (h:=d0_ 12 (h:=d0_ 13 (h:=d0_ 14 (h:=d0_ 15 (h:=dpf_ 16 (h:=dm_ 17 (h:=d0_ 18 (h:=d0_ 19 (h:=d0_ 20 (h:=d0_ 21 (h:=d0_ 22 (h:=d0_ 23 (h:=d0_ 24 (h:=dpf_ 25 (h:=da_ 26 (h:=z_ (h:=t_ (aw_ret (?_))))))))))))))))))))
          refine e_ret ?_
          first | rfl | (exfalso; simp_all)
      · have hc2 := bp hb2
        refine d0_ 6 (h:=d0_ 7 (h:=dpf_ 8 (h:=dm_ 9 (h:=d0_ 10 (h:=d0_ 11 (h:=d0_ 12 (h:=d0_ 13 (h:=d0_ 14 (h:=d0_ 15 (h:=dpf_ 16 (h:=dm_ 17 (h:=d0_ 18 (h:=d0_ 19 (h:=d0_ 20 (h:=d0_ 21 (h:=d0_ 22 (h:=d0_ 23 (h:=d0_ 24 (h:=dpf_ 25 (h:=da_ 26 (h:=z_ (h:=t_ (aw_ret (?_))))))))))))))))))))))))
        refine e_ret ?_
        first | rfl | (exfalso; simp_all)
    · have hc1 := bp hb1
      refine d0_ 3 (h:=dpf_ 4 (h:=dm_ 5 (h:=d0_ 6 (h:=d0_ 7 (h:=dpf_ 8 (h:=dm_ 9 (h:=d0_ 10 (h:=d0_ 11 (h:=d0_ 12 (h:=d0_ 13 (h:=d0_ 14 (h:=d0_ 15 (h:=dpf_ 16 (h:=dm_ 17 (h:=d0_ 18 (h:=d0_ 19 (h:=d0_ 20 (h:=d0_ 21 (h:=d0_ 22 (h:=d0_ 23 (h:=d0_ 24 (h:=dpf_ 25 (h:=da_ 26 (h:=?_))))))))))))))))))))))))
      refine z_ (h:=t_ (aw_ret (?_)))
      refine e_ret ?_
      first | rfl | (exfalso; simp_all)
  · refine s_alloc (by repeat constructor) ?_
    refine o_ (h:=?_)
    refine c_ 6 rfl (q_call (had) ?_)
    rintro r rfl
    refine o_ (h:=dm_ 7 (h:=dx_ 8 (h:=dx_ 9 (h:=?_))))
    refine c0_ 11 rfl (s_store rfl rfl rfl rfl rfl rfl (by repeat constructor) (by repeat constructor) ?_)
    refine o_ (h:=da_ 12 (h:=z_ (h:=t_ (w_ (l_ (h:=bd_ (h:=?_)))))))
    refine al_p rfl (q_call (hwh) ?_)
    rintro r rfl
    refine m_ (h:=x_ (h:=x_ (h:=a_ (h:=a_ (h:=e_ (q_ (yr_ 27 (h:=dm_ 0 (h:=deq_ 1 (h:=dm_ 2 (h:=?_)))))))))))
    refine aa_both (j := 2) rfl (fun hb5 => ?_) (fun hb5 => ?_)
    · have hc5 := bp hb5
      refine dm_ 3 (h:=dpt_ 4 (h:=dm_ 5 (h:=?_)))
      refine aa_both (j := 5) rfl (fun hb6 => ?_) (fun hb6 => ?_)
      · have hc6 := bp hb6
        refine dm_ 6 (h:=deq_ 7 (h:=dpt_ 8 (h:=dm_ 9 (h:=?_))))
        refine aa_both (j := 9) rfl (fun hb7 => ?_) (fun hb7 => ?_)
        · have hc7 := bp hb7
          refine dl_ 10 (h:=dm_ 11 (h:=di_ 12 (h:=df_ 13 (h:=dl_ 14 (h:=?_)))))
          refine c_ 15 rfl (q_call (hcv) ?_)
          rintro r rfl
          refine o_ (h:=dpt_ 16 (h:=dm_ 17 (h:=?_)))
          refine aa_both (j := 17) rfl (fun hb8 => ?_) (fun hb8 => ?_)
          · have hc8 := bp hb8
            refine dl_ 18 (h:=dm_ 19 (h:=di_ 20 (h:=df_ 21 (h:=dl_ 22 (h:=?_)))))
            refine c_ 23 rfl (q_call (hvs) ?_)
            rintro r rfl
            refine o_ (h:=dnt_ 24 (h:=dpt_ 25 (h:=da_ 26 (h:=z_ (h:=t_ (aw_ret (?_)))))))
            refine e_ret ?_
            first | rfl | (exfalso; simp_all)
          · have hc8 := bp hb8
            refine d0_ 18 (h:=d0_ 19 (h:=d0_ 20 (h:=d0_ 21 (h:=d0_ 22 (h:=d0_ 23 (h:=d0_ 24 (h:=dpf_ 25 (h:=da_ 26 (h:=z_ (h:=t_ (aw_ret (?_))))))))))))
            refine e_ret ?_
            first | rfl | (exfalso; simp_all)
        · have hc7 := bp hb7
          refine d0_ 10 (h:=d0_ 11 (h:=d0_ 12 (h:=d0_ 13 (h:=d0_ 14 (h:=d0_ 15 (h:=dpf_ 16 (h:=dm_ 17 (h:=d0_ 18 (h:=d0_ 19 (h:=d0_ 20 (h:=d0_ 21 (h:=d0_ 22 (h:=d0_ 23 (h:=d0_ 24 (h:=dpf_ 25 (h:=da_ 26 (h:=z_ (h:=t_ (aw_ret (?_))))))))))))))))))))
          refine e_ret ?_
          first | rfl | (exfalso; simp_all)
      · have hc6 := bp hb6
        refine d0_ 6 (h:=d0_ 7 (h:=dpf_ 8 (h:=dm_ 9 (h:=d0_ 10 (h:=d0_ 11 (h:=d0_ 12 (h:=d0_ 13 (h:=d0_ 14 (h:=d0_ 15 (h:=dpf_ 16 (h:=dm_ 17 (h:=d0_ 18 (h:=d0_ 19 (h:=d0_ 20 (h:=d0_ 21 (h:=d0_ 22 (h:=d0_ 23 (h:=d0_ 24 (h:=dpf_ 25 (h:=da_ 26 (h:=z_ (h:=t_ (aw_ret (?_))))))))))))))))))))))))
        refine e_ret ?_
        first | rfl | (exfalso; simp_all)
    · have hc5 := bp hb5
      refine d0_ 3 (h:=dpf_ 4 (h:=dm_ 5 (h:=d0_ 6 (h:=d0_ 7 (h:=dpf_ 8 (h:=dm_ 9 (h:=d0_ 10 (h:=d0_ 11 (h:=d0_ 12 (h:=d0_ 13 (h:=d0_ 14 (h:=d0_ 15 (h:=dpf_ 16 (h:=dm_ 17 (h:=d0_ 18 (h:=d0_ 19 (h:=d0_ 20 (h:=d0_ 21 (h:=d0_ 22 (h:=d0_ 23 (h:=d0_ 24 (h:=dpf_ 25 (h:=da_ 26 (h:=?_))))))))))))))))))))))))
      refine z_ (h:=t_ (aw_ret (?_)))
      refine e_ret ?_
      first | rfl | (exfalso; simp_all)

end
end Go.Proofs.Ytgliiknfmlmddaa
namespace Go.Proofs.Ytgliiknfmlmddaa
open Go.RowKit

def StAll (w : World) : Nat → Nat → Prop := fun b _ => b < w.heap.size
def Opens (P : Program) (t : TypeId) (R : List AV → Prop) : Prop :=
  ∀ (H : Type) (enc : TypeId × Value → H) (w : World) (base : Nat) (spare : Nat → Bool) (held : Bool) (fuel : Nat) (cs : List Value) (x : DataW H × List MemPlace), DataW.trod enc P w base spare held fuel t cs = some x →
    ∃ row, R row ∧ froL (StAll w) w row cs ∧ ∀ u ∈ cs, u.oneCell' = true
section
variable {P : Program} {t : TypeId}
theorem Opens.mono {R R' : List AV → Prop} (h : Opens P t R) (hR : ∀ r, R r → R' r) : Opens P t R' := by
  intro H enc w base spare held fuel cs x hx
  obtain ⟨row, h1, h2⟩ := h H enc w base spare held fuel cs x hx
  exact ⟨row, hR _ h1, h2⟩
theorem opens_int {k : IntKind} (ht : P.underlying t = some (.int k)) : Opens P t fun r => ∃ n, r = [.v (.int k n)] ∧ (Lit.int k n).wf = true := by
  intro H enc w base spare held fuel cs x hx
  obtain ⟨b, rfl, _, hw⟩ := DataW.trod_int ht hx
  exact ⟨_, ⟨b, rfl, hw⟩, ⟨_, _, rfl, by simp only [fro], by simp only [froL]⟩, by simp [Value.oneCell']⟩
theorem cell_lt' {w : World} {b o : Nat} {v : Value} (h : w.cell? ⟨b, o, none⟩ = some v) : b < w.heap.size := by
  rcases Nat.lt_or_ge b w.heap.size with hlt | hge
  · exact hlt
  · simp [World.cell?, Array.getElem?_eq_none hge] at h
theorem froL_length' {St : Nat → Nat → Prop} {w : World} {xs : List AV} {ys : List Value} (h : froL St w xs ys) : ys.length = xs.length := repL_length (G := ⟨St, [], []⟩) (repL_fro (G := ⟨St, [], []⟩) _ _ h)
theorem opens_slice {e : TypeId} {n : Nat} {R : List AV → Prop} (ht : P.underlying t = some (.slice e)) (hc : P.cellsOf e = n) (hn : 0 < n) (h : Opens P e R) : Opens P t fun r => ∃ rows, r = [.sl n rows none] ∧ rows.length ≤ maxLen ∧ ∀ x ∈ rows, R x := by
  intro H enc w base spare held fuel cs x hx
  rcases DataW.trod_slice ht hx with ⟨rfl, _⟩ | ⟨⟨b, off, spot⟩, len, cap, elems, rest, m, rfl, rfl, _, hb, hl, hm, hlen, hel, _, _⟩
  · exact ⟨_, ⟨[], rfl, Nat.zero_le _, by simp⟩, ⟨_, _, rfl, by simp only [fro]; exact ⟨trivial, none, 0, rfl, Nat.le_refl _, Nat.zero_le _, .inl trivial⟩, by simp only [froL]⟩, by simp [Value.oneCell']⟩
  · have each : ∀ i, i < len → ∃ row cs', R row ∧ row.length = n ∧ froL (StAll w) w row cs' ∧ (∀ u ∈ cs', u.oneCell' = true) ∧ cs'.length = n ∧ ∀ j, j < n → w.cell? (Addr.add ⟨b, off, spot⟩ (i * n + j)) = cs'[j]? := by
      intro i hi
      have h1 := hel i hi
      rw [hc, List.getElem?_eq_getElem (by omega), Option.bind_eq_some_iff] at h1
      obtain ⟨cs', h2, h3⟩ := h1
      obtain ⟨row, r1, r2, r3⟩ := h _ _ _ _ _ _ _ _ _ h3
      obtain ⟨_, c1, c2⟩ := World.cells?_some h2
      refine ⟨row, cs', r1, by rw [← froL_length' r2, c1], r2, r3, c1, fun j hj => ?_⟩
      have := c2 j hj
      rwa [Addr.add_add] at this
    have hrows : ∃ rows : List (List AV), rows.length = len ∧ (∀ i, i < len → ∃ row cs', rows[i]? = some row ∧ R row ∧ row.length = n ∧ froL (StAll w) w row cs' ∧ (∀ u ∈ cs', u.oneCell' = true) ∧ cs'.length = n ∧ ∀ j, j < n → w.cell? (Addr.add ⟨b, off, spot⟩ (i * n + j)) = cs'[j]?) := by
      clear hel
      have : ∀ k, k ≤ len → ∃ rows : List (List AV), rows.length = k ∧ (∀ i, i < k → ∃ row cs', rows[i]? = some row ∧ R row ∧ row.length = n ∧ froL (StAll w) w row cs' ∧ (∀ u ∈ cs', u.oneCell' = true) ∧ cs'.length = n ∧ ∀ j, j < n → w.cell? (Addr.add ⟨b, off, spot⟩ (i * n + j)) = cs'[j]?) := by
        intro k
        induction k with
        | zero => intro _; exact ⟨[], rfl, fun i hi => by omega⟩
        | succ k ih =>
          intro hk
          obtain ⟨rows, e1, e2⟩ := ih (by omega)
          obtain ⟨row, cs', q⟩ := each k (by omega)
          refine ⟨rows ++ [row], by simp [e1], fun i hi => ?_⟩
          rcases Nat.lt_or_ge i k with hlt | hge
          · obtain ⟨row', cs'', q1, q2⟩ := e2 i hlt
            exact ⟨row', cs'', by rw [List.getElem?_append_left (by omega)]; exact q1, q2⟩
          · obtain rfl : i = k := by omega
            exact ⟨row, cs', by rw [List.getElem?_append_right (by omega), e1]; simp, q⟩
      exact this len (Nat.le_refl _)
    obtain ⟨rows, e1, e2⟩ := hrows
    refine ⟨_, ⟨rows, rfl, by omega, fun x hx => ?_⟩, ⟨_, _, rfl, ?_, by simp only [froL]⟩, by simp [Value.oneCell']⟩
    · obtain ⟨i, hi⟩ := List.getElem?_of_mem hx
      obtain ⟨row, _, q1, q2, _⟩ := e2 i (by rw [← e1]; exact (List.getElem?_eq_some_iff.1 hi).1)
      rw [hi] at q1
      injection q1 with q1
      subst q1
      exact q2
    · simp only [fro]
      refine ⟨trivial, some ⟨b, off, spot⟩, cap, by rw [e1], by omega, hm, ?_⟩
      rcases Nat.eq_zero_or_pos len with h0 | h0
      · left; exact List.eq_nil_of_length_eq_zero (by omega)
      · right
        have hspot : spot = none := by
          obtain ⟨_, cs', _, _, _, _, _, c3, c4⟩ := e2 0 h0
          have := c4 0 hn
          rw [List.getElem?_eq_getElem (by omega)] at this
          simpa [Addr.add] using World.cell?_spot this
        subst hspot
        refine ⟨b, off, rfl, ?_⟩
        have : ∀ (rs : List (List AV)) (k : Nat), (∀ i r, rs[i]? = some r → rows[k + i]? = some r) → froR (StAll w) w b n rs (off + k * n) := by
          intro rs
          induction rs with
          | nil => intro k _; simp only [froR]
          | cons r rs ih =>
            intro k hk
            simp only [froR]
            have h1 := hk 0 r rfl
            rw [Nat.add_zero] at h1
            obtain ⟨row, cs', q1, _, q3, q4, q5, q6, q7⟩ := e2 k (by rw [← e1]; exact (List.getElem?_eq_some_iff.1 h1).1)
            rw [h1] at q1
            injection q1 with q1
            subst q1
            refine ⟨⟨q3, froC_of fun i x hi => ?_⟩, ?_⟩
            · obtain ⟨u, u1, u2⟩ := froL_get q4 hi
              have hin : i < n := by rw [← q3]; exact (List.getElem?_eq_some_iff.1 hi).1
              have hc := q7 i hin
              rw [u1] at hc
              have hc' : w.cell? ⟨b, off + k * n + i, none⟩ = some u := by rw [Addr.add_mid] at hc; rwa [Nat.add_assoc]
              exact ⟨cell_lt' hc', u, hc', q5 u (List.mem_of_getElem? u1), u2⟩
            · have := ih (k + 1) (fun i r' hi => by
                have := hk (i + 1) r' (by simpa using hi)
                rwa [show k + 1 + i = k + (i + 1) by omega])
              rwa [show off + (k + 1) * n = off + k * n + n by rw [Nat.add_mul]; omega] at this
        simpa using this rows 0 (fun i r hi => by simpa using hi)
theorem rows_map {α : Type} {enc : α → List AV} {Q : α → Prop} : ∀ {rows : List (List AV)}, (∀ x ∈ rows, ∃ a, x = enc a ∧ Q a) → ∃ l : List α, rows = l.map enc ∧ ∀ a ∈ l, Q a
  | [], _ => ⟨[], rfl, by simp⟩
  | r :: rs, h => by
    obtain ⟨a, rfl, ha⟩ := h r (by simp)
    obtain ⟨l, rfl, hl⟩ := rows_map (rows := rs) fun x hx => h x (by simp [hx])
    exact ⟨a :: l, rfl, by simpa using ⟨ha, hl⟩⟩
theorem Opens.one {R : List AV → Prop} (h : Opens P t R) {H : Type} {enc : TypeId × Value → H} {w : World} {base : Nat} {spare : Nat → Bool} {held : Bool} {v : Value} {d : DataW H} {ps : List MemPlace} (hv : v.cells = #[v]) (hd : DataW.Trod enc P w base spare held t v d ps) :
    ∃ row, R row ∧ froL (StAll w) w row [v] := by
  obtain ⟨fuel, hf⟩ := hd
  rw [hv] at hf
  obtain ⟨row, h1, h2, _⟩ := h _ _ _ _ _ _ _ _ _ hf
  exact ⟨row, h1, h2⟩
end
end Go.Proofs.Ytgliiknfmlmddaa
namespace Go.Proofs.Ytgliiknfmlmddaa
open Go.RowKit

theorem opInts : Opens Try.prog 22 (fun r => ∃ l : List Int, r = [.sl 1 (l.map intA) none]) :=
  (opens_slice (n := 1) Try.underlying22 (by kernel_rfl) (by omega) (opens_int Try.underlying3)).mono (by
    rintro r ⟨rows, rfl, _, hr⟩
    obtain ⟨l, rfl, _⟩ := rows_map (enc := intA) (Q := fun _ => True) (fun x hx => by obtain ⟨t, rfl, _⟩ := hr x hx; exact ⟨t, rfl, trivial⟩)
    exact ⟨l, rfl⟩)
theorem ints_one {H : Type} {enc : TypeId × Value → H} {sp : Nat → Bool} {held : Bool} {base : Nat} {w : World} {a : Option Addr} {n c : Nat} {d : DataW H} {p : List MemPlace} (h : DataW.Trod enc Try.prog w base sp held 22 (.slice a n c) d p) :
    ∃ l : List Int, rep ⟨StAll w, [], []⟩ w (.sl 1 (l.map intA) none) (.slice a n c) := by
  obtain ⟨r0, ⟨l, rfl⟩, k0⟩ := opInts.one rfl h
  simp only [froL] at k0
  obtain ⟨_, _, e0, k0, rfl⟩ := k0
  injection e0 with e0
  subst e0
  exact ⟨l, rep_fro (G := ⟨StAll w, [], []⟩) _ _ k0⟩
theorem walk_ints {f : FuncId} (hf : ∀ l : List Int, AFn Try.prog f [.sl 1 (l.map intA) none] (fun x => x = .v (.bool true))) {H : Type} {enc : TypeId × Value → H} {sp : Nat → Bool} {held : Bool} {base : Nat} (a : Option Addr) (n c : Nat) (w : World) {d : DataW H} {p : List MemPlace}
    (h : DataW.Trod enc Try.prog w base sp held 22 (.slice a n c) d p) : Calls Try.prog f #[.slice a n c] w fun e w' => e = .returned (.bool true) ∧ Below w.heap.size w w' := by
  obtain ⟨l, k⟩ := ints_one h
  refine calls_of (vs := [.slice a n c]) (hf l) (StAll w) (fun b o h => h) ?_
  simp only [repL]
  exact ⟨_, _, rfl, k, rfl⟩
end Go.Proofs.Ytgliiknfmlmddaa
namespace Go.Proofs.Ytgliiknfmlmddaa
open Go.RowKit

theorem mtd_of {s : Spc} {dev : Int} (h : mtdL s dev = true) (h0 : dev ≠ 0) : ∃ m ∈ s.mounts, m.1 = dev := by
  unfold mtdL onL at h
  simp only [Bool.or_eq_true, decide_eq_true_eq, h0, or_false] at h
  cases hf : s.mounts.find? fun m : Mnt => decide (m.1 = dev) with
  | none => rw [hf] at h; cases h
  | some m => exact ⟨m, List.mem_of_find?_eq_some hf, by have := List.find?_some hf; simpa using this⟩
theorem mtd_mem {s : Spc} {m : Mnt} (h : m ∈ s.mounts) : mtdL s m.1 = true := by
  unfold mtdL onL
  rw [Bool.or_eq_true]
  refine .inl ?_
  rw [Option.isSome_map]
  cases hf : s.mounts.find? fun m' : Mnt => decide (m'.1 = m.1) with
  | none => have := List.find?_eq_none.1 hf m h; simp at this
  | some m => rfl
theorem mtd_mono {f : Fls} {ms ms' : List Mnt} {dev : Int} (h : mtdL ⟨f, ms⟩ dev = true) (hs : ∀ m ∈ ms, m ∈ ms') : mtdL ⟨f, ms'⟩ dev = true := by
  by_cases h0 : dev = 0
  · unfold mtdL; simp [h0]
  · obtain ⟨m, hm, rfl⟩ := mtd_of h h0
    exact mtd_mem (s := ⟨f, ms'⟩) (hs m hm)
end Go.Proofs.Ytgliiknfmlmddaa
namespace Go.Proofs.Ytgliiknfmlmddaa

section
variable {s : Spc} (hv : SpcV s)
include hv
theorem node_in {q : Nat} {d : Dvc} {p : Nod} {x : Int} (hq : s.files[q]? = some d) (hp : p ∈ d.nodes) (hx : p.ino = x) : nodeL s.files ((q : Int), x) = some p :=
  node_asc (a := ((q : Int), x)) rfl hq (hv.files.vd d (List.mem_of_getElem? hq)).asc hp hx
theorem step_dir {a b : Fil} (h : dirL s.files a = true) (hs : stepR s a = some b) : dirL s.files b = true := by
  obtain ⟨q, d, m, h1, h2, h3, h4, h5, h6⟩ := dir_node (f := s.files) (a := a) (by rw [h]; simp)
  have hd := hv.files.vd d (List.mem_of_getElem? h2)
  unfold stepR at hs
  by_cases h0 : a.2 ≠ 1
  · rw [if_pos h0] at hs
    injection hs with hs
    subst hs
    rw [h5, h1]
    obtain ⟨p, hp, hpi, e, he, _⟩ := hd.par m h3 (by rw [h4]; exact h0) h6
    have hk : p.kind = 2 := by
      by_cases hk : p.kind = 2
      · exact hk
      · have := (hd.leaf p hp hk).2
        rw [this] at he; cases he
    exact (dir_kind (node_in hv h2 hp hpi)).2 hk
  · rw [if_neg h0] at hs
    obtain ⟨m', hm', _, e⟩ := on_mem hs
    obtain ⟨i, hi⟩ := List.getElem?_of_mem hm'
    rw [← e]
    exact (hv.mnt i m' hi).dir
theorem step_mtd {a b : Fil} (h : mtdL s a.1 = true) (hs : stepR s a = some b) : mtdL s b.1 = true := by
  unfold stepR at hs
  by_cases h0 : a.2 ≠ 1
  · rw [if_pos h0] at hs
    injection hs with hs
    subst hs
    exact h
  · rw [if_neg h0] at hs
    obtain ⟨m', hm', _, e⟩ := on_mem hs
    obtain ⟨i, hi⟩ := List.getElem?_of_mem hm'
    rw [← e]
    exact mtd_mono (f := s.files) (hv.mnt i m' hi).there (fun x hx => List.mem_of_mem_take hx)
theorem on_zero : onL s 0 = none := by
  cases h : onL s 0 with
  | none => rfl
  | some on =>
    obtain ⟨m', hm', e, _⟩ := on_mem h
    obtain ⟨i, hi⟩ := List.getElem?_of_mem hm'
    have := (hv.mnt i m' hi).dev1
    omega
theorem step_some {a : Fil} (h : mtdL s a.1 = true) (h0 : a ≠ (0, 1)) : ∃ b, stepR s a = some b := by
  have _ := hv
  unfold stepR
  by_cases h1 : a.2 ≠ 1
  · exact ⟨_, if_pos h1⟩
  · rw [if_neg h1]
    have h2 : a.1 ≠ 0 := fun e => h0 (Prod.ext e (by simpa using h1))
    unfold mtdL at h
    rw [decide_eq_false h2, Bool.or_false] at h
    cases ho : onL s a.1 with
    | none => rw [ho] at h; cases h
    | some b => exact ⟨b, rfl⟩
theorem chain_cons {a : Fil} (h : dirL s.files a = true) : chainP s (mostL s.files) a = a :: (match stepR s a with
    | none => []
    | some b => chainP s (mostL s.files) b) := by
  have hd : ¬ dirL s.files a = false := by rw [h]; simp
  have he := ends_most hv a
  cases hm : mostL s.files with
  | zero => rw [hm] at he; exact absurd he hd
  | succ m =>
    rw [hm] at he
    rw [chain_yes hd, step_eq hv hd]
    cases hs : stepR s a with
    | none => rfl
    | some b =>
      simp only
      have h1 := he.resolve_left hd b hs
      have h2 := ends_most hv b
      rw [hm] at h2
      rw [chain_irr hv m (m + 1) b h1 h2]
theorem root_in {a : Fil} (h : dirL s.files a = true) (hm : mtdL s a.1 = true) : (0, 1) ∈ chainP s (mostL s.files) a := by
  have key : ∀ (k : Nat) (a : Fil), ends s k a → dirL s.files a = true → mtdL s a.1 = true → (0, 1) ∈ chainP s (mostL s.files) a := by
    intro k
    induction k with
    | zero => intro a he h _; rw [show dirL s.files a = false from he] at h; cases h
    | succ k ih =>
      intro a he h hm
      by_cases h0 : a = (0, 1)
      · rw [chain_cons hv h, h0]; exact List.mem_cons_self ..
      · obtain ⟨b, hb⟩ := step_some hv hm h0
        rw [chain_cons hv h, hb]
        exact List.mem_cons_of_mem _ (ih b (he.resolve_left (by rw [h]; simp) b hb) (step_dir hv h hb) (step_mtd hv hm hb))
  exact key _ a (ends_most hv a) h hm
theorem where_yes {a : Fil} (h : dirL s.files a = true) (hm : mtdL s a.1 = true) : whereP s a = (pathW s ((chainP s (mostL s.files) a).takeWhile fun x => decide (x ≠ (0, 1))), true) := by
  unfold whereP
  rw [if_pos ⟨h, hm, root_in hv h hm⟩]
theorem where_root (h : dirL s.files (0, 1) = true) : whereP s (0, 1) = (⟨#[47]⟩, true) := by
  rw [where_yes hv h (by unfold mtdL; simp), chain_cons hv h, List.takeWhile_cons]
  simp [pathW, accW]
theorem where_step {a b : Fil} (h : dirL s.files a = true) (hm : mtdL s a.1 = true) (h0 : a ≠ (0, 1)) (hb : stepR s a = some b) : whereP s a = (if a.2 = 1 then (whereP s b).1 else joinS (whereP s b).1 (nmoL s a), true) ∧ (whereP s b).2 = true := by
  rw [where_yes hv h hm, where_yes hv (step_dir hv h hb) (step_mtd hv hm hb), chain_cons hv h, hb, List.takeWhile_cons]
  simp only [h0, ne_eq, not_false_eq_true, decide_true, if_true]
  refine ⟨?_, trivial⟩
  unfold pathW accW
  rw [List.filter_cons]
  by_cases h1 : a.2 = 1
  · simp [h1]
  · simp [h1]
def upF (s : Spc) : Nat → Fil → Fil
  | 0, a => a
  | k + 1, a => if dirL s.files a = true then (if a.2 ≠ 1 then (a.1, (nodG s.files a).parent) else match onL s a.1 with
    | some on => upF s k on
    | none => a) else (0, 0)
omit hv in
theorem pos_le (dev : Int) : posM s dev ≤ s.mounts.length := by
  unfold posM
  cases h : s.mounts.findIdx? fun m : Mnt => decide (m.1 = dev) with
  | none => simp
  | some i =>
    have := (List.findIdx?_eq_some_iff_getElem.1 h).1
    simp only
    omega
theorem mnt_one {i j : Nat} {m m' : Mnt} (hi : s.mounts[i]? = some m) (hj : s.mounts[j]? = some m') (h : m.1 = m'.1) : i = j := by
  have key : ∀ {i j : Nat} {m m' : Mnt}, s.mounts[i]? = some m → s.mounts[j]? = some m' → m.1 = m'.1 → ¬ i < j := by
    intro i j m m' hi hj h hlt
    have hf := (hv.mnt j m' hj).fresh
    have hm : m ∈ s.mounts.take j := by
      refine List.mem_of_getElem? (i := i) ?_
      rw [List.getElem?_take, if_pos hlt]; exact hi
    have := mtd_mem (s := ⟨s.files, s.mounts.take j⟩) hm
    rw [h, hf] at this
    cases this
  have h1 := key hi hj h
  have h2 := key hj hi h.symm
  omega
omit hv in
theorem cov_mem {a : Fil} {d : Int} (h : covL s a = some d) : ∃ i : Nat, s.mounts[i]? = some ((d, a) : Mnt) := by
  unfold covL at h
  cases hf : s.mounts.find? fun m : Mnt => decide (m.2 = a) with
  | none => rw [hf] at h; cases h
  | some m =>
    rw [hf] at h
    injection h with h
    have h2 := List.find?_some hf
    simp only [decide_eq_true_eq] at h2
    obtain ⟨i, hi⟩ := List.getElem?_of_mem (List.mem_of_find?_eq_some hf)
    exact ⟨i, by rw [hi, ← h, ← h2]⟩
theorem on_of {i : Nat} {m : Mnt} (hi : s.mounts[i]? = some m) : onL s m.1 = some m.2 := by
  have h1 : mtdL s m.1 = true := mtd_mem (List.mem_of_getElem? hi)
  have hd := (hv.mnt i m hi).dev1
  unfold mtdL at h1
  rw [decide_eq_false (by omega), Bool.or_false] at h1
  cases ho : onL s m.1 with
  | none => rw [ho] at h1; cases h1
  | some on =>
    obtain ⟨m', hm', e1, e2⟩ := on_mem ho
    obtain ⟨j, hj⟩ := List.getElem?_of_mem hm'
    have := mnt_one hv hj hi e1
    subst this
    rw [hi] at hj
    injection hj with hj
    rw [← e2, hj]
end
end Go.Proofs.Ytgliiknfmlmddaa
namespace Go.Proofs.Ytgliiknfmlmddaa
open Go.RowKit

theorem last_slash (d : Str) (h : 0 < d.size) : d.data.toList.getLast? = some 47 ↔ (((d[d.size - 1]'(by omega)).toNat : Int) = 47) := by
  have hl : d.data.toList.length = d.size := by simp
  rw [List.getLast?_eq_getElem?, hl, List.getElem?_eq_getElem (by omega)]
  show some (d[d.size - 1]'(by omega)) = some 47 ↔ _
  rw [Option.some.injEq]
  constructor
  · intro e; rw [e]; rfl
  · intro e
    refine UInt8.toNat_inj.1 ?_
    show _ = 47
    omega
theorem join_nil {d m : Str} (h : ¬ 0 < d.size) : joinS d m = d ++ ⟨#[47]⟩ ++ m := by
  refine if_neg fun e => ?_
  have hl : d.data.toList.length = d.size := by simp
  rw [List.getLast?_eq_getElem?, List.getElem?_eq_none (by omega)] at e
  cases e
section
set_option maxRecDepth 10000
set_option maxHeartbeats 1000000
theorem RjoinR (d m : Str) (hd : d.size ≤ 1000000) (hm : m.size ≤ 1000000) : AFn Try.prog 59 [.v (.string d), .v (.string m)] (fun r => r = .v (.string (joinS d m))) := by
  refine enter Try.func59 rfl rfl rfl rfl rfl 0 rfl ?_
  refine w_ (a_ (h:=e_ (q_ (w_ (m_ (h:=n_ (h:=gt_ (h:=m_ (h:=?_)))))))))
  refine al_gs true rfl rfl (fun hb1 => ?_) (fun hb1 => ?_)
  · have hc1 := bp hb1
    refine m_ (h:=m_ (h:=n_ (h:=sb_ (h:=?_))))
    refine g_y (st_strIdx (n := d.size - 1) Try.underlying9 rfl rfl (by omega) (by omega) ?_)
    refine eq_ (h:=pt_ (h:=e_ (?_)))
    refine aw_cond rfl (fun hb2 => ?_) (fun hb2 => ?_)
    · have hc2 := bp hb2
      refine w_ (m_ (h:=m_ (h:=?_)))
      refine al_p rfl (st_addS rfl rfl (by omega) ?_)
      refine a_ (h:=e_ (aw_ret (x_thenR (?_))))
      refine e_ret ?_
      rw [show joinS d m = d ++ m from if_pos ((last_slash d (by omega)).2 hc2)]
      rfl
    · have hc2 := bp hb2
      refine kt_ (w_ (m_ (h:=?_)))
      refine al_p rfl (st_addS rfl rfl (by show d.size + 1 ≤ _; omega) ?_)
      refine m_ (h:=?_)
      refine al_p rfl (st_addS rfl rfl (by rw [ByteArray.size_append]; show d.size + 1 + m.size ≤ _; omega) ?_)
      refine a_ (h:=e_ (aw_ret (?_)))
      refine e_ret ?_
      rw [show joinS d m = d ++ ⟨#[47]⟩ ++ m from if_neg (fun h => hc2 ((last_slash d (by omega)).1 h))]
      rfl
  · have hc1 := bp hb1
    refine g0_ (h:=g0_ (h:=g0_ (h:=g0_ (h:=g0_ (h:=g0_ (h:=pf_ (h:=e_ (cn_ (h:=kt_ (w_ (m_ (h:=?_))))))))))))
    refine al_p rfl (st_addS rfl rfl (by show d.size + 1 ≤ _; omega) ?_)
    refine m_ (h:=?_)
    refine al_p rfl (st_addS rfl rfl (by rw [ByteArray.size_append]; show d.size + 1 + m.size ≤ _; omega) ?_)
    refine a_ (h:=e_ (aw_ret (?_)))
    refine e_ret ?_
    rw [join_nil (by omega)]
    rfl

end
end Go.Proofs.Ytgliiknfmlmddaa
namespace Go.Proofs.Ytgliiknfmlmddaa
open Go.RowKit

def strA (s : Str) : List AV := [.v (.string s)]
theorem st_sliceS {P : Program} {ev : Operand → Option AV} {h : AH} {R : AV → AH → Prop} {d : Option Tmp} {ty : TypeId} {pos : String} {af : Array Edge} {gd : Option (Nat × Bool)} {T : TypeId} {x lo hi : Operand} {s : ByteArray} {a k : Nat} {i j : Int} (hu : P.underlying T = some .string)
    (hx : ev x = some (.v (.string s))) (hl : ev lo = some (.v (.int .i64 i))) (hh : ev hi = some (.v (.int .i64 j))) (hi' : i = (a : Int)) (hj : j = (k : Int)) (h1 : a ≤ k) (h2 : k ≤ s.size) (hR : R (.v (.string (s.extract a k))) h) : AStep P ⟨d, .slice T x (some lo) (some hi) none, ty, pos, af, gd⟩ ev h R := by
  refine st_val (fun _ G w ec _ he => ?_) hR
  have k1 := he x (by simp [Op.operands]) _ hx
  have k2 := he lo (by simp [Op.operands]) _ hl
  have k3 := he hi (by simp [Op.operands]) _ hh
  simp only [rep] at k1 k2 k3
  subst hi' hj
  refine ⟨.string (s.extract a k), ?_, by simp only [rep]⟩
  simp [execOp, k1, k2, k3, Instr.sliceAt, Instr.slice, Instr.sliceBounds, Instr.sliceBound, asIntOf, run_underlying hu, h1, h2]
def hdL (s : Str) : Bool := decide (s.data.toList.head? = some 47)
def lsL (s : Str) : Bool := decide (s.data.toList.getLast? = some 47)
theorem hd_pos {s : Str} (h : 0 < s.size) : hdL s = decide (((s[0]'h).toNat : Int) = 47) := by
  unfold hdL
  rw [head_dec s h, Bool.eq_iff_iff]; simp
theorem ls_pos {s : Str} (h : 0 < s.size) : lsL s = decide (((s[s.size - 1]'(by omega)).toNat : Int) = 47) := by
  unfold lsL
  rw [last_dec s h, Bool.eq_iff_iff]; simp
theorem hd_nil {s : Str} (h : ¬ 0 < s.size) : hdL s = false := by
  have : s.data.toList = [] := List.eq_nil_of_length_eq_zero (by rw [← Lib.size_eq]; omega)
  unfold hdL
  rw [this]; rfl
theorem ls_nil {s : Str} (h : ¬ 0 < s.size) : lsL s = false := by
  have : s.data.toList = [] := List.eq_nil_of_length_eq_zero (by rw [← Lib.size_eq]; omega)
  unfold lsL
  rw [this]; rfl
theorem byte_at {s : Str} {k : Nat} (h : k < s.size) (h47 : ((s[k]'h).toNat : Int) = 47) : s.data.toList[k]? = some 47 := by
  rw [Lib.data_getElem? s k h]
  congr 1
  refine UInt8.toNat_inj.1 ?_
  show _ = 47
  omega
theorem sp_cut {s : Str} {f k : Nat} {ps : List Str} (hI : SplitI s.data.toList f k (bls ps)) (h : k = s.size ∨ s.data.toList[k]? = some 47) : SplitI s.data.toList (k + 1) (k + 1) (bls ps ++ one_ ((s.data.toList.drop f).take (k - f))) := by
  rcases h with h | h
  · rw [Lib.size_eq] at h
    subst h
    exact splitI_end hI
  · exact splitI_slash hI h
theorem sp_app {s : Str} {f k : Nat} {ps : List Str} (hI : SplitI s.data.toList f k (bls ps)) (hk : k ≤ s.size) (h : k = s.size ∨ s.data.toList[k]? = some 47) (hf : f < k) : SplitI s.data.toList (k + 1) (k + 1) (bls (ps ++ [s.extract f k])) := splitI_app (sp_cut hI h) (one_pos (extract_ne s hf hk))
theorem sp_app0 {s : Str} {f k : Nat} {ps : List Str} (hI : SplitI s.data.toList f k (bls ps)) (h : k = s.size ∨ s.data.toList[k]? = some 47) (hf : ¬ f < k) : SplitI s.data.toList (k + 1) (k + 1) (bls ps) := splitI_app0 (sp_cut hI h) (by omega)
theorem sp_next {s : Str} {f k : Nat} {ps : List Str} (hI : SplitI s.data.toList f k (bls ps)) (h : k < s.size) (h47 : ¬ ((s[k]'h).toNat : Int) = 47) : SplitI s.data.toList f (k + 1) (bls ps) := splitI_next hI (Lib.data_getElem? s k h) (fun e => h47 (by rw [e]; rfl))
theorem ps_len (ps : List Str) : ps.length ≤ (flatS (bls ps)).length := by
  induction ps with
  | nil => simp
  | cons p ps ih =>
    have : bls (p :: ps) = p.data.toList :: bls ps := rfl
    rw [this, flatS_cons]
    simp
    omega
theorem piece_mem {s : Str} {ps : List Str} (h : bls ps = pieces s.data.toList) {i : Nat} {x : Str} (hx : ps[i]? = some x) : x.size ≤ s.size := by
  rw [Lib.size_eq, Lib.size_eq s]
  refine piece_len ?_
  rw [← h]
  exact List.mem_map.2 ⟨x, List.mem_of_getElem? hx, rfl⟩
theorem flat_next {ps : List Str} {j : Nat} {x t : Str} (hx : ps[j]? = some x) (h : t.data.toList = flatS ((bls ps).take j)) : (t ++ (⟨#[47]⟩ ++ x)).data.toList = flatS ((bls ps).take (j + 1)) := by
  have e : (bls ps)[j]? = some x.data.toList := by unfold bls; rw [List.getElem?_map, hx]; rfl
  rw [List.take_add_one, e, flatS_append, ← h]
  simp [flatS]
theorem str_ext {a b : Str} (h : a.data.toList = b.data.toList) : a = b := ByteArray.ext (Array.toList_inj.1 h)
theorem clean_no {s : Str} {ps : List Str} (h : bls ps = pieces s.data.toList) {i : Nat} {x : Str} (hx : ps[i]? = some x) (hn : nameL x = false) : cleanL s.data.toList = false := by
  rw [← cleanR_eq]
  unfold cleanR
  rw [← h]
  have : (bls ps).all nmL = false := List.all_eq_false.2 ⟨x.data.toList, List.mem_map.2 ⟨x, List.mem_of_getElem? hx, rfl⟩, by rw [← nameL_eq, hn]; simp⟩
  rw [this, Bool.false_and]
theorem clean_res {s t1 : Str} {ps : List Str} (h : bls ps = pieces s.data.toList) (ha : ∀ (i : Nat) (y : Str), i < ps.length → ps[i]? = some y → nameL y = true) (ht : t1.data.toList = flatS ((bls ps).take ps.length)) (h3 : ¬ s = ⟨#[47]⟩) (h0 : 0 < ps.length) : cleanL s.data.toList = decide (s = t1) := by
  have hl : (bls ps).length = ps.length := by simp [bls]
  rw [List.take_of_length_le (by omega)] at ht
  rw [← cleanR_eq]
  unfold cleanR
  rw [← h, ← ht]
  have h1 : (bls ps).all nmL = true := List.all_eq_true.2 fun y hy => by
    obtain ⟨z, hz, rfl⟩ := List.mem_map.1 hy
    obtain ⟨i, hi⟩ := List.getElem?_of_mem hz
    rw [← nameL_eq]
    exact ha i z (List.getElem?_eq_some_iff.1 hi).1 hi
  have h2 : decide (s.data.toList = [47]) = false := decide_eq_false fun e => h3 (str_ext e)
  have h4 : bls ps ≠ [] := fun e => by rw [e] at hl; simp at hl; omega
  rw [h1, h2, decide_eq_true h4]
  simp only [Bool.true_and, Bool.false_or]
  rw [Bool.eq_iff_iff, decide_eq_true_iff, decide_eq_true_iff]
  exact ⟨fun e => str_ext e, fun e => by rw [e]⟩
theorem clean_nil {s : Str} {ps : List Str} (h : bls ps = pieces s.data.toList) (h3 : ¬ s = ⟨#[47]⟩) (h0 : ps.length = 0) : cleanL s.data.toList = false := by
  have e : bls ps = [] := by rw [List.eq_nil_of_length_eq_zero h0]; rfl
  rw [← cleanR_eq]
  unfold cleanR
  rw [← h, e]
  have h2 : decide (s.data.toList = [47]) = false := decide_eq_false fun e => h3 (str_ext e)
  rw [h2]
  simp
theorem joinS_data (d m : Str) : (joinS d m).data.toList = joinL d.data.toList m.data.toList := by
  unfold joinS joinL
  split
  · simp
  · simp
theorem prnt_no {l : Bs} (h : cleanL l = false ∨ l = [47]) : prntL l = ([], [], false) := by
  unfold prntL
  rw [if_neg]
  rintro ⟨h1, h2⟩
  rcases h with h | h
  · rw [h1] at h; cases h
  · exact h2 h
theorem prnt_yes {s : Str} {ps : List Str} (h : bls ps = pieces s.data.toList) (h1 : cleanL s.data.toList = true) (h2 : ¬ s = ⟨#[47]⟩) : 0 < ps.length ∧ (∀ p ∈ bls ps, nmL p = true) ∧ prntL s.data.toList = (dirOf (bls ps).dropLast, (bls ps).getLastD [], true) ∧ flatS (bls ps) = s.data.toList := by
  have h3 : s.data.toList ≠ [47] := fun e => h2 (str_ext e)
  obtain ⟨qs, hq, e1, e2⟩ := clean_dirOf h1
  have e3 : bls ps = qs := h.trans e2
  have hne : qs ≠ [] := fun e => h3 (by rw [e1, e]; rfl)
  refine ⟨?_, ?_, ?_, ?_⟩
  · have : (bls ps).length = ps.length := by simp [bls]
    rw [← this, e3]
    exact List.length_pos_iff.2 hne
  · rw [e3]; exact hq
  · unfold prntL
    rw [if_pos ⟨h1, h3⟩, h]
  · rw [e3, e1, flat_dirOf hne]
theorem prnt_len {s : Str} {ps : List Str} (h : bls ps = pieces s.data.toList) (j : Nat) : (dirOf ((bls ps).take j)).length ≤ s.data.toList.length + 2 := by
  unfold dirOf
  split
  · simp
  · have h1 := flat_take (bls ps) j
    have h2 := flat_pieces s.data.toList
    rw [← h] at h2
    omega
theorem prnt_next {s d1 x : Str} {ps : List Str} (_h : bls ps = pieces s.data.toList) (hn : ∀ p ∈ bls ps, nmL p = true) {j : Nat} (hx : ps[j]? = some x) (hd : d1.data.toList = dirOf ((bls ps).take j)) : (joinS d1 x).data.toList = dirOf ((bls ps).take (j + 1)) := by
  have e : (bls ps)[j]? = some x.data.toList := by unfold bls; rw [List.getElem?_map, hx]; rfl
  rw [joinS_data, hd, dirOf_join fun p hp => hn p (List.mem_of_mem_take hp), List.take_add_one, e]
  rfl
theorem prnt_d {ps : List Str} {j : Nat} (h : j + 1 = ps.length) : dirOf ((bls ps).take j) = dirOf (bls ps).dropLast := by
  have hl : (bls ps).length = ps.length := by simp [bls]
  rw [List.dropLast_eq_take, hl, show ps.length - 1 = j by omega]
theorem prnt_n {ps : List Str} {x : Str} (h : ps[ps.length - 1]? = some x) : x.data.toList = (bls ps).getLastD [] := by
  have hl : (bls ps).length = ps.length := by simp [bls]
  have e : (bls ps)[(bls ps).length - 1]? = some x.data.toList := by rw [hl]; unfold bls; rw [List.getElem?_map, h]; rfl
  rw [List.getLastD_eq_getLast?, List.getLast?_eq_getElem?, e]
  rfl
section
set_option maxRecDepth 10000
set_option maxHeartbeats 1000000
theorem Rsplit (s : Str) (hs : s.size ≤ 100000) : AFn Try.prog 65 [.v (.string s)] (fun r => ∃ ps : List Str, bls ps = pieces s.data.toList ∧ r = .tup [.sl 1 (ps.map strA) none, .v (.bool (hdL s)), .v (.bool (lsL s))]) := by
  have hsz := Lib.size_eq s
  refine enter Try.func65 rfl rfl rfl rfl rfl 0 rfl ?_
  refine w_ (a_ (h:=a_ (h:=a_ (h:=e_ (w_ (a_ (h:=e_ (w_ (a_ (h:=e_ (q_ (w_ (a_ (h:=e_ (aw_block (?_))))))))))))))))
  refine aw_nilTok 5 9 1 rfl (by repeat constructor) ?_
  refine aw_loopW (fun m t => ∃ (f k : Nat) (ps : List Str), k ≤ s.size + 1 ∧ f ≤ k ∧ ps.length ≤ k ∧ m = s.size + 1 - k ∧ SplitI s.data.toList f k (bls ps) ∧ t = ⟨look [(0, .v (.string s)), (5, .sl 1 (ps.map strA) (some 0)), (6, .v (.int .i64 (f : Int))), (7, .v (.int .i64 (k : Int)))], ⟨[], [(9, 1, ps.map strA)]⟩⟩) (s.size + 1) ((wk 0 1)) (⟨0, 0, [], by omega, by omega, by simp, rfl, splitI_start _, rfl⟩) ?_
  rintro m t ⟨f, k, ps, hk, hfk, hpl, rfl, hI, rfl⟩
  refine q_ (w_ (m_ (h:=m_ (h:=n_ (h:=le_ (h:=e_ (?_)))))))
  refine aw_cond rfl (fun hb1 => ?_) (fun hb1 => ?_)
  · have hc1 := bp hb1
    refine kt_ (q_ (aw_block (w_ (m_ (h:=m_ (h:=n_ (h:=eq_ (h:=m_ (h:=?_)))))))))
    refine al_gs false rfl rfl (fun hb2 => ?_) (fun hb2 => ?_)
    · have hc2 := bp hb2
      refine g0_ (h:=g0_ (h:=g0_ (h:=g0_ (h:=pt_ (h:=e_ (cy_ (h:=q_ (w_ (m_ (h:=m_ (h:=gt_ (h:=e_ (?_)))))))))))))
      refine aw_cond rfl (fun hb3 => ?_) (fun hb3 => ?_)
      · have hc3 := bp hb3
        have hnx := sp_app hI (by omega) (.inl (by omega)) (by omega)
        refine aw_region (m_ (h:=m_ (h:=m_ (h:=m_ (h:=?_)))))
        refine al_p rfl (st_sliceS (a := f) (k := k) Try.underlying9 rfl rfl rfl rfl rfl (by omega) (by omega) ?_)
        refine bs_ (h:=?_)
        first | refine al_p rfl (s_append rfl rfl rfl (by simp; omega) (by repeat constructor) ?_) | refine al_p rfl (s_append0 rfl rfl (by simp; omega) (by repeat constructor) ?_)
        refine a_ (h:=e_ (aw_region (m_ (h:=ad_ (h:=a_ (h:=al_nil (x_blockN (t_ (aw_region (m_ (h:=ad_ (h:=a_ (h:=al_nil (?_))))))))))))))
        refine x_then ?_
        refine ⟨_, _, ?_, ⟨_, k + 1, _, by omega, by omega, (by (try simp only [List.length_append, List.length_cons, List.length_nil]); omega), rfl, hnx, rfl⟩, (by (try simp only [List.map_append, List.map_cons, List.map_nil]); exact weak_of 0 1 rfl rfl rfl rfl ((by repeat (first | exact Sub.nil | refine Sub.cons _ _ _ rfl rfl ?_ | refine Sub.any _ _ ?_ | refine Sub.sl _ _ _ _ _ rfl ?_ | refine Sub.slnil _ _ _ rfl ?_))))⟩
        omega
      · have hc3 := bp hb3
        have hnx := sp_app0 hI (.inl (by omega)) (by omega)
        refine kt_ (aw_region (m_ (h:=ad_ (h:=a_ (h:=al_nil (x_blockN (t_ (aw_region (m_ (h:=ad_ (h:=a_ (h:=al_nil (?_)))))))))))))
        refine x_then ?_
        refine ⟨_, _, ?_, ⟨_, k + 1, _, by omega, by omega, (by (try simp only [List.length_append, List.length_cons, List.length_nil]); omega), rfl, hnx, rfl⟩, (by (try simp only [List.map_append, List.map_cons, List.map_nil]); exact weak_of 0 1 rfl rfl rfl rfl ((by repeat (first | exact Sub.nil | refine Sub.cons _ _ _ rfl rfl ?_ | refine Sub.any _ _ ?_ | refine Sub.sl _ _ _ _ _ rfl ?_ | refine Sub.slnil _ _ _ rfl ?_))))⟩
        omega
    · have hc2 := bp hb2
      refine m_ (h:=m_ (h:=?_))
      refine g_y (st_strIdx (n := k) Try.underlying9 rfl rfl rfl (by omega) ?_)
      refine eq_ (h:=pf_ (h:=e_ (?_)))
      refine aw_cond rfl (fun hb4 => ?_) (fun hb4 => ?_)
      · have hc4 := bp hb4
        refine q_ (w_ (m_ (h:=m_ (h:=gt_ (h:=e_ (?_))))))
        refine aw_cond rfl (fun hb5 => ?_) (fun hb5 => ?_)
        · have hc5 := bp hb5
          have hnx := sp_app hI (by omega) (.inr (byte_at (by omega) hc4)) (by omega)
          refine aw_region (m_ (h:=m_ (h:=m_ (h:=m_ (h:=?_)))))
          refine al_p rfl (st_sliceS (a := f) (k := k) Try.underlying9 rfl rfl rfl rfl rfl (by omega) (by omega) ?_)
          refine bs_ (h:=?_)
          first | refine al_p rfl (s_append rfl rfl rfl (by simp; omega) (by repeat constructor) ?_) | refine al_p rfl (s_append0 rfl rfl (by simp; omega) (by repeat constructor) ?_)
          refine a_ (h:=e_ (aw_region (m_ (h:=ad_ (h:=a_ (h:=al_nil (x_blockN (t_ (aw_region (m_ (h:=ad_ (h:=a_ (h:=al_nil (?_))))))))))))))
          refine x_then ?_
          refine ⟨_, _, ?_, ⟨_, k + 1, _, by omega, by omega, (by (try simp only [List.length_append, List.length_cons, List.length_nil]); omega), rfl, hnx, rfl⟩, (by (try simp only [List.map_append, List.map_cons, List.map_nil]); exact weak_of 0 1 rfl rfl rfl rfl ((by repeat (first | exact Sub.nil | refine Sub.cons _ _ _ rfl rfl ?_ | refine Sub.any _ _ ?_ | refine Sub.sl _ _ _ _ _ rfl ?_ | refine Sub.slnil _ _ _ rfl ?_))))⟩
          omega
        · have hc5 := bp hb5
          have hnx := sp_app0 hI (.inr (byte_at (by omega) hc4)) (by omega)
          refine kt_ (aw_region (m_ (h:=ad_ (h:=a_ (h:=al_nil (x_blockN (t_ (aw_region (m_ (h:=ad_ (h:=a_ (h:=al_nil (?_)))))))))))))
          refine x_then ?_
          refine ⟨_, _, ?_, ⟨_, k + 1, _, by omega, by omega, (by (try simp only [List.length_append, List.length_cons, List.length_nil]); omega), rfl, hnx, rfl⟩, (by (try simp only [List.map_append, List.map_cons, List.map_nil]); exact weak_of 0 1 rfl rfl rfl rfl ((by repeat (first | exact Sub.nil | refine Sub.cons _ _ _ rfl rfl ?_ | refine Sub.any _ _ ?_ | refine Sub.sl _ _ _ _ _ rfl ?_ | refine Sub.slnil _ _ _ rfl ?_))))⟩
          omega
      · have hc4 := bp hb4
        have hnx := sp_next hI (by omega) hc4
        refine aw_skip (x_blockN (t_ (aw_region (m_ (h:=ad_ (h:=a_ (h:=al_nil (?_))))))))
        refine x_then ?_
        refine ⟨_, _, ?_, ⟨_, k + 1, _, by omega, by omega, (by (try simp only [List.length_append, List.length_cons, List.length_nil]); omega), rfl, hnx, rfl⟩, (by (try simp only [List.map_append, List.map_cons, List.map_nil]); exact weak_of 0 1 rfl rfl rfl rfl ((by repeat (first | exact Sub.nil | refine Sub.cons _ _ _ rfl rfl ?_ | refine Sub.any _ _ ?_ | refine Sub.sl _ _ _ _ _ rfl ?_ | refine Sub.slnil _ _ _ rfl ?_))))⟩
        omega
  · have hc1 := bp hb1
    refine aw_exit (x_thenE (x_thenE (ABlock_out (t_ (q_ (yr_ 23 (h:=dm_ 0 (h:=dm_ 1 (h:=dn_ 2 (h:=dgt_ 3 (h:=dm_ 4 (h:=?_))))))))))))
    refine aa_both (j := 4) rfl (fun hb6 => ?_) (fun hb6 => ?_)
    · have hc6 := bp hb6
      refine dm_ 5 (h:=?_)
      refine r_y (i := 6) rfl (st_strIdx (n := 0) Try.underlying9 rfl rfl rfl (by omega) ⟨rfl, rfl⟩) ?_
      refine deq_ 7 (h:=dpt_ 8 (h:=dm_ 9 (h:=dn_ 10 (h:=dgt_ 11 (h:=dm_ 12 (h:=?_))))))
      refine aa_both (j := 12) rfl (fun hb7 => ?_) (fun hb7 => ?_)
      · have hc7 := bp hb7
        refine dm_ 13 (h:=dm_ 14 (h:=dn_ 15 (h:=dsb_ 16 (h:=?_))))
        refine r_y (i := 17) rfl (st_strIdx (n := s.size - 1) Try.underlying9 rfl rfl (by omega) (by omega) ⟨rfl, rfl⟩) ?_
        refine deq_ 18 (h:=dpt_ 19 (h:=da_ 20 (h:=da_ 21 (h:=da_ 22 (h:=z_ (h:=t_ (aw_ret (?_))))))))
        refine e_ret ?_
        refine ⟨ps, splitI_done hI (by omega), ?_⟩
        first | (rw [hd_pos (by omega), ls_pos (by omega)]; rfl) | (rw [hd_nil (by omega), ls_nil (by omega)]; rfl) | (exfalso; omega)
      · have hc7 := bp hb7
        refine d0_ 13 (h:=d0_ 14 (h:=d0_ 15 (h:=d0_ 16 (h:=d0_ 17 (h:=d0_ 18 (h:=dpf_ 19 (h:=da_ 20 (h:=da_ 21 (h:=da_ 22 (h:=z_ (h:=t_ (aw_ret (?_)))))))))))))
        refine e_ret ?_
        refine ⟨ps, splitI_done hI (by omega), ?_⟩
        first | (rw [hd_pos (by omega), ls_pos (by omega)]; rfl) | (rw [hd_nil (by omega), ls_nil (by omega)]; rfl) | (exfalso; omega)
    · have hc6 := bp hb6
      refine d0_ 5 (h:=d0_ 6 (h:=d0_ 7 (h:=dpf_ 8 (h:=dm_ 9 (h:=dn_ 10 (h:=dgt_ 11 (h:=dm_ 12 (h:=?_))))))))
      refine aa_both (j := 12) rfl (fun hb8 => ?_) (fun hb8 => ?_)
      · have hc8 := bp hb8
        refine dm_ 13 (h:=dm_ 14 (h:=dn_ 15 (h:=dsb_ 16 (h:=?_))))
        refine r_y (i := 17) rfl (st_strIdx (n := s.size - 1) Try.underlying9 rfl rfl (by omega) (by omega) ⟨rfl, rfl⟩) ?_
        refine deq_ 18 (h:=dpt_ 19 (h:=da_ 20 (h:=da_ 21 (h:=da_ 22 (h:=z_ (h:=t_ (aw_ret (?_))))))))
        refine e_ret ?_
        refine ⟨ps, splitI_done hI (by omega), ?_⟩
        first | (rw [hd_pos (by omega), ls_pos (by omega)]; rfl) | (rw [hd_nil (by omega), ls_nil (by omega)]; rfl) | (exfalso; omega)
      · have hc8 := bp hb8
        refine d0_ 13 (h:=d0_ 14 (h:=d0_ 15 (h:=d0_ 16 (h:=d0_ 17 (h:=d0_ 18 (h:=dpf_ 19 (h:=da_ 20 (h:=da_ 21 (h:=da_ 22 (h:=z_ (h:=t_ (aw_ret (?_)))))))))))))
        refine e_ret ?_
        refine ⟨ps, splitI_done hI (by omega), ?_⟩
        first | (rw [hd_pos (by omega), ls_pos (by omega)]; rfl) | (rw [hd_nil (by omega), ls_nil (by omega)]; rfl) | (exfalso; omega)

theorem Rclean (s : Str) (hs : s.size ≤ 50000) : AFn Try.prog 34 [.v (.string s)] (fun r => r = .v (.bool (cleanL s.data.toList))) := by
  have hsz := Lib.size_eq s
  refine enter Try.func34 rfl rfl rfl rfl rfl 0 rfl ?_
  refine w_ (a_ (h:=e_ (w_ (m_ (h:=?_)))))
  refine al_p rfl (q_call (Rsplit s (by omega)) ?_)
  rintro r ⟨ps, hps, rfl⟩
  have hpl : (ps.map strA).length = ps.length := by simp
  have hfl := flat_pieces s.data.toList
  rw [← hps] at hfl
  have hpm := ps_len ps
  refine m_ (h:=x_ (h:=x_ (h:=x_ (h:=a_ (h:=a_ (h:=a_ (h:=e_ (w_ (a_ (h:=e_ (q_ (w_ (a_ (h:=e_ (aw_block (?_))))))))))))))))
  refine aw_loopW (fun m t => ∃ (j : Nat) (t1 : Str), j ≤ ps.length ∧ m = ps.length - j ∧ (∀ i y, i < j → ps[i]? = some y → nameL y = true) ∧ t1.data.toList = flatS ((bls ps).take j) ∧ t = ⟨look [(0, .v (.string s)), (3, .sl 1 (ps.map strA) none), (6, .v (.string t1)), (7, .v (.int .i64 (j : Int)))], ⟨[], []⟩⟩) (ps.length) ((wk 0 0)) (⟨0, ⟨#[]⟩, by omega, rfl, fun i y hi => by omega, rfl, rfl⟩) ?_
  rintro m t ⟨j, t1, hj, rfl, ha, ht1, rfl⟩
  refine q_ (w_ (m_ (h:=m_ (h:=n_ (h:=lt_ (h:=e_ (?_)))))))
  refine aw_cond rfl (fun hb1 => ?_) (fun hb1 => ?_)
  · have hc1 := bp hb1
    obtain ⟨hlt, x, hy, hrow, -⟩ := row_at strA hc1
    have ht2 : t1.size ≤ s.size + 1 := by rw [Lib.size_eq, ht1]; exact Nat.le_trans (flat_take _ _) (by omega)
    refine kt_ (q_ (aw_block (q_ (w_ (m_ (h:=m_ (h:=?_)))))))
    refine al_p rfl (st_index (n := j) rfl rfl rfl hrow ?_)
    refine l_ (h:=?_)
    refine al_p rfl (q_call (Rname x (by have := piece_mem hps hy; omega)) ?_)
    rintro r rfl
    refine nt_ (h:=e_ (?_))
    refine aw_cond rfl (fun hb2 => ?_) (fun hb2 => ?_)
    · have hc2 := bp hb2
      refine w_ (a_ (h:=e_ (aw_ret (x_thenR (x_blockR (x_thenR (x_thenR (x_blockR (x_thenR (?_))))))))))
      refine e_ret ?_
      exact vb (clean_no hps hy hc2).symm
    · have hc2 := bp hb2
      refine kt_ (aw_region (m_ (h:=m_ (h:=m_ (h:=?_)))))
      refine al_p rfl (st_index (n := j) rfl rfl rfl hrow ?_)
      refine l_ (h:=?_)
      refine al_p rfl (st_addS rfl rfl (by have := piece_mem hps hy; show 1 + x.size ≤ _; omega) ?_)
      refine al_p rfl (st_addS rfl rfl (by have := piece_mem hps hy; rw [ByteArray.size_append]; show t1.size + (1 + x.size) ≤ _; omega) ?_)
      refine a_ (h:=al_nil (x_blockN (t_ (aw_region (m_ (h:=ad_ (h:=a_ (h:=al_nil (?_)))))))))
      refine x_then ?_
      refine ⟨_, _, ?_, ⟨j + 1, t1 ++ (⟨#[47]⟩ ++ x), by omega, rfl, upto_snoc hy ha hc2, flat_next hy ht1, rfl⟩, (wk 0 0)⟩
      omega
  · have hc1 := bp hb1
    refine aw_exit (x_thenE (x_thenE (ABlock_out (t_ (w_ (m_ (h:=eq_ (h:=m_ (h:=?_)))))))))
    refine al_gs false rfl rfl (fun hb3 => ?_) (fun hb3 => ?_)
    · have hc3 := bp hb3
      refine g0_ (h:=g0_ (h:=g0_ (h:=g0_ (h:=gu_ (h:=gu_ (h:=gu_ (h:=g0_ (h:=pt_ (h:=a_ (h:=e_ (aw_ret (?_))))))))))))
      refine e_ret ?_
      exact vb (by rw [hc3]; rfl)
    · have hc3 := bp hb3
      refine m_ (h:=n_ (h:=gt_ (h:=m_ (h:=?_))))
      refine al_gs true rfl rfl (fun hb4 => ?_) (fun hb4 => ?_)
      · have hc4 := bp hb4
        refine m_ (h:=m_ (h:=eq_ (h:=pt_ (h:=pf_ (h:=a_ (h:=e_ (aw_ret (?_))))))))
        refine e_ret ?_
        have e := row_no strA hj hc1
        subst e
        exact vb (clean_res hps ha ht1 hc3 (by omega)).symm
      · have hc4 := bp hb4
        refine g0_ (h:=g0_ (h:=g0_ (h:=pf_ (h:=pf_ (h:=a_ (h:=e_ (aw_ret (?_))))))))
        refine e_ret ?_
        have e := row_no strA hj hc1
        subst e
        exact vb (clean_nil hps hc3 (by omega)).symm

theorem RprntP (s : Str) (hs : s.size ≤ 50000) : AFn Try.prog 35 [.v (.string s)] (fun r => ∃ d n : Str, d.data.toList = (prntL s.data.toList).1 ∧ n.data.toList = (prntL s.data.toList).2.1 ∧ r = .tup [.v (.string d), .v (.string n), .v (.bool (prntL s.data.toList).2.2)]) := by
  have hsz := Lib.size_eq s
  refine enter Try.func35 rfl rfl rfl rfl rfl 0 rfl ?_
  refine w_ (a_ (h:=a_ (h:=a_ (h:=e_ (q_ (w_ (m_ (h:=?_))))))))
  refine al_p rfl (q_call (Rclean s hs) ?_)
  rintro r rfl
  refine nt_ (h:=m_ (h:=?_))
  refine al_gs false rfl rfl (fun hb1 => ?_) (fun hb1 => ?_)
  · have hc1 := bp hb1
    refine g0_ (h:=g0_ (h:=pt_ (h:=e_ (cy_ (h:=w_ (a_ (h:=a_ (h:=a_ (h:=e_ (aw_ret (x_thenR (?_))))))))))))
    refine e_ret ?_
    have e := prnt_no (.inl hc1)
    exact ⟨⟨#[]⟩, ⟨#[]⟩, by rw [e], by rw [e], by rw [e]; rfl⟩
  · have hc1 := bp hb1
    refine m_ (h:=eq_ (h:=pf_ (h:=e_ (?_))))
    refine aw_cond rfl (fun hb2 => ?_) (fun hb2 => ?_)
    · have hc2 := bp hb2
      refine w_ (a_ (h:=a_ (h:=a_ (h:=e_ (aw_ret (x_thenR (?_)))))))
      refine e_ret ?_
      have e := prnt_no (l := s.data.toList) (.inr (by rw [hc2]))
      exact ⟨⟨#[]⟩, ⟨#[]⟩, by rw [e], by rw [e], by rw [e]; rfl⟩
    · have hc2 := bp hb2
      refine kt_ (w_ (m_ (h:=?_)))
      refine al_p rfl (q_call (Rsplit s (by omega)) ?_)
      rintro r ⟨ps, hps, rfl⟩
      have hpl : (ps.map strA).length = ps.length := by simp
      have hfl := flat_pieces s.data.toList
      rw [← hps] at hfl
      have hpm := ps_len ps
      obtain ⟨hp1, hp2, hp3, hp4⟩ := prnt_yes hps hc1 hc2
      refine m_ (h:=x_ (h:=x_ (h:=x_ (h:=a_ (h:=a_ (h:=a_ (h:=e_ (w_ (a_ (h:=e_ (q_ (w_ (a_ (h:=e_ (aw_block (?_))))))))))))))))
      refine aw_loopW (fun m t => ∃ (j : Nat) (d1 : Str), j + 1 ≤ ps.length ∧ m = ps.length - j ∧ d1.data.toList = dirOf ((bls ps).take j) ∧ t = ⟨look [(5, .sl 1 (ps.map strA) none), (8, .v (.string d1)), (9, .v (.int .i64 (j : Int)))], ⟨[], []⟩⟩) (ps.length) ((wk 0 0)) (⟨0, ⟨#[47]⟩, by omega, rfl, rfl, rfl⟩) ?_
      rintro m t ⟨j, d1, hj, rfl, hd1, rfl⟩
      refine q_ (w_ (m_ (h:=ad_ (h:=m_ (h:=n_ (h:=lt_ (h:=e_ (?_))))))))
      refine aw_cond rfl (fun hb3 => ?_) (fun hb3 => ?_)
      · have hc3 := bp hb3
        obtain ⟨hlt, x, hy, hrow, -⟩ := row_at (l := ps) (k := j) strA (by omega)
        have hds : d1.size ≤ s.size + 2 := by rw [Lib.size_eq, hd1, Lib.size_eq s]; exact prnt_len hps j
        refine kt_ (q_ (aw_block (aw_region (m_ (h:=m_ (h:=m_ (h:=?_)))))))
        refine al_p rfl (st_index (n := j) rfl rfl rfl hrow ?_)
        refine l_ (h:=?_)
        refine al_p rfl (q_call (RjoinR d1 x (by omega) (by have := piece_mem hps hy; omega)) ?_)
        rintro r rfl
        refine a_ (h:=al_nil (x_blockN (t_ (aw_region (m_ (h:=ad_ (h:=a_ (h:=al_nil (?_)))))))))
        refine x_then ?_
        refine ⟨_, _, ?_, ⟨j + 1, _, by omega, rfl, prnt_next hps hp2 hy hd1, rfl⟩, (wk 0 0)⟩
        omega
      · have hc3 := bp hb3
        obtain ⟨hlt9, x9, hy9, hrow9, -⟩ := row_at (l := ps) (k := ps.length - 1) strA (by omega)
        refine aw_exit (x_thenE (x_thenE (ABlock_out (t_ (q_ (yr_ 10 (h:=dm_ 0 (h:=dm_ 1 (h:=dm_ 2 (h:=dn_ 3 (h:=dsb_ 4 (h:=?_))))))))))))
        refine r_y (i := 5) rfl (st_index (n := ps.length - 1) rfl rfl (by omega) hrow9 ⟨rfl, rfl⟩) ?_
        refine dl_ 6 (h:=da_ 7 (h:=da_ 8 (h:=da_ 9 (h:=z_ (h:=t_ (aw_ret (?_)))))))
        refine e_ret ?_
        exact ⟨d1, x9, by rw [hp3, hd1]; exact prnt_d (by omega), by rw [hp3]; exact prnt_n hy9, by rw [hp3]; rfl⟩

end
end Go.Proofs.Ytgliiknfmlmddaa
namespace Go.Proofs.Ytgliiknfmlmddaa
open Go.RowKit

theorem dir_ino {f : Fls} {a : Fil} (h : dirL f a = true) : (nodG f a).ino = a.2 := by
  obtain ⟨q, d, m, _, _, _, h4, h5, _⟩ := dir_node (f := f) (a := a) (by rw [h]; simp)
  rw [h5, h4]
theorem on_get {s : Spc} {d : Int} (h : (onL s d).isSome = true) : onL s d = some ((onL s d).getD (0, 0)) := by
  cases ho : onL s d with
  | none => rw [ho] at h; cases h
  | some o => rfl
theorem on_no {s : Spc} {d : Int} (h : (onL s d).isSome = false) : onL s d = none := by
  cases ho : onL s d with
  | none => rfl
  | some o => rw [ho] at h; cases h
theorem up_no {s : Spc} {a : Fil} (k : Nat) (h : dirL s.files a = false) : upF s (k + 1) a = (0, 0) := by unfold upF; rw [h]; rfl
theorem up_in {s : Spc} {a : Fil} (k : Nat) (h : dirL s.files a = true) (h1 : ¬ a.2 = 1) : upF s (k + 1) a = (a.1, (nodG s.files a).parent) := by unfold upF; rw [if_pos h, if_pos h1]
theorem up_on {s : Spc} {a : Fil} (k : Nat) (h : dirL s.files a = true) (h1 : a.2 = 1) (ho : (onL s a.1).isSome = true) : upF s (k + 1) a = upF s k ((onL s a.1).getD (0, 0)) := by
  conv => lhs; unfold upF
  rw [if_pos h, if_neg (by simpa using h1), on_get ho]
  rfl
theorem up_root {s : Spc} {a : Fil} (k : Nat) (h : dirL s.files a = true) (h1 : a.2 = 1) (ho : (onL s a.1).isSome = false) : upF s (k + 1) a = a := by
  conv => lhs; unfold upF
  rw [if_pos h, if_neg (by simpa using h1), on_no ho]
section
set_option maxRecDepth 10000
set_option maxHeartbeats 1000000
theorem PupS {s : Spc} (hs : SpcB s) (hv : SpcV s) (a : Fil) : AFn Try.prog 30 [.agg (spcA s), .agg (filA a)] (fun r => r = .agg (filA (upF s (s.mounts.length + 1) a))) := by
  have hfew := hs.few
  have hml : (s.mounts.map mntA).length = s.mounts.length := by simp
  refine enter Try.func30 rfl rfl rfl rfl rfl 0 rfl ?_
  refine w_ (b_ (h:=b_ (h:=al_ (h:=e_ (q_ (w_ (f_ (h:=l_ (h:=n_ (h:=ad_ (h:=m_ (h:=e_ (aw_block (?_))))))))))))))
  refine aw_loopW (fun m t => ∃ (j : Nat) (b : Fil), j ≤ s.mounts.length + 1 ∧ m = s.mounts.length + 1 - j ∧ upF s (s.mounts.length + 1 - j) b = upF s (s.mounts.length + 1) a ∧ t = ⟨look [(2, .bp 0 0), (3, .bp 1 0), (4, .bp 2 0), (11, .v (.int .i64 (((s.mounts.map mntA).length : Int) + 1))), (12, .v (.int .i64 (j : Int)))], ⟨[spcA s, filA b, [.v (.int .i64 0), .v (.int .i64 0)]], []⟩⟩) (s.mounts.length + 1) ((wk 3 0)) (⟨0, a, by omega, rfl, rfl, rfl⟩) ?_
  rintro m t ⟨j, b, hj, rfl, hit, rfl⟩
  have hde := dirL_eq s.files b
  refine w_ (lt_ (h:=e_ (q_ (?_))))
  refine aw_cond rfl (fun hb1 => ?_) (fun hb1 => ?_)
  · have hc1 := bp hb1
    obtain ⟨k, hk⟩ : ∃ k, s.mounts.length + 1 - j = k + 1 := ⟨s.mounts.length - j, by omega⟩
    rw [hk] at hit
    refine kt_ (q_ (aw_block (w_ (f_ (h:=l_ (h:=l_ (h:=?_)))))))
    refine al_p rfl (q_call (Pnode s.files b hs.files) ?_)
    rintro r rfl
    refine m_ (h:=x_ (h:=x_ (h:=al_ (h:=s_ (h:=a_ (h:=e_ (q_ (w_ (m_ (h:=nt_ (h:=m_ (h:=?_))))))))))))
    refine al_gs false rfl rfl (fun hb2 => ?_) (fun hb2 => ?_)
    · have hc2 := bp hb2
      refine g0_ (h:=g0_ (h:=g0_ (h:=pt_ (h:=e_ (cy_ (h:=w_ (bd_ (h:=s_ (h:=e_ (aw_ret (x_thenR (x_blockR (x_thenR (x_thenR (x_blockR (x_thenR (?_)))))))))))))))))
      refine e_ret ?_
      rw [← hit, up_no k (by rw [hde, hc2]; rfl)]
      rfl
    · have hc2 := bp hb2
      refine f_ (h:=l_ (h:=nq_ (h:=pf_ (h:=e_ (?_)))))
      refine aw_cond rfl (fun hb3 => ?_) (fun hb3 => ?_)
      · have hc3 := bp hb3
        refine w_ (bd_ (h:=s_ (h:=e_ (aw_ret (x_thenR (x_blockR (x_thenR (x_thenR (x_blockR (x_thenR (?_)))))))))))
        refine e_ret ?_
        rw [← hit, up_no k (by rw [hde, decide_eq_false hc3, Bool.and_false])]
        rfl
      · have hc3 := bp hb3
        refine kt_ (q_ (w_ (f_ (h:=l_ (h:=nq_ (h:=e_ (?_)))))))
        refine aw_cond rfl (fun hb4 => ?_) (fun hb4 => ?_)
        · have hc4 := bp hb4
          have hdd : dirL s.files b = true := by rw [hde, hc2, decide_eq_true hc3]; rfl
          have hb1 : ¬ b.2 = 1 := by rw [← dir_ino hdd]; exact hc4
          refine w_ (f_ (h:=l_ (h:=f_ (h:=l_ (h:=bd_ (h:=s_ (h:=e_ (aw_ret (x_thenR (x_blockR (x_thenR (x_thenR (x_blockR (x_thenR (?_)))))))))))))))
          refine e_ret ?_
          rw [← hit, up_in k hdd hb1]
          rfl
        · have hc4 := bp hb4
          have hdd : dirL s.files b = true := by rw [hde, hc2, decide_eq_true hc3]; rfl
          have hb1 : b.2 = 1 := by rw [← dir_ino hdd]; exact hc4
          refine kt_ (w_ (l_ (h:=f_ (h:=l_ (h:=?_)))))
          refine al_p rfl (q_call (Pplace s b.1 hs) ?_)
          rintro r rfl
          refine m_ (h:=x_ (h:=x_ (h:=al_ (h:=s_ (h:=a_ (h:=e_ (q_ (w_ (m_ (h:=nt_ (h:=m_ (h:=?_))))))))))))
          refine al_gs false rfl rfl (fun hb5 => ?_) (fun hb5 => ?_)
          · have hc5 := bp hb5
            refine g0_ (h:=g0_ (h:=g0_ (h:=pt_ (h:=e_ (cy_ (h:=w_ (l_ (h:=s_ (h:=e_ (aw_ret (x_thenR (x_blockR (x_thenR (x_thenR (x_blockR (x_thenR (?_)))))))))))))))))
            refine e_ret ?_
            rw [← hit, up_root k hdd hb1 hc5]
            rfl
          · have hc5 := bp hb5
            refine f_ (h:=l_ (h:=eq_ (h:=pf_ (h:=e_ (?_)))))
            refine aw_cond rfl (fun hb6 => ?_) (fun hb6 => ?_)
            · have hc6 := bp hb6
              refine w_ (l_ (h:=s_ (h:=e_ (aw_ret (x_thenR (x_blockR (x_thenR (x_thenR (x_blockR (x_thenR (?_)))))))))))
              refine e_ret ?_
              exfalso
              rw [hc6, on_zero hv] at hc5
              cases hc5
            · have hc6 := bp hb6
              refine kt_ (aw_region (l_ (h:=s_ (h:=al_nil (x_blockN (t_ (aw_region (ad_ (h:=m_ (h:=al_nil (?_)))))))))))
              refine x_then ?_
              refine ⟨_, _, ?_, ⟨j + 1, ((onL s b.1).getD (0, 0)), by omega, rfl, (by rw [← hit, up_on k hdd hb1 hc5, show s.mounts.length + 1 - (j + 1) = k by omega]), rfl⟩, (wk 3 0)⟩
              omega
  · have hc1 := bp hb1
    refine aw_exit (x_thenE (x_thenE (ABlock_out (t_ (w_ (l_ (h:=s_ (h:=e_ (aw_ret (?_))))))))))
    refine e_ret ?_
    have ej : s.mounts.length + 1 - j = 0 := by omega
    rw [ej] at hit
    rw [← hit]
    rfl

end
end Go.Proofs.Ytgliiknfmlmddaa
namespace Go.Proofs.Ytgliiknfmlmddaa

section
variable {s : Spc} (hv : SpcV s)
include hv
theorem nm_ok {x : Fil} (h : dirL s.files x = true) (h1 : x.2 ≠ 1) : nameL (nmoL s x) = true := by
  obtain ⟨q, d, m, e1, e2, e3, e4, e5, e6⟩ := dir_node (f := s.files) (a := x) (by rw [h]; simp)
  have hd := hv.files.vd d (List.mem_of_getElem? e2)
  obtain ⟨p, hp, hpi, e, he, hei⟩ := hd.par m e3 (by rw [e4]; exact h1) e6
  have hab : abvL s x = p := by
    unfold abvL nodG
    rw [show (nodeL s.files x).getD Nod.zero = m from e5, e1, node_in hv e2 hp hpi]
    rfl
  unfold nmoL
  rw [hab]
  cases hf : p.entries.find? fun e : Ent => decide (e.2 = x.2) with
  | none =>
    have := List.find?_eq_none.1 hf e he
    simp only [decide_eq_true_eq] at this
    exact absurd (by rw [hei, e4]) this
  | some e' => exact (hd.ent p hp e' (List.mem_of_find?_eq_some hf)).1
omit hv in
theorem where_ok {a : Fil} (h : (whereP s a).2 = true) : dirL s.files a = true ∧ mtdL s a.1 = true := by
  unfold whereP at h
  split at h
  · rename_i c; exact ⟨c.1, c.2.1⟩
  · cases h
theorem path_dirs {a : Fil} (h : dirL s.files a = true) (hm : mtdL s a.1 = true) : (∀ p ∈ bls (accW s ((chainP s (mostL s.files) a).takeWhile fun x => decide (x ≠ (0, 1)))).reverse, nmL p = true) ∧
    (whereP s a).1.data.toList = dirOf (bls (accW s ((chainP s (mostL s.files) a).takeWhile fun x => decide (x ≠ (0, 1)))).reverse) := by
  have key : ∀ (l : List Str) (d : Str), (l.foldl joinS d).data.toList = (bls l).foldl joinL d.data.toList := by
    intro l
    induction l with
    | nil => intro d; rfl
    | cons x l ih => intro d; rw [List.foldl_cons, ih, joinS_data]; rfl
  have hn : ∀ p ∈ bls (accW s ((chainP s (mostL s.files) a).takeWhile fun x => decide (x ≠ (0, 1)))).reverse, nmL p = true := by
    intro p hp
    obtain ⟨x, hx, rfl⟩ := List.mem_map.1 hp
    rw [List.mem_reverse] at hx
    obtain ⟨y, hy, rfl⟩ := List.mem_map.1 hx
    obtain ⟨hy1, hy2⟩ := List.mem_filter.1 hy
    rw [← nameL_eq]
    exact nm_ok hv (within_dir hv ((List.takeWhile_sublist _).subset hy1)) (of_decide_eq_true hy2)
  refine ⟨hn, ?_⟩
  rw [where_yes hv h hm]
  show (pathW s _).data.toList = _
  unfold pathW
  rw [key]
  exact foldl_join _ hn
omit hv in
theorem root_count (d : Dvc) (hd : VD d) (q : Int) : ((d.nodes.map fun n => (q, n.ino)).filter fun x : Fil => decide (x.2 ≠ 1)).length ≤ 15 := by
  obtain ⟨r, rest, hr, h1, _⟩ := hd.root
  have hl := hd.len
  rw [hr] at hl ⊢
  rw [List.map_cons, List.filter_cons]
  simp only [h1, ne_eq, not_true_eq_false, decide_false, Bool.false_eq_true, if_false]
  refine Nat.le_trans (List.length_filter_le _ _) ?_
  rw [List.length_map]
  simp only [List.length_cons] at hl
  omega
omit hv in
theorem all_count : ∀ (f : Fls) (q : Nat), (∀ d ∈ f, VD d) → ((allN q f).filter fun x : Fil => decide (x.2 ≠ 1)).length ≤ 15 * f.length
  | [], _, _ => by simp [allN]
  | d :: f, q, h => by
    have h1 := all_count f (q + 1) fun x hx => h x (List.mem_cons_of_mem _ hx)
    have h2 := root_count d (h d (List.mem_cons_self ..)) (q : Int)
    rw [allN, List.filter_append, List.length_append, List.length_cons]
    omega
theorem acc_len (a : Fil) : (accW s ((chainP s (mostL s.files) a).takeWhile fun x => decide (x ≠ (0, 1)))).length ≤ 45 := by
  unfold accW
  rw [List.length_map]
  refine Nat.le_trans (m := ((allN 0 s.files).filter fun x : Fil => decide (x.2 ≠ 1)).length) ?_ (Nat.le_trans (all_count s.files 0 hv.files.vd) (by have := hv.files.few; omega))
  refine nodup_le (((chain_nodup hv _ a (ends_most hv a)).sublist (List.takeWhile_sublist _)).filter _) fun x hx => ?_
  obtain ⟨hx1, hx2⟩ := List.mem_filter.1 hx
  refine List.mem_filter.2 ⟨?_, hx2⟩
  obtain ⟨hd, _⟩ := chain_mem hv _ a x (ends_most hv a) ((List.takeWhile_sublist _).subset hx1)
  obtain ⟨q, d, m, h1, h2, h3, h4, _⟩ := dir_node hd
  have := allN_mem s.files 0 q d m h2 h3
  rw [Nat.zero_add, h4, ← h1] at this
  exact this
omit hv in
theorem flat_bound : ∀ (ps : List Bs), (∀ p ∈ ps, nmL p = true) → (flatS ps).length ≤ 13 * ps.length
  | [], _ => by simp [flatS]
  | p :: ps, h => by
    have h1 := flat_bound ps fun q hq => h q (List.mem_cons_of_mem _ hq)
    have h2 := (nmL_iff.1 (h p (List.mem_cons_self ..))).2.1
    rw [flatS_cons]
    simp only [List.length_cons, List.length_append]
    omega
theorem path_clean {a : Fil} (h : (whereP s a).2 = true) : cleanL (whereP s a).1.data.toList = true ∧ (whereP s a).1.size ≤ 585 := by
  obtain ⟨h1, h2⟩ := where_ok h
  obtain ⟨hn, e⟩ := path_dirs hv h1 h2
  have hl := acc_len hv a
  refine ⟨by rw [e]; exact dirOf_clean hn, ?_⟩
  rw [Lib.size_eq, e]
  unfold dirOf
  split
  · simp
  · refine Nat.le_trans (flat_bound _ hn) ?_
    unfold bls
    rw [List.length_map, List.length_reverse]
    omega
theorem root_dir {d : Int} (h0 : 0 ≤ d) (h1 : d < (s.files.length : Int)) : dirL s.files (d, 1) = true := by
  obtain ⟨q, rfl⟩ := Int.eq_ofNat_of_zero_le h0
  have hq : s.files[q]? = some s.files[q] := List.getElem?_eq_getElem (by omega)
  obtain ⟨r, rest, hr, h2, h3, _⟩ := (hv.files.vd _ (List.mem_of_getElem? hq)).root
  exact (dir_kind (node_in hv hq (by rw [hr]; exact List.mem_cons_self ..) h2)).2 h3
theorem down_path : ∀ (n : Nat) (a : Fil), (whereP s a).2 = true → whereP s (itD s n a) = whereP s a := by
  intro n
  induction n with
  | zero => intro a _; rfl
  | succ n ih =>
    intro a h
    rw [itD]
    have e : whereP s (stepD s a) = whereP s a := by
      cases hc : covL s a with
      | none => rw [stepD_none (by rw [hc]; rfl)]
      | some d =>
        obtain ⟨i, hi⟩ := cov_mem hc
        have hm := hv.mnt i _ hi
        have h1 := hm.dev1
        have h2 := hm.dev2
        simp only at h1 h2
        have hs : stepR s (d, 1) = some a := by
          unfold stepR
          rw [if_neg (by simp)]
          exact on_of hv hi
        obtain ⟨w1, w2⟩ := where_step hv (a := (d, 1)) (root_dir hv (by omega) h2) (mtd_mem (s := s) (m := (d, a)) (List.mem_of_getElem? hi)) (fun e => by injection e with e; omega) hs
        rw [show stepD s a = (d, 1) by unfold stepD; rw [hc], w1]
        simp only [if_true]
        rw [← w2]
    rw [ih _ (by rw [e]; exact h), e]
theorem up_path : ∀ (k : Nat) (a : Fil), posM s a.1 < k → (whereP s a).2 = true → (whereP s (upF s k a)).2 = true ∧ ∃ ns : List Bs, (∀ p ∈ ns, nmL p = true) ∧ (whereP s a).1.data.toList = dirOf ns ∧ (whereP s (upF s k a)).1.data.toList = dirOf ns.dropLast := by
  intro k
  induction k with
  | zero => intro a h; omega
  | succ k ih =>
    intro a hk h
    obtain ⟨hd, hm⟩ := where_ok h
    by_cases h1 : a.2 = 1
    · cases ho : onL s a.1 with
      | none =>
        have h0 : a = (0, 1) := by
          refine Prod.ext ?_ h1
          unfold mtdL at hm
          rw [ho] at hm
          simpa using hm
        rw [up_root k hd h1 (by rw [ho]; rfl)]
        refine ⟨h, [], fun p hp => (by cases hp), ?_, ?_⟩
        · rw [h0, where_root hv (by rw [← h0]; exact hd)]; rfl
        · rw [h0, where_root hv (by rw [← h0]; exact hd)]; rfl
      | some on =>
        have hs : stepR s a = some on := by unfold stepR; rw [if_neg (by simpa using h1)]; exact ho
        obtain ⟨w1, w2⟩ := where_step hv hd hm (fun e => by rw [e, on_zero hv] at ho; cases ho) hs
        rw [up_on k hd h1 (by rw [ho]; rfl), ho]
        obtain ⟨u1, ns, u2, u3, u4⟩ := ih on (by have := pos_on hv ho; omega) w2
        refine ⟨u1, ns, u2, ?_, u4⟩
        rw [w1]
        simp only [h1, if_true]
        exact u3
    · have hs : stepR s a = some (a.1, (nodG s.files a).parent) := if_pos h1
      obtain ⟨w1, w2⟩ := where_step hv hd hm (fun e => h1 (by rw [e])) hs
      rw [up_in k hd h1]
      obtain ⟨p1, p2⟩ := where_ok (s := s) w2
      obtain ⟨hn, e⟩ := path_dirs hv p1 p2
      refine ⟨w2, bls (accW s ((chainP s (mostL s.files) (a.1, (nodG s.files a).parent)).takeWhile fun x => decide (x ≠ (0, 1)))).reverse ++ [(nmoL s a).data.toList], ?_, ?_, ?_⟩
      · intro p hp
        rcases List.mem_append.1 hp with hp | hp
        · exact hn p hp
        · rw [List.mem_singleton.1 hp, ← nameL_eq]; exact nm_ok hv hd h1
      · rw [w1]
        simp only [h1, if_false]
        rw [joinS_data, e, dirOf_join hn]
      · rw [List.dropLast_concat]; exact e
theorem up_prnt {k : Nat} {a : Fil} (hk : posM s a.1 < k) (h : (whereP s a).2 = true) {d : Str} (hd : d.data.toList = (prntL (whereP s a).1.data.toList).1) : (whereP s (upF s k a)).2 = true ∧ ((prntL (whereP s a).1.data.toList).2.2 = true → d = (whereP s (upF s k a)).1) ∧ ((prntL (whereP s a).1.data.toList).2.2 = false → (whereP s (upF s k a)).1 = ⟨#[47]⟩) := by
  obtain ⟨u1, ns, u2, u3, u4⟩ := up_path hv k a hk h
  refine ⟨u1, ?_⟩
  rw [u3] at hd ⊢
  by_cases hne : ns = []
  · subst hne
    have e : prntL (dirOf []) = ([], [], false) := prnt_no (.inr rfl)
    rw [e]
    exact ⟨fun h => (by cases h), fun _ => str_ext u4⟩
  · have e : prntL (dirOf ns) = (dirOf ns.dropLast, ns.getLastD [], true) := by
      unfold prntL
      rw [if_pos ⟨dirOf_clean u2, by rw [flat_dirOf hne]; exact flatS_root u2 hne⟩, flat_dirOf hne, pieces_flat u2]
    rw [e] at hd ⊢
    exact ⟨fun _ => str_ext (hd.trans u4.symm), fun h => (by cases h)⟩
end
end Go.Proofs.Ytgliiknfmlmddaa
namespace Go.Proofs.Ytgliiknfmlmddaa
open Go.RowKit

section
set_option maxRecDepth 20000
set_option maxHeartbeats 2000000
theorem Lall (s : Spc) (hs : SpcB s) (hf : s.files.length ≤ 100) : AFn Try.prog 24 [.agg (spcA s)] (fun r => ∃ L : List Fil, L.length ≤ 200000 ∧ r = .sl 2 (L.map filA) none) := by
  have hfl : (s.files.map dvcA).length = s.files.length := by simp
  refine enter Try.func24 rfl rfl rfl rfl rfl 0 rfl ?_
  refine w_ (b_ (h:=a_ (h:=e_ (w_ (bd_ (h:=bd_ (h:=?_)))))))
  refine al_p rfl (s_slitT (by repeat (first | exact DenseA.nil _ | (apply DenseA.cons; (focus exact rfl); (focus exact rfl); (focus exact rfl); (focus exact rfl)) | (apply DenseA.consE; (focus exact rfl); (focus exact rfl); (focus exact rfl)))) rfl rfl rfl rfl (by repeat constructor) ?_)
  refine a_ (h:=e_ (q_ (w_ (a_ (h:=e_ (aw_block (?_)))))))
  refine aw_loopW (fun m t => ∃ (i : Nat) (acc : List Fil), i ≤ s.files.length ∧ m = s.files.length - i ∧ acc.length ≤ 2 + 1000 * i ∧ t = ⟨look [(1, .bp 0 0), (3, .sl 2 (acc.map filA) (some 0)), (4, .v (.int .i64 (i : Int)))], ⟨[spcA s], [(24, 2, acc.map filA)]⟩⟩) (s.files.length) ((wk 1 1)) (⟨0, [(9, 1), (0, 0)], by omega, rfl, by simp, rfl⟩) ?_
  rintro m t ⟨i, acc, hi, rfl, hal, rfl⟩
  refine q_ (w_ (m_ (h:=f_ (h:=f_ (h:=l_ (h:=n_ (h:=lt_ (h:=e_ (?_)))))))))
  refine aw_cond rfl (fun hb1 => ?_) (fun hb1 => ?_)
  · have hc1 := bp hb1
    obtain ⟨hlt, d, hd, hrow, -⟩ := row_at dvcA hc1
    have hdn := hs.files.nodes d (List.mem_of_getElem? hd)
    have hdl : (d.nodes.map nodA).length = d.nodes.length := by simp
    refine kt_ (q_ (aw_block (w_ (a_ (h:=e_ (aw_block (?_)))))))
    refine aw_loopW (fun m t => ∃ (k : Nat) (acc : List Fil), k ≤ d.nodes.length ∧ m = d.nodes.length - k ∧ acc.length ≤ 2 + 1000 * i + k ∧ t = ⟨look [(1, .bp 0 0), (3, .sl 2 (acc.map filA) (some 0)), (4, .v (.int .i64 (i : Int))), (5, .v (.int .i64 (k : Int)))], ⟨[spcA s], [(24, 2, acc.map filA)]⟩⟩) (d.nodes.length) ((wk 1 1)) (⟨0, acc, by omega, rfl, by omega, rfl⟩) ?_
    rintro m t ⟨k, acc, hk, rfl, hal, rfl⟩
    refine q_ (w_ (m_ (h:=f_ (h:=f_ (h:=l_ (h:=m_ (h:=?_)))))))
    refine al_p rfl (st_index (n := i) rfl rfl rfl hrow ?_)
    refine f_ (h:=l_ (h:=n_ (h:=lt_ (h:=e_ (?_)))))
    refine aw_cond rfl (fun hb2 => ?_) (fun hb2 => ?_)
    · have hc2 := bp hb2
      obtain ⟨hlt2, n, hn, hrow2, -⟩ := row_at nodA hc2
      refine kt_ (q_ (aw_block (aw_region (m_ (h:=m_ (h:=f_ (h:=f_ (h:=l_ (h:=m_ (h:=?_))))))))))
      refine al_p rfl (st_index (n := i) rfl rfl rfl hrow ?_)
      refine f_ (h:=l_ (h:=m_ (h:=?_)))
      refine al_p rfl (st_index (n := k) rfl rfl rfl hrow2 ?_)
      refine f_ (h:=l_ (h:=bd_ (h:=bs_ (h:=?_))))
      first | refine al_p rfl (s_append rfl rfl rfl (by simp; omega) (by repeat constructor) ?_) | refine al_p rfl (s_append0 rfl rfl (by simp; omega) (by repeat constructor) ?_)
      refine a_ (h:=al_nil (x_blockN (t_ (aw_region (m_ (h:=ad_ (h:=a_ (h:=al_nil (?_)))))))))
      refine x_then ?_
      refine ⟨_, _, ?_, ⟨k + 1, acc ++ [((i : Int), n.ino)], by omega, rfl, (by simp; omega), rfl⟩, (by simp only [List.map_append, List.map_cons, List.map_nil]; exact weak_of 1 1 rfl rfl rfl rfl ((by repeat (first | exact Sub.nil | refine Sub.cons _ _ _ rfl rfl ?_ | refine Sub.any _ _ ?_ | refine Sub.sl _ _ _ _ _ rfl ?_ | refine Sub.slnil _ _ _ rfl ?_))))⟩
      omega
    · have hc2 := bp hb2
      refine aw_exit (x_thenE (x_thenE (ABlock_out (x_blockN (t_ (aw_region (m_ (h:=ad_ (h:=a_ (h:=al_nil (?_)))))))))))
      refine x_then ?_
      refine ⟨_, _, ?_, ⟨i + 1, acc, by omega, rfl, by omega, rfl⟩, (wk 1 1)⟩
      omega
  · have hc1 := bp hb1
    refine aw_exit (x_thenE (x_thenE (ABlock_out (t_ (w_ (m_ (h:=a_ (h:=e_ (aw_ret (?_))))))))))
    refine e_ret ?_
    exact ⟨acc, by omega, rfl⟩

end
end Go.Proofs.Ytgliiknfmlmddaa
namespace Go.Proofs.Ytgliiknfmlmddaa
open Go.RowKit

section
set_option maxRecDepth 20000
set_option maxHeartbeats 2000000
theorem Lpaths (l : List Int) : AFn Try.prog 7 [.sl 1 (l.map intA) none] (fun r => r = .v (.bool true)) := by
  refine enter Try.func7 rfl rfl rfl rfl rfl 0 rfl ?_
  refine w_ (a_ (h:=e_ (w_ (m_ (h:=?_)))))
  refine al_p rfl (s_callN rfl (by repeat (first | exact Args.nil | refine Args.cons _ _ _ _ _ rfl (argOk_clean rfl) ?_ | refine Args.cons _ _ _ _ _ rfl (argOk_nil _) ?_ | refine Args.cons _ _ _ _ _ rfl (argOk_era _) ?_ | refine Args.cons _ _ _ _ _ rfl (argOk_le rfl (by repeat (first | exact LeA.refl _ | exact LeA.nil _ | exact LeL.refl _ | refine LeA.agg ?_ | refine LeA.tup ?_ | exact LeL.nil | refine LeL.cons ?_ ?_ | exact LeA.any _))) ?_)) rfl (Gnew l) (by repeat constructor) ?_)
  skip
  refine al_p rfl (s_gen 0 (hc := Gspace l _ (by omega)) (hR := ?_))
  rintro r a1 ha1 ⟨s, rfl, hv, hm⟩
  refine ⟨rfl, _, (by repeat constructor), ?_⟩
  have hsb := hv.b (show s.mounts.length ≤ 1000 by omega)
  have hsn := hv.n (show s.mounts.length ≤ 1000 by omega)
  refine al_ (h:=s_ (h:=e_ (w_ (l_ (h:=?_)))))
  refine al_p rfl (q_call (Lall s hsb (by have := hv.files.few; omega)) ?_)
  rintro r ⟨L, hL, rfl⟩
  have hLl : (L.map filA).length = L.length := by simp
  refine a_ (h:=e_ (q_ (w_ (a_ (h:=e_ (aw_block (?_)))))))
  refine aw_loopW (fun n t => ∃ j : Nat, j ≤ L.length ∧ n = L.length - j ∧ t = ⟨look [(3, .bp 1 0), (4, .sl 2 (L.map filA) none), (5, .v (.int .i64 (j : Int)))], ⟨[srcA l a1, spcA s], []⟩⟩) (L.length) ((wk 2 0)) (⟨0, by omega, rfl, rfl⟩) ?_
  rintro n t ⟨j, hj, rfl, rfl⟩
  refine q_ (w_ (m_ (h:=m_ (h:=n_ (h:=lt_ (h:=e_ (?_)))))))
  refine aw_cond rfl (fun hb1 => ?_) (fun hb1 => ?_)
  · have hc1 := bp hb1
    obtain ⟨hlt, x, hy, hrow, -⟩ := row_at filA hc1
    refine kt_ (q_ (aw_block (q_ (yr_ 11 (h:=dl_ 0 (h:=dm_ 1 (h:=dm_ 2 (h:=di_ 3 (h:=dl_ 4 (h:=?_))))))))))
    refine c_ 5 rfl (q_call (Pwhere hsn x) ?_)
    rintro r rfl
    refine o_ (h:=dm_ 6 (h:=dx_ 7 (h:=dx_ 8 (h:=da_ 9 (h:=da_ 10 (h:=z_ (h:=t_ (q_ (w_ (m_ (h:=nt_ (h:=e_ (?_)))))))))))))
    refine aw_cond rfl (fun hb2 => ?_) (fun hb2 => ?_)
    · have hc2 := bp hb2
      have hno : (whereP s x).1 = ⟨#[]⟩ := by have := hc2; unfold whereP at this ⊢; split <;> simp_all
      refine q_ (w_ (m_ (h:=nq_ (h:=e_ (?_)))))
      refine aw_cond rfl (fun hb3 => ?_) (fun hb3 => ?_)
      · have hc3 := bp hb3
        refine w_ (a_ (h:=e_ (aw_ret (x_thenR (x_thenR (x_blockR (x_thenR (x_thenR (x_blockR (x_thenR (?_)))))))))))
        refine e_ret ?_
        first | rfl | (exfalso; first | omega | (simp_all; done))
      · have hc3 := bp hb3
        refine kt_ (aw_exit (x_thenE (ABlock_out (t_ (aw_region (m_ (h:=ad_ (h:=a_ (h:=al_nil (?_))))))))))
        refine x_then ?_
        refine ⟨_, _, ?_, ⟨j + 1, by omega, rfl, rfl⟩, (wk 2 0)⟩
        omega
    · have hc2 := bp hb2
      have hok : (whereP s x).2 = true := hc2
      obtain ⟨hcl, hsz⟩ := path_clean hv hok
      have hdn := down_path hv s.mounts.length x hok
      refine kt_ (q_ (yr_ 13 (h:=dl_ 0 (h:=dl_ 1 (h:=dm_ 2 (h:=dm_ 3 (h:=di_ 4 (h:=dl_ 5 (h:=?_)))))))))
      refine c_ 6 rfl (q_call (Pdown s x hsb) ?_)
      rintro r rfl
      refine o_ (h:=?_)
      refine c_ 7 rfl (q_call (Pwhere hsn (itD s s.mounts.length x)) ?_)
      rintro r rfl
      refine o_ (h:=dm_ 8 (h:=dx_ 9 (h:=dx_ 10 (h:=da_ 11 (h:=da_ 12 (h:=z_ (h:=t_ (q_ (w_ (m_ (h:=?_)))))))))))
      refine al_p rfl (q_call (Rclean (whereP s x).1 (by omega)) ?_)
      rintro r rfl
      refine nt_ (h:=m_ (h:=?_))
      refine al_gs false rfl rfl (fun hb4 => ?_) (fun hb4 => ?_)
      · have hc4 := bp hb4
        refine g0_ (h:=g0_ (h:=g0_ (h:=pt_ (h:=m_ (h:=g0_ (h:=g0_ (h:=pt_ (h:=m_ (h:=g0_ (h:=g0_ (h:=g0_ (h:=pt_ (h:=e_ (cy_ (h:=w_ (a_ (h:=e_ (aw_ret (x_thenR (x_blockR (x_thenR (x_thenR (x_blockR (?_))))))))))))))))))))))))
        refine x_thenR (?_)
        refine e_ret ?_
        first | rfl | (exfalso; first | omega | (simp_all; done))
      · have hc4 := bp hb4
        refine m_ (h:=n_ (h:=gt_ (h:=pf_ (h:=m_ (h:=?_)))))
        refine al_gs false rfl rfl (fun hb5 => ?_) (fun hb5 => ?_)
        · have hc5 := bp hb5
          refine g0_ (h:=g0_ (h:=pt_ (h:=m_ (h:=g0_ (h:=g0_ (h:=g0_ (h:=pt_ (h:=e_ (cy_ (h:=w_ (a_ (h:=e_ (aw_ret (x_thenR (x_blockR (x_thenR (x_thenR (x_blockR (x_thenR (?_))))))))))))))))))))
          refine e_ret ?_
          first | rfl | (exfalso; first | omega | (simp_all; done))
        · have hc5 := bp hb5
          refine m_ (h:=nt_ (h:=pf_ (h:=m_ (h:=?_))))
          refine al_gs false rfl rfl (fun hb6 => ?_) (fun hb6 => ?_)
          · have hc6 := bp hb6
            refine g0_ (h:=g0_ (h:=g0_ (h:=pt_ (h:=e_ (cy_ (h:=w_ (a_ (h:=e_ (aw_ret (x_thenR (x_blockR (x_thenR (x_thenR (x_blockR (x_thenR (?_))))))))))))))))
            refine e_ret ?_
            first | rfl | (exfalso; first | omega | (simp_all; done))
          · have hc6 := bp hb6
            refine m_ (h:=m_ (h:=nq_ (h:=pf_ (h:=e_ (?_)))))
            refine aw_cond rfl (fun hb7 => ?_) (fun hb7 => ?_)
            · have hc7 := bp hb7
              refine w_ (a_ (h:=e_ (aw_ret (x_thenR (x_blockR (x_thenR (x_thenR (x_blockR (x_thenR (?_))))))))))
              refine e_ret ?_
              first | rfl | (exfalso; first | omega | (simp_all; done))
            · have hc7 := bp hb7
              refine kt_ (q_ (yr_ 13 (h:=dl_ 0 (h:=dl_ 1 (h:=dm_ 2 (h:=dm_ 3 (h:=di_ 4 (h:=dl_ 5 (h:=?_)))))))))
              refine c_ 6 rfl (q_call (PupS hsb hv x) ?_)
              rintro r rfl
              refine o_ (h:=?_)
              refine c_ 7 rfl (q_call (Pwhere hsn (upF s (s.mounts.length + 1) x)) ?_)
              rintro r rfl
              refine o_ (h:=dm_ 8 (h:=dx_ 9 (h:=dx_ 10 (h:=da_ 11 (h:=da_ 12 (h:=z_ (h:=t_ (w_ (m_ (h:=?_))))))))))
              refine al_p rfl (q_call (RprntP (whereP s x).1 (by omega)) ?_)
              rintro r ⟨dd, nn, hd1, hn1, rfl⟩
              obtain ⟨p1, p2, p3⟩ := up_prnt hv (a := x) (k := s.mounts.length + 1) (by have := pos_le (s := s) x.1; omega) hok hd1
              generalize (prntL (whereP s x).1.data.toList).2.2 = bb at *
              refine m_ (h:=x_ (h:=x_ (h:=x_ (h:=a_ (h:=a_ (h:=a_ (h:=e_ (w_ (m_ (h:=nt_ (h:=m_ (h:=?_))))))))))))
              refine al_gs false rfl rfl (fun hb8 => ?_) (fun hb8 => ?_)
              · have hc8 := bp hb8
                refine g0_ (h:=g0_ (h:=gu_ (h:=gu_ (h:=gu_ (h:=g0_ (h:=pt_ (h:=m_ (h:=g0_ (h:=g0_ (h:=g0_ (h:=gu_ (h:=gu_ (h:=g0_ (h:=pt_ (h:=e_ (cy_ (h:=w_ (a_ (h:=e_ (aw_ret (x_blockR (x_thenR (x_thenR (?_))))))))))))))))))))))))
                refine x_blockR (x_thenR (?_))
                refine e_ret ?_
                first | rfl | (exfalso; first | omega | (simp_all; done))
              · have hc8 := bp hb8
                refine m_ (h:=m_ (h:=?_))
                refine al_gs true rfl rfl (fun hb9 => ?_) (fun hb9 => ?_)
                · have hc9 := bp hb9
                  refine m_ (h:=m_ (h:=nq_ (h:=pt_ (h:=pf_ (h:=m_ (h:=?_))))))
                  refine al_gs false rfl rfl (fun hb10 => ?_) (fun hb10 => ?_)
                  · have hc10 := bp hb10
                    refine g0_ (h:=g0_ (h:=g0_ (h:=gu_ (h:=gu_ (h:=g0_ (h:=pt_ (h:=e_ (cy_ (h:=w_ (a_ (h:=e_ (aw_ret (x_blockR (x_thenR (x_thenR (x_blockR (x_thenR (?_))))))))))))))))))
                    refine e_ret ?_
                    first | rfl | (exfalso; first | omega | (simp_all; done))
                  · have hc10 := bp hb10
                    refine m_ (h:=nt_ (h:=m_ (h:=g0_ (h:=g0_ (h:=pf_ (h:=pf_ (h:=e_ (cn_ (h:=aw_skip (x_blockN (t_ (aw_region (m_ (h:=ad_ (h:=a_ (h:=al_nil (?_)))))))))))))))))
                    refine x_then ?_
                    refine ⟨_, _, ?_, ⟨j + 1, by omega, rfl, rfl⟩, (wk 2 0)⟩
                    omega
                · have hc9 := bp hb9
                  refine g0_ (h:=g0_ (h:=g0_ (h:=pf_ (h:=pf_ (h:=m_ (h:=m_ (h:=nt_ (h:=m_ (h:=m_ (h:=nq_ (h:=pt_ (h:=pf_ (h:=e_ (?_))))))))))))))
                  refine aw_cond rfl (fun hb11 => ?_) (fun hb11 => ?_)
                  · have hc11 := bp hb11
                    refine w_ (a_ (h:=e_ (aw_ret (x_blockR (x_thenR (x_thenR (x_blockR (x_thenR (?_)))))))))
                    refine e_ret ?_
                    first | rfl | (exfalso; first | omega | (simp_all; done))
                  · have hc11 := bp hb11
                    refine aw_skip (x_blockN (t_ (aw_region (m_ (h:=ad_ (h:=a_ (h:=al_nil (?_))))))))
                    refine x_then ?_
                    refine ⟨_, _, ?_, ⟨j + 1, by omega, rfl, rfl⟩, (wk 2 0)⟩
                    omega
  · have hc1 := bp hb1
    refine aw_exit (x_thenE (x_thenE (ABlock_out (t_ (w_ (?_))))))
    refine al_p rfl (q_call (Lawake) ?_)
    rintro r rfl
    refine a_ (h:=e_ (aw_ret (?_)))
    refine e_ret ?_
    first | rfl | (exfalso; first | omega | (simp_all; done))

end
end Go.Proofs.Ytgliiknfmlmddaa
namespace Go.Proofs.Ytgliiknfmlmddaa
open Go.RowKit
theorem MountsPaths_walk {H : Type} {enc : TypeId × Value → H} {sp : Nat → Bool} {held : Bool} {base : Nat} (a : Option Addr) (n c : Nat) (w : World) {d : DataW H} {p : List MemPlace} (h : DataW.Trod enc Try.prog w base sp held 22 (.slice a n c) d p) :
    Calls Try.prog 7 #[.slice a n c] w fun e w' => e = .returned (.bool true) ∧ Below w.heap.size w w' := walk_ints Lpaths a n c w h
end Go.Proofs.Ytgliiknfmlmddaa
