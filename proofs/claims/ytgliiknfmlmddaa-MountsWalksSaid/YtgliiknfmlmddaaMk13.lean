/-
  Part 13 of the proof of MountsWalksP: what the statement's proof uses of the texts in wip/tpl.
-/
import Derived.OpenShut
import Derived.ChangeArms
import Derived.ChangeOld
import Derived.DataReads
import Derived.DataElems
import Derived.Test.YtgliiknfmlmddaaMk12
namespace Go.Proofs.Ytgliiknfmlmddaa
open Go.RowKit

section
set_option maxRecDepth 10000
set_option maxHeartbeats 1000000
theorem Padd (s : Spc) (dev : Int) (a : Fil) (hs : SpcB s) (hne : ∀ d ∈ s.files, 0 < d.nodes.length) : AFn Try.prog 15 [.agg (spcA s), .v (.int .i64 dev), .agg (filA a)] (fun r => r = spcR (addL s dev a)) := by
  have hfew := hs.few
  refine enter Try.func15 rfl rfl rfl rfl rfl 0 rfl ?_
  refine w_ (b_ (h:=b_ (h:=al_ (h:=a_ (h:=e_ (q_ (w_ (l_ (h:=m_ (h:=?_))))))))))
  refine al_p rfl (q_call (PdeviceM s dev hs) ?_)
  rintro r rfl
  refine nt_ (h:=e_ (?_))
  refine aw_cond rfl (fun hb1 => ?_) (fun hb1 => ?_)
  · have hc1 := bp hb1
    refine w_ (bd_ (h:=s_ (h:=a_ (h:=e_ (aw_ret (x_thenR (?_)))))))
    refine rt_ (r := spcR (addL s dev a)) none (h5 := ?_) (h6 := ⟨rfl, rfl, rfl⟩)
    rw [addL, if_pos (by omega)]
    exact sperr_le _
  · have hc1 := bp hb1
    refine kt_ (w_ (f_ (h:=l_ (h:=l_ (h:=?_)))))
    refine al_p rfl (q_call (Pnode s.files a hs.files) ?_)
    rintro r rfl
    refine m_ (h:=x_ (h:=x_ (h:=al_ (h:=s_ (h:=a_ (h:=e_ (q_ (aw_block (w_ (m_ (h:=nt_ (h:=a_ (h:=e_ (?_))))))))))))))
    refine aw_cond rfl (fun hb2 => ?_) (fun hb2 => ?_)
    · have hc2 := bp hb2
      refine w_ (bd_ (h:=s_ (h:=a_ (h:=e_ (aw_ret (x_blockR (x_thenR (?_))))))))
      refine rt_ (r := spcR (addL s dev a)) none (h5 := ?_) (h6 := ⟨rfl, rfl, rfl⟩)
      rw [addL, if_neg (by omega), if_pos hc2]
      exact sperr_le _
    · have hc2 := bp hb2
      refine w_ (f_ (h:=l_ (h:=nq_ (h:=a_ (h:=e_ (?_))))))
      refine aw_cond rfl (fun hb3 => ?_) (fun hb3 => ?_)
      · have hc3 := bp hb3
        refine w_ (bd_ (h:=s_ (h:=a_ (h:=e_ (aw_ret (x_blockR (x_thenR (?_))))))))
        refine rt_ (r := spcR (addL s dev a)) none (h5 := ?_) (h6 := ⟨rfl, rfl, rfl⟩)
        rw [addL, if_neg (by omega), if_neg (by simp [hc2]), if_pos hc3]
        exact sperr_le _
      · have hc3 := bp hb3
        refine w_ (l_ (h:=f_ (h:=l_ (h:=?_))))
        refine al_p rfl (q_call (Pmounted s a.1 hs) ?_)
        rintro r rfl
        refine nt_ (h:=m_ (h:=?_))
        refine al_gs false rfl rfl (fun hb4 => ?_) (fun hb4 => ?_)
        · have hc4 := bp hb4
          refine g0_ (h:=g0_ (h:=g0_ (h:=g0_ (h:=pt_ (h:=a_ (h:=e_ (cy_ (h:=w_ (bd_ (h:=s_ (h:=a_ (h:=e_ (aw_ret (x_blockR (x_thenR (?_))))))))))))))))
          refine rt_ (r := spcR (addL s dev a)) none (h5 := ?_) (h6 := ⟨rfl, rfl, rfl⟩)
          rw [addL, if_neg (by omega), if_neg (by simp [hc2]), if_neg (by simp [hc3]), if_pos (.inl hc4)]
          exact sperr_le _
        · have hc4 := bp hb4
          refine f_ (h:=l_ (h:=m_ (h:=eq_ (h:=pf_ (h:=a_ (h:=e_ (?_)))))))
          refine aw_cond rfl (fun hb5 => ?_) (fun hb5 => ?_)
          · have hc5 := bp hb5
            refine w_ (bd_ (h:=s_ (h:=a_ (h:=e_ (aw_ret (x_blockR (x_thenR (?_))))))))
            refine rt_ (r := spcR (addL s dev a)) none (h5 := ?_) (h6 := ⟨rfl, rfl, rfl⟩)
            rw [addL, if_neg (by omega), if_neg (by simp [hc2]), if_neg (by simp [hc3]), if_pos (.inr hc5)]
            exact sperr_le _
          · have hc5 := bp hb5
            refine w_ (l_ (h:=m_ (h:=?_)))
            refine al_p rfl (q_call (Pmounted s dev hs) ?_)
            rintro r rfl
            refine m_ (h:=?_)
            refine al_gs false rfl rfl (fun hb6 => ?_) (fun hb6 => ?_)
            · have hc6 := bp hb6
              refine g0_ (h:=g0_ (h:=g0_ (h:=pt_ (h:=a_ (h:=e_ (cy_ (h:=w_ (bd_ (h:=s_ (h:=a_ (h:=e_ (aw_ret (x_blockR (x_thenR (?_)))))))))))))))
              refine rt_ (r := spcR (addL s dev a)) none (h5 := ?_) (h6 := ⟨rfl, rfl, rfl⟩)
              rw [addL, if_neg (by omega), if_neg (by simp [hc2]), if_neg (by simp [hc3]), if_neg (by simp [hc4, hc5]), if_pos (.inl hc6)]
              exact sperr_le _
            · have hc6 := bp hb6
              refine l_ (h:=l_ (h:=?_))
              refine g_y (q_call (Pcovered s a hs) ?_)
              rintro r rfl
              refine pf_ (h:=a_ (h:=e_ (?_)))
              refine aw_cond rfl (fun hb7 => ?_) (fun hb7 => ?_)
              · have hc7 := bp hb7
                refine w_ (bd_ (h:=s_ (h:=a_ (h:=e_ (aw_ret (x_blockR (x_thenR (?_))))))))
                refine rt_ (r := spcR (addL s dev a)) none (h5 := ?_) (h6 := ⟨rfl, rfl, rfl⟩)
                rw [addL, if_neg (by omega), if_neg (by simp [hc2]), if_neg (by simp [hc3]), if_neg (by simp [hc4, hc5]), if_pos (.inr hc7)]
                exact sperr_le _
              · have hc7 := bp hb7
                refine aw_skip (x_blockN (t_ (w_ (l_ (h:=?_)))))
                refine al_p rfl (s_callT rfl (by repeat (first | exact Args.nil | refine Args.cons _ _ _ _ _ rfl (argOk_clean rfl) ?_ | refine Args.cons _ _ _ _ _ rfl (argOk_nil _) ?_ | refine Args.cons _ _ _ _ _ rfl (argOk_era _) ?_ | refine Args.cons _ _ _ _ _ rfl (argOk_le rfl (by repeat (first | exact LeA.refl _ | exact LeA.nil _ | exact LeL.refl _ | refine LeA.agg ?_ | refine LeA.tup ?_ | exact LeL.nil | refine LeL.cons ?_ ?_ | exact LeA.any _))) ?_)) (PspcT s hs hne) (fun _ => rfl) (by repeat constructor) ?_)
                refine s_ (h:=e_ (w_ (f_ (h:=l_ (h:=m_ (h:=l_ (h:=bd_ (h:=bs_ (h:=?_)))))))))
                first | refine al_p rfl (s_append rfl rfl rfl (by simp; omega) (by repeat constructor) ?_) | refine al_p rfl (s_append0 rfl rfl (by simp; omega) (by repeat constructor) ?_)
                refine f_ (h:=s_ (h:=e_ (w_ (l_ (h:=s_ (h:=a_ (h:=e_ (aw_ret (?_)))))))))
                refine e_ret ?_
                rw [addL, if_neg (by omega), if_neg (by simp [hc2]), if_neg (by simp [hc3]), if_neg (by simp [hc4, hc5]), if_neg (by simp [hc6, hc7])]
                simp only [spcR, spcA, List.map_append]
                rfl

end
end Go.Proofs.Ytgliiknfmlmddaa
namespace Go.Proofs.Ytgliiknfmlmddaa
open Go.RowKit

theorem afn_spc {P : Program} {f : FuncId} {s : Spc} {xs : List AV} {us : List Value} {z : Value} {R : AV} (hx : ∀ (G : Gh) (w : World) (vs : List Value), repL G w xs vs → vs = us) (hR : ∀ (G : Gh) (w : World), rep G w R z)
    (h : ∀ (w : World) (ds ms : Value), SpcIn s w.heap.size w ds ms → Calls P f (.agg #[ds, ms] :: us).toArray w fun e w' => e = .returned z ∧ Below w.heap.size w w') : AFn P f (.agg (spcA s) :: xs) (fun r => r = R) := by
  intro w St bl vs hr hv
  simp only [repL] at hv
  obtain ⟨z0, zs, rfl, h1, h2⟩ := hv
  obtain rfl := hx _ _ _ h2
  simp only [rep, spcA, repL] at h1
  obtain ⟨ys, rfl, ds, _, rfl, h3, ms, _, rfl, h4, rfl⟩ := h1
  have hs : SpcIn s w.heap.size w ds ms := by
    refine ⟨Nat.le_refl _, ?_⟩
    refine froL_mono (St := St) (fun b o hb => ⟨hr.stlt b o hb, rfl⟩) _ _ ?_
    simp only [spcA, froL]
    exact ⟨_, _, rfl, h3, _, _, rfl, h4, rfl⟩
  refine (h w ds ms hs).mono ?_
  rintro e w' ⟨rfl, hb⟩
  obtain ⟨k1, k2⟩ := hr.below hb
  exact ⟨_, _, _, _, ⟨rfl, rfl, rfl⟩, k1, k2, hR _ _⟩
theorem repL_fil {G : Gh} {w : World} {a : Fil} {vs : List Value} (h : repL G w [.agg (filA a)] vs) : vs = [FilV a] := by
  simp only [repL, rep, filA] at h
  obtain ⟨_, _, rfl, ⟨_, rfl, _, _, rfl, rfl, _, _, rfl, rfl, rfl⟩, rfl⟩ := h
  rfl
structure SpcN (s : Spc) : Prop where
  b : SpcB s
  nm : ∀ x, (nmoL s x).size ≤ 100
  most : mostL s.files ≤ 5000
section
variable {s : Spc} (hs : SpcN s)
include hs
theorem Pwhere (a : Fil) : AFn Try.prog 23 [.agg (spcA s), .agg (filA a)] (fun r => r = .tup [.v (.string (whereP s a).1), .v (.bool (whereP s a).2)]) :=
  afn_spc (us := [FilV a]) (z := .tuple #[.string (whereP s a).1, .bool (whereP s a).2]) (fun _ _ _ h => repL_fil h) (fun G w => by simp only [rep, repL]; exact ⟨[_, _], rfl, _, _, rfl, rfl, _, _, rfl, rfl, rfl⟩)
    fun w ds ms h => callsIn_wide.1 (where_o 4 (Lib.hid (Nat.le_refl _)) s hs.b hs.nm hs.most a ds ms w h)
theorem Pvisible (a : Fil) : AFn Try.prog 32 [.agg (spcA s), .agg (filA a)] (fun r => r = .v (.bool (visP s a))) :=
  afn_spc (us := [FilV a]) (z := .bool (visP s a)) (fun _ _ _ h => repL_fil h) (fun G w => by simp only [rep])
    fun w ds ms h => callsIn_wide.1 (visible_o 4 (Lib.hid (Nat.le_refl _)) s hs.b hs.nm hs.most a ds ms w h)
end
theorem mem_nodG {f : Fls} {a : Fil} (h : hasG f a = true) : ∃ d ∈ f, nodG f a ∈ d.nodes := by
  obtain ⟨q, i, d, m, _, h2, h3, _, _, h6⟩ := at_ok h
  exact ⟨d, List.mem_of_getElem? h2, by rw [h6]; exact List.mem_of_getElem? h3⟩
theorem nameL_size {x : Str} (h : nameL x = true) : x.size ≤ 12 := by
  rw [name_eq] at h
  by_cases hc : x.size < 1 ∨ 12 < x.size
  · rw [if_pos hc] at h; cases h
  · omega
theorem nmo_size {s : Spc} (h : FlsV s.files) (x : Fil) : (nmoL s x).size ≤ 12 := by
  unfold nmoL
  cases hf : (abvL s x).entries.find? fun e : Ent => decide (e.2 = x.2) with
  | none => exact Nat.zero_le _
  | some e =>
    have hm := List.mem_of_find?_eq_some hf
    unfold abvL at hm
    by_cases hh : hasG s.files (x.1, (nodG s.files x).parent) = true
    · obtain ⟨d, hd, hn⟩ := mem_nodG hh
      exact nameL_size ((h.vd d hd).ent _ hn e hm).1
    · have : nodG s.files (x.1, (nodG s.files x).parent) = Nod.zero := by
        unfold hasG at hh
        cases hq : nodeL s.files (x.1, (nodG s.files x).parent) with
        | none => show (nodeL s.files (x.1, (nodG s.files x).parent)).getD Nod.zero = Nod.zero; rw [hq]; rfl
        | some m => rw [hq] at hh; exact absurd rfl hh
      rw [this] at hm
      cases hm
theorem most_le {f : Fls} (h : FlsV f) : mostL f ≤ 48 := by
  have : ∀ (l : Fls), (∀ d ∈ l, d.nodes.length ≤ 16) → mostL l ≤ l.length * 16 := by
    intro l
    induction l with
    | nil => intro _; simp [mostL]
    | cons d l ih =>
      intro h
      have h1 := ih fun d hd => h d (List.mem_cons_of_mem _ hd)
      have h2 := h d (List.mem_cons_self ..)
      simp only [mostL, List.map_cons, List.sum_cons, List.length_cons] at h1 ⊢
      omega
  have h1 := this f fun d hd => (h.vd d hd).len
  have h2 := h.few
  omega
theorem SpcV.n {s : Spc} (h : SpcV s) (hm : s.mounts.length ≤ 1000) : SpcN s := ⟨⟨h.files.b, hm⟩, fun x => by have := nmo_size h.files x; omega, by have := most_le h.files; omega⟩

def awNod : Nod := ⟨0, 2, 493, 0, 0, 0, ⟨#[]⟩, []⟩
def awF : Fls := (mkL (newL 2).1 (0, 1) ⟨#[97]⟩ awNod).1
def awS : Spc := ⟨awF, [(1, (0, 2))]⟩
theorem aw_make : mkL (newL 2).1 (0, 1) ⟨#[97]⟩ awNod = (awF, [((0, 1), ⟨#[97]⟩, (0, 0), (0, 2))], 0) := by kernel_rfl
theorem aw_add : addL ⟨awF, []⟩ 1 (0, 2) = (awS, 0) := by kernel_rfl
theorem aw_where : whereP awS (1, 1) = (⟨#[47, 97]⟩, true) := by kernel_rfl
theorem aw_cov : (covL awS (0, 2)).isSome = true := by kernel_rfl
theorem aw_vis : visP awS (0, 2) = false := by kernel_rfl
end Go.Proofs.Ytgliiknfmlmddaa
namespace Go.Proofs.Ytgliiknfmlmddaa
open Go.RowKit

section
set_option maxRecDepth 10000
set_option maxHeartbeats 1000000
theorem aw_fv : FlsV awF := by
  have h := (make_okay (new_valid (k := 2) (by omega) (by omega)).1 (0, 1) ⟨#[97]⟩ awNod)
  unfold Okay at h
  rw [aw_make] at h
  exact (h rfl).1
theorem aw_n : SpcN awS := ⟨⟨aw_fv.b, by decide⟩, fun x => by have := nmo_size (s := awS) aw_fv x; omega, by have := most_le aw_fv; exact Nat.le_trans this (by decide)⟩
theorem aw_le : LeA (.agg [.sl 2 (awF.map dvcA) none, .v (.slice none 0 0)]) (.agg (spcA ⟨awF, []⟩)) := LeA.agg (LeL.cons (LeA.refl _) (LeL.cons (LeA.nil _) LeL.nil))
theorem Lawake : AFn Try.prog 19 [] (fun r => r = .v (.bool true)) := by
  have hnew : AFn Try.prog 50 [.v (.int .i64 2)] (fun r => r = .tup [.agg (flsA (newL 2).1), .v (.int .i64 0)]) := Rnew 2
  have hmk : AFn Try.prog 51 [.agg (flsA (newL 2).1), .agg [.v (.int .i64 0), .v (.int .i64 1)], .v (.string ⟨#[97]⟩), .agg (nodA awNod)] (fun r => r = .tup [.agg (flsA awF), .sl 7 [chgA ((0, 1), ⟨#[97]⟩, (0, 0), (0, 2))] none, .v (.int .i64 0)]) :=
    (Rmake (newL 2).1 (0, 1) ⟨#[97]⟩ awNod (new_valid (k := 2) (by omega) (by omega)).1 (by decide) (by decide)).mono fun r hr => by rw [hr, aw_make]; rfl
  have had : AFn Try.prog 15 [.agg (spcA ⟨awF, []⟩), .v (.int .i64 1), .agg (filA (0, 2))] (fun r => r = .tup [.agg (spcA awS), .v (.int .i64 0)]) :=
    (Padd ⟨awF, []⟩ 1 (0, 2) ⟨aw_fv.b, by decide⟩ aw_fv.ne).mono fun r hr => by rw [hr, aw_add]; rfl
  have hwh : AFn Try.prog 23 [.agg (spcA awS), .agg (filA (1, 1))] (fun r => r = .tup [.v (.string ⟨#[47, 97]⟩), .v (.bool true)]) :=
    (Pwhere aw_n (1, 1)).mono fun r hr => by rw [hr, aw_where]
  have hcv : AFn Try.prog 26 [.agg (spcA awS), .agg (filA (0, 2))] (fun r => r = .v (.bool true)) :=
    (Pcovered awS (0, 2) aw_n.b).mono fun r hr => by rw [hr, aw_cov]
  have hvs : AFn Try.prog 32 [.agg (spcA awS), .agg (filA (0, 2))] (fun r => r = .v (.bool false)) :=
    (Pvisible aw_n (0, 2)).mono fun r hr => by rw [hr, aw_vis]
  refine enter Try.func19 rfl rfl rfl rfl rfl 0 rfl ?_
  refine w_ (a_ (h:=e_ (w_ (?_))))
  refine al_p rfl (q_call (hnew) ?_)
  rintro r rfl
  refine m_ (h:=x_ (h:=x_ (h:=al_ (h:=s_ (h:=a_ (h:=e_ (w_ (l_ (h:=bd_ (h:=?_))))))))))
  refine al_p rfl (st_le (y := .agg (nodA awNod)) (st_build (by repeat (first | exact FillA.nil _ | (apply FillA.cons; (focus exact rfl); (focus exact rfl); (focus exact rfl); (focus exact rfl); (focus exact rfl); (focus (repeat constructor))))) ⟨rfl, rfl⟩) (by repeat (first | exact LeA.refl _ | exact LeA.nil _ | exact LeL.refl _ | refine LeA.agg ?_ | refine LeA.tup ?_ | exact LeL.nil | refine LeL.cons ?_ ?_ | exact LeA.any _)) ?_)
  refine al_p rfl (q_call (hmk) ?_)
  rintro r rfl
  refine m_ (h:=x_ (h:=x_ (h:=x_ (h:=s_ (h:=a_ (h:=a_ (h:=e_ (q_ (yk_ ([(0, flsA awF)]) 13 (h:=?_))))))))))
  first | refine dl_ 0 (h:=?_) | refine tk_ 0 rfl (fun _ hS => st_loadF rfl rfl ⟨rfl, rfl⟩) ?_
  refine tk_ 1 rfl (fun _ hS => st_le (y := .agg (spcA ⟨awF, []⟩)) (st_build (by repeat (first | exact FillA.nil _ | (apply FillA.cons; (focus exact rfl); (focus exact rfl); (focus exact rfl); (focus exact rfl); (focus exact rfl); (focus (repeat constructor))))) ⟨rfl, rfl⟩) aw_le ⟨rfl, rfl⟩) ?_
  refine dm_ 2 (h:=di_ 3 (h:=df_ 4 (h:=?_)))
  first | refine dl_ 5 (h:=?_) | refine tk_ 5 rfl (fun _ hS => st_loadF rfl rfl ⟨rfl, rfl⟩) ?_
  refine c2_ 6 10 rfl rfl ?_ ?_
  · refine q_call (had) ?_
    rintro r rfl
    refine o_ (h:=?_)
    refine dm_ 7 (h:=dx_ 8 (h:=dx_ 9 (h:=?_)))
    refine c_ 10 rfl (s_alloc (by repeat constructor) ?_)
    refine o_ (h:=?_)
    refine c0_ 11 rfl (s_store rfl rfl rfl rfl rfl rfl (by repeat constructor) (by repeat constructor) ?_)
    refine o_ (h:=da_ 12 (h:=z_ (h:=t_ (w_ (l_ (h:=bd_ (h:=?_)))))))
    refine al_p rfl (q_call (hwh) ?_)
    rintro r rfl
    refine m_ (h:=x_ (h:=x_ (h:=a_ (h:=a_ (h:=e_ (q_ (yr_ 27 (h:=dm_ 0 (h:=deq_ 1 (h:=dm_ 2 (h:=?_)))))))))))
    refine aa_both (j := 2) rfl (fun hb1 => ?_) (fun hb1 => ?_)
    · have hc1 := bp hb1
      refine dm_ 3 (h:=dpt_ 4 (h:=dm_ 5 (h:=?_)))
      refine aa_both (j := 5) rfl (fun hb2 => ?_) (fun hb2 => ?_)
      · have hc2 := bp hb2
        refine dm_ 6 (h:=deq_ 7 (h:=dpt_ 8 (h:=dm_ 9 (h:=?_))))
        refine aa_both (j := 9) rfl (fun hb3 => ?_) (fun hb3 => ?_)
        · have hc3 := bp hb3
          refine dl_ 10 (h:=dm_ 11 (h:=di_ 12 (h:=df_ 13 (h:=dl_ 14 (h:=?_)))))
          refine c_ 15 rfl (q_call (hcv) ?_)
          rintro r rfl
          refine o_ (h:=dpt_ 16 (h:=dm_ 17 (h:=?_)))
          refine aa_both (j := 17) rfl (fun hb4 => ?_) (fun hb4 => ?_)
          · have hc4 := bp hb4
            refine dl_ 18 (h:=dm_ 19 (h:=di_ 20 (h:=df_ 21 (h:=dl_ 22 (h:=?_)))))
            refine c_ 23 rfl (q_call (hvs) ?_)
            rintro r rfl
            refine o_ (h:=dnt_ 24 (h:=dpt_ 25 (h:=da_ 26 (h:=z_ (h:=t_ (aw_ret (?_)))))))
            refine e_ret ?_
            first | rfl | (exfalso; simp_all)
          · have hc4 := bp hb4
            refine d0_ 18 (h:=d0_ 19 (h:=d0_ 20 (h:=d0_ 21 (h:=d0_ 22 (h:=d0_ 23 (h:=d0_ 24 (h:=dpf_ 25 (h:=da_ 26 (h:=z_ (h:=t_ (aw_ret (?_))))))))))))
            refine e_ret ?_
            first | rfl | (exfalso; simp_all)
        · have hc3 := bp hb3
          refine d0_ 10 (h:=d0_ 11 (h:=d0_ 12 (h:=d0_ 13 (h:=d0_ 14 (h:=d0_ 15 (h:=dpf_ 16 (h:=dm_ 17 (h:=d0_ 18 (h:=d0_ 19 (h:=d0_ 20 (h:=d0_ 21 (h:=d0_ 22 (h:=d0_ 23 (h:=d0_ 24 (h:=dpf_ 25 (h:=da_ 26 (h:=z_ (h:=t_ (aw_ret (?_))))))))))))))))))))
          refine e_ret ?_
          first | rfl | (exfalso; simp_all)
      · have hc2 := bp hb2
        refine d0_ 6 (h:=d0_ 7 (h:=dpf_ 8 (h:=dm_ 9 (h:=d0_ 10 (h:=d0_ 11 (h:=d0_ 12 (h:=d0_ 13 (h:=d0_ 14 (h:=d0_ 15 (h:=dpf_ 16 (h:=dm_ 17 (h:=d0_ 18 (h:=d0_ 19 (h:=d0_ 20 (h:=d0_ 21 (h:=d0_ 22 (h:=d0_ 23 (h:=d0_ 24 (h:=dpf_ 25 (h:=da_ 26 (h:=z_ (h:=t_ (aw_ret (?_))))))))))))))))))))))))
        refine e_ret ?_
        first | rfl | (exfalso; simp_all)
    · have hc1 := bp hb1
      refine d0_ 3 (h:=dpf_ 4 (h:=dm_ 5 (h:=d0_ 6 (h:=d0_ 7 (h:=dpf_ 8 (h:=dm_ 9 (h:=d0_ 10 (h:=d0_ 11 (h:=d0_ 12 (h:=d0_ 13 (h:=d0_ 14 (h:=d0_ 15 (h:=dpf_ 16 (h:=dm_ 17 (h:=d0_ 18 (h:=d0_ 19 (h:=d0_ 20 (h:=d0_ 21 (h:=d0_ 22 (h:=d0_ 23 (h:=d0_ 24 (h:=dpf_ 25 (h:=da_ 26 (h:=?_))))))))))))))))))))))))
      refine z_ (h:=t_ (aw_ret (?_)))
      refine e_ret ?_
      first | rfl | (exfalso; simp_all)
  · refine s_alloc (by repeat constructor) ?_
    refine o_ (h:=?_)
    refine c_ 6 rfl (q_call (had) ?_)
    rintro r rfl
    refine o_ (h:=dm_ 7 (h:=dx_ 8 (h:=dx_ 9 (h:=?_))))
    refine c0_ 11 rfl (s_store rfl rfl rfl rfl rfl rfl (by repeat constructor) (by repeat constructor) ?_)
    refine o_ (h:=da_ 12 (h:=z_ (h:=t_ (w_ (l_ (h:=bd_ (h:=?_)))))))
    refine al_p rfl (q_call (hwh) ?_)
    rintro r rfl
    refine m_ (h:=x_ (h:=x_ (h:=a_ (h:=a_ (h:=e_ (q_ (yr_ 27 (h:=dm_ 0 (h:=deq_ 1 (h:=dm_ 2 (h:=?_)))))))))))
    refine aa_both (j := 2) rfl (fun hb5 => ?_) (fun hb5 => ?_)
    · have hc5 := bp hb5
      refine dm_ 3 (h:=dpt_ 4 (h:=dm_ 5 (h:=?_)))
      refine aa_both (j := 5) rfl (fun hb6 => ?_) (fun hb6 => ?_)
      · have hc6 := bp hb6
        refine dm_ 6 (h:=deq_ 7 (h:=dpt_ 8 (h:=dm_ 9 (h:=?_))))
        refine aa_both (j := 9) rfl (fun hb7 => ?_) (fun hb7 => ?_)
        · have hc7 := bp hb7
          refine dl_ 10 (h:=dm_ 11 (h:=di_ 12 (h:=df_ 13 (h:=dl_ 14 (h:=?_)))))
          refine c_ 15 rfl (q_call (hcv) ?_)
          rintro r rfl
          refine o_ (h:=dpt_ 16 (h:=dm_ 17 (h:=?_)))
          refine aa_both (j := 17) rfl (fun hb8 => ?_) (fun hb8 => ?_)
          · have hc8 := bp hb8
            refine dl_ 18 (h:=dm_ 19 (h:=di_ 20 (h:=df_ 21 (h:=dl_ 22 (h:=?_)))))
            refine c_ 23 rfl (q_call (hvs) ?_)
            rintro r rfl
            refine o_ (h:=dnt_ 24 (h:=dpt_ 25 (h:=da_ 26 (h:=z_ (h:=t_ (aw_ret (?_)))))))
            refine e_ret ?_
            first | rfl | (exfalso; simp_all)
          · have hc8 := bp hb8
            refine d0_ 18 (h:=d0_ 19 (h:=d0_ 20 (h:=d0_ 21 (h:=d0_ 22 (h:=d0_ 23 (h:=d0_ 24 (h:=dpf_ 25 (h:=da_ 26 (h:=z_ (h:=t_ (aw_ret (?_))))))))))))
            refine e_ret ?_
            first | rfl | (exfalso; simp_all)
        · have hc7 := bp hb7
          refine d0_ 10 (h:=d0_ 11 (h:=d0_ 12 (h:=d0_ 13 (h:=d0_ 14 (h:=d0_ 15 (h:=dpf_ 16 (h:=dm_ 17 (h:=d0_ 18 (h:=d0_ 19 (h:=d0_ 20 (h:=d0_ 21 (h:=d0_ 22 (h:=d0_ 23 (h:=d0_ 24 (h:=dpf_ 25 (h:=da_ 26 (h:=z_ (h:=t_ (aw_ret (?_))))))))))))))))))))
          refine e_ret ?_
          first | rfl | (exfalso; simp_all)
      · have hc6 := bp hb6
        refine d0_ 6 (h:=d0_ 7 (h:=dpf_ 8 (h:=dm_ 9 (h:=d0_ 10 (h:=d0_ 11 (h:=d0_ 12 (h:=d0_ 13 (h:=d0_ 14 (h:=d0_ 15 (h:=dpf_ 16 (h:=dm_ 17 (h:=d0_ 18 (h:=d0_ 19 (h:=d0_ 20 (h:=d0_ 21 (h:=d0_ 22 (h:=d0_ 23 (h:=d0_ 24 (h:=dpf_ 25 (h:=da_ 26 (h:=z_ (h:=t_ (aw_ret (?_))))))))))))))))))))))))
        refine e_ret ?_
        first | rfl | (exfalso; simp_all)
    · have hc5 := bp hb5
      refine d0_ 3 (h:=dpf_ 4 (h:=dm_ 5 (h:=d0_ 6 (h:=d0_ 7 (h:=dpf_ 8 (h:=dm_ 9 (h:=d0_ 10 (h:=d0_ 11 (h:=d0_ 12 (h:=d0_ 13 (h:=d0_ 14 (h:=d0_ 15 (h:=dpf_ 16 (h:=dm_ 17 (h:=d0_ 18 (h:=d0_ 19 (h:=d0_ 20 (h:=d0_ 21 (h:=d0_ 22 (h:=d0_ 23 (h:=d0_ 24 (h:=dpf_ 25 (h:=da_ 26 (h:=?_))))))))))))))))))))))))
      refine z_ (h:=t_ (aw_ret (?_)))
      refine e_ret ?_
      first | rfl | (exfalso; simp_all)

end
end Go.Proofs.Ytgliiknfmlmddaa
namespace Go.Proofs.Ytgliiknfmlmddaa
open Go.RowKit

def StAll (w : World) : Nat → Nat → Prop := fun b _ => b < w.heap.size
def Opens (P : Program) (t : TypeId) (R : List AV → Prop) : Prop :=
  ∀ (H : Type) (enc : TypeId × Value → H) (w : World) (base : Nat) (spare : Nat → Bool) (held : Bool) (fuel : Nat) (cs : List Value) (x : DataW H × List MemPlace), DataW.trod enc P w base spare held fuel t cs = some x →
    ∃ row, R row ∧ froL (StAll w) w row cs ∧ ∀ u ∈ cs, u.oneCell' = true
section
variable {P : Program} {t : TypeId}
theorem Opens.mono {R R' : List AV → Prop} (h : Opens P t R) (hR : ∀ r, R r → R' r) : Opens P t R' := by
  intro H enc w base spare held fuel cs x hx
  obtain ⟨row, h1, h2⟩ := h H enc w base spare held fuel cs x hx
  exact ⟨row, hR _ h1, h2⟩
theorem opens_int {k : IntKind} (ht : P.underlying t = some (.int k)) : Opens P t fun r => ∃ n, r = [.v (.int k n)] ∧ (Lit.int k n).wf = true := by
  intro H enc w base spare held fuel cs x hx
  obtain ⟨b, rfl, _, hw⟩ := DataW.trod_int ht hx
  exact ⟨_, ⟨b, rfl, hw⟩, ⟨_, _, rfl, by simp only [fro], by simp only [froL]⟩, by simp [Value.oneCell']⟩
theorem cell_lt' {w : World} {b o : Nat} {v : Value} (h : w.cell? ⟨b, o, none⟩ = some v) : b < w.heap.size := by
  rcases Nat.lt_or_ge b w.heap.size with hlt | hge
  · exact hlt
  · simp [World.cell?, Array.getElem?_eq_none hge] at h
theorem froL_length' {St : Nat → Nat → Prop} {w : World} {xs : List AV} {ys : List Value} (h : froL St w xs ys) : ys.length = xs.length := repL_length (G := ⟨St, [], []⟩) (repL_fro (G := ⟨St, [], []⟩) _ _ h)
theorem opens_slice {e : TypeId} {n : Nat} {R : List AV → Prop} (ht : P.underlying t = some (.slice e)) (hc : P.cellsOf e = n) (hn : 0 < n) (h : Opens P e R) : Opens P t fun r => ∃ rows, r = [.sl n rows none] ∧ rows.length ≤ maxLen ∧ ∀ x ∈ rows, R x := by
  intro H enc w base spare held fuel cs x hx
  rcases DataW.trod_slice ht hx with ⟨rfl, _⟩ | ⟨⟨b, off, spot⟩, len, cap, elems, rest, m, rfl, rfl, _, hb, hl, hm, hlen, hel, _, _⟩
  · exact ⟨_, ⟨[], rfl, Nat.zero_le _, by simp⟩, ⟨_, _, rfl, by simp only [fro]; exact ⟨trivial, none, 0, rfl, Nat.le_refl _, Nat.zero_le _, .inl trivial⟩, by simp only [froL]⟩, by simp [Value.oneCell']⟩
  · have each : ∀ i, i < len → ∃ row cs', R row ∧ row.length = n ∧ froL (StAll w) w row cs' ∧ (∀ u ∈ cs', u.oneCell' = true) ∧ cs'.length = n ∧ ∀ j, j < n → w.cell? (Addr.add ⟨b, off, spot⟩ (i * n + j)) = cs'[j]? := by
      intro i hi
      have h1 := hel i hi
      rw [hc, List.getElem?_eq_getElem (by omega), Option.bind_eq_some_iff] at h1
      obtain ⟨cs', h2, h3⟩ := h1
      obtain ⟨row, r1, r2, r3⟩ := h _ _ _ _ _ _ _ _ _ h3
      obtain ⟨_, c1, c2⟩ := World.cells?_some h2
      refine ⟨row, cs', r1, by rw [← froL_length' r2, c1], r2, r3, c1, fun j hj => ?_⟩
      have := c2 j hj
      rwa [Addr.add_add] at this
    have hrows : ∃ rows : List (List AV), rows.length = len ∧ (∀ i, i < len → ∃ row cs', rows[i]? = some row ∧ R row ∧ row.length = n ∧ froL (StAll w) w row cs' ∧ (∀ u ∈ cs', u.oneCell' = true) ∧ cs'.length = n ∧ ∀ j, j < n → w.cell? (Addr.add ⟨b, off, spot⟩ (i * n + j)) = cs'[j]?) := by
      clear hel
      have : ∀ k, k ≤ len → ∃ rows : List (List AV), rows.length = k ∧ (∀ i, i < k → ∃ row cs', rows[i]? = some row ∧ R row ∧ row.length = n ∧ froL (StAll w) w row cs' ∧ (∀ u ∈ cs', u.oneCell' = true) ∧ cs'.length = n ∧ ∀ j, j < n → w.cell? (Addr.add ⟨b, off, spot⟩ (i * n + j)) = cs'[j]?) := by
        intro k
        induction k with
        | zero => intro _; exact ⟨[], rfl, fun i hi => by omega⟩
        | succ k ih =>
          intro hk
          obtain ⟨rows, e1, e2⟩ := ih (by omega)
          obtain ⟨row, cs', q⟩ := each k (by omega)
          refine ⟨rows ++ [row], by simp [e1], fun i hi => ?_⟩
          rcases Nat.lt_or_ge i k with hlt | hge
          · obtain ⟨row', cs'', q1, q2⟩ := e2 i hlt
            exact ⟨row', cs'', by rw [List.getElem?_append_left (by omega)]; exact q1, q2⟩
          · obtain rfl : i = k := by omega
            exact ⟨row, cs', by rw [List.getElem?_append_right (by omega), e1]; simp, q⟩
      exact this len (Nat.le_refl _)
    obtain ⟨rows, e1, e2⟩ := hrows
    refine ⟨_, ⟨rows, rfl, by omega, fun x hx => ?_⟩, ⟨_, _, rfl, ?_, by simp only [froL]⟩, by simp [Value.oneCell']⟩
    · obtain ⟨i, hi⟩ := List.getElem?_of_mem hx
      obtain ⟨row, _, q1, q2, _⟩ := e2 i (by rw [← e1]; exact (List.getElem?_eq_some_iff.1 hi).1)
      rw [hi] at q1
      injection q1 with q1
      subst q1
      exact q2
    · simp only [fro]
      refine ⟨trivial, some ⟨b, off, spot⟩, cap, by rw [e1], by omega, hm, ?_⟩
      rcases Nat.eq_zero_or_pos len with h0 | h0
      · left; exact List.eq_nil_of_length_eq_zero (by omega)
      · right
        have hspot : spot = none := by
          obtain ⟨_, cs', _, _, _, _, _, c3, c4⟩ := e2 0 h0
          have := c4 0 hn
          rw [List.getElem?_eq_getElem (by omega)] at this
          simpa [Addr.add] using World.cell?_spot this
        subst hspot
        refine ⟨b, off, rfl, ?_⟩
        have : ∀ (rs : List (List AV)) (k : Nat), (∀ i r, rs[i]? = some r → rows[k + i]? = some r) → froR (StAll w) w b n rs (off + k * n) := by
          intro rs
          induction rs with
          | nil => intro k _; simp only [froR]
          | cons r rs ih =>
            intro k hk
            simp only [froR]
            have h1 := hk 0 r rfl
            rw [Nat.add_zero] at h1
            obtain ⟨row, cs', q1, _, q3, q4, q5, q6, q7⟩ := e2 k (by rw [← e1]; exact (List.getElem?_eq_some_iff.1 h1).1)
            rw [h1] at q1
            injection q1 with q1
            subst q1
            refine ⟨⟨q3, froC_of fun i x hi => ?_⟩, ?_⟩
            · obtain ⟨u, u1, u2⟩ := froL_get q4 hi
              have hin : i < n := by rw [← q3]; exact (List.getElem?_eq_some_iff.1 hi).1
              have hc := q7 i hin
              rw [u1] at hc
              have hc' : w.cell? ⟨b, off + k * n + i, none⟩ = some u := by rw [Addr.add_mid] at hc; rwa [Nat.add_assoc]
              exact ⟨cell_lt' hc', u, hc', q5 u (List.mem_of_getElem? u1), u2⟩
            · have := ih (k + 1) (fun i r' hi => by
                have := hk (i + 1) r' (by simpa using hi)
                rwa [show k + 1 + i = k + (i + 1) by omega])
              rwa [show off + (k + 1) * n = off + k * n + n by rw [Nat.add_mul]; omega] at this
        simpa using this rows 0 (fun i r hi => by simpa using hi)
theorem rows_map {α : Type} {enc : α → List AV} {Q : α → Prop} : ∀ {rows : List (List AV)}, (∀ x ∈ rows, ∃ a, x = enc a ∧ Q a) → ∃ l : List α, rows = l.map enc ∧ ∀ a ∈ l, Q a
  | [], _ => ⟨[], rfl, by simp⟩
  | r :: rs, h => by
    obtain ⟨a, rfl, ha⟩ := h r (by simp)
    obtain ⟨l, rfl, hl⟩ := rows_map (rows := rs) fun x hx => h x (by simp [hx])
    exact ⟨a :: l, rfl, by simpa using ⟨ha, hl⟩⟩
theorem Opens.one {R : List AV → Prop} (h : Opens P t R) {H : Type} {enc : TypeId × Value → H} {w : World} {base : Nat} {spare : Nat → Bool} {held : Bool} {v : Value} {d : DataW H} {ps : List MemPlace} (hv : v.cells = #[v]) (hd : DataW.Trod enc P w base spare held t v d ps) :
    ∃ row, R row ∧ froL (StAll w) w row [v] := by
  obtain ⟨fuel, hf⟩ := hd
  rw [hv] at hf
  obtain ⟨row, h1, h2, _⟩ := h _ _ _ _ _ _ _ _ _ hf
  exact ⟨row, h1, h2⟩
end
end Go.Proofs.Ytgliiknfmlmddaa
namespace Go.Proofs.Ytgliiknfmlmddaa
open Go.RowKit

theorem opInts : Opens Try.prog 22 (fun r => ∃ l : List Int, r = [.sl 1 (l.map intA) none]) :=
  (opens_slice (n := 1) Try.underlying22 (by kernel_rfl) (by omega) (opens_int Try.underlying3)).mono (by
    rintro r ⟨rows, rfl, _, hr⟩
    obtain ⟨l, rfl, _⟩ := rows_map (enc := intA) (Q := fun _ => True) (fun x hx => by obtain ⟨t, rfl, _⟩ := hr x hx; exact ⟨t, rfl, trivial⟩)
    exact ⟨l, rfl⟩)
theorem ints_one {H : Type} {enc : TypeId × Value → H} {sp : Nat → Bool} {held : Bool} {base : Nat} {w : World} {a : Option Addr} {n c : Nat} {d : DataW H} {p : List MemPlace} (h : DataW.Trod enc Try.prog w base sp held 22 (.slice a n c) d p) :
    ∃ l : List Int, rep ⟨StAll w, [], []⟩ w (.sl 1 (l.map intA) none) (.slice a n c) := by
  obtain ⟨r0, ⟨l, rfl⟩, k0⟩ := opInts.one rfl h
  simp only [froL] at k0
  obtain ⟨_, _, e0, k0, rfl⟩ := k0
  injection e0 with e0
  subst e0
  exact ⟨l, rep_fro (G := ⟨StAll w, [], []⟩) _ _ k0⟩
theorem walk_ints {f : FuncId} (hf : ∀ l : List Int, AFn Try.prog f [.sl 1 (l.map intA) none] (fun x => x = .v (.bool true))) {H : Type} {enc : TypeId × Value → H} {sp : Nat → Bool} {held : Bool} {base : Nat} (a : Option Addr) (n c : Nat) (w : World) {d : DataW H} {p : List MemPlace}
    (h : DataW.Trod enc Try.prog w base sp held 22 (.slice a n c) d p) : Calls Try.prog f #[.slice a n c] w fun e w' => e = .returned (.bool true) ∧ Below w.heap.size w w' := by
  obtain ⟨l, k⟩ := ints_one h
  refine calls_of (vs := [.slice a n c]) (hf l) (StAll w) (fun b o h => h) ?_
  simp only [repL]
  exact ⟨_, _, rfl, k, rfl⟩
end Go.Proofs.Ytgliiknfmlmddaa
namespace Go.Proofs.Ytgliiknfmlmddaa
open Go.RowKit

theorem mtd_of {s : Spc} {dev : Int} (h : mtdL s dev = true) (h0 : dev ≠ 0) : ∃ m ∈ s.mounts, m.1 = dev := by
  unfold mtdL onL at h
  simp only [Bool.or_eq_true, decide_eq_true_eq, h0, or_false] at h
  cases hf : s.mounts.find? fun m : Mnt => decide (m.1 = dev) with
  | none => rw [hf] at h; cases h
  | some m => exact ⟨m, List.mem_of_find?_eq_some hf, by have := List.find?_some hf; simpa using this⟩
theorem mtd_mem {s : Spc} {m : Mnt} (h : m ∈ s.mounts) : mtdL s m.1 = true := by
  unfold mtdL onL
  rw [Bool.or_eq_true]
  refine .inl ?_
  rw [Option.isSome_map]
  cases hf : s.mounts.find? fun m' : Mnt => decide (m'.1 = m.1) with
  | none => have := List.find?_eq_none.1 hf m h; simp at this
  | some m => rfl
theorem mtd_mono {f : Fls} {ms ms' : List Mnt} {dev : Int} (h : mtdL ⟨f, ms⟩ dev = true) (hs : ∀ m ∈ ms, m ∈ ms') : mtdL ⟨f, ms'⟩ dev = true := by
  by_cases h0 : dev = 0
  · unfold mtdL; simp [h0]
  · obtain ⟨m, hm, rfl⟩ := mtd_of h h0
    exact mtd_mem (s := ⟨f, ms'⟩) (hs m hm)
end Go.Proofs.Ytgliiknfmlmddaa
namespace Go.Proofs.Ytgliiknfmlmddaa
open Go.RowKit

def nextL (s : Spc) (C : Fil → List Fil) (a : Fil) : List Fil := match stepR s a with
  | none => []
  | some b => C b
section
set_option maxRecDepth 10000
set_option maxHeartbeats 1000000
theorem Rchain_step (s : Spc) (a : Fil) (hs : SpcB s) (C : Fil → List Fil) (hC : ∀ b, (C b).length ≤ 900000) (hid : dirL s.files a = true → (nodG s.files a).ino = a.2)
    (hrec : dirL s.files a = true → ∀ b, stepR s a = some b → AFn Try.prog 53 [.agg (spcA s), .agg (filA b)] (fun r => r = .sl 2 ((C b).map filA) none)) :
    AFn Try.prog 53 [.agg (spcA s), .agg (filA a)] (fun r => r = .sl 2 ((if dirL s.files a = true then a :: nextL s C a else []).map filA) none) := by
  have hde := dirL_eq s.files a
  refine enter Try.func53 rfl rfl rfl rfl rfl 0 rfl ?_
  refine w_ (b_ (h:=b_ (h:=a_ (h:=e_ (w_ (f_ (h:=l_ (h:=l_ (h:=?_)))))))))
  refine al_p rfl (q_call (Rnode s.files a hs.files) ?_)
  rintro r rfl
  refine m_ (h:=x_ (h:=x_ (h:=al_ (h:=s_ (h:=a_ (h:=e_ (q_ (w_ (m_ (h:=nt_ (h:=m_ (h:=?_))))))))))))
  refine al_gs false rfl rfl (fun hb1 => ?_) (fun hb1 => ?_)
  · have hc1 := bp hb1
    refine g0_ (h:=g0_ (h:=g0_ (h:=pt_ (h:=e_ (cy_ (h:=w_ (a_ (h:=e_ (aw_ret (x_thenR (?_)))))))))))
    refine rt_ (r := .sl 2 ((if dirL s.files a = true then a :: nextL s C a else []).map filA) none) none (h5 := ?_) (h6 := ⟨rfl, rfl, rfl⟩)
    rw [if_neg (by rw [hde]; simp_all)]
    exact LeA.nil _
  · have hc1 := bp hb1
    refine f_ (h:=l_ (h:=nq_ (h:=pf_ (h:=e_ (?_)))))
    refine aw_cond rfl (fun hb2 => ?_) (fun hb2 => ?_)
    · have hc2 := bp hb2
      refine w_ (a_ (h:=e_ (aw_ret (x_thenR (?_)))))
      refine rt_ (r := .sl 2 ((if dirL s.files a = true then a :: nextL s C a else []).map filA) none) none (h5 := ?_) (h6 := ⟨rfl, rfl, rfl⟩)
      rw [if_neg (by rw [hde]; simp_all)]
      exact LeA.nil _
    · have hc2 := bp hb2
      refine kt_ (w_ (l_ (h:=?_)))
      refine al_p rfl (s_slitT (by repeat (first | exact DenseA.nil _ | (apply DenseA.cons; (focus exact rfl); (focus exact rfl); (focus exact rfl); (focus exact rfl)) | (apply DenseA.consE; (focus exact rfl); (focus exact rfl); (focus exact rfl)))) rfl rfl rfl rfl (by repeat constructor) ?_)
      refine a_ (h:=e_ (q_ (w_ (f_ (h:=l_ (h:=nq_ (h:=e_ (?_))))))))
      refine aw_cond rfl (fun hb3 => ?_) (fun hb3 => ?_)
      · have hc3 := bp hb3
        have hdd : dirL s.files a = true := by rw [hde, hc1, decide_eq_true hc2]; rfl
        have hst : stepR s a = some (a.1, (nodG s.files a).parent) := if_pos hc3
        have hCl := hC (a.1, (nodG s.files a).parent)
        refine w_ (m_ (h:=l_ (h:=f_ (h:=l_ (h:=f_ (h:=l_ (h:=bd_ (h:=?_))))))))
        refine al_p rfl (q_call (hrec hdd (a.1, (nodG s.files a).parent) hst) ?_)
        rintro r rfl
        · skip
          refine ap_ (h:=a_ (h:=e_ (aw_ret (x_thenR (?_)))))
          refine e_ret ?_
          rw [if_pos hdd, show nextL s C a = C _ by unfold nextL; rw [hst]]
          rfl
      · have hc3 := bp hb3
        have hdd : dirL s.files a = true := by rw [hde, hc1, decide_eq_true hc2]; rfl
        have hsr : stepR s a = onL s a.1 := if_neg (fun h => h hc3)
        refine kt_ (q_ (w_ (l_ (h:=f_ (h:=l_ (h:=?_))))))
        refine al_p rfl (q_call (Ron s a.1 hs) ?_)
        rintro r rfl
        refine m_ (h:=x_ (h:=x_ (h:=al_ (h:=s_ (h:=a_ (h:=e_ (w_ (m_ (h:=e_ (?_))))))))))
        refine aw_cond rfl (fun hb4 => ?_) (fun hb4 => ?_)
        · have hc4 := bp hb4
          have hst : stepR s a = some ((onL s a.1).getD (0, 0)) := by rw [hsr]; cases ho : onL s a.1 with
            | none => simp_all
            | some o => rfl
          have hCl := hC ((onL s a.1).getD (0, 0))
          refine w_ (m_ (h:=l_ (h:=l_ (h:=?_))))
          refine al_p rfl (q_call (hrec hdd ((onL s a.1).getD (0, 0)) hst) ?_)
          rintro r rfl
          · skip
            refine ap_ (h:=a_ (h:=e_ (aw_ret (x_thenR (?_)))))
            refine e_ret ?_
            rw [if_pos hdd, show nextL s C a = C _ by unfold nextL; rw [hst]]
            rfl
        · have hc4 := bp hb4
          refine kt_ (w_ (m_ (h:=a_ (h:=e_ (aw_ret (?_))))))
          refine e_ret ?_
          rw [if_pos hdd, show nextL s C a = [] by unfold nextL; rw [hsr]; cases ho : onL s a.1 with
            | none => rfl
            | some o => simp_all]
          rfl

theorem chainP_len' (s : Spc) : ∀ (k : Nat) (a : Fil), (chainP s k a).length ≤ k
  | 0, _ => by simp [chainP]
  | k + 1, a => by
    unfold chainP
    split
    · cases h : stepC s a with
      | none => simp
      | some b => have := chainP_len' s k b; simp; omega
    · simp
theorem Rchain {s : Spc} (hs : SpcB s) (hv : SpcV s) : ∀ (k : Nat) (a : Fil), k ≤ 900000 → ends s k a → AFn Try.prog 53 [.agg (spcA s), .agg (filA a)] (fun r => r = .sl 2 ((chainP s k a).map filA) none) := by
  have hid : ∀ a, dirL s.files a = true → (nodG s.files a).ino = a.2 := by
    intro a h
    obtain ⟨q, d, m, _, _, _, h4, h5, _⟩ := dir_node (f := s.files) (a := a) (by rw [h]; simp)
    rw [h5, h4]
  intro k
  induction k with
  | zero =>
    intro a _ h
    refine (Rchain_step s a hs (fun _ => []) (fun _ => Nat.zero_le _) (hid a) (fun hd => by rw [show dirL s.files a = false from h] at hd; cases hd)).mono fun r hr => ?_
    rw [hr, if_neg (by rw [show dirL s.files a = false from h]; simp)]
    rfl
  | succ k ih =>
    intro a hk h
    refine (Rchain_step s a hs (chainP s k) (fun b => by have := chainP_len' s k b; omega) (hid a) (fun hd b hb => ih b (by omega) ((h.resolve_left (by rw [hd]; simp)) b hb))).mono fun r hr => ?_
    rw [hr]
    by_cases hd : dirL s.files a = false
    · rw [chain_no hd, if_neg (by rw [hd]; simp)]
    · rw [chain_yes hd, if_pos (by simpa using hd), step_eq hv hd]
      unfold nextL
      cases stepR s a <;> rfl
end
end Go.Proofs.Ytgliiknfmlmddaa
namespace Go.Proofs.Ytgliiknfmlmddaa

section
variable {s : Spc} (hv : SpcV s)
include hv
theorem node_in {q : Nat} {d : Dvc} {p : Nod} {x : Int} (hq : s.files[q]? = some d) (hp : p ∈ d.nodes) (hx : p.ino = x) : nodeL s.files ((q : Int), x) = some p :=
  node_asc (a := ((q : Int), x)) rfl hq (hv.files.vd d (List.mem_of_getElem? hq)).asc hp hx
theorem step_dir {a b : Fil} (h : dirL s.files a = true) (hs : stepR s a = some b) : dirL s.files b = true := by
  obtain ⟨q, d, m, h1, h2, h3, h4, h5, h6⟩ := dir_node (f := s.files) (a := a) (by rw [h]; simp)
  have hd := hv.files.vd d (List.mem_of_getElem? h2)
  unfold stepR at hs
  by_cases h0 : a.2 ≠ 1
  · rw [if_pos h0] at hs
    injection hs with hs
    subst hs
    rw [h5, h1]
    obtain ⟨p, hp, hpi, e, he, _⟩ := hd.par m h3 (by rw [h4]; exact h0) h6
    have hk : p.kind = 2 := by
      by_cases hk : p.kind = 2
      · exact hk
      · have := (hd.leaf p hp hk).2
        rw [this] at he; cases he
    exact (dir_kind (node_in hv h2 hp hpi)).2 hk
  · rw [if_neg h0] at hs
    obtain ⟨m', hm', _, e⟩ := on_mem hs
    obtain ⟨i, hi⟩ := List.getElem?_of_mem hm'
    rw [← e]
    exact (hv.mnt i m' hi).dir
theorem step_mtd {a b : Fil} (h : mtdL s a.1 = true) (hs : stepR s a = some b) : mtdL s b.1 = true := by
  unfold stepR at hs
  by_cases h0 : a.2 ≠ 1
  · rw [if_pos h0] at hs
    injection hs with hs
    subst hs
    exact h
  · rw [if_neg h0] at hs
    obtain ⟨m', hm', _, e⟩ := on_mem hs
    obtain ⟨i, hi⟩ := List.getElem?_of_mem hm'
    rw [← e]
    exact mtd_mono (f := s.files) (hv.mnt i m' hi).there (fun x hx => List.mem_of_mem_take hx)
theorem on_zero : onL s 0 = none := by
  cases h : onL s 0 with
  | none => rfl
  | some on =>
    obtain ⟨m', hm', e, _⟩ := on_mem h
    obtain ⟨i, hi⟩ := List.getElem?_of_mem hm'
    have := (hv.mnt i m' hi).dev1
    omega
theorem step_some {a : Fil} (h : mtdL s a.1 = true) (h0 : a ≠ (0, 1)) : ∃ b, stepR s a = some b := by
  have _ := hv
  unfold stepR
  by_cases h1 : a.2 ≠ 1
  · exact ⟨_, if_pos h1⟩
  · rw [if_neg h1]
    have h2 : a.1 ≠ 0 := fun e => h0 (Prod.ext e (by simpa using h1))
    unfold mtdL at h
    rw [decide_eq_false h2, Bool.or_false] at h
    cases ho : onL s a.1 with
    | none => rw [ho] at h; cases h
    | some b => exact ⟨b, rfl⟩
theorem chain_cons {a : Fil} (h : dirL s.files a = true) : chainP s (mostL s.files) a = a :: (match stepR s a with
    | none => []
    | some b => chainP s (mostL s.files) b) := by
  have hd : ¬ dirL s.files a = false := by rw [h]; simp
  have he := ends_most hv a
  cases hm : mostL s.files with
  | zero => rw [hm] at he; exact absurd he hd
  | succ m =>
    rw [hm] at he
    rw [chain_yes hd, step_eq hv hd]
    cases hs : stepR s a with
    | none => rfl
    | some b =>
      simp only
      have h1 := he.resolve_left hd b hs
      have h2 := ends_most hv b
      rw [hm] at h2
      rw [chain_irr hv m (m + 1) b h1 h2]
theorem root_in {a : Fil} (h : dirL s.files a = true) (hm : mtdL s a.1 = true) : (0, 1) ∈ chainP s (mostL s.files) a := by
  have key : ∀ (k : Nat) (a : Fil), ends s k a → dirL s.files a = true → mtdL s a.1 = true → (0, 1) ∈ chainP s (mostL s.files) a := by
    intro k
    induction k with
    | zero => intro a he h _; rw [show dirL s.files a = false from he] at h; cases h
    | succ k ih =>
      intro a he h hm
      by_cases h0 : a = (0, 1)
      · rw [chain_cons hv h, h0]; exact List.mem_cons_self ..
      · obtain ⟨b, hb⟩ := step_some hv hm h0
        rw [chain_cons hv h, hb]
        exact List.mem_cons_of_mem _ (ih b (he.resolve_left (by rw [h]; simp) b hb) (step_dir hv h hb) (step_mtd hv hm hb))
  exact key _ a (ends_most hv a) h hm
theorem where_no {a : Fil} (h : ¬(dirL s.files a = true ∧ mtdL s a.1 = true)) : whereP s a = (⟨#[]⟩, false) := by
  have _ := hv
  unfold whereP
  rw [if_neg fun c => h ⟨c.1, c.2.1⟩]
theorem where_yes {a : Fil} (h : dirL s.files a = true) (hm : mtdL s a.1 = true) : whereP s a = (pathW s ((chainP s (mostL s.files) a).takeWhile fun x => decide (x ≠ (0, 1))), true) := by
  unfold whereP
  rw [if_pos ⟨h, hm, root_in hv h hm⟩]
theorem where_root (h : dirL s.files (0, 1) = true) : whereP s (0, 1) = (⟨#[47]⟩, true) := by
  rw [where_yes hv h (by unfold mtdL; simp), chain_cons hv h, List.takeWhile_cons]
  simp [pathW, accW]
theorem where_step {a b : Fil} (h : dirL s.files a = true) (hm : mtdL s a.1 = true) (h0 : a ≠ (0, 1)) (hb : stepR s a = some b) : whereP s a = (if a.2 = 1 then (whereP s b).1 else joinS (whereP s b).1 (nmoL s a), true) ∧ (whereP s b).2 = true := by
  rw [where_yes hv h hm, where_yes hv (step_dir hv h hb) (step_mtd hv hm hb), chain_cons hv h, hb, List.takeWhile_cons]
  simp only [h0, ne_eq, not_false_eq_true, decide_true, if_true]
  refine ⟨?_, trivial⟩
  unfold pathW accW
  rw [List.filter_cons]
  by_cases h1 : a.2 = 1
  · simp [h1]
  · simp [h1]
def upF (s : Spc) : Nat → Fil → Fil
  | 0, a => a
  | k + 1, a => if dirL s.files a = true then (if a.2 ≠ 1 then (a.1, (nodG s.files a).parent) else match onL s a.1 with
    | some on => upF s k on
    | none => a) else (0, 0)
omit hv in
theorem pos_le (dev : Int) : posM s dev ≤ s.mounts.length := by
  unfold posM
  cases h : s.mounts.findIdx? fun m : Mnt => decide (m.1 = dev) with
  | none => simp
  | some i =>
    have := (List.findIdx?_eq_some_iff_getElem.1 h).1
    simp only
    omega
theorem mnt_one {i j : Nat} {m m' : Mnt} (hi : s.mounts[i]? = some m) (hj : s.mounts[j]? = some m') (h : m.1 = m'.1) : i = j := by
  have key : ∀ {i j : Nat} {m m' : Mnt}, s.mounts[i]? = some m → s.mounts[j]? = some m' → m.1 = m'.1 → ¬ i < j := by
    intro i j m m' hi hj h hlt
    have hf := (hv.mnt j m' hj).fresh
    have hm : m ∈ s.mounts.take j := by
      refine List.mem_of_getElem? (i := i) ?_
      rw [List.getElem?_take, if_pos hlt]; exact hi
    have := mtd_mem (s := ⟨s.files, s.mounts.take j⟩) hm
    rw [h, hf] at this
    cases this
  have h1 := key hi hj h
  have h2 := key hj hi h.symm
  omega
omit hv in
theorem cov_mem {a : Fil} {d : Int} (h : covL s a = some d) : ∃ i : Nat, s.mounts[i]? = some ((d, a) : Mnt) := by
  unfold covL at h
  cases hf : s.mounts.find? fun m : Mnt => decide (m.2 = a) with
  | none => rw [hf] at h; cases h
  | some m =>
    rw [hf] at h
    injection h with h
    have h2 := List.find?_some hf
    simp only [decide_eq_true_eq] at h2
    obtain ⟨i, hi⟩ := List.getElem?_of_mem (List.mem_of_find?_eq_some hf)
    exact ⟨i, by rw [hi, ← h, ← h2]⟩
omit hv in
theorem cov_none {a : Fil} (h : ∀ (i : Nat) (m : Mnt), s.mounts[i]? = some m → m.2 ≠ a) : covL s a = none := by
  cases hc : covL s a with
  | none => rfl
  | some d => obtain ⟨i, hi⟩ := cov_mem hc; exact absurd rfl (h i _ hi)
theorem down_end : ∀ (n : Nat) (a : Fil), (∀ (i : Nat) (m : Mnt), s.mounts[i]? = some m → m.2 = a → s.mounts.length ≤ i + n) → covL s (itD s n a) = none := by
  intro n
  induction n with
  | zero =>
    intro a h
    refine cov_none fun i m hi e => ?_
    have h1 := h i m hi e
    have h2 := (List.getElem?_eq_some_iff.1 hi).1
    omega
  | succ n ih =>
    intro a h
    cases hc : covL s a with
    | none => rw [itD_fix (by rw [hc]; rfl)]; exact hc
    | some d =>
      obtain ⟨i, hi⟩ := cov_mem hc
      rw [itD]
      refine ih _ fun j m hj e => ?_
      have he : stepD s a = (d, 1) := by unfold stepD; rw [hc]
      rw [he] at e
      have h1 := h i _ hi rfl
      have hth := (hv.mnt j m hj).there
      have hd1 := (hv.mnt i _ hi).dev1
      rw [e] at hth
      obtain ⟨m'', hm'', e2⟩ := mtd_of hth (by simp only at hd1 ⊢; omega)
      obtain ⟨k, hk⟩ := List.getElem?_of_mem hm''
      have hkj : k < j := by
        have := (List.getElem?_eq_some_iff.1 hk).1
        simp at this
        omega
      rw [List.getElem?_take, if_pos hkj] at hk
      have := mnt_one hv hk hi e2
      omega
omit hv in
theorem itD_succ : ∀ (n : Nat) (a : Fil), itD s (n + 1) a = stepD s (itD s n a)
  | 0, _ => rfl
  | n + 1, a => itD_succ n (stepD s a)
theorem down_eq (a : Fil) : itD s (s.mounts.length + 1) a = itD s s.mounts.length a := by
  rw [itD_succ]
  refine stepD_none ?_
  rw [down_end hv _ a (fun i m _ _ => by omega)]
  rfl
theorem on_of {i : Nat} {m : Mnt} (hi : s.mounts[i]? = some m) : onL s m.1 = some m.2 := by
  have h1 : mtdL s m.1 = true := mtd_mem (List.mem_of_getElem? hi)
  have hd := (hv.mnt i m hi).dev1
  unfold mtdL at h1
  rw [decide_eq_false (by omega), Bool.or_false] at h1
  cases ho : onL s m.1 with
  | none => rw [ho] at h1; cases h1
  | some on =>
    obtain ⟨m', hm', e1, e2⟩ := on_mem ho
    obtain ⟨j, hj⟩ := List.getElem?_of_mem hm'
    have := mnt_one hv hj hi e1
    subst this
    rw [hi] at hj
    injection hj with hj
    rw [← e2, hj]
theorem seg {x : Fil} {dev : Int} (hc : covL s x = some dev) : ∀ (k : Nat) (y : Fil), ends s k y → dirL s.files y = true → y.1 = dev → ∃ t r, chainP s (mostL s.files) y = t ++ (dev, 1) :: x :: r := by
  intro k
  induction k with
  | zero => intro y he h _; rw [show dirL s.files y = false from he] at h; cases h
  | succ k ih =>
    intro y he h hy
    obtain ⟨i, hi⟩ := cov_mem hc
    by_cases h1 : y.2 = 1
    · have hs : stepR s y = some x := by
        unfold stepR
        rw [if_neg (by simpa using h1), hy]
        exact on_of hv hi
      obtain ⟨t, ht⟩ := chain_head hv (step_dir hv h hs)
      refine ⟨[], t, ?_⟩
      rw [chain_cons hv h, hs]
      simp only [List.nil_append]
      rw [ht, ← hy, ← h1]
    · have hs : stepR s y = some (y.1, (nodG s.files y).parent) := if_pos h1
      obtain ⟨t, r, ht⟩ := ih _ (he.resolve_left (by rw [h]; simp) _ hs) (step_dir hv h hs) hy
      refine ⟨y :: t, r, ?_⟩
      rw [chain_cons hv h, hs]
      simp only [List.cons_append]
      rw [ht]
def okAt (s : Spc) (L : List Fil) (i : Nat) : Bool := match L[i]? with
  | none => true
  | some x => match covL s x with
    | none => true
    | some dev => decide (0 < i) && decide (L[i - 1]? = some (dev, 1))
theorem sees_ok {a : Fil} {i : Nat} {x : Fil} (hi : (chainP s (mostL s.files) a)[i]? = some x) : okAt s (chainP s (mostL s.files) a) i = seesP s a x := by
  unfold okAt seesP
  simp only [hi]
  cases hc : covL s x with
  | none => rfl
  | some dev =>
    simp only
    rw [Bool.eq_iff_iff]
    simp only [Bool.and_eq_true, decide_eq_true_eq]
    constructor
    · rintro ⟨_, h2⟩
      exact ⟨_, List.mem_of_getElem? h2, rfl⟩
    · rintro ⟨y, hy, hyd⟩
      obtain ⟨t, r, ht⟩ := seg hv hc _ y (ends_most hv y) (within_dir hv hy) hyd
      obtain ⟨p, hp⟩ := most_suf hv hy
      have hL : chainP s (mostL s.files) a = (p ++ t) ++ (dev, 1) :: x :: r := by rw [← hp, ht, List.append_assoc]
      have hn := chain_nodup hv _ a (ends_most hv a)
      have hx : (chainP s (mostL s.files) a)[(p ++ t).length + 1]? = some x := by
        rw [hL, List.getElem?_append_right (by omega)]
        simp
      have hx0 : (chainP s (mostL s.files) a)[(p ++ t).length]? = some (dev, 1) := by
        rw [hL, List.getElem?_append_right (by omega)]
        simp
      have e : i = (p ++ t).length + 1 := by
        obtain ⟨h1, h2⟩ := List.getElem?_eq_some_iff.1 hi
        obtain ⟨h3, h4⟩ := List.getElem?_eq_some_iff.1 hx
        exact (List.getElem_inj hn).1 (h2.trans h4.symm)
      subst e
      exact ⟨by omega, hx0⟩
theorem vis_eq (a : Fil) : visP s a = ((whereP s a).2 && (List.range (chainP s (mostL s.files) a).length).all (okAt s (chainP s (mostL s.files) a))) := by
  unfold visP
  congr 1
  rw [Bool.eq_iff_iff, List.all_eq_true, List.all_eq_true]
  constructor
  · intro h i hi
    have hl := List.mem_range.1 hi
    rw [sees_ok hv (List.getElem?_eq_getElem hl)]
    exact h _ (List.getElem_mem hl)
  · intro h x hx
    obtain ⟨i, hi⟩ := List.getElem?_of_mem hx
    rw [← sees_ok hv hi]
    exact h i (List.mem_range.2 (List.getElem?_eq_some_iff.1 hi).1)
end
end Go.Proofs.Ytgliiknfmlmddaa
namespace Go.Proofs.Ytgliiknfmlmddaa
open Go.RowKit

theorem jn_size (d m : Str) : (joinS d m).size ≤ d.size + 1 + m.size := by
  unfold joinS
  split
  · rw [ByteArray.size_append]; omega
  · rw [ByteArray.size_append, ByteArray.size_append]
    show d.size + 1 + m.size ≤ _
    omega
theorem path_size {s : Spc} (hv : SpcV s) (pre : List Fil) : (pathW s pre).size ≤ 1 + 13 * pre.length := by
  have key : ∀ (l : List Str) (d : Str), (∀ x ∈ l, x.size ≤ 12) → (l.foldl joinS d).size ≤ d.size + 13 * l.length := by
    intro l
    induction l with
    | nil => intro d _; simp
    | cons x l ih =>
      intro d h
      have h1 := ih (joinS d x) fun y hy => h y (List.mem_cons_of_mem _ hy)
      have h2 := h x (List.mem_cons_self ..)
      have h3 := jn_size d x
      rw [List.foldl_cons, List.length_cons]
      omega
  have h := key (accW s pre).reverse ⟨#[47]⟩ (fun x hx => by
    rw [List.mem_reverse] at hx
    obtain ⟨y, _, rfl⟩ := List.mem_map.1 hx
    exact nmo_size hv.files y)
  have h2 : (accW s pre).length ≤ pre.length := by unfold accW; rw [List.length_map]; exact List.length_filter_le _ _
  rw [List.length_reverse] at h
  have : (⟨#[47]⟩ : Str).size = 1 := rfl
  unfold pathW
  omega
theorem where_size {s : Spc} (hv : SpcV s) (a : Fil) : (whereP s a).1.size ≤ 1000 := by
  unfold whereP
  split
  · have h3 := chainP_len' s (mostL s.files) a
    have h4 := most_le hv.files
    refine Nat.le_trans (path_size hv _) ?_
    refine Nat.le_trans (Nat.add_le_add_left (Nat.mul_le_mul_left 13 ((List.takeWhile_sublist _).length_le)) 1) ?_
    omega
  · exact Nat.zero_le _
theorem last_slash (d : Str) (h : 0 < d.size) : d.data.toList.getLast? = some 47 ↔ (((d[d.size - 1]'(by omega)).toNat : Int) = 47) := by
  have hl : d.data.toList.length = d.size := by simp
  rw [List.getLast?_eq_getElem?, hl, List.getElem?_eq_getElem (by omega)]
  show some (d[d.size - 1]'(by omega)) = some 47 ↔ _
  rw [Option.some.injEq]
  constructor
  · intro e; rw [e]; rfl
  · intro e
    refine UInt8.toNat_inj.1 ?_
    show _ = 47
    omega
theorem join_nil {d m : Str} (h : ¬ 0 < d.size) : joinS d m = d ++ ⟨#[47]⟩ ++ m := by
  refine if_neg fun e => ?_
  have hl : d.data.toList.length = d.size := by simp
  rw [List.getLast?_eq_getElem?, List.getElem?_eq_none (by omega)] at e
  cases e
section
set_option maxRecDepth 10000
set_option maxHeartbeats 1000000
theorem RjoinR (d m : Str) (hd : d.size ≤ 1000000) (hm : m.size ≤ 1000000) : AFn Try.prog 59 [.v (.string d), .v (.string m)] (fun r => r = .v (.string (joinS d m))) := by
  refine enter Try.func59 rfl rfl rfl rfl rfl 0 rfl ?_
  refine w_ (a_ (h:=e_ (q_ (w_ (m_ (h:=n_ (h:=gt_ (h:=m_ (h:=?_)))))))))
  refine al_gs true rfl rfl (fun hb1 => ?_) (fun hb1 => ?_)
  · have hc1 := bp hb1
    refine m_ (h:=m_ (h:=n_ (h:=sb_ (h:=?_))))
    refine g_y (st_strIdx (n := d.size - 1) Try.underlying9 rfl rfl (by omega) (by omega) ?_)
    refine eq_ (h:=pt_ (h:=e_ (?_)))
    refine aw_cond rfl (fun hb2 => ?_) (fun hb2 => ?_)
    · have hc2 := bp hb2
      refine w_ (m_ (h:=m_ (h:=?_)))
      refine al_p rfl (st_addS rfl rfl (by omega) ?_)
      refine a_ (h:=e_ (aw_ret (x_thenR (?_))))
      refine e_ret ?_
      rw [show joinS d m = d ++ m from if_pos ((last_slash d (by omega)).2 hc2)]
      rfl
    · have hc2 := bp hb2
      refine kt_ (w_ (m_ (h:=?_)))
      refine al_p rfl (st_addS rfl rfl (by show d.size + 1 ≤ _; omega) ?_)
      refine m_ (h:=?_)
      refine al_p rfl (st_addS rfl rfl (by rw [ByteArray.size_append]; show d.size + 1 + m.size ≤ _; omega) ?_)
      refine a_ (h:=e_ (aw_ret (?_)))
      refine e_ret ?_
      rw [show joinS d m = d ++ ⟨#[47]⟩ ++ m from if_neg (fun h => hc2 ((last_slash d (by omega)).1 h))]
      rfl
  · have hc1 := bp hb1
    refine g0_ (h:=g0_ (h:=g0_ (h:=g0_ (h:=g0_ (h:=g0_ (h:=pf_ (h:=e_ (cn_ (h:=kt_ (w_ (m_ (h:=?_))))))))))))
    refine al_p rfl (st_addS rfl rfl (by show d.size + 1 ≤ _; omega) ?_)
    refine m_ (h:=?_)
    refine al_p rfl (st_addS rfl rfl (by rw [ByteArray.size_append]; show d.size + 1 + m.size ≤ _; omega) ?_)
    refine a_ (h:=e_ (aw_ret (?_)))
    refine e_ret ?_
    rw [join_nil (by omega)]
    rfl

theorem RnameR (s : Spc) (a : Fil) (hs : SpcB s) : AFn Try.prog 60 [.agg (flsA s.files), .agg (filA a)] (fun r => r = .v (.string (nmoL s a))) := by
  have hen := nodG_ents hs.files (a.1, (nodG s.files a).parent)
  change (abvL s a).entries.length ≤ 1000 at hen
  refine enter Try.func60 rfl rfl rfl rfl rfl 0 rfl ?_
  refine w_ (b_ (h:=b_ (h:=a_ (h:=e_ (w_ (l_ (h:=l_ (h:=?_))))))))
  refine al_p rfl (q_call (Rnode s.files a hs.files) ?_)
  rintro r rfl
  · skip
    refine m_ (h:=x_ (h:=x_ (h:=al_ (h:=s_ (h:=a_ (h:=e_ (w_ (l_ (h:=f_ (h:=l_ (h:=f_ (h:=l_ (h:=bd_ (h:=?_))))))))))))))
    refine al_p rfl (q_call (Rnode s.files (a.1, (nodG s.files a).parent) hs.files) ?_)
    rintro r rfl
    · skip
      refine m_ (h:=x_ (h:=x_ (h:=al_ (h:=s_ (h:=a_ (h:=e_ (q_ (w_ (a_ (h:=e_ (aw_block (?_))))))))))))
      refine aw_loopW (fun m t => ∃ j : Nat, j ≤ (abvL s a).entries.length ∧ m = (abvL s a).entries.length - j ∧ (∀ i y, i < j → (abvL s a).entries[i]? = some y → decide (y.2 = a.2) = false) ∧ t = ⟨look [(3, .bp 1 0), (7, .bp 3 0), (9, .v (.int .i64 (j : Int)))], ⟨[flsA s.files, filA a, nodA (nodG s.files a), nodA (abvL s a)], []⟩⟩) ((abvL s a).entries.length) ((wk 4 0)) (⟨0, by omega, rfl, fun i y hi => by omega, rfl⟩) ?_
      rintro m t ⟨j, hj, rfl, ha, rfl⟩
      refine q_ (w_ (m_ (h:=f_ (h:=l_ (h:=n_ (h:=lt_ (h:=e_ (?_))))))))
      refine aw_cond rfl (fun hb1 => ?_) (fun hb1 => ?_)
      · have hc1 := bp hb1
        obtain ⟨hlt, x, hy, hrow, -⟩ := row_at entA hc1
        refine kt_ (q_ (aw_block (q_ (yr_ 9 (h:=df_ 0 (h:=dl_ 1 (h:=dm_ 2 (h:=di_ 3 (h:=df_ 4 (h:=dl_ 5 (h:=df_ 6 (h:=dl_ 7 (h:=deq_ 8 (h:=z_ (h:=t_ (?_))))))))))))))))
        refine aw_cond rfl (fun hb2 => ?_) (fun hb2 => ?_)
        · have hc2 := bp hb2
          refine w_ (f_ (h:=l_ (h:=m_ (h:=i_ (h:=f_ (h:=l_ (h:=a_ (h:=e_ (aw_ret (x_blockR (x_thenR (x_thenR (x_blockR (x_thenR (?_)))))))))))))))
          refine e_ret ?_
          rw [show nmoL s a = x.1 by simp only [nmoL]; rw [find_at hy (by simpa using hc2) ha]; rfl]
          rfl
        · have hc2 := bp hb2
          refine aw_skip (x_blockN (t_ (aw_region (m_ (h:=ad_ (h:=a_ (h:=al_nil (?_))))))))
          refine x_then ?_
          refine ⟨_, _, ?_, ⟨j + 1, by omega, rfl, upto_snoc hy ha (by simpa using hc2), rfl⟩, (wk 4 0)⟩
          omega
      · have hc1 := bp hb1
        have e3 := row_no entA hj hc1
        subst e3
        refine aw_exit (x_thenE (x_thenE (ABlock_out (t_ (w_ (a_ (h:=e_ (aw_ret (?_)))))))))
        refine e_ret ?_
        rw [show nmoL s a = ⟨#[]⟩ by simp only [nmoL]; rw [find_no ha]; rfl]
        rfl

end
end Go.Proofs.Ytgliiknfmlmddaa
namespace Go.Proofs.Ytgliiknfmlmddaa
open Go.RowKit

theorem dir_ino {f : Fls} {a : Fil} (h : dirL f a = true) : (nodG f a).ino = a.2 := by
  obtain ⟨q, d, m, _, _, _, h4, h5, _⟩ := dir_node (f := f) (a := a) (by rw [h]; simp)
  rw [h5, h4]
theorem on_get {s : Spc} {d : Int} (h : (onL s d).isSome = true) : onL s d = some ((onL s d).getD (0, 0)) := by
  cases ho : onL s d with
  | none => rw [ho] at h; cases h
  | some o => rfl
theorem on_no {s : Spc} {d : Int} (h : (onL s d).isSome = false) : onL s d = none := by
  cases ho : onL s d with
  | none => rfl
  | some o => rw [ho] at h; cases h
section
variable {s : Spc} {L : List Fil} {j : Nat} {x x1 : Fil} (hy : L[j]? = some x)
include hy
theorem ok_none (h : (covL s x).isSome = false) : okAt s L j = true := by
  unfold okAt
  cases hc : covL s x with
  | none => simp only [hy, hc]
  | some d => rw [hc] at h; cases h
theorem ok_first (h : (covL s x).isSome = true) (h0 : (j : Int) = 0) : okAt s L j = false := by
  unfold okAt
  cases hc : covL s x with
  | none => rw [hc] at h; cases h
  | some d => simp only [hy, hc]; rw [decide_eq_false (by omega)]; rfl
theorem ok_val (h : (covL s x).isSome = true) (h0 : ¬ (j : Int) = 0) (h1 : L[j - 1]? = some x1) : okAt s L j = decide ((x1.1, x1.2) = ((covL s x).getD 0, 1)) := by
  unfold okAt
  cases hc : covL s x with
  | none => rw [hc] at h; cases h
  | some d =>
    simp only [hy, hc]
    rw [decide_eq_true (by omega), h1, Bool.true_and]
    simp [Prod.ext_iff]
end
theorem up_no {s : Spc} {a : Fil} (k : Nat) (h : dirL s.files a = false) : upF s (k + 1) a = (0, 0) := by unfold upF; rw [h]; rfl
theorem up_in {s : Spc} {a : Fil} (k : Nat) (h : dirL s.files a = true) (h1 : ¬ a.2 = 1) : upF s (k + 1) a = (a.1, (nodG s.files a).parent) := by unfold upF; rw [if_pos h, if_pos h1]
theorem up_on {s : Spc} {a : Fil} (k : Nat) (h : dirL s.files a = true) (h1 : a.2 = 1) (ho : (onL s a.1).isSome = true) : upF s (k + 1) a = upF s k ((onL s a.1).getD (0, 0)) := by
  conv => lhs; unfold upF
  rw [if_pos h, if_neg (by simpa using h1), on_get ho]
  rfl
theorem up_root {s : Spc} {a : Fil} (k : Nat) (h : dirL s.files a = true) (h1 : a.2 = 1) (ho : (onL s a.1).isSome = false) : upF s (k + 1) a = a := by
  conv => lhs; unfold upF
  rw [if_pos h, if_neg (by simpa using h1), on_no ho]
section
set_option maxRecDepth 10000
set_option maxHeartbeats 1000000
theorem Rwhere_step {s : Spc} (hs : SpcB s) (hv : SpcV s) (a : Fil)
    (hrec : dirL s.files a = true → ∀ b, stepR s a = some b → AFn Try.prog 25 [.agg (spcA s), .agg (filA b)] (fun r => r = .tup [.v (.string (whereP s b).1), .v (.bool (whereP s b).2)])) :
    AFn Try.prog 25 [.agg (spcA s), .agg (filA a)] (fun r => r = .tup [.v (.string (whereP s a).1), .v (.bool (whereP s a).2)]) := by
  have hnm := nmo_size hv.files a
  have hwz := where_size hv
  refine enter Try.func25 rfl rfl rfl rfl rfl 0 rfl ?_
  refine w_ (b_ (h:=b_ (h:=a_ (h:=a_ (h:=e_ (q_ (w_ (f_ (h:=l_ (h:=l_ (h:=?_)))))))))))
  refine al_p rfl (q_call (Rdir s.files a hs.files) ?_)
  rintro r rfl
  refine nt_ (h:=m_ (h:=?_))
  refine al_gs false rfl rfl (fun hb1 => ?_) (fun hb1 => ?_)
  · have hc1 := bp hb1
    refine g0_ (h:=g0_ (h:=g0_ (h:=g0_ (h:=g0_ (h:=pt_ (h:=e_ (cy_ (h:=w_ (a_ (h:=a_ (h:=e_ (aw_ret (x_thenR (?_))))))))))))))
    refine e_ret ?_
    first | (rw [where_no hv (by simp_all)]; rfl) | (rw [hw1]; first | rfl | (rw [← hw2]; rfl)) | (rw [h00, where_root hv (by rw [← h00]; exact hc1)]; rfl)
  · have hc1 := bp hb1
    refine l_ (h:=f_ (h:=l_ (h:=?_)))
    refine g_y (q_call (Rmounted s a.1 hs) ?_)
    rintro r rfl
    refine nt_ (h:=pf_ (h:=e_ (?_)))
    refine aw_cond rfl (fun hb2 => ?_) (fun hb2 => ?_)
    · have hc2 := bp hb2
      refine w_ (a_ (h:=a_ (h:=e_ (aw_ret (x_thenR (?_))))))
      refine e_ret ?_
      first | (rw [where_no hv (by simp_all)]; rfl) | (rw [hw1]; first | rfl | (rw [← hw2]; rfl)) | (rw [h00, where_root hv (by rw [← h00]; exact hc1)]; rfl)
    · have hc2 := bp hb2
      refine kt_ (q_ (w_ (f_ (h:=l_ (h:=eq_ (h:=e_ (?_)))))))
      refine aw_cond rfl (fun hb3 => ?_) (fun hb3 => ?_)
      · have hc3 := bp hb3
        refine q_ (w_ (l_ (h:=f_ (h:=l_ (h:=?_)))))
        refine al_p rfl (q_call (Ron s a.1 hs) ?_)
        rintro r rfl
        refine m_ (h:=x_ (h:=x_ (h:=al_ (h:=s_ (h:=a_ (h:=e_ (w_ (m_ (h:=e_ (?_))))))))))
        refine aw_cond rfl (fun hb4 => ?_) (fun hb4 => ?_)
        · have hc4 := bp hb4
          have hst : stepR s a = some ((onL s a.1).getD (0, 0)) := by unfold stepR; rw [if_neg (by simpa using hc3)]; exact on_get hc4
          obtain ⟨hw1, hw2⟩ := where_step hv hc1 hc2 (fun e => by rw [e, on_zero hv] at hc4; cases hc4) hst
          rw [if_pos hc3] at hw1
          refine w_ (l_ (h:=l_ (h:=?_)))
          refine al_p rfl (q_call (hrec hc1 _ hst) ?_)
          rintro r rfl
          · skip
            refine x_ (h:=x_ (h:=a_ (h:=a_ (h:=e_ (aw_ret (x_thenR (x_thenR (?_))))))))
            refine e_ret ?_
            first | (rw [where_no hv (by simp_all)]; rfl) | (rw [hw1]; first | rfl | (rw [← hw2]; rfl)) | (rw [h00, where_root hv (by rw [← h00]; exact hc1)]; rfl)
        · have hc4 := bp hb4
          have h00 : a = (0, 1) := by
            refine Prod.ext ?_ hc3
            have := hc2
            unfold mtdL at this
            rw [hc4, Bool.false_or] at this
            exact of_decide_eq_true this
          refine kt_ (w_ (a_ (h:=a_ (h:=e_ (aw_ret (x_thenR (?_)))))))
          refine e_ret ?_
          first | (rw [where_no hv (by simp_all)]; rfl) | (rw [hw1]; first | rfl | (rw [← hw2]; rfl)) | (rw [h00, where_root hv (by rw [← h00]; exact hc1)]; rfl)
      · have hc3 := bp hb3
        have hst : stepR s a = some (a.1, (nodG s.files a).parent) := if_pos hc3
        obtain ⟨hw1, hw2⟩ := where_step hv hc1 hc2 (fun e => hc3 (by rw [e])) hst
        rw [if_neg hc3] at hw1
        refine kt_ (w_ (f_ (h:=l_ (h:=l_ (h:=?_)))))
        refine al_p rfl (q_call (Rnode s.files a hs.files) ?_)
        rintro r rfl
        refine m_ (h:=x_ (h:=x_ (h:=al_ (h:=s_ (h:=a_ (h:=e_ (w_ (l_ (h:=f_ (h:=l_ (h:=f_ (h:=l_ (h:=bd_ (h:=?_))))))))))))))
        refine al_p rfl (q_call (hrec hc1 _ hst) ?_)
        rintro r rfl
        · skip
          refine m_ (h:=x_ (h:=x_ (h:=a_ (h:=a_ (h:=e_ (w_ (m_ (h:=f_ (h:=l_ (h:=l_ (h:=?_)))))))))))
          refine al_p rfl (q_call (RnameR s a hs) ?_)
          rintro r rfl
          refine al_p rfl (q_call (RjoinR (whereP s (a.1, (nodG s.files a).parent)).1 (nmoL s a) (by have := hwz (a.1, (nodG s.files a).parent); omega) (by omega)) ?_)
          rintro r rfl
          refine m_ (h:=a_ (h:=a_ (h:=e_ (aw_ret (?_)))))
          refine e_ret ?_
          first | (rw [where_no hv (by simp_all)]; rfl) | (rw [hw1]; first | rfl | (rw [← hw2]; rfl)) | (rw [h00, where_root hv (by rw [← h00]; exact hc1)]; rfl)

theorem Rwhere {s : Spc} (hs : SpcB s) (hv : SpcV s) (a : Fil) : AFn Try.prog 25 [.agg (spcA s), .agg (filA a)] (fun r => r = .tup [.v (.string (whereP s a).1), .v (.bool (whereP s a).2)]) := by
  have key : ∀ (k : Nat) (a : Fil), ends s k a → AFn Try.prog 25 [.agg (spcA s), .agg (filA a)] (fun r => r = .tup [.v (.string (whereP s a).1), .v (.bool (whereP s a).2)]) := by
    intro k
    induction k with
    | zero => intro a h; exact Rwhere_step hs hv a fun hd => by rw [show dirL s.files a = false from h] at hd; cases hd
    | succ k ih => intro a h; exact Rwhere_step hs hv a fun hd b hb => ih b (h.resolve_left (by rw [hd]; simp) b hb)
  exact key _ a (ends_most hv a)
theorem Rvisible {s : Spc} (hs : SpcB s) (hv : SpcV s) (a : Fil) : AFn Try.prog 33 [.agg (spcA s), .agg (filA a)] (fun r => r = .v (.bool (visP s a))) := by
  have hmo := most_le hv.files
  have hch := Rchain hs hv (mostL s.files) a (by omega) (ends_most hv a)
  have hlen := chainP_len' s (mostL s.files) a
  have hve := vis_eq hv a
  generalize chainP s (mostL s.files) a = L at *
  have hml : (L.map filA).length = L.length := by simp
  refine enter Try.func33 rfl rfl rfl rfl rfl 0 rfl ?_
  refine w_ (b_ (h:=b_ (h:=a_ (h:=e_ (q_ (w_ (l_ (h:=l_ (h:=?_)))))))))
  refine al_p rfl (q_call (Rwhere hs hv a) ?_)
  rintro r rfl
  refine m_ (h:=x_ (h:=x_ (h:=a_ (h:=a_ (h:=e_ (w_ (m_ (h:=nt_ (h:=e_ (?_))))))))))
  refine aw_cond rfl (fun hb1 => ?_) (fun hb1 => ?_)
  · have hc1 := bp hb1
    refine w_ (a_ (h:=e_ (aw_ret (x_thenR (?_)))))
    refine e_ret ?_
    exact vb (by rw [hve, hc1]; rfl)
  · have hc1 := bp hb1
    refine kt_ (w_ (l_ (h:=l_ (h:=?_))))
    refine al_p rfl (q_call (hch) ?_)
    rintro r rfl
    refine a_ (h:=e_ (q_ (w_ (a_ (h:=e_ (aw_block (?_)))))))
    refine aw_loopW (fun m t => ∃ j : Nat, j ≤ L.length ∧ m = L.length - j ∧ (∀ i, i < j → okAt s L i = true) ∧ t = ⟨look [(2, .bp 0 0), (7, .sl 2 (L.map filA) none), (8, .v (.int .i64 (j : Int)))], ⟨[spcA s, filA a], []⟩⟩) (L.length) ((wk 2 0)) (⟨0, by omega, rfl, fun i hi => by omega, rfl⟩) ?_
    rintro m t ⟨j, hj, rfl, ha, rfl⟩
    refine q_ (w_ (m_ (h:=m_ (h:=n_ (h:=lt_ (h:=e_ (?_)))))))
    refine aw_cond rfl (fun hb2 => ?_) (fun hb2 => ?_)
    · have hc2 := bp hb2
      obtain ⟨hlt, x, hy, hrow, -⟩ := row_at filA hc2
      refine kt_ (q_ (aw_block (q_ (yr_ 11 (h:=dl_ 0 (h:=dm_ 1 (h:=dm_ 2 (h:=di_ 3 (h:=dl_ 4 (h:=?_))))))))))
      refine c_ 5 rfl (q_call (Rdevice s x hs) ?_)
      rintro r rfl
      refine o_ (h:=dm_ 6 (h:=dx_ 7 (h:=dx_ 8 (h:=da_ 9 (h:=da_ 10 (h:=z_ (h:=t_ (w_ (m_ (h:=m_ (h:=?_)))))))))))
      refine al_gs true rfl rfl (fun hb3 => ?_) (fun hb3 => ?_)
      · have hc3 := bp hb3
        refine m_ (h:=eq_ (h:=m_ (h:=?_)))
        refine al_gs false rfl rfl (fun hb4 => ?_) (fun hb4 => ?_)
        · have hc4 := bp hb4
          refine g0_ (h:=g0_ (h:=g0_ (h:=g0_ (h:=g0_ (h:=g0_ (h:=g0_ (h:=g0_ (h:=pt_ (h:=pt_ (h:=e_ (cy_ (h:=w_ (a_ (h:=e_ (aw_ret (x_blockR (x_thenR (x_thenR (x_blockR (x_thenR (?_)))))))))))))))))))))
          refine e_ret ?_
          exact vb (by rw [hve, Bool.and_eq_false_iff.2 (.inr (List.all_eq_false.2 ⟨j, List.mem_range.2 hlt, by rw [ok_first hy hc3 hc4]; simp⟩))])
        · have hc4 := bp hb4
          obtain ⟨hlt1, x1, hy1, hrow1, -⟩ := row_at (l := L) (k := j - 1) filA (by omega)
          refine m_ (h:=m_ (h:=sb_ (h:=?_)))
          refine g_y (st_index (n := j - 1) rfl rfl (by omega) hrow1 ?_)
          refine l_ (h:=m_ (h:=bd_ (h:=?_)))
          refine g_y (st_binA rfl rfl (by repeat constructor) (by repeat constructor) (fun w => neqlFil _ _ _ _ w) (by kernel_rfl) ?_)
          refine pf_ (h:=pt_ (h:=e_ (?_)))
          refine aw_cond rfl (fun hb5 => ?_) (fun hb5 => ?_)
          · have hc5 := bp hb5
            refine w_ (a_ (h:=e_ (aw_ret (x_blockR (x_thenR (x_thenR (x_blockR (x_thenR (?_)))))))))
            refine e_ret ?_
            exact vb (by rw [hve, Bool.and_eq_false_iff.2 (.inr (List.all_eq_false.2 ⟨j, List.mem_range.2 hlt, by rw [ok_val hy hc3 hc4 hy1, decide_eq_false hc5]; simp⟩))])
          · have hc5 := bp hb5
            refine aw_skip (x_blockN (t_ (aw_region (m_ (h:=ad_ (h:=a_ (h:=al_nil (?_))))))))
            refine x_then ?_
            refine ⟨_, _, ?_, ⟨j + 1, by omega, rfl, (fun i hi => by
              by_cases e : i = j
              · subst e; first | exact ok_none hy hc3 | (rw [ok_val hy hc3 hc4 hy1]; exact decide_eq_true hc5)
              · exact ha i (by omega)), rfl⟩, (wk 2 0)⟩
            omega
      · have hc3 := bp hb3
        refine g0_ (h:=g0_ (h:=g0_ (h:=gu_ (h:=gu_ (h:=gu_ (h:=gu_ (h:=gu_ (h:=gu_ (h:=gu_ (h:=gu_ (h:=g0_ (h:=pf_ (h:=e_ (cn_ (h:=aw_skip (x_blockN (t_ (aw_region (m_ (h:=ad_ (h:=a_ (h:=al_nil (?_)))))))))))))))))))))))
        refine x_then ?_
        refine ⟨_, _, ?_, ⟨j + 1, by omega, rfl, (fun i hi => by
          by_cases e : i = j
          · subst e; first | exact ok_none hy hc3 | (rw [ok_val hy hc3 hc4 hy1]; exact decide_eq_true hc5)
          · exact ha i (by omega)), rfl⟩, (wk 2 0)⟩
        omega
    · have hc2 := bp hb2
      have e3 := row_no filA hj hc2
      subst e3
      refine aw_exit (x_thenE (x_thenE (ABlock_out (t_ (w_ (a_ (h:=e_ (aw_ret (?_)))))))))
      refine e_ret ?_
      exact vb (by rw [hve, show (whereP s a).2 = true from hc1, Bool.true_and]; exact (List.all_eq_true.2 fun i hi => ha i (List.mem_range.1 hi)).symm)

theorem Rup_step {s : Spc} (hs : SpcB s) (a : Fil) (p : Nat) (hrec : (onL s a.1).isSome = true → AFn Try.prog 31 [.agg (spcA s), .agg (filA ((onL s a.1).getD (0, 0)))] (fun r => r = .agg (filA (upF s p ((onL s a.1).getD (0, 0)))))) :
    AFn Try.prog 31 [.agg (spcA s), .agg (filA a)] (fun r => r = .agg (filA (upF s (p + 1) a))) := by
  have hde := dirL_eq s.files a
  refine enter Try.func31 rfl rfl rfl rfl rfl 0 rfl ?_
  refine w_ (b_ (h:=b_ (h:=al_ (h:=e_ (w_ (f_ (h:=l_ (h:=l_ (h:=?_)))))))))
  refine al_p rfl (q_call (Rnode s.files a hs.files) ?_)
  rintro r rfl
  refine m_ (h:=x_ (h:=x_ (h:=al_ (h:=s_ (h:=a_ (h:=e_ (q_ (w_ (m_ (h:=nt_ (h:=m_ (h:=?_))))))))))))
  refine al_gs false rfl rfl (fun hb1 => ?_) (fun hb1 => ?_)
  · have hc1 := bp hb1
    refine g0_ (h:=g0_ (h:=g0_ (h:=pt_ (h:=e_ (cy_ (h:=w_ (bd_ (h:=s_ (h:=e_ (aw_ret (x_thenR (?_))))))))))))
    refine e_ret ?_
    rw [up_no p (by rw [hde, hc1]; rfl)]
    rfl
  · have hc1 := bp hb1
    refine f_ (h:=l_ (h:=nq_ (h:=pf_ (h:=e_ (?_)))))
    refine aw_cond rfl (fun hb2 => ?_) (fun hb2 => ?_)
    · have hc2 := bp hb2
      refine w_ (bd_ (h:=s_ (h:=e_ (aw_ret (x_thenR (?_))))))
      refine e_ret ?_
      rw [up_no p (by rw [hde, decide_eq_false hc2, Bool.and_false])]
      rfl
    · have hc2 := bp hb2
      refine kt_ (q_ (w_ (f_ (h:=l_ (h:=nq_ (h:=e_ (?_)))))))
      refine aw_cond rfl (fun hb3 => ?_) (fun hb3 => ?_)
      · have hc3 := bp hb3
        refine w_ (f_ (h:=l_ (h:=f_ (h:=l_ (h:=bd_ (h:=s_ (h:=e_ (aw_ret (x_thenR (?_))))))))))
        refine e_ret ?_
        rw [up_in p (by rw [hde, hc1, decide_eq_true hc2]; rfl) hc3]
        rfl
      · have hc3 := bp hb3
        refine kt_ (q_ (w_ (l_ (h:=f_ (h:=l_ (h:=?_))))))
        refine al_p rfl (q_call (Ron s a.1 hs) ?_)
        rintro r rfl
        refine m_ (h:=x_ (h:=x_ (h:=al_ (h:=s_ (h:=a_ (h:=e_ (w_ (m_ (h:=e_ (?_))))))))))
        refine aw_cond rfl (fun hb4 => ?_) (fun hb4 => ?_)
        · have hc4 := bp hb4
          refine w_ (l_ (h:=l_ (h:=?_)))
          refine al_p rfl (q_call (hrec hc4) ?_)
          rintro r rfl
          refine s_ (h:=e_ (aw_ret (x_thenR (?_))))
          refine e_ret ?_
          rw [up_on p (by rw [hde, hc1, decide_eq_true hc2]; rfl) hc3 hc4]
          rfl
        · have hc4 := bp hb4
          refine kt_ (w_ (l_ (h:=s_ (h:=e_ (aw_ret (?_))))))
          refine e_ret ?_
          rw [up_root p (by rw [hde, hc1, decide_eq_true hc2]; rfl) hc3 hc4]
          rfl

theorem Rup {s : Spc} (hs : SpcB s) (hv : SpcV s) : ∀ (p : Nat) (a : Fil), posM s a.1 < p → AFn Try.prog 31 [.agg (spcA s), .agg (filA a)] (fun r => r = .agg (filA (upF s p a))) := by
  intro p
  induction p with
  | zero => intro a h; omega
  | succ p ih => intro a hp; exact Rup_step hs a p fun ho => ih _ (by have := pos_on hv (on_get ho); omega)
theorem PupS {s : Spc} (hs : SpcB s) (hv : SpcV s) (a : Fil) : AFn Try.prog 30 [.agg (spcA s), .agg (filA a)] (fun r => r = .agg (filA (upF s (s.mounts.length + 1) a))) := by
  have hfew := hs.few
  have hml : (s.mounts.map mntA).length = s.mounts.length := by simp
  refine enter Try.func30 rfl rfl rfl rfl rfl 0 rfl ?_
  refine w_ (b_ (h:=b_ (h:=al_ (h:=e_ (q_ (w_ (f_ (h:=l_ (h:=n_ (h:=ad_ (h:=m_ (h:=e_ (aw_block (?_))))))))))))))
  refine aw_loopW (fun m t => ∃ (j : Nat) (b : Fil), j ≤ s.mounts.length + 1 ∧ m = s.mounts.length + 1 - j ∧ upF s (s.mounts.length + 1 - j) b = upF s (s.mounts.length + 1) a ∧ t = ⟨look [(2, .bp 0 0), (3, .bp 1 0), (4, .bp 2 0), (11, .v (.int .i64 (((s.mounts.map mntA).length : Int) + 1))), (12, .v (.int .i64 (j : Int)))], ⟨[spcA s, filA b, [.v (.int .i64 0), .v (.int .i64 0)]], []⟩⟩) (s.mounts.length + 1) ((wk 3 0)) (⟨0, a, by omega, rfl, rfl, rfl⟩) ?_
  rintro m t ⟨j, b, hj, rfl, hit, rfl⟩
  have hde := dirL_eq s.files b
  refine w_ (lt_ (h:=e_ (q_ (?_))))
  refine aw_cond rfl (fun hb1 => ?_) (fun hb1 => ?_)
  · have hc1 := bp hb1
    obtain ⟨k, hk⟩ : ∃ k, s.mounts.length + 1 - j = k + 1 := ⟨s.mounts.length - j, by omega⟩
    rw [hk] at hit
    refine kt_ (q_ (aw_block (w_ (f_ (h:=l_ (h:=l_ (h:=?_)))))))
    refine al_p rfl (q_call (Pnode s.files b hs.files) ?_)
    rintro r rfl
    refine m_ (h:=x_ (h:=x_ (h:=al_ (h:=s_ (h:=a_ (h:=e_ (q_ (w_ (m_ (h:=nt_ (h:=m_ (h:=?_))))))))))))
    refine al_gs false rfl rfl (fun hb2 => ?_) (fun hb2 => ?_)
    · have hc2 := bp hb2
      refine g0_ (h:=g0_ (h:=g0_ (h:=pt_ (h:=e_ (cy_ (h:=w_ (bd_ (h:=s_ (h:=e_ (aw_ret (x_thenR (x_blockR (x_thenR (x_thenR (x_blockR (x_thenR (?_)))))))))))))))))
      refine e_ret ?_
      rw [← hit, up_no k (by rw [hde, hc2]; rfl)]
      rfl
    · have hc2 := bp hb2
      refine f_ (h:=l_ (h:=nq_ (h:=pf_ (h:=e_ (?_)))))
      refine aw_cond rfl (fun hb3 => ?_) (fun hb3 => ?_)
      · have hc3 := bp hb3
        refine w_ (bd_ (h:=s_ (h:=e_ (aw_ret (x_thenR (x_blockR (x_thenR (x_thenR (x_blockR (x_thenR (?_)))))))))))
        refine e_ret ?_
        rw [← hit, up_no k (by rw [hde, decide_eq_false hc3, Bool.and_false])]
        rfl
      · have hc3 := bp hb3
        refine kt_ (q_ (w_ (f_ (h:=l_ (h:=nq_ (h:=e_ (?_)))))))
        refine aw_cond rfl (fun hb4 => ?_) (fun hb4 => ?_)
        · have hc4 := bp hb4
          have hdd : dirL s.files b = true := by rw [hde, hc2, decide_eq_true hc3]; rfl
          have hb1 : ¬ b.2 = 1 := by rw [← dir_ino hdd]; exact hc4
          refine w_ (f_ (h:=l_ (h:=f_ (h:=l_ (h:=bd_ (h:=s_ (h:=e_ (aw_ret (x_thenR (x_blockR (x_thenR (x_thenR (x_blockR (x_thenR (?_)))))))))))))))
          refine e_ret ?_
          rw [← hit, up_in k hdd hb1]
          rfl
        · have hc4 := bp hb4
          have hdd : dirL s.files b = true := by rw [hde, hc2, decide_eq_true hc3]; rfl
          have hb1 : b.2 = 1 := by rw [← dir_ino hdd]; exact hc4
          refine kt_ (w_ (l_ (h:=f_ (h:=l_ (h:=?_)))))
          refine al_p rfl (q_call (Pplace s b.1 hs) ?_)
          rintro r rfl
          refine m_ (h:=x_ (h:=x_ (h:=al_ (h:=s_ (h:=a_ (h:=e_ (q_ (w_ (m_ (h:=nt_ (h:=m_ (h:=?_))))))))))))
          refine al_gs false rfl rfl (fun hb5 => ?_) (fun hb5 => ?_)
          · have hc5 := bp hb5
            refine g0_ (h:=g0_ (h:=g0_ (h:=pt_ (h:=e_ (cy_ (h:=w_ (l_ (h:=s_ (h:=e_ (aw_ret (x_thenR (x_blockR (x_thenR (x_thenR (x_blockR (x_thenR (?_)))))))))))))))))
            refine e_ret ?_
            rw [← hit, up_root k hdd hb1 hc5]
            rfl
          · have hc5 := bp hb5
            refine f_ (h:=l_ (h:=eq_ (h:=pf_ (h:=e_ (?_)))))
            refine aw_cond rfl (fun hb6 => ?_) (fun hb6 => ?_)
            · have hc6 := bp hb6
              refine w_ (l_ (h:=s_ (h:=e_ (aw_ret (x_thenR (x_blockR (x_thenR (x_thenR (x_blockR (x_thenR (?_)))))))))))
              refine e_ret ?_
              exfalso
              rw [hc6, on_zero hv] at hc5
              cases hc5
            · have hc6 := bp hb6
              refine kt_ (aw_region (l_ (h:=s_ (h:=al_nil (x_blockN (t_ (aw_region (ad_ (h:=m_ (h:=al_nil (?_)))))))))))
              refine x_then ?_
              refine ⟨_, _, ?_, ⟨j + 1, ((onL s b.1).getD (0, 0)), by omega, rfl, (by rw [← hit, up_on k hdd hb1 hc5, show s.mounts.length + 1 - (j + 1) = k by omega]), rfl⟩, (wk 3 0)⟩
              omega
  · have hc1 := bp hb1
    refine aw_exit (x_thenE (x_thenE (ABlock_out (t_ (w_ (l_ (h:=s_ (h:=e_ (aw_ret (?_))))))))))
    refine e_ret ?_
    have ej : s.mounts.length + 1 - j = 0 := by omega
    rw [ej] at hit
    rw [← hit]
    rfl

end
end Go.Proofs.Ytgliiknfmlmddaa
namespace Go.Proofs.Ytgliiknfmlmddaa
open Go.RowKit

section
set_option maxRecDepth 20000
set_option maxHeartbeats 2000000
theorem Lall (s : Spc) (hs : SpcB s) (hf : s.files.length ≤ 100) : AFn Try.prog 24 [.agg (spcA s)] (fun r => ∃ L : List Fil, L.length ≤ 200000 ∧ r = .sl 2 (L.map filA) none) := by
  have hfl : (s.files.map dvcA).length = s.files.length := by simp
  refine enter Try.func24 rfl rfl rfl rfl rfl 0 rfl ?_
  refine w_ (b_ (h:=a_ (h:=e_ (w_ (bd_ (h:=bd_ (h:=?_)))))))
  refine al_p rfl (s_slitT (by repeat (first | exact DenseA.nil _ | (apply DenseA.cons; (focus exact rfl); (focus exact rfl); (focus exact rfl); (focus exact rfl)) | (apply DenseA.consE; (focus exact rfl); (focus exact rfl); (focus exact rfl)))) rfl rfl rfl rfl (by repeat constructor) ?_)
  refine a_ (h:=e_ (q_ (w_ (a_ (h:=e_ (aw_block (?_)))))))
  refine aw_loopW (fun m t => ∃ (i : Nat) (acc : List Fil), i ≤ s.files.length ∧ m = s.files.length - i ∧ acc.length ≤ 2 + 1000 * i ∧ t = ⟨look [(1, .bp 0 0), (3, .sl 2 (acc.map filA) (some 0)), (4, .v (.int .i64 (i : Int)))], ⟨[spcA s], [(24, 2, acc.map filA)]⟩⟩) (s.files.length) ((wk 1 1)) (⟨0, [(9, 1), (0, 0)], by omega, rfl, by simp, rfl⟩) ?_
  rintro m t ⟨i, acc, hi, rfl, hal, rfl⟩
  refine q_ (w_ (m_ (h:=f_ (h:=f_ (h:=l_ (h:=n_ (h:=lt_ (h:=e_ (?_)))))))))
  refine aw_cond rfl (fun hb1 => ?_) (fun hb1 => ?_)
  · have hc1 := bp hb1
    obtain ⟨hlt, d, hd, hrow, -⟩ := row_at dvcA hc1
    have hdn := hs.files.nodes d (List.mem_of_getElem? hd)
    have hdl : (d.nodes.map nodA).length = d.nodes.length := by simp
    refine kt_ (q_ (aw_block (w_ (a_ (h:=e_ (aw_block (?_)))))))
    refine aw_loopW (fun m t => ∃ (k : Nat) (acc : List Fil), k ≤ d.nodes.length ∧ m = d.nodes.length - k ∧ acc.length ≤ 2 + 1000 * i + k ∧ t = ⟨look [(1, .bp 0 0), (3, .sl 2 (acc.map filA) (some 0)), (4, .v (.int .i64 (i : Int))), (5, .v (.int .i64 (k : Int)))], ⟨[spcA s], [(24, 2, acc.map filA)]⟩⟩) (d.nodes.length) ((wk 1 1)) (⟨0, acc, by omega, rfl, by omega, rfl⟩) ?_
    rintro m t ⟨k, acc, hk, rfl, hal, rfl⟩
    refine q_ (w_ (m_ (h:=f_ (h:=f_ (h:=l_ (h:=m_ (h:=?_)))))))
    refine al_p rfl (st_index (n := i) rfl rfl rfl hrow ?_)
    refine f_ (h:=l_ (h:=n_ (h:=lt_ (h:=e_ (?_)))))
    refine aw_cond rfl (fun hb2 => ?_) (fun hb2 => ?_)
    · have hc2 := bp hb2
      obtain ⟨hlt2, n, hn, hrow2, -⟩ := row_at nodA hc2
      refine kt_ (q_ (aw_block (aw_region (m_ (h:=m_ (h:=f_ (h:=f_ (h:=l_ (h:=m_ (h:=?_))))))))))
      refine al_p rfl (st_index (n := i) rfl rfl rfl hrow ?_)
      refine f_ (h:=l_ (h:=m_ (h:=?_)))
      refine al_p rfl (st_index (n := k) rfl rfl rfl hrow2 ?_)
      refine f_ (h:=l_ (h:=bd_ (h:=bs_ (h:=?_))))
      first | refine al_p rfl (s_append rfl rfl rfl (by simp; omega) (by repeat constructor) ?_) | refine al_p rfl (s_append0 rfl rfl (by simp; omega) (by repeat constructor) ?_)
      refine a_ (h:=al_nil (x_blockN (t_ (aw_region (m_ (h:=ad_ (h:=a_ (h:=al_nil (?_)))))))))
      refine x_then ?_
      refine ⟨_, _, ?_, ⟨k + 1, acc ++ [((i : Int), n.ino)], by omega, rfl, (by simp; omega), rfl⟩, (by simp only [List.map_append, List.map_cons, List.map_nil]; exact weak_of 1 1 rfl rfl rfl rfl ((by repeat (first | exact Sub.nil | refine Sub.cons _ _ _ rfl rfl ?_ | refine Sub.any _ _ ?_ | refine Sub.sl _ _ _ _ _ rfl ?_ | refine Sub.slnil _ _ _ rfl ?_))))⟩
      omega
    · have hc2 := bp hb2
      refine aw_exit (x_thenE (x_thenE (ABlock_out (x_blockN (t_ (aw_region (m_ (h:=ad_ (h:=a_ (h:=al_nil (?_)))))))))))
      refine x_then ?_
      refine ⟨_, _, ?_, ⟨i + 1, acc, by omega, rfl, by omega, rfl⟩, (wk 1 1)⟩
      omega
  · have hc1 := bp hb1
    refine aw_exit (x_thenE (x_thenE (ABlock_out (t_ (w_ (m_ (h:=a_ (h:=e_ (aw_ret (?_))))))))))
    refine e_ret ?_
    exact ⟨acc, by omega, rfl⟩

theorem RdownS {s : Spc} (hs : SpcB s) (hv : SpcV s) (a : Fil) : AFn Try.prog 29 [.agg (spcA s), .agg (filA a)] (fun r => r = .agg (filA (itD s s.mounts.length a))) :=
  (Rdown s a hs).mono fun r hr => by rw [hr, down_eq hv]
theorem Lwalks (l : List Int) : AFn Try.prog 6 [.sl 1 (l.map intA) none] (fun r => r = .v (.bool true)) := by
  refine enter Try.func6 rfl rfl rfl rfl rfl 0 rfl ?_
  refine w_ (a_ (h:=e_ (w_ (m_ (h:=?_)))))
  refine al_p rfl (s_callN rfl (by repeat (first | exact Args.nil | refine Args.cons _ _ _ _ _ rfl (argOk_clean rfl) ?_ | refine Args.cons _ _ _ _ _ rfl (argOk_nil _) ?_ | refine Args.cons _ _ _ _ _ rfl (argOk_era _) ?_ | refine Args.cons _ _ _ _ _ rfl (argOk_le rfl (by repeat (first | exact LeA.refl _ | exact LeA.nil _ | exact LeL.refl _ | refine LeA.agg ?_ | refine LeA.tup ?_ | exact LeL.nil | refine LeL.cons ?_ ?_ | exact LeA.any _))) ?_)) rfl (Gnew l) (by repeat constructor) ?_)
  skip
  refine al_p rfl (s_gen 0 (hc := Gspace l _ (by omega)) (hR := ?_))
  rintro r a1 ha1 ⟨s, rfl, hv, hm⟩
  refine ⟨rfl, _, (by repeat constructor), ?_⟩
  have hsb := hv.b (show s.mounts.length ≤ 1000 by omega)
  have hsn := hv.n (show s.mounts.length ≤ 1000 by omega)
  refine al_ (h:=s_ (h:=e_ (w_ (l_ (h:=?_)))))
  refine al_p rfl (q_call (Lall s hsb (by have := hv.files.few; omega)) ?_)
  rintro r ⟨L, hL, rfl⟩
  have hLl : (L.map filA).length = L.length := by simp
  refine a_ (h:=e_ (q_ (w_ (a_ (h:=e_ (aw_block (?_)))))))
  refine aw_loopW (fun n t => ∃ j : Nat, j ≤ L.length ∧ n = L.length - j ∧ t = ⟨look [(3, .bp 1 0), (4, .sl 2 (L.map filA) none), (5, .v (.int .i64 (j : Int)))], ⟨[srcA l a1, spcA s], []⟩⟩) (L.length) ((wk 2 0)) (⟨0, by omega, rfl, rfl⟩) ?_
  rintro n t ⟨j, hj, rfl, rfl⟩
  refine q_ (w_ (m_ (h:=m_ (h:=n_ (h:=lt_ (h:=e_ (?_)))))))
  refine aw_cond rfl (fun hb1 => ?_) (fun hb1 => ?_)
  · have hc1 := bp hb1
    obtain ⟨hlt, x, hy, hrow, -⟩ := row_at filA hc1
    refine kt_ (q_ (aw_block (q_ (yr_ 11 (h:=dl_ 0 (h:=dm_ 1 (h:=dm_ 2 (h:=di_ 3 (h:=dl_ 4 (h:=?_))))))))))
    refine c_ 5 rfl (q_call (Pwhere hsn x) ?_)
    rintro r rfl
    refine o_ (h:=dm_ 6 (h:=dx_ 7 (h:=dx_ 8 (h:=da_ 9 (h:=da_ 10 (h:=z_ (h:=t_ (q_ (yr_ 11 (h:=dl_ 0 (h:=dm_ 1 (h:=dm_ 2 (h:=di_ 3 (h:=dl_ 4 (h:=?_)))))))))))))))
    refine c_ 5 rfl (q_call (Rwhere hsb hv x) ?_)
    rintro r rfl
    refine o_ (h:=dm_ 6 (h:=dx_ 7 (h:=dx_ 8 (h:=da_ 9 (h:=da_ 10 (h:=z_ (h:=t_ (q_ (yr_ 68 (h:=dm_ 0 (h:=dm_ 1 (h:=dnq_ 2 (h:=dm_ 3 (h:=?_))))))))))))))
    refine aa_both (j := 3) rfl (fun hb2 => ?_) (fun hb2 => ?_)
    · have hc2 := bp hb2
      simp at hc2
    · have hc2 := bp hb2
      refine dm_ 4 (h:=dm_ 5 (h:=dnq_ 6 (h:=dpf_ 7 (h:=dm_ 8 (h:=?_)))))
      refine aa_both (j := 8) rfl (fun hb3 => ?_) (fun hb3 => ?_)
      · have hc3 := bp hb3
        simp at hc3
      · have hc3 := bp hb3
        refine dl_ 9 (h:=dm_ 10 (h:=dm_ 11 (h:=di_ 12 (h:=dl_ 13 (h:=dl_ 15 (h:=dm_ 16 (h:=dm_ 17 (h:=di_ 18 (h:=dl_ 19 (h:=?_))))))))))
        refine c_ 14 rfl (q_call (Pcovered s x hsb) ?_)
        rintro r rfl
        refine o_ (h:=?_)
        refine c_ 20 rfl (q_call (Rcovered s x hsb) ?_)
        rintro r rfl
        refine o_ (h:=dnq_ 21 (h:=dpf_ 22 (h:=dm_ 23 (h:=?_))))
        refine aa_both (j := 23) rfl (fun hb4 => ?_) (fun hb4 => ?_)
        · have hc4 := bp hb4
          simp at hc4
        · have hc4 := bp hb4
          refine dl_ 24 (h:=dm_ 25 (h:=dm_ 26 (h:=di_ 27 (h:=dl_ 28 (h:=dl_ 30 (h:=dm_ 31 (h:=dm_ 32 (h:=di_ 33 (h:=dl_ 34 (h:=?_))))))))))
          refine c_ 29 rfl (q_call (Pdown s x hsb) ?_)
          rintro r rfl
          refine o_ (h:=?_)
          refine c_ 35 rfl (q_call (RdownS hsb hv x) ?_)
          rintro r rfl
          refine o_ (h:=?_)
          refine r_y (i := 36) rfl (st_binA rfl rfl (by repeat constructor) (by repeat constructor) (fun w => neqlFil _ _ _ _ w) (by kernel_rfl) ⟨rfl, rfl⟩) ?_
          refine dpf_ 37 (h:=dm_ 38 (h:=?_))
          refine aa_both (j := 38) rfl (fun hb5 => ?_) (fun hb5 => ?_)
          · have hc5 := bp hb5
            simp at hc5
          · have hc5 := bp hb5
            refine dl_ 39 (h:=dm_ 40 (h:=dm_ 41 (h:=di_ 42 (h:=dl_ 43 (h:=dl_ 45 (h:=dm_ 46 (h:=dm_ 47 (h:=di_ 48 (h:=dl_ 49 (h:=?_))))))))))
            refine c_ 44 rfl (q_call (PupS hsb hv x) ?_)
            rintro r rfl
            refine o_ (h:=?_)
            refine c_ 50 rfl (q_call (Rup hsb hv (s.mounts.length + 1) x (by have := pos_le (s := s) x.1; omega)) ?_)
            rintro r rfl
            refine o_ (h:=?_)
            refine r_y (i := 51) rfl (st_binA rfl rfl (by repeat constructor) (by repeat constructor) (fun w => neqlFil _ _ _ _ w) (by kernel_rfl) ⟨rfl, rfl⟩) ?_
            refine dpf_ 52 (h:=dm_ 53 (h:=?_))
            refine aa_both (j := 53) rfl (fun hb6 => ?_) (fun hb6 => ?_)
            · have hc6 := bp hb6
              simp at hc6
            · have hc6 := bp hb6
              refine dl_ 54 (h:=dm_ 55 (h:=dm_ 56 (h:=di_ 57 (h:=dl_ 58 (h:=dl_ 60 (h:=dm_ 61 (h:=dm_ 62 (h:=di_ 63 (h:=dl_ 64 (h:=?_))))))))))
              refine c_ 59 rfl (q_call (Pvisible hsn x) ?_)
              rintro r rfl
              refine o_ (h:=?_)
              refine c_ 65 rfl (q_call (Rvisible hsb hv x) ?_)
              rintro r rfl
              refine o_ (h:=dnq_ 66 (h:=dpf_ 67 (h:=z_ (h:=t_ (?_)))))
              refine aw_cond rfl (fun hb7 => ?_) (fun hb7 => ?_)
              · have hc7 := bp hb7
                simp at hc7
              · have hc7 := bp hb7
                refine aw_skip (x_blockN (t_ (aw_region (m_ (h:=ad_ (h:=a_ (h:=al_nil (?_))))))))
                refine x_then ?_
                refine ⟨_, _, ?_, ⟨j + 1, by omega, rfl, rfl⟩, (wk 2 0)⟩
                omega
  · have hc1 := bp hb1
    refine aw_exit (x_thenE (x_thenE (ABlock_out (t_ (w_ (?_))))))
    refine al_p rfl (q_call (Lawake) ?_)
    rintro r rfl
    refine a_ (h:=e_ (aw_ret (?_)))
    refine e_ret ?_
    rfl

end
end Go.Proofs.Ytgliiknfmlmddaa
namespace Go.Proofs.Ytgliiknfmlmddaa
open Go.RowKit
theorem MountsWalks_walk {H : Type} {enc : TypeId × Value → H} {sp : Nat → Bool} {held : Bool} {base : Nat} (a : Option Addr) (n c : Nat) (w : World) {d : DataW H} {p : List MemPlace} (h : DataW.Trod enc Try.prog w base sp held 22 (.slice a n c) d p) :
    Calls Try.prog 6 #[.slice a n c] w fun e w' => e = .returned (.bool true) ∧ Below w.heap.size w w' := walk_ints Lwalks a n c w h
end Go.Proofs.Ytgliiknfmlmddaa
