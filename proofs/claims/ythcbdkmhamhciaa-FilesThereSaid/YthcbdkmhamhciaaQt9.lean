/-
  Part 9 of the proof of FilesThereP: what the statement's proof uses of the texts in wip/tpl.
-/
import Derived.Test.YthcbdkmhamhciaaQt8
namespace Go.Proofs.Ythcbdkmhamhciaa
open Go.RowKit

theorem index_asc {f : Fls} {a : Fil} {q i : Nat} {d : Dvc} {n : Nod} (ha : a.1 = (q : Int)) (hq : f[q]? = some d) (hd : Asc d.nodes) (hn : d.nodes[i]? = some n) (hi : n.ino = a.2) : indexL f a = (i : Int) := by
  rw [indexL_at ha hq]
  refine idxBy_first hn (by simpa using hi) fun j y hj hy => ?_
  obtain ⟨l1, e1⟩ := List.getElem?_eq_some_iff.1 hn
  obtain ⟨l2, e2⟩ := List.getElem?_eq_some_iff.1 hy
  have hp := List.pairwise_iff_getElem.1 hd j i l2 l1 hj
  rw [e1, e2] at hp
  have : y.ino ≠ a.2 := by omega
  simpa using this
theorem Renter2 (f : Fls) (q : Nat) (d' : Dvc) (n : Nod) (i : Nat) (a : Fil) (name : Str) (ino : Int) (cap cap1 : Nat) (hf : FlsB (f.set q d')) (hq : q < f.length) (ha : a.1 = (q : Int)) (hi : indexL (f.set q d') a = (i : Int)) (hn : d'.nodes[i]? = some n) (hcap : f.length ≤ cap) (hcap1 : d'.nodes.length ≤ cap1) :
    ACall Try.prog 70 [.agg [.bs 0 0 2 f.length cap], .agg (filA a), .v (.string name), .v (.int .i64 ino)] [DB f q d' 1 cap cap1, NB d'.nodes cap1] (fun r b t => t = [] ∧ r = .tup [] ∧ b = [DB f q d' 1 cap cap1, NB (entS d'.nodes i n name ino) cap1]) := by
  have key := Renter (f.set q d') q d' n i a name ino cap cap1 hf (by simp [hq]) ha hi hn (by simpa using hcap) hcap1
  rw [List.length_set, DB_any] at key
  exact key
def setL05 (f : Fls) (a : Fil) (mode uid gid : Int) : Fls × Int :=
  if hasG f a = false then ([], 2) else if plainL (setA mode uid gid (nodG f a)) = false then ([], 22) else (onD f a.1.toNat fun ns => updI ns a.2 (setA mode uid gid), 0)
def setR (R : Fls × Int) : AV := .tup [.agg (flsA R.1), .v (.int .i64 R.2)]
theorem errs_le (e : Int) : LeA (.tup [.agg [.v (.slice none 0 0)], .v (.int .i64 e)]) (setR ([], e)) := (by repeat (first | exact LeA.refl _ | exact LeA.nil _ | exact LeL.refl _ | refine LeA.agg ?_ | refine LeA.tup ?_ | exact LeL.nil | refine LeL.cons ?_ ?_ | exact LeA.any _))
theorem plain_target {n : Nod} (h : plainL n = true) : n.target.size ≤ 128 := by
  unfold plainL at h
  split at h
  · cases h
  split at h
  · simp [targetL] at h; omega
  have h2 := List.isEmpty_iff.1 h
  rw [ByteArray.toList_eq] at h2
  have : n.target.data.size = 0 := by rw [← Array.length_toList, h2]; rfl
  show n.target.data.size ≤ 128
  omega
theorem nodG_target {f : Fls} (hv : FlsV f) (a : Fil) : (nodG f a).target.size ≤ 128 := by
  rcases index_node f a with ⟨-, h⟩ | ⟨k, i, d, n, -, h1, h2, -, -, h⟩
  · simp only [nodG, h, Option.getD_none]
    exact Nat.zero_le _
  simp only [nodG, h, Option.getD_some]
  exact plain_target ((hv.vd d (List.mem_of_getElem? h1)).plain n (List.mem_of_getElem? h2))
def mkL (f : Fls) (dir : Fil) (name : Str) (n : Nod) : ChgRes :=
  if placeL f dir name ≠ 0 then ([], [], placeL f dir name) else if plainL n = false then ([], [], 22) else if (lookL f dir name).2 = 0 then ([], [], 17) else
  match atI f dir.1 with
  | none => ([], [], 2)
  | some d => if 16 ≤ d.nodes.length ∨ d.next = 1073741824 ∨ fullL f dir = true then ([], [], 28) else (f.set dir.1.toNat ⟨d.next + 1, entD d.nodes dir.2 name d.next ++ [mkNod n d.next dir.2]⟩, [(dir, name, (0, 0), (dir.1, d.next))], 0)
theorem DB_push {f : Fls} {q : Nat} {d : Dvc} {j j' cap cap1 c : Nat} (m : Nod) (hq : q < f.length) : SetAt (DB f q d j cap cap1) (0 + q * 2 + 1) [.bs j' 0 8 (d.nodes.length + 1) c] (DB f q { d with nodes := d.nodes ++ [m] } j' cap c) := by
  have h := DB_set (d := d) (d' := { d with nodes := d.nodes ++ [m] }) (j := j) (j' := j') (cap := cap) (cap1 := cap1) (cap1' := c) (k := 1) (cs := [.bs j' 0 8 (d.nodes ++ [m]).length c]) hq (by repeat constructor) (by simp)
  rwa [List.length_append] at h
section
set_option maxRecDepth 10000
set_option maxHeartbeats 2000000
theorem Rset (f : Fls) (a : Fil) (mode uid gid : Int) (hv : FlsV f) : AFn Try.prog 31 [.agg (flsA f), .agg (filA a), .v (.int .i64 mode), .v (.int .i64 uid), .v (.int .i64 gid)] (fun r => r = setR (setL05 f a mode uid gid)) := by
  have hf := hv.b
  have htg := nodG_target hv a
  refine enter Try.func31 rfl rfl rfl rfl rfl 0 rfl ?_
  refine w_ (b_ (h:=b_ (h:=al_ (h:=a_ (h:=e_ (w_ (l_ (h:=l_ (h:=?_)))))))))
  refine al_p rfl (q_call (Rnode f a hf) ?_)
  rintro r rfl
  refine m_ (h:=x_ (h:=x_ (h:=al_ (h:=s_ (h:=a_ (h:=e_ (q_ (w_ (m_ (h:=nt_ (h:=e_ (?_))))))))))))
  refine aw_cond rfl (fun hb1 => ?_) (fun hb1 => ?_)
  · have hc1 := bp hb1
    refine w_ (bd_ (h:=s_ (h:=a_ (h:=e_ (aw_ret (x_thenR (?_)))))))
    refine rt_ (r := setR (setL05 f a mode uid gid)) none (h5 := ?_) (h6 := ⟨rfl, rfl, rfl⟩)
    rw [setL05, if_pos hc1]
    exact errs_le _
  have hc1 := bp hb1
  refine kt_ (w_ (m_ (h:=m_ (h:=m_ (h:=f_ (h:=s_ (h:=f_ (h:=s_ (h:=f_ (h:=s_ (h:=e_ (q_ (w_ (l_ (h:=?_)))))))))))))))
  refine al_p rfl (q_call (Rplain (setA mode uid gid (nodG f a)) (by show (nodG f a).target.size ≤ 100000; omega)) ?_)
  rintro r rfl
  refine nt_ (h:=e_ (?_))
  refine aw_cond rfl (fun hb2 => ?_) (fun hb2 => ?_)
  · have hc2 := bp hb2
    refine w_ (bd_ (h:=s_ (h:=a_ (h:=e_ (aw_ret (x_thenR (?_)))))))
    refine rt_ (r := setR (setL05 f a mode uid gid)) none (h5 := ?_) (h6 := ⟨rfl, rfl, rfl⟩)
    rw [setL05, if_neg (by simp [hc1]), if_pos hc2]
    exact errs_le _
  have hc2 := bp hb2
  obtain ⟨q, i, d, n0, hdq, hq, hn0, hino, hidx, hnode⟩ := (index_node f a).resolve_left (fun h => by simp [hasG, h.2] at hc1)
  have hil := (List.getElem?_eq_some_iff.1 hn0).1
  have hql := (List.getElem?_eq_some_iff.1 hq).1
  have hng : nodG f a = n0 := by simp [nodG, hnode]
  refine kt_ (w_ (l_ (h:=?_)))
  refine al_p rfl (s_callM [] rfl (.cons _ _ _ _ _ rfl (LeA.refl _) .nil) (by decide) .nil (RcopyK f q d hf hq (by omega)) ?_)
  rintro r bc tc ⟨rfl, cap, cap1, hcap, hcap1, rfl, rfl⟩
  refine ⟨rfl, _, (back_new2 (n := 4) rfl f q d d.nodes cap cap1 : Back _ [] _ [_, _, _, _, _, _]), ?_⟩
  have hD0 : (DB f q d 5 cap cap1)[0 + q * 2 + 1]? = some (.bs 5 0 8 d.nodes.length cap1) := DB_nodes hql
  have hset : SetAt (NB d.nodes cap1) (0 + i * 8) (nodA (setA mode uid gid (nodG f a))) (NB (d.nodes.set i (setA mode uid gid (nodG f a))) cap1) := by
    rw [hng]
    exact NB_set (k := 0) hn0 (by repeat constructor) (by simp [nodA])
  refine al_ (h:=s_ (h:=e_ (q_ (yk_ ([(0, flsA f), (1, filA a), (3, nodA (setA mode uid gid (nodG f a))), (4, DB f q d 5 cap cap1), (6, [.bs 4 0 2 f.length cap])]) 13 (h:=df_ 0 (h:=?_))))))
  first | refine dl_ 1 (h:=?_) | refine tk_ 1 rfl (fun _ hS => st_loadB1 (row := DB f q d 5 cap cap1) rfl (kb hS rfl) hD0 ⟨rfl, rfl⟩) ?_
  refine df_ 2 (h:=?_)
  first | refine dl_ 3 (h:=?_) | refine tk_ 3 rfl (fun _ hS => st_loadB1 (row := DB f q d 5 cap cap1) rfl (kb hS rfl) hD0 ⟨rfl, rfl⟩) ?_
  refine tk_ 4 rfl (fun _ hS => st_indexS (m := q) rfl rfl hdq hql ⟨rfl, rfl⟩) ?_
  refine df_ 5 (h:=?_)
  first | refine dl_ 6 (h:=?_) | refine tk_ 6 rfl (fun _ hS => st_loadB1 (row := DB f q d 5 cap cap1) rfl (kb hS rfl) hD0 ⟨rfl, rfl⟩) ?_
  first | refine dl_ 7 (h:=?_) | refine tk_ 7 rfl (fun _ hS => st_loadB1 (row := DB f q d 5 cap cap1) rfl (kb hS rfl) hD0 ⟨rfl, rfl⟩) ?_
  first | refine dl_ 8 (h:=?_) | refine tk_ 8 rfl (fun _ hS => st_loadB1 (row := DB f q d 5 cap cap1) rfl (kb hS rfl) hD0 ⟨rfl, rfl⟩) ?_
  first | refine dl_ 10 (h:=?_) | refine tk_ 10 rfl (fun _ hS => st_loadB1 (row := DB f q d 5 cap cap1) rfl (kb hS rfl) hD0 ⟨rfl, rfl⟩) ?_
  refine c_ 9 rfl (s_callR 2 rfl (.cons _ _ _ _ _ rfl (LeA.of_eq (low_fls hq hcap hcap1 (Nat.zero_le _) (Nat.zero_le _) rfl rfl)) (.cons _ _ _ _ _ rfl (LeA.refl _) .nil)) (Rindex f a hf) ?_)
  rintro r rfl
  refine ⟨rfl, ?_⟩
  refine o_ (h:=?_)
  refine tk_ 11 rfl (fun _ hS => st_indexS (m := i) rfl rfl hidx hil ⟨rfl, rfl⟩) ?_
  refine c0_ 12 rfl (s_store rfl rfl rfl rfl rfl rfl hset (by repeat constructor) ?_)
  refine o_ (h:=z_ (h:=t_ (?_)))
  refine aw_midI (fun t => t = ⟨look [(10, .bp 2 0), (11, .v (.int .i64 0))], ⟨[flsA f, filA a, flsA (f.set q { d with nodes := d.nodes.set i (setA mode uid gid (nodG f a)) })], []⟩⟩) ?_ ?_
  · skip
    refine aw_region (l_ (h:=s_ (h:=a_ (h:=al_nil (?_)))))
    refine x_then ?_
    exact ⟨_, rfl, weak_fz 3 2 rfl (congrArg (fun x => [flsA f, filA a, x]) (liv_upd (k := 0) (i := 4) (j := 5) (d := d) (d' := { d with nodes := d.nodes.set i (setA mode uid gid (nodG f a)) }) hql rfl (by simp) hcap (by simpa using hcap1) (Nat.le_of_ble_eq_true rfl) (Nat.le_of_ble_eq_true rfl) rfl rfl)) (.cons _ _ _ _ rfl (LeA.refl _) (.cons _ _ _ _ rfl (LeA.refl _) .nil))⟩
  rintro t rfl
  refine aw_ret (?_)
  refine e_ret ?_
  rw [setL05, if_neg (by simp [hc1]), if_neg (by simp [hc2]), hdq, Int.toNat_natCast, onD_set hq, ← hino, ← set_updI (hv.vd d (List.mem_of_getElem? hq)).asc hn0, ← hng]
  rfl

theorem Rmake (f : Fls) (dir : Fil) (name : Str) (n : Nod) (hv : FlsV f) (hs : name.size ≤ 100000) (hns : n.target.size ≤ 100000) : AFn Try.prog 25 [.agg (flsA f), .agg (filA dir), .v (.string name), .agg (nodA n)] (fun r => r = chgR (mkL f dir name n)) := by
  have hf := hv.b
  obtain ⟨e0, he0⟩ : ∃ e0 : Int, e0 = if placeL f dir name ≠ 0 then placeL f dir name else if plainL n = false then 22 else 0 := ⟨_, rfl⟩
  refine enter Try.func25 rfl rfl rfl rfl rfl 0 rfl ?_
  refine w_ (b_ (h:=b_ (h:=b_ (h:=al_ (h:=a_ (h:=a_ (h:=e_ (w_ (l_ (h:=l_ (h:=m_ (h:=?_))))))))))))
  refine al_p rfl (q_call (Rplace f dir name hf hs) ?_)
  rintro r rfl
  refine a_ (h:=e_ (?_))
  refine aw_midI (fun t => t = ⟨look [(2, .v (.string name)), (4, .bp 0 0), (5, .bp 1 0), (7, .bp 2 0), (8, .bp 3 0), (9, .v (.slice none 0 0)), (10, .v (.int .i64 0)), (11, .v (.int .i64 e0))], ⟨[flsA f, filA dir, nodA n, [.v (.slice none 0 0)]], []⟩⟩) ?_ ?_
  · skip
    refine w_ (m_ (h:=eq_ (h:=m_ (h:=?_))))
    refine al_gs true rfl rfl (fun hb1 => ?_) (fun hb1 => ?_)
    · have hc1 := bp hb1
      refine l_ (h:=?_)
      refine g_y (q_call (Rplain n hns) ?_)
      rintro r rfl
      refine nt_ (h:=pt_ (h:=e_ (?_)))
      refine aw_cond rfl (fun hb2 => ?_) (fun hb2 => ?_)
      · have hc2 := bp hb2
        have hee : e0 = 22 := by rw [he0, if_neg (by omega), if_pos hc2]
        refine aw_region (a_ (h:=al_nil (?_)))
        refine x_then ?_
        refine ⟨_, rfl, ?_⟩
        rw [hee]
        exact (wk 4 0)
      have hc2 := bp hb2
      have hee : e0 = placeL f dir name := by rw [he0, if_neg (by omega), if_neg (by simp [hc2]), hc1]
      refine aw_skip (?_)
      refine x_then ?_
      refine ⟨_, rfl, ?_⟩
      rw [hee]
      exact (wk 4 0)
    have hc1 := bp hb1
    have hee : e0 = placeL f dir name := by rw [he0, if_pos hc1]
    refine g0_ (h:=g0_ (h:=g0_ (h:=pf_ (h:=e_ (cn_ (h:=aw_skip (?_)))))))
    refine x_then ?_
    refine ⟨_, rfl, ?_⟩
    rw [hee]
    exact (wk 4 0)
  rintro t rfl
  refine q_ (w_ (m_ (h:=nq_ (h:=e_ (?_)))))
  refine aw_cond rfl (fun hb3 => ?_) (fun hb3 => ?_)
  · have hc3 := bp hb3
    refine w_ (bd_ (h:=m_ (h:=s_ (h:=a_ (h:=a_ (h:=e_ (aw_ret (x_thenR (?_)))))))))
    refine rt_ (r := chgR (mkL f dir name n)) none (h5 := ?_) (h6 := ⟨rfl, rfl, rfl⟩)
    rw [show mkL f dir name n = ([], [], e0) by
      unfold mkL
      by_cases h : placeL f dir name = 0
      · rw [if_neg (by omega)] at he0 ⊢
        by_cases h2 : plainL n = false
        · rw [if_pos h2] at he0 ⊢; rw [he0]
        rw [if_neg h2] at he0; omega
      rw [if_pos h] at he0 ⊢; rw [he0]]
    exact err_le _
  have hc3 := bp hb3
  have hpl : placeL f dir name = 0 := by
    by_cases h : placeL f dir name = 0
    · exact h
    rw [if_pos h] at he0; omega
  have hpn : ¬ plainL n = false := by
    intro h
    rw [if_neg (by omega), if_pos h] at he0
    omega
  refine kt_ (q_ (w_ (l_ (h:=l_ (h:=m_ (h:=?_))))))
  refine al_p rfl (q_call (Rlook f dir name hf) ?_)
  rintro r rfl
  refine m_ (h:=x_ (h:=x_ (h:=al_ (h:=s_ (h:=a_ (h:=e_ (w_ (m_ (h:=eq_ (h:=e_ (?_)))))))))))
  refine aw_cond rfl (fun hb4 => ?_) (fun hb4 => ?_)
  · have hc4 := bp hb4
    refine w_ (bd_ (h:=s_ (h:=a_ (h:=a_ (h:=e_ (aw_ret (x_thenR (?_))))))))
    refine rt_ (r := chgR (mkL f dir name n)) none (h5 := ?_) (h6 := ⟨rfl, rfl, rfl⟩)
    rw [mkL, if_neg (by omega), if_neg hpn, if_pos (by omega)]
    exact err_le _
  have hc4 := bp hb4
  obtain ⟨q, i, d, n0, hdq, hq, hn0, hino, hidx, hnode, hk0, hnm⟩ := place_ok (name := name) (dir := dir) (f := f) hpl
  have hil := (List.getElem?_eq_some_iff.1 hn0).1
  have hql := (List.getElem?_eq_some_iff.1 hq).1
  have hvd := hv.vd d (List.mem_of_getElem? hq)
  have hatI : atI f dir.1 = some d := by rw [hdq, atI_nat, hq]
  have hrow : (f.map dvcA)[q]? = some (dvcA d) := by rw [List.getElem?_map, hq]; rfl
  have hnx1 := hvd.next2
  have hnx2 := hvd.nextM
  have hdl := hvd.len
  refine kt_ (w_ (f_ (h:=l_ (h:=f_ (h:=l_ (h:=?_))))))
  refine al_p rfl (st_index (n := q) rfl rfl hdq hrow ?_)
  refine l_ (h:=al_ (h:=s_ (h:=e_ (q_ (w_ (f_ (h:=l_ (h:=n_ (h:=ge_ (h:=m_ (h:=?_)))))))))))
  refine al_gs false rfl rfl (fun hb5 => ?_) (fun hb5 => ?_)
  · have hc5 := bp hb5
    refine g0_ (h:=g0_ (h:=g0_ (h:=pt_ (h:=m_ (h:=g0_ (h:=g0_ (h:=g0_ (h:=pt_ (h:=e_ (cy_ (h:=w_ (bd_ (h:=s_ (h:=a_ (h:=a_ (h:=e_ (aw_ret (x_thenR (?_)))))))))))))))))))
    refine rt_ (r := chgR (mkL f dir name n)) none (h5 := ?_) (h6 := ⟨rfl, rfl, rfl⟩)
    rw [mkL, if_neg (by omega), if_neg hpn, if_neg (by omega), hatI]
    simp only
    rw [if_pos (by first | exact .inl (by simp at *; omega) | exact .inr (.inl (by omega)) | exact .inr (.inr (by assumption)))]
    exact err_le _
  have hc5 := bp hb5
  refine f_ (h:=l_ (h:=eq_ (h:=pf_ (h:=m_ (h:=?_)))))
  refine al_gs false rfl rfl (fun hb6 => ?_) (fun hb6 => ?_)
  · have hc6 := bp hb6
    refine g0_ (h:=g0_ (h:=g0_ (h:=pt_ (h:=e_ (cy_ (h:=w_ (bd_ (h:=s_ (h:=a_ (h:=a_ (h:=e_ (aw_ret (x_thenR (?_))))))))))))))
    refine rt_ (r := chgR (mkL f dir name n)) none (h5 := ?_) (h6 := ⟨rfl, rfl, rfl⟩)
    rw [mkL, if_neg (by omega), if_neg hpn, if_neg (by omega), hatI]
    simp only
    rw [if_pos (by first | exact .inl (by simp at *; omega) | exact .inr (.inl (by omega)) | exact .inr (.inr (by assumption)))]
    exact err_le _
  have hc6 := bp hb6
  refine l_ (h:=l_ (h:=?_))
  refine g_y (q_call (Rfull f dir hf) ?_)
  rintro r rfl
  refine pf_ (h:=e_ (?_))
  refine aw_cond rfl (fun hb7 => ?_) (fun hb7 => ?_)
  · have hc7 := bp hb7
    refine w_ (bd_ (h:=s_ (h:=a_ (h:=a_ (h:=e_ (aw_ret (x_thenR (?_))))))))
    refine rt_ (r := chgR (mkL f dir name n)) none (h5 := ?_) (h6 := ⟨rfl, rfl, rfl⟩)
    rw [mkL, if_neg (by omega), if_neg hpn, if_neg (by omega), hatI]
    simp only
    rw [if_pos (by first | exact .inl (by simp at *; omega) | exact .inr (.inl (by omega)) | exact .inr (.inr (by assumption)))]
    exact err_le _
  have hc7 := bp hb7
  refine kt_ (w_ (l_ (h:=?_)))
  refine al_p rfl (s_callM [] rfl (.cons _ _ _ _ _ rfl (LeA.refl _) .nil) (by decide) .nil (RcopyK f q d hf hq (by omega)) ?_)
  rintro r bc tc ⟨rfl, cap, cap1, hcap, hcap1, rfl, rfl⟩
  refine ⟨rfl, _, (back_new2 (n := 6) rfl f q d d.nodes cap cap1 : Back _ [] _ [_, _, _, _, _, _, _, _]), ?_⟩
  have hD0 : (DB f q d 7 cap cap1)[0 + q * 2 + 1]? = some (.bs 7 0 8 d.nodes.length cap1) := DB_nodes hql
  obtain ⟨mk, hmk⟩ : ∃ mk, mk = mkNod n d.next dir.2 := ⟨_, rfl⟩
  refine al_ (h:=s_ (h:=e_ (w_ (f_ (h:=l_ (h:=f_ (h:=l_ (h:=f_ (h:=l_ (h:=f_ (h:=l_ (h:=f_ (h:=l_ (h:=f_ (h:=l_ (h:=?_))))))))))))))))
  refine al_p rfl (st_le (y := .agg (nodA ⟨d.next, n.kind, n.mode, n.uid, n.gid, 0, n.target, []⟩)) (st_build (by repeat (first | exact FillA.nil _ | (apply FillA.cons; (focus exact rfl); (focus exact rfl); (focus exact rfl); (focus exact rfl); (focus exact rfl); (focus (repeat constructor))))) ⟨rfl, rfl⟩) (by repeat (first | exact LeA.refl _ | exact LeA.nil _ | exact LeL.refl _ | refine LeA.agg ?_ | refine LeA.tup ?_ | exact LeL.nil | refine LeL.cons ?_ ?_ | exact LeA.any _)) ?_)
  refine al_ (h:=s_ (h:=e_ (?_)))
  refine aw_midI (fun t => t = ⟨look [(2, .v (.string name)), (5, .bp 1 0), (8, .bp 3 0), (15, .bp 8 0), (16, .bp 9 0)], ⟨[flsA f, filA dir, nodA n, [.v (.slice none 0 0)], filA (lookL f dir name).1, dvcA d, DB f q d 7 cap cap1, NB d.nodes cap1, [.bs 6 0 2 f.length cap], nodA mk], []⟩⟩) ?_ ?_
  · skip
    refine w_ (f_ (h:=l_ (h:=eq_ (h:=e_ (?_)))))
    refine aw_cond rfl (fun hb8 => ?_) (fun hb8 => ?_)
    · have hc8 := bp hb8
      have hmk2 : mk = ⟨d.next, n.kind, n.mode, n.uid, n.gid, dir.2, n.target, []⟩ := by rw [hmk]; unfold mkNod; rw [if_pos hc8]
      refine aw_region (f_ (h:=l_ (h:=f_ (h:=s_ (h:=al_nil (?_))))))
      refine x_then ?_
      refine ⟨_, rfl, ?_⟩
      rw [hmk2]
      exact weak_of 10 0 rfl rfl rfl (by simp [bpLtB, bpLtL, bpLt, bp_DB, bp_NB, filA, nodA, flsA, dvcA]) (by repeat (first | exact Sub.nil | refine Sub.cons _ _ _ rfl rfl ?_ | refine Sub.any _ _ ?_ | refine Sub.sl _ _ _ _ _ rfl ?_ | refine Sub.slnil _ _ _ rfl ?_))
    have hc8 := bp hb8
    have hmk2 : mk = ⟨d.next, n.kind, n.mode, n.uid, n.gid, 0, n.target, []⟩ := by rw [hmk]; unfold mkNod; rw [if_neg hc8]
    refine aw_skip (?_)
    refine x_then ?_
    refine ⟨_, rfl, ?_⟩
    rw [hmk2]
    exact weak_of 10 0 rfl rfl rfl (by simp [bpLtB, bpLtL, bpLt, bp_DB, bp_NB, filA, nodA, flsA, dvcA]) (by repeat (first | exact Sub.nil | refine Sub.cons _ _ _ rfl rfl ?_ | refine Sub.any _ _ ?_ | refine Sub.sl _ _ _ _ _ rfl ?_ | refine Sub.slnil _ _ _ rfl ?_))
  rintro t rfl
  refine aw_midI (fun t => ∃ capx, (d.nodes ++ [mk]).length ≤ capx ∧ t = ⟨look [(2, .v (.string name)), (5, .bp 1 0), (8, .bp 3 0), (15, .bp 8 0), (16, .bp 9 0)], ⟨[flsA f, filA dir, nodA n, [.v (.slice none 0 0)], filA (lookL f dir name).1, dvcA d, DB f q { d with nodes := d.nodes ++ [mk] } 7 cap capx, NB (d.nodes ++ [mk]) capx, [.bs 6 0 2 f.length cap], nodA mk], []⟩⟩) ?_ ?_
  · skip
    refine yk_ ([(0, flsA f), (1, filA dir), (2, nodA n), (3, [.v (.slice none 0 0)]), (4, filA (lookL f dir name).1), (5, dvcA d), (6, DB f q d 7 cap cap1), (8, [.bs 6 0 2 f.length cap]), (9, nodA mk)]) 16 (h:=?_)
    refine aa_t2 (i := 0) rfl rfl (by kernel_rfl) (by first | rfl | exact wan_y rfl rfl (beq_tt ‹_›) | exact wan_y rfl rfl (beq_ff ‹_›) | exact wan_y rfl rfl (by simp [*])) (fun h0 hS => st_fieldB rfl ⟨rfl, rfl⟩) (by repeat (first | exact kb_n _ | refine kb_c rfl ?_)) ?_
    first | refine aa_t2 (i := 1) rfl rfl (by kernel_rfl) (by first | rfl | exact wan_y rfl rfl (beq_tt ‹_›) | exact wan_y rfl rfl (beq_ff ‹_›) | exact wan_y rfl rfl (by simp [*])) (fun h0 hS => st_loadB1 (row := DB f q d 7 cap cap1) rfl (kb hS rfl) hD0 ⟨rfl, rfl⟩) (by repeat (first | exact kb_n _ | refine kb_c rfl ?_)) ?_ | refine aa_t2 (i := 1) rfl rfl (by kernel_rfl) (by first | rfl | exact wan_y rfl rfl (beq_tt ‹_›) | exact wan_y rfl rfl (beq_ff ‹_›) | exact wan_y rfl rfl (by simp [*])) (fun h0 hS => st_loadB1 rfl (kb hS rfl) rfl ⟨rfl, rfl⟩) (by repeat (first | exact kb_n _ | refine kb_c rfl ?_)) ?_
    refine aa_t2 (i := 2) rfl rfl (by kernel_rfl) (by first | rfl | exact wan_y rfl rfl (beq_tt ‹_›) | exact wan_y rfl rfl (beq_ff ‹_›) | exact wan_y rfl rfl (by simp [*])) (fun h0 hS => st_fieldB rfl ⟨rfl, rfl⟩) (by repeat (first | exact kb_n _ | refine kb_c rfl ?_)) ?_
    first | refine aa_t2 (i := 3) rfl rfl (by kernel_rfl) (by first | rfl | exact wan_y rfl rfl (beq_tt ‹_›) | exact wan_y rfl rfl (beq_ff ‹_›) | exact wan_y rfl rfl (by simp [*])) (fun h0 hS => st_loadB1 (row := DB f q d 7 cap cap1) rfl (kb hS rfl) hD0 ⟨rfl, rfl⟩) (by repeat (first | exact kb_n _ | refine kb_c rfl ?_)) ?_ | refine aa_t2 (i := 3) rfl rfl (by kernel_rfl) (by first | rfl | exact wan_y rfl rfl (beq_tt ‹_›) | exact wan_y rfl rfl (beq_ff ‹_›) | exact wan_y rfl rfl (by simp [*])) (fun h0 hS => st_loadB1 rfl (kb hS rfl) rfl ⟨rfl, rfl⟩) (by repeat (first | exact kb_n _ | refine kb_c rfl ?_)) ?_
    refine aa_t2 (i := 4) rfl rfl (by kernel_rfl) (by first | rfl | exact wan_y rfl rfl (beq_tt ‹_›) | exact wan_y rfl rfl (beq_ff ‹_›) | exact wan_y rfl rfl (by simp [*])) (fun h0 hS => st_fieldB rfl ⟨rfl, rfl⟩) (by repeat (first | exact kb_n _ | refine kb_c rfl ?_)) ?_
    first | refine aa_t2 (i := 5) rfl rfl (by kernel_rfl) (by first | rfl | exact wan_y rfl rfl (beq_tt ‹_›) | exact wan_y rfl rfl (beq_ff ‹_›) | exact wan_y rfl rfl (by simp [*])) (fun h0 hS => st_loadB1 (row := DB f q d 7 cap cap1) rfl (kb hS rfl) hD0 ⟨rfl, rfl⟩) (by repeat (first | exact kb_n _ | refine kb_c rfl ?_)) ?_ | refine aa_t2 (i := 5) rfl rfl (by kernel_rfl) (by first | rfl | exact wan_y rfl rfl (beq_tt ‹_›) | exact wan_y rfl rfl (beq_ff ‹_›) | exact wan_y rfl rfl (by simp [*])) (fun h0 hS => st_loadB1 rfl (kb hS rfl) rfl ⟨rfl, rfl⟩) (by repeat (first | exact kb_n _ | refine kb_c rfl ?_)) ?_
    refine aa_t2 (i := 6) rfl rfl (by kernel_rfl) (by first | rfl | exact wan_y rfl rfl (beq_tt ‹_›) | exact wan_y rfl rfl (beq_ff ‹_›) | exact wan_y rfl rfl (by simp [*])) (fun h0 hS => st_fieldB rfl ⟨rfl, rfl⟩) (by repeat (first | exact kb_n _ | refine kb_c rfl ?_)) ?_
    first | refine aa_t2 (i := 7) rfl rfl (by kernel_rfl) (by first | rfl | exact wan_y rfl rfl (beq_tt ‹_›) | exact wan_y rfl rfl (beq_ff ‹_›) | exact wan_y rfl rfl (by simp [*])) (fun h0 hS => st_loadB1 (row := DB f q d 7 cap cap1) rfl (kb hS rfl) hD0 ⟨rfl, rfl⟩) (by repeat (first | exact kb_n _ | refine kb_c rfl ?_)) ?_ | refine aa_t2 (i := 7) rfl rfl (by kernel_rfl) (by first | rfl | exact wan_y rfl rfl (beq_tt ‹_›) | exact wan_y rfl rfl (beq_ff ‹_›) | exact wan_y rfl rfl (by simp [*])) (fun h0 hS => st_loadB1 rfl (kb hS rfl) rfl ⟨rfl, rfl⟩) (by repeat (first | exact kb_n _ | refine kb_c rfl ?_)) ?_
    refine aa_t2 (i := 8) rfl rfl (by kernel_rfl) (by first | rfl | exact wan_y rfl rfl (beq_tt ‹_›) | exact wan_y rfl rfl (beq_ff ‹_›) | exact wan_y rfl rfl (by simp [*])) (fun h0 hS => st_indexS (m := q) rfl rfl hdq hql ⟨rfl, rfl⟩) (by repeat (first | exact kb_n _ | refine kb_c rfl ?_)) ?_
    refine aa_t2 (i := 9) rfl rfl (by kernel_rfl) (by first | rfl | exact wan_y rfl rfl (beq_tt ‹_›) | exact wan_y rfl rfl (beq_ff ‹_›) | exact wan_y rfl rfl (by simp [*])) (fun h0 hS => st_fieldB rfl ⟨rfl, rfl⟩) (by repeat (first | exact kb_n _ | refine kb_c rfl ?_)) ?_
    first | refine aa_t2 (i := 10) rfl rfl (by kernel_rfl) (by first | rfl | exact wan_y rfl rfl (beq_tt ‹_›) | exact wan_y rfl rfl (beq_ff ‹_›) | exact wan_y rfl rfl (by simp [*])) (fun h0 hS => st_loadB1 (row := DB f q d 7 cap cap1) rfl (kb hS rfl) hD0 ⟨rfl, rfl⟩) (by repeat (first | exact kb_n _ | refine kb_c rfl ?_)) ?_ | refine aa_t2 (i := 10) rfl rfl (by kernel_rfl) (by first | rfl | exact wan_y rfl rfl (beq_tt ‹_›) | exact wan_y rfl rfl (beq_ff ‹_›) | exact wan_y rfl rfl (by simp [*])) (fun h0 hS => st_loadB1 rfl (kb hS rfl) rfl ⟨rfl, rfl⟩) (by repeat (first | exact kb_n _ | refine kb_c rfl ?_)) ?_
    first | refine aa_t2 (i := 11) rfl rfl (by kernel_rfl) (by first | rfl | exact wan_y rfl rfl (beq_tt ‹_›) | exact wan_y rfl rfl (beq_ff ‹_›) | exact wan_y rfl rfl (by simp [*])) (fun h0 hS => st_loadB1 (row := DB f q d 7 cap cap1) rfl (kb hS rfl) hD0 ⟨rfl, rfl⟩) (by repeat (first | exact kb_n _ | refine kb_c rfl ?_)) ?_ | refine aa_t2 (i := 11) rfl rfl (by kernel_rfl) (by first | rfl | exact wan_y rfl rfl (beq_tt ‹_›) | exact wan_y rfl rfl (beq_ff ‹_›) | exact wan_y rfl rfl (by simp [*])) (fun h0 hS => st_loadBW rfl (kb hS rfl) rfl ⟨rfl, rfl⟩) (by repeat (first | exact kb_n _ | refine kb_c rfl ?_)) ?_
    refine aa_t2 (i := 12) rfl rfl (by kernel_rfl) (by first | rfl | exact wan_y rfl rfl (beq_tt ‹_›) | exact wan_y rfl rfl (beq_ff ‹_›) | exact wan_y rfl rfl (by simp [*])) (fun h0 hS => st_slit (by repeat (first | exact DenseA.nil _ | (apply DenseA.cons; (focus exact rfl); (focus exact rfl); (focus exact rfl); (focus exact rfl)) | (apply DenseA.consE; (focus exact rfl); (focus exact rfl); (focus exact rfl)))) rfl rfl rfl rfl ⟨rfl, rfl⟩) (by repeat (first | exact kb_n _ | refine kb_c rfl ?_)) ?_
    refine c_ 13 rfl (st_appendB rfl rfl rfl (by rw [NB_len hcap1]; omega) src1 (by omega) (by omega) ?_ ?_)
    · rintro hg row2 bx2 hs hb
      obtain rfl := NB_push hs hg
      obtain rfl : bx2 = [_, _, _, _, _, _, _, _, _, _] := hb.one.2
      have hgx : (d.nodes ++ [mk]).length ≤ cap1 := by simpa using hg
      refine o_ (h:=?_)
      refine aa_t2 (i := 14) rfl rfl (by kernel_rfl) (by first | rfl | exact wan_y rfl rfl (beq_tt ‹_›) | exact wan_y rfl rfl (beq_ff ‹_›) | exact wan_y rfl rfl (by simp [*])) (fun h0 hS => st_indexS (m := q) rfl rfl hdq hql ⟨rfl, rfl⟩) (by repeat (first | exact kb_n _ | refine kb_c rfl ?_)) ?_
      refine aa_t2 (i := 15) rfl rfl (by kernel_rfl) (by first | rfl | exact wan_y rfl rfl (beq_tt ‹_›) | exact wan_y rfl rfl (beq_ff ‹_›) | exact wan_y rfl rfl (by simp [*])) (fun h0 hS => st_fieldB rfl ⟨rfl, rfl⟩) (by repeat (first | exact kb_n _ | refine kb_c rfl ?_)) ?_
      refine c0_ 16 rfl (s_store rfl rfl rfl rfl rfl rfl (DB_push mk hql) (by repeat constructor) ?_)
      refine o_ (h:=z_ (h:=?_))
      refine x_then ?_
      first | exact ⟨_, ⟨_, hgx, rfl⟩, weak_ren [0, 1, 2, 3, 4, 5, 6, 10, 8, 9] (fun i hi => absurd hi (Nat.not_lt_zero i)) (by decide) (.cons _ _ _ _ _ rfl rfl (.cons _ _ _ _ _ rfl rfl (.cons _ _ _ _ _ rfl rfl (.cons _ _ _ _ _ rfl rfl (.cons _ _ _ _ _ rfl rfl (.cons _ _ _ _ _ rfl rfl (.cons _ _ _ _ _ rfl (renK_DB (by rfl) _ _ _ _ _) (.cons _ _ _ _ _ rfl (renK_NB _ _ _) (.cons _ _ _ _ _ rfl rfl (.cons _ _ _ _ _ rfl rfl .nil)))))))))) (by repeat (first | exact SubK.nil | refine SubK.cons _ _ _ _ rfl (LeA.refl _) ?_))⟩ | exact ⟨_, ⟨_, hgx, rfl⟩, weak_of 10 0 rfl rfl rfl (by simp [bpLtB, bpLtL, bpLt, bp_DB, bp_NB, filA, nodA, flsA, dvcA]) ((by repeat (first | exact Sub.nil | refine Sub.cons _ _ _ rfl rfl ?_ | refine Sub.any _ _ ?_ | refine Sub.sl _ _ _ _ _ rfl ?_ | refine Sub.slnil _ _ _ rfl ?_)))⟩
    rintro hg cap3 k bx2 hcp3 hs
    rw [show ((NB d.nodes cap1).drop 0).take (d.nodes.length * 8) ++ cellsA (.agg (nodA mk)) ++ List.replicate ((cap3 - (d.nodes.length + 1)) * 8) AV.any = NB (d.nodes ++ [mk]) cap3 from NB_new d.nodes mk cap1 cap3] at hs
    obtain ⟨rfl, rfl⟩ : k = 10 ∧ bx2 = [_, _, _, _, _, _, _, _, _, _, _] := hs.eq
    have hgx : (d.nodes ++ [mk]).length ≤ cap3 := by simpa using hcp3
    refine o_ (h:=?_)
    refine aa_t2 (i := 14) rfl rfl (by kernel_rfl) (by first | rfl | exact wan_y rfl rfl (beq_tt ‹_›) | exact wan_y rfl rfl (beq_ff ‹_›) | exact wan_y rfl rfl (by simp [*])) (fun h0 hS => st_indexS (m := q) rfl rfl hdq hql ⟨rfl, rfl⟩) (by repeat (first | exact kb_n _ | refine kb_c rfl ?_)) ?_
    refine aa_t2 (i := 15) rfl rfl (by kernel_rfl) (by first | rfl | exact wan_y rfl rfl (beq_tt ‹_›) | exact wan_y rfl rfl (beq_ff ‹_›) | exact wan_y rfl rfl (by simp [*])) (fun h0 hS => st_fieldB rfl ⟨rfl, rfl⟩) (by repeat (first | exact kb_n _ | refine kb_c rfl ?_)) ?_
    refine c0_ 16 rfl (s_store rfl rfl rfl rfl rfl rfl (DB_push mk hql) (by repeat constructor) ?_)
    refine o_ (h:=z_ (h:=?_))
    refine x_then ?_
    first | exact ⟨_, ⟨_, hgx, rfl⟩, weak_ren [0, 1, 2, 3, 4, 5, 6, 10, 8, 9] (fun i hi => absurd hi (Nat.not_lt_zero i)) (by decide) (.cons _ _ _ _ _ rfl rfl (.cons _ _ _ _ _ rfl rfl (.cons _ _ _ _ _ rfl rfl (.cons _ _ _ _ _ rfl rfl (.cons _ _ _ _ _ rfl rfl (.cons _ _ _ _ _ rfl rfl (.cons _ _ _ _ _ rfl (renK_DB (by rfl) _ _ _ _ _) (.cons _ _ _ _ _ rfl (renK_NB _ _ _) (.cons _ _ _ _ _ rfl rfl (.cons _ _ _ _ _ rfl rfl .nil)))))))))) (by repeat (first | exact SubK.nil | refine SubK.cons _ _ _ _ rfl (LeA.refl _) ?_))⟩ | exact ⟨_, ⟨_, hgx, rfl⟩, weak_of 10 0 rfl rfl rfl (by simp [bpLtB, bpLtL, bpLt, bp_DB, bp_NB, filA, nodA, flsA, dvcA]) ((by repeat (first | exact Sub.nil | refine Sub.cons _ _ _ rfl rfl ?_ | refine Sub.any _ _ ?_ | refine Sub.sl _ _ _ _ _ rfl ?_ | refine Sub.slnil _ _ _ rfl ?_)))⟩
  rintro t ⟨capx, hcapx, rfl⟩
  have hasc2 : Asc (d.nodes ++ [mk]) := List.pairwise_append.2 ⟨hvd.asc, List.pairwise_singleton _ _, fun x hx y hy => by obtain rfl := List.mem_singleton.1 hy; rw [hmk]; exact hvd.lt x hx⟩
  have hn2 : (d.nodes ++ [mk])[i]? = some n0 := by rw [List.getElem?_append_left hil]; exact hn0
  have hidx2 : indexL (f.set q ⟨d.next + 1, d.nodes ++ [mk]⟩) dir = (i : Int) := index_asc hdq (d := ⟨d.next + 1, d.nodes ++ [mk]⟩) (by simp [hql]) hasc2 hn2 hino
  have hf2 : FlsB (f.set q ⟨d.next + 1, d.nodes ++ [mk]⟩) := hf.set_ (by have := hvd.len; simp; omega) (fun m hm => by
    rcases List.mem_append.1 hm with h | h
    · have := hvd.many m h; omega
    obtain rfl := List.mem_singleton.1 h; rw [hmk]; simp [mkNod])
  have hmki : mk.ino = d.next := by rw [hmk]; rfl
  have hmk0 : (nodA mk)[0 + 0]? = some (.v (.int .i64 d.next)) := by rw [hmk]; rfl
  refine w_ (f_ (h:=l_ (h:=f_ (h:=l_ (h:=?_)))))
  refine al_p rfl (st_indexS (m := q) rfl rfl hdq hql ?_)
  refine f_ (h:=?_)
  refine al_p rfl (st_loadB1 rfl rfl (DB_next hql) ?_)
  refine al_p rfl (st_add64 rfl rfl (by dsimp only; omega) ?_)
  refine al_p rfl (st_indexS (m := q) rfl rfl hdq hql ?_)
  refine f_ (h:=?_)
  refine al_p0 (s_store rfl rfl rfl rfl rfl rfl (DB_set (d' := ⟨d.next + 1, d.nodes ++ [mk]⟩) (j' := 7) (cap1' := capx) (k := 0) (cs := [.v (.int .i64 (d.next + 1))]) hql (by repeat constructor) (by simp)) (by repeat constructor) ?_)
  refine e_ (w_ (l_ (h:=l_ (h:=m_ (h:=f_ (h:=l_ (h:=?_)))))))
  refine al_p rfl (s_callM [6, 7] rfl (.cons _ _ _ _ _ rfl (LeA.refl _) (.cons _ _ _ _ _ rfl (LeA.refl _) (.cons _ _ _ _ _ rfl (LeA.refl _) (.cons _ _ _ _ _ rfl (LeA.of_eq (show AV.v (.int .i64 mk.ino) = _ by rw [hmki])) .nil)))) (by decide) (.cons _ _ _ _ _ rfl (ren_DB (by rfl) _ _ _ _ _) (.cons _ _ _ _ _ rfl (ren_NB _ _ _) .nil)) (Renter2 f q ⟨d.next + 1, d.nodes ++ [mk]⟩ n0 i dir name d.next cap capx hf2 hql hdq hidx2 hn2 hcap hcapx) ?_)
  rintro r bc tc ⟨rfl, rfl, rfl⟩
  refine ⟨rfl, _, (back_two (Nat.le_of_ble_eq_true rfl) (Nat.le_of_ble_eq_true rfl) (by decide) f q ⟨d.next + 1, d.nodes ++ [mk]⟩ (entS (d.nodes ++ [mk]) i n0 name d.next) cap capx capx : Back _ [6, 7] _ [_, _, _, _, _, _, _, _, _, _]), ?_⟩
  refine e_ (?_)
  refine aw_midI (fun t => t = ⟨look [(8, .bp 3 0), (9, .sl 7 [chgA (dir, name, (0, 0), (dir.1, d.next))] none), (10, .v (.int .i64 0))], ⟨[flsA f, filA dir, nodA n, flsA (f.set q ⟨d.next + 1, entS (d.nodes ++ [mk]) i n0 name d.next⟩)], []⟩⟩) ?_ ?_
  · skip
    refine yk_ ([(0, flsA f), (1, filA dir), (2, nodA n), (4, filA (lookL f dir name).1), (5, dvcA d), (8, [.bs 6 0 2 f.length cap]), (9, nodA mk)]) 13 (h:=dl_ 0 (h:=dl_ 1 (h:=dm_ 2 (h:=?_))))
    refine tk_ 3 rfl (fun _ hS => st_le (y := .agg (filA (0, 0))) (st_build (by repeat (first | exact FillA.nil _ | (apply FillA.cons; (focus exact rfl); (focus exact rfl); (focus exact rfl); (focus exact rfl); (focus exact rfl); (focus (repeat constructor))))) ⟨rfl, rfl⟩) (by repeat (first | exact LeA.refl _ | exact LeA.nil _ | exact LeL.refl _ | refine LeA.agg ⟨rfl, rfl⟩ | refine LeA.tup ⟨rfl, rfl⟩ | exact LeL.nil | refine LeL.cons ⟨rfl, rfl⟩ ⟨rfl, rfl⟩ | exact LeA.any _)) ⟨rfl, rfl⟩) ?_
    refine df_ 4 (h:=dl_ 5 (h:=df_ 6 (h:=?_)))
    refine tk_ 7 rfl (fun _ hS => st_loadB1 (row := nodA mk) rfl (kb hS rfl) hmk0 ⟨rfl, rfl⟩) ?_
    refine dbd_ 8 (h:=?_)
    refine c_ 9 rfl (q_call (Rone dir name (0, 0) (dir.1, d.next)) ?_)
    rintro r rfl
    refine o_ (h:=?_)
    refine c0_ 10 rfl (s_store rfl rfl rfl rfl rfl rfl (by repeat constructor) (by repeat constructor) ?_)
    refine o_ (h:=da_ 11 (h:=da_ 12 (h:=z_ (h:=?_))))
    refine x_then ?_
    exact ⟨_, rfl, weak_fz 4 2 rfl (congrArg (fun x => [flsA f, filA dir, nodA n, x]) (liv_upd (k := 0) (i := 6) (j := 7) (d := ⟨d.next + 1, d.nodes ++ [mk]⟩) (d' := ⟨d.next + 1, entS (d.nodes ++ [mk]) i n0 name d.next⟩) hql rfl (entS_len _ _ _ _ _) hcap (by rw [entS_len]; exact hcapx) (Nat.le_of_ble_eq_true rfl) (Nat.le_of_ble_eq_true rfl) rfl rfl)) (.cons _ _ _ _ rfl (LeA.refl _) (.cons _ _ _ _ rfl (LeA.refl _) (.cons _ _ _ _ rfl (LeA.refl _) .nil)))⟩
  rintro t rfl
  refine aw_ret (?_)
  refine e_ret ?_
  rw [List.length_map] at hc5
  rw [mkL, if_neg (by omega), if_neg hpn, if_neg (by omega), hatI]
  simp only
  rw [if_neg (by rw [hc7]; simp; omega), hdq, Int.toNat_natCast, ← hino, ← entS_D hvd hn0, hino, ← hmk, show entS d.nodes i n0 name d.next ++ [mk] = entS (d.nodes ++ [mk]) i n0 name d.next by unfold entS; rw [List.set_append_left _ _ hil], ← hdq]
  rfl

end
end Go.Proofs.Ythcbdkmhamhciaa
namespace Go.Proofs.Ythcbdkmhamhciaa
open Go.RowKit

theorem RcopyF (f : Fls) (hf : FlsB f) : AFn Try.prog 69 [.agg (flsA f)] (fun r => r = .agg (flsA f)) := by
  intro w St bl vs hr hv
  have hbl : bl = [] := by have := hr.bxlen; simpa using this
  subst hbl
  simp only [repL] at hv
  obtain ⟨z, zs, rfl, hz, rfl⟩ := hv
  have hz' : fro St w (.agg (flsA f)) z := by have := fro_era _ _ hz; simpa [era, eraL, flsA] using this
  have hF := fls_old hr.stlt hf hz'
  refine Calls.mono (Old.Copy_any z f w hF) ?_
  rintro e w' ⟨dv, L, rfl, hD, hL, hB⟩
  have hsz := hB.size
  obtain ⟨d1, d2, d3, d4⟩ := hD
  let St' : Nat → Nat → Prop := fun b o => St b o ∨ (w.heap.size ≤ b ∧ b < w'.heap.size)
  let G' : Gh := ⟨St', [], []⟩
  have hfresh : ∀ {α : Type} {sz : Nat} {cell : α → Nat → Value} {E : TypeId} {v : Value} {xs : List α}, Old.OwnL sz cell E w' w.heap.size v xs → ∀ b, v.ownBlock = some b → ∀ o, St' b o := fun h b hb o => .inr (h.lt b hb)
  have hents : ∀ (y : Nod × Value) , Old.OwnL 2 Old.entCell 101 w' w.heap.size y.2 y.1.entries → fro St' w' (.sl 2 (y.1.entries.map entA) none) y.2 := by
    intro y hy
    refine own_fro hy (hfresh hy) (fun _ _ => rfl) fun e _ j av hj => ?_
    match j, hj with
    | 0, hj => injection hj with hj; subst hj; simp only [fro]; rfl
    | 1, hj => injection hj with hj; subst hj; simp only [fro]; rfl
  have hnod : ∀ (y : Nod × Value), Old.OwnL 2 Old.entCell 101 w' w.heap.size y.2 y.1.entries → ∀ j av, (nodA y.1)[j]? = some av → fro St' w' av (Old.nodCell y j) := by
    intro y hy j av hj
    match j, hj with
    | 0, hj => injection hj with hj; subst hj; simp only [fro]; rfl
    | 1, hj => injection hj with hj; subst hj; simp only [fro]; rfl
    | 2, hj => injection hj with hj; subst hj; simp only [fro]; rfl
    | 3, hj => injection hj with hj; subst hj; simp only [fro]; rfl
    | 4, hj => injection hj with hj; subst hj; simp only [fro]; rfl
    | 5, hj => injection hj with hj; subst hj; simp only [fro]; rfl
    | 6, hj => injection hj with hj; subst hj; simp only [fro]; rfl
    | 7, hj => injection hj with hj; subst hj; exact hents y hy
    | j + 8, hj => exact absurd hj (by simp [nodA])
  have hdev : fro St' w' (.sl 2 (L.map fun x => dvcA (Old.dvcOf x)) none) dv := by
    refine own_fro d1 (hfresh d1) (fun _ _ => rfl) fun x hx j av hj => ?_
    obtain ⟨f1, f2, f3⟩ := (d2 x hx).1
    match j, hj with
    | 0, hj => injection hj with hj; subst hj; simp only [fro]; rfl
    | 1, hj =>
      injection hj with hj; subst hj
      have key := own_fro f1 (St := St') (hfresh f1) (enc := fun y => nodA y.1) (fun _ _ => rfl) fun z hz j av hj => hnod z (f2 z hz).1 j av hj
      have e : ((Old.dvcOf x).nodes.map nodA) = x.2.2.map fun y => nodA y.1 := by simp [Old.dvcOf]
      rw [e]
      exact key
    | j + 2, hj => exact absurd hj (by simp [dvcA])
  have hst : ∀ b o, St b o → b < w.heap.size := hr.stlt
  refine ⟨.agg (flsA f), [], [], G', ⟨rfl, rfl, rfl⟩, ⟨?_, ?_, ?_, ?_, rfl, ?_, ?_, ?_, ?_, rfl, ?_, ?_, ?_⟩, ⟨?_, ?_, ?_⟩, ?_⟩
  · intro i b hi; simp at hi
  · exact ⟨hB.os, hB.tape, hB.output, hB.size, fun k hk _ => hB.block k hk⟩
  · rintro b o (h | h)
    · have := hst b o h; omega
    exact h.2
  · rintro b o (h | h)
    · exact .inl h
    exact .inr h.1
  · show ([] : List Nat).Nodup; simp
  · intro b hb; simp [G'] at hb
  · intro b hb; simp [G'] at hb
  · intro i b row hi; simp [G'] at hi
  · intro g n u T sz rows hg; simp [G'] at hg
  · intro g n u hg; simp [G'] at hg
  · intro g g' n n' u u' hg; simp [G'] at hg
  · exact fun b o h => ⟨.inl h, hB.cell (p := ⟨b, o, none⟩) (hst b o h)⟩
  · intro i b hi; simp at hi
  · intro g n u hg; simp at hg
  refine rep_fro _ _ ?_
  unfold flsA
  rw [← hL, Old.flsOf, List.map_map]
  simp only [fro, froL]
  have hdev2 : fro St' w' (.sl 2 (L.map (dvcA ∘ Old.dvcOf)) none) dv := hdev
  simp only [fro] at hdev2
  exact ⟨[dv], rfl, dv, [], rfl, hdev2, rfl⟩
end Go.Proofs.Ythcbdkmhamhciaa
namespace Go.Proofs.Ythcbdkmhamhciaa
open Go.RowKit

def belowF (f : Fls) (a top : Fil) : Bool := belF f top 17 a
def ordV : List Int := [2, 20, 22]
def ordL (a b : Int) : Int := if a = 2 ∨ b = 2 then 2 else if a = 20 ∨ b = 20 then 20 else if a = 22 ∨ b = 22 then 22 else 0
theorem ord_hit {a b : Int} {j : Nat} {x : Int} (hx : ordV[j]? = some x) (ha : ∀ i y, i < j → ordV[i]? = some y → ¬ (a = y ∨ b = y)) (h : a = x ∨ b = x) : ordL a b = x := by
  unfold ordL
  match j, hx with
  | 0, hx => injection hx with hx; subst hx; rw [if_pos h]
  | 1, hx =>
    injection hx with hx; subst hx
    rw [if_neg (ha 0 2 (by omega) rfl), if_pos h]
  | 2, hx =>
    injection hx with hx; subst hx
    rw [if_neg (ha 0 2 (by omega) rfl), if_neg (ha 1 20 (by omega) rfl), if_pos h]
  | j + 3, hx => exact absurd hx (by simp [ordV])
theorem place_vals (f : Fls) (a : Fil) (name : Str) : placeL f a name = 0 ∨ placeL f a name = 2 ∨ placeL f a name = 20 ∨ placeL f a name = 22 := by
  unfold placeL
  split
  · exact .inr (.inl rfl)
  split
  · split
    · exact .inl rfl
    exact .inr (.inr (.inr rfl))
  exact .inr (.inr (.inl rfl))
theorem ord_none {a b : Int} (ha : ∀ i y, i < 3 → ordV[i]? = some y → ¬ (a = y ∨ b = y)) : ordL a b = 0 := by
  unfold ordL
  rw [if_neg (ha 0 2 (by omega) rfl), if_neg (ha 1 20 (by omega) rfl), if_neg (ha 2 22 (by omega) rfl)]
theorem ord_zero {f : Fls} {x y : Fil} {name name2 : Str} (h : ordL (placeL f x name) (placeL f y name2) = 0) : placeL f x name = 0 ∧ placeL f y name2 = 0 := by
  unfold ordL at h
  split at h
  · omega
  split at h
  · omega
  split at h
  · omega
  rename_i h1 h2 h3
  have a := place_vals f x name
  have b := place_vals f y name2
  omega
def ren2L (f : Fls) (src to : Fil) (a o : Fil) (e : Int) : Int :=
  if e = 0 then (if dirL f o = true ∧ dirL f a = false then 21 else if dirL f o = false ∧ dirL f a = true then 20 else if dirL f o = true ∧ emptyL f o = false then 39 else 0) else if fullL f to = true ∧ src ≠ to then 28 else 0
def renNs (ns : List Nod) (src : Fil) (name : Str) (to : Fil) (name2 : Str) (a o : Fil) (e : Int) : List Nod :=
  if e = 0 then dropI (entD (entD ns src.2 name 0) to.2 name2 a.2) o.2 else entD (entD ns src.2 name 0) to.2 name2 a.2
def renPar (ns : List Nod) (i : Int) (p : Int) (b : Bool) : List Nod := if b = true then updI ns i (fun n => { n with parent := p }) else ns
def renameL (f : Fls) (src : Fil) (name : Str) (to : Fil) (name2 : Str) : ChgRes :=
  if ordL (placeL f src name) (placeL f to name2) ≠ 0 then ([], [], ordL (placeL f src name) (placeL f to name2)) else if (lookL f src name).2 ≠ 0 then ([], [], (lookL f src name).2) else if src.1 ≠ to.1 then ([], [], 18) else
  if dirL f (lookL f src name).1 = true ∧ belowF f to (lookL f src name).1 = true then ([], [], 22) else if (lookL f to name2).2 = 0 ∧ (lookL f to name2).1 = (lookL f src name).1 then (f, [], 0) else
  if ren2L f src to (lookL f src name).1 (lookL f to name2).1 (lookL f to name2).2 ≠ 0 then ([], [], ren2L f src to (lookL f src name).1 (lookL f to name2).1 (lookL f to name2).2) else
  (onD f to.1.toNat fun ns => renPar (renNs ns src name to name2 (lookL f src name).1 (lookL f to name2).1 (lookL f to name2).2) (lookL f src name).1.2 to.2 (dirL f (lookL f src name).1), [(src, name, (lookL f src name).1, (0, 0)), (to, name2, (lookL f to name2).1, (lookL f src name).1)], 0)
theorem keepE_le (f : Fls) : LeA (.tup [.agg (flsA f), .v (.slice none 0 0), .v (.int .i64 0)]) (chgR (f, [], 0)) := LeA.tup (.cons (LeA.refl _) (.cons (LeA.nil 7) (.cons (LeA.refl _) .nil)))
theorem low_upd {n : Nat} {bx : List (List AV)} {k i j : Nat} {f : Fls} {q : Nat} {d : Dvc} {cap cap0 cap1 : Nat} (hq : q < f.length) (hc : f.length ≤ cap) (hc1 : d.nodes.length ≤ cap1) (hni : n ≤ i) (hnj : n ≤ j)
    (hi : bx[i]? = some (DB f q d j cap cap1)) (hj : bx[j]? = some (NB d.nodes cap1)) : lowG (frzG n bx (k + 2)) (.agg [.bs i 0 2 f.length cap0]) = .agg (flsA (f.set q d)) := by
  have key := low_fls (n := n) (bx := bx) (k := k) (i := i) (j := j) (f := f.set q d) (K := q) (d := d) (cap := cap) (cap0 := cap0) (cap1 := cap1) (by simp [hq]) (by simpa using hc) hc1 hni hnj (by rw [hi, DB_any]) hj
  rw [List.length_set] at key
  exact key
theorem frz_plain {n : Nat} {bx : List (List AV)} {k j sz cap : Nat} {rows : List (List AV)} (hn : n ≤ j) (hj : bx[j]? = some (rowsB sz cap rows)) (hp : ∀ r ∈ rows, ∀ x ∈ r, ∃ v, x = .v v) : frzG n bx (k + 1) j = some (rowsB sz cap rows) := by
  have : Nat.blt j n = false := by rw [← Bool.not_eq_true, Nat.blt_eq]; omega
  simp only [frzG, this, hj, Option.map_some, lowGL_map]
  rw [rowsB_map _ rfl]
  congr 2
  conv => rhs; rw [← List.map_id rows]
  apply List.map_congr_left
  intro r hr
  conv => rhs; rw [id, ← List.map_id r]
  apply List.map_congr_left
  intro x hx
  obtain ⟨v, rfl⟩ := hp r hr x hx
  rfl
theorem chg_plain (l : List Chg) : ∀ r ∈ l.map chgA, ∀ x ∈ r, ∃ v, x = .v v := by
  intro r hr x hx
  obtain ⟨c, _, rfl⟩ := List.mem_map.1 hr
  simp [chgA] at hx
  rcases hx with h | h | h | h | h | h | h <;> exact ⟨_, h⟩
theorem chg_seven (l : List Chg) : ∀ r ∈ l.map chgA, r.length = 7 := by
  intro r hr
  obtain ⟨c, _, rfl⟩ := List.mem_map.1 hr
  rfl
theorem back_newB {bx : List (List AV)} (bc : List (List AV)) (h : ∀ r ∈ bc, ∀ x ∈ r, ∃ v, x = .v v) : Back bx [] bc (bx ++ bc) := by
  refine ⟨by simp, fun i row _ h => ?_, fun k i row h => by simp at h, fun k row hk => ?_⟩
  · rw [List.getElem?_append_left (List.getElem?_eq_some_iff.1 h).1]; exact h
  rw [List.getElem?_append_right (by omega), show bx.length + k - bx.length = k by omega]
  simp only [List.length_nil, Nat.zero_add] at hk
  rw [hk, renL_map]
  congr 1
  conv => lhs; rw [← List.map_id row]
  apply List.map_congr_left
  intro x hx
  obtain ⟨v, rfl⟩ := h row (List.mem_of_getElem? hk) x hx
  rfl
theorem entS_asc {d : Dvc} (hd : Asc d.nodes) {i : Nat} {n0 : Nod} (hn : d.nodes[i]? = some n0) (name : Str) (ino : Int) : entS d.nodes i n0 name ino = entD d.nodes n0.ino name ino := by
  unfold entS entD
  rw [← set_updI hd hn]
  rfl
section
set_option maxRecDepth 10000
set_option maxHeartbeats 2000000
theorem RoneB (d : Fil) (name : Str) (o n : Fil) : ACall Try.prog 71 [.agg (filA d), .v (.string name), .agg (filA o), .agg (filA n)] [] (fun r b t => t = [] ∧ r = .bs 3 0 7 1 1 ∧ b = [filA d, filA o, filA n, chgA (d, name, o, n)]) := by
  refine enter Try.func71 rfl rfl rfl rfl rfl 4 rfl ?_
  refine w_ (b_ (h:=b_ (h:=b_ (h:=a_ (h:=e_ (w_ (l_ (h:=m_ (h:=l_ (h:=l_ (h:=bd_ (h:=?_))))))))))))
  refine al_p rfl (st_slit1B (k := 3) rfl rfl rfl rfl (by repeat constructor) ?_)
  refine a_ (h:=e_ (aw_ret (?_)))
  refine rt_ (r := .bs 3 0 7 1 1) none (h5 := (LeA.refl _)) (h6 := ⟨rfl, rfl, rfl⟩)

end
end Go.Proofs.Ythcbdkmhamhciaa
namespace Go.Proofs.Ythcbdkmhamhciaa
open Go.RowKit

theorem liv_rows {n : Nat} {g : Nat → Option (List AV)} {j sz m cap0 cap : Nat} {rows : List (List AV)} (hn : n ≤ j) (hg : g j = some (rowsB sz cap rows)) (hr : ∀ r ∈ rows, r.length = sz) (hm : m = rows.length) (hc : rows.length ≤ cap) : liv n g (.bs j 0 sz m cap0) = .sl sz rows none := by
  have : Nat.blt j n = false := by rw [← Bool.not_eq_true, Nat.blt_eq]; omega
  simp only [liv, this]
  exact lowG_rows hg hr hm hc
theorem one_plain (a b c : Fil) (x : Chg) : ∀ r ∈ [filA a, filA b, filA c, chgA x], ∀ y ∈ r, ∃ v, y = .v v := by
  intro r hr y hy
  simp only [List.mem_cons, List.not_mem_nil, or_false] at hr
  rcases hr with rfl | rfl | rfl | rfl
  · simp [filA] at hy; rcases hy with h | h <;> exact ⟨_, h⟩
  · simp [filA] at hy; rcases hy with h | h <;> exact ⟨_, h⟩
  · simp [filA] at hy; rcases hy with h | h <;> exact ⟨_, h⟩
  simp [chgA] at hy; rcases hy with h | h | h | h | h | h | h <;> exact ⟨_, h⟩
theorem ord_ne {j : Nat} {x : Int} (hx : ordV[j]? = some x) : x ≠ 0 := by
  match j, hx with
  | 0, hx => injection hx with hx; omega
  | 1, hx => injection hx with hx; omega
  | 2, hx => injection hx with hx; omega
  | j + 3, hx => exact absurd hx (by simp [ordV])
theorem entS_get {ns : List Nod} {i k : Nat} {n0 m : Nod} (hi : ns[i]? = some n0) (hk : ns[k]? = some m) (name : Str) (ino : Int) : ∃ m', (entS ns i n0 name ino)[k]? = some m' ∧ m'.ino = m.ino ∧ m'.entries.length ≤ m.entries.length + 1 := by
  unfold entS
  rw [List.getElem?_set]
  split
  · rename_i e
    subst e
    rw [hi] at hk
    injection hk with hk
    subst hk
    exact ⟨{ n0 with entries := entL n0.entries name ino }, by rw [if_pos (List.getElem?_eq_some_iff.1 hi).1], rfl, entL_len _ _ _⟩
  exact ⟨m, hk, rfl, by omega⟩
theorem entS_mem {ns : List Nod} {i : Nat} {n0 : Nod} (hi : ns[i]? = some n0) {name : Str} {ino : Int} {m' : Nod} (hm : m' ∈ entS ns i n0 name ino) : ∃ m ∈ ns, m'.ino = m.ino ∧ m'.entries.length ≤ m.entries.length + 1 := by
  rcases List.mem_or_eq_of_mem_set hm with h | h
  · exact ⟨m', h, rfl, by omega⟩
  subst h
  exact ⟨n0, List.mem_of_getElem? hi, rfl, entL_len _ _ _⟩
theorem entS_isAsc {ns : List Nod} (h : Asc ns) {i : Nat} {n0 : Nod} (hn : ns[i]? = some n0) (name : Str) (ino : Int) : Asc (entS ns i n0 name ino) := by
  have := entS_asc (d := ⟨0, ns⟩) h hn name ino
  simp only at this
  rw [this]
  exact entD_asc h _ _ _
theorem Renter3 (f : Fls) (q : Nat) (d d' : Dvc) (n : Nod) (i : Nat) (a : Fil) (name : Str) (ino : Int) (cap cap1 : Nat) (hf : FlsB (f.set q d')) (hq : q < f.length) (ha : a.1 = (q : Int)) (hi : indexL (f.set q d') a = (i : Int)) (hn : d'.nodes[i]? = some n) (hcap : f.length ≤ cap) (hcap1 : d'.nodes.length ≤ cap1) (hnx : d'.next = d.next) (hl : d'.nodes.length = d.nodes.length) :
    ACall Try.prog 70 [.agg [.bs 0 0 2 f.length cap], .agg (filA a), .v (.string name), .v (.int .i64 ino)] [DB f q d 1 cap cap1, NB d'.nodes cap1] (fun r b t => t = [] ∧ r = .tup [] ∧ b = [DB f q ⟨d.next, entS d'.nodes i n name ino⟩ 1 cap cap1, NB (entS d'.nodes i n name ino) cap1]) := by
  have key := Renter2 f q d' n i a name ino cap cap1 hf hq ha hi hn hcap hcap1
  have e1 : DB f q d' 1 cap cap1 = DB f q d 1 cap cap1 := by unfold DB devB devR; rw [hnx, hl]
  have e2 : DB f q d 1 cap cap1 = DB f q ⟨d.next, entS d'.nodes i n name ino⟩ 1 cap cap1 := by unfold DB devB devR; rw [entS_len, hl]
  rw [e1] at key
  exact key.mono fun r b t ⟨h1, h2, h3⟩ => ⟨h1, h2, by rw [h3, e2]⟩
theorem ren_facts {f : Fls} (hv : FlsV f) {q : Nat} {d : Dvc} (hq : f[q]? = some d) {i i2 : Nat} {n1 n2 : Nod} (hn1 : d.nodes[i]? = some n1) (hn2 : d.nodes[i2]? = some n2) (name name2 : Str) (ai : Int) (ha : ∃ m ∈ d.nodes, m.ino = ai) :
    ∃ (X1 X2 : List Nod) (m2 : Nod), X1 = entS d.nodes i n1 name 0 ∧ X1[i2]? = some m2 ∧ m2.ino = n2.ino ∧ X2 = entS X1 i2 m2 name2 ai ∧ Asc X1 ∧ Asc X2 ∧ X1.length = d.nodes.length ∧ X2.length = d.nodes.length ∧ X2 = entD (entD d.nodes n1.ino name 0) n2.ino name2 ai ∧
      FlsB (f.set q ⟨d.next, X1⟩) ∧ FlsB (f.set q ⟨d.next, X2⟩) ∧ (∀ m ∈ X2, m.entries.length ≤ 1000) ∧ (∃ m ∈ X2, m.ino = 1) ∧ ∃ m ∈ X2, m.ino = ai := by
  have hd := hv.vd d (List.mem_of_getElem? hq)
  obtain ⟨m2, hm2, hi2, hl2⟩ := entS_get hn1 hn2 name 0
  have e1 := entS_asc hd.asc hn1 name 0
  have a1 := entS_isAsc hd.asc hn1 name 0
  have e2 := entS_asc (d := ⟨0, entS d.nodes i n1 name 0⟩) a1 hm2 name2 ai
  simp only at e2
  have a2 := entS_isAsc a1 hm2 name2 ai
  have hb2 : ∀ m ∈ entS (entS d.nodes i n1 name 0) i2 m2 name2 ai, m.entries.length ≤ 1000 := fun m hm => by
    obtain ⟨m', h1, _, h2⟩ := entS_mem hm2 hm
    obtain ⟨m'', h3, _, h4⟩ := entS_mem hn1 h1
    have := hd.many m'' h3
    omega
  have hmem : ∀ x : Int, (∃ m ∈ d.nodes, m.ino = x) → ∃ m ∈ entS (entS d.nodes i n1 name 0) i2 m2 name2 ai, m.ino = x := by
    rintro x ⟨m, hm, rfl⟩
    obtain ⟨k, hk⟩ := List.getElem?_of_mem hm
    obtain ⟨m', h1, h2, _⟩ := entS_get hn1 hk name 0
    obtain ⟨m'', h3, h4, _⟩ := entS_get hm2 h1 name2 ai
    exact ⟨m'', List.mem_of_getElem? h3, h4.trans h2⟩
  obtain ⟨r, hr, hr1, _⟩ := hd.rootMem
  refine ⟨_, _, m2, rfl, hm2, hi2, rfl, a1, a2, entS_len _ _ _ _ _, by rw [entS_len, entS_len], by rw [e2, e1, hi2], hv.entS hq hn1 name 0, hv.b.set_ ?_ hb2, hb2, hmem 1 ⟨r, hr, hr1⟩, hmem ai ha⟩
  show (entS _ _ _ _ _).length ≤ 1000
  rw [entS_len, entS_len]
  have := hd.len
  omega
section
set_option maxRecDepth 10000
set_option maxHeartbeats 4000000
theorem Rrename (f : Fls) (src : Fil) (name : Str) (to : Fil) (name2 : Str) (hv : FlsV f) (hs : name.size ≤ 100000) (hs2 : name2.size ≤ 100000) : AFn Try.prog 48 [.agg (flsA f), .agg (filA src), .v (.string name), .agg (filA to), .v (.string name2)] (fun r => r = chgR (renameL f src name to name2)) := by
  have hf := hv.b
  have P1 := Rplace f src name hf hs
  have P2 := Rplace f to name2 hf hs2
  have L1 := Rlook f src name hf
  have L2 := Rlook f to name2 hf
  obtain ⟨pa, hpa⟩ : ∃ x, placeL f src name = x := ⟨_, rfl⟩
  obtain ⟨pb, hpb⟩ : ∃ x, placeL f to name2 = x := ⟨_, rfl⟩
  obtain ⟨⟨A, e1⟩, hl1⟩ : ∃ x, lookL f src name = x := ⟨_, rfl⟩
  obtain ⟨⟨O, e2⟩, hl2⟩ : ∃ x, lookL f to name2 = x := ⟨_, rfl⟩
  rw [hpa] at P1
  rw [hpb] at P2
  rw [hl1] at L1
  rw [hl2] at L2
  simp only at L1 L2
  have hRen : renameL f src name to name2 = (if ordL pa pb ≠ 0 then ([], [], ordL pa pb) else if e1 ≠ 0 then ([], [], e1) else if src.1 ≠ to.1 then ([], [], 18) else
      if dirL f A = true ∧ belowF f to A = true then ([], [], 22) else if e2 = 0 ∧ O = A then (f, [], 0) else if ren2L f src to A O e2 ≠ 0 then ([], [], ren2L f src to A O e2) else
      (onD f to.1.toNat fun ns => renPar (renNs ns src name to name2 A O e2) A.2 to.2 (dirL f A), [(src, name, A, (0, 0)), (to, name2, O, A)], 0)) := by
    unfold renameL
    rw [hpa, hpb, hl1, hl2]
  have hol : ordV.length = 3 := rfl
  refine enter Try.func48 rfl rfl rfl rfl rfl 0 rfl ?_
  refine w_ (b_ (h:=b_ (h:=b_ (h:=al_ (h:=a_ (h:=a_ (h:=e_ (q_ (yr_ 10 (h:=dl_ 0 (h:=dl_ 1 (h:=dm_ 2 (h:=dl_ 4 (h:=dl_ 5 (h:=dm_ 6 (h:=?_))))))))))))))))
  refine c_ 3 rfl (q_call (P1) ?_)
  rintro r rfl
  refine o_ (h:=?_)
  refine c_ 7 rfl (q_call (P2) ?_)
  rintro r rfl
  refine o_ (h:=da_ 8 (h:=da_ 9 (h:=z_ (h:=t_ (w_ (bs_ (h:=a_ (h:=e_ (q_ (w_ (a_ (h:=e_ (aw_block (?_))))))))))))))
  refine aw_loopW (fun m t => ∃ j : Nat, j ≤ ordV.length ∧ m = ordV.length - j ∧ (∀ i y, i < j → ordV[i]? = some y → ¬ (pa = y ∨ pb = y)) ∧ t = ⟨look [(2, .v (.string name)), (4, .v (.string name2)), (5, .bp 0 0), (6, .bp 1 0), (8, .bp 2 0), (10, .bp 3 0), (13, .v (.int .i64 pa)), (14, .v (.int .i64 pb)), (15, .sl 1 (ordV.map intA) none), (16, .v (.int .i64 (j : Int)))], ⟨[flsA f, filA src, filA to, [.v (.slice none 0 0)]], []⟩⟩) (ordV.length) ((wk 4 0)) (⟨0, Nat.zero_le _, rfl, fun i y hi => by omega, rfl⟩) ?_
  rintro m t ⟨j, hj, rfl, ha, rfl⟩
  refine q_ (w_ (m_ (h:=m_ (h:=n_ (h:=lt_ (h:=e_ (?_)))))))
  refine aw_cond rfl (fun hb1 => ?_) (fun hb1 => ?_)
  · have hc1 := bp hb1
    obtain ⟨hlt, x, hx, hrow, -⟩ := row_at intA (l := ordV) hc1
    refine kt_ (q_ (aw_block (w_ (m_ (h:=m_ (h:=m_ (h:=i_ (h:=l_ (h:=eq_ (h:=m_ (h:=?_)))))))))))
    refine al_gs false rfl rfl (fun hb2 => ?_) (fun hb2 => ?_)
    · have hc2 := bp hb2
      refine g0_ (h:=g0_ (h:=g0_ (h:=g0_ (h:=g0_ (h:=g0_ (h:=pt_ (h:=e_ (cy_ (h:=q_ (?_))))))))))
      refine aw_draw (fun _ => True) 8 (by kernel_rfl) ?_
      refine aa_t (i := 0) rfl rfl (by kernel_rfl) (by first | rfl | exact wan_y rfl rfl (beq_tt ‹_›) | exact wan_y rfl rfl (beq_ff ‹_›) | exact wan_y rfl rfl (by simp [*])) (fun h0 hS => st_build (by repeat (first | exact FillA.nil _ | (apply FillA.cons; (focus exact rfl); (focus exact rfl); (focus exact rfl); (focus exact rfl); (focus exact rfl); (focus (repeat constructor))))) ⟨rfl, rfl⟩) trivial ?_
      refine aa_t (i := 1) rfl rfl (by kernel_rfl) (by first | rfl | exact wan_y rfl rfl (beq_tt ‹_›) | exact wan_y rfl rfl (beq_ff ‹_›) | exact wan_y rfl rfl (by simp [*])) (fun h0 hS => st_move rfl ⟨rfl, rfl⟩) trivial ?_
      refine aa_t (i := 2) rfl rfl (by kernel_rfl) (by first | rfl | exact wan_y rfl rfl (beq_tt ‹_›) | exact wan_y rfl rfl (beq_ff ‹_›) | exact wan_y rfl rfl (by simp [*])) (fun h0 hS => st_move rfl ⟨rfl, rfl⟩) trivial ?_
      refine aa_t (i := 3) rfl rfl (by kernel_rfl) (by first | rfl | exact wan_y rfl rfl (beq_tt ‹_›) | exact wan_y rfl rfl (beq_ff ‹_›) | exact wan_y rfl rfl (by simp [*])) (fun h0 hS => st_index rfl rfl rfl (by first | assumption | rfl) ⟨rfl, rfl⟩) trivial ?_
      refine aa_t (i := 4) rfl rfl (by kernel_rfl) (by first | rfl | exact wan_y rfl rfl (beq_tt ‹_›) | exact wan_y rfl rfl (beq_ff ‹_›) | exact wan_y rfl rfl (by simp [*])) (fun h0 hS => st_loadF1 rfl rfl ⟨rfl, rfl⟩) trivial ?_
      refine c0_ 5 rfl (s_store rfl rfl rfl rfl rfl rfl (by repeat constructor) (by repeat constructor) ?_)
      refine ⟨.inr trivial, ?_⟩
      refine aa_t (i := 6) rfl rfl (by kernel_rfl) (by first | rfl | exact wan_y rfl rfl (beq_tt ‹_›) | exact wan_y rfl rfl (beq_ff ‹_›) | exact wan_y rfl rfl (by simp [*])) (fun h0 hS => st_assign rfl ⟨rfl, rfl⟩) trivial ?_
      refine aa_t (i := 7) rfl rfl (by kernel_rfl) (by first | rfl | exact wan_y rfl rfl (beq_tt ‹_›) | exact wan_y rfl rfl (beq_ff ‹_›) | exact wan_y rfl rfl (by simp [*])) (fun h0 hS => st_assign rfl ⟨rfl, rfl⟩) trivial ?_
      refine z_ (h:=t_ (aw_ret (x_blockR (x_thenR (x_thenR (x_blockR (x_thenR (?_))))))))
      refine rt_ (r := chgR (renameL f src name to name2)) none (h5 := ?_) (h6 := ⟨rfl, rfl, rfl⟩)
      rw [hRen, show ordL pa pb = x from ord_hit hx ha (.inl hc2), if_pos (ord_ne hx)]
      exact err_le _
    have hc2 := bp hb2
    refine m_ (h:=m_ (h:=m_ (h:=i_ (h:=l_ (h:=eq_ (h:=pf_ (h:=e_ (?_))))))))
    refine aw_cond rfl (fun hb3 => ?_) (fun hb3 => ?_)
    · have hc3 := bp hb3
      refine q_ (?_)
      refine aw_draw (fun _ => True) 8 (by kernel_rfl) ?_
      refine aa_t (i := 0) rfl rfl (by kernel_rfl) (by first | rfl | exact wan_y rfl rfl (beq_tt ‹_›) | exact wan_y rfl rfl (beq_ff ‹_›) | exact wan_y rfl rfl (by simp [*])) (fun h0 hS => st_build (by repeat (first | exact FillA.nil _ | (apply FillA.cons; (focus exact rfl); (focus exact rfl); (focus exact rfl); (focus exact rfl); (focus exact rfl); (focus (repeat constructor))))) ⟨rfl, rfl⟩) trivial ?_
      refine aa_t (i := 1) rfl rfl (by kernel_rfl) (by first | rfl | exact wan_y rfl rfl (beq_tt ‹_›) | exact wan_y rfl rfl (beq_ff ‹_›) | exact wan_y rfl rfl (by simp [*])) (fun h0 hS => st_move rfl ⟨rfl, rfl⟩) trivial ?_
      refine aa_t (i := 2) rfl rfl (by kernel_rfl) (by first | rfl | exact wan_y rfl rfl (beq_tt ‹_›) | exact wan_y rfl rfl (beq_ff ‹_›) | exact wan_y rfl rfl (by simp [*])) (fun h0 hS => st_move rfl ⟨rfl, rfl⟩) trivial ?_
      refine aa_t (i := 3) rfl rfl (by kernel_rfl) (by first | rfl | exact wan_y rfl rfl (beq_tt ‹_›) | exact wan_y rfl rfl (beq_ff ‹_›) | exact wan_y rfl rfl (by simp [*])) (fun h0 hS => st_index rfl rfl rfl (by first | assumption | rfl) ⟨rfl, rfl⟩) trivial ?_
      refine aa_t (i := 4) rfl rfl (by kernel_rfl) (by first | rfl | exact wan_y rfl rfl (beq_tt ‹_›) | exact wan_y rfl rfl (beq_ff ‹_›) | exact wan_y rfl rfl (by simp [*])) (fun h0 hS => st_loadF1 rfl rfl ⟨rfl, rfl⟩) trivial ?_
      refine c0_ 5 rfl (s_store rfl rfl rfl rfl rfl rfl (by repeat constructor) (by repeat constructor) ?_)
      refine ⟨.inr trivial, ?_⟩
      refine aa_t (i := 6) rfl rfl (by kernel_rfl) (by first | rfl | exact wan_y rfl rfl (beq_tt ‹_›) | exact wan_y rfl rfl (beq_ff ‹_›) | exact wan_y rfl rfl (by simp [*])) (fun h0 hS => st_assign rfl ⟨rfl, rfl⟩) trivial ?_
      refine aa_t (i := 7) rfl rfl (by kernel_rfl) (by first | rfl | exact wan_y rfl rfl (beq_tt ‹_›) | exact wan_y rfl rfl (beq_ff ‹_›) | exact wan_y rfl rfl (by simp [*])) (fun h0 hS => st_assign rfl ⟨rfl, rfl⟩) trivial ?_
      refine z_ (h:=t_ (aw_ret (x_blockR (x_thenR (x_thenR (x_blockR (x_thenR (?_))))))))
      refine rt_ (r := chgR (renameL f src name to name2)) none (h5 := ?_) (h6 := ⟨rfl, rfl, rfl⟩)
      rw [hRen, show ordL pa pb = x from ord_hit hx ha (.inr hc3), if_pos (ord_ne hx)]
      exact err_le _
    have hc3 := bp hb3
    refine aw_skip (x_blockN (t_ (aw_region (m_ (h:=ad_ (h:=a_ (h:=al_nil (?_))))))))
    refine x_then ?_
    refine ⟨_, _, ?_, ⟨j + 1, hlt, rfl, upto_snoc hx ha (not_or.2 ⟨hc2, hc3⟩), rfl⟩, (wk 4 0)⟩
    omega
  have hc1 := bp hb1
  have e3 := row_no intA (l := ordV) hj hc1
  subst e3
  have hord : ordL pa pb = 0 := ord_none ha
  obtain ⟨hpl1, hpl2⟩ := ord_zero (f := f) (x := src) (y := to) (name := name) (name2 := name2) (by rw [hpa, hpb]; exact hord)
  refine aw_exit (x_thenE (x_thenE (ABlock_out (t_ (w_ (l_ (h:=l_ (h:=m_ (h:=?_)))))))))
  refine al_p rfl (q_call (L1) ?_)
  rintro r rfl
  refine m_ (h:=x_ (h:=x_ (h:=al_ (h:=s_ (h:=a_ (h:=e_ (q_ (w_ (m_ (h:=nq_ (h:=e_ (?_))))))))))))
  refine aw_cond rfl (fun hb4 => ?_) (fun hb4 => ?_)
  · have hc4 := bp hb4
    refine w_ (bd_ (h:=m_ (h:=s_ (h:=a_ (h:=a_ (h:=e_ (aw_ret (x_thenR (?_)))))))))
    refine rt_ (r := chgR (renameL f src name to name2)) none (h5 := ?_) (h6 := ⟨rfl, rfl, rfl⟩)
    rw [hRen, if_neg (by rw [hord]; simp), if_pos hc4]
    exact err_le _
  have hc4 := bp hb4
  have he1 : e1 = 0 := by omega
  refine kt_ (q_ (w_ (f_ (h:=l_ (h:=f_ (h:=l_ (h:=nq_ (h:=e_ (?_)))))))))
  refine aw_cond rfl (fun hb5 => ?_) (fun hb5 => ?_)
  · have hc5 := bp hb5
    refine w_ (bd_ (h:=s_ (h:=a_ (h:=a_ (h:=e_ (aw_ret (x_thenR (?_))))))))
    refine rt_ (r := chgR (renameL f src name to name2)) none (h5 := ?_) (h6 := ⟨rfl, rfl, rfl⟩)
    rw [hRen, if_neg (by rw [hord]; simp), if_neg (by simp [he1]), if_pos hc5]
    exact err_le _
  have hc5 := bp hb5
  refine kt_ (w_ (l_ (h:=l_ (h:=?_))))
  refine al_p rfl (q_call (Rdir f A hf) ?_)
  rintro r rfl
  refine a_ (h:=e_ (?_))
  refine aw_midI (fun t => (dirL f A = true → belowF f to A = false) ∧ t = ⟨look [(2, .v (.string name)), (4, .v (.string name2)), (5, .bp 0 0), (6, .bp 1 0), (8, .bp 2 0), (10, .bp 3 0), (17, .bp 4 0), (19, .v (.bool (dirL f A)))], ⟨[flsA f, filA src, filA to, [.v (.slice none 0 0)], filA A], []⟩⟩) ?_ ?_
  · skip
    refine w_ (m_ (h:=m_ (h:=?_)))
    refine al_gs true rfl rfl (fun hb6 => ?_) (fun hb6 => ?_)
    · have hc6 := bp hb6
      refine l_ (h:=l_ (h:=l_ (h:=?_)))
      refine g_y (q_call (Rbelow f to A hf) ?_)
      rintro r rfl
      refine pt_ (h:=e_ (?_))
      refine aw_cond rfl (fun hb7 => ?_) (fun hb7 => ?_)
      · have hc7 := bp hb7
        refine w_ (bd_ (h:=s_ (h:=a_ (h:=a_ (h:=e_ (aw_ret (x_thenR (?_))))))))
        refine rt_ (r := chgR (renameL f src name to name2)) none (h5 := ?_) (h6 := ⟨rfl, rfl, rfl⟩)
        rw [hRen, if_neg (by rw [hord]; simp), if_neg (by simp [he1]), if_neg (by simp [hc5]), if_pos ⟨hc6, hc7⟩]
        exact err_le _
      have hc7 := bp hb7
      have hbl : dirL f A = true → belowF f to A = false := fun _ => hc7
      refine aw_skip (?_)
      refine x_then ?_
      exact ⟨_, ⟨hbl, rfl⟩, (wk 5 0)⟩
    have hc6 := bp hb6
    have hbl : dirL f A = true → belowF f to A = false := fun h => absurd (h.symm.trans hc6) (by decide)
    refine g0_ (h:=g0_ (h:=g0_ (h:=g0_ (h:=pf_ (h:=e_ (cn_ (h:=aw_skip (?_))))))))
    refine x_then ?_
    exact ⟨_, ⟨hbl, rfl⟩, (wk 5 0)⟩
  rintro t ⟨hbl, rfl⟩
  refine w_ (l_ (h:=l_ (h:=m_ (h:=?_))))
  refine al_p rfl (q_call (L2) ?_)
  rintro r rfl
  refine m_ (h:=x_ (h:=x_ (h:=al_ (h:=s_ (h:=a_ (h:=e_ (?_)))))))
  refine aw_midI (fun t => (e2 = 0 → O ≠ A) ∧ t = ⟨look [(2, .v (.string name)), (4, .v (.string name2)), (5, .bp 0 0), (6, .bp 1 0), (8, .bp 2 0), (10, .bp 3 0), (17, .bp 4 0), (18, .v (.int .i64 e2)), (19, .v (.bool (dirL f A))), (20, .bp 5 0)], ⟨[flsA f, filA src, filA to, [.v (.slice none 0 0)], filA A, filA O], []⟩⟩) ?_ ?_
  · skip
    refine w_ (m_ (h:=eq_ (h:=m_ (h:=?_))))
    refine al_gs true rfl rfl (fun hb8 => ?_) (fun hb8 => ?_)
    · have hc8 := bp hb8
      refine l_ (h:=l_ (h:=?_))
      refine g_y (st_binA rfl rfl (by repeat constructor) (by repeat constructor) (fun w => eqlFil _ _ _ _ w) (by kernel_rfl) ?_)
      refine pt_ (h:=e_ (?_))
      refine aw_cond rfl (fun hb9 => ?_) (fun hb9 => ?_)
      · have hc9 := bp hb9
        refine w_ (l_ (h:=?_))
        refine al_p rfl (q_call (RcopyF f hf) ?_)
        rintro r rfl
        refine s_ (h:=a_ (h:=a_ (h:=e_ (aw_ret (x_thenR (?_))))))
        refine rt_ (r := chgR (renameL f src name to name2)) none (h5 := ?_) (h6 := ⟨rfl, rfl, rfl⟩)
        rw [hRen, if_neg (by rw [hord]; simp), if_neg (by simp [he1]), if_neg (by simp [hc5]), if_neg (fun h => absurd h.2 (by rw [hbl h.1]; decide)), if_pos ⟨hc8, hc9⟩]
        exact keepE_le _
      have hc9 := bp hb9
      have hoa : e2 = 0 → O ≠ A := fun _ => hc9
      refine aw_skip (?_)
      refine x_then ?_
      exact ⟨_, ⟨hoa, rfl⟩, (wk 6 0)⟩
    have hc8 := bp hb8
    have hoa : e2 = 0 → O ≠ A := fun h => absurd h hc8
    refine g0_ (h:=g0_ (h:=g0_ (h:=pf_ (h:=e_ (cn_ (h:=aw_skip (?_)))))))
    refine x_then ?_
    exact ⟨_, ⟨hoa, rfl⟩, (wk 6 0)⟩
  rintro t ⟨hoa, rfl⟩
  refine aw_midI (fun t => ren2L f src to A O e2 = 0 ∧ t = ⟨look [(2, .v (.string name)), (4, .v (.string name2)), (5, .bp 0 0), (6, .bp 1 0), (8, .bp 2 0), (10, .bp 3 0), (17, .bp 4 0), (18, .v (.int .i64 e2)), (19, .v (.bool (dirL f A))), (20, .bp 5 0)], ⟨[flsA f, filA src, filA to, [.v (.slice none 0 0)], filA A, filA O], []⟩⟩) ?_ ?_
  · skip
    refine w_ (m_ (h:=eq_ (h:=e_ (?_))))
    refine aw_cond rfl (fun hb10 => ?_) (fun hb10 => ?_)
    · have hc10 := bp hb10
      refine w_ (l_ (h:=l_ (h:=?_)))
      refine al_p rfl (q_call (Rdir f O hf) ?_)
      rintro r rfl
      refine a_ (h:=e_ (q_ (w_ (m_ (h:=m_ (h:=?_))))))
      refine al_gs true rfl rfl (fun hb11 => ?_) (fun hb11 => ?_)
      · have hc11 := bp hb11
        refine m_ (h:=nt_ (h:=pt_ (h:=e_ (?_))))
        refine aw_cond rfl (fun hb12 => ?_) (fun hb12 => ?_)
        · have hc12 := bp hb12
          refine w_ (bd_ (h:=s_ (h:=a_ (h:=a_ (h:=e_ (aw_ret (x_thenR (x_thenR (?_)))))))))
          refine rt_ (r := chgR (renameL f src name to name2)) none (h5 := ?_) (h6 := ⟨rfl, rfl, rfl⟩)
          have h2 : ren2L f src to A O e2 = 21 := by unfold ren2L; simp [hc10, hc11, hc12]
          rw [hRen, if_neg (by rw [hord]; simp), if_neg (by simp [he1]), if_neg (by simp [hc5]), if_neg (fun h => absurd h.2 (by rw [hbl h.1]; decide)), if_neg (fun h => hoa h.1 h.2), h2, if_pos (by decide)]
          exact err_le _
        have hc12 := bp hb12
        refine kt_ (q_ (w_ (m_ (h:=nt_ (h:=m_ (h:=g0_ (h:=pf_ (h:=e_ (cn_ (h:=kt_ (w_ (m_ (h:=m_ (h:=l_ (h:=l_ (h:=?_))))))))))))))))
        refine g_y (q_call (Rempty f O hf) ?_)
        rintro r rfl
        refine nt_ (h:=pt_ (h:=e_ (?_)))
        refine aw_cond rfl (fun hb13 => ?_) (fun hb13 => ?_)
        · have hc13 := bp hb13
          refine w_ (bd_ (h:=s_ (h:=a_ (h:=a_ (h:=e_ (aw_ret (x_thenR (?_))))))))
          refine rt_ (r := chgR (renameL f src name to name2)) none (h5 := ?_) (h6 := ⟨rfl, rfl, rfl⟩)
          have h2 : ren2L f src to A O e2 = 39 := by unfold ren2L; simp [hc10, hc11, hc12, hc13]
          rw [hRen, if_neg (by rw [hord]; simp), if_neg (by simp [he1]), if_neg (by simp [hc5]), if_neg (fun h => absurd h.2 (by rw [hbl h.1]; decide)), if_neg (fun h => hoa h.1 h.2), h2, if_pos (by decide)]
          exact err_le _
        have hc13 := bp hb13
        have h2 : ren2L f src to A O e2 = 0 := by unfold ren2L; simp [hc10, hc11, hc12, hc13]
        refine aw_skip (?_)
        refine x_then ?_
        exact ⟨_, ⟨h2, rfl⟩, (wk 6 0)⟩
      have hc11 := bp hb11
      refine g0_ (h:=g0_ (h:=pf_ (h:=e_ (cn_ (h:=kt_ (q_ (w_ (m_ (h:=nt_ (h:=m_ (h:=m_ (h:=pt_ (h:=e_ (?_))))))))))))))
      refine aw_cond rfl (fun hb14 => ?_) (fun hb14 => ?_)
      · have hc14 := bp hb14
        refine w_ (bd_ (h:=s_ (h:=a_ (h:=a_ (h:=e_ (aw_ret (x_thenR (x_thenR (?_)))))))))
        refine rt_ (r := chgR (renameL f src name to name2)) none (h5 := ?_) (h6 := ⟨rfl, rfl, rfl⟩)
        have h2 : ren2L f src to A O e2 = 20 := by unfold ren2L; simp [hc10, hc11, hc14]
        rw [hRen, if_neg (by rw [hord]; simp), if_neg (by simp [he1]), if_neg (by simp [hc5]), if_neg (fun h => absurd h.2 (by rw [hbl h.1]; decide)), if_neg (fun h => hoa h.1 h.2), h2, if_pos (by decide)]
        exact err_le _
      have hc14 := bp hb14
      have h2 : ren2L f src to A O e2 = 0 := by unfold ren2L; simp [hc10, hc11, hc14]
      refine kt_ (w_ (m_ (h:=m_ (h:=g0_ (h:=g0_ (h:=g0_ (h:=g0_ (h:=pf_ (h:=e_ (cn_ (h:=aw_skip (?_))))))))))))
      refine x_then ?_
      exact ⟨_, ⟨h2, rfl⟩, (wk 6 0)⟩
    have hc10 := bp hb10
    refine w_ (l_ (h:=l_ (h:=?_)))
    refine al_p rfl (q_call (Rfull f to hf) ?_)
    rintro r rfl
    refine m_ (h:=?_)
    refine al_gs true rfl rfl (fun hb15 => ?_) (fun hb15 => ?_)
    · have hc15 := bp hb15
      refine l_ (h:=l_ (h:=?_))
      refine g_y (st_binA rfl rfl (by repeat constructor) (by repeat constructor) (fun w => neqlFil _ _ _ _ w) (by kernel_rfl) ?_)
      refine pt_ (h:=e_ (?_))
      refine aw_cond rfl (fun hb16 => ?_) (fun hb16 => ?_)
      · have hc16 := bp hb16
        refine w_ (bd_ (h:=s_ (h:=a_ (h:=a_ (h:=e_ (aw_ret (x_thenR (?_))))))))
        refine rt_ (r := chgR (renameL f src name to name2)) none (h5 := ?_) (h6 := ⟨rfl, rfl, rfl⟩)
        have h2 : ren2L f src to A O e2 = 28 := by unfold ren2L; rw [if_neg hc10, if_pos ⟨hc15, hc16⟩]
        rw [hRen, if_neg (by rw [hord]; simp), if_neg (by simp [he1]), if_neg (by simp [hc5]), if_neg (fun h => absurd h.2 (by rw [hbl h.1]; decide)), if_neg (fun h => hoa h.1 h.2), h2, if_pos (by decide)]
        exact err_le _
      have hc16 := bp hb16
      have h2 : ren2L f src to A O e2 = 0 := by unfold ren2L; rw [if_neg hc10, if_neg (fun h => h.2 hc16)]
      refine aw_skip (?_)
      refine x_then ?_
      exact ⟨_, ⟨h2, rfl⟩, (wk 6 0)⟩
    have hc15 := bp hb15
    have h2 : ren2L f src to A O e2 = 0 := by unfold ren2L; rw [if_neg hc10, if_neg (fun h => absurd (h.1.symm.trans hc15) (by decide))]
    refine g0_ (h:=g0_ (h:=g0_ (h:=pf_ (h:=e_ (cn_ (h:=aw_skip (?_)))))))
    refine x_then ?_
    exact ⟨_, ⟨h2, rfl⟩, (wk 6 0)⟩
  rintro t ⟨h2, rfl⟩
  obtain ⟨q, i, d, n1, hsq, hq, hn1, hn1i, hidx, hnode, hk1, hnm1⟩ := place_ok hpl1
  obtain ⟨q', i2, d', n2, htq, hq', hn2, hn2i, -, hnode2, hk2, hnm2⟩ := place_ok hpl2
  obtain rfl : q = q' := by omega
  obtain rfl : d = d' := Option.some.inj (hq.symm.trans hq')
  have hvd := hv.vd d (List.mem_of_getElem? hq)
  have hql := (List.getElem?_eq_some_iff.1 hq).1
  have hil := (List.getElem?_eq_some_iff.1 hn1).1
  obtain ⟨e, he, hle⟩ := look_ok hnode hk1 (by rw [hl1]; exact he1)
  have hA1 : A = (src.1, e.2) := by rw [hl1] at hle; exact congrArg Prod.fst hle
  have hAm : ∃ m ∈ d.nodes, m.ino = A.2 := by rw [hA1]; exact (hvd.ent n1 (List.mem_of_getElem? hn1) e (entF_some he).1).2.2
  obtain ⟨X1, X2, m2, hX1, hm2, hm2i, hX2, hasc1, hasc2, hx1l, hx2l, hX2D, hf1, hf2, hb2, ⟨r, hr, hr1⟩, ⟨am, ham, hami⟩⟩ := ren_facts hv hq hn1 hn2 name name2 A.2 hAm
  have hidx2 : indexL (f.set q ⟨d.next, X1⟩) to = (i2 : Int) := index_asc htq (d := ⟨d.next, X1⟩) (by simp [hql]) hasc1 hm2 (hm2i.trans hn2i)
  have hoo : e2 = 0 → O.1 = (q : Int) ∧ 0 < (keepNot O.2 X2).length := by
    intro h
    obtain ⟨e', he', hle'⟩ := look_ok hnode2 hk2 (by rw [hl2]; exact h)
    have hO1 : O = (to.1, e'.2) := by rw [hl2] at hle'; exact congrArg Prod.fst hle'
    refine ⟨by rw [hO1]; exact htq, keep_pos hr ?_⟩
    rw [hr1, hO1]
    exact (hvd.ent n2 (List.mem_of_getElem? hn2) e' (entF_some he').1).2.1.symm
  have hO1 : e2 = 0 → O.1 = A.1 := fun h => by rw [(hoo h).1, hA1]; exact hsq.symm
  obtain ⟨NS, hNS⟩ : ∃ NS, NS = (if e2 = 0 then dropI X2 O.2 else X2) := ⟨_, rfl⟩
  have hNSf : NS = X2 ∨ (e2 = 0 ∧ NS = dropI X2 O.2) := by
    by_cases h : e2 = 0
    · exact .inr ⟨h, by rw [hNS, if_pos h]⟩
    exact .inl (by rw [hNS, if_neg h])
  have hsub : NS.Sublist X2 := by
    rcases hNSf with h | ⟨_, h⟩
    · rw [h]; exact List.Sublist.refl _
    rw [h]; exact List.filter_sublist
  have hasc3 : Asc NS := hasc2.sublist hsub
  have hAN : am ∈ NS := by
    rcases hNSf with h | ⟨h0, h⟩
    · rw [h]; exact ham
    rw [h]
    refine List.mem_filter.2 ⟨ham, decide_eq_true (.inl fun e => hoa h0 ?_)⟩
    exact Prod.ext (hO1 h0) (by rw [← e, hami])
  obtain ⟨i3, hm3⟩ := List.getElem?_of_mem hAN
  have hil3 := (List.getElem?_eq_some_iff.1 hm3).1
  have hf3 : FlsB (f.set q ⟨d.next, NS⟩) := hf.set_ (by have := hsub.length_le; have := hvd.len; show NS.length ≤ 1000; omega) fun m hm => hb2 m (hsub.subset hm)
  have hidx3 : indexL (f.set q ⟨d.next, NS⟩) A = (i3 : Int) := index_asc (by rw [hA1]; exact hsq) (d := ⟨d.next, NS⟩) (by simp [hql]) hasc3 hm3 hami
  obtain ⟨m3, rfl⟩ : ∃ m3, m3 = am := ⟨_, rfl⟩
  have hm3i := hami
  obtain ⟨NS2, hNS2⟩ : ∃ NS2, NS2 = renPar NS A.2 to.2 (dirL f A) := ⟨_, rfl⟩
  refine w_ (l_ (h:=?_))
  refine al_p rfl (s_callM [] rfl (.cons _ _ _ _ _ rfl (LeA.refl _) .nil) (by decide) .nil (RcopyK f q d hf hq (by omega)) ?_)
  rintro r bc tc ⟨rfl, cap, cap1, hcap, hcap1, rfl, rfl⟩
  refine ⟨rfl, _, (back_new2 (n := 6) rfl f q d d.nodes cap cap1 : Back _ [] _ [_, _, _, _, _, _, _, _]), ?_⟩
  have hcx1 : X1.length ≤ cap1 := by omega
  have hcx2 : X2.length ≤ cap1 := by omega
  refine al_ (h:=s_ (h:=e_ (w_ (l_ (h:=l_ (h:=m_ (h:=?_)))))))
  refine al_p rfl (s_callM [6, 7] rfl (.cons _ _ _ _ _ rfl (LeA.refl _) (.cons _ _ _ _ _ rfl (LeA.refl _) (.cons _ _ _ _ _ rfl (LeA.refl _) (.cons _ _ _ _ _ rfl (LeA.refl _) .nil)))) (by decide) (.cons _ _ _ _ _ rfl (ren_DB (by rfl) _ _ _ _ _) (.cons _ _ _ _ _ rfl (ren_NB _ _ _) .nil)) (Renter f q d n1 i src name 0 cap cap1 hf hq hsq hidx hn1 hcap hcap1) ?_)
  rintro r bc tc ⟨rfl, rfl, rfl⟩
  rw [show d.nodes.set i { n1 with entries := entL n1.entries name 0 } = X1 from hX1.symm]
  refine ⟨rfl, _, (back_two (Nat.le_of_ble_eq_true rfl) (Nat.le_of_ble_eq_true rfl) (by decide) f q d X1 cap cap1 cap1 : Back _ [6, 7] _ [_, _, _, _, _, _, _, _, _]), ?_⟩
  refine e_ (w_ (l_ (h:=l_ (h:=m_ (h:=f_ (h:=l_ (h:=?_)))))))
  refine al_p rfl (s_callM [6, 7] rfl (.cons _ _ _ _ _ rfl (LeA.refl _) (.cons _ _ _ _ _ rfl (LeA.refl _) (.cons _ _ _ _ _ rfl (LeA.refl _) (.cons _ _ _ _ _ rfl (LeA.refl _) .nil)))) (by decide) (.cons _ _ _ _ _ rfl (ren_DB (by rfl) _ _ _ _ _) (.cons _ _ _ _ _ rfl (ren_NB _ _ _) .nil)) (Renter3 f q d ⟨d.next, X1⟩ m2 i2 to name2 A.2 cap cap1 hf1 hql htq hidx2 hm2 hcap hcx1 rfl hx1l) ?_)
  rintro r bc tc ⟨rfl, rfl, rfl⟩
  refine ⟨rfl, ?_⟩
  dsimp only
  rw [← hX2]
  refine ⟨_, (back_two (Nat.le_of_ble_eq_true rfl) (Nat.le_of_ble_eq_true rfl) (by decide) f q ⟨d.next, X2⟩ X2 cap cap1 cap1 : Back _ [6, 7] _ [_, _, _, _, _, _, _, _, _]), ?_⟩
  refine e_ (?_)
  refine aw_midI (fun t => ∃ capx, NS.length ≤ capx ∧ t = ⟨look [(2, .v (.string name)), (4, .v (.string name2)), (6, .bp 1 0), (8, .bp 2 0), (10, .bp 3 0), (17, .bp 4 0), (19, .v (.bool (dirL f A))), (20, .bp 5 0), (22, .bp 8 0)], ⟨[flsA f, filA src, filA to, [.v (.slice none 0 0)], filA A, filA O, DB f q ⟨d.next, NS⟩ 7 cap capx, NB NS capx, [.bs 6 0 2 f.length cap]], []⟩⟩) ?_ ?_
  · skip
    refine w_ (m_ (h:=eq_ (h:=e_ (?_))))
    refine aw_cond rfl (fun hb17 => ?_) (fun hb17 => ?_)
    · have hc17 := bp hb17
      have he2 : e2 = 0 := hc17
      obtain ⟨hoq, hkp⟩ := hoo he2
      refine aw_region (l_ (h:=l_ (h:=?_)))
      refine al_p rfl (s_callM [6, 7] rfl (.cons _ _ _ _ _ rfl (LeA.refl _) (.cons _ _ _ _ _ rfl (LeA.refl _) .nil)) (by decide) (.cons _ _ _ _ _ rfl (ren_DB (by rfl) _ _ _ _ _) (.cons _ _ _ _ _ rfl (ren_NB _ _ _) .nil)) (Rdrop2 f q ⟨d.next, X2⟩ ⟨d.next, X2⟩ O cap cap1 hf2 hql hoq hcap hcx2 hkp rfl rfl) ?_)
      rintro r bc tc ⟨rfl, rfl, ⟨hns, rfl⟩ | ⟨hns, cap2, hcap2, rfl⟩⟩
      · refine ⟨rfl, _, (back_four (n := 9) rfl (by decide) (by decide) (by decide) f q ⟨d.next, X2⟩ X2 O f.length cap cap cap1 cap1 : Back _ [6, 7] _ [_, _, _, _, _, _, _, _, _, _, _]), ?_⟩
        obtain rfl : NS = X2 := by rw [hNS, if_pos (by assumption)]; exact hns
        refine al_nil (?_)
        refine x_then ?_
        first | exact ⟨_, ⟨_, hcap2, rfl⟩, weak_ren [0, 1, 2, 3, 4, 5, 6, 11, 8] (fun i hi => absurd hi (Nat.not_lt_zero i)) (by decide) (.cons _ _ _ _ _ rfl rfl (.cons _ _ _ _ _ rfl rfl (.cons _ _ _ _ _ rfl rfl (.cons _ _ _ _ _ rfl rfl (.cons _ _ _ _ _ rfl rfl (.cons _ _ _ _ _ rfl rfl (.cons _ _ _ _ _ rfl (renK_DB (by rfl) _ _ _ _ _) (.cons _ _ _ _ _ rfl (renK_NB _ _ _) (.cons _ _ _ _ _ rfl rfl .nil))))))))) (by repeat (first | exact SubK.nil | refine SubK.cons _ _ _ _ rfl (LeA.refl _) ?_))⟩ | exact ⟨_, ⟨_, hcx2, rfl⟩, weak_of 9 0 rfl rfl rfl (by simp [bpLtB, bpLtL, bpLt, bp_DB, bp_NB, filA, flsA]) ((by repeat (first | exact Sub.nil | refine Sub.cons _ _ _ rfl rfl ?_ | refine Sub.any _ _ ?_ | refine Sub.sl _ _ _ _ _ rfl ?_ | refine Sub.slnil _ _ _ rfl ?_)))⟩
      refine ⟨rfl, _, (back_five (n := 9) rfl (by decide) (by decide) (by decide) f q ⟨d.next, keepNot O.2 X2⟩ X2 (keepNot O.2 X2) O f.length cap cap cap1 cap2 : Back _ [6, 7] _ [_, _, _, _, _, _, _, _, _, _, _, _]), ?_⟩
      have hNSk : NS = keepNot O.2 X2 := by rw [hNS, if_pos (by assumption)]; exact hns
      rw [← hNSk] at hcap2
      rw [← hNSk]
      refine al_nil (?_)
      refine x_then ?_
      first | exact ⟨_, ⟨_, hcap2, rfl⟩, weak_ren [0, 1, 2, 3, 4, 5, 6, 11, 8] (fun i hi => absurd hi (Nat.not_lt_zero i)) (by decide) (.cons _ _ _ _ _ rfl rfl (.cons _ _ _ _ _ rfl rfl (.cons _ _ _ _ _ rfl rfl (.cons _ _ _ _ _ rfl rfl (.cons _ _ _ _ _ rfl rfl (.cons _ _ _ _ _ rfl rfl (.cons _ _ _ _ _ rfl (renK_DB (by rfl) _ _ _ _ _) (.cons _ _ _ _ _ rfl (renK_NB _ _ _) (.cons _ _ _ _ _ rfl rfl .nil))))))))) (by repeat (first | exact SubK.nil | refine SubK.cons _ _ _ _ rfl (LeA.refl _) ?_))⟩ | exact ⟨_, ⟨_, hcx2, rfl⟩, weak_of 9 0 rfl rfl rfl (by simp [bpLtB, bpLtL, bpLt, bp_DB, bp_NB, filA, flsA]) ((by repeat (first | exact Sub.nil | refine Sub.cons _ _ _ rfl rfl ?_ | refine Sub.any _ _ ?_ | refine Sub.sl _ _ _ _ _ rfl ?_ | refine Sub.slnil _ _ _ rfl ?_)))⟩
    have hc17 := bp hb17
    have he2 : ¬ e2 = 0 := hc17
    obtain rfl : NS = X2 := by rw [hNS, if_neg he2]
    refine aw_skip (?_)
    refine x_then ?_
    first | exact ⟨_, ⟨_, hcap2, rfl⟩, weak_ren [0, 1, 2, 3, 4, 5, 6, 11, 8] (fun i hi => absurd hi (Nat.not_lt_zero i)) (by decide) (.cons _ _ _ _ _ rfl rfl (.cons _ _ _ _ _ rfl rfl (.cons _ _ _ _ _ rfl rfl (.cons _ _ _ _ _ rfl rfl (.cons _ _ _ _ _ rfl rfl (.cons _ _ _ _ _ rfl rfl (.cons _ _ _ _ _ rfl (renK_DB (by rfl) _ _ _ _ _) (.cons _ _ _ _ _ rfl (renK_NB _ _ _) (.cons _ _ _ _ _ rfl rfl .nil))))))))) (by repeat (first | exact SubK.nil | refine SubK.cons _ _ _ _ rfl (LeA.refl _) ?_))⟩ | exact ⟨_, ⟨_, hcx2, rfl⟩, weak_of 9 0 rfl rfl rfl (by simp [bpLtB, bpLtL, bpLt, bp_DB, bp_NB, filA, flsA]) ((by repeat (first | exact Sub.nil | refine Sub.cons _ _ _ rfl rfl ?_ | refine Sub.any _ _ ?_ | refine Sub.sl _ _ _ _ _ rfl ?_ | refine Sub.slnil _ _ _ rfl ?_)))⟩
  rintro t ⟨capx, hcapx, rfl⟩
  refine aw_midI (fun t => t = ⟨look [(2, .v (.string name)), (4, .v (.string name2)), (6, .bp 1 0), (8, .bp 2 0), (10, .bp 3 0), (17, .bp 4 0), (20, .bp 5 0), (22, .bp 8 0)], ⟨[flsA f, filA src, filA to, [.v (.slice none 0 0)], filA A, filA O, DB f q ⟨d.next, NS⟩ 7 cap capx, NB NS2 capx, [.bs 6 0 2 f.length cap]], []⟩⟩) ?_ ?_
  · skip
    refine w_ (m_ (h:=e_ (?_)))
    refine aw_cond rfl (fun hb18 => ?_) (fun hb18 => ?_)
    · have hc18 := bp hb18
      have e4 : NS.set i3 { m3 with parent := to.2 } = NS2 := by rw [hNS2, renPar, if_pos hc18, set_updI hasc3 hm3 (fun n => { n with parent := to.2 }), hm3i]
      have hset3 : SetAt (NB NS capx) (0 + i3 * 8 + 5) [.v (.int .i64 to.2)] (NB NS2 capx) := by
        rw [← e4]
        exact NB_set hm3 (by repeat constructor) (by simp)
      refine yk_ ([(0, flsA f), (1, filA src), (2, filA to), (3, [.v (.slice none 0 0)]), (4, filA A), (5, filA O), (6, DB f q ⟨d.next, NS⟩ 7 cap capx), (8, [.bs 6 0 2 f.length cap])]) 15 (h:=df_ 0 (h:=?_))
      first | refine dl_ 1 (h:=?_) | refine tk_ 1 rfl (fun _ hS => st_loadB1 (row := DB f q ⟨d.next, NS⟩ 7 cap capx) rfl (kb hS rfl) (DB_nodes hql) ⟨rfl, rfl⟩) ?_
      refine df_ 2 (h:=?_)
      first | refine dl_ 3 (h:=?_) | refine tk_ 3 rfl (fun _ hS => st_loadB1 (row := DB f q ⟨d.next, NS⟩ 7 cap capx) rfl (kb hS rfl) (DB_nodes hql) ⟨rfl, rfl⟩) ?_
      refine tk_ 4 rfl (fun _ hS => st_indexS (m := q) rfl rfl htq hql ⟨rfl, rfl⟩) ?_
      refine df_ 5 (h:=?_)
      first | refine dl_ 6 (h:=?_) | refine tk_ 6 rfl (fun _ hS => st_loadB1 (row := DB f q ⟨d.next, NS⟩ 7 cap capx) rfl (kb hS rfl) (DB_nodes hql) ⟨rfl, rfl⟩) ?_
      first | refine dl_ 7 (h:=?_) | refine tk_ 7 rfl (fun _ hS => st_loadB1 (row := DB f q ⟨d.next, NS⟩ 7 cap capx) rfl (kb hS rfl) (DB_nodes hql) ⟨rfl, rfl⟩) ?_
      first | refine dl_ 8 (h:=?_) | refine tk_ 8 rfl (fun _ hS => st_loadB1 (row := DB f q ⟨d.next, NS⟩ 7 cap capx) rfl (kb hS rfl) (DB_nodes hql) ⟨rfl, rfl⟩) ?_
      refine df_ 10 (h:=?_)
      first | refine dl_ 11 (h:=?_) | refine tk_ 11 rfl (fun _ hS => st_loadB1 (row := DB f q ⟨d.next, NS⟩ 7 cap capx) rfl (kb hS rfl) (DB_nodes hql) ⟨rfl, rfl⟩) ?_
      refine c_ 9 rfl (s_callR 2 rfl (.cons _ _ _ _ _ rfl (LeA.of_eq (low_upd (d := ⟨d.next, NS⟩) hql hcap hcapx (Nat.zero_le _) (Nat.zero_le _) rfl rfl)) (.cons _ _ _ _ _ rfl (LeA.refl _) .nil)) (Rindex (f.set q ⟨d.next, NS⟩) A hf3) ?_)
      rintro r rfl
      refine ⟨rfl, ?_⟩
      refine o_ (h:=?_)
      refine tk_ 12 rfl (fun _ hS => st_indexS (m := i3) rfl rfl hidx3 hil3 ⟨rfl, rfl⟩) ?_
      refine df_ 13 (h:=?_)
      refine c0_ 14 rfl (s_store rfl rfl rfl rfl rfl rfl hset3 (by repeat constructor) ?_)
      refine o_ (h:=z_ (h:=?_))
      refine x_then ?_
      exact ⟨_, rfl, weak_of 9 0 rfl rfl rfl (by simp [bpLtB, bpLtL, bpLt, bp_DB, bp_NB, filA, flsA]) (by repeat (first | exact Sub.nil | refine Sub.cons _ _ _ rfl rfl ?_ | refine Sub.any _ _ ?_ | refine Sub.sl _ _ _ _ _ rfl ?_ | refine Sub.slnil _ _ _ rfl ?_))⟩
    have hc18 := bp hb18
    obtain rfl : NS2 = NS := by rw [hNS2, renPar, if_neg (by rw [hc18]; decide)]
    refine aw_skip (?_)
    refine x_then ?_
    exact ⟨_, rfl, weak_of 9 0 rfl rfl rfl (by simp [bpLtB, bpLtL, bpLt, bp_DB, bp_NB, filA, flsA]) (by repeat (first | exact Sub.nil | refine Sub.cons _ _ _ rfl rfl ?_ | refine Sub.any _ _ ?_ | refine Sub.sl _ _ _ _ _ rfl ?_ | refine Sub.slnil _ _ _ rfl ?_))⟩
  rintro t rfl
  have hl3 : NS2.length = NS.length := by rw [hNS2]; unfold renPar; split <;> simp [updI]
  have hcapx2 : NS2.length ≤ capx := by omega
  refine aw_midI (fun t => t = ⟨look [(10, .bp 3 0), (11, .sl 7 ([(src, name, A, (0, 0)), (to, name2, O, A)].map chgA) none), (12, .v (.int .i64 0))], ⟨[flsA f, filA src, filA to, flsA (f.set q ⟨d.next, NS2⟩)], []⟩⟩) ?_ ?_
  · skip
    refine yk_ ([(0, flsA f), (1, filA src), (2, filA to), (4, filA A), (5, filA O), (6, DB f q ⟨d.next, NS⟩ 7 cap capx), (7, NB NS2 capx), (8, [.bs 6 0 2 f.length cap])]) 15 (h:=dl_ 0 (h:=dl_ 1 (h:=dm_ 2 (h:=dl_ 3 (h:=?_)))))
    refine tk_ 4 rfl (fun _ hS => st_le (y := .agg (filA (0, 0))) (st_build (by repeat (first | exact FillA.nil _ | (apply FillA.cons; (focus exact rfl); (focus exact rfl); (focus exact rfl); (focus exact rfl); (focus exact rfl); (focus (repeat constructor))))) ⟨rfl, rfl⟩) (by repeat (first | exact LeA.refl _ | exact LeA.nil _ | exact LeL.refl _ | refine LeA.agg ⟨rfl, rfl⟩ | refine LeA.tup ⟨rfl, rfl⟩ | exact LeL.nil | refine LeL.cons ⟨rfl, rfl⟩ ⟨rfl, rfl⟩ | exact LeA.any _)) ⟨rfl, rfl⟩) ?_
    refine dl_ 6 (h:=dm_ 7 (h:=dl_ 8 (h:=dl_ 9 (h:=?_))))
    refine c_ 5 rfl (s_callM [] rfl (.cons _ _ _ _ _ rfl (LeA.refl _) (.cons _ _ _ _ _ rfl (LeA.refl _) (.cons _ _ _ _ _ rfl (LeA.refl _) (.cons _ _ _ _ _ rfl (LeA.refl _) .nil)))) (by decide) .nil (RoneB src name A (0, 0)) ?_)
    rintro r bc tc ⟨rfl, rfl, rfl⟩
    refine ⟨rfl, _, (back_newB _ (one_plain _ _ _ _) : Back _ [] _ [_, _, _, _, _, _, _, _, _, _, _, _, _]), ?_⟩
    refine o_ (h:=?_)
    refine c_ 10 rfl (q_call (Rone to name2 O A) ?_)
    rintro r rfl
    refine o_ (h:=?_)
    refine c_ 11 rfl (st_appendB rfl rfl rfl (Nat.le_of_ble_eq_true rfl) src1 (by omega) (by omega) (fun h => absurd h (by omega)) ?_)
    rintro hg cap4 k bx2 hcp4 hs
    obtain ⟨rfl, rfl⟩ : k = 13 ∧ bx2 = [_, _, _, _, _, _, _, _, _, _, _, _, _, rowsB 7 cap4 ([(src, name, A, (0, 0)), (to, name2, O, A)].map chgA)] := hs.eq
    refine o_ (h:=?_)
    refine c0_ 12 rfl (s_store rfl rfl rfl rfl rfl rfl (by repeat constructor) (by repeat constructor) ?_)
    refine o_ (h:=da_ 13 (h:=da_ 14 (h:=z_ (h:=?_))))
    refine x_then ?_
    exact ⟨_, rfl, weak_fz 4 2 rfl (congrArg (fun x => [flsA f, filA src, filA to, x]) (liv_upd (k := 0) (i := 6) (j := 7) (d := ⟨d.next, NS⟩) (d' := ⟨d.next, NS2⟩) hql rfl hl3 hcap hcapx2 (Nat.le_of_ble_eq_true rfl) (Nat.le_of_ble_eq_true rfl) rfl rfl)) (.cons _ _ _ _ rfl (LeA.refl _) (.cons _ _ _ _ rfl (LeA.of_eq (liv_rows (rows := [(src, name, A, (0, 0)), (to, name2, O, A)].map chgA) (Nat.le_of_ble_eq_true rfl) (frz_plain (n := 4) (k := 1) (j := 13) (Nat.le_of_ble_eq_true rfl) rfl (chg_plain _)) (chg_seven _) rfl hcp4)) (.cons _ _ _ _ rfl (LeA.refl _) .nil)))⟩
  rintro t rfl
  refine aw_ret (?_)
  refine e_ret ?_
  rw [hRen, if_neg (by rw [hord]; simp), if_neg (by simp [he1]), if_neg (by simp [hc5]), if_neg (fun h => absurd h.2 (by rw [hbl h.1]; decide)), if_neg (fun h => hoa h.1 h.2), if_neg (by rw [h2]; simp), htq, Int.toNat_natCast, onD_set hq, show renNs d.nodes src name to name2 A O e2 = NS by rw [hNS, hX2D, hn1i, hn2i]; rfl, ← hNS2]
  rfl

end
end Go.Proofs.Ythcbdkmhamhciaa
