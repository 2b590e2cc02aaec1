/-
  Part 16 of the proof of WatchPlacesP: what the statement's proof uses of the texts in wip/tpl.
-/
import Derived.Test.YtbglbmnhgbgelaaGreatDoorQa15
namespace Go.Proofs.YtbglbmnhgbgelaaGreatDoor
open Go.RowKit
theorem eqF(a b:Fil)(w:World):(binOp .eql 36 (.agg #[.int .i64 a.1, .int .i64 a.2]) (.agg #[.int .i64 b.1, .int .i64 b.2])).run Tryz.prog w= .ok (.bool (decide (a=b))) w:=eqlFil a.1 a.2 b.1 b.2 w
def plcR(R:Wch×Int):AV:= .tup [.agg (wchA R.1), .v (.int .i64 R.2)]
def folR(R:Wch×Bool):AV:= .tup [.agg (wchA R.1), .v (.bool R.2)]
theorem plcW_eq(s:Spc)(k:Int)(p:Str)(F:Fnd×Int)(hF:findL s (0,0) p (decide (k=2))=F):plcW s k p=if(k≠1∧k≠2)∨cleanL p.data.toList=false then(wch0,22)else if F.2≠0 then(wch0,F.2)
    else if k=2 then(if F.1.ex=false then(wch0,2)else if dirL s.files F.1.file=false then(wch0,20)else(⟨k,(0,0),⟨#[]⟩,F.1.file⟩,0))
    else if F.1.name=⟨#[]⟩then(wch0,22)else(⟨k,F.1.dir,F.1.name,(lookL s.files F.1.dir F.1.name).1⟩,0):=by
 unfold plcW
 rw[hF]
 by_cases h:k=2
 ·rw[decide_eq_true h]at hF
  simp only[if_pos h,hF]
 rw[decide_eq_false h]at hF
 simp only[if_neg h,hF]
theorem look_err{f:Fls}{dir:Fil}{name:Str}(h:(lookL f dir name).2≠0):(lookL f dir name).1=(0,0):=by
 unfold lookL at h ⊢
 split
 ·rfl
 rename_i n e
 rw[e]at h
 simp only at h
 split at h
 ·rename_i c
  rw[if_pos c]
  split
  ·rfl
  rename_i e2;rw[e2]at h;exact absurd rfl h
 rename_i c;rw[if_neg c]
section
set_option maxRecDepth 10000
set_option maxHeartbeats 2000000
theorem Pclean(s:Str)(hs:s.size≤60000):AFn Tryz.prog 51 [.v (.string s)] (fun r=>r= .v (.bool (cleanL s.data.toList))):=afn_of (us:=[.string s]) fun w=>PClean_any s w (by omega)
theorem PisDir(s:Spc)(a:Fil)(hs:SpcB s):AFn Tryz.prog 54 [.agg (spcA s), .agg (filA a)] (fun r=>r= .v (.bool (dirL s.files a))):=by
 refine enter Tryz.func54 rfl rfl rfl rfl rfl 0 rfl ?_
 refine w_ (b_ (h:=b_ (h:=a_ (h:=e_ (w_ (f_ (h:=l_ (h:=l_ (h:=?_)))))))))
 refine al_p rfl (q_call (Pnode s.files a hs.files) ?_)
 rintro r rfl
 refine m_ (h:=x_ (h:=x_ (h:=al_ (h:=s_ (h:=a_ (h:=e_ (w_ (m_ (h:=m_ (h:=?_))))))))))
 refine al_gs true rfl rfl (fun hb1=>?_) (fun hb1=>?_)
 ·have hc1:=bp hb1
  refine f_ (h:=l_ (h:=eq_ (h:=pt_ (h:=a_ (h:=e_ (aw_ret (?_)))))))
  refine e_ret ?_
  first|(exfalso;first|contradiction|omega)|(exact vb (by simp[dirL_eq,*]))
 have hc1:=bp hb1
 refine g0_ (h:=g0_ (h:=g0_ (h:=pf_ (h:=a_ (h:=e_ (aw_ret (?_)))))))
 refine e_ret ?_
 first|(exfalso;first|contradiction|omega)|(exact vb (by simp[dirL_eq,*]))
theorem Pstand(s:Spc)(a:Fil)(hs:SpcB s):AFn Tryz.prog 58 [.agg (spcA s), .agg (filA a)] (fun r=>r= .v (.bool (thereW s a))):=by
 refine enter Tryz.func58 rfl rfl rfl rfl rfl 0 rfl ?_
 refine w_ (b_ (h:=b_ (h:=a_ (h:=e_ (w_ (l_ (h:=l_ (h:=?_))))))))
 refine al_p rfl (q_call (PisDir s a hs) ?_)
 rintro r rfl
 refine m_ (h:=?_)
 refine al_gs true rfl rfl (fun hb1=>?_) (fun hb1=>?_)
 ·have hc1:=bp hb1
  refine l_ (h:=f_ (h:=l_ (h:=?_)))
  refine g_y (q_call (Pmounted s a.1 hs) ?_)
  rintro r rfl
  refine pt_ (h:=a_ (h:=e_ (aw_ret (?_))))
  refine e_ret ?_
  first|(exfalso;first|contradiction|omega)|(exact vb (by simp[thereW,*]))
 have hc1:=bp hb1
 refine g0_ (h:=g0_ (h:=g0_ (h:=g0_ (h:=pf_ (h:=a_ (h:=e_ (aw_ret (?_))))))))
 refine e_ret ?_
 first|(exfalso;first|contradiction|omega)|(exact vb (by simp[thereW,*]))
theorem Pwlook(s:Spc)(a:Fil)(name:Str)(hs:SpcB s):AFn Tryz.prog 53 [.agg (spcA s), .agg (filA a), .v (.string name)] (fun r=>r= .agg (filA (lookL s.files a name).1)):=by
 refine enter Tryz.func53 rfl rfl rfl rfl rfl 0 rfl ?_
 refine w_ (b_ (h:=b_ (h:=al_ (h:=e_ (w_ (f_ (h:=l_ (h:=l_ (h:=m_ (h:=?_))))))))))
 refine al_p rfl (q_call (Plook s.files a name hs.files) ?_)
 rintro r rfl
 refine m_ (h:=x_ (h:=x_ (h:=al_ (h:=s_ (h:=a_ (h:=e_ (q_ (w_ (m_ (h:=nq_ (h:=e_ (?_))))))))))))
 refine aw_cond rfl (fun hb1=>?_) (fun hb1=>?_)
 ·have hc1:=bp hb1
  refine w_ (bd_ (h:=s_ (h:=e_ (aw_ret (x_thenR (?_))))))
  refine e_ret ?_
  rw[look_err (by simpa using hc1)]
  rfl
 have hc1:=bp hb1
 refine kt_ (w_ (l_ (h:=s_ (h:=e_ (aw_ret (?_))))))
 refine e_ret ?_
 rfl
theorem Pdirect(w:Wch)(hk:w.kind=1∨w.kind=2):AFn Tryz.prog 59 [.agg (wchA w)] (fun r=>r= .agg (filA (dirOfW w))):=by
 refine enter Tryz.func59 rfl rfl rfl rfl rfl 0 rfl ?_
 refine w_ (b_ (h:=al_ (h:=e_ (q_ (w_ (f_ (h:=l_ (h:=eq_ (h:=e_ (?_))))))))))
 refine aw_cond rfl (fun hb1=>?_) (fun hb1=>?_)
 ·have hc1:=bp hb1
  refine w_ (f_ (h:=l_ (h:=s_ (h:=e_ (aw_ret (x_thenR (?_)))))))
  refine e_ret ?_
  rw[dirOfW,if_neg (by omega)]
  rfl
 have hc1:=bp hb1
 refine kt_ (w_ (f_ (h:=l_ (h:=s_ (h:=e_ (aw_ret (?_)))))))
 refine e_ret ?_
 rw[dirOfW,if_pos (by omega)]
 rfl
theorem Rplace17(s:Spc)(k:Int)(p:Str)(hv:SpcV s)(hm:s.mounts.length≤1000)(hp:p.size≤50000):AFn Tryz.prog 18 [.agg (spcA s), .v (.int .i64 k), .v (.string p)] (fun r=>r=plcR (plcW s k p)):=by
 have hsb:=hv.b hm
 obtain⟨F,hF⟩:∃F,findL s (0,0) p (decide (k=2))=F:=⟨_,rfl⟩
 have hw:=plcW_eq s k p F hF
 have hfind:AFn Tryz.prog 56 [.agg (spcA s), .agg (filA (0,0)), .v (.string p), .v (.bool (decide (k=2)))] (fun r=>r= .tup [.agg (fndA F.1), .v (.int .i64 F.2)]):=by rw[←hF];exact Rfind7 s (0,0) p _ (hv.n hm) hv (by omega)
 refine enter Tryz.func18 rfl rfl rfl rfl rfl 0 rfl ?_
 refine w_ (b_ (h:=al_ (h:=a_ (h:=e_ (q_ (?_))))))
 refine aw_midI (fun S=>S=⟨look [(1, .v (.int .i64 k)),(2, .v (.string p)),(3, .bp 0 0),(6, .bp 1 0),(22, .v (.bool ((!decide (k=1)&& !decide (k=2))|| !cleanL p.data.toList)))],⟨[spcA s,[.v (.int .i64 0), .v (.int .i64 0), .v (.int .i64 0), .v (.string ⟨#[]⟩), .v (.int .i64 0), .v (.int .i64 0)]],[]⟩⟩) ?_ ?_
 ·skip
  refine aw_region (m_ (h:=nq_ (h:=m_ (h:=?_))))
  refine al_gs true rfl rfl (fun hb1=>?_) (fun hb1=>?_)
  ·have hc1:=bp hb1
   refine m_ (h:=nq_ (h:=pt_ (h:=m_ (h:=?_))))
   refine al_gs false rfl rfl (fun hb2=>?_) (fun hb2=>?_)
   ·have hc2:=bp hb2
    refine g0_ (h:=g0_ (h:=g0_ (h:=pt_ (h:=al_nil (?_)))))
    refine x_then ?_
    exact⟨_,rfl,wc_ 2 0 rfl⟩
   have hc2:=bp hb2
   refine m_ (h:=?_)
   refine g_y (q_call (Rclean p hp) ?_)
   rintro r rfl
   refine nt_ (h:=pf_ (h:=al_nil (?_)))
   refine x_then ?_
   exact⟨_,rfl,wc_ 2 0 rfl⟩
  have hc1:=bp hb1
  refine g0_ (h:=g0_ (h:=pf_ (h:=m_ (h:=m_ (h:=?_)))))
  refine g_y (q_call (Rclean p hp) ?_)
  rintro r rfl
  refine nt_ (h:=pf_ (h:=al_nil (?_)))
  refine x_then ?_
  exact⟨_,rfl,wc_ 2 0 rfl⟩
 rintro S rfl
 refine aw_cond rfl (fun hb3=>?_) (fun hb3=>?_)
 ·have hc3:=bp hb3
  have k1:(k≠1∧k≠2)∨cleanL p.data.toList=false:=by simpa using hc3
  refine w_ (bd_ (h:=s_ (h:=a_ (h:=e_ (aw_ret (x_thenR (?_)))))))
  refine e_ret ?_
  rw[hw,if_pos k1]
  rfl
 have hc3:=bp hb3
 have k1:¬((k≠1∧k≠2)∨cleanL p.data.toList=false):=by simpa using hc3
 refine kt_ (w_ (l_ (h:=bd_ (h:=m_ (h:=m_ (h:=eq_ (h:=?_)))))))
 refine al_p rfl (q_call (hfind) ?_)
 rintro r rfl
 refine m_ (h:=x_ (h:=x_ (h:=al_ (h:=s_ (h:=a_ (h:=e_ (q_ (w_ (m_ (h:=nq_ (h:=e_ (?_))))))))))))
 refine aw_cond rfl (fun hb4=>?_) (fun hb4=>?_)
 ·have hc4:=bp hb4
  have k2:F.2≠0:=by simpa using hc4
  refine w_ (bd_ (h:=m_ (h:=s_ (h:=a_ (h:=e_ (aw_ret (x_thenR (?_))))))))
  refine e_ret ?_
  rw[hw,if_neg k1,if_pos k2]
  rfl
 have hc4:=bp hb4
 have k2:¬F.2≠0:=by simpa using hc4
 refine kt_ (q_ (w_ (m_ (h:=eq_ (h:=e_ (?_))))))
 refine aw_cond rfl (fun hb5=>?_) (fun hb5=>?_)
 ·have hc5:=bp hb5
  have k3:k=2:=hc5
  refine q_ (w_ (f_ (h:=l_ (h:=nt_ (h:=e_ (?_))))))
  refine aw_cond rfl (fun hb6=>?_) (fun hb6=>?_)
  ·have hc6:=bp hb6
   have k4:F.1.ex=false:=by simpa using hc6
   refine w_ (bd_ (h:=s_ (h:=a_ (h:=e_ (aw_ret (x_thenR (x_thenR (?_))))))))
   refine e_ret ?_
   rw[hw,if_neg k1,if_neg k2,if_pos k3,if_pos k4]
   rfl
  have hc6:=bp hb6
  have k4:¬F.1.ex=false:=by simpa using hc6
  refine kt_ (q_ (w_ (f_ (h:=l_ (h:=f_ (h:=l_ (h:=?_)))))))
  refine al_p rfl (q_call (Rdir s.files F.1.file hsb.files) ?_)
  rintro r rfl
  refine nt_ (h:=e_ (?_))
  refine aw_cond rfl (fun hb7=>?_) (fun hb7=>?_)
  ·have hc7:=bp hb7
   have k5:dirL s.files F.1.file=false:=by simpa using hc7
   refine w_ (bd_ (h:=s_ (h:=a_ (h:=e_ (aw_ret (x_thenR (x_thenR (?_))))))))
   refine e_ret ?_
   rw[hw,if_neg k1,if_neg k2,if_pos k3,if_neg k4,if_pos k5]
   rfl
  have hc7:=bp hb7
  have k5:¬dirL s.files F.1.file=false:=by simpa using hc7
  refine kt_ (w_ (m_ (h:=f_ (h:=l_ (h:=bd_ (h:=s_ (h:=a_ (h:=e_ (aw_ret (x_thenR (?_)))))))))))
  refine e_ret ?_
  rw[hw,if_neg k1,if_neg k2,if_pos k3,if_neg k4,if_neg k5]
  rfl
 have hc5:=bp hb5
 have k3:¬k=2:=hc5
 refine kt_ (q_ (w_ (f_ (h:=l_ (h:=eq_ (h:=e_ (?_)))))))
 refine aw_cond rfl (fun hb8=>?_) (fun hb8=>?_)
 ·have hc8:=bp hb8
  have k6:F.1.name=⟨#[]⟩:=hc8
  refine w_ (bd_ (h:=s_ (h:=a_ (h:=e_ (aw_ret (x_thenR (?_)))))))
  refine e_ret ?_
  rw[hw,if_neg k1,if_neg k2,if_neg k3,if_pos k6]
  rfl
 have hc8:=bp hb8
 have k6:¬F.1.name=⟨#[]⟩:=hc8
 refine kt_ (w_ (f_ (h:=l_ (h:=f_ (h:=l_ (h:=f_ (h:=l_ (h:=?_))))))))
 refine al_p rfl (q_call (Rlook s.files F.1.dir F.1.name hsb.files) ?_)
 rintro r rfl
 refine m_ (h:=x_ (h:=x_ (h:=al_ (h:=s_ (h:=a_ (h:=e_ (w_ (m_ (h:=f_ (h:=l_ (h:=f_ (h:=l_ (h:=l_ (h:=bd_ (h:=s_ (h:=a_ (h:=e_ (aw_ret (?_)))))))))))))))))))
 refine e_ret ?_
 rw[hw,if_neg k1,if_neg k2,if_neg k3,if_neg k6]
 rfl
theorem Pplace17(s:Spc)(k:Int)(p:Str)(hv:SpcV s)(hm:s.mounts.length≤1000)(hp:p.size≤50000):AFn Tryz.prog 17 [.agg (spcA s), .v (.int .i64 k), .v (.string p)] (fun r=>r=plcR (plcW s k p)):=by
 have hsb:=hv.b hm
 obtain⟨F,hF⟩:∃F,findL s (0,0) p (decide (k=2))=F:=⟨_,rfl⟩
 have hw:=plcW_eq s k p F hF
 have hfind:AFn Tryz.prog 52 [.agg (spcA s), .agg (filA (0,0)), .v (.string p), .v (.bool (decide (k=2)))] (fun r=>r= .tup [.agg (fndA F.1), .v (.int .i64 F.2)]):=by rw[←hF];exact Pfind7 s (0,0) p _ (hv.n hm) hv (by omega)
 refine enter Tryz.func17 rfl rfl rfl rfl rfl 0 rfl ?_
 refine w_ (b_ (h:=al_ (h:=a_ (h:=e_ (q_ (?_))))))
 refine aw_midI (fun S=>S=⟨look [(1, .v (.int .i64 k)),(2, .v (.string p)),(3, .bp 0 0),(6, .bp 1 0),(20, .v (.bool ((!decide (k=1)&& !decide (k=2))|| !cleanL p.data.toList)))],⟨[spcA s,[.v (.int .i64 0), .v (.int .i64 0), .v (.int .i64 0), .v (.string ⟨#[]⟩), .v (.int .i64 0), .v (.int .i64 0)]],[]⟩⟩) ?_ ?_
 ·skip
  refine aw_region (m_ (h:=nq_ (h:=m_ (h:=?_))))
  refine al_gs true rfl rfl (fun hb1=>?_) (fun hb1=>?_)
  ·have hc1:=bp hb1
   refine m_ (h:=nq_ (h:=pt_ (h:=m_ (h:=?_))))
   refine al_gs false rfl rfl (fun hb2=>?_) (fun hb2=>?_)
   ·have hc2:=bp hb2
    refine g0_ (h:=g0_ (h:=g0_ (h:=pt_ (h:=al_nil (?_)))))
    refine x_then ?_
    exact⟨_,rfl,wc_ 2 0 rfl⟩
   have hc2:=bp hb2
   refine m_ (h:=?_)
   refine g_y (q_call (Pclean p (by omega)) ?_)
   rintro r rfl
   refine nt_ (h:=pf_ (h:=al_nil (?_)))
   refine x_then ?_
   exact⟨_,rfl,wc_ 2 0 rfl⟩
  have hc1:=bp hb1
  refine g0_ (h:=g0_ (h:=pf_ (h:=m_ (h:=m_ (h:=?_)))))
  refine g_y (q_call (Pclean p (by omega)) ?_)
  rintro r rfl
  refine nt_ (h:=pf_ (h:=al_nil (?_)))
  refine x_then ?_
  exact⟨_,rfl,wc_ 2 0 rfl⟩
 rintro S rfl
 refine aw_cond rfl (fun hb3=>?_) (fun hb3=>?_)
 ·have hc3:=bp hb3
  have k1:(k≠1∧k≠2)∨cleanL p.data.toList=false:=by simpa using hc3
  refine w_ (bd_ (h:=s_ (h:=a_ (h:=e_ (aw_ret (x_thenR (?_)))))))
  refine e_ret ?_
  rw[hw,if_pos k1]
  rfl
 have hc3:=bp hb3
 have k1:¬((k≠1∧k≠2)∨cleanL p.data.toList=false):=by simpa using hc3
 refine kt_ (w_ (l_ (h:=bd_ (h:=m_ (h:=m_ (h:=eq_ (h:=?_)))))))
 refine al_p rfl (q_call (hfind) ?_)
 rintro r rfl
 refine m_ (h:=x_ (h:=x_ (h:=al_ (h:=s_ (h:=a_ (h:=e_ (q_ (w_ (m_ (h:=nq_ (h:=e_ (?_))))))))))))
 refine aw_cond rfl (fun hb4=>?_) (fun hb4=>?_)
 ·have hc4:=bp hb4
  have k2:F.2≠0:=by simpa using hc4
  refine w_ (bd_ (h:=m_ (h:=s_ (h:=a_ (h:=e_ (aw_ret (x_thenR (?_))))))))
  refine e_ret ?_
  rw[hw,if_neg k1,if_pos k2]
  rfl
 have hc4:=bp hb4
 have k2:¬F.2≠0:=by simpa using hc4
 refine kt_ (q_ (w_ (m_ (h:=eq_ (h:=e_ (?_))))))
 refine aw_cond rfl (fun hb5=>?_) (fun hb5=>?_)
 ·have hc5:=bp hb5
  have k3:¬k=2:=by omega
  refine q_ (w_ (f_ (h:=l_ (h:=eq_ (h:=e_ (?_))))))
  refine aw_cond rfl (fun hb6=>?_) (fun hb6=>?_)
  ·have hc6:=bp hb6
   have k6:F.1.name=⟨#[]⟩:=hc6
   refine w_ (bd_ (h:=s_ (h:=a_ (h:=e_ (aw_ret (x_thenR (x_thenR (?_))))))))
   refine e_ret ?_
   rw[hw,if_neg k1,if_neg k2,if_neg k3,if_pos k6]
   rfl
  have hc6:=bp hb6
  have k6:¬F.1.name=⟨#[]⟩:=hc6
  refine kt_ (q_ (yk_ ([(0,spcA s),(2,fndA F.1)]) 14 (h:=dm_ 0 (h:=df_ 1 (h:=?_)))))
  first|refine dl_ 2 (h:=?_)|refine tk_ 2 rfl (fun _ hS=>st_loadBE (row:=spcA s) rfl (kb hS rfl) (Nat.le_of_ble_eq_true rfl) rfl ⟨rfl,rfl⟩) ?_
  refine df_ 3 (h:=?_)
  first|refine dl_ 4 (h:=?_)|refine tk_ 4 rfl (fun _ hS=>st_loadBE (row:=spcA s) rfl (kb hS rfl) (Nat.le_of_ble_eq_true rfl) rfl ⟨rfl,rfl⟩) ?_
  first|refine dl_ 5 (h:=?_)|refine tk_ 5 rfl (fun _ hS=>st_loadBE (row:=spcA s) rfl (kb hS rfl) (Nat.le_of_ble_eq_true rfl) rfl ⟨rfl,rfl⟩) ?_
  refine df_ 6 (h:=?_)
  first|refine dl_ 7 (h:=?_)|refine tk_ 7 rfl (fun _ hS=>st_loadBE (row:=spcA s) rfl (kb hS rfl) (Nat.le_of_ble_eq_true rfl) rfl ⟨rfl,rfl⟩) ?_
  refine df_ 8 (h:=?_)
  first|refine dl_ 9 (h:=?_)|refine tk_ 9 rfl (fun _ hS=>st_loadBE (row:=spcA s) rfl (kb hS rfl) (Nat.le_of_ble_eq_true rfl) rfl ⟨rfl,rfl⟩) ?_
  refine c_ 10 rfl (q_call (Pwlook s F.1.dir F.1.name hsb) ?_)
  rintro r rfl
  refine o_ (h:=dbd_ 11 (h:=?_))
  refine c0_ 12 rfl (s_store rfl rfl rfl rfl rfl rfl (by repeat constructor) (by repeat constructor) ?_)
  refine o_ (h:=da_ 13 (h:=z_ (h:=t_ (aw_ret (x_thenR (?_))))))
  refine e_ret ?_
  rw[hw,if_neg k1,if_neg k2,if_neg k3,if_neg k6]
  rfl
 have hc5:=bp hb5
 have k3:k=2:=by simp at k1;omega
 refine kt_ (q_ (w_ (f_ (h:=l_ (h:=nt_ (h:=e_ (?_)))))))
 refine aw_cond rfl (fun hb7=>?_) (fun hb7=>?_)
 ·have hc7:=bp hb7
  have k4:F.1.ex=false:=by simpa using hc7
  refine w_ (bd_ (h:=s_ (h:=a_ (h:=e_ (aw_ret (x_thenR (?_)))))))
  refine e_ret ?_
  rw[hw,if_neg k1,if_neg k2,if_pos k3,if_pos k4]
  rfl
 have hc7:=bp hb7
 have k4:¬F.1.ex=false:=by simpa using hc7
 refine kt_ (q_ (w_ (l_ (h:=f_ (h:=l_ (h:=?_))))))
 refine al_p rfl (q_call (PisDir s F.1.file hsb) ?_)
 rintro r rfl
 refine nt_ (h:=e_ (?_))
 refine aw_cond rfl (fun hb8=>?_) (fun hb8=>?_)
 ·have hc8:=bp hb8
  have k5:dirL s.files F.1.file=false:=by simpa using hc8
  refine w_ (bd_ (h:=s_ (h:=a_ (h:=e_ (aw_ret (x_thenR (?_)))))))
  refine e_ret ?_
  rw[hw,if_neg k1,if_neg k2,if_pos k3,if_neg k4,if_pos k5]
  rfl
 have hc8:=bp hb8
 have k5:¬dirL s.files F.1.file=false:=by simpa using hc8
 refine kt_ (w_ (m_ (h:=f_ (h:=l_ (h:=bd_ (h:=s_ (h:=a_ (h:=e_ (aw_ret (?_))))))))))
 refine e_ret ?_
 rw[hw,if_neg k1,if_neg k2,if_pos k3,if_neg k4,if_neg k5]
 rfl
theorem Pcur17(s:Spc)(w:Wch)(hs:SpcB s):AFn Tryz.prog 19 [.agg (spcA s), .agg (wchA w)] (fun r=>r= .v (.bool (curW s w))):=by
 refine enter Tryz.func19 rfl rfl rfl rfl rfl 0 rfl ?_
 refine w_ (b_ (h:=b_ (h:=a_ (h:=e_ (q_ (w_ (f_ (h:=l_ (h:=e_ (aw_block (w_ (eq_ (h:=a_ (h:=e_ (?_)))))))))))))))
 refine aw_cond rfl (fun hb1=>?_) (fun hb1=>?_)
 ·have hc1:=bp hb1
  refine q_ (yr_ 21 (h:=df_ 0 (h:=dl_ 1 (h:=?_))))
  refine c_ 2 rfl (q_call (Pname w.name) ?_)
  rintro r rfl
  refine o_ (h:=dm_ 3 (h:=?_))
  refine aa_both (j:=3) rfl (fun hb2=>?_) (fun hb2=>?_)
  ·have hc2:=bp hb2
   refine dl_ 4 (h:=df_ 5 (h:=dl_ 6 (h:=?_)))
   refine c_ 7 rfl (q_call (Pstand s w.dir hs) ?_)
   rintro r rfl
   refine o_ (h:=dpt_ 8 (h:=dm_ 9 (h:=?_)))
   refine aa_both (j:=9) rfl (fun hb3=>?_) (fun hb3=>?_)
   ·have hc3:=bp hb3
    refine df_ 10 (h:=dl_ 11 (h:=dl_ 12 (h:=df_ 13 (h:=dl_ 14 (h:=df_ 15 (h:=dl_ 16 (h:=?_)))))))
    refine c_ 17 rfl (q_call (Pwlook s w.dir w.name hs) ?_)
    rintro r rfl
    refine o_ (h:=?_)
    refine r_y (i:=18) rfl (st_binA rfl rfl (by repeat constructor) (by repeat constructor) (fun W=>eqF w.file (lookL s.files w.dir w.name).1 W) (by kernel_rfl) ⟨rfl,rfl⟩) ?_
    refine dpt_ 19 (h:=da_ 20 (h:=z_ (h:=t_ (aw_ret (x_blockR (x_thenR (?_)))))))
    refine e_ret ?_
    first|(exfalso;first|contradiction|omega)|(exact vb (by first|(simp[curW,*];done)|(simp[curW,*,eq_comm];done)))
   have hc3:=bp hb3
   refine d0_ 10 (h:=d0_ 11 (h:=d0_ 12 (h:=d0_ 13 (h:=d0_ 14 (h:=d0_ 15 (h:=d0_ 16 (h:=d0_ 17 (h:=d0_ 18 (h:=dpf_ 19 (h:=da_ 20 (h:=z_ (h:=t_ (aw_ret (x_blockR (x_thenR (?_))))))))))))))))
   refine e_ret ?_
   first|(exfalso;first|contradiction|omega)|(exact vb (by first|(simp[curW,*];done)|(simp[curW,*,eq_comm];done)))
  have hc2:=bp hb2
  refine d0_ 4 (h:=d0_ 5 (h:=d0_ 6 (h:=d0_ 7 (h:=dpf_ 8 (h:=dm_ 9 (h:=d0_ 10 (h:=d0_ 11 (h:=d0_ 12 (h:=d0_ 13 (h:=d0_ 14 (h:=d0_ 15 (h:=d0_ 16 (h:=d0_ 17 (h:=d0_ 18 (h:=dpf_ 19 (h:=da_ 20 (h:=z_ (h:=t_ (aw_ret (x_blockR (x_thenR (?_))))))))))))))))))))))
  refine e_ret ?_
  first|(exfalso;first|contradiction|omega)|(exact vb (by first|(simp[curW,*];done)|(simp[curW,*,eq_comm];done)))
 have hc1:=bp hb1
 refine w_ (eq_ (h:=a_ (h:=e_ (?_))))
 refine aw_cond rfl (fun hb4=>?_) (fun hb4=>?_)
 ·have hc4:=bp hb4
  refine w_ (f_ (h:=l_ (h:=bd_ (h:=?_))))
  refine al_p rfl (st_binA rfl rfl (by repeat constructor) (by repeat constructor) (fun W=>eqF w.dir (0,0) W) (by kernel_rfl) ?_)
  refine m_ (h:=?_)
  refine al_gs true rfl rfl (fun hb5=>?_) (fun hb5=>?_)
  ·have hc5:=bp hb5
   refine f_ (h:=l_ (h:=eq_ (h:=pt_ (h:=m_ (h:=?_)))))
   refine al_gs true rfl rfl (fun hb6=>?_) (fun hb6=>?_)
   ·have hc6:=bp hb6
    refine l_ (h:=f_ (h:=l_ (h:=?_)))
    refine g_y (q_call (Pstand s w.file hs) ?_)
    rintro r rfl
    refine pt_ (h:=a_ (h:=e_ (aw_ret (x_blockR (x_thenR (?_))))))
    refine e_ret ?_
    first|(exfalso;first|contradiction|omega)|(exact vb (by first|(simp[curW,*];done)|(simp[curW,*,eq_comm];done)))
   have hc6:=bp hb6
   refine g0_ (h:=g0_ (h:=g0_ (h:=g0_ (h:=pf_ (h:=a_ (h:=e_ (aw_ret (x_blockR (x_thenR (?_))))))))))
   refine e_ret ?_
   first|(exfalso;first|contradiction|omega)|(exact vb (by first|(simp[curW,*];done)|(simp[curW,*,eq_comm];done)))
  have hc5:=bp hb5
  refine g0_ (h:=g0_ (h:=g0_ (h:=pf_ (h:=m_ (h:=g0_ (h:=g0_ (h:=g0_ (h:=g0_ (h:=pf_ (h:=a_ (h:=e_ (aw_ret (x_blockR (x_thenR (?_)))))))))))))))
  refine e_ret ?_
  first|(exfalso;first|contradiction|omega)|(exact vb (by first|(simp[curW,*];done)|(simp[curW,*,eq_comm];done)))
 have hc4:=bp hb4
 refine aw_skip (x_blockN (t_ (w_ (a_ (h:=e_ (aw_ret (?_)))))))
 refine e_ret ?_
 first|(exfalso;first|contradiction|omega)|(exact vb (by first|(simp[curW,*];done)|(simp[curW,*,eq_comm];done)))
end
def zWch:List AV:=[.v (.int .i64 0), .v (.int .i64 0), .v (.int .i64 0), .v (.string ⟨#[]⟩), .v (.int .i64 0), .v (.int .i64 0)]
theorem take_any{α:Type}{l:List α}{j:Nat}{x:α}(h:l[j]?=some x)(p:α→Bool):(l.take (j+1)).any p=((l.take j).any p||p x):=by
 rw[List.take_add_one,h,List.any_append]
 simp
def mvL(w:Wch)(l:List Chg):Fil:=l.foldl (fun a c=>if c.1=w.dir∧c.2.1=w.name then c.2.2.2 else a) w.file
theorem mvL_succ{w:Wch}{l:List Chg}{j:Nat}{c:Chg}(h:l[j]?=some c):mvL w (l.take (j+1))=if(decide (c.1=w.dir)&&decide (c.2.1=w.name))=true then c.2.2.2 else mvL w (l.take j):=by
 unfold mvL
 rw[List.take_add_one,h,List.foldl_append]
 simp
def mvF(w:Wch)(l:List Chg):Fil:=if w.kind=1 then mvL w l else w.file
theorem moved_F(w:Wch)(l:List Chg):movedW w l={w with file:=mvF w l}:=by
 unfold movedW mvF mvL
 split<;>rfl
def goneB(w:Wch)(g:Int):Bool:=(!decide (w.kind=1)&& !decide (w.kind=2))||(!decide (g=0)&&decide (g=(dirOfW w).1))
def oldB(w:Wch)(l:List Chg):Bool:=l.any fun c=>decide (c.2.2.1=dirOfW w)
def newB(w:Wch)(l:List Chg):Bool:=l.any fun c=>decide (c.2.2.2=dirOfW w)
theorem oldB_succ{w:Wch}{l:List Chg}{j:Nat}{c:Chg}(h:l[j]?=some c):oldB w (l.take (j+1))=(oldB w (l.take j)||decide (c.2.2.1=dirOfW w)):=take_any h _
theorem newB_succ{w:Wch}{l:List Chg}{j:Nat}{c:Chg}(h:l[j]?=some c):newB w (l.take (j+1))=(newB w (l.take j)||decide (c.2.2.2=dirOfW w)):=take_any h _
theorem chgW_eq(w:Wch)(g:Int)(l:List Chg):chgW w g l=if(goneB w g||(oldB w l&& !newB w l))=true then(wch0,false)else({w with file:=mvF w l},true):=by
 rw[←moved_F]
 unfold chgW
 have:((w.kind≠1∧w.kind≠2)∨(g≠0∧g=(dirOfW w).1)∨((l.any fun c=>decide (c.2.2.1=dirOfW w))=true∧(l.any fun c=>decide (c.2.2.2=dirOfW w))=false))↔(goneB w g||(oldB w l&& !newB w l))=true:=by
  unfold goneB oldB newB
  simp[or_assoc]
 by_cases h:(goneB w g||(oldB w l&& !newB w l))=true
 ·rw[if_pos h,if_pos (this.2 h)]
 rw[if_neg h,if_neg (fun k=>h (this.1 k))]
section
set_option maxRecDepth 10000
set_option maxHeartbeats 2000000
theorem Pfol17(s:Spc)(w:Wch)(hs:SpcB s):AFn Tryz.prog 24 [.agg (spcA s), .agg (wchA w)] (fun r=>r=folR (folW s w)):=by
 refine enter Tryz.func24 rfl rfl rfl rfl rfl 0 rfl ?_
 refine w_ (b_ (h:=b_ (h:=al_ (h:=a_ (h:=e_ (q_ (?_)))))))
 refine aw_midI (fun S=>S=⟨look [(2, .bp 0 0),(3, .bp 1 0),(4, .bp 2 0),(20, .v (.bool ((!decide (w.kind=1)&& !decide (w.kind=2))|| !thereW s (dirOfW w))))],⟨[spcA s,wchA w,zWch],[]⟩⟩) ?_ ?_
 ·skip
  refine yr_ 15 (h:=df_ 0 (h:=dl_ 1 (h:=dnq_ 2 (h:=dm_ 3 (h:=?_)))))
  refine aa_both (j:=3) rfl (fun hb1=>?_) (fun hb1=>?_)
  ·have hc1:=bp hb1
   refine df_ 4 (h:=dl_ 5 (h:=dnq_ 6 (h:=dpt_ 7 (h:=dm_ 8 (h:=?_)))))
   refine aa_both (j:=8) rfl (fun hb2=>?_) (fun hb2=>?_)
   ·have hc2:=bp hb2
    refine d0_ 9 (h:=d0_ 10 (h:=d0_ 11 (h:=d0_ 12 (h:=d0_ 13 (h:=dpt_ 14 (h:=z_ (h:=?_)))))))
    refine x_then ?_
    exact⟨_,rfl,wc_ 3 0 rfl⟩
   have hc2:=bp hb2
   refine dl_ 9 (h:=dl_ 10 (h:=?_))
   refine c_ 11 rfl (q_call (Pdirect w (by omega)) ?_)
   rintro r rfl
   refine o_ (h:=?_)
   refine c_ 12 rfl (q_call (Pstand s (dirOfW w) hs) ?_)
   rintro r rfl
   refine o_ (h:=dnt_ 13 (h:=dpf_ 14 (h:=z_ (h:=?_))))
   refine x_then ?_
   exact⟨_,rfl,wc_ 3 0 rfl⟩
  have hc1:=bp hb1
  refine d0_ 4 (h:=d0_ 5 (h:=d0_ 6 (h:=dpf_ 7 (h:=dm_ 8 (h:=dl_ 9 (h:=dl_ 10 (h:=?_)))))))
  refine c_ 11 rfl (q_call (Pdirect w (by omega)) ?_)
  rintro r rfl
  refine o_ (h:=?_)
  refine c_ 12 rfl (q_call (Pstand s (dirOfW w) hs) ?_)
  rintro r rfl
  refine o_ (h:=dnt_ 13 (h:=dpf_ 14 (h:=z_ (h:=?_))))
  refine x_then ?_
  exact⟨_,rfl,wc_ 3 0 rfl⟩
 rintro S rfl
 refine aw_cond rfl (fun hb3=>?_) (fun hb3=>?_)
 ·have hc3:=bp hb3
  have k1:(w.kind≠1∧w.kind≠2)∨thereW s (dirOfW w)=false:=by simpa using hc3
  refine w_ (bd_ (h:=s_ (h:=a_ (h:=e_ (aw_ret (x_thenR (?_)))))))
  refine e_ret ?_
  rw[folW,if_pos k1]
  rfl
 have hc3:=bp hb3
 have k1:¬((w.kind≠1∧w.kind≠2)∨thereW s (dirOfW w)=false):=by simpa using hc3
 refine kt_ (q_ (w_ (f_ (h:=l_ (h:=eq_ (h:=e_ (?_)))))))
 refine aw_cond rfl (fun hb4=>?_) (fun hb4=>?_)
 ·have hc4:=bp hb4
  have k2:w.kind=1:=hc4
  refine aw_region (l_ (h:=f_ (h:=l_ (h:=f_ (h:=l_ (h:=?_))))))
  refine al_p rfl (q_call (Pwlook s w.dir w.name hs) ?_)
  rintro r rfl
  refine f_ (h:=s_ (h:=e_ (w_ (l_ (h:=s_ (h:=a_ (h:=e_ (aw_ret (?_)))))))))
  refine e_ret ?_
  rw[folW,if_neg k1,if_pos k2]
  rfl
 have hc4:=bp hb4
 have k2:¬w.kind=1:=hc4
 refine kt_ (w_ (l_ (h:=s_ (h:=a_ (h:=e_ (aw_ret (?_)))))))
 refine e_ret ?_
 rw[folW,if_neg k1,if_neg k2]
 rfl
theorem Pchg17(w:Wch)(r:Res)(hl:r.changes.length≤1000):AFn Tryz.prog 33 [.agg (wchA w), .agg (resK r)] (fun x=>x=folR (chgW w r.gone r.changes)):=by
 rw[chgW_eq]
 refine enter Tryz.func33 rfl rfl rfl rfl rfl 0 rfl ?_
 refine w_ (b_ (h:=b_ (h:=al_ (h:=a_ (h:=e_ (q_ (?_)))))))
 refine aw_midI (fun S=>S=⟨look [(2, .bp 0 0),(3, .bp 1 0),(4, .bp 2 0),(20, .v (.bool (!decide (w.kind=1)&& !decide (w.kind=2))))],⟨[wchA w,resK r,zWch],[]⟩⟩) ?_ ?_
 ·skip
  refine aw_region (f_ (h:=l_ (h:=nq_ (h:=m_ (h:=?_)))))
  refine al_gs true rfl rfl (fun hb1=>?_) (fun hb1=>?_)
  ·have hc1:=bp hb1
   refine f_ (h:=l_ (h:=nq_ (h:=pt_ (h:=al_nil (?_)))))
   refine x_then ?_
   exact⟨_,rfl,wc_ 3 0 rfl⟩
  have hc1:=bp hb1
  refine g0_ (h:=g0_ (h:=g0_ (h:=pf_ (h:=al_nil (?_)))))
  refine x_then ?_
  exact⟨_,rfl,wc_ 3 0 rfl⟩
 rintro S rfl
 refine aw_cond rfl (fun hb2=>?_) (fun hb2=>?_)
 ·have hc2:=bp hb2
  have k1:(goneB w r.gone||(oldB w r.changes&& !newB w r.changes))=true:=by simp[goneB]at hc2 ⊢;simp[hc2]
  refine w_ (bd_ (h:=s_ (h:=a_ (h:=e_ (aw_ret (x_thenR (?_)))))))
  refine e_ret ?_
  rw[if_pos k1]
  rfl
 have hc2:=bp hb2
 have k0:w.kind=1∨w.kind=2:=by simp at hc2;omega
 refine kt_ (w_ (l_ (h:=?_)))
 refine al_p rfl (q_call (Pdirect w k0) ?_)
 rintro r rfl
 refine al_ (h:=s_ (h:=e_ (q_ (?_))))
 refine aw_midI (fun S=>S=⟨look [(2, .bp 0 0),(3, .bp 1 0),(4, .bp 2 0),(6, .bp 3 0),(33, .v (.bool (!decide (r.gone=0)&&decide (r.gone=(dirOfW w).1))))],⟨[wchA w,resK r,zWch,filA (dirOfW w)],[]⟩⟩) ?_ ?_
 ·skip
  refine aw_region (f_ (h:=l_ (h:=nq_ (h:=m_ (h:=?_)))))
  refine al_gs true rfl rfl (fun hb3=>?_) (fun hb3=>?_)
  ·have hc3:=bp hb3
   refine f_ (h:=l_ (h:=f_ (h:=l_ (h:=eq_ (h:=pt_ (h:=al_nil (?_)))))))
   refine x_then ?_
   exact⟨_,rfl,wc_ 4 0 rfl⟩
  have hc3:=bp hb3
  refine g0_ (h:=g0_ (h:=g0_ (h:=g0_ (h:=g0_ (h:=pf_ (h:=al_nil (?_)))))))
  refine x_then ?_
  exact⟨_,rfl,wc_ 4 0 rfl⟩
 rintro S rfl
 refine aw_cond rfl (fun hb4=>?_) (fun hb4=>?_)
 ·have hc4:=bp hb4
  have k1:(goneB w r.gone||(oldB w r.changes&& !newB w r.changes))=true:=by unfold goneB;rw[hb4];simp
  refine w_ (bd_ (h:=s_ (h:=a_ (h:=e_ (aw_ret (x_thenR (?_)))))))
  refine e_ret ?_
  rw[if_pos k1]
  rfl
 have hc4:=bp hb4
 have k1:goneB w r.gone=false:=by unfold goneB;rw[hb4];rcases k0 with h|h<;>simp[h]
 refine kt_ (w_ (a_ (h:=a_ (h:=e_ (q_ (w_ (f_ (h:=l_ (h:=n_ (h:=m_ (h:=e_ (aw_block (?_)))))))))))))
 refine aw_loopW (fun m S=>∃j:Nat,j≤r.changes.length∧m=r.changes.length - j∧S=⟨look [(2, .bp 0 0),(3, .bp 1 0),(4, .bp 2 0),(6, .bp 3 0),(7, .v (.bool (oldB w (r.changes.take j)))),(8, .v (.bool (newB w (r.changes.take j)))),(36, .sl 7 (r.changes.map chgA) none),(37, .v (.int .i64 ((r.changes.map chgA).length:Int))),(38, .v (.int .i64 (j:Int)))],⟨[wchA w,resK r,zWch,filA (dirOfW w)],[]⟩⟩) (r.changes.length) ((wk 4 0)) (⟨0,Nat.zero_le _,rfl,rfl⟩) ?_
 rintro m S ⟨j,hj,rfl,rfl⟩
 refine w_ (lt_ (h:=e_ (q_ (?_))))
 refine aw_cond rfl (fun hb5=>?_) (fun hb5=>?_)
 ·have hc5:=bp hb5
  obtain⟨hlt,c,hy,hrow, -⟩:=row_at chgA hc5
  refine kt_ (q_ (aw_block (w_ (i_ (h:=l_ (h:=al_ (h:=s_ (h:=e_ (?_)))))))))
  refine aw_midI (fun S=>S=⟨look [(2, .bp 0 0),(3, .bp 1 0),(4, .bp 2 0),(6, .bp 3 0),(7, .v (.bool (oldB w (r.changes.take j)||decide (c.2.2.1=dirOfW w)))),(8, .v (.bool (newB w (r.changes.take j)))),(10, .bp 4 0),(36, .sl 7 (r.changes.map chgA) none),(37, .v (.int .i64 ((r.changes.map chgA).length:Int))),(38, .v (.int .i64 (j:Int)))],⟨[wchA w,resK r,zWch,filA (dirOfW w),chgA c],[]⟩⟩) ?_ ?_
  ·skip
   refine aw_region (m_ (h:=m_ (h:=?_)))
   refine al_gs false rfl rfl (fun hb6=>?_) (fun hb6=>?_)
   ·have hc6:=bp hb6
    refine g0_ (h:=g0_ (h:=g0_ (h:=g0_ (h:=pt_ (h:=a_ (h:=al_nil (?_)))))))
    refine x_then ?_
    exact⟨_,rfl,wc_ 5 0 rfl⟩
   have hc6:=bp hb6
   refine f_ (h:=l_ (h:=l_ (h:=?_)))
   refine g_y (st_binA rfl rfl (by repeat constructor) (by repeat constructor) (fun W=>eqF c.2.2.1 (dirOfW w) W) (by kernel_rfl) ?_)
   refine pf_ (h:=a_ (h:=al_nil (?_)))
   refine x_then ?_
   exact⟨_,rfl,wc_ 5 0 rfl⟩
  rintro S rfl
  refine aw_region (m_ (h:=m_ (h:=?_)))
  refine al_gs false rfl rfl (fun hb7=>?_) (fun hb7=>?_)
  ·have hc7:=bp hb7
   refine g0_ (h:=g0_ (h:=g0_ (h:=g0_ (h:=pt_ (h:=a_ (h:=al_nil (x_blockN (t_ (aw_region (ad_ (h:=m_ (h:=al_nil (?_)))))))))))))
   refine x_then ?_
   refine⟨_,_,?_,⟨j+1,by omega,rfl,rfl⟩,?_⟩
   ·omega
   rw[oldB_succ hy,newB_succ hy]
   exact wc_ 4 0 rfl
  have hc7:=bp hb7
  refine f_ (h:=l_ (h:=l_ (h:=?_)))
  refine g_y (st_binA rfl rfl (by repeat constructor) (by repeat constructor) (fun W=>eqF c.2.2.2 (dirOfW w) W) (by kernel_rfl) ?_)
  refine pf_ (h:=a_ (h:=al_nil (x_blockN (t_ (aw_region (ad_ (h:=m_ (h:=al_nil (?_)))))))))
  refine x_then ?_
  refine⟨_,_,?_,⟨j+1,by omega,rfl,rfl⟩,?_⟩
  ·omega
  rw[oldB_succ hy,newB_succ hy]
  exact wc_ 4 0 rfl
 have hc5:=bp hb5
 have e:=row_no chgA hj hc5
 subst e
 rw[List.take_length]
 refine aw_exit (x_thenE (x_thenE (ABlock_out (t_ (q_ (?_))))))
 refine aw_midI (fun S=>S=⟨look [(2, .bp 0 0),(3, .bp 1 0),(4, .bp 2 0),(61, .v (.bool (oldB w r.changes&& !newB w r.changes)))],⟨[wchA w,resK r,zWch],[]⟩⟩) ?_ ?_
 ·skip
  refine aw_region (m_ (h:=m_ (h:=?_)))
  refine al_gs true rfl rfl (fun hb8=>?_) (fun hb8=>?_)
  ·have hc8:=bp hb8
   refine m_ (h:=nt_ (h:=pt_ (h:=al_nil (?_))))
   refine x_then ?_
   exact⟨_,rfl,wc_ 3 0 rfl⟩
  have hc8:=bp hb8
  refine g0_ (h:=g0_ (h:=pf_ (h:=al_nil (?_))))
  refine x_then ?_
  exact⟨_,rfl,wc_ 3 0 rfl⟩
 rintro S rfl
 refine aw_cond rfl (fun hb9=>?_) (fun hb9=>?_)
 ·have hc9:=bp hb9
  refine w_ (bd_ (h:=s_ (h:=a_ (h:=e_ (aw_ret (x_thenR (?_)))))))
  refine e_ret ?_
  rw[if_pos (by simp[*])]
  rfl
 have hc9:=bp hb9
 refine kt_ (q_ (w_ (f_ (h:=l_ (h:=eq_ (h:=e_ (?_)))))))
 refine aw_cond rfl (fun hb10=>?_) (fun hb10=>?_)
 ·have hc10:=bp hb10
  have k3:w.kind=1:=hc10
  refine w_ (f_ (h:=l_ (h:=n_ (h:=m_ (h:=e_ (aw_block (?_)))))))
  refine aw_loopW (fun m S=>∃j:Nat,j≤r.changes.length∧m=r.changes.length - j∧S=⟨look [(2, .bp 0 0),(3, .bp 1 0),(4, .bp 2 0),(67, .sl 7 (r.changes.map chgA) none),(68, .v (.int .i64 ((r.changes.map chgA).length:Int))),(69, .v (.int .i64 (j:Int)))],⟨[wchA {w with file:=mvL w (r.changes.take j)},resK r,zWch],[]⟩⟩) (r.changes.length) ((wk 3 0)) (⟨0,Nat.zero_le _,rfl,rfl⟩) ?_
  rintro m S ⟨j,hj,rfl,rfl⟩
  refine w_ (lt_ (h:=e_ (q_ (?_))))
  refine aw_cond rfl (fun hb11=>?_) (fun hb11=>?_)
  ·have hc11:=bp hb11
   obtain⟨hlt,c,hy,hrow, -⟩:=row_at chgA hc11
   refine kt_ (q_ (aw_block (w_ (i_ (h:=l_ (h:=al_ (h:=s_ (h:=e_ (?_)))))))))
   refine aw_midI (fun S=>S=⟨look [(2, .bp 0 0),(3, .bp 1 0),(4, .bp 2 0),(12, .bp 3 0),(67, .sl 7 (r.changes.map chgA) none),(68, .v (.int .i64 ((r.changes.map chgA).length:Int))),(69, .v (.int .i64 (j:Int))),(84, .v (.bool (decide (c.1=w.dir)&&decide (c.2.1=w.name))))],⟨[wchA {w with file:=mvL w (r.changes.take j)},resK r,zWch,chgA c],[]⟩⟩) ?_ ?_
   ·skip
    refine aw_region (f_ (h:=l_ (h:=f_ (h:=l_ (h:=?_)))))
    refine al_p rfl (st_binA rfl rfl (by repeat constructor) (by repeat constructor) (fun W=>eqF c.1 w.dir W) (by kernel_rfl) ?_)
    refine m_ (h:=?_)
    refine al_gs true rfl rfl (fun hb12=>?_) (fun hb12=>?_)
    ·have hc12:=bp hb12
     refine f_ (h:=l_ (h:=f_ (h:=l_ (h:=eq_ (h:=pt_ (h:=al_nil (?_)))))))
     refine x_then ?_
     exact⟨_,rfl,wc_ 4 0 rfl⟩
    have hc12:=bp hb12
    refine g0_ (h:=g0_ (h:=g0_ (h:=g0_ (h:=g0_ (h:=pf_ (h:=al_nil (?_)))))))
    refine x_then ?_
    exact⟨_,rfl,wc_ 4 0 rfl⟩
   rintro S rfl
   refine aw_cond rfl (fun hb13=>?_) (fun hb13=>?_)
   ·have hc13:=bp hb13
    refine aw_region (f_ (h:=l_ (h:=f_ (h:=s_ (h:=al_nil (x_blockN (t_ (aw_region (ad_ (h:=m_ (h:=al_nil (?_))))))))))))
    refine x_then ?_
    refine⟨_,_,?_,⟨j+1,by omega,rfl,rfl⟩,?_⟩
    ·omega
    rw[mvL_succ hy]
    first|(rw[if_pos ‹(decide (c.1=w.dir)&&decide (c.2.1=w.name))=true›];exact weak_of 3 0 rfl rfl rfl rfl ((by repeat (first|exact Sub.nil|refine Sub.cons _ _ _ rfl rfl ?_|refine Sub.any _ _ ?_|refine Sub.sl _ _ _ _ _ rfl ?_|refine Sub.slnil _ _ _ rfl ?_))))|(rw[if_neg (by simp[*])];exact weak_of 3 0 rfl rfl rfl rfl ((by repeat (first|exact Sub.nil|refine Sub.cons _ _ _ rfl rfl ?_|refine Sub.any _ _ ?_|refine Sub.sl _ _ _ _ _ rfl ?_|refine Sub.slnil _ _ _ rfl ?_))))
   have hc13:=bp hb13
   refine aw_skip (x_blockN (t_ (aw_region (ad_ (h:=m_ (h:=al_nil (?_)))))))
   refine x_then ?_
   refine⟨_,_,?_,⟨j+1,by omega,rfl,rfl⟩,?_⟩
   ·omega
   rw[mvL_succ hy]
   first|(rw[if_pos ‹(decide (c.1=w.dir)&&decide (c.2.1=w.name))=true›];exact weak_of 3 0 rfl rfl rfl rfl ((by repeat (first|exact Sub.nil|refine Sub.cons _ _ _ rfl rfl ?_|refine Sub.any _ _ ?_|refine Sub.sl _ _ _ _ _ rfl ?_|refine Sub.slnil _ _ _ rfl ?_))))|(rw[if_neg (by simp[*])];exact weak_of 3 0 rfl rfl rfl rfl ((by repeat (first|exact Sub.nil|refine Sub.cons _ _ _ rfl rfl ?_|refine Sub.any _ _ ?_|refine Sub.sl _ _ _ _ _ rfl ?_|refine Sub.slnil _ _ _ rfl ?_))))
  have hc11:=bp hb11
  have e:=row_no chgA hj hc11
  subst e
  rw[List.take_length]
  refine aw_exit (x_thenE (x_thenE (ABlock_out (t_ (w_ (l_ (h:=s_ (h:=a_ (h:=e_ (aw_ret (?_)))))))))))
  refine e_ret ?_
  rw[if_neg (by simp[*]),mvF,if_pos k3]
  rfl
 have hc10:=bp hb10
 have k3:¬w.kind=1:=hc10
 refine kt_ (w_ (l_ (h:=s_ (h:=a_ (h:=e_ (aw_ret (?_)))))))
 refine e_ret ?_
 rw[if_neg (by simp[*]),mvF,if_neg k3]
 rfl
end
section
set_option maxRecDepth 10000
set_option maxHeartbeats 2000000
theorem Gclean(l:List Int)(a:Nat)(ha:a≤100000000000):GenF Tryz.prog 15 l a [] 4 (fun r=>∃s:ByteArray,r= .v (.string s)∧s.size≤60):=by
 refine enter Tryz.func15 rfl rfl rfl rfl rfl 1 rfl ?_
 refine w_ (a_ (h:=e_ (w_ (a_ (h:=e_ (q_ (w_ (m_ (h:=bs_ (h:=?_))))))))))
 refine al_p rfl (s_gen 0 (hc:=Gpick l _ _ (fun z=>decide (1≤z∧z≤3)) (by omega) (by rfl) (by rfl) (by rfl)) (hR:=?_))
 rintro r a1 ha1 ⟨k1,rfl,p1⟩
 refine⟨rfl,_,(by repeat constructor),?_⟩
 obtain⟨hz1,hz2⟩:=of_decide_eq_true p1
 obtain⟨m,rfl⟩:=Int.eq_ofNat_of_zero_le (show 0≤k1 by omega)
 refine a_ (h:=e_ (aw_block (?_)))
 refine aw_loopW (fun n s=>∃(j a1:Nat) (t:ByteArray),j≤m∧n=j∧a1≤a+1+(m - j)∧t.size≤2 * (m - j)∧s=⟨look [(0, .bp 0 0),(3, .v (.string t)),(4, .v (.int .i64 (j:Int)))],⟨[srcA l a1],[]⟩⟩) (m) ((wk 1 0)) (⟨m,a1,⟨#[]⟩,by omega,rfl,by omega,by rw[Nat.sub_self];exact Nat.le_refl 0,rfl⟩) ?_
 rintro n s ⟨j,b1,t,hj,hn,hb1,ht,rfl⟩
 subst n
 refine q_ (w_ (m_ (h:=gt_ (h:=e_ (?_)))))
 refine aw_cond rfl (fun hb1=>?_) (fun hb1=>?_)
 ·have hc1:=bp hb1
  refine kt_ (q_ (aw_block (aw_region (m_ (h:=m_ (h:=bs_ (h:=?_)))))))
  refine al_p rfl (s_gen 0 (hc:=Gword l _ _ (fun s=>decide (s.size≤1)) (by omega) (by rfl) (by rfl) (by rfl)) (hR:=?_))
  rintro r a2 ha2 ⟨k2,rfl,p2⟩
  refine⟨rfl,_,(by repeat constructor),?_⟩
  have hw:=of_decide_eq_true p2
  refine al_p rfl (st_addS rfl rfl (by show 1+k2.size≤_;omega) ?_)
  refine al_p rfl (st_addS rfl rfl (by have e:=ByteArray.size_append (a:=⟨#[47]⟩) (b:=k2);have:(⟨#[47]⟩:ByteArray).size=1:=rfl;omega) ?_)
  refine a_ (h:=al_nil (x_blockN (t_ (aw_region (m_ (h:=sb_ (h:=a_ (h:=al_nil (?_)))))))))
  refine x_then ?_
  obtain⟨j,rfl⟩:∃i,j=i+1:=⟨j - 1,by omega⟩
  refine⟨_,_,?_,⟨j,_,_,by omega,rfl,?_,?_,rfl⟩,weak_of 1 0 rfl rfl rfl rfl (by repeat (first|exact Sub.nil|refine Sub.cons _ _ _ rfl rfl ?_|(apply Sub.of;(focus exact rfl);(focus exact LeA.of_eq (vi (by omega)));(focus exact rfl))))⟩
  ·omega
  ·omega
  have e:=ByteArray.size_append (a:=⟨#[47]⟩) (b:=k2)
  have e2:=ByteArray.size_append (a:=t) (b:=⟨#[47]⟩++k2)
  have:(⟨#[47]⟩:ByteArray).size=1:=rfl
  omega
 have hc1:=bp hb1
 refine aw_exit (x_thenE (x_thenE (ABlock_out (t_ (w_ (m_ (h:=a_ (h:=e_ (aw_ret (?_))))))))))
 refine rt_ none (h5:=(LeA.refl _)) (h6:=⟨_,rfl,rfl,b1,by omega,rfl,t,rfl,by omega⟩)
end
def Bare(s:Spc):Prop:=FlsV s.files∧0<s.files.length∧s.mounts=[]
theorem Bare.v{s:Spc}(h:Bare s):SpcV s:=⟨h.1,h.2.1,fun i m hm=>by rw[h.2.2]at hm;cases hm⟩
theorem Bare.m{s:Spc}(h:Bare s):s.mounts.length≤1000:=by rw[h.2.2];exact Nat.zero_le _
theorem filesW_bare{w:Wrk}{R:ChgRes}(h:Bare w.s.spc)(hR:Okay w.s.spc.files R):Bare (filesW w R).1.s.spc:=by
 unfold filesW
 split
 ·rename_i h0
  obtain⟨k1,k2⟩:=hR h0
  exact⟨k1,by show 0<R.1.length;rw[k2];exact h.2.1,h.2.2⟩
 exact h
theorem tab0_b:TabB tab0:=⟨Nat.zero_le _,(fun p hp=>by cases hp),by decide,by decide⟩
theorem open_tab{t:Tab}(ht:TabB t)(pid:Int)(a:Fil)(fl:Int):TabB (openT t pid a fl).1:=by
 unfold openT
 split
 ·exact tab0_b
 split
 ·exact tab0_b
 rename_i h8
 refine⟨by simpa[putT]using ht.few,fun p hp=>?_,ht.next,ht.nextS⟩
 simp only[putT,List.mem_map]at hp
 obtain⟨x,hx,rfl⟩:=hp
 split
 ·simp[insD]
  omega
 exact ht.opens x hx
theorem tableW_tab{w:Wrk}{R:Tab×Int}(h:TabB w.s.tab)(hR:TabB R.1):TabB (tableW w R).1.s.tab:=by
 unfold tableW
 split
 ·exact hR
 exact h
theorem filesW_tab(w:Wrk)(R:ChgRes):(filesW w R).1.s.tab=w.s.tab:=by
 unfold filesW
 split<;>rfl
theorem tableW_spc(w:Wrk)(R:Tab×Int):(tableW w R).1.s.spc=w.s.spc:=by
 unfold tableW
 split<;>rfl
def Good(s:Syst):Prop:=Bare s.spc∧TabB s.tab
theorem createW_good{w:Wrk}{i:Nat}{n:Nod}(h:Good w.s):Good (createW w i n).1.s:=by
 unfold createW
 split
 ·exact⟨filesW_bare h.1 (make_okay h.1.1 _ _ _),by show TabB (filesW w _).1.s.tab;rw[filesW_tab];exact h.2⟩
 exact h
theorem fdW_good{w:Wrk}(h:Good w.s)(a:Fil):Good (fdW w a).1.s:=by
 unfold fdW
 exact⟨by rw[tableW_spc];exact h.1,tableW_tab h.2 (open_tab h.2 _ _ _)⟩
theorem openW_good{w:Wrk}(h:Good w.s):Good (openW w).1.s:=by
 unfold openW
 repeat' split
 all_goals first|with_reducible exact createW_good h|with_reducible exact fdW_good h _|with_reducible exact fdW_good (createW_good h) _|exact h
theorem movW_good{w:Wrk}{R:ChgRes}{x:Fil}(h:Good w.s)(hR:Okay w.s.spc.files R):Good (movW w R x).1.s:=by
 have hf:Good (filesW w R).1.s:=⟨filesW_bare h.1 hR,by rw[filesW_tab];exact h.2⟩
 unfold movW
 repeat' split
 all_goals first|exact h|exact hf
theorem renameW_good{w:Wrk}(h:Good w.s):Good (renameW w).1.s:=by
 have hf:FlsV w.s.spc.files:=h.1.1
 unfold renameW
 repeat' split
 all_goals first|with_reducible exact movW_good h (rename_okay hf _ _ _ _)|exact h
theorem run6_good{s:Syst}{pid:Int}{c:Cal}(h:Good s)(h6:c.num=6∨c.num=13):Good (runK s pid c).1:=by
 have ha:Good (actW (wrkL s pid c)).1.s:=by
  rcases h6 with h6|h6
  ·rw[actW,if_pos (show(wrkL s pid c).c.num=6 from h6)];exact openW_good h
  have h13:(wrkL s pid c).c.num=13:=h6
  rw[actW,if_neg (show¬(wrkL s pid c).c.num=6 by omega),if_neg (show¬(wrkL s pid c).c.num=8 by omega),if_neg (show¬((wrkL s pid c).c.num=10∨(wrkL s pid c).c.num=12) by omega),if_pos h13];exact renameW_good h
 unfold runK
 repeat' split
 all_goals first|exact h|exact ha
theorem sysN_good:Good (sysN 1).1:=by
 have h:=new_valid (k:=1) (by decide) (by decide)
 have e:(sysN 1).1=⟨⟨(newL 1).1,[]⟩,tabN (0,1)⟩:=by
  unfold sysN
  rw[if_neg (by decide)]
 rw[e]
 exact⟨⟨h.1,h.2,rfl⟩,⟨by decide,by decide,by decide,by decide⟩⟩
def awP(a:UInt8):Str:=⟨#[47,a]⟩
def awC(a:UInt8):Cal:=⟨6,6,420,0,0,[awP a],[]⟩
def awD:Cal:=⟨13,0,0,0,0,[awP 98,awP 97],[]⟩
def awS0:Syst:=(sysN 1).1
def awS1:Syst:=(runK awS0 1 (awC 97)).1
def awS2:Syst:=(runK awS1 1 (awC 98)).1
def awS3:Syst:=(runK awS2 1 awD).1
def awR3:Res:=(runK awS2 1 awD).2
def awW:Wch:=(plcW awS2.spc 1 (awP 97)).1
def awU:Wch:=(folW awS3.spc awW).1
set_option maxRecDepth 100000 in
theorem aw17:(plcW awS2.spc 1 (awP 97)).2=0∧awW.file.2=2∧(folW awS3.spc awW).2=true∧chgW awW awR3.gone awR3.changes=(awU,true)∧awU.file.2=3∧awR3.changes.length≤1000∧awW.name.size≤100∧(sysN 1).2=0:=by decide+kernel
theorem awG1:Good awS1:=run6_good sysN_good (.inl rfl)
theorem awG2:Good awS2:=run6_good awG1 (.inl rfl)
theorem awG3:Good awS3:=run6_good awG2 (.inr rfl)
def wchV(x:Wch):List Value:=[.int .i64 x.kind, .int .i64 x.dir.1, .int .i64 x.dir.2, .string x.name, .int .i64 x.file.1, .int .i64 x.file.2]
set_option maxRecDepth 10000 in
set_option maxHeartbeats 1000000 in
theorem eqWch(op:BinOp)(x:Wch)(w:World)(h:op= .eql∨op= .neq):(binOp op 38 (.agg (wchV x).toArray) (.agg (wchV x).toArray)).run Tryz.prog w= .ok (.bool (decide (op= .eql))) w:=by
 have u3:=Tryz.underlying3
 have a3:=Tryz.isAgg3
 have z3:=Tryz.sizeOf3
 have u9:=Tryz.underlying9
 have a9:=Tryz.isAgg9
 have z9:=Tryz.sizeOf9
 have u5:=Tryz.underlying36
 have a5:=Tryz.isAgg36
 have z5:=Tryz.sizeOf36
 have hS:Tryz.prog.underlying 38=some (.struct (Tryz.prog.fieldsOf 38)):=by kernel_rfl
 have hp:Tryz.prog.stoodInHeld 38=false:=by kernel_rfl
 have hSF:Tryz.prog.underlying 36=some (.struct (Tryz.prog.fieldsOf 36)):=by kernel_rfl
 have hpF:Tryz.prog.stoodInHeld 36=false:=by kernel_rfl
 have eF:∀(d:Nat) (a b:Int) (w:World),(Op.equalIn (d+2) 36 (.agg #[.int .i64 a, .int .i64 b]) (.agg #[.int .i64 a, .int .i64 b])).run Tryz.prog w= .ok true w:=by
  intro d a b w
  rw[run_equalIn_agg w (d+1) 36 _ _ hSF hpF]
  simp only[Program.fieldsOf,Tryz.underlying36]
  go_simp
 have e:∀w,(Op.equalIn 10000 38 (.agg (wchV x).toArray) (.agg (wchV x).toArray)).run Tryz.prog w= .ok true w:=by
  intro w
  rw[show(10000:Nat)=9999+1 from rfl,run_equalIn_agg w 9999 38 _ _ hS hp]
  simp only[Program.fieldsOf,Tryz.underlying38,wchV]
  go_simp
 rcases h with rfl|rfl
 ·rw[run_eql_struct,e]
  rfl
 rw[run_neq_struct,e]
 rfl
theorem allV_wch(x:Wch):AllV (wchA x) (wchV x):=by repeat constructor
theorem st_eqW{ev:Operand→Option AV}{h:AH}{R:AV→AH→Prop}{d:Option Tmp}{ty:TypeId}{pos:String}{af:Array Edge}{gd:Option (Nat×Bool)}{yT:TypeId}{x y:Operand}(z:Wch)(hx:ev x=some (.agg (wchA z)))(hy:ev y=some (.agg (wchA z)))(hR:R (.v (.bool true)) h):AStep Tryz.prog ⟨d, .binOp .eql 38 x y yT,ty,pos,af,gd⟩ ev h R:=
 st_binA hx hy (allV_wch z) (allV_wch z) (fun w=>eqWch .eql z w (.inl rfl)) (by kernel_rfl) hR
theorem st_neW{ev:Operand→Option AV}{h:AH}{R:AV→AH→Prop}{d:Option Tmp}{ty:TypeId}{pos:String}{af:Array Edge}{gd:Option (Nat×Bool)}{yT:TypeId}{x y:Operand}(z:Wch)(hx:ev x=some (.agg (wchA z)))(hy:ev y=some (.agg (wchA z)))(hR:R (.v (.bool false)) h):AStep Tryz.prog ⟨d, .binOp .neq 38 x y yT,ty,pos,af,gd⟩ ev h R:=
 st_binA hx hy (allV_wch z) (allV_wch z) (fun w=>eqWch .neq z w (.inr rfl)) (by kernel_rfl) hR
section
set_option maxRecDepth 10000
set_option maxHeartbeats 2000000
theorem Lawake17:AFn Tryz.prog 11 [] (fun r=>r= .v (.bool true)):=by
 obtain⟨y1,y2,y3,y4,y5,y6,y7,y8⟩:=aw17
 have hnew:AFn Tryz.prog 44 [.v (.int .i64 1)] (fun r=>r= .tup [.agg (sysA awS0), .v (.int .i64 0)]):=(RnewK 1).mono fun r hr=>by rw[hr,sysR,y8];rfl
 have hr1:AFn Tryz.prog 35 [.agg (sysA awS0), .v (.int .i64 1), .agg (calA (awC 97))] (fun r=>r= .tup [.agg (sysA awS1), .agg (resK (runK awS0 1 (awC 97)).2)]):=Rrun6 _ _ _ sysN_good.1.v sysN_good.1.m sysN_good.2 (by decide) (by decide) (.inl rfl)
 have hr2:AFn Tryz.prog 35 [.agg (sysA awS1), .v (.int .i64 1), .agg (calA (awC 98))] (fun r=>r= .tup [.agg (sysA awS2), .agg (resK (runK awS1 1 (awC 98)).2)]):=Rrun6 _ _ _ awG1.1.v awG1.1.m awG1.2 (by decide) (by decide) (.inl rfl)
 have hr3:AFn Tryz.prog 35 [.agg (sysA awS2), .v (.int .i64 1), .agg (calA awD)] (fun r=>r= .tup [.agg (sysA awS3), .agg (resK awR3)]):=Rrun6 _ _ _ awG2.1.v awG2.1.m awG2.2 (by decide) (by decide) (.inr rfl)
 have hpl:AFn Tryz.prog 17 [.agg (spcA awS2.spc), .v (.int .i64 1), .v (.string (awP 97))] (fun r=>r= .tup [.agg (wchA awW), .v (.int .i64 0)]):=(Pplace17 _ _ _ awG2.1.v awG2.1.m (by decide)).mono fun r hr=>by rw[hr,plcR,y1];rfl
 have hfo:AFn Tryz.prog 24 [.agg (spcA awS3.spc), .agg (wchA awW)] (fun r=>r= .tup [.agg (wchA awU), .v (.bool true)]):=(Pfol17 _ _ (awG3.1.v.b awG3.1.m)).mono fun r hr=>by rw[hr,folR,y3];rfl
 have hch:AFn Tryz.prog 33 [.agg (wchA awW), .agg (resK awR3)] (fun r=>r= .tup [.agg (wchA awU), .v (.bool true)]):=(Pchg17 _ _ y6).mono fun r hr=>by rw[hr,y4];rfl
 obtain⟨W,hW⟩:∃W,W=awW:=⟨_,rfl⟩
 obtain⟨U,hU⟩:∃U,U=awU:=⟨_,rfl⟩
 obtain⟨S0,hS0⟩:∃S,S=awS0:=⟨_,rfl⟩
 obtain⟨S1,hS1⟩:∃S,S=awS1:=⟨_,rfl⟩
 obtain⟨S2,hS2⟩:∃S,S=awS2:=⟨_,rfl⟩
 obtain⟨S3,hS3⟩:∃S,S=awS3:=⟨_,rfl⟩
 obtain⟨R1,hR1⟩:∃R,R=(runK awS0 1 (awC 97)).2:=⟨_,rfl⟩
 obtain⟨R2,hR2⟩:∃R,R=(runK awS1 1 (awC 98)).2:=⟨_,rfl⟩
 obtain⟨R3,hR3⟩:∃R,R=awR3:=⟨_,rfl⟩
 rw[←hS0]at hnew
 rw[←hR1,←hS1,←hS0]at hr1
 rw[←hR2,←hS2,←hS1]at hr2
 rw[←hR3,←hS3,←hS2]at hr3
 rw[←hW,←hS2]at hpl
 rw[←hU,←hW,←hS3]at hfo
 rw[←hU,←hW,←hR3]at hch
 rw[←hW]at y2
 rw[←hU]at y5
 clear hW hU hS0 hS1 hS2 hS3 hR1 hR2 hR3 y1 y3 y4 y6 y7 y8
 refine enter Tryz.func11 rfl rfl rfl rfl rfl 0 rfl ?_
 refine w_ (a_ (h:=e_ (w_ (?_))))
 refine al_p rfl (q_call (hnew) ?_)
 rintro r rfl
 refine m_ (h:=x_ (h:=x_ (h:=al_ (h:=s_ (h:=a_ (h:=e_ (w_ (l_ (h:=bd_ (h:=bs_ (h:=?_)))))))))))
 refine al_p rfl (lf_ (y:= .agg (calA (awC 97))) (bz_ ⟨rfl,rfl⟩) ?_)
 refine al_p rfl (q_call (hr1) ?_)
 rintro r rfl
 refine m_ (h:=x_ (h:=x_ (h:=s_ (h:=e_ (w_ (l_ (h:=bd_ (h:=bs_ (h:=?_)))))))))
 refine al_p rfl (lf_ (y:= .agg (calA (awC 98))) (bz_ ⟨rfl,rfl⟩) ?_)
 refine al_p rfl (q_call (hr2) ?_)
 rintro r rfl
 refine m_ (h:=x_ (h:=x_ (h:=s_ (h:=e_ (w_ (f_ (h:=l_ (h:=?_))))))))
 refine al_p rfl (q_call (hpl) ?_)
 rintro r rfl
 refine m_ (h:=x_ (h:=x_ (h:=al_ (h:=s_ (h:=a_ (h:=e_ (w_ (l_ (h:=bs_ (h:=?_))))))))))
 refine al_p rfl (lf_ (y:= .agg (calA awD)) (bz_ ⟨rfl,rfl⟩) ?_)
 refine al_p rfl (q_call (hr3) ?_)
 rintro r rfl
 refine m_ (h:=x_ (h:=x_ (h:=al_ (h:=al_ (h:=s_ (h:=s_ (h:=e_ (w_ (f_ (h:=l_ (h:=l_ (h:=?_))))))))))))
 refine al_p rfl (q_call (hfo) ?_)
 rintro r rfl
 refine m_ (h:=x_ (h:=x_ (h:=al_ (h:=s_ (h:=a_ (h:=e_ (w_ (l_ (h:=l_ (h:=?_))))))))))
 refine al_p rfl (q_call (hch) ?_)
 rintro r rfl
 refine m_ (h:=x_ (h:=x_ (h:=al_ (h:=s_ (h:=a_ (h:=e_ (w_ (m_ (h:=eq_ (h:=m_ (h:=?_)))))))))))
 refine al_gs true rfl rfl (fun hb1=>?_) (fun hb1=>?_)
 ·have hc1:=bp hb1
  refine f_ (h:=f_ (h:=l_ (h:=eq_ (h:=pt_ (h:=m_ (h:=?_))))))
  refine al_gs true rfl rfl (fun hb2=>?_) (fun hb2=>?_)
  ·have hc2:=bp hb2
   refine m_ (h:=pt_ (h:=m_ (h:=?_)))
   refine al_gs true rfl rfl (fun hb3=>?_) (fun hb3=>?_)
   ·have hc3:=bp hb3
    refine m_ (h:=pt_ (h:=m_ (h:=?_)))
    refine al_gs true rfl rfl (fun hb4=>?_) (fun hb4=>?_)
    ·have hc4:=bp hb4
     refine l_ (h:=l_ (h:=?_))
     refine g_y (st_eqW U rfl rfl ?_)
     refine pt_ (h:=m_ (h:=?_))
     refine al_gs true rfl rfl (fun hb5=>?_) (fun hb5=>?_)
     ·have hc5:=bp hb5
      refine f_ (h:=f_ (h:=l_ (h:=eq_ (h:=pt_ (h:=a_ (h:=e_ (aw_ret (?_))))))))
      refine e_ret ?_
      first|rfl|(exfalso;first|contradiction|omega)|exact vb (by simp[y5])
     have hc5:=bp hb5
     refine g0_ (h:=g0_ (h:=g0_ (h:=g0_ (h:=pf_ (h:=a_ (h:=e_ (aw_ret (?_))))))))
     refine e_ret ?_
     first|rfl|(exfalso;first|contradiction|omega)|exact vb (by simp[y5])
    have hc4:=bp hb4
    refine g0_ (h:=g0_ (h:=g0_ (h:=pf_ (h:=m_ (h:=g0_ (h:=g0_ (h:=g0_ (h:=g0_ (h:=pf_ (h:=a_ (h:=e_ (aw_ret (?_)))))))))))))
    refine e_ret ?_
    first|rfl|(exfalso;first|contradiction|omega)|exact vb (by simp[y5])
   have hc3:=bp hb3
   refine g0_ (h:=pf_ (h:=m_ (h:=g0_ (h:=g0_ (h:=g0_ (h:=pf_ (h:=m_ (h:=g0_ (h:=g0_ (h:=g0_ (h:=g0_ (h:=pf_ (h:=a_ (h:=e_ (aw_ret (?_))))))))))))))))
   refine e_ret ?_
   first|rfl|(exfalso;first|contradiction|omega)|exact vb (by simp[y5])
  have hc2:=bp hb2
  refine g0_ (h:=pf_ (h:=m_ (h:=g0_ (h:=pf_ (h:=m_ (h:=g0_ (h:=g0_ (h:=g0_ (h:=pf_ (h:=m_ (h:=g0_ (h:=g0_ (h:=g0_ (h:=g0_ (h:=pf_ (h:=a_ (h:=e_ (aw_ret (?_)))))))))))))))))))
  refine e_ret ?_
  first|rfl|(exfalso;first|contradiction|omega)|exact vb (by simp[y5])
 have hc1:=bp hb1
 refine g0_ (h:=g0_ (h:=g0_ (h:=g0_ (h:=pf_ (h:=m_ (h:=g0_ (h:=pf_ (h:=m_ (h:=g0_ (h:=pf_ (h:=m_ (h:=g0_ (h:=g0_ (h:=g0_ (h:=pf_ (h:=m_ (h:=g0_ (h:=g0_ (h:=g0_ (h:=g0_ (h:=pf_ (h:=a_ (h:=e_ (?_))))))))))))))))))))))))
 refine aw_ret (?_)
 refine e_ret ?_
 first|rfl|(exfalso;first|contradiction|omega)|exact vb (by simp[y5])
end
section
set_option maxRecDepth 10000
set_option maxHeartbeats 2000000
theorem Lplaces(l:List Int)(kind:Int)(p:Str):AFn Tryz.prog 3 [.sl 1 (l.map intA) none, .v (.int .i64 kind), .v (.string p)] (fun r=>r= .v (.bool true)):=by
 refine enter Tryz.func3 rfl rfl rfl rfl rfl 0 rfl ?_
 refine w_ (a_ (h:=e_ (q_ (w_ (m_ (h:=n_ (h:=gt_ (h:=e_ (?_)))))))))
 refine aw_cond rfl (fun hb1=>?_) (fun hb1=>?_)
 ·have hc1:=bp hb1
  refine w_ (?_)
  refine al_p rfl (q_call (Lawake17) ?_)
  rintro r rfl
  refine a_ (h:=e_ (aw_ret (x_thenR (?_))))
  refine e_ret ?_
  first|rfl|(exfalso;first|contradiction|omega|(simp_all;done))
 have hc1:=bp hb1
 refine kt_ (w_ (m_ (h:=?_)))
 refine al_p rfl (s_callN rfl (by repeat (first|exact Args.nil|refine Args.cons _ _ _ _ _ rfl (argOk_clean rfl) ?_|refine Args.cons _ _ _ _ _ rfl (argOk_nil _) ?_|refine Args.cons _ _ _ _ _ rfl (argOk_era _) ?_|refine Args.cons _ _ _ _ _ rfl (argOk_le rfl (by repeat (first|exact LeA.refl _|exact LeA.nil _|exact LeL.refl _|refine LeA.agg ?_|refine LeA.tup ?_|exact LeL.nil|refine LeL.cons ?_ ?_|exact LeA.any _))) ?_)) rfl (Gnew l) (by repeat constructor) ?_)
 skip
 refine a_ (h:=e_ (w_ (m_ (h:=?_))))
 refine al_p rfl (s_gen 0 (hc:=Gspace l _ (by omega)) (hR:=?_))
 rintro r a1 ha1 ⟨s,rfl,hv,hm⟩
 refine⟨rfl,_,(by repeat constructor),?_⟩
 have hmm:s.mounts.length≤1000:=by omega
 have hsb:=hv.b hmm
 refine al_ (h:=s_ (h:=e_ (q_ (w_ (a_ (h:=e_ (aw_block (?_))))))))
 refine aw_loopW (fun n S=>∃(j b:Nat),j≤6∧n=6 - j∧b≤a1+j * 50∧S=⟨look [(1, .v (.int .i64 kind)),(2, .v (.string p)),(7, .bp 0 0),(8, .bp 1 0),(9, .v (.int .i64 (j:Int)))],⟨[srcA l b,spcA s],[]⟩⟩) (6) ((wk 2 0)) (⟨0,a1,by omega,rfl,by omega,rfl⟩) ?_
 rintro n S ⟨j,b0,hj,rfl,hb0,rfl⟩
 refine q_ (w_ (m_ (h:=lt_ (h:=e_ (?_)))))
 refine aw_cond rfl (fun hb2=>?_) (fun hb2=>?_)
 ·have hc2:=bp hb2
  refine kt_ (q_ (aw_block (w_ (m_ (h:=?_)))))
  refine al_p rfl (s_gen 0 (hc:=Grange l _ (0) (3) (by omega) (by omega) (by omega) (by omega)) (hR:=?_))
  rintro r a2 ha2 ⟨k2,rfl,p2,q2⟩
  refine⟨rfl,_,(by repeat constructor),?_⟩
  refine m_ (h:=?_)
  refine al_p rfl (s_gen 0 (hc:=Gclean l _ (by omega)) (hR:=?_))
  rintro r a3 ha3 ⟨q0,rfl,hq0⟩
  refine⟨rfl,_,(by repeat constructor),?_⟩
  refine a_ (h:=a_ (h:=e_ (?_)))
  refine aw_midI (fun S=>∃(k:Int) (q:Str) (b:Nat),q.size≤200∧b≤a1+j * 50+10∧S=⟨look [(1, .v (.int .i64 kind)),(2, .v (.string p)),(7, .bp 0 0),(8, .bp 1 0),(9, .v (.int .i64 (j:Int))),(10, .v (.int .i64 k)),(11, .v (.string q))],⟨[srcA l b,spcA s],[]⟩⟩) ?_ ?_
  ·skip
   refine w_ (m_ (h:=eq_ (h:=e_ (?_))))
   refine aw_cond rfl (fun hb3=>?_) (fun hb3=>?_)
   ·have hc3:=bp hb3
    refine aw_region (m_ (h:=m_ (h:=a_ (h:=a_ (h:=al_nil (?_))))))
    refine x_then ?_
    first|(have h4:(j:Int)=4:=‹(j:Int)=4›;exact⟨_,⟨kind,p,_,(by omega),(by omega),rfl⟩,weak_of 2 0 rfl rfl rfl rfl ((by repeat (first|exact Sub.nil|refine Sub.cons _ _ _ rfl rfl ?_|refine Sub.any _ _ ?_|refine Sub.sl _ _ _ _ _ rfl ?_|refine Sub.slnil _ _ _ rfl ?_)))⟩)|exact⟨_,⟨_,q0,_,(by omega),(by omega),rfl⟩,weak_of 2 0 rfl rfl rfl rfl ((by repeat (first|exact Sub.nil|refine Sub.cons _ _ _ rfl rfl ?_|refine Sub.any _ _ ?_|refine Sub.sl _ _ _ _ _ rfl ?_|refine Sub.slnil _ _ _ rfl ?_)))⟩
   have hc3:=bp hb3
   refine aw_skip (?_)
   refine x_then ?_
   first|(have h4:(j:Int)=4:=‹(j:Int)=4›;exact⟨_,⟨kind,p,_,(by omega),(by omega),rfl⟩,weak_of 2 0 rfl rfl rfl rfl ((by repeat (first|exact Sub.nil|refine Sub.cons _ _ _ rfl rfl ?_|refine Sub.any _ _ ?_|refine Sub.sl _ _ _ _ _ rfl ?_|refine Sub.slnil _ _ _ rfl ?_)))⟩)|exact⟨_,⟨_,q0,_,(by omega),(by omega),rfl⟩,weak_of 2 0 rfl rfl rfl rfl ((by repeat (first|exact Sub.nil|refine Sub.cons _ _ _ rfl rfl ?_|refine Sub.any _ _ ?_|refine Sub.sl _ _ _ _ _ rfl ?_|refine Sub.slnil _ _ _ rfl ?_)))⟩
  rintro S ⟨k,q,b9,hq,hb9,rfl⟩
  refine aw_midI (fun S=>∃(q:Str) (b:Nat),q.size≤200∧b≤a1+j * 50+40∧S=⟨look [(1, .v (.int .i64 kind)),(2, .v (.string p)),(7, .bp 0 0),(8, .bp 1 0),(9, .v (.int .i64 (j:Int))),(10, .v (.int .i64 k)),(11, .v (.string q))],⟨[srcA l b,spcA s],[]⟩⟩) ?_ ?_
  ·skip
   refine w_ (m_ (h:=eq_ (h:=e_ (?_))))
   refine aw_cond rfl (fun hb4=>?_) (fun hb4=>?_)
   ·have hc4:=bp hb4
    refine aw_region (m_ (h:=?_))
    refine al_p rfl (s_gen 0 (hc:=Gpath l _ (by omega)) (hR:=?_))
    rintro r a4 ha4 ⟨pth,rfl,hpth⟩
    refine⟨rfl,_,(by repeat constructor),?_⟩
    refine a_ (h:=al_nil (?_))
    refine x_then ?_
    first|(have h5:(j:Int)=5:=‹(j:Int)=5›;exact⟨_,⟨pth,_,(by omega),(by omega),rfl⟩,weak_of 2 0 rfl rfl rfl rfl ((by repeat (first|exact Sub.nil|refine Sub.cons _ _ _ rfl rfl ?_|refine Sub.any _ _ ?_|refine Sub.sl _ _ _ _ _ rfl ?_|refine Sub.slnil _ _ _ rfl ?_)))⟩)|exact⟨_,⟨q,_,hq,(by omega),rfl⟩,weak_of 2 0 rfl rfl rfl rfl ((by repeat (first|exact Sub.nil|refine Sub.cons _ _ _ rfl rfl ?_|refine Sub.any _ _ ?_|refine Sub.sl _ _ _ _ _ rfl ?_|refine Sub.slnil _ _ _ rfl ?_)))⟩
   have hc4:=bp hb4
   refine aw_skip (?_)
   refine x_then ?_
   first|(have h5:(j:Int)=5:=‹(j:Int)=5›;exact⟨_,⟨pth,_,(by omega),(by omega),rfl⟩,weak_of 2 0 rfl rfl rfl rfl ((by repeat (first|exact Sub.nil|refine Sub.cons _ _ _ rfl rfl ?_|refine Sub.any _ _ ?_|refine Sub.sl _ _ _ _ _ rfl ?_|refine Sub.slnil _ _ _ rfl ?_)))⟩)|exact⟨_,⟨q,_,hq,(by omega),rfl⟩,weak_of 2 0 rfl rfl rfl rfl ((by repeat (first|exact Sub.nil|refine Sub.cons _ _ _ rfl rfl ?_|refine Sub.any _ _ ?_|refine Sub.sl _ _ _ _ _ rfl ?_|refine Sub.slnil _ _ _ rfl ?_)))⟩
  rintro S ⟨q,b,hq,hb,rfl⟩
  refine w_ (l_ (h:=m_ (h:=m_ (h:=?_))))
  refine al_p rfl (q_call (Pplace17 s k q hv hmm (by omega)) ?_)
  rintro r rfl
  refine m_ (h:=x_ (h:=x_ (h:=al_ (h:=s_ (h:=a_ (h:=e_ (w_ (l_ (h:=m_ (h:=m_ (h:=?_)))))))))))
  refine al_p rfl (q_call (Rplace17 s k q hv hmm (by omega)) ?_)
  rintro r rfl
  refine m_ (h:=x_ (h:=x_ (h:=al_ (h:=s_ (h:=a_ (h:=e_ (w_ (m_ (h:=m_ (h:=nq_ (h:=m_ (h:=?_))))))))))))
  refine al_gs false rfl rfl (fun hb5=>?_) (fun hb5=>?_)
  ·have hc5:=bp hb5
   refine g0_ (h:=g0_ (h:=g0_ (h:=pt_ (h:=m_ (h:=g0_ (h:=g0_ (h:=g0_ (h:=gu_ (h:=gu_ (h:=gu_ (h:=gu_ (h:=g0_ (h:=pt_ (h:=e_ (cy_ (h:=w_ (a_ (h:=e_ (aw_ret (x_blockR (x_thenR (x_thenR (x_blockR (?_))))))))))))))))))))))))
   refine x_thenR (?_)
   refine e_ret ?_
   first|rfl|(exfalso;first|contradiction|omega|(simp_all;done))
  have hc5:=bp hb5
  refine l_ (h:=l_ (h:=?_))
  refine g_y (st_neW (plcW s k q).1 rfl rfl ?_)
  refine pf_ (h:=m_ (h:=?_))
  refine al_gs false rfl rfl (fun hb6=>?_) (fun hb6=>?_)
  ·have hc6:=bp hb6
   refine g0_ (h:=g0_ (h:=g0_ (h:=gu_ (h:=gu_ (h:=gu_ (h:=gu_ (h:=g0_ (h:=pt_ (h:=e_ (cy_ (h:=w_ (a_ (h:=e_ (aw_ret (x_blockR (x_thenR (x_thenR (x_blockR (x_thenR (?_))))))))))))))))))))
   refine e_ret ?_
   first|rfl|(exfalso;first|contradiction|omega|(simp_all;done))
  have hc6:=bp hb6
  refine m_ (h:=eq_ (h:=m_ (h:=?_)))
  refine al_gs true rfl rfl (fun hb7=>?_) (fun hb7=>?_)
  ·have hc7:=bp hb7
   refine l_ (h:=l_ (h:=?_))
   refine g_y (q_call (Pcur17 s (plcW s k q).1 hsb) ?_)
   rintro r rfl
   rw[place_cur hv (of_decide_eq_true (by assumption))]
   refine nt_ (h:=pt_ (h:=pf_ (h:=e_ (?_))))
   refine aw_cond rfl (fun hb8=>?_) (fun hb8=>?_)
   ·have hc8:=bp hb8
    refine w_ (a_ (h:=e_ (aw_ret (x_blockR (x_thenR (x_thenR (x_blockR (x_thenR (?_)))))))))
    refine e_ret ?_
    first|rfl|(exfalso;first|contradiction|omega|(simp_all;done))
   have hc8:=bp hb8
   refine aw_skip (x_blockN (t_ (aw_region (m_ (h:=ad_ (h:=a_ (h:=al_nil (?_))))))))
   refine x_then ?_
   refine⟨_,_,?_,⟨j+1,_,by omega,rfl,?_,rfl⟩,weak_of 2 0 rfl rfl rfl rfl ((by repeat (first|exact Sub.nil|refine Sub.cons _ _ _ rfl rfl ?_|refine Sub.any _ _ ?_|refine Sub.sl _ _ _ _ _ rfl ?_|refine Sub.slnil _ _ _ rfl ?_)))⟩<;>omega
  have hc7:=bp hb7
  refine g0_ (h:=g0_ (h:=g0_ (h:=g0_ (h:=pf_ (h:=pf_ (h:=e_ (cn_ (h:=aw_skip (x_blockN (t_ (aw_region (m_ (h:=ad_ (h:=a_ (h:=al_nil (?_))))))))))))))))
  refine x_then ?_
  refine⟨_,_,?_,⟨j+1,_,by omega,rfl,?_,rfl⟩,weak_of 2 0 rfl rfl rfl rfl ((by repeat (first|exact Sub.nil|refine Sub.cons _ _ _ rfl rfl ?_|refine Sub.any _ _ ?_|refine Sub.sl _ _ _ _ _ rfl ?_|refine Sub.slnil _ _ _ rfl ?_)))⟩<;>omega
 have hc2:=bp hb2
 refine aw_exit (x_thenE (x_thenE (ABlock_out (t_ (w_ (?_))))))
 refine al_p rfl (q_call (Lawake17) ?_)
 rintro r rfl
 refine a_ (h:=e_ (aw_ret (?_)))
 refine e_ret ?_
 first|rfl|(exfalso;first|contradiction|omega|(simp_all;done))
end
theorem WatchPlaces_walk{H:Type}{enc:TypeId×Value→H}{sp:Nat→Bool}{held:Bool}{base:Nat}(a:Option Addr)(n c:Nat)(k:Int)(s:ByteArray)(w:World){d:DataW H}{p:List MemPlace}(h:DataW.Trod enc Tryz.prog w base sp held 22 (.slice a n c) d p)(_: -9223372036854775808≤k)(_:k≤9223372036854775807)(_:s.size≤maxLen):
    Calls Tryz.prog 3 #[.slice a n c, .int .i64 k, .string s] w fun e w'=>e= .returned (.bool true)∧Below w.heap.size w w':=walk_intsv [.int .i64 k, .string s] (fun l=>Lplaces l k s) a n c w h
end Go.Proofs.YtbglbmnhgbgelaaGreatDoor
