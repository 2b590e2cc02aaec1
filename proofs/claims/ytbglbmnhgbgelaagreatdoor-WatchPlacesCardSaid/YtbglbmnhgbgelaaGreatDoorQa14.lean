/-
  Part 14 of the proof of WatchPlacesP: what the statement's proof uses of the texts in wip/tpl.
-/
import Derived.Test.YtbglbmnhgbgelaaGreatDoorQa13
namespace Go.Proofs.YtbglbmnhgbgelaaGreatDoor
open Go.RowKit
theorem root_is{s:Spc}(hv:SpcV s):dirL s.files (rootD s)=true:=(where_ok ((vis_iff hv _).1 (vis_down hv (wvis_root hv (root_dir hv (Int.le_refl 0) (by have:=hv.pos;omega))))).1.1).1
theorem name_short{s:Spc}(fl:Bool){p:Str}{ps:List Str}{w w':Wk}(hn:w.name.size≤12)(h:stp s fl p ps w= .inr w'):w'.name.size≤12:=by
 unfold stp at h
 split at h
 ·cases h
 split at h
 ·cases h
 rename_i h2
 split at h
 ·injection h with h;subst h;exact Nat.zero_le _
 split at h
 ·injection h with h;subst h;exact Nat.zero_le _
 split at h
 ·cases h
 split at h
 ·split at h
  ·cases h
  injection h with h;subst h;exact Nat.le_of_not_lt h2
 split at h
 ·split at h
  ·cases h
  injection h with h;subst h
  show ByteArray.size (if _ then _ else _)≤12
  split
  ·exact Nat.zero_le _
  exact hn
 injection h with h;subst h;exact Nat.le_of_not_lt h2
theorem rest_few{s:Spc}(hv:FlsV s.files)(fl:Bool){p:Str}{ps:List Str}{w w':Wk}(hl:w.links≤8)(h:stp s fl p ps w= .inr w'):w'.links≤8∧(8 - w'.links) * 200+w'.ps.length<(8 - w.links) * 200+(ps.length+1):=by
 unfold stp at h
 split at h
 ·cases h
 split at h
 ·cases h
 split at h
 ·injection h with h;subst h;exact⟨hl,by simp only;omega⟩
 split at h
 ·injection h with h;subst h;exact⟨hl,by simp only;omega⟩
 split at h
 ·cases h
 split at h
 ·split at h
  ·cases h
  injection h with h;subst h;exact⟨hl,by simp only;omega⟩
 split at h
 ·split at h
  ·cases h
  rename_i h9
  injection h with h;subst h
  have ht:=nodG_target hv (lookL s.files w.at_ p).1
  have hs:=splS_len (nodG s.files (lookL s.files w.at_ p).1).target
  refine⟨by simp only;omega,?_⟩
  simp only[List.length_append]
  have:(8 - w.links) * 200=(8 - (w.links+1)) * 200+200:=by
   rw[show 8 - w.links=(8 - (w.links+1))+1 by omega,Nat.add_mul]
  omega
 injection h with h;subst h;exact⟨hl,by simp only;omega⟩
theorem find_long{s:Spc}{start:Fil}{p:Str}{fl:Bool}(h1:¬p=⟨#[]⟩)(h2:128<p.size):findL s start p fl=(fnd0,36):=by unfold findL;rw[if_neg h1,if_pos h2]
section
variable {s:Spc}{start a:Fil}{p:Str}{fl:Bool}(h1:¬p=⟨#[]⟩)(h2:¬128<p.size)(ha:(if hdL p=true then rootD s else start)=a)
include h1 h2 ha
theorem find_nodir(hd:dirL s.files a=false):findL s start p fl=(fnd0,2):=by
 unfold findL
 rw[if_neg h1,if_neg h2,ha,if_pos hd]
variable (hd:dirL s.files a=true)
include hd
theorem find_err{e:Int}{τ:Lk}(h:lkT s (fl||lsL p) (lk0 (splS p) a)=(e,τ))(he:e≠0):findL s start p fl=(fnd0,e):=by
 unfold findL
 rw[if_neg h1,if_neg h2,ha,if_neg (by simp[hd]),h,if_pos he]
theorem find_slash{τ:Lk}(h:lkT s (fl||lsL p) (lk0 (splS p) a)=(0,τ))(hs:lsL p=true∧τ.ex=true∧dirL s.files τ.file=false):findL s start p fl=(fnd0,20):=by
 unfold findL
 rw[if_neg h1,if_neg h2,ha,if_neg (by simp[hd]),h,if_neg (by simp),if_pos hs]
theorem find_ok{τ:Lk}(h:lkT s (fl||lsL p) (lk0 (splS p) a)=(0,τ))(hs:¬(lsL p=true∧τ.ex=true∧dirL s.files τ.file=false)):findL s start p fl=(fndOf s (lsL p) τ,0):=by
 unfold findL
 rw[if_neg h1,if_neg h2,ha,if_neg (by simp[hd]),h,if_neg (by simp),if_neg hs]
end
theorem sim0(ps:List Str)(a d:Fil)(hd:ps=[]→True):Sim ⟨ps,a,d,⟨#[]⟩,false,0⟩ (lk0 ps a):=by
 have _:=hd
 exact⟨rfl,rfl,rfl,fun _=>rfl,fun h=>(by cases h),fun _ _=>⟨fun _=>⟨rfl,rfl⟩,fun h=>absurd rfl h⟩⟩
def Run(s:Spc)(F:Bool)(σ0:Lk)(w:Wk):Prop:=w.links≤8∧w.name.size≤12∧∃σ,Sim w σ∧lkT s F σ=lkT s F σ0
theorem run_step{s:Spc}(hv:SpcV s){F:Bool}{σ0:Lk}{w:Wk}{p:Str}{ps:List Str}(hps:w.ps=p::ps)(h:Run s F σ0 w):(∀e,stp s F p ps w= .inl e→lkT s F σ0=(e,lkZ))∧∀w',stp s F p ps w= .inr w'→Run s F σ0 w':=by
 obtain⟨h8,hn,σ,hS,hT⟩:=h
 have hm:w.missing=false:=by
  cases hm:w.missing with
  |false=>rfl
  |true=>have:=(hS.gone hm).2.1;rw[hps]at this;cases this
 have h8σ:σ.links≤8:=by rw[←hS.links];exact h8
 have hc:=lkT_cons hv.files (fl:=F) h8σ (hS.ps.symm.trans hps)
 rcases sim_step hv F (p:=p) (ps:=ps) hS hm with⟨e,q1,q2⟩|⟨w1,τ,q1,q2,q3⟩
 ·refine⟨fun e' he=>?_,fun w' hw=>by rw[q1]at hw;cases hw⟩
  rw[q1]at he
  injection he with he
  subst he
  rw[←hT,hc,q2]
 refine⟨fun e' he=>by(rw[q1]at he;cases he),fun w' hw=>?_⟩
 have k1:=rest_few hv.files F h8 hw
 have k2:=name_short F hn hw
 rw[q1]at hw
 injection hw with hw
 subst hw
 refine⟨k1.1,k2,τ,q3,?_⟩
 rw[←hT,hc,q2]
theorem run_end{s:Spc}(hv:SpcV s){F:Bool}{σ0:Lk}{w:Wk}(hps:w.ps=[])(h:Run s F σ0 w):∃σ,lkT s F σ0=(0,σ)∧σ.ex= !w.missing∧(w.missing=false→σ.file=w.at_)∧∀sl,fndW s sl w=fndOf s sl σ:=by
 obtain⟨h8,hn,σ,hS,hT⟩:=h
 exact⟨σ,by rw[←hT];exact lkT_nil (hS.ps.symm.trans hps),hS.ex,fun hm=>(hS.here hm).symm,fun sl=>sim_end hv hS hps⟩
section
set_option maxRecDepth 10000
set_option maxHeartbeats 1000000
theorem Pfind7(s:Spc)(start:Fil)(p:Str)(fl:Bool)(hs:SpcN s)(hv:SpcV s)(hp:p.size≤1000000):AFn Tryz.prog 52 [.agg (spcA s), .agg (filA start), .v (.string p), .v (.bool fl)] (fun r=>r= .tup [.agg (fndA (findL s start p fl).1), .v (.int .i64 (findL s start p fl).2)]):=by
 have hw:=where_size hv
 have hri:=root_is hv
 refine enter Tryz.func52 rfl rfl rfl rfl rfl 0 rfl ?_
 refine w_ (b_ (h:=b_ (h:=al_ (h:=a_ (h:=e_ (q_ (aw_block (w_ (m_ (h:=eq_ (h:=a_ (h:=e_ (?_)))))))))))))
 refine aw_cond rfl (fun hb1=>?_) (fun hb1=>?_)
 ·have hc1:=bp hb1
  refine w_ (bd_ (h:=s_ (h:=a_ (h:=e_ (aw_ret (x_blockR (x_thenR (?_))))))))
  refine e_ret ?_
  rw[show findL s start p fl=(fnd0,2) from if_pos hc1]
  rfl
 have hc1:=bp hb1
 refine w_ (m_ (h:=n_ (h:=gt_ (h:=a_ (h:=e_ (?_))))))
 refine aw_cond rfl (fun hb2=>?_) (fun hb2=>?_)
 ·have hc2:=bp hb2
  refine w_ (bd_ (h:=s_ (h:=a_ (h:=e_ (aw_ret (x_blockR (x_thenR (?_))))))))
  refine e_ret ?_
  rw[find_long hc1 (by omega)]
  rfl
 have hc2:=bp hb2
 refine aw_skip (x_blockN (t_ (w_ (m_ (h:=?_)))))
 refine al_p rfl (q_call (Psplit p (by omega)) ?_)
 rintro r rfl
 refine m_ (h:=x_ (h:=x_ (h:=x_ (h:=a_ (h:=a_ (h:=a_ (h:=e_ (?_))))))))
 refine aw_midI (fun t=>t=⟨look [(2, .v (.string p)),(4, .bp 0 0),(5, .bp 1 0),(8, .bp 2 0),(11, .v (.bool (hdL p))),(12, .v (.bool (lsL p))),(13, .bp 3 0)],⟨[spcA s,filA start,fndA fnd0,wkA s (fl||lsL p) ⟨splS p,start,(0,0),⟨#[]⟩,false,0⟩],[]⟩⟩) ?_ ?_
 ·skip
  refine aw_region (l_ (h:=m_ (h:=l_ (h:=m_ (h:=m_ (h:=?_))))))
  refine al_gs false rfl rfl (fun hb3=>?_) (fun hb3=>?_)
  ·have hc3:=bp hb3
   refine g0_ (h:=pt_ (h:=bd_ (h:=al_ (h:=s_ (h:=al_nil (?_))))))
   refine x_then ?_
   first|(rw[hb3];exact⟨_,rfl,(wk 4 0)⟩)|exact⟨_,rfl,(wk 4 0)⟩
  have hc3:=bp hb3
  refine m_ (h:=pf_ (h:=bd_ (h:=al_ (h:=s_ (h:=al_nil (?_))))))
  refine x_then ?_
  first|(rw[hb3];exact⟨_,rfl,(wk 4 0)⟩)|exact⟨_,rfl,(wk 4 0)⟩
 rintro t rfl
 refine aw_midI (fun t=>∃a,(if hdL p=true then rootD s else start)=a∧dirL s.files a=true∧t=⟨look [(4, .bp 0 0),(8, .bp 2 0),(12, .v (.bool (lsL p))),(13, .bp 3 0)],⟨[spcA s,filA start,fndA fnd0,wkA s (fl||lsL p) ⟨splS p,a,(0,0),⟨#[]⟩,false,0⟩],[]⟩⟩) ?_ ?_
 ·skip
  refine w_ (m_ (h:=e_ (?_)))
  refine aw_cond rfl (fun hb4=>?_) (fun hb4=>?_)
  ·have hc4:=bp hb4
   refine aw_region (l_ (h:=?_))
   refine al_p rfl (q_call (Proot s hs.b) ?_)
   rintro r rfl
   refine f_ (h:=s_ (h:=al_nil (?_)))
   refine x_then ?_
   first|exact⟨_,⟨rootD s,if_pos hc4,hri,rfl⟩,(wk 4 0)⟩|exact⟨_,⟨start,if_neg (by simp[hc4]),by simpa using hc5,rfl⟩,(wk 4 0)⟩
  have hc4:=bp hb4
  refine w_ (?_)
  refine al_p rfl (s_callR 1 rfl (.cons _ _ _ _ _ rfl (LeA.refl _) .nil) (PdirW s (fl||lsL p) ⟨splS p,start,(0,0),⟨#[]⟩,false,0⟩ hs.b) ?_)
  rintro r rfl
  refine⟨rfl,?_⟩
  refine nt_ (h:=e_ (?_))
  refine aw_cond rfl (fun hb5=>?_) (fun hb5=>?_)
  ·have hc5:=bp hb5
   refine w_ (bd_ (h:=s_ (h:=a_ (h:=e_ (aw_ret (x_thenR (?_)))))))
   refine e_ret ?_
   rw[find_nodir hc1 (by omega) (if_neg (by simp[hc4])) (by simpa using hc5)]
   rfl
  have hc5:=bp hb5
  refine aw_skip (?_)
  refine x_then ?_
  first|exact⟨_,⟨rootD s,if_pos hc4,hri,rfl⟩,(wk 4 0)⟩|exact⟨_,⟨start,if_neg (by simp[hc4]),by simpa using hc5,rfl⟩,(wk 4 0)⟩
 rintro t ⟨a,ha,had,rfl⟩
 refine q_ (aw_block (?_))
 refine aw_loopW (fun m t=>∃w,Run s (fl||lsL p) (lk0 (splS p) a) w∧m=(8 - w.links) * 200+w.ps.length∧m≤1600+(p.size+1)∧t=⟨look [(4, .bp 0 0),(8, .bp 2 0),(12, .v (.bool (lsL p))),(13, .bp 3 0)],⟨[spcA s,filA start,fndA fnd0,wkA s (fl||lsL p) w],[]⟩⟩) ((8 - 0) * 200+(splS p).length) ((wk 4 0)) (⟨_,⟨Nat.zero_le _,Nat.zero_le _,_,sim0 (splS p) a (0,0) (fun _=>trivial),rfl⟩,rfl,by have:=splS_len p;omega,rfl⟩) ?_
 rintro m t ⟨w,hR,rfl,hm,rfl⟩
 have hml:(w.ps.map strA).length=w.ps.length:=by simp
 refine q_ (w_ (f_ (h:=l_ (h:=n_ (h:=gt_ (h:=e_ (?_)))))))
 refine aw_cond rfl (fun hb6=>?_) (fun hb6=>?_)
 ·have hc6:=bp hb6
  obtain⟨q,qs,hqs⟩:∃q qs,w.ps=q::qs:=by
   cases hq:w.ps with
   |nil=>rw[hq]at hml hc6;simp at hc6
   |cons q qs=>exact⟨q,qs,rfl⟩
  have hql:w.ps.length=qs.length+1:=by rw[hqs];rfl
  refine kt_ (aw_block (w_ (?_)))
  refine al_p rfl (s_callB 3 rfl (by repeat (first|exact ArgsB.nil|refine ArgsB.cons _ _ _ _ _ rfl rfl ?_)) rfl rfl (Pstep s (fl||lsL p) w q qs hqs hs.b hv hR.1 (by omega)) ?_)
  rintro r row2 (⟨e,he,he0,rfl,rfl⟩|⟨w2,hw2,rfl,rfl⟩)
  ·refine⟨bp_wk _ _ _,rfl,_,(by repeat constructor),?_⟩
   refine a_ (h:=e_ (w_ (m_ (h:=nq_ (h:=e_ (?_))))))
   refine aw_cond rfl (fun hb7=>?_) (fun hb7=>?_)
   ·have hc7:=bp hb7
    refine w_ (bd_ (h:=m_ (h:=s_ (h:=a_ (h:=e_ (aw_ret (x_blockR (x_thenR (x_blockR (x_thenR (?_)))))))))))
    refine e_ret ?_
    rw[find_err hc1 (by omega) ha had ((run_step hv hqs hR).1 e he) he0]
    rfl
   have hc7:=bp hb7
   exact absurd hc7 he0
  refine⟨bp_wk _ _ _,rfl,_,(by repeat constructor),?_⟩
  refine a_ (h:=e_ (w_ (m_ (h:=nq_ (h:=e_ (?_))))))
  refine aw_cond rfl (fun hb8=>?_) (fun hb8=>?_)
  ·have hc8:=bp hb8
   exact absurd rfl hc8
  have hc8:=bp hb8
  refine aw_skip (x_blockN (?_))
  refine x_then ?_
  exact⟨(8 - w2.links) * 200+w2.ps.length,_,(by have:=(rest_few hv.files _ hR.1 hw2).2;omega),⟨w2,(run_step hv hqs hR).2 w2 hw2,rfl,by have:=(rest_few hv.files _ hR.1 hw2).2;omega,rfl⟩,(wk 4 0)⟩
 have hc6:=bp hb6
 have hps:w.ps=[]:=List.eq_nil_of_length_eq_zero (by omega)
 obtain⟨σ,hT,hσx,hσf,hσe⟩:=run_end hv hps hR
 refine aw_exit (x_thenE (x_thenE (ABlock_out (t_ (q_ (?_))))))
 refine aw_mid (⟨look [(8, .bp 2 0),(12, .v (.bool (lsL p))),(13, .bp 3 0),(63, .v (.bool (lsL p&&(!w.missing&& !dirL s.files w.at_))))],⟨[spcA s,filA start,fndA fnd0,wkA s (fl||lsL p) w],[]⟩⟩) ?_ ?_
 ·skip
  refine aw_region (m_ (h:=m_ (h:=?_)))
  refine al_gs true rfl rfl (fun hb9=>?_) (fun hb9=>?_)
  ·have hc9:=bp hb9
   refine f_ (h:=l_ (h:=nt_ (h:=pt_ (h:=m_ (h:=?_)))))
   refine al_gs true rfl rfl (fun hb10=>?_) (fun hb10=>?_)
   ·have hc10:=bp hb10
    refine g_y (s_callR 1 rfl (.cons _ _ _ _ _ rfl (LeA.refl _) .nil) (PdirW s (fl||lsL p) w hs.b) ?_)
    rintro r rfl
    refine⟨rfl,?_⟩
    refine nt_ (h:=pt_ (h:=al_nil (?_)))
    refine x_then ?_
    first|(exfalso;first|contradiction|omega)|exact weak_of 4 0 rfl rfl rfl rfl (by repeat (first|exact Sub.nil|refine Sub.cons _ _ _ rfl rfl ?_|refine Sub.any _ _ ?_|refine Sub.sl _ _ _ _ _ rfl ?_|refine Sub.slnil _ _ _ rfl ?_|(apply Sub.of;(focus exact rfl);(focus exact LeA.of_eq (vb (by first|(rw[hb9];rfl)|(rw[hb9,hb10];rfl))));(focus exact rfl))))
   have hc10:=bp hb10
   refine g0_ (h:=g0_ (h:=pf_ (h:=al_nil (?_))))
   refine x_then ?_
   first|(exfalso;first|contradiction|omega)|exact weak_of 4 0 rfl rfl rfl rfl (by repeat (first|exact Sub.nil|refine Sub.cons _ _ _ rfl rfl ?_|refine Sub.any _ _ ?_|refine Sub.sl _ _ _ _ _ rfl ?_|refine Sub.slnil _ _ _ rfl ?_|(apply Sub.of;(focus exact rfl);(focus exact LeA.of_eq (vb (by first|(rw[hb9];rfl)|(rw[hb9,hb10];rfl))));(focus exact rfl))))
  have hc9:=bp hb9
  refine g0_ (h:=g0_ (h:=g0_ (h:=pf_ (h:=m_ (h:=g0_ (h:=g0_ (h:=pf_ (h:=al_nil (?_)))))))))
  refine x_then ?_
  first|(exfalso;first|contradiction|omega)|exact weak_of 4 0 rfl rfl rfl rfl (by repeat (first|exact Sub.nil|refine Sub.cons _ _ _ rfl rfl ?_|refine Sub.any _ _ ?_|refine Sub.sl _ _ _ _ _ rfl ?_|refine Sub.slnil _ _ _ rfl ?_|(apply Sub.of;(focus exact rfl);(focus exact LeA.of_eq (vb (by first|(rw[hb9];rfl)|(rw[hb9,hb10];rfl))));(focus exact rfl))))
 skip
 refine aw_cond rfl (fun hb11=>?_) (fun hb11=>?_)
 ·have hc11:=bp hb11
  refine w_ (bd_ (h:=s_ (h:=a_ (h:=e_ (aw_ret (x_thenR (?_)))))))
  refine e_ret ?_
  rw[find_slash hc1 (by omega) ha had hT (by simp only[Bool.and_eq_true,Bool.not_eq_true']at hc11;exact⟨hc11.1,by rw[hσx,hc11.2.1];rfl,by rw[hσf hc11.2.1];exact hc11.2.2⟩)]
  rfl
 have hc11:=bp hb11
 refine kt_ (w_ (m_ (h:=?_)))
 refine al_p rfl (s_callR 1 rfl (.cons _ _ _ _ _ rfl (LeA.refl _) (.cons _ _ _ _ _ rfl (LeA.refl _) .nil)) (Pfound s (fl||lsL p) (lsL p) w hs hw (by have:=hR.2.1;omega)) ?_)
 rintro r rfl
 refine⟨rfl,?_⟩
 refine s_ (h:=a_ (h:=e_ (aw_ret (?_))))
 refine e_ret ?_
 rw[find_ok hc1 (by omega) ha had hT (fun h=>by
  obtain⟨h1,h2,h3⟩:=h
  rw[hσx]at h2
  have hm2:w.missing=false:=by simpa using h2
  rw[hσf hm2]at h3
  rw[h1,h2,h3]at hc11
  cases hc11),←hσe]
 rfl
end
section
set_option maxRecDepth 20000
set_option maxHeartbeats 2000000
theorem RdownS{s:Spc}(hs:SpcB s)(hv:SpcV s)(a:Fil):AFn Tryz.prog 100 [.agg (spcA s), .agg (filA a)] (fun r=>r= .agg (filA (itD s s.mounts.length a))):=
 (Rdown s a hs).mono fun r hr=>by rw[hr,down_eq hv]
end
def outA(σ:Lk):List AV:=fndA ⟨σ.dir,σ.name,σ.file,σ.ex,false,⟨#[]⟩⟩
theorem rstep{s:Spc}(hv:FlsV s.files){F:Bool}{q:Str}{qs:List Str}{da:Fil}{na:Str}{a:Fil}{ea:Bool}{lk:Nat}(h8:lk≤8):(∀e,lkS s F q qs a lk= .inl e→lkT s F ⟨q::qs,da,na,a,ea,lk⟩=(e,lkZ))∧∀τ,lkS s F q qs a lk= .inr τ→τ.links≤8∧lkT s F ⟨q::qs,da,na,a,ea,lk⟩=lkT s F τ∧lkM τ<(8 - lk) * 200+(qs.length+1):=by
 have hc:=lkT_cons hv (fl:=F) (σ:=⟨q::qs,da,na,a,ea,lk⟩) (p:=q) (ps:=qs) h8 rfl
 refine⟨fun e he=>?_,fun τ hτ=>?_⟩
 ·rw[hc];simp only[he]
 obtain⟨h1,h2⟩:=lk_less hv h8 hτ
 refine⟨h1,?_,h2⟩
 rw[hc];simp only[hτ]
section
set_option maxRecDepth 10000
set_option maxHeartbeats 1000000
theorem Rroot7(s:Spc)(hs:SpcB s)(hv:SpcV s):AFn Tryz.prog 99 [.agg (spcA s)] (fun r=>r= .agg (filA (rootD s))):=by
 refine enter Tryz.func99 rfl rfl rfl rfl rfl 0 rfl ?_
 refine w_ (b_ (h:=al_ (h:=e_ (w_ (l_ (h:=bd_ (h:=?_)))))))
 refine al_p rfl (q_call (RdownS hs hv (0,1)) ?_)
 rintro r rfl
 refine s_ (h:=e_ (aw_ret (?_)))
 refine e_ret ?_
 rfl
theorem Rfind7(s:Spc)(start:Fil)(p:Str)(fl:Bool)(hs:SpcN s)(hv:SpcV s)(hp:p.size≤100000):AFn Tryz.prog 56 [.agg (spcA s), .agg (filA start), .v (.string p), .v (.bool fl)] (fun r=>r= .tup [.agg (fndA (findL s start p fl).1), .v (.int .i64 (findL s start p fl).2)]):=by
 have hw:=where_size hv
 have hsp:=splS_len p
 refine enter Tryz.func56 rfl rfl rfl rfl rfl 0 rfl ?_
 refine w_ (b_ (h:=b_ (h:=al_ (h:=a_ (h:=e_ (w_ (m_ (h:=?_))))))))
 refine al_p rfl (q_call (Rsplit p hp) ?_)
 rintro r ⟨ps,hps,rfl⟩
 obtain rfl:=splS_of hps
 clear hps
 refine m_ (h:=x_ (h:=x_ (h:=x_ (h:=a_ (h:=a_ (h:=a_ (h:=e_ (q_ (w_ (m_ (h:=eq_ (h:=e_ (?_)))))))))))))
 refine aw_cond rfl (fun hb1=>?_) (fun hb1=>?_)
 ·have hc1:=bp hb1
  refine w_ (bd_ (h:=s_ (h:=a_ (h:=e_ (aw_ret (x_thenR (?_)))))))
  refine e_ret ?_
  rw[show findL s start p fl=(fnd0,2) from if_pos hc1]
  rfl
 have hc1:=bp hb1
 refine kt_ (q_ (w_ (m_ (h:=n_ (h:=gt_ (h:=e_ (?_)))))))
 refine aw_cond rfl (fun hb2=>?_) (fun hb2=>?_)
 ·have hc2:=bp hb2
  refine w_ (bd_ (h:=s_ (h:=a_ (h:=e_ (aw_ret (x_thenR (?_)))))))
  refine e_ret ?_
  rw[find_long hc1 (by omega)]
  rfl
 have hc2:=bp hb2
 refine kt_ (w_ (l_ (h:=al_ (h:=s_ (h:=e_ (?_))))))
 refine aw_midI (fun t=>∃a,(if hdL p=true then rootD s else start)=a∧t=⟨look [(3, .v (.bool fl)),(4, .bp 0 0),(8, .bp 2 0),(10, .sl 1 ((splS p).map strA) none),(12, .v (.bool (lsL p))),(13, .bp 3 0)],⟨[spcA s,filA start,fndA fnd0,filA a],[]⟩⟩) ?_ ?_
 ·skip
  refine w_ (m_ (h:=e_ (?_)))
  refine aw_cond rfl (fun hb3=>?_) (fun hb3=>?_)
  ·have hc3:=bp hb3
   refine aw_region (l_ (h:=?_))
   refine al_p rfl (q_call (Rroot7 s hs.b hv) ?_)
   rintro r rfl
   refine s_ (h:=al_nil (?_))
   refine x_then ?_
   first|exact⟨_,⟨rootD s,if_pos hc3,rfl⟩,(wk 4 0)⟩|exact⟨_,⟨start,if_neg (by simp[hc3]),rfl⟩,(wk 4 0)⟩
  have hc3:=bp hb3
  refine aw_skip (?_)
  refine x_then ?_
  first|exact⟨_,⟨rootD s,if_pos hc3,rfl⟩,(wk 4 0)⟩|exact⟨_,⟨start,if_neg (by simp[hc3]),rfl⟩,(wk 4 0)⟩
 rintro t ⟨a0,ha,rfl⟩
 refine q_ (w_ (f_ (h:=l_ (h:=l_ (h:=?_)))))
 refine al_p rfl (q_call (Rdir s.files a0 hs.b.files) ?_)
 rintro r rfl
 refine nt_ (h:=e_ (?_))
 refine aw_cond rfl (fun hb4=>?_) (fun hb4=>?_)
 ·have hc4:=bp hb4
  refine w_ (bd_ (h:=s_ (h:=a_ (h:=e_ (aw_ret (x_thenR (?_)))))))
  refine e_ret ?_
  rw[find_nodir hc1 (by omega) ha (by simpa using hc4)]
  rfl
 have hc4:=bp hb4
 have had:dirL s.files a0=true:=by simpa using hc4
 refine kt_ (w_ (l_ (h:=l_ (h:=bd_ (h:=al_ (h:=s_ (h:=e_ (w_ (a_ (h:=e_ (?_)))))))))))
 refine aw_midI (fun t=>∃(τ:Lk) (d:Fil),lkT s (fl||lsL p) (lk0 (splS p) a0)=(0,τ)∧τ.name.size≤1000∧t=⟨look [(4, .bp 0 0),(8, .bp 2 0),(12, .v (.bool (lsL p))),(14, .bp 4 0)],⟨[spcA s,filA start,fndA fnd0,filA d,outA τ],[]⟩⟩) ?_ ?_
 ·skip
  refine aw_block (?_)
  refine aw_loopW (fun m t=>∃(σ:Lk) (d:Fil),σ.links≤8∧σ.name.size≤12∧lkT s (fl||lsL p) σ=lkT s (fl||lsL p) (lk0 (splS p) a0)∧m=lkM σ∧m≤1729∧t=⟨look [(3, .v (.bool fl)),(4, .bp 0 0),(8, .bp 2 0),(10, .sl 1 (σ.ps.map strA) none),(12, .v (.bool (lsL p))),(13, .bp 3 0),(14, .bp 4 0),(15, .v (.int .i64 (σ.links:Int)))],⟨[spcA s,filA start,fndA fnd0,filA d,outA σ],[]⟩⟩) (lkM (lk0 (splS p) a0)) ((wk 5 0)) (⟨_,a0,Nat.zero_le _,Nat.zero_le _,rfl,rfl,by show(8 - 0) * 200+(splS p).length≤1729;omega,rfl⟩) ?_
  rintro m t ⟨⟨ps0,da,na,a,ea,lk⟩,d,h8,hna,hT,rfl,hm,rfl⟩
  have hm:(8 - lk) * 200+ps0.length≤1729:=hm
  have h8:lk≤8:=h8
  have hml:(ps0.map strA).length=ps0.length:=by simp
  refine q_ (w_ (m_ (h:=n_ (h:=gt_ (h:=e_ (?_))))))
  refine aw_cond rfl (fun hb5=>?_) (fun hb5=>?_)
  ·have hc5:=bp hb5
   obtain⟨q,qs,hps⟩:∃q qs,ps0=q::qs:=by
    cases ps0 with
    |nil=>simp at hc5
    |cons q qs=>exact⟨q,qs,rfl⟩
   subst hps
   have hml:(qs.map strA).length=qs.length:=by simp
   have hmq:(8 - lk) * 200+(qs.length+1)≤1729:=hm
   have htg:=nodG_target hv.files (lookL s.files a q).1
   have htp:=splS_len (nodG s.files (lookL s.files a q).1).target
   refine kt_ (aw_block (w_ (m_ (h:=?_))))
   refine al_p rfl (st_index (n:=0) rfl rfl rfl rfl ?_)
   refine l_ (h:=a_ (h:=e_ (?_)))
   refine aw_mid (⟨look [(3, .v (.bool fl)),(4, .bp 0 0),(8, .bp 2 0),(10, .sl 1 (qs.map strA) none),(12, .v (.bool (lsL p))),(13, .bp 3 0),(14, .bp 4 0),(15, .v (.int .i64 (lk:Int))),(16, .v (.string q))],⟨[spcA s,filA start,fndA fnd0,filA d,outA ⟨q::qs,da,na,a,ea,lk⟩],[]⟩⟩) ?_ ?_
   ·skip
    refine aw_region (m_ (h:=?_))
    refine al_p rfl (st_sliceLo (l:=1) rfl rfl rfl (by simp) ?_)
    refine a_ (h:=al_nil (?_))
    refine x_then ?_
    first|(exfalso;first|contradiction|omega)|exact weak_of 5 0 rfl rfl rfl rfl (by repeat (first|exact Sub.nil|refine Sub.cons _ _ _ rfl rfl ?_|refine Sub.any _ _ ?_|refine Sub.sl _ _ _ _ _ rfl ?_|refine Sub.slnil _ _ _ rfl ?_|(apply Sub.of;(focus exact rfl);(focus exact LeA.of_eq (vb (by rfl)));(focus exact rfl))))
   skip
   refine w_ (f_ (h:=l_ (h:=s_ (h:=e_ (q_ (w_ (f_ (h:=l_ (h:=l_ (h:=?_))))))))))
   refine al_p rfl (q_call (Rdir s.files a hs.b.files) ?_)
   rintro r rfl
   refine nt_ (h:=e_ (?_))
   refine aw_cond rfl (fun hb6=>?_) (fun hb6=>?_)
   ·have hc6:=bp hb6
    have hst:lkS s (fl||lsL p) q qs a lk= .inl 20:=by unfold lkS;rw[if_pos hc6]
    refine w_ (bd_ (h:=s_ (h:=a_ (h:=e_ (aw_ret (x_thenR (x_blockR (x_thenR (x_blockR (x_thenR (?_)))))))))))
    refine e_ret ?_
    rw[find_err hc1 (by omega) ha had (hT.symm.trans ((rstep (F:=fl||lsL p) (da:=da) (na:=na) (ea:=ea) hv.files h8).1 _ hst)) (by decide)]
    rfl
   have hc6:=bp hb6
   refine kt_ (q_ (w_ (m_ (h:=n_ (h:=gt_ (h:=e_ (?_)))))))
   refine aw_cond rfl (fun hb7=>?_) (fun hb7=>?_)
   ·have hc7:=bp hb7
    have hst:lkS s (fl||lsL p) q qs a lk= .inl 36:=by unfold lkS;rw[if_neg (by simp[hc6]),if_pos (by omega)]
    refine w_ (bd_ (h:=s_ (h:=a_ (h:=e_ (aw_ret (x_thenR (x_blockR (x_thenR (x_blockR (x_thenR (?_)))))))))))
    refine e_ret ?_
    rw[find_err hc1 (by omega) ha had (hT.symm.trans ((rstep (F:=fl||lsL p) (da:=da) (na:=na) (ea:=ea) hv.files h8).1 _ hst)) (by decide)]
    rfl
   have hc7:=bp hb7
   have hq12:q.size≤12:=by omega
   refine kt_ (q_ (w_ (m_ (h:=eq_ (h:=m_ (h:=?_))))))
   refine al_gs false rfl rfl (fun hb8=>?_) (fun hb8=>?_)
   ·have hc8:=bp hb8
    refine g0_ (h:=g0_ (h:=pt_ (h:=e_ (cy_ (h:=q_ (w_ (m_ (h:=eq_ (h:=e_ (?_))))))))))
    refine aw_cond rfl (fun hb9=>?_) (fun hb9=>?_)
    ·have hc9:=bp hb9
     rw[hc8]at hc9
     exact absurd hc9 (by decide)
    have hc9:=bp hb9
    have hst:lkS s (fl||lsL p) q qs a lk= .inr ⟨qs,a,⟨#[]⟩,a,true,lk⟩:=by unfold lkS;rw[if_neg (by simp[hc6]),if_neg (by omega),if_pos hc8]
    refine kt_ (w_ (l_ (h:=l_ (h:=bd_ (h:=s_ (h:=e_ (aw_exit (x_thenE (ABlock_out (?_))))))))))
    refine x_then ?_
    obtain⟨g1,g2,g3⟩:=(rstep (F:=fl||lsL p) (da:=da) (na:=na) (ea:=ea) hv.files h8).2 _ hst
    exact⟨_,_,g3,⟨_,_,g1,(by first|exact Nat.zero_le _|exact hq12),g2.symm.trans hT,rfl,Nat.le_trans (Nat.le_of_lt g3) hmq,rfl⟩,(by(try simp only[List.map_append]);exact weak_of 5 0 rfl rfl rfl rfl ((by repeat (first|exact Sub.nil|refine Sub.cons _ _ _ rfl rfl ?_|refine Sub.any _ _ ?_|refine Sub.sl _ _ _ _ _ rfl ?_|refine Sub.slnil _ _ _ rfl ?_))))⟩
   have hc8:=bp hb8
   refine m_ (h:=eq_ (h:=pf_ (h:=e_ (?_))))
   refine aw_cond rfl (fun hb10=>?_) (fun hb10=>?_)
   ·have hc10:=bp hb10
    refine q_ (w_ (m_ (h:=eq_ (h:=e_ (?_)))))
    refine aw_cond rfl (fun hb11=>?_) (fun hb11=>?_)
    ·have hc11:=bp hb11
     have hst:lkS s (fl||lsL p) q qs a lk= .inr ⟨qs,itD s s.mounts.length (upF s (s.mounts.length+1) a),⟨#[]⟩,itD s s.mounts.length (upF s (s.mounts.length+1) a),true,lk⟩:=by unfold lkS;rw[if_neg (by simp[hc6]),if_neg (by omega),if_neg hc8,if_pos hc11]
     refine yk_ ([(0,spcA s),(3,filA a)]) 5 (h:=dl_ 0 (h:=dl_ 1 (h:=dl_ 2 (h:=?_))))
     refine c_ 3 rfl (q_call (Rup hs.b hv (s.mounts.length+1) a (by have:=pos_le (s:=s) a.1;omega)) ?_)
     rintro r rfl
     refine o_ (h:=?_)
     refine c_ 4 rfl (q_call (RdownS hs.b hv (upF s (s.mounts.length+1) a)) ?_)
     rintro r rfl
     refine o_ (h:=?_)
     refine c0_ 5 rfl (s_store rfl rfl rfl rfl rfl rfl (by repeat constructor) (by repeat constructor) ?_)
     refine o_ (h:=z_ (h:=t_ (w_ (l_ (h:=l_ (h:=bd_ (h:=s_ (h:=e_ (aw_exit (x_thenE (ABlock_out (?_))))))))))))
     refine x_then ?_
     obtain⟨g1,g2,g3⟩:=(rstep (F:=fl||lsL p) (da:=da) (na:=na) (ea:=ea) hv.files h8).2 _ hst
     exact⟨_,_,g3,⟨_,_,g1,(by first|exact Nat.zero_le _|exact hq12),g2.symm.trans hT,rfl,Nat.le_trans (Nat.le_of_lt g3) hmq,rfl⟩,(by(try simp only[List.map_append]);exact weak_of 5 0 rfl rfl rfl rfl ((by repeat (first|exact Sub.nil|refine Sub.cons _ _ _ rfl rfl ?_|refine Sub.any _ _ ?_|refine Sub.sl _ _ _ _ _ rfl ?_|refine Sub.slnil _ _ _ rfl ?_))))⟩
    have hc11:=bp hb11
    exact absurd hc10 hc11
   have hc10:=bp hb10
   refine kt_ (w_ (f_ (h:=l_ (h:=l_ (h:=m_ (h:=?_))))))
   refine al_p rfl (q_call (Rlook s.files a q hs.b.files) ?_)
   rintro r rfl
   refine m_ (h:=x_ (h:=x_ (h:=al_ (h:=s_ (h:=a_ (h:=e_ (q_ (w_ (m_ (h:=nq_ (h:=e_ (?_))))))))))))
   refine aw_cond rfl (fun hb12=>?_) (fun hb12=>?_)
   ·have hc12:=bp hb12
    refine q_ (w_ (m_ (h:=n_ (h:=gt_ (h:=m_ (h:=?_))))))
    refine al_gs false rfl rfl (fun hb13=>?_) (fun hb13=>?_)
    ·have hc13:=bp hb13
     have hne:qs≠[]:=fun e=>by rw[e]at hc13;simp at hc13
     have hst:lkS s (fl||lsL p) q qs a lk= .inl 2:=by unfold lkS;rw[if_neg (by simp[hc6]),if_neg (by omega),if_neg hc8,if_neg hc10,if_pos hc12,if_pos (.inl hne)]
     refine g0_ (h:=g0_ (h:=g0_ (h:=pt_ (h:=e_ (cy_ (h:=w_ (bd_ (h:=s_ (h:=a_ (h:=e_ (aw_ret (x_thenR (x_thenR (x_blockR (x_thenR (x_blockR (x_thenR (?_))))))))))))))))))
     refine e_ret ?_
     rw[find_err hc1 (by omega) ha had (hT.symm.trans ((rstep (F:=fl||lsL p) (da:=da) (na:=na) (ea:=ea) hv.files h8).1 _ hst)) (by decide)]
     rfl
    have hc13:=bp hb13
    have hne:¬qs≠[]:=fun e=>e (List.eq_nil_of_length_eq_zero (by omega))
    refine m_ (h:=?_)
    refine g_y (q_call (Rname q (by omega)) ?_)
    rintro r rfl
    refine nt_ (h:=pf_ (h:=e_ (?_)))
    refine aw_cond rfl (fun hb14=>?_) (fun hb14=>?_)
    ·have hc14:=bp hb14
     have hst:lkS s (fl||lsL p) q qs a lk= .inl 2:=by unfold lkS;rw[if_neg (by simp[hc6]),if_neg (by omega),if_neg hc8,if_neg hc10,if_pos hc12,if_pos (.inr hc14)]
     refine w_ (bd_ (h:=s_ (h:=a_ (h:=e_ (aw_ret (x_thenR (x_thenR (x_blockR (x_thenR (x_blockR (x_thenR (?_))))))))))))
     refine e_ret ?_
     rw[find_err hc1 (by omega) ha had (hT.symm.trans ((rstep (F:=fl||lsL p) (da:=da) (na:=na) (ea:=ea) hv.files h8).1 _ hst)) (by decide)]
     rfl
    have hc14:=bp hb14
    have hst:lkS s (fl||lsL p) q qs a lk= .inr ⟨[],a,q,(0,0),false,lk⟩:=by unfold lkS;rw[if_neg (by simp[hc6]),if_neg (by omega),if_neg hc8,if_neg hc10,if_pos hc12,if_neg (fun e=>e.elim hne (by simp[hc14]))]
    have hfin:=hT.symm.trans (((rstep (F:=fl||lsL p) (da:=da) (na:=na) (ea:=ea) hv.files h8).2 _ hst).2.1.trans (lkT_nil rfl))
    refine kt_ (w_ (l_ (h:=m_ (h:=bd_ (h:=s_ (h:=e_ (aw_exit (x_thenE (ABlock_far rfl (x_thenE (ABlock_out (?_))))))))))))
    refine x_then ?_
    exact⟨_,⟨_,_,hfin,(by first|exact Nat.le_trans hna (by decide)|exact Nat.le_trans hq12 (by decide)),rfl⟩,(wk 5 0)⟩
   have hc12:=bp hb12
   refine kt_ (w_ (f_ (h:=l_ (h:=l_ (h:=?_)))))
   refine al_p rfl (q_call (Rnode s.files (lookL s.files a q).1 hs.b.files) ?_)
   rintro r rfl
   refine m_ (h:=x_ (h:=x_ (h:=al_ (h:=s_ (h:=a_ (h:=e_ (q_ (?_))))))))
   refine aw_mid (⟨look [(3, .v (.bool fl)),(4, .bp 0 0),(8, .bp 2 0),(10, .sl 1 (qs.map strA) none),(12, .v (.bool (lsL p))),(13, .bp 3 0),(14, .bp 4 0),(15, .v (.int .i64 (lk:Int))),(16, .v (.string q)),(17, .bp 5 0),(19, .bp 6 0),(130, .v (.bool (decide ((nodG s.files (lookL s.files a q).1).kind=3)&&(decide (0<((qs.map strA).length:Int))||(fl||lsL p)))))],⟨[spcA s,filA start,fndA fnd0,filA a,outA ⟨q::qs,da,na,a,ea,lk⟩,filA (lookL s.files a q).1,nodA (nodG s.files (lookL s.files a q).1)],[]⟩⟩) ?_ ?_
   ·skip
    refine aw_region (f_ (h:=l_ (h:=eq_ (h:=m_ (h:=?_)))))
    refine al_gs true rfl rfl (fun hb15=>?_) (fun hb15=>?_)
    ·have hc15:=bp hb15
     refine m_ (h:=n_ (h:=gt_ (h:=m_ (h:=?_))))
     refine al_gs false rfl rfl (fun hb16=>?_) (fun hb16=>?_)
     ·have hc16:=bp hb16
      refine g0_ (h:=pt_ (h:=m_ (h:=g0_ (h:=pt_ (h:=pt_ (h:=al_nil (?_)))))))
      refine x_then ?_
      first|(exfalso;first|contradiction|omega)|exact weak_of 7 0 rfl rfl rfl rfl (by repeat (first|exact Sub.nil|refine Sub.cons _ _ _ rfl rfl ?_|refine Sub.any _ _ ?_|refine Sub.sl _ _ _ _ _ rfl ?_|refine Sub.slnil _ _ _ rfl ?_|(apply Sub.of;(focus exact rfl);(focus exact LeA.of_eq (vb (by first|(rw[hb15];rfl)|(rw[hb15,hb16];rfl)|(rw[hb15,hb16,hb17];rfl))));(focus exact rfl))))
     have hc16:=bp hb16
     refine m_ (h:=pf_ (h:=m_ (h:=?_)))
     refine al_gs false rfl rfl (fun hb17=>?_) (fun hb17=>?_)
     ·have hc17:=bp hb17
      refine g0_ (h:=pt_ (h:=pt_ (h:=al_nil (?_))))
      refine x_then ?_
      first|(exfalso;first|contradiction|omega)|exact weak_of 7 0 rfl rfl rfl rfl (by repeat (first|exact Sub.nil|refine Sub.cons _ _ _ rfl rfl ?_|refine Sub.any _ _ ?_|refine Sub.sl _ _ _ _ _ rfl ?_|refine Sub.slnil _ _ _ rfl ?_|(apply Sub.of;(focus exact rfl);(focus exact LeA.of_eq (vb (by first|(rw[hb15];rfl)|(rw[hb15,hb16];rfl)|(rw[hb15,hb16,hb17];rfl))));(focus exact rfl))))
     have hc17:=bp hb17
     refine m_ (h:=pf_ (h:=pt_ (h:=al_nil (?_))))
     refine x_then ?_
     first|(exfalso;first|contradiction|omega)|exact weak_of 7 0 rfl rfl rfl rfl (by repeat (first|exact Sub.nil|refine Sub.cons _ _ _ rfl rfl ?_|refine Sub.any _ _ ?_|refine Sub.sl _ _ _ _ _ rfl ?_|refine Sub.slnil _ _ _ rfl ?_|(apply Sub.of;(focus exact rfl);(focus exact LeA.of_eq (vb (by first|(rw[hb15];rfl)|(rw[hb15,hb16];rfl)|(rw[hb15,hb16,hb17];rfl))));(focus exact rfl))))
    have hc15:=bp hb15
    refine g0_ (h:=g0_ (h:=g0_ (h:=g0_ (h:=gu_ (h:=g0_ (h:=g0_ (h:=gu_ (h:=g0_ (h:=pf_ (h:=al_nil (?_)))))))))))
    refine x_then ?_
    first|(exfalso;first|contradiction|omega)|exact weak_of 7 0 rfl rfl rfl rfl (by repeat (first|exact Sub.nil|refine Sub.cons _ _ _ rfl rfl ?_|refine Sub.any _ _ ?_|refine Sub.sl _ _ _ _ _ rfl ?_|refine Sub.slnil _ _ _ rfl ?_|(apply Sub.of;(focus exact rfl);(focus exact LeA.of_eq (vb (by first|(rw[hb15];rfl)|(rw[hb15,hb16];rfl)|(rw[hb15,hb16,hb17];rfl))));(focus exact rfl))))
   skip
   refine aw_cond rfl (fun hb18=>?_) (fun hb18=>?_)
   ·have hc18:=bp hb18
    have hlk:(nodG s.files (lookL s.files a q).1).kind=3∧(qs≠[]∨(fl||lsL p)=true):=by
     rw[Bool.and_eq_true,decide_eq_true_eq,Bool.or_eq_true,decide_eq_true_eq]at hc18
     exact⟨hc18.1,hc18.2.imp (fun h e=>by rw[e]at h;simp at h) id⟩
    refine q_ (w_ (m_ (h:=eq_ (h:=e_ (?_)))))
    refine aw_cond rfl (fun hb19=>?_) (fun hb19=>?_)
    ·have hc19:=bp hb19
     have hst:lkS s (fl||lsL p) q qs a lk= .inl 40:=by unfold lkS;rw[if_neg (by simp[hc6]),if_neg (by omega),if_neg hc8,if_neg hc10,if_neg (by simp[hc12]),if_pos hlk,if_pos (by omega)]
     refine w_ (bd_ (h:=s_ (h:=a_ (h:=e_ (aw_ret (x_thenR (x_thenR (x_blockR (x_thenR (x_blockR (x_thenR (?_))))))))))))
     refine e_ret ?_
     rw[find_err hc1 (by omega) ha had (hT.symm.trans ((rstep (F:=fl||lsL p) (da:=da) (na:=na) (ea:=ea) hv.files h8).1 _ hst)) (by decide)]
     rfl
    have hc19:=bp hb19
    refine kt_ (w_ (m_ (h:=?_)))
    refine al_p rfl (st_add64 rfl rfl (by omega) ?_)
    refine a_ (h:=e_ (w_ (f_ (h:=l_ (h:=?_)))))
    refine al_p rfl (q_call (Rsplit (nodG s.files (lookL s.files a q).1).target (by omega)) ?_)
    rintro r ⟨ps,hps,rfl⟩
    obtain rfl:=splS_of hps
    clear hps
    refine m_ (h:=x_ (h:=x_ (h:=x_ (h:=a_ (h:=a_ (h:=a_ (h:=e_ (q_ (w_ (m_ (h:=e_ (?_))))))))))))
    refine aw_cond rfl (fun hb20=>?_) (fun hb20=>?_)
    ·have hc20:=bp hb20
     have hst:lkS s (fl||lsL p) q qs a lk= .inr ⟨splS (nodG s.files (lookL s.files a q).1).target++qs,rootD s,⟨#[]⟩,rootD s,true,lk+1⟩:=by unfold lkS;rw[if_neg (by simp[hc6]),if_neg (by omega),if_neg hc8,if_neg hc10,if_neg (by simp[hc12]),if_pos hlk,if_neg (by omega),if_pos hc20]
     refine aw_region (l_ (h:=?_))
     refine al_p rfl (q_call (Rroot7 s hs.b hv) ?_)
     rintro r rfl
     refine s_ (h:=e_ (w_ (m_ (h:=ap_ (h:=m_ (h:=ap_ (h:=a_ (h:=e_ (w_ (l_ (h:=l_ (h:=bd_ (h:=s_ (h:=e_ (aw_exit (x_thenE (ABlock_out (?_))))))))))))))))))
     refine x_then ?_
     obtain⟨g1,g2,g3⟩:=(rstep (F:=fl||lsL p) (da:=da) (na:=na) (ea:=ea) hv.files h8).2 _ hst
     exact⟨_,_,g3,⟨_,_,g1,(by first|exact Nat.zero_le _|exact hq12),g2.symm.trans hT,rfl,Nat.le_trans (Nat.le_of_lt g3) hmq,rfl⟩,(by(try simp only[List.map_append]);exact weak_of 5 0 rfl rfl rfl rfl ((by repeat (first|exact Sub.nil|refine Sub.cons _ _ _ rfl rfl ?_|refine Sub.any _ _ ?_|refine Sub.sl _ _ _ _ _ rfl ?_|refine Sub.slnil _ _ _ rfl ?_))))⟩
    have hc20:=bp hb20
    have hst:lkS s (fl||lsL p) q qs a lk= .inr ⟨splS (nodG s.files (lookL s.files a q).1).target++qs,a,⟨#[]⟩,a,true,lk+1⟩:=by unfold lkS;rw[if_neg (by simp[hc6]),if_neg (by omega),if_neg hc8,if_neg hc10,if_neg (by simp[hc12]),if_pos hlk,if_neg (by omega),if_neg (by simp[hc20])]
    refine kt_ (w_ (m_ (h:=ap_ (h:=m_ (h:=ap_ (h:=a_ (h:=e_ (w_ (l_ (h:=l_ (h:=bd_ (h:=s_ (h:=e_ (aw_exit (x_thenE (ABlock_out (?_)))))))))))))))))
    refine x_then ?_
    obtain⟨g1,g2,g3⟩:=(rstep (F:=fl||lsL p) (da:=da) (na:=na) (ea:=ea) hv.files h8).2 _ hst
    exact⟨_,_,g3,⟨_,_,g1,(by first|exact Nat.zero_le _|exact hq12),g2.symm.trans hT,rfl,Nat.le_trans (Nat.le_of_lt g3) hmq,rfl⟩,(by(try simp only[List.map_append]);exact weak_of 5 0 rfl rfl rfl rfl ((by repeat (first|exact Sub.nil|refine Sub.cons _ _ _ rfl rfl ?_|refine Sub.any _ _ ?_|refine Sub.sl _ _ _ _ _ rfl ?_|refine Sub.slnil _ _ _ rfl ?_))))⟩
   have hc18:=bp hb18
   have hlk:¬((nodG s.files (lookL s.files a q).1).kind=3∧(qs≠[]∨(fl||lsL p)=true)):=fun h=>by
    rw[decide_eq_true h.1,Bool.true_and,Bool.or_eq_false_iff]at hc18
    rcases h.2 with e|e
    ·exact e (List.eq_nil_of_length_eq_zero (by have:=of_decide_eq_false hc18.1;omega))
    rw[hc18.2]at e;cases e
   have hst:lkS s (fl||lsL p) q qs a lk= .inr ⟨qs,a,q,itD s s.mounts.length (lookL s.files a q).1,true,lk⟩:=by unfold lkS;rw[if_neg (by simp[hc6]),if_neg (by omega),if_neg hc8,if_neg hc10,if_neg (by simp[hc12]),if_neg hlk]
   refine kt_ (yk_ ([(0,spcA s),(3,filA a),(5,filA (lookL s.files a q).1)]) 6 (h:=dl_ 0 (h:=dm_ 1 (h:=dl_ 2 (h:=dl_ 3 (h:=?_))))))
   refine c_ 4 rfl (q_call (RdownS hs.b hv (lookL s.files a q).1) ?_)
   rintro r rfl
   refine o_ (h:=dbd_ 5 (h:=?_))
   refine c0_ 6 rfl (s_store rfl rfl rfl rfl rfl rfl (by repeat constructor) (by repeat constructor) ?_)
   refine o_ (h:=z_ (h:=x_blockN (?_)))
   refine x_then ?_
   obtain⟨g1,g2,g3⟩:=(rstep (F:=fl||lsL p) (da:=da) (na:=na) (ea:=ea) hv.files h8).2 _ hst
   exact⟨_,_,g3,⟨_,_,g1,(by first|exact Nat.zero_le _|exact hq12),g2.symm.trans hT,rfl,Nat.le_trans (Nat.le_of_lt g3) hmq,rfl⟩,(by(try simp only[List.map_append]);exact weak_of 5 0 rfl rfl rfl rfl ((by repeat (first|exact Sub.nil|refine Sub.cons _ _ _ rfl rfl ?_|refine Sub.any _ _ ?_|refine Sub.sl _ _ _ _ _ rfl ?_|refine Sub.slnil _ _ _ rfl ?_))))⟩
  have hc5:=bp hb5
  have hc5:¬(0:Int)<((ps0.map strA).length:Int):=hc5
  have e5:ps0=[]:=List.eq_nil_of_length_eq_zero (by omega)
  subst e5
  have hfin:=hT.symm.trans (lkT_nil (s:=s) (fl:=fl||lsL p) (σ:=⟨[],da,na,a,ea,lk⟩) rfl)
  refine aw_exit (x_thenE (x_thenE (ABlock_out (?_))))
  refine x_then ?_
  exact⟨_,⟨_,_,hfin,(by first|exact Nat.le_trans hna (by decide)|exact Nat.le_trans hq12 (by decide)),rfl⟩,(wk 5 0)⟩
 rintro t ⟨τ,d,hT,hnm,rfl⟩
 refine q_ (?_)
 refine aw_mid (⟨look [(4, .bp 0 0),(8, .bp 2 0),(12, .v (.bool (lsL p))),(14, .bp 4 0),(171, .v (.bool (lsL p&&(τ.ex&& !dirL s.files τ.file))))],⟨[spcA s,filA start,fndA fnd0,filA d,outA τ],[]⟩⟩) ?_ ?_
 ·skip
  refine aw_region (m_ (h:=m_ (h:=?_)))
  refine al_gs true rfl rfl (fun hb21=>?_) (fun hb21=>?_)
  ·have hc21:=bp hb21
   refine f_ (h:=l_ (h:=pt_ (h:=m_ (h:=?_))))
   refine al_gs true rfl rfl (fun hb22=>?_) (fun hb22=>?_)
   ·have hc22:=bp hb22
    have hx:τ.ex=true:=hb22
    refine f_ (h:=l_ (h:=f_ (h:=l_ (h:=?_))))
    refine g_y (q_call (Rdir s.files τ.file hs.b.files) ?_)
    rintro r rfl
    refine nt_ (h:=pt_ (h:=al_nil (?_)))
    refine x_then ?_
    first|(exfalso;first|contradiction|omega)|exact weak_of 5 0 rfl rfl rfl rfl (by repeat (first|exact Sub.nil|refine Sub.cons _ _ _ rfl rfl ?_|refine Sub.any _ _ ?_|refine Sub.sl _ _ _ _ _ rfl ?_|refine Sub.slnil _ _ _ rfl ?_|(apply Sub.of;(focus exact rfl);(focus exact LeA.of_eq (vb (by first|(rw[hb21];rfl)|(rw[hb21,hx];rfl))));(focus exact rfl))))
   have hc22:=bp hb22
   have hx:τ.ex=false:=hb22
   refine g0_ (h:=g0_ (h:=g0_ (h:=g0_ (h:=g0_ (h:=g0_ (h:=pf_ (h:=al_nil (?_))))))))
   refine x_then ?_
   first|(exfalso;first|contradiction|omega)|exact weak_of 5 0 rfl rfl rfl rfl (by repeat (first|exact Sub.nil|refine Sub.cons _ _ _ rfl rfl ?_|refine Sub.any _ _ ?_|refine Sub.sl _ _ _ _ _ rfl ?_|refine Sub.slnil _ _ _ rfl ?_|(apply Sub.of;(focus exact rfl);(focus exact LeA.of_eq (vb (by first|(rw[hb21];rfl)|(rw[hb21,hx];rfl))));(focus exact rfl))))
  have hc21:=bp hb21
  refine g0_ (h:=g0_ (h:=pf_ (h:=m_ (h:=g0_ (h:=g0_ (h:=g0_ (h:=g0_ (h:=g0_ (h:=g0_ (h:=pf_ (h:=al_nil (?_))))))))))))
  refine x_then ?_
  first|(exfalso;first|contradiction|omega)|exact weak_of 5 0 rfl rfl rfl rfl (by repeat (first|exact Sub.nil|refine Sub.cons _ _ _ rfl rfl ?_|refine Sub.any _ _ ?_|refine Sub.sl _ _ _ _ _ rfl ?_|refine Sub.slnil _ _ _ rfl ?_|(apply Sub.of;(focus exact rfl);(focus exact LeA.of_eq (vb (by first|(rw[hb21];rfl)|(rw[hb21,hx];rfl))));(focus exact rfl))))
 skip
 refine aw_cond rfl (fun hb23=>?_) (fun hb23=>?_)
 ·have hc23:=bp hb23
  refine w_ (bd_ (h:=s_ (h:=a_ (h:=e_ (aw_ret (x_thenR (?_)))))))
  refine e_ret ?_
  rw[find_slash hc1 (by omega) ha had hT (by simp only[Bool.and_eq_true,Bool.not_eq_true']at hc23;exact hc23)]
  rfl
 have hc23:=bp hb23
 refine kt_ (w_ (m_ (h:=f_ (h:=s_ (h:=e_ (q_ (w_ (l_ (h:=f_ (h:=l_ (h:=?_)))))))))))
 refine al_p rfl (q_call (Rwhere hs.b hv τ.dir) ?_)
 rintro r rfl
 refine m_ (h:=x_ (h:=x_ (h:=a_ (h:=a_ (h:=e_ (w_ (m_ (h:=e_ (?_)))))))))
 refine aw_cond rfl (fun hb24=>?_) (fun hb24=>?_)
 ·have hc24:=bp hb24
  refine w_ (m_ (h:=f_ (h:=s_ (h:=e_ (w_ (f_ (h:=l_ (h:=nq_ (h:=e_ (?_))))))))))
  refine aw_cond rfl (fun hb25=>?_) (fun hb25=>?_)
  ·have hc25:=bp hb25
   refine aw_region (m_ (h:=f_ (h:=l_ (h:=?_))))
   refine al_p rfl (q_call (RjoinR (whereP s τ.dir).1 τ.name (by have:=hw τ.dir;omega) (by omega)) ?_)
   rintro r rfl
   refine f_ (h:=s_ (h:=e_ (w_ (l_ (h:=s_ (h:=a_ (h:=e_ (aw_ret (?_)))))))))
   refine e_ret ?_
   rw[find_ok hc1 (by omega) ha had hT (fun h=>by rw[h.1,h.2.1,h.2.2]at hc23;cases hc23),show fndOf s (lsL p) τ=⟨τ.dir,τ.name,τ.file,τ.ex,lsL p,joinS (whereP s τ.dir).1 τ.name⟩ by unfold fndOf;rw[if_pos hc24,if_neg hc25]]
   rfl
  have hc25:=bp hb25
  refine kt_ (w_ (l_ (h:=s_ (h:=a_ (h:=e_ (aw_ret (?_)))))))
  refine e_ret ?_
  rw[find_ok hc1 (by omega) ha had hT (fun h=>by rw[h.1,h.2.1,h.2.2]at hc23;cases hc23),show fndOf s (lsL p) τ=⟨τ.dir,τ.name,τ.file,τ.ex,lsL p,(whereP s τ.dir).1⟩ by unfold fndOf;rw[if_pos hc24,if_pos hc25]]
  rfl
 have hc24:=bp hb24
 refine kt_ (w_ (l_ (h:=s_ (h:=a_ (h:=e_ (aw_ret (?_)))))))
 refine e_ret ?_
 rw[find_ok hc1 (by omega) ha had hT (fun h=>by rw[h.1,h.2.1,h.2.2]at hc23;cases hc23),show fndOf s (lsL p) τ=⟨τ.dir,τ.name,τ.file,τ.ex,lsL p,⟨#[]⟩⟩ by unfold fndOf;rw[if_neg (by simp[hc24])]]
 rfl
end
theorem fdG_le:∀(l:List Dsc) (k:Nat),fdG k l≤k+l.length
 |[],k=>Nat.le_refl _
 |d::l,k=>by
   unfold fdG
   split
   ·have:=fdG_le l (k+1);simp only[List.length_cons];omega
   omega
theorem drop_at{α:Type}{l:List α}{j:Nat}{x:α}(h:l[j]?=some x):l.drop j=x::l.drop (j+1):=by
 obtain⟨hl,rfl⟩:=List.getElem?_eq_some_iff.1 h
 exact List.drop_eq_getElem_cons hl
def prcX(p:Prc)(x:AV):List AV:=[.v (.int .i64 p.pid), .v (.int .i64 p.ppid), .v (.int .i64 p.uid), .v (.int .i64 p.euid), .v (.int .i64 p.gid), .v (.int .i64 p.egid), .v (.int .i64 p.auid), .v (.int .i64 p.ses), .v (.int .i64 p.cwd.1), .v (.int .i64 p.cwd.2), .v (.string p.comm), .v (.string p.exe),x, .v (.bool p.audited)]
theorem prcX_le(p:Prc)(rows:List (List AV))(g:Option Nat)(l:List Dsc)(h:rows=l.map dscA):LeA (.agg (prcX p (.sl 4 rows g))) (.agg (prcA {p with opens:=l})):=by
 subst h
 unfold prcX prcA
 repeat (first|exact LeA.refl _|exact LeA.tok _ _ _|refine LeA.agg ?_|exact LeL.nil|refine LeL.cons ?_ ?_)
def tabR3(R:Tab×Int×Int):AV:= .tup [.agg (tabA R.1), .v (.int .i64 R.2.1), .v (.int .i64 R.2.2)]
theorem taberr3_le(n e:Int):LeA (.tup [.agg zTab, .v (.int .i64 n), .v (.int .i64 e)]) (tabR3 (tab0,n,e)):=(by repeat (first|exact LeA.refl _|exact LeA.nil _|exact LeL.refl _|refine LeA.agg ?_|refine LeA.tup ?_|exact LeL.nil|refine LeL.cons ?_ ?_|exact LeA.any _))
def sysR(R:Syst×Int):AV:= .tup [.agg (sysA R.1), .v (.int .i64 R.2)]
def fndS(w:Wrk):AV:= .sl 8 (w.found.map fndA) none
section
set_option maxRecDepth 10000
set_option maxHeartbeats 2000000
theorem Ropen(t:Tab)(pid:Int)(a:Fil)(flags:Int)(ht:TabB t):AFn Tryz.prog 151 [.agg (tabA t), .v (.int .i64 pid), .agg (filA a), .v (.int .i64 flags)] (fun r=>r=tabR3 (openT t pid a flags)):=by
 have h8:=gotT_opens ht pid
 have hol:((gotT t pid).opens.map dscA).length=(gotT t pid).opens.length:=List.length_map _
 have hfl:fdG 0 (gotT t pid).opens≤(gotT t pid).opens.length:=by have:=fdG_le (gotT t pid).opens 0;omega
 refine enter Tryz.func151 rfl rfl rfl rfl rfl 0 rfl ?_
 refine w_ (b_ (h:=b_ (h:=al_ (h:=a_ (h:=a_ (h:=e_ (w_ (l_ (h:=m_ (h:=?_))))))))))
 refine al_p rfl (q_call (RgetT t pid ht) ?_)
 rintro r rfl
 refine m_ (h:=x_ (h:=x_ (h:=al_ (h:=s_ (h:=a_ (h:=e_ (q_ (w_ (m_ (h:=nt_ (h:=e_ (?_))))))))))))
 refine aw_cond rfl (fun hb1=>?_) (fun hb1=>?_)
 ·have hc1:=bp hb1
  refine w_ (bd_ (h:=s_ (h:=a_ (h:=a_ (h:=e_ (aw_ret (x_thenR (?_))))))))
  refine rt_ (r:=tabR3 (openT t pid a flags)) none (h5:=?_) (h6:=⟨rfl,rfl,rfl⟩)
  rw[openT,if_pos (by simpa using hc1)]
  exact taberr3_le _ _
 have hc1:=bp hb1
 have hhas:hasT t pid=true:=by simpa using hc1
 refine kt_ (q_ (w_ (f_ (h:=l_ (h:=n_ (h:=ge_ (h:=e_ (?_))))))))
 refine aw_cond rfl (fun hb2=>?_) (fun hb2=>?_)
 ·have hc2:=bp hb2
  refine w_ (bd_ (h:=s_ (h:=a_ (h:=a_ (h:=e_ (aw_ret (x_thenR (?_))))))))
  refine rt_ (r:=tabR3 (openT t pid a flags)) none (h5:=?_) (h6:=⟨rfl,rfl,rfl⟩)
  rw[openT,if_neg (by simp[hhas]),if_pos (by omega)]
  exact taberr3_le _ _
 have hc2:=bp hb2
 refine kt_ (w_ (a_ (h:=e_ (?_))))
 refine aw_midI (fun s=>s=⟨look [(3, .v (.int .i64 flags)),(4, .bp 0 0),(6, .bp 1 0),(8, .bp 2 0),(11, .bp 3 0),(13, .v (.int .i64 (fdG 0 (gotT t pid).opens:Nat)))],⟨[tabA t,filA a,zTab,prcA (gotT t pid)],[]⟩⟩) ?_ ?_
 ·skip
  refine aw_block (?_)
  refine aw_loopW (fun m s=>∃j:Nat,j≤(gotT t pid).opens.length∧m=(gotT t pid).opens.length - j∧fdG 0 (gotT t pid).opens=fdG j ((gotT t pid).opens.drop j)∧s=⟨look [(3, .v (.int .i64 flags)),(4, .bp 0 0),(6, .bp 1 0),(8, .bp 2 0),(11, .bp 3 0),(13, .v (.int .i64 (j:Int)))],⟨[tabA t,filA a,zTab,prcA (gotT t pid)],[]⟩⟩) ((gotT t pid).opens.length) ((wk 4 0)) (⟨0,Nat.zero_le _,rfl,rfl,rfl⟩) ?_
  rintro m s ⟨j,hj,rfl,hfd,rfl⟩
  refine q_ (w_ (m_ (h:=f_ (h:=l_ (h:=n_ (h:=lt_ (h:=m_ (h:=?_))))))))
  refine al_gs true rfl rfl (fun hb3=>?_) (fun hb3=>?_)
  ·have hc3:=bp hb3
   obtain⟨hlt,d,hy,hrow, -⟩:=row_at dscA hc3
   have hdr:=drop_at hy
   refine f_ (h:=l_ (h:=m_ (h:=i_ (h:=f_ (h:=l_ (h:=m_ (h:=eq_ (h:=pt_ (h:=e_ (?_))))))))))
   refine aw_cond rfl (fun hb4=>?_) (fun hb4=>?_)
   ·have hc4:=bp hb4
    have heq:d.fd=(j:Int):=by simpa using hc4
    refine kt_ (aw_block (aw_region (m_ (h:=ad_ (h:=a_ (h:=al_nil (x_blockN (?_))))))))
    refine x_then ?_
    refine⟨_,_,?_,⟨j+1,by omega,rfl,by rw[hfd,hdr,fdG,if_pos heq],rfl⟩,(wk 4 0)⟩
    omega
   have hc4:=bp hb4
   have hend:fdG 0 (gotT t pid).opens=j:=by rw[hfd,hdr,fdG,if_neg (by simpa using hc4)]
   refine aw_exit (x_thenE (x_thenE (ABlock_out (?_))))
   refine x_then ?_
   refine⟨_,rfl,?_⟩
   rw[hend]
   exact(wk 4 0)
  have hc3:=bp hb3
  have hend:fdG 0 (gotT t pid).opens=j:=by rw[hfd,row_no dscA hj hc3,List.drop_length];rfl
  refine g0_ (h:=g0_ (h:=g0_ (h:=g0_ (h:=g0_ (h:=g0_ (h:=g0_ (h:=g0_ (h:=pf_ (h:=e_ (cn_ (h:=aw_exit (x_thenE (x_thenE (ABlock_out (?_)))))))))))))))
  refine x_then ?_
  refine⟨_,rfl,?_⟩
  rw[hend]
  exact(wk 4 0)
 rintro s rfl
 refine w_ (f_ (h:=l_ (h:=m_ (h:=?_))))
 refine al_p rfl (st_sliceHi (k:=fdG 0 (gotT t pid).opens) rfl rfl rfl (by omega) ?_)
 first|refine al_p rfl (s_append rfl rfl rfl (by simp;omega) (by repeat constructor) ?_)|refine al_p rfl (s_append0 rfl rfl (by simp;omega) (by repeat constructor) ?_)
 refine a_ (h:=e_ (w_ (m_ (h:=m_ (h:=l_ (h:=m_ (h:=bd_ (h:=bs_ (h:=?_)))))))))
 first|refine al_p rfl (s_append rfl rfl rfl (by simp;omega) (by repeat constructor) ?_)|refine al_p rfl (s_append0 rfl rfl (by simp;omega) (by repeat constructor) ?_)
 refine a_ (h:=e_ (w_ (m_ (h:=f_ (h:=l_ (h:=m_ (h:=?_)))))))
 refine al_p rfl (st_sliceLo (l:=fdG 0 (gotT t pid).opens) rfl rfl rfl (by omega) ?_)
 first|refine al_p rfl (s_append rfl rfl rfl (by simp;omega) (by repeat constructor) ?_)|refine al_p rfl (s_append0 rfl rfl (by simp;omega) (by repeat constructor) ?_)
 refine f_ (h:=s_ (h:=e_ (w_ (l_ (h:=?_)))))
 refine al_p rfl (st_le (y:= .agg (prcA {gotT t pid with opens:=insD (gotT t pid).opens (fdG 0 (gotT t pid).opens) ⟨(fdG 0 (gotT t pid).opens:Nat),a,flags⟩})) (st_loadBW rfl rfl rfl ⟨rfl,rfl⟩) (prcX_le _ _ _ _ (by simp[insD,dscA];rfl)) ?_)
 refine al_p rfl (q_call (Rput t {gotT t pid with opens:=insD (gotT t pid).opens (fdG 0 (gotT t pid).opens) ⟨(fdG 0 (gotT t pid).opens:Nat),a,flags⟩} ht (hasT_pos hhas) (by simp[insD];omega)) ?_)
 rintro r rfl
 refine m_ (h:=s_ (h:=a_ (h:=a_ (h:=e_ (aw_ret (?_))))))
 refine e_ret ?_
 rw[openT,if_neg (by simp[hhas]),if_neg (by omega)];rfl
theorem RnewT(a:Fil):AFn Tryz.prog 85 [.agg (filA a)] (fun r=>r= .agg (tabA (tabN a))):=by
 refine enter Tryz.func85 rfl rfl rfl rfl rfl 0 rfl ?_
 refine w_ (b_ (h:=al_ (h:=e_ (w_ (l_ (h:=?_))))))
 refine al_p rfl (lf_ (y:= .agg (prcA ⟨1,0,0,0,0,0,4294967295,4294967295,a,⟨#[105,110,105,116]⟩,⟨#[47,105,110,105,116]⟩,[],true⟩)) (bz_ ⟨rfl,rfl⟩) ?_)
 refine bs_ (h:=bd_ (h:=s_ (h:=e_ (aw_ret (?_)))))
 refine e_ret ?_
 rfl
theorem RnewK(n:Int):AFn Tryz.prog 44 [.v (.int .i64 n)] (fun r=>r=sysR (sysN n)):=by
 refine enter Tryz.func44 rfl rfl rfl rfl rfl 0 rfl ?_
 refine w_ (al_ (h:=a_ (h:=e_ (w_ (m_ (h:=?_))))))
 refine al_p rfl (q_call (Rnew n) ?_)
 rintro r rfl
 refine m_ (h:=x_ (h:=x_ (h:=al_ (h:=s_ (h:=a_ (h:=e_ (q_ (w_ (m_ (h:=nq_ (h:=e_ (?_))))))))))))
 refine aw_cond rfl (fun hb1=>?_) (fun hb1=>?_)
 ·have hc1:=bp hb1
  refine w_ (bd_ (h:=m_ (h:=s_ (h:=a_ (h:=e_ (aw_ret (x_thenR (?_))))))))
  refine rt_ (r:=sysR (sysN n)) none (h5:=?_) (h6:=⟨rfl,rfl,rfl⟩)
  rw[sysN,if_pos (by simpa using hc1)]
  exact(by repeat (first|exact LeA.refl _|exact LeA.nil _|exact LeL.refl _|refine LeA.agg ?_|refine LeA.tup ?_|exact LeL.nil|refine LeL.cons ?_ ?_|exact LeA.any _))
 have hc1:=bp hb1
 refine kt_ (q_ (yk_ ([(1,flsA (newL n).1)]) 7 (h:=dl_ 0 (h:=dbd_ 1 (h:=dbd_ 2 (h:=?_))))))
 refine c_ 3 rfl (q_call (RnewT (0,1)) ?_)
 rintro r rfl
 refine o_ (h:=dbd_ 4 (h:=?_))
 refine c0_ 5 rfl (s_store rfl rfl rfl rfl rfl rfl (by repeat constructor) (by repeat constructor) ?_)
 refine o_ (h:=da_ 6 (h:=z_ (h:=t_ (aw_ret (?_)))))
 refine rt_ (r:=sysR (sysN n)) none (h5:=?_) (h6:=⟨rfl,rfl,rfl⟩)
 rw[sysN,if_neg (by simpa using hc1)]
 exact(by repeat (first|exact LeA.refl _|exact LeA.nil _|exact LeL.refl _|refine LeA.agg ?_|refine LeA.tup ?_|exact LeL.nil|refine LeL.cons ?_ ?_|exact LeA.any _))
theorem RcpK(s:Syst)(hs:SpcB s.spc)(ht:TabB s.tab):AFn Tryz.prog 64 [.agg (sysA s)] (fun r=>r= .agg (sysA s)):=by
 refine enter Tryz.func64 rfl rfl rfl rfl rfl 0 rfl ?_
 refine w_ (b_ (h:=al_ (h:=e_ (q_ (yk_ ([(0,sysA s)]) 7 (h:=df_ 0 (h:=?_)))))))
 first|refine dl_ 1 (h:=?_)|refine tk_ 1 rfl (fun _ hS=>st_loadBE (row:=sysA s) rfl (kb hS rfl) (Nat.le_of_ble_eq_true rfl) rfl ⟨rfl,rfl⟩) ?_
 refine df_ 3 (h:=?_)
 first|refine dl_ 4 (h:=?_)|refine tk_ 4 rfl (fun _ hS=>st_loadBE (row:=sysA s) rfl (kb hS rfl) (Nat.le_of_ble_eq_true rfl) rfl ⟨rfl,rfl⟩) ?_
 refine c_ 2 rfl (q_call (RspcF s.spc hs) ?_)
 rintro r rfl
 refine o_ (h:=?_)
 refine c_ 5 rfl (q_call (RcpT s.tab ht) ?_)
 rintro r rfl
 refine o_ (h:=dbd_ 6 (h:=?_))
 refine c0_ 7 rfl (s_store rfl rfl rfl rfl rfl rfl (by repeat constructor) (by repeat constructor) ?_)
 refine o_ (h:=z_ (h:=t_ (aw_ret (?_))))
 refine e_ret ?_
 rfl
theorem Ritem(s:Spc)(given:Str)(perm:Int)(f:Fnd)(hs:SpcB s):AFn Tryz.prog 112 [.agg (spcA s), .v (.string given), .v (.int .i64 perm), .agg (fndA f)] (fun r=>r= .agg (itmK (itemK s given perm f))):=by
 refine enter Tryz.func112 rfl rfl rfl rfl rfl 0 rfl ?_
 refine w_ (b_ (h:=b_ (h:=al_ (h:=e_ (w_ (f_ (h:=l_ (h:=f_ (h:=l_ (h:=?_))))))))))
 refine al_p rfl (q_call (Rnode s.files f.file hs.files) ?_)
 rintro r rfl
 refine m_ (h:=x_ (h:=x_ (h:=al_ (h:=s_ (h:=a_ (h:=e_ (w_ (m_ (h:=f_ (h:=l_ (h:=f_ (h:=l_ (h:=f_ (h:=l_ (h:=f_ (h:=l_ (h:=f_ (h:=l_ (h:=f_ (h:=l_ (h:=f_ (h:=l_ (h:=f_ (h:=?_))))))))))))))))))))))))
 refine l_ (h:=m_ (h:=bd_ (h:=s_ (h:=e_ (aw_ret (?_))))))
 refine e_ret ?_
 rfl
theorem Rmayw(w:Wrk)(its:AV)(a:Fil)(want:Int)(hs:SpcB w.s.spc):AFn Tryz.prog 149 [.fp (wrkA w (fndS w) its), .agg (filA a), .v (.int .i64 want)] (fun r=>r= .v (.bool (mayW w a want))):=by
 refine enter Tryz.func149 rfl rfl rfl rfl rfl 0 rfl ?_
 refine w_ (b_ (h:=a_ (h:=e_ (q_ (yk_ ([(0,filA a)]) 14 (h:=dm_ 0 (h:=dk_ 1 (h:=df_ 2 (h:=df_ 3 (h:=df_ 4 (h:=dl_ 5 (h:=dl_ 6 (h:=?_)))))))))))))
 refine c2_ 7 11 rfl rfl ?_ ?_
 ·refine q_call (Rnode w.s.spc.files a hs.files) ?_
  rintro r rfl
  refine o_ (h:=?_)
  refine dm_ 8 (h:=dx_ 9 (h:=dx_ 10 (h:=?_)))
  refine c_ 11 rfl (s_alloc (by repeat constructor) ?_)
  refine o_ (h:=?_)
  refine c0_ 12 rfl (s_store rfl rfl rfl rfl rfl rfl (by repeat constructor) (by repeat constructor) ?_)
  refine o_ (h:=da_ 13 (h:=z_ (h:=t_ (q_ (yr_ 14 (h:=dl_ 0 (h:=dm_ 1 (h:=dk_ 2 (h:=df_ 3 (h:=df_ 4 (h:=dl_ 5 (h:=dm_ 6 (h:=dk_ 7 (h:=df_ 8 (h:=df_ 9 (h:=dl_ 10 (h:=dm_ 11 (h:=?_))))))))))))))))))
  refine c_ 12 rfl (q_call (Rmay (nodG w.s.spc.files a) w.p.euid w.p.egid want) ?_)
  rintro r rfl
  refine o_ (h:=da_ 13 (h:=z_ (h:=t_ (aw_ret (?_)))))
  refine e_ret ?_
  rfl
 refine s_alloc (by repeat constructor) ?_
 refine o_ (h:=?_)
 refine c_ 7 rfl (q_call (Rnode w.s.spc.files a hs.files) ?_)
 rintro r rfl
 refine o_ (h:=dm_ 8 (h:=dx_ 9 (h:=dx_ 10 (h:=?_))))
 refine c0_ 12 rfl (s_store rfl rfl rfl rfl rfl rfl (by repeat constructor) (by repeat constructor) ?_)
 refine o_ (h:=da_ 13 (h:=z_ (h:=t_ (q_ (yr_ 14 (h:=dl_ 0 (h:=dm_ 1 (h:=dk_ 2 (h:=df_ 3 (h:=df_ 4 (h:=dl_ 5 (h:=dm_ 6 (h:=dk_ 7 (h:=df_ 8 (h:=df_ 9 (h:=dl_ 10 (h:=dm_ 11 (h:=?_))))))))))))))))))
 refine c_ 12 rfl (q_call (Rmay (nodG w.s.spc.files a) w.p.euid w.p.egid want) ?_)
 rintro r rfl
 refine o_ (h:=da_ 13 (h:=z_ (h:=t_ (aw_ret (?_)))))
 refine e_ret ?_
 rfl
theorem Rdirw(w:Wrk)(its:AV)(i:Nat)(f:Fnd)(hs:SpcB w.s.spc)(hf:w.found[i]?=some f):AFn Tryz.prog 153 [.fp (wrkA w (fndS w) its), .v (.int .i64 (i:Int))] (fun r=>r= .v (.bool (dirL w.s.spc.files f.file))):=by
 have hrow:(w.found.map fndA)[i]?=some (fndA f):=by rw[List.getElem?_map,hf];rfl
 refine enter Tryz.func153 rfl rfl rfl rfl rfl 0 rfl ?_
 refine w_ (a_ (h:=e_ (q_ (yr_ 16 (h:=dm_ 0 (h:=dk_ 1 (h:=df_ 2 (h:=df_ 3 (h:=df_ 4 (h:=dl_ 5 (h:=dm_ 6 (h:=dk_ 7 (h:=df_ 8 (h:=dl_ 9 (h:=dm_ 10 (h:=di_ 11 (h:=df_ 12 (h:=dl_ 13 (h:=?_)))))))))))))))))))
 refine c_ 14 rfl (q_call (Rdir w.s.spc.files f.file hs.files) ?_)
 rintro r rfl
 refine o_ (h:=da_ 15 (h:=z_ (h:=t_ (aw_ret (?_)))))
 refine e_ret ?_
 rfl
theorem Rusedw(w:Wrk)(its:AV)(a:Fil)(hs:SpcB w.s.spc)(hp:w.s.tab.ps.length≤1000):AFn Tryz.prog 156 [.fp (wrkA w (fndS w) its), .agg (filA a)] (fun r=>r= .v (.bool (usedW w a))):=by
 refine enter Tryz.func156 rfl rfl rfl rfl rfl 0 rfl ?_
 refine w_ (b_ (h:=a_ (h:=e_ (q_ (q_ (yr_ 7 (h:=dm_ 0 (h:=dk_ 1 (h:=df_ 2 (h:=df_ 3 (h:=dl_ 4 (h:=dl_ 5 (h:=?_)))))))))))))
 refine c_ 6 rfl (q_call (Rcovered w.s.spc a hs) ?_)
 rintro r rfl
 refine o_ (h:=z_ (h:=t_ (?_)))
 refine aw_cond rfl (fun hb1=>?_) (fun hb1=>?_)
 ·have hc1:=bp hb1
  refine w_ (a_ (h:=e_ (aw_ret (x_thenR (?_)))))
  refine e_ret ?_
  first|(exfalso;first|contradiction|omega)|(exact vb (by simp[usedW,*]))
 have hc1:=bp hb1
 refine kt_ (q_ (w_ (a_ (h:=e_ (aw_block (?_))))))
 refine aw_loopW (fun m s=>∃j:Nat,j≤w.s.tab.ps.length∧m=w.s.tab.ps.length - j∧(∀i y,i<j→w.s.tab.ps[i]?=some y→decide (y.cwd=a)=false)∧s=⟨look [(0, .fp (wrkA w (fndS w) its)),(3, .bp 0 0),(5, .v (.int .i64 (j:Int)))],⟨[filA a],[]⟩⟩) (w.s.tab.ps.length) ((wk 1 0)) (⟨0,Nat.zero_le _,rfl,fun i y hi=>by omega,rfl⟩) ?_
 rintro m s ⟨j,hj,rfl,ha,rfl⟩
 refine q_ (w_ (m_ (h:=m_ (h:=k_ (h:=f_ (h:=f_ (h:=f_ (h:=l_ (h:=n_ (h:=lt_ (h:=e_ (?_))))))))))))
 refine aw_cond rfl (fun hb2=>?_) (fun hb2=>?_)
 ·have hc2:=bp hb2
  obtain⟨hlt,p,hy,hrow, -⟩:=row_at prcA hc2
  refine kt_ (q_ (aw_block (q_ (yr_ 12 (h:=dm_ 0 (h:=dk_ 1 (h:=df_ 2 (h:=df_ 3 (h:=df_ 4 (h:=dl_ 5 (h:=dm_ 6 (h:=di_ 7 (h:=df_ 8 (h:=dl_ 9 (h:=dl_ 10 (h:=?_))))))))))))))))
  refine r_y (i:=11) rfl (st_binA rfl rfl (by repeat constructor) (by repeat constructor) (fun w=>eqlFil _ _ _ _ w) (by kernel_rfl) ⟨rfl,rfl⟩) ?_
  refine z_ (h:=t_ (?_))
  refine aw_cond rfl (fun hb3=>?_) (fun hb3=>?_)
  ·have hc3:=bp hb3
   have hany:(w.s.tab.ps.any fun p=>decide (p.cwd=a))=true:=any_at hy (decide_eq_true hc3)
   refine w_ (a_ (h:=e_ (aw_ret (x_blockR (x_thenR (x_thenR (x_blockR (x_thenR (?_)))))))))
   refine e_ret ?_
   first|(exfalso;first|contradiction|omega)|(exact vb (by simp[usedW,*]))
  have hc3:=bp hb3
  have hne:decide (p.cwd=a)=false:=decide_eq_false hc3
  refine aw_skip (x_blockN (t_ (aw_region (m_ (h:=ad_ (h:=a_ (h:=al_nil (?_))))))))
  refine x_then ?_
  refine⟨_,_,?_,⟨j+1,by omega,rfl,upto_snoc hy ha hne,rfl⟩,(wk 1 0)⟩
  omega
 have hc2:=bp hb2
 have e:=row_no prcA hj hc2
 have hany:(w.s.tab.ps.any fun p=>decide (p.cwd=a))=false:=any_no (by rw[←e];exact ha)
 refine aw_exit (x_thenE (x_thenE (ABlock_out (t_ (w_ (a_ (h:=e_ (aw_ret (?_)))))))))
 refine e_ret ?_
 first|(exfalso;first|contradiction|omega)|(exact vb (by simp[usedW,*]))
end
theorem LB_last{α:Type}{sz:Nat}{F:α→List AV}(hF:RowF sz F){l:List α}{j cap:Nat}{x x':α}(h:l.length=j):SetAt (LB sz F (l++[x]) cap) (0+j * sz) (F x') (LB sz F (l++[x']) cap):=by
 have h1:(l++[x])[j]?=some x:=by rw[←h];simp
 have h2:(l++[x]).set j x'=l++[x']:=by rw[←h];simp
 have key:=LB_put hF (cap:=cap) (x':=x') h1
 rwa [h2]at key
theorem ni1{is:List Nat}:∀i,i<1→(0::is)[i]?=some i:=by
 intro i hi
 obtain rfl:i=0:=by omega
 rfl
theorem weak_box{f:Nat→Option AV}{bx:List (List AV)}{tk:List Tok}{N:Dim}(i:Nat){row row':List AV}(hi:bx[i]?=some row)(hle:LeL row row'):Weak N ⟨f,⟨bx,tk⟩⟩ ⟨f,⟨bx.set i row',tk⟩⟩:=by
 rintro E a w ⟨G,h1,h2,h3⟩
 exact⟨G,h1.boxLe hi (fun us hu=>hle G w us hu),h2,h3⟩
theorem wrk_tok(w:Wrk)(rows:List (List AV))(g:Option Nat)(I:AV):LeL (wrkA w (.sl 8 rows g) I) (wrkA w (.sl 8 rows none) I):=by
 unfold wrkA
 repeat (first|exact LeL.nil|refine LeL.cons (LeA.refl _) ?_|refine LeL.cons (LeA.tok _ _ _) ?_)
theorem bp_wrk{n m:Nat}(w:Wrk)(F I:AV):bpLtL n m (wrkA w F I)=(bpLt n m F&&bpLt n m I):=by
 simp[wrkA,bpLtL,bpLt]
def fdT(l:List Fnd):AV:= .sl 8 (l.map fndA) (some 0)
def LKj(w:Wrk)(e:Int)(j:Nat):List Itm×List Fnd×Int:=lookK w.s.spc w.p.cwd (folK w.c) ((w.c.paths.zip (permL w.c)).take j) e
def LK(w:Wrk)(e:Int):List Itm×List Fnd×Int:=lookK w.s.spc w.p.cwd (folK w.c) (w.c.paths.zip (permL w.c)) e
theorem LKj_succ{w:Wrk}{e:Int}{j:Nat}{g:Str×Int}(h:(w.c.paths.zip (permL w.c))[j]?=some g):LKj w e (j+1)=lookS w.s.spc w.p.cwd (folK w.c) (LKj w e j) g:=by
 unfold LKj lookK
 rw[List.take_add_one,h,List.foldl_append]
 rfl
theorem LKj_end{w:Wrk}{e:Int}{j:Nat}(h:(w.c.paths.zip (permL w.c)).length≤j):LKj w e j=LK w e:=by
 unfold LKj LK
 rw[List.take_of_length_le h]
def WA(w:Wrk)(cap:Nat):List AV:=wrkA w (fndS w) (.bs 1 0 13 w.r.items.length cap)
def IB(w:Wrk)(cap:Nat):List AV:=LB 13 itmK w.r.items cap
theorem back_W{bx:List (List AV)}{a b:List AV}{rest:List (List AV)}(hb:bx=a::b::rest)(w:Wrk)(cap:Nat):Back bx [0,1] [WA w cap,IB w cap] (WA w cap::IB w cap::rest):=by
 subst hb
 have:=back_F (bx:=a::b::rest) (is:=[0,1]) (bc:=[WA w cap,IB w cap]) (by simp) (by simp) (by simp)
 have e1:renL (backS [0,1] (a::b::rest).length) (WA w cap)=WA w cap:=rfl
 have e2:renL (backS [0,1] (a::b::rest).length) (IB w cap)=IB w cap:=ren_LB itmF _ _ _
 have hb:backF (a::b::rest) (backS [0,1] (a::b::rest).length) [0,1] [WA w cap,IB w cap]=WA w cap::IB w cap::rest:=by
  unfold backF
  rw[e1]
  unfold backF
  rw[e2]
  simp[backF]
 rw[hb]at this
 exact this
section
set_option maxRecDepth 10000
set_option maxHeartbeats 4000000
theorem Rlookw(w:Wrk)(e:Int)(hv:SpcV w.s.spc)(hm:w.s.spc.mounts.length≤1000)(hp:w.c.paths.length=(permL w.c).length)(hpl:w.c.paths.length≤1000)(h0:0<w.c.paths.length)(hps:∀p∈w.c.paths,p.size≤100000):
    ACall Tryz.prog 66 [.bp 0 0, .v (.int .i64 e)] [wrkA w (.v (.slice none 0 0)) (.v (.slice none 0 0))] (fun r b t=>t=[]∧∃cap,(LK w e).1.length≤cap∧r= .v (.int .i64 (LK w e).2.2)∧b=[wrkA w (.sl 8 ((LK w e).2.1.map fndA) none) (.bs 1 0 13 (LK w e).1.length cap),LB 13 itmK (LK w e).1 cap]):=by
 have hsb:=hv.b hm
 have hsn:=hv.n hm
 refine enter Tryz.func66 rfl rfl rfl rfl rfl 2 rfl ?_
 refine w_ (a_ (h:=e_ (w_ (m_ (h:=k_ (h:=f_ (h:=l_ (h:=?_))))))))
 refine al_p rfl (q_call (Rperms w.c) ?_)
 rintro r rfl
 refine a_ (h:=e_ (?_))
 refine aw_midI (fun s=>∃cap,(LK w e).1.length≤cap∧s=⟨look [(1, .v (.int .i64 (LK w e).2.2))],⟨[wrkA w (.sl 8 ((LK w e).2.1.map fndA) none) (.bs 1 0 13 (LK w e).1.length cap),LB 13 itmK (LK w e).1 cap],[]⟩⟩) ?_ ?_
 ·skip
  refine w_ (a_ (h:=e_ (aw_block (?_))))
  refine aw_nilTokB 0 26 113 8 rfl rfl (by repeat constructor) (by repeat constructor) (by repeat constructor) ?_
  refine aw_loopW (fun m s=>∃(j:Nat) (X:List Itm×List Fnd×Int) (Y:AV) (Z:List (List AV)),j≤w.c.paths.length∧m=w.c.paths.length - j∧LKj w e j=X∧X.1.length=j∧X.2.1.length=j∧((Y= .v (.slice none 0 0)∧Z=[]∧X.1=[])∨∃cap,X.1.length≤cap∧Y= .bs 1 0 13 X.1.length cap∧Z=[LB 13 itmK X.1 cap])∧s=⟨look [(0, .bp 0 0),(1, .v (.int .i64 X.2.2)),(5, .sl 1 ((permL w.c).map intA) none),(6, .v (.int .i64 (j:Int)))],⟨wrkA w (fdT X.2.1) Y::Z,[(113,8,X.2.1.map fndA)]⟩⟩) (w.c.paths.length) ((wk 1 1)) (⟨0,([],[],e),_,_,Nat.zero_le _,rfl,rfl,rfl,rfl, .inl ⟨rfl,rfl,rfl⟩,rfl⟩) ?_
  rintro m s ⟨j,X,Y,Z,hj,rfl,hX,hl1,hl2,hYZ,rfl⟩
  refine q_ (w_ (m_ (h:=m_ (h:=k_ (h:=f_ (h:=f_ (h:=l_ (h:=n_ (h:=lt_ (h:=e_ (?_)))))))))))
  refine aw_cond rfl (fun hb1=>?_) (fun hb1=>?_)
  ·have hc1:=bp hb1
   obtain⟨hlt,y,hy,hrow, -⟩:=row_at stK hc1
   obtain⟨pj,hpj⟩:∃z,(permL w.c)[j]?=some z:=⟨_,List.getElem?_eq_getElem (by omega)⟩
   have hrow2:((permL w.c).map intA)[j]?=some (intA pj):=by rw[List.getElem?_map,hpj];rfl
   have hz:(w.c.paths.zip (permL w.c))[j]?=some (y,pj):=List.getElem?_zip_eq_some.2 ⟨hy,hpj⟩
   have hk:=LKj_succ (e:=e) hz
   rw[hX]at hk
   have hys:=hps y (List.mem_of_getElem? hy)
   refine kt_ (q_ (aw_block (?_)))
   refine aw_midI (fun s=>∃cap,X.1.length+1≤cap∧s=⟨look [(0, .bp 0 0),(1, .v (.int .i64 X.2.2)),(5, .sl 1 ((permL w.c).map intA) none),(6, .v (.int .i64 (j:Int)))],⟨[wrkA w (fdT X.2.1) (.bs 1 0 13 (X.1.length+1) cap),LB 13 itmK (X.1++[item0 y pj]) cap],[(113,8,X.2.1.map fndA)]⟩⟩) ?_ ?_
   ·rcases hYZ with⟨rfl,rfl,hX0⟩|⟨cap,hcp,rfl,rfl⟩
    ·skip
     refine yk_ ([(0,wrkA w (fdT X.2.1) (.v (.slice none 0 0)))]) 24 (h:=dm_ 0 (h:=dm_ 1 (h:=dk_ 2 (h:=df_ 3 (h:=df_ 4 (h:=dl_ 5 (h:=dm_ 6 (h:=dk_ 7 (h:=df_ 8 (h:=df_ 9 (h:=dl_ 10 (h:=dm_ 11 (h:=di_ 12 (h:=dl_ 13 (h:=dm_ 14 (h:=dm_ 15 (h:=di_ 16 (h:=dl_ 17 (h:=?_)))))))))))))))))))
     refine tk_ 18 rfl (fun _ hS=>st_le (y:= .agg (itmK (item0 y pj))) (bz_ ⟨rfl,rfl⟩) (LeA.refl _) ⟨rfl,rfl⟩) ?_
     refine dbs_ 19 (h:=?_)
     refine c_ 20 rfl (st_append0B rfl rfl src1 (by omega) (by omega) ?_)
     rintro cap2 k bx2 hcp hs
     rw[show cellsA (.agg (itmK (item0 y pj)))++List.replicate ((cap2 - 1) * 13) AV.any=LB 13 itmK [item0 y pj] cap2 from LB_first itmF _ cap2]at hs
     obtain⟨rfl,rfl⟩:k=1∧bx2=[_,_]:=hs.eq
     refine o_ (h:=?_)
     refine dk_ 21 (h:=df_ 22 (h:=df_ 23 (h:=?_)))
     refine c0_ 24 rfl (s_store rfl rfl rfl rfl rfl rfl (by repeat constructor) (by repeat constructor) ?_)
     refine o_ (h:=z_ (h:=?_))
     refine x_then ?_
     refine⟨_,⟨cap2,by rw[hX0];exact hcp,rfl⟩,?_⟩
     rw[hX0]
     exact wb_ 2 1 (by simp[bpLtB,bpLtL,bpLt,bp_LB itmF,bp_wrk,fdT])
    skip
    refine yk_ ([(0,wrkA w (fdT X.2.1) (.bs 1 0 13 X.1.length cap))]) 24 (h:=dm_ 0 (h:=dm_ 1 (h:=dk_ 2 (h:=df_ 3 (h:=df_ 4 (h:=dl_ 5 (h:=dm_ 6 (h:=dk_ 7 (h:=df_ 8 (h:=df_ 9 (h:=dl_ 10 (h:=dm_ 11 (h:=di_ 12 (h:=dl_ 13 (h:=dm_ 14 (h:=dm_ 15 (h:=di_ 16 (h:=dl_ 17 (h:=?_)))))))))))))))))))
    refine tk_ 18 rfl (fun _ hS=>st_le (y:= .agg (itmK (item0 y pj))) (bz_ ⟨rfl,rfl⟩) (LeA.refl _) ⟨rfl,rfl⟩) ?_
    refine dbs_ 19 (h:=?_)
    refine c_ 20 rfl (st_appendB rfl rfl rfl (by rw[LB_len itmF hcp];omega) src1 (by omega) (by omega) ?_ ?_)
    ·rintro hg row2 bx2 hs hb
     obtain rfl:=LB_push itmF hs hg
     obtain rfl:bx2=[_,_]:=hb.one.2
     refine o_ (h:=?_)
     refine dk_ 21 (h:=df_ 22 (h:=df_ 23 (h:=?_)))
     refine c0_ 24 rfl (s_store rfl rfl rfl rfl rfl rfl (by repeat constructor) (by repeat constructor) ?_)
     refine o_ (h:=z_ (h:=?_))
     refine x_then ?_
     first|exact⟨_,⟨cap,hg,rfl⟩,wb_ 2 1 (by simp[bpLtB,bpLtL,bpLt,bp_LB itmF,bp_wrk,fdT])⟩|exact⟨_,⟨cap3,hcp3,rfl⟩,weak_ren [0,2] ni1 (by decide) (.cons _ _ _ _ _ rfl rfl (.cons _ _ _ _ _ rfl (renK_LB itmF _ _ _) .nil)) (by repeat (first|exact SubK.nil|refine SubK.cons _ _ _ _ rfl (LeA.refl _) ?_))⟩
    rintro hg cap3 k bx2 hcp3 hs
    rw[show((LB 13 itmK X.1 cap).drop 0).take (X.1.length * 13)++cellsA (.agg (itmK (item0 y pj)))++List.replicate ((cap3 - (X.1.length+1)) * 13) AV.any=LB 13 itmK (X.1++[item0 y pj]) cap3 from LB_new itmF X.1 _ cap cap3]at hs
    obtain⟨rfl,rfl⟩:k=2∧bx2=[_,_,_]:=hs.eq
    refine o_ (h:=?_)
    refine dk_ 21 (h:=df_ 22 (h:=df_ 23 (h:=?_)))
    refine c0_ 24 rfl (s_store rfl rfl rfl rfl rfl rfl (by repeat constructor) (by repeat constructor) ?_)
    refine o_ (h:=z_ (h:=?_))
    refine x_then ?_
    first|exact⟨_,⟨cap,hg,rfl⟩,wb_ 2 1 (by simp[bpLtB,bpLtL,bpLt,bp_LB itmF,bp_wrk,fdT])⟩|exact⟨_,⟨cap3,hcp3,rfl⟩,weak_ren [0,2] ni1 (by decide) (.cons _ _ _ _ _ rfl rfl (.cons _ _ _ _ _ rfl (renK_LB itmF _ _ _) .nil)) (by repeat (first|exact SubK.nil|refine SubK.cons _ _ _ _ rfl (LeA.refl _) ?_))⟩
   rintro s ⟨cap,hcp,rfl⟩
   refine w_ (al_ (h:=e_ (?_)))
   refine aw_midI (fun s=>∃(it:Itm) (F:Fnd) (e2:Int),lookS w.s.spc w.p.cwd (folK w.c) X (y,pj)=(X.1++[it],X.2.1++[F],e2)∧s=⟨look [(0, .bp 0 0),(1, .v (.int .i64 e2)),(5, .sl 1 ((permL w.c).map intA) none),(6, .v (.int .i64 (j:Int))),(7, .bp 2 0)],⟨[wrkA w (fdT X.2.1) (.bs 1 0 13 (X.1.length+1) cap),LB 13 itmK (X.1++[it]) cap,fndA F],[(113,8,X.2.1.map fndA)]⟩⟩) ?_ ?_
   ·skip
    refine w_ (m_ (h:=eq_ (h:=e_ (?_))))
    refine aw_cond rfl (fun hb2=>?_) (fun hb2=>?_)
    ·have hc2:=bp hb2
     have he0:X.2.2=0:=by simpa using hc2
     refine q_ (yk_ ([(0,wrkA w (fdT X.2.1) (.bs 1 0 13 (X.1.length+1) cap)),(1,LB 13 itmK (X.1++[item0 y pj]) cap)]) 29 (h:=dm_ 0 (h:=dk_ 1 (h:=df_ 2 (h:=df_ 3 (h:=dl_ 4 (h:=dm_ 5 (h:=dk_ 6 (h:=df_ 7 (h:=df_ 8 (h:=dl_ 9 (h:=dm_ 10 (h:=dk_ 11 (h:=df_ 12 (h:=df_ 13 (h:=dl_ 14 (h:=dm_ 15 (h:=di_ 16 (h:=dl_ 17 (h:=dm_ 18 (h:=dk_ 19 (h:=df_ 20 (h:=dl_ 21 (h:=?_))))))))))))))))))))))))
     refine c_ 22 rfl (q_call (Rfollows w.c) ?_)
     rintro r rfl
     refine o_ (h:=?_)
     refine c_ 23 rfl (q_call (Rfind7 w.s.spc w.p.cwd y (folK w.c) hsn hv hys) ?_)
     rintro r rfl
     refine o_ (h:=dm_ 24 (h:=dx_ 25 (h:=dx_ 26 (h:=?_))))
     refine c0_ 27 rfl (s_store rfl rfl rfl rfl rfl rfl (by repeat constructor) (by repeat constructor) ?_)
     refine o_ (h:=da_ 28 (h:=z_ (h:=t_ (w_ (m_ (h:=eq_ (h:=e_ (?_))))))))
     refine aw_cond rfl (fun hb3=>?_) (fun hb3=>?_)
     ·have hc3:=bp hb3
      have hf0:(findL w.s.spc w.p.cwd y (folK w.c)).2=0:=by simpa using hc3
      refine yk_ ([(0,wrkA w (fdT X.2.1) (.bs 1 0 13 (X.1.length+1) cap)),(1,LB 13 itmK (X.1++[item0 y pj]) cap),(2,fndA (findL w.s.spc w.p.cwd y (folK w.c)).1)]) 26 (h:=dm_ 0 (h:=dk_ 1 (h:=df_ 2 (h:=df_ 3 (h:=dl_ 4 (h:=dm_ 5 (h:=dm_ 6 (h:=dk_ 7 (h:=df_ 8 (h:=df_ 9 (h:=dl_ 10 (h:=dm_ 11 (h:=dk_ 12 (h:=df_ 13 (h:=df_ 14 (h:=dl_ 15 (h:=dm_ 16 (h:=di_ 17 (h:=dl_ 18 (h:=dm_ 19 (h:=dm_ 20 (h:=di_ 21 (h:=dl_ 22 (h:=?_))))))))))))))))))))))))
      refine dl_ 23 (h:=?_)
      refine c_ 24 rfl (q_call (Ritem w.s.spc y pj (findL w.s.spc w.p.cwd y (folK w.c)).1 hsb) ?_)
      rintro r rfl
      refine o_ (h:=?_)
      refine tk_ 25 rfl (fun _ hS=>st_indexS (m:=j) rfl rfl rfl (by omega) ⟨rfl,rfl⟩) ?_
      refine c0_ 26 rfl (s_store rfl rfl rfl rfl rfl rfl (LB_last itmF hl1) (by repeat constructor) ?_)
      refine o_ (h:=z_ (h:=?_))
      refine x_then ?_
      first|exact⟨_,⟨itemK w.s.spc y pj (findL w.s.spc w.p.cwd y (folK w.c)).1,(findL w.s.spc w.p.cwd y (folK w.c)).1,(findL w.s.spc w.p.cwd y (folK w.c)).2,(by rw[lookS,if_pos he0,if_pos hf0,hf0]),rfl⟩,wb_ 3 1 (by simp[bpLtB,bpLtL,bpLt,bp_LB itmF,bp_wrk,fdT,fndA])⟩|exact⟨_,⟨item0 y pj,(findL w.s.spc w.p.cwd y (folK w.c)).1,(findL w.s.spc w.p.cwd y (folK w.c)).2,(by rw[lookS,if_pos he0,if_neg hf0]),rfl⟩,wb_ 3 1 (by simp[bpLtB,bpLtL,bpLt,bp_LB itmF,bp_wrk,fdT,fndA])⟩|exact⟨_,⟨item0 y pj,fnd0,X.2.2,(by rw[lookS,if_neg he0]),rfl⟩,wb_ 3 1 (by simp[bpLtB,bpLtL,bpLt,bp_LB itmF,bp_wrk,fdT,fndA])⟩
     have hc3:=bp hb3
     have hf0:¬(findL w.s.spc w.p.cwd y (folK w.c)).2=0:=by simpa using hc3
     refine aw_skip (?_)
     refine x_then ?_
     first|exact⟨_,⟨itemK w.s.spc y pj (findL w.s.spc w.p.cwd y (folK w.c)).1,(findL w.s.spc w.p.cwd y (folK w.c)).1,(findL w.s.spc w.p.cwd y (folK w.c)).2,(by rw[lookS,if_pos he0,if_pos hf0,hf0]),rfl⟩,wb_ 3 1 (by simp[bpLtB,bpLtL,bpLt,bp_LB itmF,bp_wrk,fdT,fndA])⟩|exact⟨_,⟨item0 y pj,(findL w.s.spc w.p.cwd y (folK w.c)).1,(findL w.s.spc w.p.cwd y (folK w.c)).2,(by rw[lookS,if_pos he0,if_neg hf0]),rfl⟩,wb_ 3 1 (by simp[bpLtB,bpLtL,bpLt,bp_LB itmF,bp_wrk,fdT,fndA])⟩|exact⟨_,⟨item0 y pj,fnd0,X.2.2,(by rw[lookS,if_neg he0]),rfl⟩,wb_ 3 1 (by simp[bpLtB,bpLtL,bpLt,bp_LB itmF,bp_wrk,fdT,fndA])⟩
    have hc2:=bp hb2
    have he0:¬X.2.2=0:=by simpa using hc2
    refine aw_skip (?_)
    refine x_then ?_
    first|exact⟨_,⟨itemK w.s.spc y pj (findL w.s.spc w.p.cwd y (folK w.c)).1,(findL w.s.spc w.p.cwd y (folK w.c)).1,(findL w.s.spc w.p.cwd y (folK w.c)).2,(by rw[lookS,if_pos he0,if_pos hf0,hf0]),rfl⟩,wb_ 3 1 (by simp[bpLtB,bpLtL,bpLt,bp_LB itmF,bp_wrk,fdT,fndA])⟩|exact⟨_,⟨item0 y pj,(findL w.s.spc w.p.cwd y (folK w.c)).1,(findL w.s.spc w.p.cwd y (folK w.c)).2,(by rw[lookS,if_pos he0,if_neg hf0]),rfl⟩,wb_ 3 1 (by simp[bpLtB,bpLtL,bpLt,bp_LB itmF,bp_wrk,fdT,fndA])⟩|exact⟨_,⟨item0 y pj,fnd0,X.2.2,(by rw[lookS,if_neg he0]),rfl⟩,wb_ 3 1 (by simp[bpLtB,bpLtL,bpLt,bp_LB itmF,bp_wrk,fdT,fndA])⟩
   rintro s ⟨it,F,e2,hlk,rfl⟩
   refine yk_ ([(0,wrkA w (fdT X.2.1) (.bs 1 0 13 (X.1.length+1) cap)),(2,fndA F)]) 10 (h:=dm_ 0 (h:=dm_ 1 (h:=dk_ 2 (h:=df_ 3 (h:=dl_ 4 (h:=dl_ 5 (h:=dbs_ 6 (h:=?_))))))))
   first|refine c_ 7 rfl (s_append rfl rfl rfl (by simp;omega) (by repeat constructor) ?_)|refine c_ 7 rfl (s_append0 rfl rfl (by simp;omega) (by repeat constructor) ?_)
   refine o_ (h:=dk_ 8 (h:=df_ 9 (h:=?_)))
   refine c0_ 10 rfl (s_store rfl rfl rfl rfl rfl rfl (by repeat constructor) (by repeat constructor) ?_)
   refine o_ (h:=z_ (h:=x_blockN (t_ (aw_region (m_ (h:=ad_ (h:=a_ (h:=al_nil (?_)))))))))
   refine x_then ?_
   refine⟨w.c.paths.length - (j+1),_,by omega,⟨j+1,(X.1++[it],X.2.1++[F],e2), .bs 1 0 13 (X.1++[it]).length cap,[LB 13 itmK (X.1++[it]) cap],by omega,rfl,by rw[hk,hlk],by simp;omega,by simp;omega, .inr ⟨cap,by simpa using hcp,rfl,rfl⟩,rfl⟩,?_⟩
   rw[List.length_append]
   unfold fdT
   rw[List.map_append]
   exact wb_ 2 1 (by simp[bpLtB,bpLtL,bpLt,bp_LB itmF,bp_wrk])
  have hc1:=bp hb1
  have e3:=row_no stK hj hc1
  rcases hYZ with⟨_,_,hX0⟩|⟨cap,hcp,rfl,rfl⟩
  ·exfalso
   rw[hX0]at hl1
   simp at hl1
   omega
  have hfin:LK w e=X:=by rw[←hX];exact(LKj_end (by rw[List.length_zip];omega)).symm
  refine aw_exit (x_thenE (x_thenE (ABlock_out (?_))))
  refine x_then ?_
  refine⟨_,⟨cap,by rw[hfin];exact hcp,rfl⟩,?_⟩
  rw[hfin]
  exact(weak_box 0 rfl (wrk_tok w _ _ _)).trans (wb_ 2 0 (by simp[bpLtB,bpLtL,bpLt,bp_LB itmF,bp_wrk]))
 rintro s ⟨cap,hcp,rfl⟩
 refine w_ (m_ (h:=a_ (h:=e_ (aw_ret (?_)))))
 refine rt_ (r:= .v (.int .i64 (LK w e).2.2)) none (h4:=(by simp[bpLtB,bpLtL,bpLt,bp_LB itmF,bp_wrk])) (h5:=(LeA.refl _)) (h6:=⟨rfl,cap,hcp,rfl,rfl⟩)
theorem Rfilesw(w:Wrk)(cap:Nat)(f:Fls)(l:List Chg)(e:Int):ACall Tryz.prog 154 [.bp 0 0, .agg (flsA f), .sl 7 (l.map chgA) none, .v (.int .i64 e)] [WA w cap,IB w cap] (fun r b t=>t=[]∧r= .v (.int .i64 e)∧b=[WA (filesW w (f,l,e)).1 cap,IB (filesW w (f,l,e)).1 cap]):=by
 refine enter Tryz.func154 rfl rfl rfl rfl rfl 2 rfl ?_
 refine w_ (b_ (h:=a_ (h:=e_ (q_ (w_ (m_ (h:=eq_ (h:=e_ (?_)))))))))
 refine aw_cond rfl (fun hb1=>?_) (fun hb1=>?_)
 ·have hc1:=bp hb1
  refine w_ (m_ (h:=l_ (h:=k_ (h:=f_ (h:=f_ (h:=f_ (h:=s_ (h:=e_ (aw_region (m_ (h:=m_ (h:=k_ (h:=f_ (h:=f_ (h:=s_ (h:=e_ (w_ (m_ (h:=a_ (h:=e_ (aw_ret (?_))))))))))))))))))))))
  refine rt_ (r:= .v (.int .i64 e)) none (h4:=(by simp[bpLtB,bpLtL,bpLt,bp_LB itmF,IB,fndS])) (h5:=(LeA.refl _)) (h6:=⟨rfl,rfl,?_⟩)
  rw[filesW,if_pos hc1]
  rfl
 have hc1:=bp hb1
 refine kt_ (w_ (m_ (h:=a_ (h:=e_ (aw_ret (?_))))))
 refine rt_ (r:= .v (.int .i64 e)) none (h4:=(by simp[bpLtB,bpLtL,bpLt,bp_LB itmF,bp_wrk,WA,IB,fndS])) (h5:=(LeA.refl _)) (h6:=⟨rfl,rfl,?_⟩)
 rw[filesW,if_neg hc1]
 rfl
theorem Rtablew(w:Wrk)(cap:Nat)(t:Tab)(e:Int):ACall Tryz.prog 152 [.bp 0 0, .agg (tabA t), .v (.int .i64 e)] [WA w cap,IB w cap] (fun r b tk=>tk=[]∧r= .v (.int .i64 e)∧b=[WA (tableW w (t,e)).1 cap,IB (tableW w (t,e)).1 cap]):=by
 refine enter Tryz.func152 rfl rfl rfl rfl rfl 2 rfl ?_
 refine w_ (b_ (h:=a_ (h:=e_ (q_ (w_ (m_ (h:=eq_ (h:=e_ (?_)))))))))
 refine aw_cond rfl (fun hb1=>?_) (fun hb1=>?_)
 ·have hc1:=bp hb1
  refine aw_region (m_ (h:=l_ (h:=k_ (h:=f_ (h:=f_ (h:=s_ (h:=e_ (w_ (m_ (h:=a_ (h:=e_ (aw_ret (?_)))))))))))))
  refine rt_ (r:= .v (.int .i64 e)) none (h4:=(by simp[bpLtB,bpLtL,bpLt,bp_LB itmF,IB,fndS])) (h5:=(LeA.refl _)) (h6:=⟨rfl,rfl,?_⟩)
  rw[tableW,if_pos hc1]
  rfl
 have hc1:=bp hb1
 refine kt_ (w_ (m_ (h:=a_ (h:=e_ (aw_ret (?_))))))
 refine rt_ (r:= .v (.int .i64 e)) none (h4:=(by simp[bpLtB,bpLtL,bpLt,bp_LB itmF,bp_wrk,WA,IB,fndS])) (h5:=(LeA.refl _)) (h6:=⟨rfl,rfl,?_⟩)
 rw[tableW,if_neg hc1]
 rfl
end
end Go.Proofs.YtbglbmnhgbgelaaGreatDoor
