/-
  Part 13 of the proof of FilterFollowsP: what the statement's proof uses of the texts in wip/tpl.
-/
import Derived.Test.YtbgnigjfkbmceaaGreatDoorQi12
open Go.Proofs.Tryz (prog)
set_option maxRecDepth 10000
set_option maxHeartbeats 4000000
set_option linter.unusedVariables false
set_option linter.unusedSimpArgs false
namespace Go.Proofs.YtbgnigjfkbmceaaGreatDoor
open Go.RowKit
def Pz(σ:Lk):List AV:=Al ⟨σ.dir,σ.name,σ.file,σ.ex,false,⟨#[]⟩⟩
theorem LL{s:Spc}(hv:FlsV s.files){F:Bool}{q:AE}{qs:List AE}{da:A9}{na:AE}{a:A9}{ea:Bool}{lk:Nat}(h8:lk≤8):(∀e,CJ s F q qs a lk= .inl e→G4 s F ⟨q::qs,da,na,a,ea,lk⟩=(e,Rn))∧∀τ,CJ s F q qs a lk= .inr τ→τ.links≤8∧G4 s F ⟨q::qs,da,na,a,ea,lk⟩=G4 s F τ∧G3 τ<(8 - lk) * 200+(qs.length+1):=by
 have hc:=lO hv (fl:=F) (σ:=⟨q::qs,da,na,a,ea,lk⟩) (p:=q) (ps:=qs) h8 rfl;refine⟨fun e he=>?_,fun τ hτ=>?_⟩
 ·rw[hc];simp only[he]
 obtain⟨h1,h2⟩:=UP hv h8 hτ;refine⟨h1,?_,h2⟩;rw[hc];simp only[hτ]
section
theorem Z7(s:Spc)(hs:SpcB s)(hv:SpcV s):AFn prog 192 [.agg (AT s)] (fun r=>r= .agg (AB (Ff s))):=by
 refine enter Tryz.func192 rfl rfl rfl rfl rfl 0 rfl ?_;refine C6 (h:=DT (h:=CF (h:=Bq (h:=?_))));refine A3 rfl (A8 (Uc hs hv (0,1)) ?_);rintro r rfl;refine s_ (h:=e_ (B8 (?_)));refine A6 ?_;rfl
theorem Z8(s:Spc)(start:A9)(p:AE)(fl:Bool)(hs:SpcN s)(hv:SpcV s)(hp:p.size≤100000):AFn prog 141 [.agg (AT s), .agg (AB start), .v (.string p), .v (.bool fl)] (fun r=>r= .tup [.agg (Al (Bb s start p fl).1), .v (.int .i64 (Bb s start p fl).2)]):=by
 have hw:=YB hv;have hsp:=UO p;refine enter Tryz.func141 rfl rfl rfl rfl rfl 0 rfl ?_;refine Dh (h:=Dt (h:=C4 (h:=?_)));refine A3 rfl (A8 (UM p hp) ?_);rintro r ⟨ps,hps,rfl⟩;obtain rfl:=YT hps;clear hps;refine GJ (h:=x_ (h:=a_ (h:=a_ (h:=Bw (h:=BN (h:=?_))))));refine A4 rfl (fun hb1 hc1=>?_) (fun hb1 hc1=>?_)
 ·refine Br (h:=?_);refine A6 ?_;rw[show Bb s start p fl=(GX,2) from if_pos hc1];rfl
 refine Dl (h:=HQ (h:=e_ (?_)));refine A4 rfl (fun hb2 hc2=>?_) (fun hb2 hc2=>?_)
 ·refine Br (h:=?_);refine A6 ?_;rw[nV hc1 (by omega)];rfl
 refine AG (CF (h:=Dk (h:=?_)));refine B9 (fun t=>∃a,(if G2 p=true then Ff s else start)=a∧t=⟨look [(3, .v (.bool fl)),(4, .bp 0 0),(8, .bp 2 0),(10, .sl 1 ((Fe p).map J5) none),(12, .v (.bool (Be p))),(13, .bp 3 0)],⟨[AT s,AB start,Al GX,AB a],[]⟩⟩) ?_ ?_
 ·skip
  refine Aa (h:=e_ (?_));refine A4 rfl (fun hb3 hc3=>?_) (fun hb3 hc3=>?_)
  ·refine Av (l_ (h:=?_));refine A3 rfl (A8 (Z7 s hs.b hv) ?_);rintro r rfl;refine s_ (h:=D6 (h:=?_));exact⟨_,⟨Ff s,if_pos hc3,rfl⟩,(wk 4 0)⟩
  refine BF (AM (?_))
  first|exact⟨_,⟨Ff s,if_pos hc3,rfl⟩,(wk 4 0)⟩|exact⟨_,⟨start,if_neg (by simp[hc3]),rfl⟩,(wk 4 0)⟩
 rintro t ⟨a0,ha,rfl⟩;refine Ci (h:=l_ (h:=?_));refine A3 rfl (A8 (Ke s.files a0 hs.b.files) ?_);rintro r rfl;refine DE (h:=?_);refine A4 rfl (fun hb4 hc4=>?_) (fun hb4 hc4=>?_)
 ·refine Br (h:=?_);refine A6 ?_;rw[nW hc1 (by omega) ha (by simpa using hc4)];rfl
 have had:AU s.files a0=true:=by simpa using hc4
 refine AG (CG (h:=Bq (h:=Dk (h:=Cw (h:=?_)))));refine B9 (fun t=>∃(τ:Lk) (d:A9),G4 s (fl||Be p) (Kl (Fe p) a0)=(0,τ)∧τ.name.size≤1000∧t=⟨look [(4, .bp 0 0),(8, .bp 2 0),(12, .v (.bool (Be p))),(14, .bp 4 0)],⟨[AT s,AB start,Al GX,AB d,Pz τ],[]⟩⟩) ?_ ?_
 ·skip
  refine BH (?_);refine BR (fun m t=>∃(σ:Lk) (d:A9),σ.links≤8∧σ.name.size≤12∧G4 s (fl||Be p) σ=G4 s (fl||Be p) (Kl (Fe p) a0)∧m=G3 σ∧m≤1729∧t=⟨look [(3, .v (.bool fl)),(4, .bp 0 0),(8, .bp 2 0),(10, .sl 1 (σ.ps.map J5) none),(12, .v (.bool (Be p))),(13, .bp 3 0),(14, .bp 4 0),(15, .v (.int .i64 (σ.links:Int)))],⟨[AT s,AB start,Al GX,AB d,Pz σ],[]⟩⟩) (G3 (Kl (Fe p) a0)) ((wk 5 0)) (⟨_,a0,BK _,BK _,rfl,rfl,by show(8 - 0) * 200+(Fe p).length≤1729;omega,rfl⟩) ?_;rintro m t ⟨⟨ps0,da,na,a,ea,lk⟩,d,h8,hna,hT,rfl,hm,rfl⟩;have hm:(8 - lk) * 200+ps0.length≤1729:=hm;have h8:lk≤8:=h8;have hml:(ps0.map J5).length=ps0.length:=by simp
  refine Bv (h:=HQ (h:=e_ (?_)));refine A4 rfl (fun hb5 hc5=>?_) (fun hb5 hc5=>?_)
  ·obtain⟨q,qs,hps⟩:∃q qs,ps0=q::qs:=by
    cases ps0 with
    |nil=>simp at hc5
    |cons q qs=>exact⟨q,qs,rfl⟩
   subst hps;have hml:(qs.map J5).length=qs.length:=by simp
   have hmq:(8 - lk) * 200+(qs.length+1)≤1729:=hm;have htg:=U4 hv.files (AK s.files a q).1;have htp:=UO (Ah s.files (AK s.files a q).1).target;refine AG (BH (Aa (h:=?_)));refine A3 rfl (DA (n:=0) rfl rfl rfl rfl ?_);refine l_ (h:=B7 (h:=?_));refine L3 (⟨look [(3, .v (.bool fl)),(4, .bp 0 0),(8, .bp 2 0),(10, .sl 1 (qs.map J5) none),(12, .v (.bool (Be p))),(13, .bp 3 0),(14, .bp 4 0),(15, .v (.int .i64 (lk:Int))),(16, .v (.string q))],⟨[AT s,AB start,Al GX,AB d,Pz ⟨q::qs,da,na,a,ea,lk⟩],[]⟩⟩) ?_ ?_
   ·skip
    refine C5 (h:=?_);refine A3 rfl (VT (l:=1) rfl rfl rfl (by simp) ?_);refine Ck (h:=?_)
    first|(exfalso;first|contradiction|omega)|exact Ai 5 0 rfl rfl rfl rfl (by repeat (first|exact Sub.nil|refine Aj rfl rfl ?_|refine Ap ?_|refine Aq rfl ?_|refine Ar rfl ?_|(apply Sub.of;(focus exact rfl);(focus exact LeA.of_eq (vb (by rfl)));(focus exact rfl))))
   skip
   refine Az (h:=s_ (h:=e_ (Ci (h:=l_ (h:=?_)))));refine A3 rfl (A8 (Ke s.files a hs.b.files) ?_);rintro r rfl;refine DE (h:=?_);refine A4 rfl (fun hb6 hc6=>?_) (fun hb6 hc6=>?_)
   ·have hst:CJ s (fl||Be p) q qs a lk= .inl 20:=by unfold CJ;rw[if_pos hc6]
    refine Br (h:=Cv (h:=Cv (h:=?_)));refine A6 ?_;rw[Py hc1 (by omega) ha had (hT.symm.trans ((LL (F:=fl||Be p) (da:=da) (na:=na) (ea:=ea) hv.files h8).1 _ hst)) (by decide)];rfl
   refine Dl (h:=HQ (h:=e_ (?_)));refine A4 rfl (fun hb7 hc7=>?_) (fun hb7 hc7=>?_)
   ·have hst:CJ s (fl||Be p) q qs a lk= .inl 36:=by unfold CJ;rw[if_neg (by simp[hc6]),if_pos (by omega)]
    refine Br (h:=Cv (h:=Cv (h:=?_)));refine A6 ?_;rw[Py hc1 (by omega) ha had (hT.symm.trans ((LL (F:=fl||Be p) (da:=da) (na:=na) (ea:=ea) hv.files h8).1 _ hst)) (by decide)];rfl
   have hq12:q.size≤12:=by omega
   refine Dl (h:=E1 (h:=?_));refine AJ false rfl rfl (fun hb8 hc8=>?_) (fun hb8 hc8=>?_)
   ·refine BD (h:=K9 (h:=Bv (h:=BN (h:=?_))));refine A4 rfl (fun hb9 hc9=>?_) (fun hb9 hc9=>?_)
    ·rw[hc8]at hc9;exact absurd hc9 (by decide)
    have hst:CJ s (fl||Be p) q qs a lk= .inr ⟨qs,a,⟨#[]⟩,a,true,lk⟩:=by unfold CJ;rw[if_neg (by simp[hc6]),if_neg (by omega),if_pos hc8]
    refine AG (CG (h:=E0 (h:=e_ (T0 (h:=Lt (AM (?_)))))));obtain⟨g1,g2,g3⟩:=(LL (F:=fl||Be p) (da:=da) (na:=na) (ea:=ea) hv.files h8).2 _ hst;exact⟨_,_,g3,⟨_,_,g1,(by first|exact BK _|exact hq12),g2.symm.trans hT,rfl,Nat.le_trans (Nat.le_of_lt g3) hmq,rfl⟩,(by(try simp only[List.map_append]);exact Ai 5 0 rfl rfl rfl rfl ((by repeat (first|exact Sub.nil|refine Aj rfl rfl ?_|refine Ap ?_|refine Aq rfl ?_|refine Ar rfl ?_))))⟩
   refine DD (h:=CV (h:=?_));refine A4 rfl (fun hb10 hc10=>?_) (fun hb10 hc10=>?_)
   ·refine Bv (h:=BN (h:=?_));refine A4 rfl (fun hb11 hc11=>?_) (fun hb11 hc11=>?_)
    ·have hst:CJ s (fl||Be p) q qs a lk= .inr ⟨qs,EY s s.mounts.length (GW s (s.mounts.length+1) a),⟨#[]⟩,EY s s.mounts.length (GW s (s.mounts.length+1) a),true,lk⟩:=by unfold CJ;rw[if_neg (by simp[hc6]),if_neg (by omega),if_neg hc8,if_pos hc11]
     refine BS ([(0,AT s),(3,AB a)]) 5 (h:=AA 0 (h:=AA 1 (h:=AA 2 (h:=?_))));refine c_ 3 rfl (A8 (lK hs.b hv (s.mounts.length+1) a (by have:=kZ (s:=s) a.1;omega)) ?_);rintro r rfl;refine o_ (h:=?_);refine c_ 4 rfl (A8 (Uc hs.b hv (GW s (s.mounts.length+1) a)) ?_);rintro r rfl;refine o_ (h:=?_);refine Ak 5 (h:=z_ (h:=t_ (w_ (l_ (h:=l_ (h:=Bq (h:=s_ (h:=e_ (N5 (LR (Lt (AM (?_)))))))))))));obtain⟨g1,g2,g3⟩:=(LL (F:=fl||Be p) (da:=da) (na:=na) (ea:=ea) hv.files h8).2 _ hst;exact⟨_,_,g3,⟨_,_,g1,(by first|exact BK _|exact hq12),g2.symm.trans hT,rfl,Nat.le_trans (Nat.le_of_lt g3) hmq,rfl⟩,(by(try simp only[List.map_append]);exact Ai 5 0 rfl rfl rfl rfl ((by repeat (first|exact Sub.nil|refine Aj rfl rfl ?_|refine Ap ?_|refine Aq rfl ?_|refine Ar rfl ?_))))⟩
    exact absurd hc10 hc11
   refine AG (Az (h:=Gq (h:=?_)));refine A3 rfl (A8 (Kg s.files a q hs.b.files) ?_);rintro r rfl;refine JK (h:=Bn (h:=?_));refine A4 rfl (fun hb12 hc12=>?_) (fun hb12 hc12=>?_)
   ·refine Bv (h:=HQ (h:=m_ (h:=?_)));refine AJ false rfl rfl (fun hb13 hc13=>?_) (fun hb13 hc13=>?_)
    ·have hne:qs≠[]:=fun e=>by rw[e]at hc13;simp at hc13
     have hst:CJ s (fl||Be p) q qs a lk= .inl 2:=by unfold CJ;rw[if_neg (by simp[hc6]),if_neg (by omega),if_neg hc8,if_neg hc10,if_pos hc12,if_pos (.inl hne)]
     refine EK (h:=Br (h:=EB (h:=Cv (h:=?_))));refine A6 ?_;rw[Py hc1 (by omega) ha had (hT.symm.trans ((LL (F:=fl||Be p) (da:=da) (na:=na) (ea:=ea) hv.files h8).1 _ hst)) (by decide)];rfl
    have hne:¬qs≠[]:=fun e=>e (Fg (by omega));refine m_ (h:=?_);refine As (A8 (T7 q (by omega)) ?_);rintro r rfl;refine Cr (h:=CV (h:=?_));refine A4 rfl (fun hb14 hc14=>?_) (fun hb14 hc14=>?_)
    ·have hst:CJ s (fl||Be p) q qs a lk= .inl 2:=by unfold CJ;rw[if_neg (by simp[hc6]),if_neg (by omega),if_neg hc8,if_neg hc10,if_pos hc12,if_pos (.inr hc14)]
     refine Br (h:=EB (h:=Cv (h:=?_)));refine A6 ?_;rw[Py hc1 (by omega) ha had (hT.symm.trans ((LL (F:=fl||Be p) (da:=da) (na:=na) (ea:=ea) hv.files h8).1 _ hst)) (by decide)];rfl
    have hst:CJ s (fl||Be p) q qs a lk= .inr ⟨[],a,q,(0,0),false,lk⟩:=by unfold CJ;rw[if_neg (by simp[hc6]),if_neg (by omega),if_neg hc8,if_neg hc10,if_pos hc12,if_neg (fun e=>e.elim hne (by simp[hc14]))]
    have hfin:=hT.symm.trans (((LL (F:=fl||Be p) (da:=da) (na:=na) (ea:=ea) hv.files h8).2 _ hst).2.1.trans (YU rfl));refine AG (w_ (l_ (h:=m_ (h:=Bq (h:=s_ (h:=e_ (N5 (LR (bM rfl (LR (Lt (AM (?_)))))))))))));exact⟨_,⟨_,_,hfin,(by first|exact Nat.le_trans hna (by decide)|exact Nat.le_trans hq12 (by decide)),rfl⟩,(wk 5 0)⟩
   refine AG (Az (h:=l_ (h:=?_)));refine A3 rfl (A8 (FZ s.files (AK s.files a q).1 hs.b.files) ?_);rintro r rfl;refine Ee (h:=B7 (h:=q_ (?_)));refine L3 (⟨look [(3, .v (.bool fl)),(4, .bp 0 0),(8, .bp 2 0),(10, .sl 1 (qs.map J5) none),(12, .v (.bool (Be p))),(13, .bp 3 0),(14, .bp 4 0),(15, .v (.int .i64 (lk:Int))),(16, .v (.string q)),(17, .bp 5 0),(19, .bp 6 0),(130, .v (.bool (decide ((Ah s.files (AK s.files a q).1).kind=3)&&(decide (0<((qs.map J5).length:Int))||(fl||Be p)))))],⟨[AT s,AB start,Al GX,AB a,Pz ⟨q::qs,da,na,a,ea,lk⟩,AB (AK s.files a q).1,Ac (Ah s.files (AK s.files a q).1)],[]⟩⟩) ?_ ?_
   ·skip
    refine Av (Cx (h:=m_ (h:=?_)));refine AJ true rfl rfl (fun hb15 hc15=>?_) (fun hb15 hc15=>?_)
    ·refine m_ (h:=HQ (h:=m_ (h:=?_)));refine AJ false rfl rfl (fun hb16 hc16=>?_) (fun hb16 hc16=>?_)
     ·refine Dg (h:=C7 (h:=Dg (h:=Bj (h:=Je (h:=?_)))))
      first|(exfalso;first|contradiction|omega)|exact Ai 7 0 rfl rfl rfl rfl (by repeat (first|exact Sub.nil|refine Aj rfl rfl ?_|refine Ap ?_|refine Aq rfl ?_|refine Ar rfl ?_|(apply Sub.of;(focus exact rfl);(focus exact LeA.of_eq (vb (by first|(rw[hb15];rfl)|(rw[hb15,hb16];rfl)|(rw[hb15,hb16,hb17];rfl))));(focus exact rfl))))
     refine m_ (h:=Bh (h:=?_));refine AJ false rfl rfl (fun hb17 hc17=>?_) (fun hb17 hc17=>?_)
     ·refine Dg (h:=Bj (h:=Je (h:=?_)))
      first|(exfalso;first|contradiction|omega)|exact Ai 7 0 rfl rfl rfl rfl (by repeat (first|exact Sub.nil|refine Aj rfl rfl ?_|refine Ap ?_|refine Aq rfl ?_|refine Ar rfl ?_|(apply Sub.of;(focus exact rfl);(focus exact LeA.of_eq (vb (by first|(rw[hb15];rfl)|(rw[hb15,hb16];rfl)|(rw[hb15,hb16,hb17];rfl))));(focus exact rfl))))
     refine m_ (h:=Bp (h:=Je (h:=?_)))
     first|(exfalso;first|contradiction|omega)|exact Ai 7 0 rfl rfl rfl rfl (by repeat (first|exact Sub.nil|refine Aj rfl rfl ?_|refine Ap ?_|refine Aq rfl ?_|refine Ar rfl ?_|(apply Sub.of;(focus exact rfl);(focus exact LeA.of_eq (vb (by first|(rw[hb15];rfl)|(rw[hb15,hb16];rfl)|(rw[hb15,hb16,hb17];rfl))));(focus exact rfl))))
    refine BT (h:=Ma (h:=BD (h:=Ma (h:=Dg (h:=FX (h:=?_))))))
    first|(exfalso;first|contradiction|omega)|exact Ai 7 0 rfl rfl rfl rfl (by repeat (first|exact Sub.nil|refine Aj rfl rfl ?_|refine Ap ?_|refine Aq rfl ?_|refine Ar rfl ?_|(apply Sub.of;(focus exact rfl);(focus exact LeA.of_eq (vb (by first|(rw[hb15];rfl)|(rw[hb15,hb16];rfl)|(rw[hb15,hb16,hb17];rfl))));(focus exact rfl))))
   skip
   refine A4 rfl (fun hb18 hc18=>?_) (fun hb18 hc18=>?_)
   ·have hlk:(Ah s.files (AK s.files a q).1).kind=3∧(qs≠[]∨(fl||Be p)=true):=by
     rw[Bool.and_eq_true,decide_eq_true_eq,Bool.or_eq_true,decide_eq_true_eq]at hc18;exact⟨hc18.1,hc18.2.imp (fun h e=>by rw[e]at h;simp at h) id⟩
    refine Bv (h:=BN (h:=?_));refine A4 rfl (fun hb19 hc19=>?_) (fun hb19 hc19=>?_)
    ·have hst:CJ s (fl||Be p) q qs a lk= .inl 40:=by unfold CJ;rw[if_neg (by simp[hc6]),if_neg (by omega),if_neg hc8,if_neg hc10,if_neg (by simp[hc12]),if_pos hlk,if_pos (by omega)]
     refine Br (h:=EB (h:=Cv (h:=?_)));refine A6 ?_;rw[Py hc1 (by omega) ha had (hT.symm.trans ((LL (F:=fl||Be p) (da:=da) (na:=na) (ea:=ea) hv.files h8).1 _ hst)) (by decide)];rfl
    refine AG (Aa (h:=?_));refine A3 rfl (Ny rfl rfl (by omega) ?_);refine B7 (h:=Az (h:=?_));refine A3 rfl (A8 (UM (Ah s.files (AK s.files a q).1).target (by omega)) ?_);rintro r ⟨ps,hps,rfl⟩;obtain rfl:=YT hps;clear hps;refine GJ (h:=x_ (h:=a_ (h:=a_ (h:=Bw (h:=e_ (?_))))));refine A4 rfl (fun hb20 hc20=>?_) (fun hb20 hc20=>?_)
    ·have hst:CJ s (fl||Be p) q qs a lk= .inr ⟨Fe (Ah s.files (AK s.files a q).1).target++qs,Ff s,⟨#[]⟩,Ff s,true,lk+1⟩:=by unfold CJ;rw[if_neg (by simp[hc6]),if_neg (by omega),if_neg hc8,if_neg hc10,if_neg (by simp[hc12]),if_pos hlk,if_neg (by omega),if_pos hc20]
     refine Av (l_ (h:=?_));refine A3 rfl (A8 (Z7 s hs.b hv) ?_);rintro r rfl;refine s_ (h:=e_ (w_ (m_ (h:=Gg (h:=m_ (h:=Gg (h:=a_ (h:=e_ (w_ (l_ (h:=l_ (h:=Bq (h:=s_ (h:=e_ (N5 (LR (Lt (AM (?_)))))))))))))))))));obtain⟨g1,g2,g3⟩:=(LL (F:=fl||Be p) (da:=da) (na:=na) (ea:=ea) hv.files h8).2 _ hst;exact⟨_,_,g3,⟨_,_,g1,(by first|exact BK _|exact hq12),g2.symm.trans hT,rfl,Nat.le_trans (Nat.le_of_lt g3) hmq,rfl⟩,(by(try simp only[List.map_append]);exact Ai 5 0 rfl rfl rfl rfl ((by repeat (first|exact Sub.nil|refine Aj rfl rfl ?_|refine Ap ?_|refine Aq rfl ?_|refine Ar rfl ?_))))⟩
    have hst:CJ s (fl||Be p) q qs a lk= .inr ⟨Fe (Ah s.files (AK s.files a q).1).target++qs,a,⟨#[]⟩,a,true,lk+1⟩:=by unfold CJ;rw[if_neg (by simp[hc6]),if_neg (by omega),if_neg hc8,if_neg hc10,if_neg (by simp[hc12]),if_pos hlk,if_neg (by omega),if_neg (by simp[hc20])]
    refine AG (w_ (m_ (h:=Gg (h:=m_ (h:=Gg (h:=a_ (h:=e_ (w_ (l_ (h:=l_ (h:=Bq (h:=s_ (h:=e_ (N5 (LR (Lt (AM (?_))))))))))))))))));obtain⟨g1,g2,g3⟩:=(LL (F:=fl||Be p) (da:=da) (na:=na) (ea:=ea) hv.files h8).2 _ hst;exact⟨_,_,g3,⟨_,_,g1,(by first|exact BK _|exact hq12),g2.symm.trans hT,rfl,Nat.le_trans (Nat.le_of_lt g3) hmq,rfl⟩,(by(try simp only[List.map_append]);exact Ai 5 0 rfl rfl rfl rfl ((by repeat (first|exact Sub.nil|refine Aj rfl rfl ?_|refine Ap ?_|refine Aq rfl ?_|refine Ar rfl ?_))))⟩
   have hlk:¬((Ah s.files (AK s.files a q).1).kind=3∧(qs≠[]∨(fl||Be p)=true)):=fun h=>by
    rw[decide_eq_true h.1,Bool.true_and,Bool.or_eq_false_iff]at hc18;rcases h.2 with e|e
    ·exact e (Fg (by have:=of_decide_eq_false hc18.1;omega))
    rw[hc18.2]at e;cases e
   have hst:CJ s (fl||Be p) q qs a lk= .inr ⟨qs,a,q,EY s s.mounts.length (AK s.files a q).1,true,lk⟩:=by unfold CJ;rw[if_neg (by simp[hc6]),if_neg (by omega),if_neg hc8,if_neg hc10,if_neg (by simp[hc12]),if_neg hlk]
   refine AG (BS ([(0,AT s),(3,AB a),(5,AB (AK s.files a q).1)]) 6 (h:=AA 0 (h:=AF 1 (h:=AA 2 (h:=AA 3 (h:=?_))))));refine c_ 4 rfl (A8 (Uc hs.b hv (AK s.files a q).1) ?_);rintro r rfl;refine o_ (h:=LU 5 (h:=?_));refine Ak 6 (h:=z_ (h:=BB (AM (?_))));obtain⟨g1,g2,g3⟩:=(LL (F:=fl||Be p) (da:=da) (na:=na) (ea:=ea) hv.files h8).2 _ hst;exact⟨_,_,g3,⟨_,_,g1,(by first|exact BK _|exact hq12),g2.symm.trans hT,rfl,Nat.le_trans (Nat.le_of_lt g3) hmq,rfl⟩,(by(try simp only[List.map_append]);exact Ai 5 0 rfl rfl rfl rfl ((by repeat (first|exact Sub.nil|refine Aj rfl rfl ?_|refine Ap ?_|refine Aq rfl ?_|refine Ar rfl ?_))))⟩
  have hc5:¬(0:Int)<((ps0.map J5).length:Int):=hc5;have e5:ps0=[]:=Fg (by omega);subst e5;have hfin:=hT.symm.trans (YU (s:=s) (fl:=fl||Be p) (σ:=⟨[],da,na,a,ea,lk⟩) rfl);refine L6 (h:=AM (?_));exact⟨_,⟨_,_,hfin,(by first|exact Nat.le_trans hna (by decide)|exact Nat.le_trans hq12 (by decide)),rfl⟩,(wk 5 0)⟩
 rintro t ⟨τ,d,hT,hnm,rfl⟩;refine q_ (?_);refine L3 (⟨look [(4, .bp 0 0),(8, .bp 2 0),(12, .v (.bool (Be p))),(14, .bp 4 0),(171, .v (.bool (Be p&&(τ.ex&& !AU s.files τ.file))))],⟨[AT s,AB start,Al GX,AB d,Pz τ],[]⟩⟩) ?_ ?_
 ·skip
  refine EX (h:=?_);refine AJ true rfl rfl (fun hb21 hc21=>?_) (fun hb21 hc21=>?_)
  ·refine Ab (h:=C7 (h:=?_));refine AJ true rfl rfl (fun hb22 hc22=>?_) (fun hb22 hc22=>?_)
   ·have hx:τ.ex=true:=hb22;refine JO (h:=?_);refine As (A8 (Ke s.files τ.file hs.b.files) ?_);rintro r rfl;refine Cr (h:=Je (h:=?_))
    first|(exfalso;first|contradiction|omega)|exact Ai 5 0 rfl rfl rfl rfl (by repeat (first|exact Sub.nil|refine Aj rfl rfl ?_|refine Ap ?_|refine Aq rfl ?_|refine Ar rfl ?_|(apply Sub.of;(focus exact rfl);(focus exact LeA.of_eq (vb (by first|(rw[hb21];rfl)|(rw[hb21,hx];rfl))));(focus exact rfl))))
   have hx:τ.ex=false:=hb22;refine BT (h:=BD (h:=FX (h:=?_)))
   first|(exfalso;first|contradiction|omega)|exact Ai 5 0 rfl rfl rfl rfl (by repeat (first|exact Sub.nil|refine Aj rfl rfl ?_|refine Ap ?_|refine Aq rfl ?_|refine Ar rfl ?_|(apply Sub.of;(focus exact rfl);(focus exact LeA.of_eq (vb (by first|(rw[hb21];rfl)|(rw[hb21,hx];rfl))));(focus exact rfl))))
  refine BD (h:=Bh (h:=BT (h:=BD (h:=FX (h:=?_)))))
  first|(exfalso;first|contradiction|omega)|exact Ai 5 0 rfl rfl rfl rfl (by repeat (first|exact Sub.nil|refine Aj rfl rfl ?_|refine Ap ?_|refine Aq rfl ?_|refine Ar rfl ?_|(apply Sub.of;(focus exact rfl);(focus exact LeA.of_eq (vb (by first|(rw[hb21];rfl)|(rw[hb21,hx];rfl))));(focus exact rfl))))
 skip
 refine A4 rfl (fun hb23 hc23=>?_) (fun hb23 hc23=>?_)
 ·refine Br (h:=?_);refine A6 ?_;rw[nX hc1 (by omega) ha had hT (by simp only[Bool.and_eq_true,Bool.not_eq_true']at hc23;exact hc23)];rfl
 refine AG (Aa (h:=D7 (h:=q_ (CF (h:=Ab (h:=?_))))));refine A3 rfl (A8 (lH hs.b hv τ.dir) ?_);rintro r rfl;refine GJ (h:=a_ (h:=C4 (h:=e_ (?_))));refine A4 rfl (fun hb24 hc24=>?_) (fun hb24 hc24=>?_)
 ·refine Aa (h:=D7 (h:=Az (h:=Bn (h:=?_))));refine A4 rfl (fun hb25 hc25=>?_) (fun hb25 hc25=>?_)
  ·refine C5 (h:=Ab (h:=?_));refine A3 rfl (A8 (YD (Dd s τ.dir).1 τ.name (by have:=hw τ.dir;omega) (by omega)) ?_);rintro r rfl;refine D7 (h:=HL (h:=?_));refine A6 ?_;rw[Ub hc1 (by omega) ha had hT (fun h=>by rw[h.1,h.2.1,h.2.2]at hc23;cases hc23),show Lf s (Be p) τ=⟨τ.dir,τ.name,τ.file,τ.ex,Be p,Kk (Dd s τ.dir).1 τ.name⟩ by unfold Lf;rw[if_pos hc24,if_neg hc25]];rfl
  refine AG (HL (h:=?_));refine A6 ?_;rw[Ub hc1 (by omega) ha had hT (fun h=>by rw[h.1,h.2.1,h.2.2]at hc23;cases hc23),show Lf s (Be p) τ=⟨τ.dir,τ.name,τ.file,τ.ex,Be p,(Dd s τ.dir).1⟩ by unfold Lf;rw[if_pos hc24,if_pos hc25]];rfl
 refine AG (HL (h:=?_));refine A6 ?_;rw[Ub hc1 (by omega) ha had hT (fun h=>by rw[h.1,h.2.1,h.2.2]at hc23;cases hc23),show Lf s (Be p) τ=⟨τ.dir,τ.name,τ.file,τ.ex,Be p,⟨#[]⟩⟩ by unfold Lf;rw[if_neg (by simp[hc24])]];rfl
end
theorem Z9:∀(l:List Dsc) (k:Nat),G5 k l≤k+l.length
 |[],k=>B6 _
 |d::l,k=>by
   unfold G5;split
   ·have:=Z9 l (k+1);simp only[List.length_cons];omega
   omega
theorem nY{α:Type}{l:List α}{j:Nat}{x:α}(h:l[j]?=some x):l.drop j=x::l.drop (j+1):=by
 obtain⟨hl,rfl⟩:=Af.1 h;exact List.drop_eq_getElem_cons hl
def ZA(p:Prc)(x:AV):List AV:=[.v (.int .i64 p.pid), .v (.int .i64 p.ppid), .v (.int .i64 p.uid), .v (.int .i64 p.euid), .v (.int .i64 p.gid), .v (.int .i64 p.egid), .v (.int .i64 p.auid), .v (.int .i64 p.ses), .v (.int .i64 p.cwd.1), .v (.int .i64 p.cwd.2), .v (.string p.comm), .v (.string p.exe),x, .v (.bool p.audited)]
theorem ZB(p:Prc)(rows:List (List AV))(g:Option Nat)(l:List Dsc)(h:rows=l.map J8):LeA (.agg (ZA p (.sl 4 rows g))) (.agg (Au {p with opens:=l})):=by
 subst h;unfold ZA Au
 repeat (first|exact A7 _|exact LeA.tok _ _ _|refine LeA.agg ?_|exact LeL.nil|refine LeL.cons ?_ ?_)
def Cu(R:Tab×Int):AV:= .tup [.agg (Am R.1), .v (.int .i64 R.2)]
def MD(R:Tab×Int×Int):AV:= .tup [.agg (Am R.1), .v (.int .i64 R.2.1), .v (.int .i64 R.2.2)]
theorem G9(e:Int):LeA (.tup [.agg DX, .v (.int .i64 e)]) (Cu (EE,e)):=(by repeat (first|exact A7 _|exact LeA.nil _|exact LeL.refl _|refine LeA.agg ?_|refine LeA.tup ?_|exact LeL.nil|refine LeL.cons ?_ ?_|exact LeA.any _))
theorem Q0(n e:Int):LeA (.tup [.agg DX, .v (.int .i64 n), .v (.int .i64 e)]) (MD (EE,n,e)):=(by repeat (first|exact A7 _|exact LeA.nil _|exact LeL.refl _|refine LeA.agg ?_|refine LeA.tup ?_|exact LeL.nil|refine LeL.cons ?_ ?_|exact LeA.any _))
def Rv(R:Syst×Int):AV:= .tup [.agg (DH R.1), .v (.int .i64 R.2)]
def Co(w:Wrk):AV:= .sl 8 (w.found.map Al) none
section
theorem ZC(t:Tab)(pid:Int)(a:A9)(flags:Int)(ht:TabB t):AFn prog 199 [.agg (Am t), .v (.int .i64 pid), .agg (AB a), .v (.int .i64 flags)] (fun r=>r=MD (GZ t pid a flags)):=by
 have h8:=Jt ht pid;have hol:((AQ t pid).opens.map J8).length=(AQ t pid).opens.length:=List.length_map _;have hfl:G5 0 (AQ t pid).opens≤(AQ t pid).opens.length:=by have:=Z9 (AQ t pid).opens 0;omega
 refine enter Tryz.func199 rfl rfl rfl rfl rfl 0 rfl ?_;refine Dh (h:=Dt (h:=a_ (h:=B7 (h:=FF (h:=?_)))));refine A3 rfl (A8 (KM t pid ht) ?_);rintro r rfl;refine Gm (h:=?_);refine A4 rfl (fun hb1 hc1=>?_) (fun hb1 hc1=>?_)
 ·refine FG (h:=?_);refine AZ (r:=MD (GZ t pid a flags)) none (h5:=?_) (h6:=⟨rfl,rfl,rfl⟩);rw[GZ,if_pos (by simpa using hc1)];exact Q0 _ _
 have hhas:CP t pid=true:=by simpa using hc1
 refine D8 (h:=n_ (h:=EJ (h:=e_ (?_))));refine A4 rfl (fun hb2 hc2=>?_) (fun hb2 hc2=>?_)
 ·refine FG (h:=?_);refine AZ (r:=MD (GZ t pid a flags)) none (h5:=?_) (h6:=⟨rfl,rfl,rfl⟩);rw[GZ,if_neg (by simp[hhas]),if_pos (by omega)];exact Q0 _ _
 refine AG (Cw (h:=?_));refine B9 (fun s=>s=⟨look [(3, .v (.int .i64 flags)),(4, .bp 0 0),(6, .bp 1 0),(8, .bp 2 0),(11, .bp 3 0),(13, .v (.int .i64 (G5 0 (AQ t pid).opens:Nat)))],⟨[Am t,AB a,DX,Au (AQ t pid)],[]⟩⟩) ?_ ?_
 ·skip
  refine BH (?_);refine BR (fun m s=>∃j:Nat,j≤(AQ t pid).opens.length∧m=(AQ t pid).opens.length - j∧G5 0 (AQ t pid).opens=G5 j ((AQ t pid).opens.drop j)∧s=⟨look [(3, .v (.int .i64 flags)),(4, .bp 0 0),(6, .bp 1 0),(8, .bp 2 0),(11, .bp 3 0),(13, .v (.int .i64 (j:Int)))],⟨[Am t,AB a,DX,Au (AQ t pid)],[]⟩⟩) ((AQ t pid).opens.length) ((wk 4 0)) (⟨0,BK _,rfl,rfl,rfl⟩) ?_;rintro m s ⟨j,hj,rfl,hfd,rfl⟩;refine Sy (h:=Di (h:=?_));refine AJ true rfl rfl (fun hb3 hc3=>?_) (fun hb3 hc3=>?_)
  ·obtain⟨hlt,d,hy,hrow, -⟩:=Bz J8 hc3;have hdr:=nY hy;refine Ab (h:=JJ (h:=Ab (h:=DD (h:=Bj (h:=e_ (?_))))));refine A4 rfl (fun hb4 hc4=>?_) (fun hb4 hc4=>?_)
   ·have heq:d.fd=(j:Int):=by simpa using hc4
    refine AG (BH (NK (h:=BB (AM (?_)))));refine⟨_,_,?_,⟨j+1,by omega,rfl,by rw[hfd,hdr,G5,if_pos heq],rfl⟩,(wk 4 0)⟩;omega
   have hend:G5 0 (AQ t pid).opens=j:=by rw[hfd,hdr,G5,if_neg (by simpa using hc4)]
   refine L6 (h:=AM (?_));refine⟨_,rfl,?_⟩;rw[hend];exact(wk 4 0)
  have hend:G5 0 (AQ t pid).opens=j:=by rw[hfd,CD J8 hj hc3,List.drop_length];rfl
  refine BT (h:=BT (h:=Fj (h:=L6 (h:=AM (?_)))));refine⟨_,rfl,?_⟩;rw[hend];exact(wk 4 0)
 rintro s rfl;refine Az (h:=m_ (h:=?_));refine A3 rfl (SX (k:=G5 0 (AQ t pid).opens) rfl rfl rfl (by omega) ?_)
 first|refine A3 rfl (Dr rfl rfl rfl (by simp;omega) (by repeat constructor) ?_)|refine A3 rfl (Ge rfl rfl (by simp;omega) (by repeat constructor) ?_)
 refine C4 (h:=m_ (h:=Gq (h:=Bq (h:=BY (h:=?_)))));refine A3 rfl (Dr rfl rfl rfl (by simp;omega) (by repeat constructor) ?_);refine C4 (h:=Gj (h:=?_));refine A3 rfl (VT (l:=G5 0 (AQ t pid).opens) rfl rfl rfl (by omega) ?_);refine A3 rfl (Dr rfl rfl rfl (by simp;omega) (by repeat constructor) ?_);refine D7 (h:=CF (h:=?_));refine A3 rfl (Hk (y:= .agg (Au {AQ t pid with opens:=Ob (AQ t pid).opens (G5 0 (AQ t pid).opens) ⟨(G5 0 (AQ t pid).opens:Nat),a,flags⟩})) (KY rfl rfl rfl ⟨rfl,rfl⟩) (ZB _ _ _ _ (by simp[Ob,J8];rfl)) ?_);refine A3 rfl (A8 (Nk t {AQ t pid with opens:=Ob (AQ t pid).opens (G5 0 (AQ t pid).opens) ⟨(G5 0 (AQ t pid).opens:Nat),a,flags⟩} ht (Mw hhas) (by simp[Ob];omega)) ?_);rintro r rfl;refine m_ (h:=s_ (h:=a_ (h:=BJ (h:=?_))));refine A6 ?_;rw[GZ,if_neg (by simp[hhas]),if_neg (by omega)];rfl
theorem nZ(a:A9):AFn prog 111 [.agg (AB a)] (fun r=>r= .agg (Am (OZ a))):=by
 refine enter Tryz.func111 rfl rfl rfl rfl rfl 0 rfl ?_;refine C6 (h:=DT (h:=CF (h:=?_)));refine A3 rfl (Hp (y:= .agg (Au ⟨1,0,0,0,0,0,4294967295,4294967295,a,⟨#[105,110,105,116]⟩,⟨#[47,105,110,105,116]⟩,[],true⟩)) (Dz ⟨rfl,rfl⟩) ?_);refine BY (h:=E0 (h:=e_ (B8 (?_))));refine A6 ?_;rfl
theorem ZD(n:Int):AFn prog 60 [.v (.int .i64 n)] (fun r=>r=Rv (KL n)):=by
 refine enter Tryz.func60 rfl rfl rfl rfl rfl 0 rfl ?_;refine w_ (Dt (h:=C4 (h:=?_)));refine A3 rfl (A8 (fJ n) ?_);rintro r rfl;refine JK (h:=Bn (h:=?_));refine A4 rfl (fun hb1 hc1=>?_) (fun hb1 hc1=>?_)
 ·refine w_ (Gr (h:=E8 (h:=?_)));refine AZ (r:=Rv (KL n)) none (h5:=?_) (h6:=⟨rfl,rfl,rfl⟩);rw[KL,if_pos (by simpa using hc1)];exact(by repeat (first|exact A7 _|exact LeA.nil _|exact LeL.refl _|refine LeA.agg ?_|refine LeA.tup ?_|exact LeL.nil|refine LeL.cons ?_ ?_|exact LeA.any _))
 refine AG (q_ (BS ([(1,Ao (GQ n).1)]) 7 (h:=AA 0 (h:=LU 1 (h:=LU 2 (h:=?_))))));refine c_ 3 rfl (A8 (nZ (0,1)) ?_);rintro r rfl;refine o_ (h:=LU 4 (h:=?_));refine Ak 5 (h:=BE 6 (h:=z_ (h:=t_ (B8 (?_)))));refine AZ (r:=Rv (KL n)) none (h5:=?_) (h6:=⟨rfl,rfl,rfl⟩);rw[KL,if_neg (by simpa using hc1)];exact(by repeat (first|exact A7 _|exact LeA.nil _|exact LeL.refl _|refine LeA.agg ?_|refine LeA.tup ?_|exact LeL.nil|refine LeL.cons ?_ ?_|exact LeA.any _))
theorem Mx(s:Syst)(hs:SpcB s.spc)(ht:TabB s.tab):AFn prog 94 [.agg (DH s)] (fun r=>r= .agg (DH s)):=by
 refine enter Tryz.func94 rfl rfl rfl rfl rfl 0 rfl ?_;refine w_ (b_ (h:=Dt (h:=e_ (q_ (BS ([(0,DH s)]) 7 (h:=AD 0 (h:=?_)))))));refine AA 1 (h:=?_);refine AD 3 (h:=?_);refine AA 4 (h:=?_);refine c_ 2 rfl (A8 (mW s.spc hs) ?_);rintro r rfl;refine o_ (h:=?_);refine c_ 5 rfl (A8 (Yf s.tab ht) ?_);rintro r rfl;refine o_ (h:=LU 6 (h:=?_));refine Ak 7 (h:=z_ (h:=t_ (B8 (?_))));refine A6 ?_;rfl
theorem o0(s:Spc)(given:AE)(perm:Int)(f:Fnd)(hs:SpcB s):AFn prog 143 [.agg (AT s), .v (.string given), .v (.int .i64 perm), .agg (Al f)] (fun r=>r= .agg (Cf (Pt s given perm f))):=by
 refine enter Tryz.func143 rfl rfl rfl rfl rfl 0 rfl ?_;refine Dh (h:=DT (h:=Hs (h:=?_)));refine A3 rfl (A8 (FZ s.files f.file hs.files) ?_);rintro r rfl;refine Ee (h:=C4 (h:=JO (h:=JO (h:=JO (h:=Ab (h:=f_ (h:=?_)))))));refine Gq (h:=E0 (h:=e_ (B8 (?_))));refine A6 ?_;rfl
theorem LM(w:Wrk)(its:AV)(a:A9)(want:Int)(hs:SpcB w.s.spc):AFn prog 197 [.fp (De w (Co w) its), .agg (AB a), .v (.int .i64 want)] (fun r=>r= .v (.bool (CM w a want))):=by
 refine enter Tryz.func197 rfl rfl rfl rfl rfl 0 rfl ?_;refine w_ (b_ (h:=a_ (h:=e_ (q_ (BS ([(0,AB a)]) 14 (h:=AF 0 (h:=BM 1 (h:=AD 2 (h:=AD 3 (h:=AD 4 (h:=AA 5 (h:=AA 6 (h:=?_)))))))))))));refine DS 7 11 rfl rfl ?_ ?_
 ·refine A8 (FZ w.s.spc.files a hs.files) ?_;rintro r rfl;refine o_ (h:=?_);refine AF 8 (h:=Ay 9 (h:=Ay 10 (h:=?_)));refine c_ 11 rfl (BV (by repeat constructor) ?_);refine o_ (h:=?_);refine Ak 12 (h:=BE 13 (h:=z_ (h:=t_ (q_ (Db 14 (h:=AA 0 (h:=AF 1 (h:=BM 2 (h:=AD 3 (h:=AD 4 (h:=AA 5 (h:=AF 6 (h:=BM 7 (h:=AD 8 (h:=AD 9 (h:=AA 10 (h:=AF 11 (h:=?_))))))))))))))))));refine c_ 12 rfl (A8 (Yi (Ah w.s.spc.files a) w.p.euid w.p.egid want) ?_);rintro r rfl;refine o_ (h:=BE 13 (h:=z_ (h:=t_ (B8 (?_)))));refine A6 ?_;rfl
 refine BV (by repeat constructor) ?_;refine o_ (h:=?_);refine c_ 7 rfl (A8 (FZ w.s.spc.files a hs.files) ?_);rintro r rfl;refine o_ (h:=AF 8 (h:=Ay 9 (h:=Ay 10 (h:=?_))));refine Ak 12 (h:=BE 13 (h:=z_ (h:=t_ (q_ (Db 14 (h:=AA 0 (h:=AF 1 (h:=BM 2 (h:=AD 3 (h:=AD 4 (h:=AA 5 (h:=AF 6 (h:=BM 7 (h:=AD 8 (h:=AD 9 (h:=AA 10 (h:=AF 11 (h:=?_))))))))))))))))));refine c_ 12 rfl (A8 (Yi (Ah w.s.spc.files a) w.p.euid w.p.egid want) ?_);rintro r rfl;refine o_ (h:=BE 13 (h:=z_ (h:=t_ (B8 (?_)))));refine A6 ?_;rfl
theorem My(w:Wrk)(its:AV)(i:Nat)(f:Fnd)(hs:SpcB w.s.spc)(hf:w.found[i]?=some f):AFn prog 201 [.fp (De w (Co w) its), .v (.int .i64 (i:Int))] (fun r=>r= .v (.bool (AU w.s.spc.files f.file))):=by
 have hrow:(w.found.map Al)[i]?=some (Al f):=by rw[List.getElem?_map,hf];rfl
 refine enter Tryz.func201 rfl rfl rfl rfl rfl 0 rfl ?_;refine w_ (a_ (h:=e_ (q_ (Db 16 (h:=AF 0 (h:=BM 1 (h:=AD 2 (h:=AD 3 (h:=AD 4 (h:=AA 5 (h:=AF 6 (h:=BM 7 (h:=AD 8 (h:=AA 9 (h:=AF 10 (h:=DK 11 (h:=AD 12 (h:=AA 13 (h:=?_)))))))))))))))))));refine c_ 14 rfl (A8 (Ke w.s.spc.files f.file hs.files) ?_);rintro r rfl;refine o_ (h:=BE 15 (h:=z_ (h:=t_ (B8 (?_)))));refine A6 ?_;rfl
theorem ZE(w:Wrk)(its:AV)(a:A9)(hs:SpcB w.s.spc)(hp:w.s.tab.ps.length≤1000):AFn prog 204 [.fp (De w (Co w) its), .agg (AB a)] (fun r=>r= .v (.bool (Jq w a))):=by
 refine enter Tryz.func204 rfl rfl rfl rfl rfl 0 rfl ?_;refine w_ (b_ (h:=a_ (h:=e_ (q_ (q_ (Db 7 (h:=AF 0 (h:=BM 1 (h:=AD 2 (h:=AD 3 (h:=AA 4 (h:=AA 5 (h:=?_)))))))))))));refine c_ 6 rfl (A8 (WW w.s.spc a hs) ?_);rintro r rfl;refine Hb (h:=t_ (?_));refine A4 rfl (fun hb1 hc1=>?_) (fun hb1 hc1=>?_)
 ·refine BA (h:=?_);refine A6 ?_
  first|(exfalso;first|contradiction|omega)|(exact vb (by simp[Jq, *]))
 refine AG (CW (h:=?_));refine BR (fun m s=>∃j:Nat,j≤w.s.tab.ps.length∧m=w.s.tab.ps.length - j∧(∀i y,i<j→w.s.tab.ps[i]?=some y→decide (y.cwd=a)=false)∧s=⟨look [(0, .fp (De w (Co w) its)),(3, .bp 0 0),(5, .v (.int .i64 (j:Int)))],⟨[AB a],[]⟩⟩) (w.s.tab.ps.length) ((wk 1 0)) (⟨0,BK _,rfl,fun i y hi=>by omega,rfl⟩) ?_;rintro m s ⟨j,hj,rfl,ha,rfl⟩;refine Du (h:=Hd (h:=ET (h:=Ht (h:=?_))));refine A4 rfl (fun hb2 hc2=>?_) (fun hb2 hc2=>?_)
 ·obtain⟨hlt,p,hy,hrow, -⟩:=Bz Au hc2;refine AG (q_ (BH (q_ (Db 12 (h:=AF 0 (h:=BM 1 (h:=AD 2 (h:=AD 3 (h:=AD 4 (h:=AA 5 (h:=AF 6 (h:=DK 7 (h:=AD 8 (h:=AA 9 (h:=AA 10 (h:=?_))))))))))))))));refine GF (i:=11) rfl (JE rfl rfl (by repeat constructor) (by repeat constructor) (fun w=>PG _ _ _ _ w) (by kernel_rfl) ⟨rfl,rfl⟩) ?_;refine z_ (h:=t_ (?_));refine A4 rfl (fun hb3 hc3=>?_) (fun hb3 hc3=>?_)
  ·have hany:(w.s.tab.ps.any fun p=>decide (p.cwd=a))=true:=NR hy (decide_eq_true hc3);refine HU (h:=?_);refine A6 ?_
   first|(exfalso;first|contradiction|omega)|(exact vb (by simp[Jq, *]))
  have hne:decide (p.cwd=a)=false:=decide_eq_false hc3;refine DL (h:=?_);refine⟨_,_,?_,⟨j+1,by omega,rfl,GP hy ha hne,rfl⟩,(wk 1 0)⟩;omega
 have e:=CD Au hj hc2;have hany:(w.s.tab.ps.any fun p=>decide (p.cwd=a))=false:=OG (by rw[←e];exact ha);refine GK (h:=?_);refine A6 ?_
 first|(exfalso;first|contradiction|omega)|(exact vb (by simp[Jq, *]))
end
theorem o8{α:Type}{sz:Nat}{F:α→List AV}(hF:RowF sz F){l:List α}{j cap:Nat}{x x':α}(h:l.length=j):SetAt (LB sz F (l++[x]) cap) (0+j * sz) (F x') (LB sz F (l++[x']) cap):=by
 have h1:(l++[x])[j]?=some x:=by rw[←h];simp
 have h2:(l++[x]).set j x'=l++[x']:=by rw[←h];simp
 have key:=YX hF (cap:=cap) (x':=x') h1
 rwa [h2]at key
theorem ZF{is:List Nat}:∀i,i<1→(0::is)[i]?=some i:=by
 intro i hi;obtain rfl:i=0:=by omega
 rfl
theorem ZG{f:Nat→Option AV}{bx:List (List AV)}{tk:List CY}{N:Dim}(i:Nat){row row':List AV}(hi:bx[i]?=some row)(hle:LeL row row'):Weak N ⟨f,⟨bx,tk⟩⟩ ⟨f,⟨bx.set i row',tk⟩⟩:=by
 rintro E a w ⟨G,h1,h2,h3⟩;exact⟨G,h1.boxLe hi (fun us hu=>hle G w us hu),h2,h3⟩
theorem oA(w:Wrk)(rows:List (List AV))(g:Option Nat)(I:AV):LeL (De w (.sl 8 rows g) I) (De w (.sl 8 rows none) I):=by
 unfold De
 repeat (first|exact LeL.nil|refine LeL.cons (A7 _) ?_|refine LeL.cons (LeA.tok _ _ _) ?_)
theorem BG{n m:Nat}(w:Wrk)(F I:AV):AX n m (De w F I)=(AW n m F&&AW n m I):=by
 simp[De,AX,AW]
def H0(l:List Fnd):AV:= .sl 8 (l.map Al) (some 0)
def Oh(w:Wrk)(e:Int)(j:Nat):List Itm×List Fnd×Int:=Lg w.s.spc w.p.cwd (DW w.c) ((w.c.paths.zip (DF w.c)).take j) e
def LK(w:Wrk)(e:Int):List Itm×List Fnd×Int:=Lg w.s.spc w.p.cwd (DW w.c) (w.c.paths.zip (DF w.c)) e
theorem oB{w:Wrk}{e:Int}{j:Nat}{g:AE×Int}(h:(w.c.paths.zip (DF w.c))[j]?=some g):Oh w e (j+1)=J6 w.s.spc w.p.cwd (DW w.c) (Oh w e j) g:=by
 unfold Oh Lg;rw[List.take_add_one,h,List.foldl_append];rfl
theorem oC{w:Wrk}{e:Int}{j:Nat}(h:(w.c.paths.zip (DF w.c)).length≤j):Oh w e j=LK w e:=by
 unfold Oh LK;rw[List.take_of_length_le h]
def WA(w:Wrk)(cap:Nat):List AV:=De w (Co w) (.bs 1 0 13 w.r.items.length cap)
def IB(w:Wrk)(cap:Nat):List AV:=LB 13 Cf w.r.items cap
theorem E4{bx:List (List AV)}{a b:List AV}{rest:List (List AV)}(hb:bx=a::b::rest)(w:Wrk)(cap:Nat):Back bx [0,1] [WA w cap,IB w cap] (WA w cap::IB w cap::rest):=by
 subst hb;have:=Pw (bx:=a::b::rest) (is:=[0,1]) (bc:=[WA w cap,IB w cap]) (by simp) (by simp) (by simp);have e1:E5 (Ep [0,1] (a::b::rest).length) (WA w cap)=WA w cap:=rfl;have e2:E5 (Ep [0,1] (a::b::rest).length) (IB w cap)=IB w cap:=Df B4 _ _ _
 have hb:Dx (a::b::rest) (Ep [0,1] (a::b::rest).length) [0,1] [WA w cap,IB w cap]=WA w cap::IB w cap::rest:=by
  unfold Dx;rw[e1];unfold Dx;rw[e2];simp[Dx]
 rw[hb]at this;exact this
section
theorem oD(w:Wrk)(e:Int)(hv:SpcV w.s.spc)(hm:w.s.spc.mounts.length≤1000)(hp:w.c.paths.length=(DF w.c).length)(hpl:w.c.paths.length≤1000)(h0:0<w.c.paths.length)(hps:∀p∈w.c.paths,p.size≤100000):
    ACall prog 96 [.bp 0 0, .v (.int .i64 e)] [De w (.v (.slice none 0 0)) (.v (.slice none 0 0))] (fun r b t=>t=[]∧∃cap,(LK w e).1.length≤cap∧r= .v (.int .i64 (LK w e).2.2)∧b=[De w (.sl 8 ((LK w e).2.1.map Al) none) (.bs 1 0 13 (LK w e).1.length cap),LB 13 Cf (LK w e).1 cap]):=by
 have hsb:=hv.b hm;have hsn:=hv.n hm;refine enter Tryz.func96 rfl rfl rfl rfl rfl 2 rfl ?_;refine Eh (h:=k_ (h:=Ab (h:=?_)));refine A3 rfl (A8 (Ym w.c) ?_);rintro r rfl;refine B7 (h:=?_);refine B9 (fun s=>∃cap,(LK w e).1.length≤cap∧s=⟨look [(1, .v (.int .i64 (LK w e).2.2))],⟨[De w (.sl 8 ((LK w e).2.1.map Al) none) (.bs 1 0 13 (LK w e).1.length cap),LB 13 Cf (LK w e).1 cap],[]⟩⟩) ?_ ?_
 ·skip
  refine O6 (h:=?_);refine K5 0 26 200 8 rfl rfl (by repeat constructor) (by repeat constructor) (by repeat constructor) ?_;refine BR (fun m s=>∃(j:Nat) (X:List Itm×List Fnd×Int) (Y:AV) (Z:List (List AV)),j≤w.c.paths.length∧m=w.c.paths.length - j∧Oh w e j=X∧X.1.length=j∧X.2.1.length=j∧((Y= .v (.slice none 0 0)∧Z=[]∧X.1=[])∨∃cap,X.1.length≤cap∧Y= .bs 1 0 13 X.1.length cap∧Z=[LB 13 Cf X.1 cap])∧s=⟨look [(0, .bp 0 0),(1, .v (.int .i64 X.2.2)),(5, .sl 1 ((DF w.c).map CQ) none),(6, .v (.int .i64 (j:Int)))],⟨De w (H0 X.2.1) Y::Z,[(200,8,X.2.1.map Al)]⟩⟩) (w.c.paths.length) ((wk 1 1)) (⟨0,([],[],e),_,_,BK _,rfl,rfl,rfl,rfl, .inl ⟨rfl,rfl,rfl⟩,rfl⟩) ?_;rintro m s ⟨j,X,Y,Z,hj,rfl,hX,hl1,hl2,hYZ,rfl⟩;refine Du (h:=Dj (h:=Ht (h:=?_)));refine A4 rfl (fun hb1 hc1=>?_) (fun hb1 hc1=>?_)
  ·obtain⟨hlt,y,hy,hrow, -⟩:=Bz Dn hc1;obtain⟨pj,hpj⟩:∃z,(DF w.c)[j]?=some z:=⟨_,B3 (by omega)⟩;have hrow2:((DF w.c).map CQ)[j]?=some (CQ pj):=by rw[List.getElem?_map,hpj];rfl
   have hz:(w.c.paths.zip (DF w.c))[j]?=some (y,pj):=List.getElem?_zip_eq_some.2 ⟨hy,hpj⟩;have hk:=oB (e:=e) hz;rw[hX]at hk;have hys:=hps y (Ag hy);refine C2 (h:=?_);refine B9 (fun s=>∃cap,X.1.length+1≤cap∧s=⟨look [(0, .bp 0 0),(1, .v (.int .i64 X.2.2)),(5, .sl 1 ((DF w.c).map CQ) none),(6, .v (.int .i64 (j:Int)))],⟨[De w (H0 X.2.1) (.bs 1 0 13 (X.1.length+1) cap),LB 13 Cf (X.1++[Jp y pj]) cap],[(200,8,X.2.1.map Al)]⟩⟩) ?_ ?_
   ·rcases hYZ with⟨rfl,rfl,hX0⟩|⟨cap,hcp,rfl,rfl⟩
    ·skip
     refine BS ([(0,De w (H0 X.2.1) (.v (.slice none 0 0)))]) 24 (h:=AF 0 (h:=AF 1 (h:=BM 2 (h:=AD 3 (h:=AD 4 (h:=AA 5 (h:=AF 6 (h:=BM 7 (h:=AD 8 (h:=AD 9 (h:=AA 10 (h:=AF 11 (h:=DK 12 (h:=AA 13 (h:=AF 14 (h:=AF 15 (h:=DK 16 (h:=AA 17 (h:=?_)))))))))))))))))));refine CC 18 rfl (fun _ hS=>Hk (y:= .agg (Cf (Jp y pj))) (Dz ⟨rfl,rfl⟩) (A7 _) ⟨rfl,rfl⟩) ?_;refine Ho 19 (h:=?_);refine c_ 20 rfl (R8 rfl rfl M5 (by omega) (by omega) ?_);rintro cap2 k bx2 hcp hs;rw[show CU (.agg (Cf (Jp y pj)))++List.replicate ((cap2 - 1) * 13) AV.any=LB 13 Cf [Jp y pj] cap2 from YY B4 _ cap2]at hs;obtain⟨rfl,rfl⟩:k=1∧bx2=[_,_]:=hs.eq;refine o_ (h:=?_);refine BM 21 (h:=AD 22 (h:=AD 23 (h:=?_)));refine Ak 24 (h:=z_ (h:=?_));refine AM ?_;refine⟨_,⟨cap2,by rw[hX0];exact hcp,rfl⟩,?_⟩;rw[hX0];exact Bk 2 1 (by simp[AY,AX,AW,By B4,BG,H0])
    skip
    refine BS ([(0,De w (H0 X.2.1) (.bs 1 0 13 X.1.length cap))]) 24 (h:=AF 0 (h:=AF 1 (h:=BM 2 (h:=AD 3 (h:=AD 4 (h:=AA 5 (h:=AF 6 (h:=BM 7 (h:=AD 8 (h:=AD 9 (h:=AA 10 (h:=AF 11 (h:=DK 12 (h:=AA 13 (h:=AF 14 (h:=AF 15 (h:=DK 16 (h:=AA 17 (h:=?_)))))))))))))))))));refine CC 18 rfl (fun _ hS=>Hk (y:= .agg (Cf (Jp y pj))) (Dz ⟨rfl,rfl⟩) (A7 _) ⟨rfl,rfl⟩) ?_;refine Ho 19 (h:=?_);refine c_ 20 rfl (O3 rfl rfl rfl (by rw[Rp B4 hcp];omega) M5 (by omega) (by omega) ?_ ?_)
    ·rintro hg row2 bx2 hs hb;obtain rfl:=US B4 hs hg;obtain rfl:bx2=[_,_]:=hb.one.2;refine o_ (h:=?_);refine BM 21 (h:=AD 22 (h:=AD 23 (h:=?_)));refine Ak 24 (h:=z_ (h:=?_));refine AM ?_;exact⟨_,⟨cap,hg,rfl⟩,Bk 2 1 (by simp[AY,AX,AW,By B4,BG,H0])⟩
    rintro hg cap3 k bx2 hcp3 hs;rw[show((LB 13 Cf X.1 cap).drop 0).take (X.1.length * 13)++CU (.agg (Cf (Jp y pj)))++List.replicate ((cap3 - (X.1.length+1)) * 13) AV.any=LB 13 Cf (X.1++[Jp y pj]) cap3 from UR B4 X.1 _ cap cap3]at hs;obtain⟨rfl,rfl⟩:k=2∧bx2=[_,_,_]:=hs.eq;refine o_ (h:=?_);refine BM 21 (h:=AD 22 (h:=AD 23 (h:=?_)));refine Ak 24 (h:=z_ (h:=?_));refine AM ?_
    first|exact⟨_,⟨cap,hg,rfl⟩,Bk 2 1 (by simp[AY,AX,AW,By B4,BG,H0])⟩|exact⟨_,⟨cap3,hcp3,rfl⟩,GG [0,2] ZF (by decide) (.cons _ _ _ _ _ rfl rfl (.cons _ _ _ _ _ rfl (MA B4 _ _ _) .nil)) (by repeat (first|exact SubK.nil|refine SubK.cons _ _ _ _ rfl (A7 _) ?_))⟩
   rintro s ⟨cap,hcp,rfl⟩;refine w_ (DT (h:=?_));refine B9 (fun s=>∃(it:Itm) (F:Fnd) (e2:Int),J6 w.s.spc w.p.cwd (DW w.c) X (y,pj)=(X.1++[it],X.2.1++[F],e2)∧s=⟨look [(0, .bp 0 0),(1, .v (.int .i64 e2)),(5, .sl 1 ((DF w.c).map CQ) none),(6, .v (.int .i64 (j:Int))),(7, .bp 2 0)],⟨[De w (H0 X.2.1) (.bs 1 0 13 (X.1.length+1) cap),LB 13 Cf (X.1++[it]) cap,Al F],[(200,8,X.2.1.map Al)]⟩⟩) ?_ ?_
   ·skip
    refine Aa (h:=BN (h:=?_));refine A4 rfl (fun hb2 hc2=>?_) (fun hb2 hc2=>?_)
    ·have he0:X.2.2=0:=by simpa using hc2
     refine q_ (BS ([(0,De w (H0 X.2.1) (.bs 1 0 13 (X.1.length+1) cap)),(1,LB 13 Cf (X.1++[Jp y pj]) cap)]) 29 (h:=AF 0 (h:=BM 1 (h:=AD 2 (h:=AD 3 (h:=AA 4 (h:=AF 5 (h:=BM 6 (h:=AD 7 (h:=AD 8 (h:=AA 9 (h:=AF 10 (h:=BM 11 (h:=AD 12 (h:=AD 13 (h:=AA 14 (h:=AF 15 (h:=DK 16 (h:=AA 17 (h:=AF 18 (h:=BM 19 (h:=AD 20 (h:=AA 21 (h:=?_))))))))))))))))))))))));refine c_ 22 rfl (A8 (m8 w.c) ?_);rintro r rfl;refine o_ (h:=?_);refine c_ 23 rfl (A8 (Z8 w.s.spc w.p.cwd y (DW w.c) hsn hv hys) ?_);rintro r rfl;refine o_ (h:=AF 24 (h:=Ay 25 (h:=Ay 26 (h:=?_))));refine Ak 27 (h:=BE 28 (h:=z_ (h:=t_ (w_ (m_ (h:=EH (h:=e_ (?_))))))));refine A4 rfl (fun hb3 hc3=>?_) (fun hb3 hc3=>?_)
     ·have hf0:(Bb w.s.spc w.p.cwd y (DW w.c)).2=0:=by simpa using hc3
      refine BS ([(0,De w (H0 X.2.1) (.bs 1 0 13 (X.1.length+1) cap)),(1,LB 13 Cf (X.1++[Jp y pj]) cap),(2,Al (Bb w.s.spc w.p.cwd y (DW w.c)).1)]) 26 (h:=AF 0 (h:=BM 1 (h:=AD 2 (h:=AD 3 (h:=AA 4 (h:=AF 5 (h:=AF 6 (h:=BM 7 (h:=AD 8 (h:=AD 9 (h:=AA 10 (h:=AF 11 (h:=BM 12 (h:=AD 13 (h:=AD 14 (h:=AA 15 (h:=AF 16 (h:=DK 17 (h:=AA 18 (h:=AF 19 (h:=AF 20 (h:=DK 21 (h:=AA 22 (h:=?_))))))))))))))))))))))));refine AA 23 (h:=?_);refine c_ 24 rfl (A8 (o0 w.s.spc y pj (Bb w.s.spc w.p.cwd y (DW w.c)).1 hsb) ?_);rintro r rfl;refine o_ (h:=?_);refine CC 25 rfl (fun _ hS=>Dy (m:=j) rfl rfl rfl (by omega) ⟨rfl,rfl⟩) ?_;refine Hn 26 rfl (Eo rfl rfl rfl rfl rfl rfl (o8 B4 hl1) (by repeat constructor) ?_);refine Hb (h:=?_);refine AM ?_;exact⟨_,⟨Pt w.s.spc y pj (Bb w.s.spc w.p.cwd y (DW w.c)).1,(Bb w.s.spc w.p.cwd y (DW w.c)).1,(Bb w.s.spc w.p.cwd y (DW w.c)).2,(by rw[J6,if_pos he0,if_pos hf0,hf0]),rfl⟩,Bk 3 1 (by simp[AY,AX,AW,By B4,BG,H0,Al])⟩
     have hf0:¬(Bb w.s.spc w.p.cwd y (DW w.c)).2=0:=by simpa using hc3
     refine BF (AM (?_))
     first|exact⟨_,⟨Pt w.s.spc y pj (Bb w.s.spc w.p.cwd y (DW w.c)).1,(Bb w.s.spc w.p.cwd y (DW w.c)).1,(Bb w.s.spc w.p.cwd y (DW w.c)).2,(by rw[J6,if_pos he0,if_pos hf0,hf0]),rfl⟩,Bk 3 1 (by simp[AY,AX,AW,By B4,BG,H0,Al])⟩|exact⟨_,⟨Jp y pj,(Bb w.s.spc w.p.cwd y (DW w.c)).1,(Bb w.s.spc w.p.cwd y (DW w.c)).2,(by rw[J6,if_pos he0,if_neg hf0]),rfl⟩,Bk 3 1 (by simp[AY,AX,AW,By B4,BG,H0,Al])⟩
    have he0:¬X.2.2=0:=by simpa using hc2
    refine BF (AM (?_))
    first|exact⟨_,⟨Pt w.s.spc y pj (Bb w.s.spc w.p.cwd y (DW w.c)).1,(Bb w.s.spc w.p.cwd y (DW w.c)).1,(Bb w.s.spc w.p.cwd y (DW w.c)).2,(by rw[J6,if_pos he0,if_pos hf0,hf0]),rfl⟩,Bk 3 1 (by simp[AY,AX,AW,By B4,BG,H0,Al])⟩|exact⟨_,⟨Jp y pj,(Bb w.s.spc w.p.cwd y (DW w.c)).1,(Bb w.s.spc w.p.cwd y (DW w.c)).2,(by rw[J6,if_pos he0,if_neg hf0]),rfl⟩,Bk 3 1 (by simp[AY,AX,AW,By B4,BG,H0,Al])⟩|exact⟨_,⟨Jp y pj,GX,X.2.2,(by rw[J6,if_neg he0]),rfl⟩,Bk 3 1 (by simp[AY,AX,AW,By B4,BG,H0,Al])⟩
   rintro s ⟨it,F,e2,hlk,rfl⟩;refine BS ([(0,De w (H0 X.2.1) (.bs 1 0 13 (X.1.length+1) cap)),(2,Al F)]) 10 (h:=AF 0 (h:=AF 1 (h:=BM 2 (h:=AD 3 (h:=AA 4 (h:=AA 5 (h:=Ho 6 (h:=?_))))))));refine c_ 7 rfl (Dr rfl rfl rfl (by simp;omega) (by repeat constructor) ?_);refine o_ (h:=BM 8 (h:=AD 9 (h:=?_)));refine Ak 10 (h:=z_ (h:=BB (t_ (Av (m_ (h:=ES (h:=a_ (h:=C1 (AM (?_))))))))));refine⟨w.c.paths.length - (j+1),_,by omega,⟨j+1,(X.1++[it],X.2.1++[F],e2), .bs 1 0 13 (X.1++[it]).length cap,[LB 13 Cf (X.1++[it]) cap],by omega,rfl,by rw[hk,hlk],by simp;omega,by simp;omega, .inr ⟨cap,by simpa using hcp,rfl,rfl⟩,rfl⟩,?_⟩;rw[List.length_append];unfold H0;rw[List.map_append];exact Bk 2 1 (by simp[AY,AX,AW,By B4,BG])
  have e3:=CD Dn hj hc1;rcases hYZ with⟨_,_,hX0⟩|⟨cap,hcp,rfl,rfl⟩
  ·exfalso;rw[hX0]at hl1;simp at hl1;omega
  have hfin:LK w e=X:=by rw[←hX];exact(oC (by rw[List.length_zip];omega)).symm
  refine L6 (h:=AM (?_));refine⟨_,⟨cap,by rw[hfin];exact hcp,rfl⟩,?_⟩;rw[hfin];exact(ZG 0 rfl (oA w _ _ _)).trans (Bk 2 0 (by simp[AY,AX,AW,By B4,BG]))
 rintro s ⟨cap,hcp,rfl⟩;refine EA (h:=?_);refine AZ (r:= .v (.int .i64 (LK w e).2.2)) none (h4:=(by simp[AY,AX,AW,By B4,BG])) (h5:=(A7 _)) (h6:=⟨rfl,cap,hcp,rfl,rfl⟩)
theorem Oi(w:Wrk)(cap:Nat)(f:AR)(l:List Ly)(e:Int):ACall prog 202 [.bp 0 0, .agg (Ao f), .sl 7 (l.map Ej) none, .v (.int .i64 e)] [WA w cap,IB w cap] (fun r b t=>t=[]∧r= .v (.int .i64 e)∧b=[WA (Bc w (f,l,e)).1 cap,IB (Bc w (f,l,e)).1 cap]):=by
 refine enter Tryz.func202 rfl rfl rfl rfl rfl 2 rfl ?_;refine C6 (h:=Bw (h:=BN (h:=?_)));refine A4 rfl (fun hb1 hc1=>?_) (fun hb1 hc1=>?_)
 ·refine Aa (h:=l_ (h:=Hd (h:=f_ (h:=D7 (h:=EX (h:=Hd (h:=D7 (h:=EA (h:=?_)))))))));refine AZ (r:= .v (.int .i64 e)) none (h4:=(by simp[AY,AX,AW,By B4,IB,Co])) (h5:=(A7 _)) (h6:=⟨rfl,rfl,?_⟩);rw[Bc,if_pos hc1];rfl
 refine AG (EA (h:=?_));refine AZ (r:= .v (.int .i64 e)) none (h4:=(by simp[AY,AX,AW,By B4,BG,WA,IB,Co])) (h5:=(A7 _)) (h6:=⟨rfl,rfl,?_⟩);rw[Bc,if_neg hc1];rfl
theorem Ud(w:Wrk)(cap:Nat)(t:Tab)(e:Int):ACall prog 200 [.bp 0 0, .agg (Am t), .v (.int .i64 e)] [WA w cap,IB w cap] (fun r b tk=>tk=[]∧r= .v (.int .i64 e)∧b=[WA (CN w (t,e)).1 cap,IB (CN w (t,e)).1 cap]):=by
 refine enter Tryz.func200 rfl rfl rfl rfl rfl 2 rfl ?_;refine C6 (h:=Bw (h:=BN (h:=?_)));refine A4 rfl (fun hb1 hc1=>?_) (fun hb1 hc1=>?_)
 ·refine C5 (h:=l_ (h:=Hd (h:=D7 (h:=EA (h:=?_)))));refine AZ (r:= .v (.int .i64 e)) none (h4:=(by simp[AY,AX,AW,By B4,IB,Co])) (h5:=(A7 _)) (h6:=⟨rfl,rfl,?_⟩);rw[CN,if_pos hc1];rfl
 refine AG (EA (h:=?_));refine AZ (r:= .v (.int .i64 e)) none (h4:=(by simp[AY,AX,AW,By B4,BG,WA,IB,Co])) (h5:=(A7 _)) (h6:=⟨rfl,rfl,?_⟩);rw[CN,if_neg hc1];rfl
end
section
variable {P:Program}{rs:List ResultVar}{n:Nat}{R:AV→List (List AV)→List CY→Prop}{s:AS}{xs:List AV}{r:AV}
theorem BU(g:Option Nat){tk':List CY}(h1:ResA P s rs xs:=by repeat (first|exact ResA.nil|(apply ResA.tmp;(focus exact rfl))|(apply ResA.cellN;(focus exact inferInstance);(focus exact rfl);(focus exact rfl);(focus exact rfl))|(apply ResA.cell1;(focus exact inferInstance);(focus exact rfl);(focus exact rfl);(focus exact rfl))))(h2:MT s.h.tk g=some tk':=by rfl)(h3:AW n 1 (EF g (GE xs))=true:=by rfl)(h4:AY n 0 (s.h.bx.take n)=true:=by simp[AY,AX,AW,By B4,BG,WA,IB,Co,Al,Ac,AB,Am,AT,Ao])(h5:LeA (EF g (GE xs)) r)(h6:R r (s.h.bx.take n) tk'):MU P rs n R .ret s:=Qi g h1 h2 h3 h4 h5 h6
end
theorem Cp{f:Nat→Option AV}{bx:List (List AV)}{tk:List (Nat×Nat×List (List AV))}{l:List (Nat×AV)}{N:Dim}(n m:Nat){bx':List (List AV)}{tk':List (Nat×Nat×List (List AV))}(hn:Nat.ble N.ni n=true:=by rfl)(hb:bx.take n=bx':=by rfl)(ht:tk.take m=tk':=by rfl)(hbp:AY n m bx'=true:=by simp[AY,AX,AW,By B4,BG,WA,IB,Co,Al,Ac,AB,Am,AT,Ao])(hl:Sub n m f l:=by repeat (first|exact Sub.nil|refine Sub.cons _ _ _ rfl rfl ?_|refine Sub.any _ _ ?_|refine Sub.sl _ _ _ _ _ rfl ?_|refine Sub.slnil _ _ _ rfl ?_)):Weak N ⟨f,⟨bx,tk⟩⟩ ⟨look l,⟨bx',tk'⟩⟩:=Ai n m hn hb ht hbp hl
theorem ZH{α:Type}{l:List α}{i:Nat}{x:α}(h:l[i]?=some x)(f:α→α):l.modify i f=l.set i (f x):=by
 apply List.ext_getElem?;intro k;rw[List.getElem?_modify,List.getElem?_set];obtain⟨hl,rfl⟩:=Af.1 h;by_cases e:i=k
 ·subst e;simp[hl]
 simp[e]
theorem oE(w:Wrk)(R:FH):(Bc w R).2=R.2.2:=by
 unfold Bc;split
 ·rename_i h;exact h.symm
 rfl
theorem Lm(w:Wrk)(R:Tab×Int):(CN w R).2=R.2:=by
 unfold CN;split
 ·rename_i h;exact h.symm
 rfl
theorem ME{w:Wrk}{R:FH}(h:R.2.2=0):(Bc w R).1={w with s:=⟨⟨R.1,w.s.spc.mounts⟩,w.s.tab⟩,r:={w.r with changes:=R.2.1}}:=by
 unfold Bc;rw[if_pos h]
theorem Rw{w:Wrk}{R:FH}(h:¬R.2.2=0):(Bc w R).1=w:=by
 unfold Bc;rw[if_neg h]
theorem ZJ{f:AR}{dir:A9}{name:AE}{n:Nod}(h0:(FL f dir name n).2.2=0):∃c,(FL f dir name n).2.1=[c]:=by
 unfold FL at h0 ⊢;split at h0
 ·rename_i c;exact absurd h0 c
 rename_i c1;rw[if_neg c1];split at h0
 ·exact absurd h0 (by decide)
 rename_i c2;rw[if_neg c2];split at h0
 ·exact absurd h0 (by decide)
 rename_i c3;rw[if_neg c3]
 cases e:Fv f dir.1 with
 |none=>rw[e]at h0;simp at h0
 |some d=>
   rw[e]at h0;simp only at h0 ⊢;split at h0
   ·exact absurd h0 (by decide)
   rename_i c4;rw[if_neg c4];exact⟨_,rfl⟩
theorem oF{w:Wrk}{i:Nat}{n:Nod}(h:(D0 w i n).2=0):∃c,(D0 w i n).1.r.changes=[c]:=by
 unfold D0 at h ⊢;split at h
 ·rename_i h0;obtain⟨c,hc⟩:=ZJ h0;rw[if_pos h0,ME h0];exact⟨c,hc⟩
 rename_i h0;exact absurd h h0
theorem oG(w:Wrk)(i:Nat)(n:Nod):(D0 w i n).1.s.tab=w.s.tab∧(D0 w i n).1.p=w.p∧(D0 w i n).1.c=w.c:=by
 unfold D0;split
 ·rename_i h0;rw[ME h0];exact⟨rfl,rfl,rfl⟩
 exact⟨rfl,rfl,rfl⟩
section
theorem Ue(w:Wrk)(cap i:Nat)(a:A9)(x:Itm)(hs:FlsB w.s.spc.files)(hx:w.r.items[i]?=some x):ACall prog 203 [.bp 0 0, .v (.int .i64 (i:Int)), .agg (AB a)] [WA w cap,IB w cap] (fun r b t=>t=[]∧r= .tup []∧b=[WA (Kr w i a) cap,IB (Kr w i a) cap]):=by
 have hil:=(Af.1 hx).1;have hst:∀y:Itm,(w.r.items.set i y)[i]?=some y:=fun y=>by rw[List.getElem?_set_self hil]
 have hfin:w.r.items.modify i (YV (Ah w.s.spc.files a) a)=w.r.items.set i {x with role:=2,file:=a,kind:=(Ah w.s.spc.files a).kind,mode:=(Ah w.s.spc.files a).mode,uid:=(Ah w.s.spc.files a).uid,gid:=(Ah w.s.spc.files a).gid}:=by rw[ZH hx];rfl
 refine enter Tryz.func203 rfl rfl rfl rfl rfl 2 rfl ?_;refine C6 (h:=e_ (?_));refine B9 (fun s=>s=⟨look [(0, .bp 0 0),(1, .v (.int .i64 (i:Int))),(5, .bp 2 0),(6, .bp 3 0)],⟨[WA w cap,IB w cap,AB a,Ac (Ah w.s.spc.files a)],[]⟩⟩) ?_ ?_
 ·skip
  refine BS ([(0,WA w cap),(1,IB w cap),(2,AB a)]) 14 (h:=AF 0 (h:=BM 1 (h:=AD 2 (h:=AD 3 (h:=AD 4 (h:=AA 5 (h:=AA 6 (h:=?_))))))));refine DS 7 11 rfl rfl ?_ ?_
  ·refine A8 (FZ w.s.spc.files a hs) ?_;rintro r rfl;refine o_ (h:=?_);refine AF 8 (h:=Ay 9 (h:=Ay 10 (h:=?_)));refine c_ 11 rfl (BV (by repeat constructor) ?_);refine o_ (h:=?_);refine Ak 12 (h:=BE 13 (h:=z_ (h:=?_)));refine AM ?_;exact⟨_,rfl,Cp 4 0⟩
  refine BV (by repeat constructor) ?_;refine o_ (h:=?_);refine c_ 7 rfl (A8 (FZ w.s.spc.files a hs) ?_);rintro r rfl;refine o_ (h:=AF 8 (h:=Ay 9 (h:=Ay 10 (h:=?_))));refine Ak 12 (h:=BE 13 (h:=z_ (h:=?_)));refine AM ?_;exact⟨_,rfl,Cp 4 0⟩
 rintro s rfl;refine Aa (h:=Dj (h:=m_ (h:=?_)));refine A3 rfl (Dy (m:=i) rfl rfl rfl hil ?_);refine a_ (h:=e_ (BS ([(0,WA w cap),(2,AB a),(3,Ac (Ah w.s.spc.files a))]) 33 (h:=AF 0 (h:=AF 1 (h:=AF 2 (h:=AF 3 (h:=AF 4 (h:=AF 5 (h:=AA 6 (h:=AD 7 (h:=AA 8 (h:=AD 9 (h:=AA 10 (h:=AD 11 (h:=AA 12 (h:=AD 13 (h:=AA 14 (h:=BM 15 (h:=AD 16 (h:=?_))))))))))))))))))));refine Hn 17 rfl (Eo rfl rfl rfl rfl rfl rfl (MB B4 (x':={x with role:=2}) hx (by repeat constructor) (List.cons_ne_nil _ _)) (by repeat constructor) ?_);refine o_ (h:=BM 18 (h:=AD 19 (h:=?_)));refine Hn 20 rfl (Eo rfl rfl rfl rfl rfl rfl (MB B4 (x':={x with role:=2,file:=a}) (hst _) (by repeat constructor) (List.cons_ne_nil _ _)) (by repeat constructor) ?_);refine o_ (h:=BM 21 (h:=AD 22 (h:=?_)));refine Hn 23 rfl (Eo rfl rfl rfl rfl rfl rfl (MB B4 (x':={x with role:=2,file:=a,kind:=(Ah w.s.spc.files a).kind}) (by rw[List.set_set];exact hst _) (by repeat constructor) (List.cons_ne_nil _ _)) (by repeat constructor) ?_);refine o_ (h:=BM 24 (h:=AD 25 (h:=?_)));refine Hn 26 rfl (Eo rfl rfl rfl rfl rfl rfl (MB B4 (x':={x with role:=2,file:=a,kind:=(Ah w.s.spc.files a).kind,mode:=(Ah w.s.spc.files a).mode}) (by rw[List.set_set,List.set_set];exact hst _) (by repeat constructor) (List.cons_ne_nil _ _)) (by repeat constructor) ?_);refine o_ (h:=BM 27 (h:=AD 28 (h:=?_)));refine Hn 29 rfl (Eo rfl rfl rfl rfl rfl rfl (MB B4 (x':={x with role:=2,file:=a,kind:=(Ah w.s.spc.files a).kind,mode:=(Ah w.s.spc.files a).mode,uid:=(Ah w.s.spc.files a).uid}) (by rw[List.set_set,List.set_set,List.set_set];exact hst _) (by repeat constructor) (List.cons_ne_nil _ _)) (by repeat constructor) ?_);refine o_ (h:=BM 30 (h:=AD 31 (h:=?_)));refine Hn 32 rfl (Eo rfl rfl rfl rfl rfl rfl (MB B4 (x':={x with role:=2,file:=a,kind:=(Ah w.s.spc.files a).kind,mode:=(Ah w.s.spc.files a).mode,uid:=(Ah w.s.spc.files a).uid,gid:=(Ah w.s.spc.files a).gid}) (by rw[List.set_set,List.set_set,List.set_set,List.set_set];exact hst _) (by repeat constructor) (List.cons_ne_nil _ _)) (by repeat constructor) ?_);refine Hb (h:=?_);refine R9 (r:= .tup []) none (h4:=(by simp[AY,AX,AW,By B4,BG,WA,Co])) (h5:=(A7 _)) (h6:=⟨rfl,rfl,?_⟩);rw[List.set_set,List.set_set,List.set_set,List.set_set,List.set_set];unfold WA IB Kr;simp only[hfin,List.length_set];rfl
theorem Uf(w:Wrk)(cap i:Nat)(n:Nod)(f:Fnd)(x:Itm)(hv:FlsV w.s.spc.files)(hf:w.found[i]?=some f)(hx:w.r.items[i]?=some x)(hn:f.name.size≤100000)(ht:n.target.size≤100000)(hne:n.entries=[]):ACall prog 198 [.bp 0 0, .v (.int .i64 (i:Int)), .agg (Ac n)] [WA w cap,IB w cap] (fun r b t=>t=[]∧r= .v (.int .i64 (D0 w i n).2)∧b=[WA (D0 w i n).1 cap,IB (D0 w i n).1 cap]):=by
 have hrow:(w.found.map Al)[i]?=some (Al f):=by rw[List.getElem?_map,hf];rfl
 have hfn:B0 w i=f:=by unfold B0;rw[hf];rfl
 have hmk:Fq w i n=FL w.s.spc.files f.dir f.name (Pu w n):=by unfold Fq;rw[hfn]
 have hok:=Xp hv f.dir f.name (Pu w n);rw[←hmk]at hok;have hcall:AFn prog 177 [.agg (Ao w.s.spc.files), .agg (AB f.dir), .v (.string f.name), .agg (Ac (Pu w n))] (fun r=>r=Ce (Fq w i n)):=by rw[hmk];exact j6 _ _ _ _ hv hn ht
 refine enter Tryz.func198 rfl rfl rfl rfl rfl 2 rfl ?_;refine w_ (b_ (h:=a_ (h:=e_ (q_ (BS ([(0,WA w cap),(1,IB w cap)]) 14 (h:=AF 0 (h:=BM 1 (h:=AD 2 (h:=AD 3 (h:=AA 4 (h:=AF 5 (h:=BM 6 (h:=AD 7 (h:=AD 8 (h:=AA 9 (h:=AD 10 (h:=?_)))))))))))))))));refine Ak 11 (h:=AD 12 (h:=?_));refine Ak 13 (h:=z_ (h:=t_ (q_ (BS ([(0,WA w cap),(1,IB w cap),(2,Ac (Pu w n))]) 28 (h:=AF 0 (h:=AF 1 (h:=BM 2 (h:=AD 3 (h:=AD 4 (h:=AD 5 (h:=AA 6 (h:=AF 7 (h:=BM 8 (h:=AD 9 (h:=AA 10 (h:=AF 11 (h:=DK 12 (h:=AD 13 (h:=AA 14 (h:=AF 15 (h:=BM 16 (h:=AD 17 (h:=AA 18 (h:=?_))))))))))))))))))))))));refine AF 19 (h:=DK 20 (h:=AD 21 (h:=AA 22 (h:=AA 23 (h:=?_)))));refine c_ 24 rfl (A8 (hcall) ?_);rintro r rfl;refine o_ (h:=Ay 25 (h:=Ay 26 (h:=Ay 27 (h:=?_))));refine c_ 28 rfl (Bm [0,1] rfl (.cons _ _ _ _ _ rfl (A7 _) (.cons _ _ _ _ _ rfl (A7 _) (.cons _ _ _ _ _ rfl (A7 _) (.cons _ _ _ _ _ rfl (A7 _) .nil)))) (by decide) (.cons _ _ _ _ _ rfl rfl (.cons _ _ _ _ _ rfl (Df B4 _ _ _) .nil)) (Oi w cap (Fq w i n).1 (Fq w i n).2.1 (Fq w i n).2.2) ?_);rintro r bc tc ⟨rfl,rfl,rfl⟩;refine⟨rfl,_,E4 rfl (Bc w (Fq w i n)).1 cap,?_⟩;refine o_ (h:=?_);refine c_ 29 rfl (JC rfl ?_);refine Hb (h:=t_ (Bv (h:=BN (h:=?_))));refine A4 rfl (fun hb1 hc1=>?_) (fun hb1 hc1=>?_)
 ·have h0:(Fq w i n).2.2=0:=hc1;obtain⟨c,hc⟩:∃c,(Fq w i n).2.1=[c]:=by rw[hmk]at h0 ⊢;exact ZJ h0
  have hch:(Bc w (Fq w i n)).1.r.changes=[c]:=by rw[ME h0];exact hc
  have hx1:(Bc w (Fq w i n)).1.r.items[i]?=some x:=by rw[ME h0];exact hx
  have hfb:FlsB (Bc w (Fq w i n)).1.s.spc.files:=by rw[ME h0];exact(hok h0).1.b
  have hrow2:((Bc w (Fq w i n)).1.r.changes.map Ej)[0]?=some (Ej c):=by rw[hch];rfl
  refine EX (h:=m_ (h:=Dj (h:=?_)));refine A3 rfl (DA (n:=0) rfl rfl rfl hrow2 ?_);refine Ab (h:=?_);refine A3 rfl (Bm [0,1] rfl (.cons _ _ _ _ _ rfl (A7 _) (.cons _ _ _ _ _ rfl (A7 _) (.cons _ _ _ _ _ rfl (A7 _) .nil))) (by decide) (.cons _ _ _ _ _ rfl rfl (.cons _ _ _ _ _ rfl (Df B4 _ _ _) .nil)) (Ue (Bc w (Fq w i n)).1 cap i c.2.2.2 x hfb hx1) ?_);rintro r bc tc ⟨rfl,rfl,rfl⟩;refine⟨rfl,_,E4 rfl (Kr (Bc w (Fq w i n)).1 i c.2.2.2) cap,?_⟩;refine e_ (EA (h:=?_));refine BU (r:= .v (.int .i64 (D0 w i n).2)) none (h5:=(by rw[D0,if_pos h0];exact LeA.of_eq (vi h0))) (h6:=⟨rfl,rfl,?_⟩);rw[D0,if_pos h0,hc];rfl
 have h0:¬(Fq w i n).2.2=0:=hc1;refine AG (EA (h:=?_));refine BU (r:= .v (.int .i64 (D0 w i n).2)) none (h5:=(by rw[D0,if_neg h0];exact A7 _)) (h6:=⟨rfl,rfl,?_⟩);rw[D0,if_neg h0,Rw h0];rfl
theorem oH(w:Wrk)(cap:Nat)(f:Fnd)(x:Itm)(hv:SpcV w.s.spc)(hm:w.s.spc.mounts.length≤1000)(htb:TabB w.s.tab)(hf:w.found[0]?=some f)(hx:w.r.items[0]?=some x)(hn:f.name.size≤100000):ACall prog 145 [.bp 0 0] [WA w cap,IB w cap] (fun r b t=>t=[]∧r= .v (.int .i64 (Cn w).2)∧b=[WA (Cn w).1 cap,IB (Cn w).1 cap]):=by
 have hsb:=hv.b hm;have hrow:(w.found.map Al)[0]?=some (Al f):=by rw[List.getElem?_map,hf];rfl
 have hfn:B0 w 0=f:=by unfold B0;rw[hf];rfl
 refine enter Tryz.func145 rfl rfl rfl rfl rfl 2 rfl ?_;refine w_ (a_ (h:=e_ (q_ (BS ([(0,WA w cap),(1,IB w cap)]) 15 (h:=AF 0 (h:=BM 1 (h:=AD 2 (h:=AA 3 (h:=DK 4 (h:=AA 5 (h:=AF 6 (h:=BM 7 (h:=AD 8 (h:=AD 9 (h:=?_)))))))))))))));refine CC 10 rfl (fun _ hS=>CB (len:=4) (sz:=1) (n:=0) (by kernel_rfl) rfl rfl rfl rfl ⟨rfl,rfl⟩) ?_;refine AA 11 (h:=?_);refine c_ 12 rfl (BV (by repeat constructor) ?_);refine o_ (h:=?_);refine Ak 13 (h:=BE 14 (h:=z_ (h:=t_ (?_))));refine B9 (fun s=>∃(w2:Wrk) (F2:Fnd),Cn w=LH w2 F2.file∧TabB w2.s.tab∧s=⟨look [(0, .bp 0 0),(3, .bp 2 0),(4, .v (.int .i64 w2.c.a0))],⟨[WA w2 cap,IB w2 cap,Al F2],[]⟩⟩) ?_ ?_
 ·skip
  refine Az (h:=e_ (?_));refine A4 rfl (fun hb1 hc1=>?_) (fun hb1 hc1=>?_)
  ·have hex:(B0 w 0).ex=true:=by rw[hfn];exact hc1
   refine B9 (fun s=>s=⟨look [(0, .bp 0 0),(3, .bp 2 0),(4, .v (.int .i64 w.c.a0)),(5, .bp 3 0)],⟨[WA w cap,IB w cap,Al f,Ac (Ah w.s.spc.files f.file)],[]⟩⟩) ?_ ?_
   ·skip
    refine BS ([(0,WA w cap),(1,IB w cap),(2,Al f)]) 15 (h:=AF 0 (h:=BM 1 (h:=AD 2 (h:=AD 3 (h:=AD 4 (h:=AA 5 (h:=AD 6 (h:=AA 7 (h:=?_)))))))));refine DS 8 12 rfl rfl ?_ ?_
    ·refine A8 (FZ w.s.spc.files f.file hsb.files) ?_;rintro r rfl;refine o_ (h:=?_);refine AF 9 (h:=Ay 10 (h:=Ay 11 (h:=?_)));refine c_ 12 rfl (BV (by repeat constructor) ?_);refine o_ (h:=?_);refine Ak 13 (h:=BE 14 (h:=z_ (h:=?_)));refine AM ?_;exact⟨_,rfl,Cp 4 0⟩
    refine BV (by repeat constructor) ?_;refine o_ (h:=?_);refine c_ 8 rfl (A8 (FZ w.s.spc.files f.file hsb.files) ?_);rintro r rfl;refine o_ (h:=AF 9 (h:=Ay 10 (h:=Ay 11 (h:=?_))));refine Ak 13 (h:=BE 14 (h:=z_ (h:=?_)));refine AM ?_;exact⟨_,rfl,Cp 4 0⟩
   rintro s rfl;refine Cw (h:=?_);refine B9 (fun s=>s=⟨look [(0, .bp 0 0),(3, .bp 2 0),(4, .v (.int .i64 w.c.a0)),(5, .bp 3 0),(7, .v (.int .i64 (if CL w.c.a0 1=true then 4 else 0)))],⟨[WA w cap,IB w cap,Al f,Ac (Ah w.s.spc.files f.file)],[]⟩⟩) ?_ ?_
   ·skip
    refine Aa (h:=FC (h:=Bn (h:=?_)));refine A4 rfl (fun hb2 hc2=>?_) (fun hb2 hc2=>?_)
    ·have k0:CL w.c.a0 1=true:=by simpa[CL]using hc2
     refine RC (h:=?_);refine⟨_,rfl,?_⟩
     (rw[if_pos k0];exact Cp 4 0)
    have k0:¬CL w.c.a0 1=true:=by simpa[CL]using hc2
    refine BF (AM (?_));refine⟨_,rfl,?_⟩
    first|(rw[if_pos k0];exact Cp 4 0)|(rw[if_neg k0];exact Cp 4 0)
   rintro s rfl;refine B9 (fun s=>s=⟨look [(0, .bp 0 0),(3, .bp 2 0),(4, .v (.int .i64 w.c.a0)),(5, .bp 3 0),(7, .v (.int .i64 (M9 w.c.a0)))],⟨[WA w cap,IB w cap,Al f,Ac (Ah w.s.spc.files f.file)],[]⟩⟩) ?_ ?_
   ·skip
    refine Aa (h:=FC (h:=Bn (h:=?_)));refine A4 rfl (fun hb3 hc3=>?_) (fun hb3 hc3=>?_)
    ·have k00:CL w.c.a0 18=true:=by simpa[CL]using hc3
     refine RC (h:=?_);refine⟨_,rfl,?_⟩;unfold M9
     (rw[if_pos k00];exact Cp 4 0)
    have k00:¬CL w.c.a0 18=true:=by simpa[CL]using hc3
    refine BF (AM (?_));refine⟨_,rfl,?_⟩;unfold M9
    first|(rw[if_pos k00];exact Cp 4 0)|(rw[if_neg k00,Int.add_zero];exact Cp 4 0)
   rintro s rfl;refine BH (?_);refine B9 (fun s=>s=⟨look [(0, .bp 0 0),(3, .bp 2 0),(4, .v (.int .i64 w.c.a0)),(5, .bp 3 0),(7, .v (.int .i64 (M9 w.c.a0))),(48, .v (.bool (CL w.c.a0 4&&CL w.c.a0 8)))],⟨[WA w cap,IB w cap,Al f,Ac (Ah w.s.spc.files f.file)],[]⟩⟩) ?_ ?_
   ·skip
    refine C5 (h:=FC (h:=FW (h:=?_)));refine AJ true rfl rfl (fun hb4 hc4=>?_) (fun hb4 hc4=>?_)
    ·refine m_ (h:=FC (h:=GH (h:=Bj (h:=Ck (h:=?_)))));exact⟨_,rfl,Ai 4 0 rfl rfl rfl (by simp[AY,AX,AW,By B4,BG,WA,IB,Co,Al,Ac]) (by repeat (first|exact Sub.nil|refine Aj rfl rfl ?_|refine Ap ?_|refine Aq rfl ?_|refine Ar rfl ?_|(apply Sub.of;(focus exact rfl);(focus exact LeA.of_eq (vb (by simp[CL, *])));(focus exact rfl))))⟩
    refine DC (h:=Ck (h:=?_));exact⟨_,rfl,Ai 4 0 rfl rfl rfl (by simp[AY,AX,AW,By B4,BG,WA,IB,Co,Al,Ac]) (by repeat (first|exact Sub.nil|refine Aj rfl rfl ?_|refine Ap ?_|refine Aq rfl ?_|refine Ar rfl ?_|(apply Sub.of;(focus exact rfl);(focus exact LeA.of_eq (vb (by simp[CL, *])));(focus exact rfl))))⟩
   rintro s rfl;refine A4 rfl (fun hb5 hc5=>?_) (fun hb5 hc5=>?_)
   ·have k1:CL w.c.a0 4=true∧CL w.c.a0 8=true:=by simpa using hc5
    refine Bl (h:=?_);refine BU (r:= .v (.int .i64 (Cn w).2)) none (h5:=(by rw[Cn,if_pos hex,if_pos k1];exact A7 _)) (h6:=⟨rfl,rfl,?_⟩);rw[Cn,if_pos hex,if_pos k1];rfl
   have k1:¬(CL w.c.a0 4=true∧CL w.c.a0 8=true):=by simpa using hc5
   refine Az (h:=Ed (h:=?_));refine A4 rfl (fun hb6 hc6=>?_) (fun hb6 hc6=>?_)
   ·have k2:(Ah w.s.spc.files (B0 w 0).file).kind=3:=by rw[hfn];exact hc6
    refine Bl (h:=?_);refine BU (r:= .v (.int .i64 (Cn w).2)) none (h5:=(by rw[Cn,if_pos hex,if_neg k1,if_pos k2];exact A7 _)) (h6:=⟨rfl,rfl,?_⟩);rw[Cn,if_pos hex,if_neg k1,if_pos k2];rfl
   have k2:¬(Ah w.s.spc.files (B0 w 0).file).kind=3:=by rw[hfn];exact hc6
   refine B9 (fun s=>s=⟨look [(0, .bp 0 0),(3, .bp 2 0),(4, .v (.int .i64 w.c.a0)),(5, .bp 3 0),(7, .v (.int .i64 (M9 w.c.a0))),(61, .v (.bool (decide ((Ah w.s.spc.files f.file).kind=2)&&CL w.c.a0 22)))],⟨[WA w cap,IB w cap,Al f,Ac (Ah w.s.spc.files f.file)],[]⟩⟩) ?_ ?_
   ·skip
    refine Av (Cx (h:=m_ (h:=?_)));refine AJ true rfl rfl (fun hb7 hc7=>?_) (fun hb7 hc7=>?_)
    ·refine m_ (h:=FC (h:=GH (h:=Bj (h:=Ck (h:=?_)))));exact⟨_,rfl,Ai 4 0 rfl rfl rfl (by simp[AY,AX,AW,By B4,BG,WA,IB,Co,Al,Ac]) (by repeat (first|exact Sub.nil|refine Aj rfl rfl ?_|refine Ap ?_|refine Aq rfl ?_|refine Ar rfl ?_|(apply Sub.of;(focus exact rfl);(focus exact LeA.of_eq (vb (by simp[CL, *])));(focus exact rfl))))⟩
    refine DC (h:=Ck (h:=?_));exact⟨_,rfl,Ai 4 0 rfl rfl rfl (by simp[AY,AX,AW,By B4,BG,WA,IB,Co,Al,Ac]) (by repeat (first|exact Sub.nil|refine Aj rfl rfl ?_|refine Ap ?_|refine Aq rfl ?_|refine Ar rfl ?_|(apply Sub.of;(focus exact rfl);(focus exact LeA.of_eq (vb (by simp[CL, *])));(focus exact rfl))))⟩
   rintro s rfl;refine A4 rfl (fun hb8 hc8=>?_) (fun hb8 hc8=>?_)
   ·have k3:(Ah w.s.spc.files (B0 w 0).file).kind=2∧CL w.c.a0 22=true:=by rw[hfn];simpa using hc8
    refine Bl (h:=?_);refine BU (r:= .v (.int .i64 (Cn w).2)) none (h5:=(by rw[Cn,if_pos hex,if_neg k1,if_neg k2,if_pos k3];exact A7 _)) (h6:=⟨rfl,rfl,?_⟩);rw[Cn,if_pos hex,if_neg k1,if_neg k2,if_pos k3];rfl
   have k3:¬((Ah w.s.spc.files (B0 w 0).file).kind=2∧CL w.c.a0 22=true):=by rw[hfn];simpa using hc8
   refine Aa (h:=Gj (h:=?_));refine A3 rfl (Ds 1 rfl (.cons _ _ _ _ _ rfl (LeA.of_eq rfl) (.cons _ _ _ _ _ rfl (A7 _) (.cons _ _ _ _ _ rfl (A7 _) .nil))) (LM w .any f.file (M9 w.c.a0) hsb) ?_);rintro r rfl;refine⟨rfl,?_⟩;refine Cr (h:=B7 (h:=?_));refine A4 rfl (fun hb9 hc9=>?_) (fun hb9 hc9=>?_)
   ·have k4:CM w (B0 w 0).file (M9 w.c.a0)=false:=by rw[hfn];simpa using hc9
    refine Bl (h:=?_);refine BU (r:= .v (.int .i64 (Cn w).2)) none (h5:=(by rw[Cn,if_pos hex,if_neg k1,if_neg k2,if_neg k3,if_pos k4];exact A7 _)) (h6:=⟨rfl,rfl,?_⟩);rw[Cn,if_pos hex,if_neg k1,if_neg k2,if_neg k3,if_pos k4];rfl
   have k4:¬CM w (B0 w 0).file (M9 w.c.a0)=false:=by rw[hfn];simpa using hc9
   refine BF (BB (AM (?_)));exact⟨_,⟨w,f,(by rw[Cn,if_pos hex,if_neg k1,if_neg k2,if_neg k3,if_neg k4,hfn]),htb,rfl⟩,Cp 3 0⟩
  have hex:¬(B0 w 0).ex=true:=by rw[hfn];simpa using hc1
  refine q_ (BH (Aa (h:=FC (h:=Ed (h:=?_)))));refine A4 rfl (fun hb10 hc10=>?_) (fun hb10 hc10=>?_)
  ·have k1:CL w.c.a0 4=false:=by simp only[CL];simpa using hc10
   refine Bl (h:=Bu (?_));refine BU (r:= .v (.int .i64 (Cn w).2)) none (h5:=(by rw[Cn,if_neg hex,if_pos k1];exact A7 _)) (h6:=⟨rfl,rfl,?_⟩);rw[Cn,if_neg hex,if_pos k1];rfl
  have k1:¬CL w.c.a0 4=false:=by simp only[CL];simpa using hc10
  refine Az (h:=B7 (h:=?_));refine A4 rfl (fun hb11 hc11=>?_) (fun hb11 hc11=>?_)
  ·have k2:(B0 w 0).slash=true:=by rw[hfn];exact hc11
   refine Bl (h:=Bu (?_));refine BU (r:= .v (.int .i64 (Cn w).2)) none (h5:=(by rw[Cn,if_neg hex,if_neg k1,if_pos k2];exact A7 _)) (h6:=⟨rfl,rfl,?_⟩);rw[Cn,if_neg hex,if_neg k1,if_pos k2];rfl
  have k2:¬(B0 w 0).slash=true:=by rw[hfn];simpa using hc11
  refine Aa (h:=Ab (h:=?_));refine A3 rfl (Ds 1 rfl (.cons _ _ _ _ _ rfl (LeA.of_eq rfl) (.cons _ _ _ _ _ rfl (A7 _) (.cons _ _ _ _ _ rfl (A7 _) .nil))) (LM w .any f.dir 2 hsb) ?_);rintro r rfl;refine⟨rfl,?_⟩;refine Cr (h:=B7 (h:=?_));refine A4 rfl (fun hb12 hc12=>?_) (fun hb12 hc12=>?_)
  ·have k3:CM w (B0 w 0).dir 2=false:=by rw[hfn];simpa using hc12
   refine Bl (h:=Bu (?_));refine BU (r:= .v (.int .i64 (Cn w).2)) none (h5:=(by rw[Cn,if_neg hex,if_neg k1,if_neg k2,if_pos k3];exact A7 _)) (h6:=⟨rfl,rfl,?_⟩);rw[Cn,if_neg hex,if_neg k1,if_neg k2,if_pos k3];rfl
  have k3:¬CM w (B0 w 0).dir 2=false:=by rw[hfn];simpa using hc12
  refine BF (BB (t_ (Du (h:=Hd (h:=f_ (h:=?_))))));refine A3 rfl (CB (len:=4) (sz:=1) (n:=1) (by kernel_rfl) rfl rfl rfl rfl ?_);refine l_ (h:=?_);refine A3 rfl (Hp (y:= .agg (Ac (Ks w.c.a1))) (Dz ⟨rfl,rfl⟩) ?_);refine A3 rfl (Bm [0,1] rfl (.cons _ _ _ _ _ rfl (A7 _) (.cons _ _ _ _ _ rfl (A7 _) (.cons _ _ _ _ _ rfl (A7 _) .nil))) (by decide) (.cons _ _ _ _ _ rfl rfl (.cons _ _ _ _ _ rfl (Df B4 _ _ _) .nil)) (Uf w cap 0 (Ks w.c.a1) f x hv.files hf hx hn (BK _) rfl) ?_);rintro r bc tc ⟨rfl,rfl,rfl⟩;refine⟨rfl,_,E4 rfl (D0 w 0 (Ks w.c.a1)).1 cap,?_⟩;refine C4 (h:=Bn (h:=?_));refine A4 rfl (fun hb13 hc13=>?_) (fun hb13 hc13=>?_)
  ·have k4:(D0 w 0 (Ks w.c.a1)).2≠0:=by simpa using hc13
   refine Aa (h:=E8 (h:=Bu (?_)));refine BU (r:= .v (.int .i64 (Cn w).2)) none (h5:=(by rw[Cn,if_neg hex,if_neg k1,if_neg k2,if_neg k3,if_pos k4];exact A7 _)) (h6:=⟨rfl,rfl,?_⟩);rw[Cn,if_neg hex,if_neg k1,if_neg k2,if_neg k3,if_pos k4];rfl
  have k4:(D0 w 0 (Ks w.c.a1)).2=0:=by simpa using hc13
  obtain⟨c,hc⟩:=oF k4;have hrow2:((D0 w 0 (Ks w.c.a1)).1.r.changes.map Ej)[0]?=some (Ej c):=by rw[hc];rfl
  refine AG (C5 (h:=Dj (h:=?_)));refine A3 rfl (DA (n:=0) rfl rfl rfl hrow2 ?_);refine Ab (h:=Cb (h:=D6 (h:=?_)))
  first|exact⟨_,⟨w,f,(by rw[Cn,if_pos hex,if_neg k1,if_neg k2,if_neg k3,if_neg k4,hfn]),htb,rfl⟩,Cp 3 0⟩|(obtain⟨q1,q2,q3⟩:=oG w 0 (Ks w.c.a1);exact⟨_,⟨(D0 w 0 (Ks w.c.a1)).1,{f with file:=c.2.2.2},(by rw[Cn,if_neg hex,if_neg k1,if_neg k2,if_neg k3,if_neg (by simp[k4]),hc];rfl),by rw[q1];exact htb,rfl⟩,by rw[q3];exact Cp 3 0⟩)
 rintro s ⟨w2,F2,hop,htb2,rfl⟩;refine B9 (fun s=>s=⟨look [(0, .bp 0 0),(9, .bp 3 0),(10, .v (.int .i64 (GZ w2.s.tab w2.p.pid F2.file w2.c.a0).2.1)),(11, .v (.int .i64 (GZ w2.s.tab w2.p.pid F2.file w2.c.a0).2.2))],⟨[WA w2 cap,IB w2 cap,Al F2,Am (GZ w2.s.tab w2.p.pid F2.file w2.c.a0).1],[]⟩⟩) ?_ ?_
 ·skip
  refine BS ([(0,WA w2 cap),(1,IB w2 cap),(2,Al F2)]) 22 (h:=AF 0 (h:=BM 1 (h:=AD 2 (h:=AD 3 (h:=AA 4 (h:=AF 5 (h:=BM 6 (h:=AD 7 (h:=AD 8 (h:=AA 9 (h:=AD 10 (h:=AA 11 (h:=AF 12 (h:=?_))))))))))))));refine DS 13 18 rfl rfl ?_ ?_
  ·refine A8 (ZC w2.s.tab w2.p.pid F2.file w2.c.a0 htb2) ?_;rintro r rfl;refine o_ (h:=?_);refine AF 14 (h:=Ay 15 (h:=Ay 16 (h:=Ay 17 (h:=?_))));refine c_ 18 rfl (BV (by repeat constructor) ?_);refine o_ (h:=?_);refine Ak 19 (h:=BE 20 (h:=BE 21 (h:=z_ (h:=?_))));refine AM ?_;exact⟨_,rfl,Cp 4 0⟩
  refine BV (by repeat constructor) ?_;refine o_ (h:=?_);refine c_ 13 rfl (A8 (ZC w2.s.tab w2.p.pid F2.file w2.c.a0 htb2) ?_);rintro r rfl;refine o_ (h:=AF 14 (h:=Ay 15 (h:=Ay 16 (h:=Ay 17 (h:=?_)))));refine Ak 19 (h:=BE 20 (h:=BE 21 (h:=z_ (h:=?_))));refine AM ?_;exact⟨_,rfl,Cp 4 0⟩
 rintro s rfl;refine E9 (h:=Hd (h:=D7 (h:=Aa (h:=Gq (h:=?_)))));refine A3 rfl (Bm [0,1] rfl (.cons _ _ _ _ _ rfl (A7 _) (.cons _ _ _ _ _ rfl (A7 _) (.cons _ _ _ _ _ rfl (A7 _) .nil))) (by decide) (.cons _ _ _ _ _ rfl rfl (.cons _ _ _ _ _ rfl (Df B4 _ _ _) .nil)) (Ud (Ro w2 (GZ w2.s.tab w2.p.pid F2.file w2.c.a0).2.1) cap (GZ w2.s.tab w2.p.pid F2.file w2.c.a0).1 (GZ w2.s.tab w2.p.pid F2.file w2.c.a0).2.2) ?_);rintro r bc tc ⟨rfl,rfl,rfl⟩;refine⟨rfl,_,E4 rfl (LH w2 F2.file).1 cap,?_⟩;refine BJ (h:=?_);refine BU (r:= .v (.int .i64 (Cn w).2)) none (h5:=(by rw[hop,LH,Lm];exact A7 _)) (h6:=⟨rfl,rfl,?_⟩);rw[hop];rfl
end
end Go.Proofs.YtbgnigjfkbmceaaGreatDoor
