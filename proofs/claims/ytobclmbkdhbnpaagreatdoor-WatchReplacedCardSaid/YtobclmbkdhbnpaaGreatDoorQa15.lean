/-
  Part 15 of the proof of WatchReplacedP: what the statement's proof uses of the texts in wip/tpl.
-/
import Derived.Test.YtobclmbkdhbnpaaGreatDoorQa14
open Go.Proofs.Tryz (prog)
set_option maxRecDepth 10000
set_option maxHeartbeats 4000000
set_option linter.unusedVariables false
set_option linter.unusedSimpArgs false
namespace Go.Proofs.YtobclmbkdhbnpaaGreatDoor
open Go.RowKit
def Ml(σ:Lk):List AV:=Ax ⟨σ.dir,σ.name,σ.file,σ.ex,false,⟨#[]⟩⟩
theorem Gd{s:Spc}(hv:FlsV s.files){F:Bool}{q:AE}{qs:List AE}{da:A9}{na:AE}{a:A9}{ea:Bool}{lk:Nat}(h8:lk≤8):(∀e,Bv s F q qs a lk= .inl e→Df s F ⟨q::qs,da,na,a,ea,lk⟩=(e,Me))∧∀τ,Bv s F q qs a lk= .inr τ→τ.links≤8∧Df s F ⟨q::qs,da,na,a,ea,lk⟩=Df s F τ∧EE τ<(8 - lk) * 200+(qs.length+1):=by
 have hc:=Um hv (fl:=F) (σ:=⟨q::qs,da,na,a,ea,lk⟩) (p:=q) (ps:=qs) h8 rfl;refine⟨fun e he=>?_,fun τ hτ=>?_⟩
 ·rw[hc];simp only[he]
 obtain⟨h1,h2⟩:=R7 hv h8 hτ;refine⟨h1,?_,h2⟩;rw[hc];simp only[hτ]
section
theorem VQ(s:Spc)(hs:SpcB s)(hv:SpcV s):AFn prog 87 [.agg (Ar s)] (fun r=>r= .agg (AB (D9 s))):=by
 refine enter Tryz.func87 rfl rfl rfl rfl rfl 0 rfl ?_;refine w_ (b_ (h:=Af (h:=e_ (w_ (l_ (h:=Aa (h:=?_)))))));refine A7 rfl (AK (RP hs hv (0,1)) ?_);rintro r rfl;refine s_ (h:=e_ (A6 (?_)));refine AA ?_;rfl
theorem VR(s:Spc)(start:A9)(p:AE)(fl:Bool)(hs:SpcN s)(hv:SpcV s)(hp:p.size≤100000):AFn prog 58 [.agg (Ar s), .agg (AB start), .v (.string p), .v (.bool fl)] (fun r=>r= .tup [.agg (Ax (Bb s start p fl).1), .v (.int .i64 (Bb s start p fl).2)]):=by
 have hw:=Qu hv;have hsp:=L4 p;refine enter Tryz.func58 rfl rfl rfl rfl rfl 0 rfl ?_;refine w_ (b_ (h:=b_ (h:=Af (h:=a_ (h:=e_ (w_ (m_ (h:=?_))))))));refine A7 rfl (AK (Qw p hp) ?_);rintro r ⟨ps,hps,rfl⟩;obtain rfl:=R6 hps;clear hps;refine m_ (h:=x_ (h:=x_ (h:=x_ (h:=a_ (h:=a_ (h:=a_ (h:=e_ (q_ (w_ (m_ (h:=Ac (h:=e_ (?_)))))))))))));refine A8 rfl (fun hb1=>?_) (fun hb1=>?_)
 ·have hc1:=bp hb1;refine w_ (Aa (h:=s_ (h:=a_ (h:=e_ (A6 (A4 (?_)))))));refine AA ?_;rw[show Bb s start p fl=(D8,2) from if_pos hc1];rfl
 have hc1:=bp hb1;refine AN (q_ (w_ (m_ (h:=n_ (h:=CS (h:=e_ (?_)))))));refine A8 rfl (fun hb2=>?_) (fun hb2=>?_)
 ·have hc2:=bp hb2;refine w_ (Aa (h:=s_ (h:=a_ (h:=e_ (A6 (A4 (?_)))))));refine AA ?_;rw[VM hc1 (by omega)];rfl
 have hc2:=bp hb2;refine AN (w_ (l_ (h:=Af (h:=s_ (h:=e_ (?_))))));refine BY (fun t=>∃a,(if Ck p=true then D9 s else start)=a∧t=⟨look [(3, .v (.bool fl)),(4, .bp 0 0),(8, .bp 2 0),(10, .sl 1 ((Cd p).map Cq) none),(12, .v (.bool (BF p))),(13, .bp 3 0)],⟨[Ar s,AB start,Ax D8,AB a],[]⟩⟩) ?_ ?_
 ·skip
  refine w_ (m_ (h:=e_ (?_)));refine A8 rfl (fun hb3=>?_) (fun hb3=>?_)
  ·have hc3:=bp hb3;refine AX (l_ (h:=?_));refine A7 rfl (AK (VQ s hs.b hv) ?_);rintro r rfl;refine s_ (h:=AW (?_));refine AJ ?_
   first|exact⟨_,⟨D9 s,if_pos hc3,rfl⟩,(wk 4 0)⟩|exact⟨_,⟨start,if_neg (by simp[hc3]),rfl⟩,(wk 4 0)⟩
  have hc3:=bp hb3;refine BA (?_);refine AJ ?_
  first|exact⟨_,⟨D9 s,if_pos hc3,rfl⟩,(wk 4 0)⟩|exact⟨_,⟨start,if_neg (by simp[hc3]),rfl⟩,(wk 4 0)⟩
 rintro t ⟨a0,ha,rfl⟩;refine q_ (w_ (f_ (h:=l_ (h:=l_ (h:=?_)))));refine A7 rfl (AK (Fi s.files a0 hs.b.files) ?_);rintro r rfl;refine BZ (h:=e_ (?_));refine A8 rfl (fun hb4=>?_) (fun hb4=>?_)
 ·have hc4:=bp hb4;refine w_ (Aa (h:=s_ (h:=a_ (h:=e_ (A6 (A4 (?_)))))));refine AA ?_;rw[VN hc1 (by omega) ha (by simpa using hc4)];rfl
 have hc4:=bp hb4;have had:Ag s.files a0=true:=by simpa using hc4
 refine AN (w_ (l_ (h:=l_ (h:=Aa (h:=Af (h:=s_ (h:=e_ (w_ (a_ (h:=e_ (?_)))))))))));refine BY (fun t=>∃(τ:Lk) (d:A9),Df s (fl||BF p) (FV (Cd p) a0)=(0,τ)∧τ.name.size≤1000∧t=⟨look [(4, .bp 0 0),(8, .bp 2 0),(12, .v (.bool (BF p))),(14, .bp 4 0)],⟨[Ar s,AB start,Ax D8,AB d,Ml τ],[]⟩⟩) ?_ ?_
 ·skip
  refine Ao (?_);refine Bm (fun m t=>∃(σ:Lk) (d:A9),σ.links≤8∧σ.name.size≤12∧Df s (fl||BF p) σ=Df s (fl||BF p) (FV (Cd p) a0)∧m=EE σ∧m≤1729∧t=⟨look [(3, .v (.bool fl)),(4, .bp 0 0),(8, .bp 2 0),(10, .sl 1 (σ.ps.map Cq) none),(12, .v (.bool (BF p))),(13, .bp 3 0),(14, .bp 4 0),(15, .v (.int .i64 (σ.links:Int)))],⟨[Ar s,AB start,Ax D8,AB d,Ml σ],[]⟩⟩) (EE (FV (Cd p) a0)) ((wk 5 0)) (⟨_,a0,BJ _,BJ _,rfl,rfl,by show(8 - 0) * 200+(Cd p).length≤1729;omega,rfl⟩) ?_;rintro m t ⟨⟨ps0,da,na,a,ea,lk⟩,d,h8,hna,hT,rfl,hm,rfl⟩;have hm:(8 - lk) * 200+ps0.length≤1729:=hm;have h8:lk≤8:=h8;have hml:(ps0.map Cq).length=ps0.length:=by simp
  refine q_ (w_ (m_ (h:=n_ (h:=CS (h:=e_ (?_))))));refine A8 rfl (fun hb5=>?_) (fun hb5=>?_)
  ·have hc5:=bp hb5
   obtain⟨q,qs,hps⟩:∃q qs,ps0=q::qs:=by
    cases ps0 with
    |nil=>simp at hc5
    |cons q qs=>exact⟨q,qs,rfl⟩
   subst hps;have hml:(qs.map Cq).length=qs.length:=by simp
   have hmq:(8 - lk) * 200+(qs.length+1)≤1729:=hm;have htg:=MM hv.files (AD s.files a q).1;have htp:=L4 (AZ s.files (AD s.files a q).1).target;refine AN (Ao (w_ (m_ (h:=?_))));refine A7 rfl (CM (n:=0) rfl rfl rfl rfl ?_);refine l_ (h:=a_ (h:=e_ (?_)));refine JC (⟨look [(3, .v (.bool fl)),(4, .bp 0 0),(8, .bp 2 0),(10, .sl 1 (qs.map Cq) none),(12, .v (.bool (BF p))),(13, .bp 3 0),(14, .bp 4 0),(15, .v (.int .i64 (lk:Int))),(16, .v (.string q))],⟨[Ar s,AB start,Ax D8,AB d,Ml ⟨q::qs,da,na,a,ea,lk⟩],[]⟩⟩) ?_ ?_
   ·skip
    refine AX (m_ (h:=?_));refine A7 rfl (P6 (l:=1) rfl rfl rfl (by simp) ?_);refine a_ (h:=AW (?_));refine AJ ?_
    first|(exfalso;first|contradiction|omega)|exact B7 5 0 rfl rfl rfl rfl (by repeat (first|exact Sub.nil|refine B9 rfl rfl ?_|refine BC ?_|refine BD rfl ?_|refine BE rfl ?_|(apply Sub.of;(focus exact rfl);(focus exact LeA.of_eq (vb (by rfl)));(focus exact rfl))))
   skip
   refine w_ (f_ (h:=l_ (h:=s_ (h:=e_ (q_ (w_ (f_ (h:=l_ (h:=l_ (h:=?_))))))))));refine A7 rfl (AK (Fi s.files a hs.b.files) ?_);rintro r rfl;refine BZ (h:=e_ (?_));refine A8 rfl (fun hb6=>?_) (fun hb6=>?_)
   ·have hc6:=bp hb6;have hst:Bv s (fl||BF p) q qs a lk= .inl 20:=by unfold Bv;rw[if_pos hc6]
    refine w_ (Aa (h:=s_ (h:=a_ (h:=e_ (A6 (A4 (AR (A4 (AR (A4 (?_)))))))))));refine AA ?_;rw[LA hc1 (by omega) ha had (hT.symm.trans ((Gd (F:=fl||BF p) (da:=da) (na:=na) (ea:=ea) hv.files h8).1 _ hst)) (by decide)];rfl
   have hc6:=bp hb6;refine AN (q_ (w_ (m_ (h:=n_ (h:=CS (h:=e_ (?_)))))));refine A8 rfl (fun hb7=>?_) (fun hb7=>?_)
   ·have hc7:=bp hb7;have hst:Bv s (fl||BF p) q qs a lk= .inl 36:=by unfold Bv;rw[if_neg (by simp[hc6]),if_pos (by omega)]
    refine w_ (Aa (h:=s_ (h:=a_ (h:=e_ (A6 (A4 (AR (A4 (AR (A4 (?_)))))))))));refine AA ?_;rw[LA hc1 (by omega) ha had (hT.symm.trans ((Gd (F:=fl||BF p) (da:=da) (na:=na) (ea:=ea) hv.files h8).1 _ hst)) (by decide)];rfl
   have hc7:=bp hb7;have hq12:q.size≤12:=by omega
   refine AN (q_ (w_ (m_ (h:=Ac (h:=m_ (h:=?_))))));refine As false rfl rfl (fun hb8=>?_) (fun hb8=>?_)
   ·have hc8:=bp hb8;refine A3 (h:=A3 (h:=AU (h:=e_ (BQ (h:=q_ (w_ (m_ (h:=Ac (h:=e_ (?_))))))))));refine A8 rfl (fun hb9=>?_) (fun hb9=>?_)
    ·have hc9:=bp hb9;rw[hc8]at hc9;exact absurd hc9 (by decide)
    have hc9:=bp hb9;have hst:Bv s (fl||BF p) q qs a lk= .inr ⟨qs,a,⟨#[]⟩,a,true,lk⟩:=by unfold Bv;rw[if_neg (by simp[hc6]),if_neg (by omega),if_pos hc8]
    refine AN (w_ (l_ (h:=l_ (h:=Aa (h:=s_ (h:=e_ (BU (Am (BV (?_))))))))));refine AJ ?_;obtain⟨g1,g2,g3⟩:=(Gd (F:=fl||BF p) (da:=da) (na:=na) (ea:=ea) hv.files h8).2 _ hst;exact⟨_,_,g3,⟨_,_,g1,(by first|exact BJ _|exact hq12),g2.symm.trans hT,rfl,Nat.le_trans (Nat.le_of_lt g3) hmq,rfl⟩,(by(try simp only[List.map_append]);exact B7 5 0 rfl rfl rfl rfl ((by repeat (first|exact Sub.nil|refine B9 rfl rfl ?_|refine BC ?_|refine BD rfl ?_|refine BE rfl ?_))))⟩
   have hc8:=bp hb8;refine m_ (h:=Ac (h:=Ah (h:=e_ (?_))));refine A8 rfl (fun hb10=>?_) (fun hb10=>?_)
   ·have hc10:=bp hb10;refine q_ (w_ (m_ (h:=Ac (h:=e_ (?_)))));refine A8 rfl (fun hb11=>?_) (fun hb11=>?_)
    ·have hc11:=bp hb11;have hst:Bv s (fl||BF p) q qs a lk= .inr ⟨qs,Ci s s.mounts.length (DY s (s.mounts.length+1) a),⟨#[]⟩,Ci s s.mounts.length (DY s (s.mounts.length+1) a),true,lk⟩:=by unfold Bv;rw[if_neg (by simp[hc6]),if_neg (by omega),if_neg hc8,if_pos hc11]
     refine Bi ([(0,Ar s),(3,AB a)]) 5 (h:=AF 0 (h:=AF 1 (h:=AF 2 (h:=?_))));refine c_ 3 rfl (AK (bT hs.b hv (s.mounts.length+1) a (by have:=aJ (s:=s) a.1;omega)) ?_);rintro r rfl;refine o_ (h:=?_);refine c_ 4 rfl (AK (RP hs.b hv (DY s (s.mounts.length+1) a)) ?_);rintro r rfl;refine o_ (h:=?_);refine B8 5 rfl (B3 rfl rfl rfl rfl rfl rfl (by repeat constructor) (by repeat constructor) ?_);refine o_ (h:=z_ (h:=t_ (w_ (l_ (h:=l_ (h:=Aa (h:=s_ (h:=e_ (BU (Am (BV (?_))))))))))));refine AJ ?_;obtain⟨g1,g2,g3⟩:=(Gd (F:=fl||BF p) (da:=da) (na:=na) (ea:=ea) hv.files h8).2 _ hst;exact⟨_,_,g3,⟨_,_,g1,(by first|exact BJ _|exact hq12),g2.symm.trans hT,rfl,Nat.le_trans (Nat.le_of_lt g3) hmq,rfl⟩,(by(try simp only[List.map_append]);exact B7 5 0 rfl rfl rfl rfl ((by repeat (first|exact Sub.nil|refine B9 rfl rfl ?_|refine BC ?_|refine BD rfl ?_|refine BE rfl ?_))))⟩
    have hc11:=bp hb11;exact absurd hc10 hc11
   have hc10:=bp hb10;refine AN (w_ (f_ (h:=l_ (h:=l_ (h:=m_ (h:=?_))))));refine A7 rfl (AK (GO s.files a q hs.b.files) ?_);rintro r rfl;refine m_ (h:=x_ (h:=x_ (h:=Af (h:=s_ (h:=a_ (h:=e_ (q_ (w_ (m_ (h:=BX (h:=e_ (?_))))))))))));refine A8 rfl (fun hb12=>?_) (fun hb12=>?_)
   ·have hc12:=bp hb12;refine q_ (w_ (m_ (h:=n_ (h:=CS (h:=m_ (h:=?_))))));refine As false rfl rfl (fun hb13=>?_) (fun hb13=>?_)
    ·have hc13:=bp hb13;have hne:qs≠[]:=fun e=>by rw[e]at hc13;simp at hc13
     have hst:Bv s (fl||BF p) q qs a lk= .inl 2:=by unfold Bv;rw[if_neg (by simp[hc6]),if_neg (by omega),if_neg hc8,if_neg hc10,if_pos hc12,if_pos (.inl hne)]
     refine A3 (h:=A3 (h:=A3 (h:=AU (h:=e_ (BQ (h:=w_ (Aa (h:=s_ (h:=a_ (h:=e_ (A6 (A4 (A4 (AR (A4 (AR (A4 (?_))))))))))))))))));refine AA ?_;rw[LA hc1 (by omega) ha had (hT.symm.trans ((Gd (F:=fl||BF p) (da:=da) (na:=na) (ea:=ea) hv.files h8).1 _ hst)) (by decide)];rfl
    have hc13:=bp hb13;have hne:¬qs≠[]:=fun e=>e (DE (by omega));refine m_ (h:=?_);refine Aw (AK (Ng q (by omega)) ?_);rintro r rfl;refine BZ (h:=Ah (h:=e_ (?_)));refine A8 rfl (fun hb14=>?_) (fun hb14=>?_)
    ·have hc14:=bp hb14;have hst:Bv s (fl||BF p) q qs a lk= .inl 2:=by unfold Bv;rw[if_neg (by simp[hc6]),if_neg (by omega),if_neg hc8,if_neg hc10,if_pos hc12,if_pos (.inr hc14)]
     refine w_ (Aa (h:=s_ (h:=a_ (h:=e_ (A6 (A4 (A4 (AR (A4 (AR (A4 (?_))))))))))));refine AA ?_;rw[LA hc1 (by omega) ha had (hT.symm.trans ((Gd (F:=fl||BF p) (da:=da) (na:=na) (ea:=ea) hv.files h8).1 _ hst)) (by decide)];rfl
    have hc14:=bp hb14;have hst:Bv s (fl||BF p) q qs a lk= .inr ⟨[],a,q,(0,0),false,lk⟩:=by unfold Bv;rw[if_neg (by simp[hc6]),if_neg (by omega),if_neg hc8,if_neg hc10,if_pos hc12,if_neg (fun e=>e.elim hne (by simp[hc14]))]
    have hfin:=hT.symm.trans (((Gd (F:=fl||BF p) (da:=da) (na:=na) (ea:=ea) hv.files h8).2 _ hst).2.1.trans (R8 rfl));refine AN (w_ (l_ (h:=m_ (h:=Aa (h:=s_ (h:=e_ (BU (Am (LR rfl (Am (BV (?_))))))))))));refine AJ ?_;exact⟨_,⟨_,_,hfin,(by first|exact Nat.le_trans hna (by decide)|exact Nat.le_trans hq12 (by decide)),rfl⟩,(wk 5 0)⟩
   have hc12:=bp hb12;refine AN (w_ (f_ (h:=l_ (h:=l_ (h:=?_)))));refine A7 rfl (AK (Dm s.files (AD s.files a q).1 hs.b.files) ?_);rintro r rfl;refine m_ (h:=x_ (h:=x_ (h:=Af (h:=s_ (h:=a_ (h:=e_ (q_ (?_))))))));refine JC (⟨look [(3, .v (.bool fl)),(4, .bp 0 0),(8, .bp 2 0),(10, .sl 1 (qs.map Cq) none),(12, .v (.bool (BF p))),(13, .bp 3 0),(14, .bp 4 0),(15, .v (.int .i64 (lk:Int))),(16, .v (.string q)),(17, .bp 5 0),(19, .bp 6 0),(130, .v (.bool (decide ((AZ s.files (AD s.files a q).1).kind=3)&&(decide (0<((qs.map Cq).length:Int))||(fl||BF p)))))],⟨[Ar s,AB start,Ax D8,AB a,Ml ⟨q::qs,da,na,a,ea,lk⟩,AB (AD s.files a q).1,Ab (AZ s.files (AD s.files a q).1)],[]⟩⟩) ?_ ?_
   ·skip
    refine AX (f_ (h:=l_ (h:=Ac (h:=m_ (h:=?_)))));refine As true rfl rfl (fun hb15=>?_) (fun hb15=>?_)
    ·have hc15:=bp hb15;refine m_ (h:=n_ (h:=CS (h:=m_ (h:=?_))));refine As false rfl rfl (fun hb16=>?_) (fun hb16=>?_)
     ·have hc16:=bp hb16;refine A3 (h:=AU (h:=m_ (h:=A3 (h:=AU (h:=AU (h:=AW (?_)))))));refine AJ ?_
      first|(exfalso;first|contradiction|omega)|exact B7 7 0 rfl rfl rfl rfl (by repeat (first|exact Sub.nil|refine B9 rfl rfl ?_|refine BC ?_|refine BD rfl ?_|refine BE rfl ?_|(apply Sub.of;(focus exact rfl);(focus exact LeA.of_eq (vb (by first|(rw[hb15];rfl)|(rw[hb15,hb16];rfl)|(rw[hb15,hb16,hb17];rfl))));(focus exact rfl))))
     have hc16:=bp hb16;refine m_ (h:=Ah (h:=m_ (h:=?_)));refine As false rfl rfl (fun hb17=>?_) (fun hb17=>?_)
     ·have hc17:=bp hb17;refine A3 (h:=AU (h:=AU (h:=AW (?_))));refine AJ ?_
      first|(exfalso;first|contradiction|omega)|exact B7 7 0 rfl rfl rfl rfl (by repeat (first|exact Sub.nil|refine B9 rfl rfl ?_|refine BC ?_|refine BD rfl ?_|refine BE rfl ?_|(apply Sub.of;(focus exact rfl);(focus exact LeA.of_eq (vb (by first|(rw[hb15];rfl)|(rw[hb15,hb16];rfl)|(rw[hb15,hb16,hb17];rfl))));(focus exact rfl))))
     have hc17:=bp hb17;refine m_ (h:=Ah (h:=AU (h:=AW (?_))));refine AJ ?_
     first|(exfalso;first|contradiction|omega)|exact B7 7 0 rfl rfl rfl rfl (by repeat (first|exact Sub.nil|refine B9 rfl rfl ?_|refine BC ?_|refine BD rfl ?_|refine BE rfl ?_|(apply Sub.of;(focus exact rfl);(focus exact LeA.of_eq (vb (by first|(rw[hb15];rfl)|(rw[hb15,hb16];rfl)|(rw[hb15,hb16,hb17];rfl))));(focus exact rfl))))
    have hc15:=bp hb15;refine A3 (h:=A3 (h:=A3 (h:=A3 (h:=EV (h:=A3 (h:=A3 (h:=EV (h:=A3 (h:=Ah (h:=AW (?_)))))))))));refine AJ ?_
    first|(exfalso;first|contradiction|omega)|exact B7 7 0 rfl rfl rfl rfl (by repeat (first|exact Sub.nil|refine B9 rfl rfl ?_|refine BC ?_|refine BD rfl ?_|refine BE rfl ?_|(apply Sub.of;(focus exact rfl);(focus exact LeA.of_eq (vb (by first|(rw[hb15];rfl)|(rw[hb15,hb16];rfl)|(rw[hb15,hb16,hb17];rfl))));(focus exact rfl))))
   skip
   refine A8 rfl (fun hb18=>?_) (fun hb18=>?_)
   ·have hc18:=bp hb18
    have hlk:(AZ s.files (AD s.files a q).1).kind=3∧(qs≠[]∨(fl||BF p)=true):=by
     rw[Bool.and_eq_true,decide_eq_true_eq,Bool.or_eq_true,decide_eq_true_eq]at hc18;exact⟨hc18.1,hc18.2.imp (fun h e=>by rw[e]at h;simp at h) id⟩
    refine q_ (w_ (m_ (h:=Ac (h:=e_ (?_)))));refine A8 rfl (fun hb19=>?_) (fun hb19=>?_)
    ·have hc19:=bp hb19;have hst:Bv s (fl||BF p) q qs a lk= .inl 40:=by unfold Bv;rw[if_neg (by simp[hc6]),if_neg (by omega),if_neg hc8,if_neg hc10,if_neg (by simp[hc12]),if_pos hlk,if_pos (by omega)]
     refine w_ (Aa (h:=s_ (h:=a_ (h:=e_ (A6 (A4 (A4 (AR (A4 (AR (A4 (?_))))))))))));refine AA ?_;rw[LA hc1 (by omega) ha had (hT.symm.trans ((Gd (F:=fl||BF p) (da:=da) (na:=na) (ea:=ea) hv.files h8).1 _ hst)) (by decide)];rfl
    have hc19:=bp hb19;refine AN (w_ (m_ (h:=?_)));refine A7 rfl (Ji rfl rfl (by omega) ?_);refine a_ (h:=e_ (w_ (f_ (h:=l_ (h:=?_)))));refine A7 rfl (AK (Qw (AZ s.files (AD s.files a q).1).target (by omega)) ?_);rintro r ⟨ps,hps,rfl⟩;obtain rfl:=R6 hps;clear hps;refine m_ (h:=x_ (h:=x_ (h:=x_ (h:=a_ (h:=a_ (h:=a_ (h:=e_ (q_ (w_ (m_ (h:=e_ (?_))))))))))));refine A8 rfl (fun hb20=>?_) (fun hb20=>?_)
    ·have hc20:=bp hb20;have hst:Bv s (fl||BF p) q qs a lk= .inr ⟨Cd (AZ s.files (AD s.files a q).1).target++qs,D9 s,⟨#[]⟩,D9 s,true,lk+1⟩:=by unfold Bv;rw[if_neg (by simp[hc6]),if_neg (by omega),if_neg hc8,if_neg hc10,if_neg (by simp[hc12]),if_pos hlk,if_neg (by omega),if_pos hc20]
     refine AX (l_ (h:=?_));refine A7 rfl (AK (VQ s hs.b hv) ?_);rintro r rfl;refine s_ (h:=e_ (w_ (m_ (h:=Hf (h:=m_ (h:=Hf (h:=a_ (h:=e_ (w_ (l_ (h:=l_ (h:=Aa (h:=s_ (h:=e_ (BU (Am (BV (?_))))))))))))))))));refine AJ ?_;obtain⟨g1,g2,g3⟩:=(Gd (F:=fl||BF p) (da:=da) (na:=na) (ea:=ea) hv.files h8).2 _ hst;exact⟨_,_,g3,⟨_,_,g1,(by first|exact BJ _|exact hq12),g2.symm.trans hT,rfl,Nat.le_trans (Nat.le_of_lt g3) hmq,rfl⟩,(by(try simp only[List.map_append]);exact B7 5 0 rfl rfl rfl rfl ((by repeat (first|exact Sub.nil|refine B9 rfl rfl ?_|refine BC ?_|refine BD rfl ?_|refine BE rfl ?_))))⟩
    have hc20:=bp hb20;have hst:Bv s (fl||BF p) q qs a lk= .inr ⟨Cd (AZ s.files (AD s.files a q).1).target++qs,a,⟨#[]⟩,a,true,lk+1⟩:=by unfold Bv;rw[if_neg (by simp[hc6]),if_neg (by omega),if_neg hc8,if_neg hc10,if_neg (by simp[hc12]),if_pos hlk,if_neg (by omega),if_neg (by simp[hc20])]
    refine AN (w_ (m_ (h:=Hf (h:=m_ (h:=Hf (h:=a_ (h:=e_ (w_ (l_ (h:=l_ (h:=Aa (h:=s_ (h:=e_ (BU (Am (BV (?_)))))))))))))))));refine AJ ?_;obtain⟨g1,g2,g3⟩:=(Gd (F:=fl||BF p) (da:=da) (na:=na) (ea:=ea) hv.files h8).2 _ hst;exact⟨_,_,g3,⟨_,_,g1,(by first|exact BJ _|exact hq12),g2.symm.trans hT,rfl,Nat.le_trans (Nat.le_of_lt g3) hmq,rfl⟩,(by(try simp only[List.map_append]);exact B7 5 0 rfl rfl rfl rfl ((by repeat (first|exact Sub.nil|refine B9 rfl rfl ?_|refine BC ?_|refine BD rfl ?_|refine BE rfl ?_))))⟩
   have hc18:=bp hb18
   have hlk:¬((AZ s.files (AD s.files a q).1).kind=3∧(qs≠[]∨(fl||BF p)=true)):=fun h=>by
    rw[decide_eq_true h.1,Bool.true_and,Bool.or_eq_false_iff]at hc18;rcases h.2 with e|e
    ·exact e (DE (by have:=of_decide_eq_false hc18.1;omega))
    rw[hc18.2]at e;cases e
   have hst:Bv s (fl||BF p) q qs a lk= .inr ⟨qs,a,q,Ci s s.mounts.length (AD s.files a q).1,true,lk⟩:=by unfold Bv;rw[if_neg (by simp[hc6]),if_neg (by omega),if_neg hc8,if_neg hc10,if_neg (by simp[hc12]),if_neg hlk]
   refine AN (Bi ([(0,Ar s),(3,AB a),(5,AB (AD s.files a q).1)]) 6 (h:=AF 0 (h:=AP 1 (h:=AF 2 (h:=AF 3 (h:=?_))))));refine c_ 4 rfl (AK (RP hs.b hv (AD s.files a q).1) ?_);rintro r rfl;refine o_ (h:=Fh 5 (h:=?_));refine B8 6 rfl (B3 rfl rfl rfl rfl rfl rfl (by repeat constructor) (by repeat constructor) ?_);refine o_ (h:=z_ (h:=Au (?_)));refine AJ ?_;obtain⟨g1,g2,g3⟩:=(Gd (F:=fl||BF p) (da:=da) (na:=na) (ea:=ea) hv.files h8).2 _ hst;exact⟨_,_,g3,⟨_,_,g1,(by first|exact BJ _|exact hq12),g2.symm.trans hT,rfl,Nat.le_trans (Nat.le_of_lt g3) hmq,rfl⟩,(by(try simp only[List.map_append]);exact B7 5 0 rfl rfl rfl rfl ((by repeat (first|exact Sub.nil|refine B9 rfl rfl ?_|refine BC ?_|refine BD rfl ?_|refine BE rfl ?_))))⟩
  have hc5:=bp hb5;have hc5:¬(0:Int)<((ps0.map Cq).length:Int):=hc5;have e5:ps0=[]:=DE (by omega);subst e5;have hfin:=hT.symm.trans (R8 (s:=s) (fl:=fl||BF p) (σ:=⟨[],da,na,a,ea,lk⟩) rfl);refine BU (Am (Am (BV (?_))));refine AJ ?_;exact⟨_,⟨_,_,hfin,(by first|exact Nat.le_trans hna (by decide)|exact Nat.le_trans hq12 (by decide)),rfl⟩,(wk 5 0)⟩
 rintro t ⟨τ,d,hT,hnm,rfl⟩;refine q_ (?_);refine JC (⟨look [(4, .bp 0 0),(8, .bp 2 0),(12, .v (.bool (BF p))),(14, .bp 4 0),(171, .v (.bool (BF p&&(τ.ex&& !Ag s.files τ.file))))],⟨[Ar s,AB start,Ax D8,AB d,Ml τ],[]⟩⟩) ?_ ?_
 ·skip
  refine AX (m_ (h:=m_ (h:=?_)));refine As true rfl rfl (fun hb21=>?_) (fun hb21=>?_)
  ·have hc21:=bp hb21;refine f_ (h:=l_ (h:=AU (h:=m_ (h:=?_))));refine As true rfl rfl (fun hb22=>?_) (fun hb22=>?_)
   ·have hc22:=bp hb22;have hx:τ.ex=true:=hb22;refine f_ (h:=l_ (h:=f_ (h:=l_ (h:=?_))));refine Aw (AK (Fi s.files τ.file hs.b.files) ?_);rintro r rfl;refine BZ (h:=AU (h:=AW (?_)));refine AJ ?_
    first|(exfalso;first|contradiction|omega)|exact B7 5 0 rfl rfl rfl rfl (by repeat (first|exact Sub.nil|refine B9 rfl rfl ?_|refine BC ?_|refine BD rfl ?_|refine BE rfl ?_|(apply Sub.of;(focus exact rfl);(focus exact LeA.of_eq (vb (by first|(rw[hb21];rfl)|(rw[hb21,hx];rfl))));(focus exact rfl))))
   have hc22:=bp hb22;have hx:τ.ex=false:=hb22;refine A3 (h:=A3 (h:=A3 (h:=A3 (h:=A3 (h:=A3 (h:=Ah (h:=AW (?_))))))));refine AJ ?_
   first|(exfalso;first|contradiction|omega)|exact B7 5 0 rfl rfl rfl rfl (by repeat (first|exact Sub.nil|refine B9 rfl rfl ?_|refine BC ?_|refine BD rfl ?_|refine BE rfl ?_|(apply Sub.of;(focus exact rfl);(focus exact LeA.of_eq (vb (by first|(rw[hb21];rfl)|(rw[hb21,hx];rfl))));(focus exact rfl))))
  have hc21:=bp hb21;refine A3 (h:=A3 (h:=Ah (h:=m_ (h:=A3 (h:=A3 (h:=A3 (h:=A3 (h:=A3 (h:=A3 (h:=Ah (h:=AW (?_))))))))))));refine AJ ?_
  first|(exfalso;first|contradiction|omega)|exact B7 5 0 rfl rfl rfl rfl (by repeat (first|exact Sub.nil|refine B9 rfl rfl ?_|refine BC ?_|refine BD rfl ?_|refine BE rfl ?_|(apply Sub.of;(focus exact rfl);(focus exact LeA.of_eq (vb (by first|(rw[hb21];rfl)|(rw[hb21,hx];rfl))));(focus exact rfl))))
 skip
 refine A8 rfl (fun hb23=>?_) (fun hb23=>?_)
 ·have hc23:=bp hb23;refine w_ (Aa (h:=s_ (h:=a_ (h:=e_ (A6 (A4 (?_)))))));refine AA ?_;rw[VO hc1 (by omega) ha had hT (by simp only[Bool.and_eq_true,Bool.not_eq_true']at hc23;exact hc23)];rfl
 have hc23:=bp hb23;refine AN (w_ (m_ (h:=f_ (h:=s_ (h:=e_ (q_ (w_ (l_ (h:=f_ (h:=l_ (h:=?_)))))))))));refine A7 rfl (AK (bR hs.b hv τ.dir) ?_);rintro r rfl;refine m_ (h:=x_ (h:=x_ (h:=a_ (h:=a_ (h:=e_ (w_ (m_ (h:=e_ (?_)))))))));refine A8 rfl (fun hb24=>?_) (fun hb24=>?_)
 ·have hc24:=bp hb24;refine w_ (m_ (h:=f_ (h:=s_ (h:=e_ (w_ (f_ (h:=l_ (h:=BX (h:=e_ (?_))))))))));refine A8 rfl (fun hb25=>?_) (fun hb25=>?_)
  ·have hc25:=bp hb25;refine AX (m_ (h:=f_ (h:=l_ (h:=?_))));refine A7 rfl (AK (Ua (Bk s τ.dir).1 τ.name (by have:=hw τ.dir;omega) (by omega)) ?_);rintro r rfl;refine f_ (h:=s_ (h:=e_ (w_ (l_ (h:=s_ (h:=a_ (h:=e_ (A6 (?_)))))))));refine AA ?_;rw[OW hc1 (by omega) ha had hT (fun h=>by rw[h.1,h.2.1,h.2.2]at hc23;cases hc23),show Fq s (BF p) τ=⟨τ.dir,τ.name,τ.file,τ.ex,BF p,D7 (Bk s τ.dir).1 τ.name⟩ by unfold Fq;rw[if_pos hc24,if_neg hc25]];rfl
  have hc25:=bp hb25;refine AN (w_ (l_ (h:=s_ (h:=a_ (h:=e_ (A6 (?_)))))));refine AA ?_;rw[OW hc1 (by omega) ha had hT (fun h=>by rw[h.1,h.2.1,h.2.2]at hc23;cases hc23),show Fq s (BF p) τ=⟨τ.dir,τ.name,τ.file,τ.ex,BF p,(Bk s τ.dir).1⟩ by unfold Fq;rw[if_pos hc24,if_pos hc25]];rfl
 have hc24:=bp hb24;refine AN (w_ (l_ (h:=s_ (h:=a_ (h:=e_ (A6 (?_)))))));refine AA ?_;rw[OW hc1 (by omega) ha had hT (fun h=>by rw[h.1,h.2.1,h.2.2]at hc23;cases hc23),show Fq s (BF p) τ=⟨τ.dir,τ.name,τ.file,τ.ex,BF p,⟨#[]⟩⟩ by unfold Fq;rw[if_neg (by simp[hc24])]];rfl
end
theorem VS:∀(l:List Dsc) (k:Nat),EF k l≤k+l.length
 |[],k=>Av _
 |d::l,k=>by
   unfold EF;split
   ·have:=VS l (k+1);simp only[List.length_cons];omega
   omega
theorem gE{α:Type}{l:List α}{j:Nat}{x:α}(h:l[j]?=some x):l.drop j=x::l.drop (j+1):=by
 obtain⟨hl,rfl⟩:=Ai.1 h;exact List.drop_eq_getElem_cons hl
def VT(p:Prc)(x:AV):List AV:=[.v (.int .i64 p.pid), .v (.int .i64 p.ppid), .v (.int .i64 p.uid), .v (.int .i64 p.euid), .v (.int .i64 p.gid), .v (.int .i64 p.egid), .v (.int .i64 p.auid), .v (.int .i64 p.ses), .v (.int .i64 p.cwd.1), .v (.int .i64 p.cwd.2), .v (.string p.comm), .v (.string p.exe),x, .v (.bool p.audited)]
theorem gF(p:Prc)(rows:List (List AV))(g:Option Nat)(l:List Dsc)(h:rows=l.map Jb):LeA (.agg (VT p (.sl 4 rows g))) (.agg (Bl {p with opens:=l})):=by
 subst h;unfold VT Bl
 repeat (first|exact AM _|exact LeA.tok _ _ _|refine LeA.agg ?_|exact LeL.nil|refine LeL.cons ?_ ?_)
def OY(R:Tab×Int×Int):AV:= .tup [.agg (CD R.1), .v (.int .i64 R.2.1), .v (.int .i64 R.2.2)]
theorem VU(n e:Int):LeA (.tup [.agg E6, .v (.int .i64 n), .v (.int .i64 e)]) (OY (DS,n,e)):=(by repeat (first|exact AM _|exact LeA.nil _|exact LeL.refl _|refine LeA.agg ?_|refine LeA.tup ?_|exact LeL.nil|refine LeL.cons ?_ ?_|exact LeA.any _))
def OZ(R:Syst×Int):AV:= .tup [.agg (Cs R.1), .v (.int .i64 R.2)]
def Ct(w:Wrk):AV:= .sl 8 (w.found.map Ax) none
section
theorem VV(t:Tab)(pid:Int)(a:A9)(flags:Int)(ht:TabB t):AFn prog 133 [.agg (CD t), .v (.int .i64 pid), .agg (AB a), .v (.int .i64 flags)] (fun r=>r=OY (Ej t pid a flags)):=by
 have h8:=dF ht pid;have hol:((Az t pid).opens.map Jb).length=(Az t pid).opens.length:=List.length_map _;have hfl:EF 0 (Az t pid).opens≤(Az t pid).opens.length:=by have:=VS (Az t pid).opens 0;omega
 refine enter Tryz.func133 rfl rfl rfl rfl rfl 0 rfl ?_;refine w_ (b_ (h:=b_ (h:=Af (h:=a_ (h:=a_ (h:=e_ (w_ (l_ (h:=m_ (h:=?_))))))))));refine A7 rfl (AK (V2 t pid ht) ?_);rintro r rfl;refine m_ (h:=x_ (h:=x_ (h:=Af (h:=s_ (h:=a_ (h:=e_ (q_ (w_ (m_ (h:=BZ (h:=e_ (?_))))))))))));refine A8 rfl (fun hb1=>?_) (fun hb1=>?_)
 ·have hc1:=bp hb1;refine w_ (Aa (h:=s_ (h:=a_ (h:=a_ (h:=e_ (A6 (A4 (?_))))))));refine B0 (r:=OY (Ej t pid a flags)) none (h5:=?_) (h6:=⟨rfl,rfl,rfl⟩);rw[Ej,if_pos (by simpa using hc1)];exact VU _ _
 have hc1:=bp hb1;have hhas:E5 t pid=true:=by simpa using hc1
 refine AN (q_ (w_ (f_ (h:=l_ (h:=n_ (h:=G6 (h:=e_ (?_))))))));refine A8 rfl (fun hb2=>?_) (fun hb2=>?_)
 ·have hc2:=bp hb2;refine w_ (Aa (h:=s_ (h:=a_ (h:=a_ (h:=e_ (A6 (A4 (?_))))))));refine B0 (r:=OY (Ej t pid a flags)) none (h5:=?_) (h6:=⟨rfl,rfl,rfl⟩);rw[Ej,if_neg (by simp[hhas]),if_pos (by omega)];exact VU _ _
 have hc2:=bp hb2;refine AN (w_ (a_ (h:=e_ (?_))));refine BY (fun s=>s=⟨look [(3, .v (.int .i64 flags)),(4, .bp 0 0),(6, .bp 1 0),(8, .bp 2 0),(11, .bp 3 0),(13, .v (.int .i64 (EF 0 (Az t pid).opens:Nat)))],⟨[CD t,AB a,E6,Bl (Az t pid)],[]⟩⟩) ?_ ?_
 ·skip
  refine Ao (?_);refine Bm (fun m s=>∃j:Nat,j≤(Az t pid).opens.length∧m=(Az t pid).opens.length - j∧EF 0 (Az t pid).opens=EF j ((Az t pid).opens.drop j)∧s=⟨look [(3, .v (.int .i64 flags)),(4, .bp 0 0),(6, .bp 1 0),(8, .bp 2 0),(11, .bp 3 0),(13, .v (.int .i64 (j:Int)))],⟨[CD t,AB a,E6,Bl (Az t pid)],[]⟩⟩) ((Az t pid).opens.length) ((wk 4 0)) (⟨0,BJ _,rfl,rfl,rfl⟩) ?_;rintro m s ⟨j,hj,rfl,hfd,rfl⟩;refine q_ (w_ (m_ (h:=f_ (h:=l_ (h:=n_ (h:=BO (h:=m_ (h:=?_))))))));refine As true rfl rfl (fun hb3=>?_) (fun hb3=>?_)
  ·have hc3:=bp hb3;obtain⟨hlt,d,hy,hrow, -⟩:=CF Jb hc3;have hdr:=gE hy;refine f_ (h:=l_ (h:=m_ (h:=i_ (h:=f_ (h:=l_ (h:=m_ (h:=Ac (h:=AU (h:=e_ (?_))))))))));refine A8 rfl (fun hb4=>?_) (fun hb4=>?_)
   ·have hc4:=bp hb4;have heq:d.fd=(j:Int):=by simpa using hc4
    refine AN (Ao (AX (m_ (h:=B2 (h:=a_ (h:=AW (Au (?_))))))));refine AJ ?_;refine⟨_,_,?_,⟨j+1,by omega,rfl,by rw[hfd,hdr,EF,if_pos heq],rfl⟩,(wk 4 0)⟩;omega
   have hc4:=bp hb4;have hend:EF 0 (Az t pid).opens=j:=by rw[hfd,hdr,EF,if_neg (by simpa using hc4)]
   refine BU (Am (Am (BV (?_))));refine AJ ?_;refine⟨_,rfl,?_⟩;rw[hend];exact(wk 4 0)
  have hc3:=bp hb3;have hend:EF 0 (Az t pid).opens=j:=by rw[hfd,Cx Jb hj hc3,List.drop_length];rfl
  refine A3 (h:=A3 (h:=A3 (h:=A3 (h:=A3 (h:=A3 (h:=A3 (h:=A3 (h:=Ah (h:=e_ (F5 (h:=BU (Am (Am (BV (?_)))))))))))))));refine AJ ?_;refine⟨_,rfl,?_⟩;rw[hend];exact(wk 4 0)
 rintro s rfl;refine w_ (f_ (h:=l_ (h:=m_ (h:=?_))));refine A7 rfl (Rz (k:=EF 0 (Az t pid).opens) rfl rfl rfl (by omega) ?_)
 first|refine A7 rfl (Eo rfl rfl rfl (by simp;omega) (by repeat constructor) ?_)|refine A7 rfl (Ep rfl rfl (by simp;omega) (by repeat constructor) ?_)
 refine a_ (h:=e_ (w_ (m_ (h:=m_ (h:=l_ (h:=m_ (h:=Aa (h:=C2 (h:=?_)))))))))
 first|refine A7 rfl (Eo rfl rfl rfl (by simp;omega) (by repeat constructor) ?_)|refine A7 rfl (Ep rfl rfl (by simp;omega) (by repeat constructor) ?_)
 refine a_ (h:=e_ (w_ (m_ (h:=f_ (h:=l_ (h:=m_ (h:=?_)))))));refine A7 rfl (P6 (l:=EF 0 (Az t pid).opens) rfl rfl rfl (by omega) ?_)
 first|refine A7 rfl (Eo rfl rfl rfl (by simp;omega) (by repeat constructor) ?_)|refine A7 rfl (Ep rfl rfl (by simp;omega) (by repeat constructor) ?_)
 refine f_ (h:=s_ (h:=e_ (w_ (l_ (h:=?_)))));refine A7 rfl (F0 (y:= .agg (Bl {Az t pid with opens:=L6 (Az t pid).opens (EF 0 (Az t pid).opens) ⟨(EF 0 (Az t pid).opens:Nat),a,flags⟩})) (Fd rfl rfl rfl ⟨rfl,rfl⟩) (gF _ _ _ _ (by simp[L6,Jb];rfl)) ?_);refine A7 rfl (AK (dM t {Az t pid with opens:=L6 (Az t pid).opens (EF 0 (Az t pid).opens) ⟨(EF 0 (Az t pid).opens:Nat),a,flags⟩} ht (dG hhas) (by simp[L6];omega)) ?_);rintro r rfl;refine m_ (h:=s_ (h:=a_ (h:=a_ (h:=e_ (A6 (?_))))));refine AA ?_;rw[Ej,if_neg (by simp[hhas]),if_neg (by omega)];rfl
theorem gG(a:A9):AFn prog 50 [.agg (AB a)] (fun r=>r= .agg (CD (R9 a))):=by
 refine enter Tryz.func50 rfl rfl rfl rfl rfl 0 rfl ?_;refine w_ (b_ (h:=Af (h:=e_ (w_ (l_ (h:=?_))))));refine A7 rfl (FJ (y:= .agg (Bl ⟨1,0,0,0,0,0,4294967295,4294967295,a,⟨#[105,110,105,116]⟩,⟨#[47,105,110,105,116]⟩,[],true⟩)) (DK ⟨rfl,rfl⟩) ?_);refine C2 (h:=Aa (h:=s_ (h:=e_ (A6 (?_)))));refine AA ?_;rfl
theorem gH(n:Int):AFn prog 17 [.v (.int .i64 n)] (fun r=>r=OZ (H8 n)):=by
 refine enter Tryz.func17 rfl rfl rfl rfl rfl 0 rfl ?_;refine w_ (Af (h:=a_ (h:=e_ (w_ (m_ (h:=?_))))));refine A7 rfl (AK (Sk n) ?_);rintro r rfl;refine m_ (h:=x_ (h:=x_ (h:=Af (h:=s_ (h:=a_ (h:=e_ (q_ (w_ (m_ (h:=BX (h:=e_ (?_))))))))))));refine A8 rfl (fun hb1=>?_) (fun hb1=>?_)
 ·have hc1:=bp hb1;refine w_ (Aa (h:=m_ (h:=s_ (h:=a_ (h:=e_ (A6 (A4 (?_))))))));refine B0 (r:=OZ (H8 n)) none (h5:=?_) (h6:=⟨rfl,rfl,rfl⟩);rw[H8,if_pos (by simpa using hc1)];exact(by repeat (first|exact AM _|exact LeA.nil _|exact LeL.refl _|refine LeA.agg ?_|refine LeA.tup ?_|exact LeL.nil|refine LeL.cons ?_ ?_|exact LeA.any _))
 have hc1:=bp hb1;refine AN (q_ (Bi ([(1,Al (EY n).1)]) 7 (h:=AF 0 (h:=Fh 1 (h:=Fh 2 (h:=?_))))));refine c_ 3 rfl (AK (gG (0,1)) ?_);rintro r rfl;refine o_ (h:=Fh 4 (h:=?_));refine B8 5 rfl (B3 rfl rfl rfl rfl rfl rfl (by repeat constructor) (by repeat constructor) ?_);refine o_ (h:=BN 6 (h:=z_ (h:=t_ (A6 (?_)))));refine B0 (r:=OZ (H8 n)) none (h5:=?_) (h6:=⟨rfl,rfl,rfl⟩);rw[H8,if_neg (by simpa using hc1)];exact(by repeat (first|exact AM _|exact LeA.nil _|exact LeL.refl _|refine LeA.agg ?_|refine LeA.tup ?_|exact LeL.nil|refine LeL.cons ?_ ?_|exact LeA.any _))
theorem Oa(s:Syst)(hs:SpcB s.spc)(ht:TabB s.tab):AFn prog 60 [.agg (Cs s)] (fun r=>r= .agg (Cs s)):=by
 refine enter Tryz.func60 rfl rfl rfl rfl rfl 0 rfl ?_;refine w_ (b_ (h:=Af (h:=e_ (q_ (Bi ([(0,Cs s)]) 7 (h:=AQ 0 (h:=?_)))))))
 first|refine AF 1 (h:=?_)|refine B4 1 rfl (fun _ hS=>Cp (row:=Cs s) rfl (kb hS rfl) (B6 rfl) rfl ⟨rfl,rfl⟩) ?_
 refine AQ 3 (h:=?_)
 first|refine AF 4 (h:=?_)|refine B4 4 rfl (fun _ hS=>Cp (row:=Cs s) rfl (kb hS rfl) (B6 rfl) rfl ⟨rfl,rfl⟩) ?_
 refine c_ 2 rfl (AK (eB s.spc hs) ?_);rintro r rfl;refine o_ (h:=?_);refine c_ 5 rfl (AK (dJ s.tab ht) ?_);rintro r rfl;refine o_ (h:=Fh 6 (h:=?_));refine B8 7 rfl (B3 rfl rfl rfl rfl rfl rfl (by repeat constructor) (by repeat constructor) ?_);refine o_ (h:=z_ (h:=t_ (A6 (?_))));refine AA ?_;rfl
theorem gJ(s:Spc)(given:AE)(perm:Int)(f:Fnd)(hs:SpcB s):AFn prog 97 [.agg (Ar s), .v (.string given), .v (.int .i64 perm), .agg (Ax f)] (fun r=>r= .agg (CE (Mg s given perm f))):=by
 refine enter Tryz.func97 rfl rfl rfl rfl rfl 0 rfl ?_;refine w_ (b_ (h:=b_ (h:=Af (h:=e_ (w_ (f_ (h:=l_ (h:=f_ (h:=l_ (h:=?_))))))))));refine A7 rfl (AK (Dm s.files f.file hs.files) ?_);rintro r rfl;refine m_ (h:=x_ (h:=x_ (h:=Af (h:=s_ (h:=a_ (h:=e_ (w_ (m_ (h:=f_ (h:=l_ (h:=f_ (h:=l_ (h:=f_ (h:=l_ (h:=f_ (h:=l_ (h:=f_ (h:=l_ (h:=f_ (h:=l_ (h:=f_ (h:=l_ (h:=f_ (h:=?_))))))))))))))))))))))));refine l_ (h:=m_ (h:=Aa (h:=s_ (h:=e_ (A6 (?_))))));refine AA ?_;rfl
theorem Ob(w:Wrk)(its:AV)(a:A9)(want:Int)(hs:SpcB w.s.spc):AFn prog 131 [.fp (D0 w (Ct w) its), .agg (AB a), .v (.int .i64 want)] (fun r=>r= .v (.bool (Dg w a want))):=by
 refine enter Tryz.func131 rfl rfl rfl rfl rfl 0 rfl ?_;refine w_ (b_ (h:=a_ (h:=e_ (q_ (Bi ([(0,AB a)]) 14 (h:=AP 0 (h:=BW 1 (h:=AQ 2 (h:=AQ 3 (h:=AQ 4 (h:=AF 5 (h:=AF 6 (h:=?_)))))))))))));refine Es 7 11 rfl rfl ?_ ?_
 ·refine AK (Dm w.s.spc.files a hs.files) ?_;rintro r rfl;refine o_ (h:=?_);refine AP 8 (h:=BK 9 (h:=BK 10 (h:=?_)));refine c_ 11 rfl (CW (by repeat constructor) ?_);refine o_ (h:=?_);refine B8 12 rfl (B3 rfl rfl rfl rfl rfl rfl (by repeat constructor) (by repeat constructor) ?_);refine o_ (h:=BN 13 (h:=z_ (h:=t_ (q_ (Dk 14 (h:=AF 0 (h:=AP 1 (h:=BW 2 (h:=AQ 3 (h:=AQ 4 (h:=AF 5 (h:=AP 6 (h:=BW 7 (h:=AQ 8 (h:=AQ 9 (h:=AF 10 (h:=AP 11 (h:=?_))))))))))))))))));refine c_ 12 rfl (AK (V4 (AZ w.s.spc.files a) w.p.euid w.p.egid want) ?_);rintro r rfl;refine o_ (h:=BN 13 (h:=z_ (h:=t_ (A6 (?_)))));refine AA ?_;rfl
 refine CW (by repeat constructor) ?_;refine o_ (h:=?_);refine c_ 7 rfl (AK (Dm w.s.spc.files a hs.files) ?_);rintro r rfl;refine o_ (h:=AP 8 (h:=BK 9 (h:=BK 10 (h:=?_))));refine B8 12 rfl (B3 rfl rfl rfl rfl rfl rfl (by repeat constructor) (by repeat constructor) ?_);refine o_ (h:=BN 13 (h:=z_ (h:=t_ (q_ (Dk 14 (h:=AF 0 (h:=AP 1 (h:=BW 2 (h:=AQ 3 (h:=AQ 4 (h:=AF 5 (h:=AP 6 (h:=BW 7 (h:=AQ 8 (h:=AQ 9 (h:=AF 10 (h:=AP 11 (h:=?_))))))))))))))))));refine c_ 12 rfl (AK (V4 (AZ w.s.spc.files a) w.p.euid w.p.egid want) ?_);rintro r rfl;refine o_ (h:=BN 13 (h:=z_ (h:=t_ (A6 (?_)))));refine AA ?_;rfl
theorem gK(w:Wrk)(its:AV)(i:Nat)(f:Fnd)(hs:SpcB w.s.spc)(hf:w.found[i]?=some f):AFn prog 135 [.fp (D0 w (Ct w) its), .v (.int .i64 (i:Int))] (fun r=>r= .v (.bool (Ag w.s.spc.files f.file))):=by
 have hrow:(w.found.map Ax)[i]?=some (Ax f):=by rw[List.getElem?_map,hf];rfl
 refine enter Tryz.func135 rfl rfl rfl rfl rfl 0 rfl ?_;refine w_ (a_ (h:=e_ (q_ (Dk 16 (h:=AP 0 (h:=BW 1 (h:=AQ 2 (h:=AQ 3 (h:=AQ 4 (h:=AF 5 (h:=AP 6 (h:=BW 7 (h:=AQ 8 (h:=AF 9 (h:=AP 10 (h:=Dr 11 (h:=AQ 12 (h:=AF 13 (h:=?_)))))))))))))))))));refine c_ 14 rfl (AK (Fi w.s.spc.files f.file hs.files) ?_);rintro r rfl;refine o_ (h:=BN 15 (h:=z_ (h:=t_ (A6 (?_)))));refine AA ?_;rfl
theorem gL(w:Wrk)(its:AV)(a:A9)(hs:SpcB w.s.spc)(hp:w.s.tab.ps.length≤1000):AFn prog 138 [.fp (D0 w (Ct w) its), .agg (AB a)] (fun r=>r= .v (.bool (Hz w a))):=by
 refine enter Tryz.func138 rfl rfl rfl rfl rfl 0 rfl ?_;refine w_ (b_ (h:=a_ (h:=e_ (q_ (q_ (Dk 7 (h:=AP 0 (h:=BW 1 (h:=AQ 2 (h:=AQ 3 (h:=AF 4 (h:=AF 5 (h:=?_)))))))))))));refine c_ 6 rfl (AK (PZ w.s.spc a hs) ?_);rintro r rfl;refine o_ (h:=z_ (h:=t_ (?_)));refine A8 rfl (fun hb1=>?_) (fun hb1=>?_)
 ·have hc1:=bp hb1;refine w_ (a_ (h:=e_ (A6 (A4 (?_)))));refine AA ?_
  first|(exfalso;first|contradiction|omega)|(exact vb (by simp[Hz, *]))
 have hc1:=bp hb1;refine AN (q_ (w_ (a_ (h:=e_ (Ao (?_))))));refine Bm (fun m s=>∃j:Nat,j≤w.s.tab.ps.length∧m=w.s.tab.ps.length - j∧(∀i y,i<j→w.s.tab.ps[i]?=some y→decide (y.cwd=a)=false)∧s=⟨look [(0, .fp (D0 w (Ct w) its)),(3, .bp 0 0),(5, .v (.int .i64 (j:Int)))],⟨[AB a],[]⟩⟩) (w.s.tab.ps.length) ((wk 1 0)) (⟨0,BJ _,rfl,fun i y hi=>by omega,rfl⟩) ?_;rintro m s ⟨j,hj,rfl,ha,rfl⟩;refine q_ (w_ (m_ (h:=m_ (h:=k_ (h:=f_ (h:=f_ (h:=f_ (h:=l_ (h:=n_ (h:=BO (h:=e_ (?_))))))))))));refine A8 rfl (fun hb2=>?_) (fun hb2=>?_)
 ·have hc2:=bp hb2;obtain⟨hlt,p,hy,hrow, -⟩:=CF Bl hc2;refine AN (q_ (Ao (q_ (Dk 12 (h:=AP 0 (h:=BW 1 (h:=AQ 2 (h:=AQ 3 (h:=AQ 4 (h:=AF 5 (h:=AP 6 (h:=Dr 7 (h:=AQ 8 (h:=AF 9 (h:=AF 10 (h:=?_))))))))))))))));refine F1 (i:=11) rfl (Er rfl rfl (by repeat constructor) (by repeat constructor) (fun w=>Ke _ _ _ _ w) (by kernel_rfl) ⟨rfl,rfl⟩) ?_;refine z_ (h:=t_ (?_));refine A8 rfl (fun hb3=>?_) (fun hb3=>?_)
  ·have hc3:=bp hb3;have hany:(w.s.tab.ps.any fun p=>decide (p.cwd=a))=true:=Nj hy (decide_eq_true hc3);refine w_ (a_ (h:=e_ (A6 (AR (A4 (A4 (AR (A4 (?_)))))))));refine AA ?_
   first|(exfalso;first|contradiction|omega)|(exact vb (by simp[Hz, *]))
  have hc3:=bp hb3;have hne:decide (p.cwd=a)=false:=decide_eq_false hc3;refine BA (Au (t_ (AX (m_ (h:=B2 (h:=a_ (h:=AW (?_))))))));refine AJ ?_;refine⟨_,_,?_,⟨j+1,by omega,rfl,EW hy ha hne,rfl⟩,(wk 1 0)⟩;omega
 have hc2:=bp hb2;have e:=Cx Bl hj hc2;have hany:(w.s.tab.ps.any fun p=>decide (p.cwd=a))=false:=Nk (by rw[←e];exact ha);refine BU (Am (Am (BV (t_ (w_ (a_ (h:=e_ (A6 (?_)))))))));refine AA ?_
 first|(exfalso;first|contradiction|omega)|(exact vb (by simp[Hz, *]))
end
theorem gM{α:Type}{sz:Nat}{F:α→List AV}(hF:RowF sz F){l:List α}{j cap:Nat}{x x':α}(h:l.length=j):SetAt (LB sz F (l++[x]) cap) (0+j * sz) (F x') (LB sz F (l++[x']) cap):=by
 have h1:(l++[x])[j]?=some x:=by rw[←h];simp
 have h2:(l++[x]).set j x'=l++[x']:=by rw[←h];simp
 have key:=Ut hF (cap:=cap) (x':=x') h1
 rwa [h2]at key
theorem VW{is:List Nat}:∀i,i<1→(0::is)[i]?=some i:=by
 intro i hi;obtain rfl:i=0:=by omega
 rfl
theorem gN{f:Nat→Option AV}{bx:List (List AV)}{tk:List Cb}{N:Dim}(i:Nat){row row':List AV}(hi:bx[i]?=some row)(hle:LeL row row'):Weak N ⟨f,⟨bx,tk⟩⟩ ⟨f,⟨bx.set i row',tk⟩⟩:=by
 rintro E a w ⟨G,h1,h2,h3⟩;exact⟨G,h1.boxLe hi (fun us hu=>hle G w us hu),h2,h3⟩
theorem gO(w:Wrk)(rows:List (List AV))(g:Option Nat)(I:AV):LeL (D0 w (.sl 8 rows g) I) (D0 w (.sl 8 rows none) I):=by
 unfold D0
 repeat (first|exact LeL.nil|refine LeL.cons (AM _) ?_|refine LeL.cons (LeA.tok _ _ _) ?_)
theorem CL{n m:Nat}(w:Wrk)(F I:AV):Aq n m (D0 w F I)=(Ap n m F&&Ap n m I):=by
 simp[D0,Aq,Ap]
def E9(l:List Fnd):AV:= .sl 8 (l.map Ax) (some 0)
def LC(w:Wrk)(e:Int)(j:Nat):List Itm×List Fnd×Int:=Hw w.s.spc w.p.cwd (Cf w.c) ((w.c.paths.zip (Ce w.c)).take j) e
def LK(w:Wrk)(e:Int):List Itm×List Fnd×Int:=Hw w.s.spc w.p.cwd (Cf w.c) (w.c.paths.zip (Ce w.c)) e
theorem gP{w:Wrk}{e:Int}{j:Nat}{g:AE×Int}(h:(w.c.paths.zip (Ce w.c))[j]?=some g):LC w e (j+1)=EP w.s.spc w.p.cwd (Cf w.c) (LC w e j) g:=by
 unfold LC Hw;rw[List.take_add_one,h,List.foldl_append];rfl
theorem gQ{w:Wrk}{e:Int}{j:Nat}(h:(w.c.paths.zip (Ce w.c)).length≤j):LC w e j=LK w e:=by
 unfold LC LK;rw[List.take_of_length_le h]
def WA(w:Wrk)(cap:Nat):List AV:=D0 w (Ct w) (.bs 1 0 13 w.r.items.length cap)
def IB(w:Wrk)(cap:Nat):List AV:=LB 13 CE w.r.items cap
theorem J2{bx:List (List AV)}{a b:List AV}{rest:List (List AV)}(hb:bx=a::b::rest)(w:Wrk)(cap:Nat):Back bx [0,1] [WA w cap,IB w cap] (WA w cap::IB w cap::rest):=by
 subst hb;have:=RF (bx:=a::b::rest) (is:=[0,1]) (bc:=[WA w cap,IB w cap]) (by simp) (by simp) (by simp);have e1:DH (E0 [0,1] (a::b::rest).length) (WA w cap)=WA w cap:=rfl;have e2:DH (E0 [0,1] (a::b::rest).length) (IB w cap)=IB w cap:=GG BL _ _ _
 have hb:Dh (a::b::rest) (E0 [0,1] (a::b::rest).length) [0,1] [WA w cap,IB w cap]=WA w cap::IB w cap::rest:=by
  unfold Dh;rw[e1];unfold Dh;rw[e2];simp[Dh]
 rw[hb]at this;exact this
section
theorem gR(w:Wrk)(e:Int)(hv:SpcV w.s.spc)(hm:w.s.spc.mounts.length≤1000)(hp:w.c.paths.length=(Ce w.c).length)(hpl:w.c.paths.length≤1000)(h0:0<w.c.paths.length)(hps:∀p∈w.c.paths,p.size≤100000):
    ACall prog 62 [.bp 0 0, .v (.int .i64 e)] [D0 w (.v (.slice none 0 0)) (.v (.slice none 0 0))] (fun r b t=>t=[]∧∃cap,(LK w e).1.length≤cap∧r= .v (.int .i64 (LK w e).2.2)∧b=[D0 w (.sl 8 ((LK w e).2.1.map Ax) none) (.bs 1 0 13 (LK w e).1.length cap),LB 13 CE (LK w e).1 cap]):=by
 have hsb:=hv.b hm;have hsn:=hv.n hm;refine enter Tryz.func62 rfl rfl rfl rfl rfl 2 rfl ?_;refine w_ (a_ (h:=e_ (w_ (m_ (h:=k_ (h:=f_ (h:=l_ (h:=?_))))))));refine A7 rfl (AK (dW w.c) ?_);rintro r rfl;refine a_ (h:=e_ (?_));refine BY (fun s=>∃cap,(LK w e).1.length≤cap∧s=⟨look [(1, .v (.int .i64 (LK w e).2.2))],⟨[D0 w (.sl 8 ((LK w e).2.1.map Ax) none) (.bs 1 0 13 (LK w e).1.length cap),LB 13 CE (LK w e).1 cap],[]⟩⟩) ?_ ?_
 ·skip
  refine w_ (a_ (h:=e_ (Ao (?_))));refine PJ 0 26 121 8 rfl rfl (by repeat constructor) (by repeat constructor) (by repeat constructor) ?_;refine Bm (fun m s=>∃(j:Nat) (X:List Itm×List Fnd×Int) (Y:AV) (Z:List (List AV)),j≤w.c.paths.length∧m=w.c.paths.length - j∧LC w e j=X∧X.1.length=j∧X.2.1.length=j∧((Y= .v (.slice none 0 0)∧Z=[]∧X.1=[])∨∃cap,X.1.length≤cap∧Y= .bs 1 0 13 X.1.length cap∧Z=[LB 13 CE X.1 cap])∧s=⟨look [(0, .bp 0 0),(1, .v (.int .i64 X.2.2)),(5, .sl 1 ((Ce w.c).map CB) none),(6, .v (.int .i64 (j:Int)))],⟨D0 w (E9 X.2.1) Y::Z,[(121,8,X.2.1.map Ax)]⟩⟩) (w.c.paths.length) ((wk 1 1)) (⟨0,([],[],e),_,_,BJ _,rfl,rfl,rfl,rfl, .inl ⟨rfl,rfl,rfl⟩,rfl⟩) ?_;rintro m s ⟨j,X,Y,Z,hj,rfl,hX,hl1,hl2,hYZ,rfl⟩;refine q_ (w_ (m_ (h:=m_ (h:=k_ (h:=f_ (h:=f_ (h:=l_ (h:=n_ (h:=BO (h:=e_ (?_)))))))))));refine A8 rfl (fun hb1=>?_) (fun hb1=>?_)
  ·have hc1:=bp hb1;obtain⟨hlt,y,hy,hrow, -⟩:=CF FY hc1;obtain⟨pj,hpj⟩:∃z,(Ce w.c)[j]?=some z:=⟨_,BM (by omega)⟩;have hrow2:((Ce w.c).map CB)[j]?=some (CB pj):=by rw[List.getElem?_map,hpj];rfl
   have hz:(w.c.paths.zip (Ce w.c))[j]?=some (y,pj):=List.getElem?_zip_eq_some.2 ⟨hy,hpj⟩;have hk:=gP (e:=e) hz;rw[hX]at hk;have hys:=hps y (Aj hy);refine AN (q_ (Ao (?_)));refine BY (fun s=>∃cap,X.1.length+1≤cap∧s=⟨look [(0, .bp 0 0),(1, .v (.int .i64 X.2.2)),(5, .sl 1 ((Ce w.c).map CB) none),(6, .v (.int .i64 (j:Int)))],⟨[D0 w (E9 X.2.1) (.bs 1 0 13 (X.1.length+1) cap),LB 13 CE (X.1++[El y pj]) cap],[(121,8,X.2.1.map Ax)]⟩⟩) ?_ ?_
   ·rcases hYZ with⟨rfl,rfl,hX0⟩|⟨cap,hcp,rfl,rfl⟩
    ·skip
     refine Bi ([(0,D0 w (E9 X.2.1) (.v (.slice none 0 0)))]) 24 (h:=AP 0 (h:=AP 1 (h:=BW 2 (h:=AQ 3 (h:=AQ 4 (h:=AF 5 (h:=AP 6 (h:=BW 7 (h:=AQ 8 (h:=AQ 9 (h:=AF 10 (h:=AP 11 (h:=Dr 12 (h:=AF 13 (h:=AP 14 (h:=AP 15 (h:=Dr 16 (h:=AF 17 (h:=?_)))))))))))))))))));refine B4 18 rfl (fun _ hS=>F0 (y:= .agg (CE (El y pj))) (DK ⟨rfl,rfl⟩) (AM _) ⟨rfl,rfl⟩) ?_;refine Ka 19 (h:=?_);refine c_ 20 rfl (Na rfl rfl JP (by omega) (by omega) ?_);rintro cap2 k bx2 hcp hs;rw[show CT (.agg (CE (El y pj)))++List.replicate ((cap2 - 1) * 13) AV.any=LB 13 CE [El y pj] cap2 from Uu BL _ cap2]at hs;obtain⟨rfl,rfl⟩:k=1∧bx2=[_,_]:=hs.eq;refine o_ (h:=?_);refine BW 21 (h:=AQ 22 (h:=AQ 23 (h:=?_)));refine B8 24 rfl (B3 rfl rfl rfl rfl rfl rfl (by repeat constructor) (by repeat constructor) ?_);refine o_ (h:=z_ (h:=?_));refine AJ ?_;refine⟨_,⟨cap2,by rw[hX0];exact hcp,rfl⟩,?_⟩;rw[hX0];exact Bj 2 1 (by simp[At,Aq,Ap,Bt BL,CL,E9])
    skip
    refine Bi ([(0,D0 w (E9 X.2.1) (.bs 1 0 13 X.1.length cap))]) 24 (h:=AP 0 (h:=AP 1 (h:=BW 2 (h:=AQ 3 (h:=AQ 4 (h:=AF 5 (h:=AP 6 (h:=BW 7 (h:=AQ 8 (h:=AQ 9 (h:=AF 10 (h:=AP 11 (h:=Dr 12 (h:=AF 13 (h:=AP 14 (h:=AP 15 (h:=Dr 16 (h:=AF 17 (h:=?_)))))))))))))))))));refine B4 18 rfl (fun _ hS=>F0 (y:= .agg (CE (El y pj))) (DK ⟨rfl,rfl⟩) (AM _) ⟨rfl,rfl⟩) ?_;refine Ka 19 (h:=?_);refine c_ 20 rfl (Lg rfl rfl rfl (by rw[RC BL hcp];omega) JP (by omega) (by omega) ?_ ?_)
    ·rintro hg row2 bx2 hs hb;obtain rfl:=Uw BL hs hg;obtain rfl:bx2=[_,_]:=hb.one.2;refine o_ (h:=?_);refine BW 21 (h:=AQ 22 (h:=AQ 23 (h:=?_)));refine B8 24 rfl (B3 rfl rfl rfl rfl rfl rfl (by repeat constructor) (by repeat constructor) ?_);refine o_ (h:=z_ (h:=?_));refine AJ ?_
     first|exact⟨_,⟨cap,hg,rfl⟩,Bj 2 1 (by simp[At,Aq,Ap,Bt BL,CL,E9])⟩|exact⟨_,⟨cap3,hcp3,rfl⟩,EU [0,2] VW (by decide) (.cons _ _ _ _ _ rfl rfl (.cons _ _ _ _ _ rfl (H9 BL _ _ _) .nil)) (by repeat (first|exact SubK.nil|refine SubK.cons _ _ _ _ rfl (AM _) ?_))⟩
    rintro hg cap3 k bx2 hcp3 hs;rw[show((LB 13 CE X.1 cap).drop 0).take (X.1.length * 13)++CT (.agg (CE (El y pj)))++List.replicate ((cap3 - (X.1.length+1)) * 13) AV.any=LB 13 CE (X.1++[El y pj]) cap3 from Uv BL X.1 _ cap cap3]at hs;obtain⟨rfl,rfl⟩:k=2∧bx2=[_,_,_]:=hs.eq;refine o_ (h:=?_);refine BW 21 (h:=AQ 22 (h:=AQ 23 (h:=?_)));refine B8 24 rfl (B3 rfl rfl rfl rfl rfl rfl (by repeat constructor) (by repeat constructor) ?_);refine o_ (h:=z_ (h:=?_));refine AJ ?_
    first|exact⟨_,⟨cap,hg,rfl⟩,Bj 2 1 (by simp[At,Aq,Ap,Bt BL,CL,E9])⟩|exact⟨_,⟨cap3,hcp3,rfl⟩,EU [0,2] VW (by decide) (.cons _ _ _ _ _ rfl rfl (.cons _ _ _ _ _ rfl (H9 BL _ _ _) .nil)) (by repeat (first|exact SubK.nil|refine SubK.cons _ _ _ _ rfl (AM _) ?_))⟩
   rintro s ⟨cap,hcp,rfl⟩;refine w_ (Af (h:=e_ (?_)));refine BY (fun s=>∃(it:Itm) (F:Fnd) (e2:Int),EP w.s.spc w.p.cwd (Cf w.c) X (y,pj)=(X.1++[it],X.2.1++[F],e2)∧s=⟨look [(0, .bp 0 0),(1, .v (.int .i64 e2)),(5, .sl 1 ((Ce w.c).map CB) none),(6, .v (.int .i64 (j:Int))),(7, .bp 2 0)],⟨[D0 w (E9 X.2.1) (.bs 1 0 13 (X.1.length+1) cap),LB 13 CE (X.1++[it]) cap,Ax F],[(121,8,X.2.1.map Ax)]⟩⟩) ?_ ?_
   ·skip
    refine w_ (m_ (h:=Ac (h:=e_ (?_))));refine A8 rfl (fun hb2=>?_) (fun hb2=>?_)
    ·have hc2:=bp hb2;have he0:X.2.2=0:=by simpa using hc2
     refine q_ (Bi ([(0,D0 w (E9 X.2.1) (.bs 1 0 13 (X.1.length+1) cap)),(1,LB 13 CE (X.1++[El y pj]) cap)]) 29 (h:=AP 0 (h:=BW 1 (h:=AQ 2 (h:=AQ 3 (h:=AF 4 (h:=AP 5 (h:=BW 6 (h:=AQ 7 (h:=AQ 8 (h:=AF 9 (h:=AP 10 (h:=BW 11 (h:=AQ 12 (h:=AQ 13 (h:=AF 14 (h:=AP 15 (h:=Dr 16 (h:=AF 17 (h:=AP 18 (h:=BW 19 (h:=AQ 20 (h:=AF 21 (h:=?_))))))))))))))))))))))));refine c_ 22 rfl (AK (dY w.c) ?_);rintro r rfl;refine o_ (h:=?_);refine c_ 23 rfl (AK (VR w.s.spc w.p.cwd y (Cf w.c) hsn hv hys) ?_);rintro r rfl;refine o_ (h:=AP 24 (h:=BK 25 (h:=BK 26 (h:=?_))));refine B8 27 rfl (B3 rfl rfl rfl rfl rfl rfl (by repeat constructor) (by repeat constructor) ?_);refine o_ (h:=BN 28 (h:=z_ (h:=t_ (w_ (m_ (h:=Ac (h:=e_ (?_))))))));refine A8 rfl (fun hb3=>?_) (fun hb3=>?_)
     ·have hc3:=bp hb3;have hf0:(Bb w.s.spc w.p.cwd y (Cf w.c)).2=0:=by simpa using hc3
      refine Bi ([(0,D0 w (E9 X.2.1) (.bs 1 0 13 (X.1.length+1) cap)),(1,LB 13 CE (X.1++[El y pj]) cap),(2,Ax (Bb w.s.spc w.p.cwd y (Cf w.c)).1)]) 26 (h:=AP 0 (h:=BW 1 (h:=AQ 2 (h:=AQ 3 (h:=AF 4 (h:=AP 5 (h:=AP 6 (h:=BW 7 (h:=AQ 8 (h:=AQ 9 (h:=AF 10 (h:=AP 11 (h:=BW 12 (h:=AQ 13 (h:=AQ 14 (h:=AF 15 (h:=AP 16 (h:=Dr 17 (h:=AF 18 (h:=AP 19 (h:=AP 20 (h:=Dr 21 (h:=AF 22 (h:=?_))))))))))))))))))))))));refine AF 23 (h:=?_);refine c_ 24 rfl (AK (gJ w.s.spc y pj (Bb w.s.spc w.p.cwd y (Cf w.c)).1 hsb) ?_);rintro r rfl;refine o_ (h:=?_);refine B4 25 rfl (fun _ hS=>DG (m:=j) rfl rfl rfl (by omega) ⟨rfl,rfl⟩) ?_;refine B8 26 rfl (B3 rfl rfl rfl rfl rfl rfl (gM BL hl1) (by repeat constructor) ?_);refine o_ (h:=z_ (h:=?_));refine AJ ?_
      first|exact⟨_,⟨Mg w.s.spc y pj (Bb w.s.spc w.p.cwd y (Cf w.c)).1,(Bb w.s.spc w.p.cwd y (Cf w.c)).1,(Bb w.s.spc w.p.cwd y (Cf w.c)).2,(by rw[EP,if_pos he0,if_pos hf0,hf0]),rfl⟩,Bj 3 1 (by simp[At,Aq,Ap,Bt BL,CL,E9,Ax])⟩|exact⟨_,⟨El y pj,(Bb w.s.spc w.p.cwd y (Cf w.c)).1,(Bb w.s.spc w.p.cwd y (Cf w.c)).2,(by rw[EP,if_pos he0,if_neg hf0]),rfl⟩,Bj 3 1 (by simp[At,Aq,Ap,Bt BL,CL,E9,Ax])⟩|exact⟨_,⟨El y pj,D8,X.2.2,(by rw[EP,if_neg he0]),rfl⟩,Bj 3 1 (by simp[At,Aq,Ap,Bt BL,CL,E9,Ax])⟩
     have hc3:=bp hb3;have hf0:¬(Bb w.s.spc w.p.cwd y (Cf w.c)).2=0:=by simpa using hc3
     refine BA (?_);refine AJ ?_
     first|exact⟨_,⟨Mg w.s.spc y pj (Bb w.s.spc w.p.cwd y (Cf w.c)).1,(Bb w.s.spc w.p.cwd y (Cf w.c)).1,(Bb w.s.spc w.p.cwd y (Cf w.c)).2,(by rw[EP,if_pos he0,if_pos hf0,hf0]),rfl⟩,Bj 3 1 (by simp[At,Aq,Ap,Bt BL,CL,E9,Ax])⟩|exact⟨_,⟨El y pj,(Bb w.s.spc w.p.cwd y (Cf w.c)).1,(Bb w.s.spc w.p.cwd y (Cf w.c)).2,(by rw[EP,if_pos he0,if_neg hf0]),rfl⟩,Bj 3 1 (by simp[At,Aq,Ap,Bt BL,CL,E9,Ax])⟩|exact⟨_,⟨El y pj,D8,X.2.2,(by rw[EP,if_neg he0]),rfl⟩,Bj 3 1 (by simp[At,Aq,Ap,Bt BL,CL,E9,Ax])⟩
    have hc2:=bp hb2;have he0:¬X.2.2=0:=by simpa using hc2
    refine BA (?_);refine AJ ?_
    first|exact⟨_,⟨Mg w.s.spc y pj (Bb w.s.spc w.p.cwd y (Cf w.c)).1,(Bb w.s.spc w.p.cwd y (Cf w.c)).1,(Bb w.s.spc w.p.cwd y (Cf w.c)).2,(by rw[EP,if_pos he0,if_pos hf0,hf0]),rfl⟩,Bj 3 1 (by simp[At,Aq,Ap,Bt BL,CL,E9,Ax])⟩|exact⟨_,⟨El y pj,(Bb w.s.spc w.p.cwd y (Cf w.c)).1,(Bb w.s.spc w.p.cwd y (Cf w.c)).2,(by rw[EP,if_pos he0,if_neg hf0]),rfl⟩,Bj 3 1 (by simp[At,Aq,Ap,Bt BL,CL,E9,Ax])⟩|exact⟨_,⟨El y pj,D8,X.2.2,(by rw[EP,if_neg he0]),rfl⟩,Bj 3 1 (by simp[At,Aq,Ap,Bt BL,CL,E9,Ax])⟩
   rintro s ⟨it,F,e2,hlk,rfl⟩;refine Bi ([(0,D0 w (E9 X.2.1) (.bs 1 0 13 (X.1.length+1) cap)),(2,Ax F)]) 10 (h:=AP 0 (h:=AP 1 (h:=BW 2 (h:=AQ 3 (h:=AF 4 (h:=AF 5 (h:=Ka 6 (h:=?_))))))))
   first|refine c_ 7 rfl (Eo rfl rfl rfl (by simp;omega) (by repeat constructor) ?_)|refine c_ 7 rfl (Ep rfl rfl (by simp;omega) (by repeat constructor) ?_)
   refine o_ (h:=BW 8 (h:=AQ 9 (h:=?_)));refine B8 10 rfl (B3 rfl rfl rfl rfl rfl rfl (by repeat constructor) (by repeat constructor) ?_);refine o_ (h:=z_ (h:=Au (t_ (AX (m_ (h:=B2 (h:=a_ (h:=AW (?_)))))))));refine AJ ?_;refine⟨w.c.paths.length - (j+1),_,by omega,⟨j+1,(X.1++[it],X.2.1++[F],e2), .bs 1 0 13 (X.1++[it]).length cap,[LB 13 CE (X.1++[it]) cap],by omega,rfl,by rw[hk,hlk],by simp;omega,by simp;omega, .inr ⟨cap,by simpa using hcp,rfl,rfl⟩,rfl⟩,?_⟩;rw[List.length_append];unfold E9;rw[List.map_append];exact Bj 2 1 (by simp[At,Aq,Ap,Bt BL,CL])
  have hc1:=bp hb1;have e3:=Cx FY hj hc1;rcases hYZ with⟨_,_,hX0⟩|⟨cap,hcp,rfl,rfl⟩
  ·exfalso;rw[hX0]at hl1;simp at hl1;omega
  have hfin:LK w e=X:=by rw[←hX];exact(gQ (by rw[List.length_zip];omega)).symm
  refine BU (Am (Am (BV (?_))));refine AJ ?_;refine⟨_,⟨cap,by rw[hfin];exact hcp,rfl⟩,?_⟩;rw[hfin];exact(gN 0 rfl (gO w _ _ _)).trans (Bj 2 0 (by simp[At,Aq,Ap,Bt BL,CL]))
 rintro s ⟨cap,hcp,rfl⟩;refine w_ (m_ (h:=a_ (h:=e_ (A6 (?_)))));refine B0 (r:= .v (.int .i64 (LK w e).2.2)) none (h4:=(by simp[At,Aq,Ap,Bt BL,CL])) (h5:=(AM _)) (h6:=⟨rfl,cap,hcp,rfl,rfl⟩)
theorem VX(w:Wrk)(cap:Nat)(f:AT)(l:List Bp)(e:Int):ACall prog 136 [.bp 0 0, .agg (Al f), .sl 7 (l.map CN) none, .v (.int .i64 e)] [WA w cap,IB w cap] (fun r b t=>t=[]∧r= .v (.int .i64 e)∧b=[WA (C5 w (f,l,e)).1 cap,IB (C5 w (f,l,e)).1 cap]):=by
 refine enter Tryz.func136 rfl rfl rfl rfl rfl 2 rfl ?_;refine w_ (b_ (h:=a_ (h:=e_ (q_ (w_ (m_ (h:=Ac (h:=e_ (?_)))))))));refine A8 rfl (fun hb1=>?_) (fun hb1=>?_)
 ·have hc1:=bp hb1;refine w_ (m_ (h:=l_ (h:=k_ (h:=f_ (h:=f_ (h:=f_ (h:=s_ (h:=e_ (AX (m_ (h:=m_ (h:=k_ (h:=f_ (h:=f_ (h:=s_ (h:=e_ (w_ (m_ (h:=a_ (h:=e_ (A6 (?_))))))))))))))))))))));refine B0 (r:= .v (.int .i64 e)) none (h4:=(by simp[At,Aq,Ap,Bt BL,IB,Ct])) (h5:=(AM _)) (h6:=⟨rfl,rfl,?_⟩);rw[C5,if_pos hc1];rfl
 have hc1:=bp hb1;refine AN (w_ (m_ (h:=a_ (h:=e_ (A6 (?_))))));refine B0 (r:= .v (.int .i64 e)) none (h4:=(by simp[At,Aq,Ap,Bt BL,CL,WA,IB,Ct])) (h5:=(AM _)) (h6:=⟨rfl,rfl,?_⟩);rw[C5,if_neg hc1];rfl
theorem gS(w:Wrk)(cap:Nat)(t:Tab)(e:Int):ACall prog 134 [.bp 0 0, .agg (CD t), .v (.int .i64 e)] [WA w cap,IB w cap] (fun r b tk=>tk=[]∧r= .v (.int .i64 e)∧b=[WA (Dy w (t,e)).1 cap,IB (Dy w (t,e)).1 cap]):=by
 refine enter Tryz.func134 rfl rfl rfl rfl rfl 2 rfl ?_;refine w_ (b_ (h:=a_ (h:=e_ (q_ (w_ (m_ (h:=Ac (h:=e_ (?_)))))))));refine A8 rfl (fun hb1=>?_) (fun hb1=>?_)
 ·have hc1:=bp hb1;refine AX (m_ (h:=l_ (h:=k_ (h:=f_ (h:=f_ (h:=s_ (h:=e_ (w_ (m_ (h:=a_ (h:=e_ (A6 (?_)))))))))))));refine B0 (r:= .v (.int .i64 e)) none (h4:=(by simp[At,Aq,Ap,Bt BL,IB,Ct])) (h5:=(AM _)) (h6:=⟨rfl,rfl,?_⟩);rw[Dy,if_pos hc1];rfl
 have hc1:=bp hb1;refine AN (w_ (m_ (h:=a_ (h:=e_ (A6 (?_))))));refine B0 (r:= .v (.int .i64 e)) none (h4:=(by simp[At,Aq,Ap,Bt BL,CL,WA,IB,Ct])) (h5:=(AM _)) (h6:=⟨rfl,rfl,?_⟩);rw[Dy,if_neg hc1];rfl
end
section
variable {P:Program}{rs:List ResultVar}{n:Nat}{R:AV→List (List AV)→List Cb→Prop}{s:AS}{xs:List AV}{r:AV}
theorem EA(g:Option Nat){tk':List Cb}(h1:ResA P s rs xs:=by repeat (first|exact ResA.nil|(apply ResA.tmp;(focus exact rfl))|(apply ResA.cellN;(focus exact inferInstance);(focus exact rfl);(focus exact rfl);(focus exact rfl))|(apply ResA.cell1;(focus exact inferInstance);(focus exact rfl);(focus exact rfl);(focus exact rfl))))(h2:JD s.h.tk g=some tk':=by rfl)(h3:Ap n 1 (DF g (EK xs))=true:=by rfl)(h4:At n 0 (s.h.bx.take n)=true:=by simp[At,Aq,Ap,Bt BL,CL,WA,IB,Ct,Ax,Ab,AB,CD,Ar,Al])(h5:LeA (DF g (EK xs)) r)(h6:R r (s.h.bx.take n) tk'):JE P rs n R .ret s:=P9 g h1 h2 h3 h4 h5 h6
end
theorem DZ{f:Nat→Option AV}{bx:List (List AV)}{tk:List (Nat×Nat×List (List AV))}{l:List (Nat×AV)}{N:Dim}(n m:Nat){bx':List (List AV)}{tk':List (Nat×Nat×List (List AV))}(hn:Nat.ble N.ni n=true:=by rfl)(hb:bx.take n=bx':=by rfl)(ht:tk.take m=tk':=by rfl)(hbp:At n m bx'=true:=by simp[At,Aq,Ap,Bt BL,CL,WA,IB,Ct,Ax,Ab,AB,CD,Ar,Al])(hl:Sub n m f l:=by repeat (first|exact Sub.nil|refine Sub.cons _ _ _ rfl rfl ?_|refine Sub.any _ _ ?_|refine Sub.sl _ _ _ _ _ rfl ?_|refine Sub.slnil _ _ _ rfl ?_)):Weak N ⟨f,⟨bx,tk⟩⟩ ⟨look l,⟨bx',tk'⟩⟩:=B7 n m hn hb ht hbp hl
theorem VY{α:Type}{l:List α}{i:Nat}{x:α}(h:l[i]?=some x)(f:α→α):l.modify i f=l.set i (f x):=by
 apply List.ext_getElem?;intro k;rw[List.getElem?_modify,List.getElem?_set];obtain⟨hl,rfl⟩:=Ai.1 h;by_cases e:i=k
 ·subst e;simp[hl]
 simp[e]
theorem gT(w:Wrk)(R:Tab×Int):(Dy w R).2=R.2:=by
 unfold Dy;split
 ·rename_i h;exact h.symm
 rfl
theorem Je{w:Wrk}{R:Dl}(h:R.2.2=0):(C5 w R).1={w with s:=⟨⟨R.1,w.s.spc.mounts⟩,w.s.tab⟩,r:={w.r with changes:=R.2.1}}:=by
 unfold C5;rw[if_pos h]
theorem VZ{w:Wrk}{R:Dl}(h:¬R.2.2=0):(C5 w R).1=w:=by
 unfold C5;rw[if_neg h]
theorem Va{f:AT}{dir:A9}{name:AE}{n:Nod}(h0:(Du f dir name n).2.2=0):∃c,(Du f dir name n).2.1=[c]:=by
 unfold Du at h0 ⊢;split at h0
 ·rename_i c;exact absurd h0 c
 rename_i c1;rw[if_neg c1];split at h0
 ·exact absurd h0 (by decide)
 rename_i c2;rw[if_neg c2];split at h0
 ·exact absurd h0 (by decide)
 rename_i c3;rw[if_neg c3]
 cases e:FK f dir.1 with
 |none=>rw[e]at h0;simp at h0
 |some d=>
   rw[e]at h0;simp only at h0 ⊢;split at h0
   ·exact absurd h0 (by decide)
   rename_i c4;rw[if_neg c4];exact⟨_,rfl⟩
theorem gU{w:Wrk}{i:Nat}{n:Nod}(h:(Cr w i n).2=0):∃c,(Cr w i n).1.r.changes=[c]:=by
 unfold Cr at h ⊢;split at h
 ·rename_i h0;obtain⟨c,hc⟩:=Va h0;rw[if_pos h0,Je h0];exact⟨c,hc⟩
 rename_i h0;exact absurd h h0
theorem Vb(w:Wrk)(i:Nat)(n:Nod):(Cr w i n).1.s.tab=w.s.tab∧(Cr w i n).1.p=w.p∧(Cr w i n).1.c=w.c:=by
 unfold Cr;split
 ·rename_i h0;rw[Je h0];exact⟨rfl,rfl,rfl⟩
 exact⟨rfl,rfl,rfl⟩
section
theorem Vc(w:Wrk)(cap i:Nat)(a:A9)(x:Itm)(hs:FlsB w.s.spc.files)(hx:w.r.items[i]?=some x):ACall prog 137 [.bp 0 0, .v (.int .i64 (i:Int)), .agg (AB a)] [WA w cap,IB w cap] (fun r b t=>t=[]∧r= .tup []∧b=[WA (H6 w i a) cap,IB (H6 w i a) cap]):=by
 have hil:=(Ai.1 hx).1;have hst:∀y:Itm,(w.r.items.set i y)[i]?=some y:=fun y=>by rw[List.getElem?_set_self hil]
 have hfin:w.r.items.modify i (Uo (AZ w.s.spc.files a) a)=w.r.items.set i {x with role:=2,file:=a,kind:=(AZ w.s.spc.files a).kind,mode:=(AZ w.s.spc.files a).mode,uid:=(AZ w.s.spc.files a).uid,gid:=(AZ w.s.spc.files a).gid}:=by rw[VY hx];rfl
 refine enter Tryz.func137 rfl rfl rfl rfl rfl 2 rfl ?_;refine w_ (b_ (h:=e_ (?_)));refine BY (fun s=>s=⟨look [(0, .bp 0 0),(1, .v (.int .i64 (i:Int))),(5, .bp 2 0),(6, .bp 3 0)],⟨[WA w cap,IB w cap,AB a,Ab (AZ w.s.spc.files a)],[]⟩⟩) ?_ ?_
 ·skip
  refine Bi ([(0,WA w cap),(1,IB w cap),(2,AB a)]) 14 (h:=AP 0 (h:=BW 1 (h:=AQ 2 (h:=AQ 3 (h:=AQ 4 (h:=AF 5 (h:=AF 6 (h:=?_))))))));refine Es 7 11 rfl rfl ?_ ?_
  ·refine AK (Dm w.s.spc.files a hs) ?_;rintro r rfl;refine o_ (h:=?_);refine AP 8 (h:=BK 9 (h:=BK 10 (h:=?_)));refine c_ 11 rfl (CW (by repeat constructor) ?_);refine o_ (h:=?_);refine B8 12 rfl (B3 rfl rfl rfl rfl rfl rfl (by repeat constructor) (by repeat constructor) ?_);refine o_ (h:=BN 13 (h:=z_ (h:=?_)));refine AJ ?_;exact⟨_,rfl,DZ 4 0⟩
  refine CW (by repeat constructor) ?_;refine o_ (h:=?_);refine c_ 7 rfl (AK (Dm w.s.spc.files a hs) ?_);rintro r rfl;refine o_ (h:=AP 8 (h:=BK 9 (h:=BK 10 (h:=?_))));refine B8 12 rfl (B3 rfl rfl rfl rfl rfl rfl (by repeat constructor) (by repeat constructor) ?_);refine o_ (h:=BN 13 (h:=z_ (h:=?_)));refine AJ ?_;exact⟨_,rfl,DZ 4 0⟩
 rintro s rfl;refine w_ (m_ (h:=k_ (h:=f_ (h:=f_ (h:=l_ (h:=m_ (h:=?_)))))));refine A7 rfl (DG (m:=i) rfl rfl rfl hil ?_);refine a_ (h:=e_ (Bi ([(0,WA w cap),(2,AB a),(3,Ab (AZ w.s.spc.files a))]) 33 (h:=AP 0 (h:=AP 1 (h:=AP 2 (h:=AP 3 (h:=AP 4 (h:=AP 5 (h:=AF 6 (h:=AQ 7 (h:=AF 8 (h:=AQ 9 (h:=AF 10 (h:=AQ 11 (h:=AF 12 (h:=AQ 13 (h:=AF 14 (h:=BW 15 (h:=AQ 16 (h:=?_))))))))))))))))))));refine B8 17 rfl (B3 rfl rfl rfl rfl rfl rfl (Jc BL (x':={x with role:=2}) hx (by repeat constructor) (List.cons_ne_nil _ _)) (by repeat constructor) ?_);refine o_ (h:=BW 18 (h:=AQ 19 (h:=?_)));refine B8 20 rfl (B3 rfl rfl rfl rfl rfl rfl (Jc BL (x':={x with role:=2,file:=a}) (hst _) (by repeat constructor) (List.cons_ne_nil _ _)) (by repeat constructor) ?_);refine o_ (h:=BW 21 (h:=AQ 22 (h:=?_)));refine B8 23 rfl (B3 rfl rfl rfl rfl rfl rfl (Jc BL (x':={x with role:=2,file:=a,kind:=(AZ w.s.spc.files a).kind}) (by rw[List.set_set];exact hst _) (by repeat constructor) (List.cons_ne_nil _ _)) (by repeat constructor) ?_);refine o_ (h:=BW 24 (h:=AQ 25 (h:=?_)));refine B8 26 rfl (B3 rfl rfl rfl rfl rfl rfl (Jc BL (x':={x with role:=2,file:=a,kind:=(AZ w.s.spc.files a).kind,mode:=(AZ w.s.spc.files a).mode}) (by rw[List.set_set,List.set_set];exact hst _) (by repeat constructor) (List.cons_ne_nil _ _)) (by repeat constructor) ?_);refine o_ (h:=BW 27 (h:=AQ 28 (h:=?_)));refine B8 29 rfl (B3 rfl rfl rfl rfl rfl rfl (Jc BL (x':={x with role:=2,file:=a,kind:=(AZ w.s.spc.files a).kind,mode:=(AZ w.s.spc.files a).mode,uid:=(AZ w.s.spc.files a).uid}) (by rw[List.set_set,List.set_set,List.set_set];exact hst _) (by repeat constructor) (List.cons_ne_nil _ _)) (by repeat constructor) ?_);refine o_ (h:=BW 30 (h:=AQ 31 (h:=?_)));refine B8 32 rfl (B3 rfl rfl rfl rfl rfl rfl (Jc BL (x':={x with role:=2,file:=a,kind:=(AZ w.s.spc.files a).kind,mode:=(AZ w.s.spc.files a).mode,uid:=(AZ w.s.spc.files a).uid,gid:=(AZ w.s.spc.files a).gid}) (by rw[List.set_set,List.set_set,List.set_set,List.set_set];exact hst _) (by repeat constructor) (List.cons_ne_nil _ _)) (by repeat constructor) ?_);refine o_ (h:=z_ (h:=?_));refine Nb (r:= .tup []) none (h4:=(by simp[At,Aq,Ap,Bt BL,CL,WA,Ct])) (h5:=(AM _)) (h6:=⟨rfl,rfl,?_⟩);rw[List.set_set,List.set_set,List.set_set,List.set_set,List.set_set];unfold WA IB H6;simp only[hfin,List.length_set];rfl
theorem gV(w:Wrk)(cap i:Nat)(n:Nod)(f:Fnd)(x:Itm)(hv:FlsV w.s.spc.files)(hf:w.found[i]?=some f)(hx:w.r.items[i]?=some x)(hn:f.name.size≤100000)(ht:n.target.size≤100000)(hne:n.entries=[]):ACall prog 132 [.bp 0 0, .v (.int .i64 (i:Int)), .agg (Ab n)] [WA w cap,IB w cap] (fun r b t=>t=[]∧r= .v (.int .i64 (Cr w i n).2)∧b=[WA (Cr w i n).1 cap,IB (Cr w i n).1 cap]):=by
 have hrow:(w.found.map Ax)[i]?=some (Ax f):=by rw[List.getElem?_map,hf];rfl
 have hfn:Ay w i=f:=by unfold Ay;rw[hf];rfl
 have hmk:EG w i n=Du w.s.spc.files f.dir f.name (Mh w n):=by unfold EG;rw[hfn]
 have hok:=Hs hv f.dir f.name (Mh w n);rw[←hmk]at hok;have hcall:AFn prog 18 [.agg (Al w.s.spc.files), .agg (AB f.dir), .v (.string f.name), .agg (Ab (Mh w n))] (fun r=>r=CV (EG w i n)):=by rw[hmk];exact TX _ _ _ _ hv hn ht
 refine enter Tryz.func132 rfl rfl rfl rfl rfl 2 rfl ?_;refine w_ (b_ (h:=a_ (h:=e_ (q_ (Bi ([(0,WA w cap),(1,IB w cap)]) 14 (h:=AP 0 (h:=BW 1 (h:=AQ 2 (h:=AQ 3 (h:=AF 4 (h:=AP 5 (h:=BW 6 (h:=AQ 7 (h:=AQ 8 (h:=AF 9 (h:=AQ 10 (h:=?_)))))))))))))))));refine B8 11 rfl (B3 rfl rfl rfl rfl rfl rfl (by repeat constructor) (by repeat constructor) ?_);refine o_ (h:=AQ 12 (h:=?_));refine B8 13 rfl (B3 rfl rfl rfl rfl rfl rfl (by repeat constructor) (by repeat constructor) ?_);refine o_ (h:=z_ (h:=t_ (q_ (Bi ([(0,WA w cap),(1,IB w cap),(2,Ab (Mh w n))]) 28 (h:=AP 0 (h:=AP 1 (h:=BW 2 (h:=AQ 3 (h:=AQ 4 (h:=AQ 5 (h:=AF 6 (h:=AP 7 (h:=BW 8 (h:=AQ 9 (h:=AF 10 (h:=AP 11 (h:=Dr 12 (h:=AQ 13 (h:=AF 14 (h:=AP 15 (h:=BW 16 (h:=AQ 17 (h:=AF 18 (h:=?_))))))))))))))))))))))));refine AP 19 (h:=Dr 20 (h:=AQ 21 (h:=AF 22 (h:=AF 23 (h:=?_)))));refine c_ 24 rfl (AK (hcall) ?_);rintro r rfl;refine o_ (h:=BK 25 (h:=BK 26 (h:=BK 27 (h:=?_))));refine c_ 28 rfl (DJ [0,1] rfl (.cons _ _ _ _ _ rfl (AM _) (.cons _ _ _ _ _ rfl (AM _) (.cons _ _ _ _ _ rfl (AM _) (.cons _ _ _ _ _ rfl (AM _) .nil)))) (by decide) (.cons _ _ _ _ _ rfl rfl (.cons _ _ _ _ _ rfl (GG BL _ _ _) .nil)) (VX w cap (EG w i n).1 (EG w i n).2.1 (EG w i n).2.2) ?_);rintro r bc tc ⟨rfl,rfl,rfl⟩;refine⟨rfl,_,J2 rfl (C5 w (EG w i n)).1 cap,?_⟩;refine o_ (h:=?_);refine c_ 29 rfl (Gl rfl ?_);refine o_ (h:=z_ (h:=t_ (q_ (w_ (m_ (h:=Ac (h:=e_ (?_))))))));refine A8 rfl (fun hb1=>?_) (fun hb1=>?_)
 ·have hc1:=bp hb1;have h0:(EG w i n).2.2=0:=hc1;obtain⟨c,hc⟩:∃c,(EG w i n).2.1=[c]:=by rw[hmk]at h0 ⊢;exact Va h0
  have hch:(C5 w (EG w i n)).1.r.changes=[c]:=by rw[Je h0];exact hc
  have hx1:(C5 w (EG w i n)).1.r.items[i]?=some x:=by rw[Je h0];exact hx
  have hfb:FlsB (C5 w (EG w i n)).1.s.spc.files:=by rw[Je h0];exact(hok h0).1.b
  have hrow2:((C5 w (EG w i n)).1.r.changes.map CN)[0]?=some (CN c):=by rw[hch];rfl
  refine AX (m_ (h:=m_ (h:=m_ (h:=k_ (h:=f_ (h:=f_ (h:=l_ (h:=?_))))))));refine A7 rfl (CM (n:=0) rfl rfl rfl hrow2 ?_);refine f_ (h:=l_ (h:=?_));refine A7 rfl (DJ [0,1] rfl (.cons _ _ _ _ _ rfl (AM _) (.cons _ _ _ _ _ rfl (AM _) (.cons _ _ _ _ _ rfl (AM _) .nil))) (by decide) (.cons _ _ _ _ _ rfl rfl (.cons _ _ _ _ _ rfl (GG BL _ _ _) .nil)) (Vc (C5 w (EG w i n)).1 cap i c.2.2.2 x hfb hx1) ?_);rintro r bc tc ⟨rfl,rfl,rfl⟩;refine⟨rfl,_,J2 rfl (H6 (C5 w (EG w i n)).1 i c.2.2.2) cap,?_⟩;refine e_ (w_ (m_ (h:=a_ (h:=e_ (A6 (?_))))));refine EA (r:= .v (.int .i64 (Cr w i n).2)) none (h5:=(by rw[Cr,if_pos h0];exact LeA.of_eq (vi h0))) (h6:=⟨rfl,rfl,?_⟩);rw[Cr,if_pos h0,hc];rfl
 have hc1:=bp hb1;have h0:¬(EG w i n).2.2=0:=hc1;refine AN (w_ (m_ (h:=a_ (h:=e_ (A6 (?_))))));refine EA (r:= .v (.int .i64 (Cr w i n).2)) none (h5:=(by rw[Cr,if_neg h0];exact AM _)) (h6:=⟨rfl,rfl,?_⟩);rw[Cr,if_neg h0,VZ h0];rfl
theorem gW(w:Wrk)(cap:Nat)(f:Fnd)(x:Itm)(hv:SpcV w.s.spc)(hm:w.s.spc.mounts.length≤1000)(htb:TabB w.s.tab)(hf:w.found[0]?=some f)(hx:w.r.items[0]?=some x)(hn:f.name.size≤100000):ACall prog 99 [.bp 0 0] [WA w cap,IB w cap] (fun r b t=>t=[]∧r= .v (.int .i64 (CK w).2)∧b=[WA (CK w).1 cap,IB (CK w).1 cap]):=by
 have hsb:=hv.b hm;have hrow:(w.found.map Ax)[0]?=some (Ax f):=by rw[List.getElem?_map,hf];rfl
 have hfn:Ay w 0=f:=by unfold Ay;rw[hf];rfl
 refine enter Tryz.func99 rfl rfl rfl rfl rfl 2 rfl ?_;refine w_ (a_ (h:=e_ (q_ (Bi ([(0,WA w cap),(1,IB w cap)]) 15 (h:=AP 0 (h:=BW 1 (h:=AQ 2 (h:=AF 3 (h:=Dr 4 (h:=AF 5 (h:=AP 6 (h:=BW 7 (h:=AQ 8 (h:=AQ 9 (h:=?_)))))))))))))));refine B4 10 rfl (fun _ hS=>ER (len:=4) (sz:=1) (n:=0) (by kernel_rfl) rfl rfl rfl rfl ⟨rfl,rfl⟩) ?_;refine AF 11 (h:=?_);refine c_ 12 rfl (CW (by repeat constructor) ?_);refine o_ (h:=?_);refine B8 13 rfl (B3 rfl rfl rfl rfl rfl rfl (by repeat constructor) (by repeat constructor) ?_);refine o_ (h:=BN 14 (h:=z_ (h:=t_ (?_))));refine BY (fun s=>∃(w2:Wrk) (F2:Fnd),CK w=J0 w2 F2.file∧TabB w2.s.tab∧s=⟨look [(0, .bp 0 0),(3, .bp 2 0),(4, .v (.int .i64 w2.c.a0))],⟨[WA w2 cap,IB w2 cap,Ax F2],[]⟩⟩) ?_ ?_
 ·skip
  refine w_ (f_ (h:=l_ (h:=e_ (?_))));refine A8 rfl (fun hb1=>?_) (fun hb1=>?_)
  ·have hc1:=bp hb1;have hex:(Ay w 0).ex=true:=by rw[hfn];exact hc1
   refine BY (fun s=>s=⟨look [(0, .bp 0 0),(3, .bp 2 0),(4, .v (.int .i64 w.c.a0)),(5, .bp 3 0)],⟨[WA w cap,IB w cap,Ax f,Ab (AZ w.s.spc.files f.file)],[]⟩⟩) ?_ ?_
   ·skip
    refine Bi ([(0,WA w cap),(1,IB w cap),(2,Ax f)]) 15 (h:=AP 0 (h:=BW 1 (h:=AQ 2 (h:=AQ 3 (h:=AQ 4 (h:=AF 5 (h:=AQ 6 (h:=AF 7 (h:=?_)))))))));refine Es 8 12 rfl rfl ?_ ?_
    ·refine AK (Dm w.s.spc.files f.file hsb.files) ?_;rintro r rfl;refine o_ (h:=?_);refine AP 9 (h:=BK 10 (h:=BK 11 (h:=?_)));refine c_ 12 rfl (CW (by repeat constructor) ?_);refine o_ (h:=?_);refine B8 13 rfl (B3 rfl rfl rfl rfl rfl rfl (by repeat constructor) (by repeat constructor) ?_);refine o_ (h:=BN 14 (h:=z_ (h:=?_)));refine AJ ?_;exact⟨_,rfl,DZ 4 0⟩
    refine CW (by repeat constructor) ?_;refine o_ (h:=?_);refine c_ 8 rfl (AK (Dm w.s.spc.files f.file hsb.files) ?_);rintro r rfl;refine o_ (h:=AP 9 (h:=BK 10 (h:=BK 11 (h:=?_))));refine B8 13 rfl (B3 rfl rfl rfl rfl rfl rfl (by repeat constructor) (by repeat constructor) ?_);refine o_ (h:=BN 14 (h:=z_ (h:=?_)));refine AJ ?_;exact⟨_,rfl,DZ 4 0⟩
   rintro s rfl;refine w_ (a_ (h:=e_ (?_)));refine BY (fun s=>s=⟨look [(0, .bp 0 0),(3, .bp 2 0),(4, .v (.int .i64 w.c.a0)),(5, .bp 3 0),(7, .v (.int .i64 (if C1 w.c.a0 1=true then 4 else 0)))],⟨[WA w cap,IB w cap,Ax f,Ab (AZ w.s.spc.files f.file)],[]⟩⟩) ?_ ?_
   ·skip
    refine w_ (m_ (h:=EL (h:=BX (h:=e_ (?_)))));refine A8 rfl (fun hb2=>?_) (fun hb2=>?_)
    ·have hc2:=bp hb2;have k0:C1 w.c.a0 1=true:=by simpa[C1]using hc2
     refine AX (m_ (h:=B2 (h:=a_ (h:=AW (?_)))));refine AJ ?_;refine⟨_,rfl,?_⟩
     first|(rw[if_pos k0];exact DZ 4 0)|(rw[if_neg k0];exact DZ 4 0)
    have hc2:=bp hb2;have k0:¬C1 w.c.a0 1=true:=by simpa[C1]using hc2
    refine BA (?_);refine AJ ?_;refine⟨_,rfl,?_⟩
    first|(rw[if_pos k0];exact DZ 4 0)|(rw[if_neg k0];exact DZ 4 0)
   rintro s rfl;refine BY (fun s=>s=⟨look [(0, .bp 0 0),(3, .bp 2 0),(4, .v (.int .i64 w.c.a0)),(5, .bp 3 0),(7, .v (.int .i64 (J1 w.c.a0)))],⟨[WA w cap,IB w cap,Ax f,Ab (AZ w.s.spc.files f.file)],[]⟩⟩) ?_ ?_
   ·skip
    refine w_ (m_ (h:=EL (h:=BX (h:=e_ (?_)))));refine A8 rfl (fun hb3=>?_) (fun hb3=>?_)
    ·have hc3:=bp hb3;have k00:C1 w.c.a0 18=true:=by simpa[C1]using hc3
     refine AX (m_ (h:=B2 (h:=a_ (h:=AW (?_)))));refine AJ ?_;refine⟨_,rfl,?_⟩;unfold J1
     first|(rw[if_pos k00];exact DZ 4 0)|(rw[if_neg k00,Int.add_zero];exact DZ 4 0)
    have hc3:=bp hb3;have k00:¬C1 w.c.a0 18=true:=by simpa[C1]using hc3
    refine BA (?_);refine AJ ?_;refine⟨_,rfl,?_⟩;unfold J1
    first|(rw[if_pos k00];exact DZ 4 0)|(rw[if_neg k00,Int.add_zero];exact DZ 4 0)
   rintro s rfl;refine Ao (?_);refine BY (fun s=>s=⟨look [(0, .bp 0 0),(3, .bp 2 0),(4, .v (.int .i64 w.c.a0)),(5, .bp 3 0),(7, .v (.int .i64 (J1 w.c.a0))),(48, .v (.bool (C1 w.c.a0 4&&C1 w.c.a0 8)))],⟨[WA w cap,IB w cap,Ax f,Ab (AZ w.s.spc.files f.file)],[]⟩⟩) ?_ ?_
   ·skip
    refine AX (m_ (h:=EL (h:=BX (h:=m_ (h:=?_)))));refine As true rfl rfl (fun hb4=>?_) (fun hb4=>?_)
    ·have hc4:=bp hb4;refine m_ (h:=EL (h:=BX (h:=AU (h:=a_ (h:=AW (?_))))));refine AJ ?_;exact⟨_,rfl,B7 4 0 rfl rfl rfl (by simp[At,Aq,Ap,Bt BL,CL,WA,IB,Ct,Ax,Ab]) (by repeat (first|exact Sub.nil|refine B9 rfl rfl ?_|refine BC ?_|refine BD rfl ?_|refine BE rfl ?_|(apply Sub.of;(focus exact rfl);(focus exact LeA.of_eq (vb (by simp[C1, *])));(focus exact rfl))))⟩
    have hc4:=bp hb4;refine A3 (h:=A3 (h:=A3 (h:=Ah (h:=a_ (h:=AW (?_))))));refine AJ ?_;exact⟨_,rfl,B7 4 0 rfl rfl rfl (by simp[At,Aq,Ap,Bt BL,CL,WA,IB,Ct,Ax,Ab]) (by repeat (first|exact Sub.nil|refine B9 rfl rfl ?_|refine BC ?_|refine BD rfl ?_|refine BE rfl ?_|(apply Sub.of;(focus exact rfl);(focus exact LeA.of_eq (vb (by simp[C1, *])));(focus exact rfl))))⟩
   rintro s rfl;refine A8 rfl (fun hb5=>?_) (fun hb5=>?_)
   ·have hc5:=bp hb5;have k1:C1 w.c.a0 4=true∧C1 w.c.a0 8=true:=by simpa using hc5
    refine w_ (a_ (h:=e_ (A6 (AR (A4 (?_))))));refine EA (r:= .v (.int .i64 (CK w).2)) none (h5:=(by rw[CK,if_pos hex,if_pos k1];exact AM _)) (h6:=⟨rfl,rfl,?_⟩);rw[CK,if_pos hex,if_pos k1];rfl
   have hc5:=bp hb5;have k1:¬(C1 w.c.a0 4=true∧C1 w.c.a0 8=true):=by simpa using hc5
   refine w_ (f_ (h:=l_ (h:=Ac (h:=a_ (h:=e_ (?_))))));refine A8 rfl (fun hb6=>?_) (fun hb6=>?_)
   ·have hc6:=bp hb6;have k2:(AZ w.s.spc.files (Ay w 0).file).kind=3:=by rw[hfn];exact hc6
    refine w_ (a_ (h:=e_ (A6 (AR (A4 (?_))))));refine EA (r:= .v (.int .i64 (CK w).2)) none (h5:=(by rw[CK,if_pos hex,if_neg k1,if_pos k2];exact AM _)) (h6:=⟨rfl,rfl,?_⟩);rw[CK,if_pos hex,if_neg k1,if_pos k2];rfl
   have hc6:=bp hb6;have k2:¬(AZ w.s.spc.files (Ay w 0).file).kind=3:=by rw[hfn];exact hc6
   refine BY (fun s=>s=⟨look [(0, .bp 0 0),(3, .bp 2 0),(4, .v (.int .i64 w.c.a0)),(5, .bp 3 0),(7, .v (.int .i64 (J1 w.c.a0))),(61, .v (.bool (decide ((AZ w.s.spc.files f.file).kind=2)&&C1 w.c.a0 22)))],⟨[WA w cap,IB w cap,Ax f,Ab (AZ w.s.spc.files f.file)],[]⟩⟩) ?_ ?_
   ·skip
    refine AX (f_ (h:=l_ (h:=Ac (h:=m_ (h:=?_)))));refine As true rfl rfl (fun hb7=>?_) (fun hb7=>?_)
    ·have hc7:=bp hb7;refine m_ (h:=EL (h:=BX (h:=AU (h:=a_ (h:=AW (?_))))));refine AJ ?_;exact⟨_,rfl,B7 4 0 rfl rfl rfl (by simp[At,Aq,Ap,Bt BL,CL,WA,IB,Ct,Ax,Ab]) (by repeat (first|exact Sub.nil|refine B9 rfl rfl ?_|refine BC ?_|refine BD rfl ?_|refine BE rfl ?_|(apply Sub.of;(focus exact rfl);(focus exact LeA.of_eq (vb (by simp[C1, *])));(focus exact rfl))))⟩
    have hc7:=bp hb7;refine A3 (h:=A3 (h:=A3 (h:=Ah (h:=a_ (h:=AW (?_))))));refine AJ ?_;exact⟨_,rfl,B7 4 0 rfl rfl rfl (by simp[At,Aq,Ap,Bt BL,CL,WA,IB,Ct,Ax,Ab]) (by repeat (first|exact Sub.nil|refine B9 rfl rfl ?_|refine BC ?_|refine BD rfl ?_|refine BE rfl ?_|(apply Sub.of;(focus exact rfl);(focus exact LeA.of_eq (vb (by simp[C1, *])));(focus exact rfl))))⟩
   rintro s rfl;refine A8 rfl (fun hb8=>?_) (fun hb8=>?_)
   ·have hc8:=bp hb8;have k3:(AZ w.s.spc.files (Ay w 0).file).kind=2∧C1 w.c.a0 22=true:=by rw[hfn];simpa using hc8
    refine w_ (a_ (h:=e_ (A6 (AR (A4 (?_))))));refine EA (r:= .v (.int .i64 (CK w).2)) none (h5:=(by rw[CK,if_pos hex,if_neg k1,if_neg k2,if_pos k3];exact AM _)) (h6:=⟨rfl,rfl,?_⟩);rw[CK,if_pos hex,if_neg k1,if_neg k2,if_pos k3];rfl
   have hc8:=bp hb8;have k3:¬((AZ w.s.spc.files (Ay w 0).file).kind=2∧C1 w.c.a0 22=true):=by rw[hfn];simpa using hc8
   refine w_ (m_ (h:=f_ (h:=l_ (h:=m_ (h:=?_)))));refine A7 rfl (ET 1 rfl (.cons _ _ _ _ _ rfl (LeA.of_eq rfl) (.cons _ _ _ _ _ rfl (AM _) (.cons _ _ _ _ _ rfl (AM _) .nil))) (Ob w .any f.file (J1 w.c.a0) hsb) ?_);rintro r rfl;refine⟨rfl,?_⟩;refine BZ (h:=a_ (h:=e_ (?_)));refine A8 rfl (fun hb9=>?_) (fun hb9=>?_)
   ·have hc9:=bp hb9;have k4:Dg w (Ay w 0).file (J1 w.c.a0)=false:=by rw[hfn];simpa using hc9
    refine w_ (a_ (h:=e_ (A6 (AR (A4 (?_))))));refine EA (r:= .v (.int .i64 (CK w).2)) none (h5:=(by rw[CK,if_pos hex,if_neg k1,if_neg k2,if_neg k3,if_pos k4];exact AM _)) (h6:=⟨rfl,rfl,?_⟩);rw[CK,if_pos hex,if_neg k1,if_neg k2,if_neg k3,if_pos k4];rfl
   have hc9:=bp hb9;have k4:¬Dg w (Ay w 0).file (J1 w.c.a0)=false:=by rw[hfn];simpa using hc9
   refine BA (Au (?_));refine AJ ?_
   first|exact⟨_,⟨w,f,(by rw[CK,if_pos hex,if_neg k1,if_neg k2,if_neg k3,if_neg k4,hfn]),htb,rfl⟩,DZ 3 0⟩|(obtain⟨q1,q2,q3⟩:=Vb w 0 (FX w.c.a1);exact⟨_,⟨(Cr w 0 (FX w.c.a1)).1,{f with file:=c.2.2.2},(by rw[CK,if_neg hex,if_neg k1,if_neg k2,if_neg k3,if_neg (by simp[k4]),hc];rfl),by rw[q1];exact htb,rfl⟩,by rw[q3];exact DZ 3 0⟩)
  have hc1:=bp hb1;have hex:¬(Ay w 0).ex=true:=by rw[hfn];simpa using hc1
  refine q_ (Ao (w_ (m_ (h:=EL (h:=Ac (h:=a_ (h:=e_ (?_))))))));refine A8 rfl (fun hb10=>?_) (fun hb10=>?_)
  ·have hc10:=bp hb10;have k1:C1 w.c.a0 4=false:=by simp only[C1];simpa using hc10
   refine w_ (a_ (h:=e_ (A6 (AR (A4 (A4 (?_)))))));refine EA (r:= .v (.int .i64 (CK w).2)) none (h5:=(by rw[CK,if_neg hex,if_pos k1];exact AM _)) (h6:=⟨rfl,rfl,?_⟩);rw[CK,if_neg hex,if_pos k1];rfl
  have hc10:=bp hb10;have k1:¬C1 w.c.a0 4=false:=by simp only[C1];simpa using hc10
  refine w_ (f_ (h:=l_ (h:=a_ (h:=e_ (?_)))));refine A8 rfl (fun hb11=>?_) (fun hb11=>?_)
  ·have hc11:=bp hb11;have k2:(Ay w 0).slash=true:=by rw[hfn];exact hc11
   refine w_ (a_ (h:=e_ (A6 (AR (A4 (A4 (?_)))))));refine EA (r:= .v (.int .i64 (CK w).2)) none (h5:=(by rw[CK,if_neg hex,if_neg k1,if_pos k2];exact AM _)) (h6:=⟨rfl,rfl,?_⟩);rw[CK,if_neg hex,if_neg k1,if_pos k2];rfl
  have hc11:=bp hb11;have k2:¬(Ay w 0).slash=true:=by rw[hfn];simpa using hc11
  refine w_ (m_ (h:=f_ (h:=l_ (h:=?_))));refine A7 rfl (ET 1 rfl (.cons _ _ _ _ _ rfl (LeA.of_eq rfl) (.cons _ _ _ _ _ rfl (AM _) (.cons _ _ _ _ _ rfl (AM _) .nil))) (Ob w .any f.dir 2 hsb) ?_);rintro r rfl;refine⟨rfl,?_⟩;refine BZ (h:=a_ (h:=e_ (?_)));refine A8 rfl (fun hb12=>?_) (fun hb12=>?_)
  ·have hc12:=bp hb12;have k3:Dg w (Ay w 0).dir 2=false:=by rw[hfn];simpa using hc12
   refine w_ (a_ (h:=e_ (A6 (AR (A4 (A4 (?_)))))));refine EA (r:= .v (.int .i64 (CK w).2)) none (h5:=(by rw[CK,if_neg hex,if_neg k1,if_neg k2,if_pos k3];exact AM _)) (h6:=⟨rfl,rfl,?_⟩);rw[CK,if_neg hex,if_neg k1,if_neg k2,if_pos k3];rfl
  have hc12:=bp hb12;have k3:¬Dg w (Ay w 0).dir 2=false:=by rw[hfn];simpa using hc12
  refine BA (Au (t_ (q_ (w_ (m_ (h:=m_ (h:=k_ (h:=f_ (h:=f_ (h:=?_))))))))));refine A7 rfl (ER (len:=4) (sz:=1) (n:=1) (by kernel_rfl) rfl rfl rfl rfl ?_);refine l_ (h:=?_);refine A7 rfl (FJ (y:= .agg (Ab (FX w.c.a1))) (DK ⟨rfl,rfl⟩) ?_);refine A7 rfl (DJ [0,1] rfl (.cons _ _ _ _ _ rfl (AM _) (.cons _ _ _ _ _ rfl (AM _) (.cons _ _ _ _ _ rfl (AM _) .nil))) (by decide) (.cons _ _ _ _ _ rfl rfl (.cons _ _ _ _ _ rfl (GG BL _ _ _) .nil)) (gV w cap 0 (FX w.c.a1) f x hv.files hf hx hn (BJ _) rfl) ?_);rintro r bc tc ⟨rfl,rfl,rfl⟩;refine⟨rfl,_,J2 rfl (Cr w 0 (FX w.c.a1)).1 cap,?_⟩;refine a_ (h:=e_ (w_ (m_ (h:=BX (h:=e_ (?_))))));refine A8 rfl (fun hb13=>?_) (fun hb13=>?_)
  ·have hc13:=bp hb13;have k4:(Cr w 0 (FX w.c.a1)).2≠0:=by simpa using hc13
   refine w_ (m_ (h:=a_ (h:=e_ (A6 (A4 (A4 (?_)))))));refine EA (r:= .v (.int .i64 (CK w).2)) none (h5:=(by rw[CK,if_neg hex,if_neg k1,if_neg k2,if_neg k3,if_pos k4];exact AM _)) (h6:=⟨rfl,rfl,?_⟩);rw[CK,if_neg hex,if_neg k1,if_neg k2,if_neg k3,if_pos k4];rfl
  have hc13:=bp hb13;have k4:(Cr w 0 (FX w.c.a1)).2=0:=by simpa using hc13
  obtain⟨c,hc⟩:=gU k4;have hrow2:((Cr w 0 (FX w.c.a1)).1.r.changes.map CN)[0]?=some (CN c):=by rw[hc];rfl
  refine AN (AX (m_ (h:=k_ (h:=f_ (h:=f_ (h:=l_ (h:=?_)))))));refine A7 rfl (CM (n:=0) rfl rfl rfl hrow2 ?_);refine f_ (h:=l_ (h:=f_ (h:=s_ (h:=AW (?_)))));refine AJ ?_
  first|exact⟨_,⟨w,f,(by rw[CK,if_pos hex,if_neg k1,if_neg k2,if_neg k3,if_neg k4,hfn]),htb,rfl⟩,DZ 3 0⟩|(obtain⟨q1,q2,q3⟩:=Vb w 0 (FX w.c.a1);exact⟨_,⟨(Cr w 0 (FX w.c.a1)).1,{f with file:=c.2.2.2},(by rw[CK,if_neg hex,if_neg k1,if_neg k2,if_neg k3,if_neg (by simp[k4]),hc];rfl),by rw[q1];exact htb,rfl⟩,by rw[q3];exact DZ 3 0⟩)
 rintro s ⟨w2,F2,hop,htb2,rfl⟩;refine BY (fun s=>s=⟨look [(0, .bp 0 0),(9, .bp 3 0),(10, .v (.int .i64 (Ej w2.s.tab w2.p.pid F2.file w2.c.a0).2.1)),(11, .v (.int .i64 (Ej w2.s.tab w2.p.pid F2.file w2.c.a0).2.2))],⟨[WA w2 cap,IB w2 cap,Ax F2,CD (Ej w2.s.tab w2.p.pid F2.file w2.c.a0).1],[]⟩⟩) ?_ ?_
 ·skip
  refine Bi ([(0,WA w2 cap),(1,IB w2 cap),(2,Ax F2)]) 22 (h:=AP 0 (h:=BW 1 (h:=AQ 2 (h:=AQ 3 (h:=AF 4 (h:=AP 5 (h:=BW 6 (h:=AQ 7 (h:=AQ 8 (h:=AF 9 (h:=AQ 10 (h:=AF 11 (h:=AP 12 (h:=?_))))))))))))));refine Es 13 18 rfl rfl ?_ ?_
  ·refine AK (VV w2.s.tab w2.p.pid F2.file w2.c.a0 htb2) ?_;rintro r rfl;refine o_ (h:=?_);refine AP 14 (h:=BK 15 (h:=BK 16 (h:=BK 17 (h:=?_))));refine c_ 18 rfl (CW (by repeat constructor) ?_);refine o_ (h:=?_);refine B8 19 rfl (B3 rfl rfl rfl rfl rfl rfl (by repeat constructor) (by repeat constructor) ?_);refine o_ (h:=BN 20 (h:=BN 21 (h:=z_ (h:=?_))));refine AJ ?_;exact⟨_,rfl,DZ 4 0⟩
  refine CW (by repeat constructor) ?_;refine o_ (h:=?_);refine c_ 13 rfl (AK (VV w2.s.tab w2.p.pid F2.file w2.c.a0 htb2) ?_);rintro r rfl;refine o_ (h:=AP 14 (h:=BK 15 (h:=BK 16 (h:=BK 17 (h:=?_)))));refine B8 19 rfl (B3 rfl rfl rfl rfl rfl rfl (by repeat constructor) (by repeat constructor) ?_);refine o_ (h:=BN 20 (h:=BN 21 (h:=z_ (h:=?_))));refine AJ ?_;exact⟨_,rfl,DZ 4 0⟩
 rintro s rfl;refine w_ (m_ (h:=m_ (h:=k_ (h:=f_ (h:=f_ (h:=s_ (h:=e_ (w_ (m_ (h:=l_ (h:=m_ (h:=?_))))))))))));refine A7 rfl (DJ [0,1] rfl (.cons _ _ _ _ _ rfl (AM _) (.cons _ _ _ _ _ rfl (AM _) (.cons _ _ _ _ _ rfl (AM _) .nil))) (by decide) (.cons _ _ _ _ _ rfl rfl (.cons _ _ _ _ _ rfl (GG BL _ _ _) .nil)) (gS (Uq w2 (Ej w2.s.tab w2.p.pid F2.file w2.c.a0).2.1) cap (Ej w2.s.tab w2.p.pid F2.file w2.c.a0).1 (Ej w2.s.tab w2.p.pid F2.file w2.c.a0).2.2) ?_);rintro r bc tc ⟨rfl,rfl,rfl⟩;refine⟨rfl,_,J2 rfl (J0 w2 F2.file).1 cap,?_⟩;refine a_ (h:=e_ (A6 (?_)));refine EA (r:= .v (.int .i64 (CK w).2)) none (h5:=(by rw[hop,J0,gT];exact AM _)) (h6:=⟨rfl,rfl,?_⟩);rw[hop];rfl
end
end Go.Proofs.YtobclmbkdhbnpaaGreatDoor
