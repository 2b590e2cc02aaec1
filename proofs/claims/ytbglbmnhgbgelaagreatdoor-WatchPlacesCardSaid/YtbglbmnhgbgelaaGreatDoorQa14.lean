/-
  Part 14 of the proof of WatchPlacesP: what the statement's proof uses of the texts in wip/tpl.
-/
import Derived.Test.YtbglbmnhgbgelaaGreatDoorQa13
set_option maxRecDepth 10000
set_option maxHeartbeats 4000000
set_option linter.unusedVariables false
set_option linter.unusedSimpArgs false
namespace Go.Proofs.YtbglbmnhgbgelaaGreatDoor
open Go.RowKit
theorem UA:∀(l:List Dsc) (k:Nat),Dl k l≤k+l.length
 |[],k=>Nat.le_refl _
 |d::l,k=>by
   unfold Dl
   split
   ·have:=UA l (k+1);simp only[List.length_cons];omega
   omega
theorem cB{α:Type}{l:List α}{j:Nat}{x:α}(h:l[j]?=some x):l.drop j=x::l.drop (j+1):=by
 obtain⟨hl,rfl⟩:=Ag.1 h
 exact List.drop_eq_getElem_cons hl
def UB(p:Prc)(x:AV):List AV:=[.v (.int .i64 p.pid), .v (.int .i64 p.ppid), .v (.int .i64 p.uid), .v (.int .i64 p.euid), .v (.int .i64 p.gid), .v (.int .i64 p.egid), .v (.int .i64 p.auid), .v (.int .i64 p.ses), .v (.int .i64 p.cwd.1), .v (.int .i64 p.cwd.2), .v (.string p.comm), .v (.string p.exe),x, .v (.bool p.audited)]
theorem cC(p:Prc)(rows:List (List AV))(g:Option Nat)(l:List Dsc)(h:rows=l.map Hk):LeA (.agg (UB p (.sl 4 rows g))) (.agg (BV {p with opens:=l})):=by
 subst h
 unfold UB BV
 repeat (first|exact LeA.refl _|exact LeA.tok _ _ _|refine LeA.agg ?_|exact LeL.nil|refine LeL.cons ?_ ?_)
def NN(R:Tab×Int×Int):AV:= .tup [.agg (Bw R.1), .v (.int .i64 R.2.1), .v (.int .i64 R.2.2)]
theorem UC(n e:Int):LeA (.tup [.agg Da, .v (.int .i64 n), .v (.int .i64 e)]) (NN (Cz,n,e)):=(by repeat (first|exact LeA.refl _|exact LeA.nil _|exact LeL.refl _|refine LeA.agg ?_|refine LeA.tup ?_|exact LeL.nil|refine LeL.cons ?_ ?_|exact LeA.any _))
def NO(R:Syst×Int):AV:= .tup [.agg (D1 R.1), .v (.int .i64 R.2)]
def Cb(w:Wrk):AV:= .sl 8 (w.found.map As) none
section
theorem UD(t:Tab)(pid:Int)(a:A7)(flags:Int)(ht:TabB t):AFn Tryz.prog 151 [.agg (Bw t), .v (.int .i64 pid), .agg (AA a), .v (.int .i64 flags)] (fun r=>r=NN (EH t pid a flags)):=by
 have h8:=ZL ht pid
 have hol:((Au t pid).opens.map Hk).length=(Au t pid).opens.length:=List.length_map _
 have hfl:Dl 0 (Au t pid).opens≤(Au t pid).opens.length:=by have:=UA (Au t pid).opens 0;omega
 refine enter Tryz.func151 rfl rfl rfl rfl rfl 0 rfl ?_
 refine w_ (b_ (h:=b_ (h:=Aa (h:=a_ (h:=a_ (h:=e_ (w_ (l_ (h:=m_ (h:=?_))))))))))
 refine A6 rfl (AJ (Td t pid ht) ?_)
 rintro r rfl
 refine m_ (h:=x_ (h:=x_ (h:=Aa (h:=s_ (h:=a_ (h:=e_ (q_ (w_ (m_ (h:=BR (h:=e_ (?_))))))))))))
 refine A9 rfl (fun hb1=>?_) (fun hb1=>?_)
 ·have hc1:=bp hb1
  refine w_ (AU (h:=s_ (h:=a_ (h:=a_ (h:=e_ (A4 (A8 (?_))))))))
  refine Av (r:=NN (EH t pid a flags)) none (h5:=?_) (h6:=⟨rfl,rfl,rfl⟩)
  rw[EH,if_pos (by simpa using hc1)]
  exact UC _ _
 have hc1:=bp hb1
 have hhas:DZ t pid=true:=by simpa using hc1
 refine AM (q_ (w_ (f_ (h:=l_ (h:=n_ (h:=Fg (h:=e_ (?_))))))))
 refine A9 rfl (fun hb2=>?_) (fun hb2=>?_)
 ·have hc2:=bp hb2
  refine w_ (AU (h:=s_ (h:=a_ (h:=a_ (h:=e_ (A4 (A8 (?_))))))))
  refine Av (r:=NN (EH t pid a flags)) none (h5:=?_) (h6:=⟨rfl,rfl,rfl⟩)
  rw[EH,if_neg (by simp[hhas]),if_pos (by omega)]
  exact UC _ _
 have hc2:=bp hb2
 refine AM (w_ (a_ (h:=e_ (?_))))
 refine BG (fun s=>s=⟨look [(3, .v (.int .i64 flags)),(4, .bp 0 0),(6, .bp 1 0),(8, .bp 2 0),(11, .bp 3 0),(13, .v (.int .i64 (Dl 0 (Au t pid).opens:Nat)))],⟨[Bw t,AA a,Da,BV (Au t pid)],[]⟩⟩) ?_ ?_
 ·skip
  refine Ao (?_)
  refine Bh (fun m s=>∃j:Nat,j≤(Au t pid).opens.length∧m=(Au t pid).opens.length - j∧Dl 0 (Au t pid).opens=Dl j ((Au t pid).opens.drop j)∧s=⟨look [(3, .v (.int .i64 flags)),(4, .bp 0 0),(6, .bp 1 0),(8, .bp 2 0),(11, .bp 3 0),(13, .v (.int .i64 (j:Int)))],⟨[Bw t,AA a,Da,BV (Au t pid)],[]⟩⟩) ((Au t pid).opens.length) ((wk 4 0)) (⟨0,Nat.zero_le _,rfl,rfl,rfl⟩) ?_
  rintro m s ⟨j,hj,rfl,hfd,rfl⟩
  refine q_ (w_ (m_ (h:=f_ (h:=l_ (h:=n_ (h:=BJ (h:=m_ (h:=?_))))))))
  refine At true rfl rfl (fun hb3=>?_) (fun hb3=>?_)
  ·have hc3:=bp hb3
   obtain⟨hlt,d,hy,hrow, -⟩:=CY Hk hc3
   have hdr:=cB hy
   refine f_ (h:=l_ (h:=m_ (h:=i_ (h:=f_ (h:=l_ (h:=m_ (h:=AW (h:=AZ (h:=e_ (?_))))))))))
   refine A9 rfl (fun hb4=>?_) (fun hb4=>?_)
   ·have hc4:=bp hb4
    have heq:d.fd=(j:Int):=by simpa using hc4
    refine AM (Ao (AQ (m_ (h:=B3 (h:=a_ (h:=AP (Aw (?_))))))))
    refine AF ?_
    refine⟨_,_,?_,⟨j+1,by omega,rfl,by rw[hfd,hdr,Dl,if_pos heq],rfl⟩,(wk 4 0)⟩
    omega
   have hc4:=bp hb4
   have hend:Dl 0 (Au t pid).opens=j:=by rw[hfd,hdr,Dl,if_neg (by simpa using hc4)]
   refine BM (Al (Al (BN (?_))))
   refine AF ?_
   refine⟨_,rfl,?_⟩
   rw[hend]
   exact(wk 4 0)
  have hc3:=bp hb3
  have hend:Dl 0 (Au t pid).opens=j:=by rw[hfd,Cn Hk hj hc3,List.drop_length];rfl
  refine A3 (h:=A3 (h:=A3 (h:=A3 (h:=A3 (h:=A3 (h:=A3 (h:=A3 (h:=Ai (h:=e_ (FN (h:=BM (Al (Al (BN (?_)))))))))))))))
  refine AF ?_
  refine⟨_,rfl,?_⟩
  rw[hend]
  exact(wk 4 0)
 rintro s rfl
 refine w_ (f_ (h:=l_ (h:=m_ (h:=?_))))
 refine A6 rfl (V5 (k:=Dl 0 (Au t pid).opens) rfl rfl rfl (by omega) ?_)
 first|refine A6 rfl (EL rfl rfl rfl (by simp;omega) (by repeat constructor) ?_)|refine A6 rfl (GO rfl rfl (by simp;omega) (by repeat constructor) ?_)
 refine a_ (h:=e_ (w_ (m_ (h:=m_ (h:=l_ (h:=m_ (h:=AU (h:=Bi (h:=?_)))))))))
 refine A6 rfl (EL rfl rfl rfl (by simp;omega) (by repeat constructor) ?_)
 refine a_ (h:=e_ (w_ (m_ (h:=f_ (h:=l_ (h:=m_ (h:=?_)))))))
 refine A6 rfl (Nu (l:=Dl 0 (Au t pid).opens) rfl rfl rfl (by omega) ?_)
 refine A6 rfl (EL rfl rfl rfl (by simp;omega) (by repeat constructor) ?_)
 refine f_ (h:=s_ (h:=e_ (w_ (l_ (h:=?_)))))
 refine A6 rfl (Ec (y:= .agg (BV {Au t pid with opens:=K5 (Au t pid).opens (Dl 0 (Au t pid).opens) ⟨(Dl 0 (Au t pid).opens:Nat),a,flags⟩})) (Gr rfl rfl rfl ⟨rfl,rfl⟩) (cC _ _ _ _ (by simp[K5,Hk];rfl)) ?_)
 refine A6 rfl (AJ (ZQ t {Au t pid with opens:=K5 (Au t pid).opens (Dl 0 (Au t pid).opens) ⟨(Dl 0 (Au t pid).opens:Nat),a,flags⟩} ht (ZM hhas) (by simp[K5];omega)) ?_)
 rintro r rfl
 refine m_ (h:=s_ (h:=a_ (h:=a_ (h:=e_ (A4 (?_))))))
 refine AD ?_
 rw[EH,if_neg (by simp[hhas]),if_neg (by omega)];rfl
theorem cF(a:A7):AFn Tryz.prog 85 [.agg (AA a)] (fun r=>r= .agg (Bw (Pp a))):=by
 refine enter Tryz.func85 rfl rfl rfl rfl rfl 0 rfl ?_
 refine w_ (b_ (h:=Aa (h:=e_ (w_ (l_ (h:=?_))))))
 refine A6 rfl (Fh (y:= .agg (BV ⟨1,0,0,0,0,0,4294967295,4294967295,a,⟨#[105,110,105,116]⟩,⟨#[47,105,110,105,116]⟩,[],true⟩)) (DF ⟨rfl,rfl⟩) ?_)
 refine Bi (h:=AU (h:=s_ (h:=e_ (A4 (?_)))))
 refine AD ?_
 rfl
theorem cG(n:Int):AFn Tryz.prog 44 [.v (.int .i64 n)] (fun r=>r=NO (GH n)):=by
 refine enter Tryz.func44 rfl rfl rfl rfl rfl 0 rfl ?_
 refine w_ (Aa (h:=a_ (h:=e_ (w_ (m_ (h:=?_))))))
 refine A6 rfl (AJ (RZ n) ?_)
 rintro r rfl
 refine m_ (h:=x_ (h:=x_ (h:=Aa (h:=s_ (h:=a_ (h:=e_ (q_ (w_ (m_ (h:=BS (h:=e_ (?_))))))))))))
 refine A9 rfl (fun hb1=>?_) (fun hb1=>?_)
 ·have hc1:=bp hb1
  refine w_ (AU (h:=m_ (h:=s_ (h:=a_ (h:=e_ (A4 (A8 (?_))))))))
  refine Av (r:=NO (GH n)) none (h5:=?_) (h6:=⟨rfl,rfl,rfl⟩)
  rw[GH,if_pos (by simpa using hc1)]
  exact(by repeat (first|exact LeA.refl _|exact LeA.nil _|exact LeL.refl _|refine LeA.agg ?_|refine LeA.tup ?_|exact LeL.nil|refine LeL.cons ?_ ?_|exact LeA.any _))
 have hc1:=bp hb1
 refine AM (q_ (BQ ([(1,Ah (Dz n).1)]) 7 (h:=AE 0 (h:=Ff 1 (h:=Ff 2 (h:=?_))))))
 refine c_ 3 rfl (AJ (cF (0,1)) ?_)
 rintro r rfl
 refine o_ (h:=Ff 4 (h:=?_))
 refine Az 5 rfl (Ax rfl rfl rfl rfl rfl rfl (by repeat constructor) (by repeat constructor) ?_)
 refine o_ (h:=B2 6 (h:=z_ (h:=t_ (A4 (?_)))))
 refine Av (r:=NO (GH n)) none (h5:=?_) (h6:=⟨rfl,rfl,rfl⟩)
 rw[GH,if_neg (by simpa using hc1)]
 exact(by repeat (first|exact LeA.refl _|exact LeA.nil _|exact LeL.refl _|refine LeA.agg ?_|refine LeA.tup ?_|exact LeL.nil|refine LeL.cons ?_ ?_|exact LeA.any _))
theorem NP(s:Syst)(hs:SpcB s.spc)(ht:TabB s.tab):AFn Tryz.prog 64 [.agg (D1 s)] (fun r=>r= .agg (D1 s)):=by
 refine enter Tryz.func64 rfl rfl rfl rfl rfl 0 rfl ?_
 refine w_ (b_ (h:=Aa (h:=e_ (q_ (BQ ([(0,D1 s)]) 7 (h:=AK 0 (h:=?_)))))))
 refine AE 1 (h:=?_)
 refine AK 3 (h:=?_)
 refine AE 4 (h:=?_)
 refine c_ 2 rfl (AJ (Zr s.spc hs) ?_)
 rintro r rfl
 refine o_ (h:=?_)
 refine c_ 5 rfl (AJ (ZO s.tab ht) ?_)
 rintro r rfl
 refine o_ (h:=Ff 6 (h:=?_))
 refine Az 7 rfl (Ax rfl rfl rfl rfl rfl rfl (by repeat constructor) (by repeat constructor) ?_)
 refine o_ (h:=z_ (h:=t_ (A4 (?_))))
 refine AD ?_
 rfl
theorem cH(s:Spc)(given:AB)(perm:Int)(f:Fnd)(hs:SpcB s):AFn Tryz.prog 112 [.agg (Ar s), .v (.string given), .v (.int .i64 perm), .agg (As f)] (fun r=>r= .agg (CH (Lc s given perm f))):=by
 refine enter Tryz.func112 rfl rfl rfl rfl rfl 0 rfl ?_
 refine w_ (b_ (h:=b_ (h:=Aa (h:=e_ (w_ (f_ (h:=l_ (h:=f_ (h:=l_ (h:=?_))))))))))
 refine A6 rfl (AJ (DV s.files f.file hs.files) ?_)
 rintro r rfl
 refine m_ (h:=x_ (h:=x_ (h:=Aa (h:=s_ (h:=a_ (h:=e_ (w_ (m_ (h:=f_ (h:=l_ (h:=f_ (h:=l_ (h:=f_ (h:=l_ (h:=f_ (h:=l_ (h:=f_ (h:=l_ (h:=f_ (h:=l_ (h:=f_ (h:=l_ (h:=f_ (h:=?_))))))))))))))))))))))))
 refine l_ (h:=m_ (h:=AU (h:=s_ (h:=e_ (A4 (?_))))))
 refine AD ?_
 rfl
theorem NQ(w:Wrk)(its:AV)(a:A7)(want:Int)(hs:SpcB w.s.spc):AFn Tryz.prog 149 [.fp (Ce w (Cb w) its), .agg (AA a), .v (.int .i64 want)] (fun r=>r= .v (.bool (D9 w a want))):=by
 refine enter Tryz.func149 rfl rfl rfl rfl rfl 0 rfl ?_
 refine w_ (b_ (h:=a_ (h:=e_ (q_ (BQ ([(0,AA a)]) 14 (h:=AN 0 (h:=BA 1 (h:=AK 2 (h:=AK 3 (h:=AK 4 (h:=AE 5 (h:=AE 6 (h:=?_)))))))))))))
 refine Eh 7 11 rfl rfl ?_ ?_
 ·refine AJ (DV w.s.spc.files a hs.files) ?_
  rintro r rfl
  refine o_ (h:=?_)
  refine AN 8 (h:=B7 9 (h:=B7 10 (h:=?_)))
  refine c_ 11 rfl (CS (by repeat constructor) ?_)
  refine o_ (h:=?_)
  refine Az 12 rfl (Ax rfl rfl rfl rfl rfl rfl (by repeat constructor) (by repeat constructor) ?_)
  refine o_ (h:=B2 13 (h:=z_ (h:=t_ (q_ (DM 14 (h:=AE 0 (h:=AN 1 (h:=BA 2 (h:=AK 3 (h:=AK 4 (h:=AE 5 (h:=AN 6 (h:=BA 7 (h:=AK 8 (h:=AK 9 (h:=AE 10 (h:=AN 11 (h:=?_))))))))))))))))))
  refine c_ 12 rfl (AJ (Tf (AT w.s.spc.files a) w.p.euid w.p.egid want) ?_)
  rintro r rfl
  refine o_ (h:=B2 13 (h:=z_ (h:=t_ (A4 (?_)))))
  refine AD ?_
  rfl
 refine CS (by repeat constructor) ?_
 refine o_ (h:=?_)
 refine c_ 7 rfl (AJ (DV w.s.spc.files a hs.files) ?_)
 rintro r rfl
 refine o_ (h:=AN 8 (h:=B7 9 (h:=B7 10 (h:=?_))))
 refine Az 12 rfl (Ax rfl rfl rfl rfl rfl rfl (by repeat constructor) (by repeat constructor) ?_)
 refine o_ (h:=B2 13 (h:=z_ (h:=t_ (q_ (DM 14 (h:=AE 0 (h:=AN 1 (h:=BA 2 (h:=AK 3 (h:=AK 4 (h:=AE 5 (h:=AN 6 (h:=BA 7 (h:=AK 8 (h:=AK 9 (h:=AE 10 (h:=AN 11 (h:=?_))))))))))))))))))
 refine c_ 12 rfl (AJ (Tf (AT w.s.spc.files a) w.p.euid w.p.egid want) ?_)
 rintro r rfl
 refine o_ (h:=B2 13 (h:=z_ (h:=t_ (A4 (?_)))))
 refine AD ?_
 rfl
theorem cJ(w:Wrk)(its:AV)(i:Nat)(f:Fnd)(hs:SpcB w.s.spc)(hf:w.found[i]?=some f):AFn Tryz.prog 153 [.fp (Ce w (Cb w) its), .v (.int .i64 (i:Int))] (fun r=>r= .v (.bool (Ab w.s.spc.files f.file))):=by
 have hrow:(w.found.map As)[i]?=some (As f):=by rw[List.getElem?_map,hf];rfl
 refine enter Tryz.func153 rfl rfl rfl rfl rfl 0 rfl ?_
 refine w_ (a_ (h:=e_ (q_ (DM 16 (h:=AN 0 (h:=BA 1 (h:=AK 2 (h:=AK 3 (h:=AK 4 (h:=AE 5 (h:=AN 6 (h:=BA 7 (h:=AK 8 (h:=AE 9 (h:=AN 10 (h:=DN 11 (h:=AK 12 (h:=AE 13 (h:=?_)))))))))))))))))))
 refine c_ 14 rfl (AJ (Fi w.s.spc.files f.file hs.files) ?_)
 rintro r rfl
 refine o_ (h:=B2 15 (h:=z_ (h:=t_ (A4 (?_)))))
 refine AD ?_
 rfl
theorem cK(w:Wrk)(its:AV)(a:A7)(hs:SpcB w.s.spc)(hp:w.s.tab.ps.length≤1000):AFn Tryz.prog 156 [.fp (Ce w (Cb w) its), .agg (AA a)] (fun r=>r= .v (.bool (Gf w a))):=by
 refine enter Tryz.func156 rfl rfl rfl rfl rfl 0 rfl ?_
 refine w_ (b_ (h:=a_ (h:=e_ (q_ (q_ (DM 7 (h:=AN 0 (h:=BA 1 (h:=AK 2 (h:=AK 3 (h:=AE 4 (h:=AE 5 (h:=?_)))))))))))))
 refine c_ 6 rfl (AJ (RU w.s.spc a hs) ?_)
 rintro r rfl
 refine o_ (h:=z_ (h:=t_ (?_)))
 refine A9 rfl (fun hb1=>?_) (fun hb1=>?_)
 ·have hc1:=bp hb1
  refine w_ (a_ (h:=e_ (A4 (A8 (?_)))))
  refine AD ?_
  first|(exfalso;first|contradiction|omega)|(exact vb (by simp[Gf, *]))
 have hc1:=bp hb1
 refine AM (q_ (w_ (a_ (h:=e_ (Ao (?_))))))
 refine Bh (fun m s=>∃j:Nat,j≤w.s.tab.ps.length∧m=w.s.tab.ps.length - j∧(∀i y,i<j→w.s.tab.ps[i]?=some y→decide (y.cwd=a)=false)∧s=⟨look [(0, .fp (Ce w (Cb w) its)),(3, .bp 0 0),(5, .v (.int .i64 (j:Int)))],⟨[AA a],[]⟩⟩) (w.s.tab.ps.length) ((wk 1 0)) (⟨0,Nat.zero_le _,rfl,fun i y hi=>by omega,rfl⟩) ?_
 rintro m s ⟨j,hj,rfl,ha,rfl⟩
 refine q_ (w_ (m_ (h:=m_ (h:=k_ (h:=f_ (h:=f_ (h:=f_ (h:=l_ (h:=n_ (h:=BJ (h:=e_ (?_))))))))))))
 refine A9 rfl (fun hb2=>?_) (fun hb2=>?_)
 ·have hc2:=bp hb2
  obtain⟨hlt,p,hy,hrow, -⟩:=CY BV hc2
  refine AM (q_ (Ao (q_ (DM 12 (h:=AN 0 (h:=BA 1 (h:=AK 2 (h:=AK 3 (h:=AK 4 (h:=AE 5 (h:=AN 6 (h:=DN 7 (h:=AK 8 (h:=AE 9 (h:=AE 10 (h:=?_))))))))))))))))
  refine Ed (i:=11) rfl (Eb rfl rfl (by repeat constructor) (by repeat constructor) (fun w=>Jg _ _ _ _ w) (by kernel_rfl) ⟨rfl,rfl⟩) ?_
  refine z_ (h:=t_ (?_))
  refine A9 rfl (fun hb3=>?_) (fun hb3=>?_)
  ·have hc3:=bp hb3
   have hany:(w.s.tab.ps.any fun p=>decide (p.cwd=a))=true:=OU hy (decide_eq_true hc3)
   refine w_ (a_ (h:=e_ (A4 (Af (A8 (A8 (Af (A8 (?_)))))))))
   refine AD ?_
   first|(exfalso;first|contradiction|omega)|(exact vb (by simp[Gf, *]))
  have hc3:=bp hb3
  have hne:decide (p.cwd=a)=false:=decide_eq_false hc3
  refine B4 (Aw (t_ (AQ (m_ (h:=B3 (h:=a_ (h:=AP (?_))))))))
  refine AF ?_
  refine⟨_,_,?_,⟨j+1,by omega,rfl,EM hy ha hne,rfl⟩,(wk 1 0)⟩
  omega
 have hc2:=bp hb2
 have e:=Cn BV hj hc2
 have hany:(w.s.tab.ps.any fun p=>decide (p.cwd=a))=false:=OV (by rw[←e];exact ha)
 refine BM (Al (Al (BN (t_ (w_ (a_ (h:=e_ (A4 (?_)))))))))
 refine AD ?_
 first|(exfalso;first|contradiction|omega)|(exact vb (by simp[Gf, *]))
end
theorem cL{α:Type}{sz:Nat}{F:α→List AV}(hF:RowF sz F){l:List α}{j cap:Nat}{x x':α}(h:l.length=j):SetAt (LB sz F (l++[x]) cap) (0+j * sz) (F x') (LB sz F (l++[x']) cap):=by
 have h1:(l++[x])[j]?=some x:=by rw[←h];simp
 have h2:(l++[x]).set j x'=l++[x']:=by rw[←h];simp
 have key:=TT hF (cap:=cap) (x':=x') h1
 rwa [h2]at key
theorem cM{is:List Nat}:∀i,i<1→(0::is)[i]?=some i:=by
 intro i hi
 obtain rfl:i=0:=by omega
 rfl
theorem cO{f:Nat→Option AV}{bx:List (List AV)}{tk:List CC}{N:Dim}(i:Nat){row row':List AV}(hi:bx[i]?=some row)(hle:LeL row row'):Weak N ⟨f,⟨bx,tk⟩⟩ ⟨f,⟨bx.set i row',tk⟩⟩:=by
 rintro E a w ⟨G,h1,h2,h3⟩
 exact⟨G,h1.boxLe hi (fun us hu=>hle G w us hu),h2,h3⟩
theorem cQ(w:Wrk)(rows:List (List AV))(g:Option Nat)(I:AV):LeL (Ce w (.sl 8 rows g) I) (Ce w (.sl 8 rows none) I):=by
 unfold Ce
 repeat (first|exact LeL.nil|refine LeL.cons (LeA.refl _) ?_|refine LeL.cons (LeA.tok _ _ _) ?_)
theorem CB{n m:Nat}(w:Wrk)(F I:AV):Ak n m (Ce w F I)=(Am n m F&&Am n m I):=by
 simp[Ce,Ak,Am]
def E4(l:List Fnd):AV:= .sl 8 (l.map As) (some 0)
def KA(w:Wrk)(e:Int)(j:Nat):List Itm×List Fnd×Int:=Gd w.s.spc w.p.cwd (CR w.c) ((w.c.paths.zip (CG w.c)).take j) e
def LK(w:Wrk)(e:Int):List Itm×List Fnd×Int:=Gd w.s.spc w.p.cwd (CR w.c) (w.c.paths.zip (CG w.c)) e
theorem cR{w:Wrk}{e:Int}{j:Nat}{g:AB×Int}(h:(w.c.paths.zip (CG w.c))[j]?=some g):KA w e (j+1)=ER w.s.spc w.p.cwd (CR w.c) (KA w e j) g:=by
 unfold KA Gd
 rw[List.take_add_one,h,List.foldl_append]
 rfl
theorem cT{w:Wrk}{e:Int}{j:Nat}(h:(w.c.paths.zip (CG w.c)).length≤j):KA w e j=LK w e:=by
 unfold KA LK
 rw[List.take_of_length_le h]
def WA(w:Wrk)(cap:Nat):List AV:=Ce w (Cb w) (.bs 1 0 13 w.r.items.length cap)
def IB(w:Wrk)(cap:Nat):List AV:=LB 13 CH w.r.items cap
theorem Gj{bx:List (List AV)}{a b:List AV}{rest:List (List AV)}(hb:bx=a::b::rest)(w:Wrk)(cap:Nat):Back bx [0,1] [WA w cap,IB w cap] (WA w cap::IB w cap::rest):=by
 subst hb
 have:=Pv (bx:=a::b::rest) (is:=[0,1]) (bc:=[WA w cap,IB w cap]) (by simp) (by simp) (by simp)
 have e1:Cr (DU [0,1] (a::b::rest).length) (WA w cap)=WA w cap:=rfl
 have e2:Cr (DU [0,1] (a::b::rest).length) (IB w cap)=IB w cap:=Fa B9 _ _ _
 have hb:DA (a::b::rest) (DU [0,1] (a::b::rest).length) [0,1] [WA w cap,IB w cap]=WA w cap::IB w cap::rest:=by
  unfold DA
  rw[e1]
  unfold DA
  rw[e2]
  simp[DA]
 rw[hb]at this
 exact this
section
theorem cU(w:Wrk)(e:Int)(hv:SpcV w.s.spc)(hm:w.s.spc.mounts.length≤1000)(hp:w.c.paths.length=(CG w.c).length)(hpl:w.c.paths.length≤1000)(h0:0<w.c.paths.length)(hps:∀p∈w.c.paths,p.size≤100000):
    ACall Tryz.prog 66 [.bp 0 0, .v (.int .i64 e)] [Ce w (.v (.slice none 0 0)) (.v (.slice none 0 0))] (fun r b t=>t=[]∧∃cap,(LK w e).1.length≤cap∧r= .v (.int .i64 (LK w e).2.2)∧b=[Ce w (.sl 8 ((LK w e).2.1.map As) none) (.bs 1 0 13 (LK w e).1.length cap),LB 13 CH (LK w e).1 cap]):=by
 have hsb:=hv.b hm
 have hsn:=hv.n hm
 refine enter Tryz.func66 rfl rfl rfl rfl rfl 2 rfl ?_
 refine w_ (a_ (h:=e_ (w_ (m_ (h:=k_ (h:=f_ (h:=l_ (h:=?_))))))))
 refine A6 rfl (AJ (ZY w.c) ?_)
 rintro r rfl
 refine a_ (h:=e_ (?_))
 refine BG (fun s=>∃cap,(LK w e).1.length≤cap∧s=⟨look [(1, .v (.int .i64 (LK w e).2.2))],⟨[Ce w (.sl 8 ((LK w e).2.1.map As) none) (.bs 1 0 13 (LK w e).1.length cap),LB 13 CH (LK w e).1 cap],[]⟩⟩) ?_ ?_
 ·skip
  refine w_ (a_ (h:=e_ (Ao (?_))))
  refine O5 0 26 113 8 rfl rfl (by repeat constructor) (by repeat constructor) (by repeat constructor) ?_
  refine Bh (fun m s=>∃(j:Nat) (X:List Itm×List Fnd×Int) (Y:AV) (Z:List (List AV)),j≤w.c.paths.length∧m=w.c.paths.length - j∧KA w e j=X∧X.1.length=j∧X.2.1.length=j∧((Y= .v (.slice none 0 0)∧Z=[]∧X.1=[])∨∃cap,X.1.length≤cap∧Y= .bs 1 0 13 X.1.length cap∧Z=[LB 13 CH X.1 cap])∧s=⟨look [(0, .bp 0 0),(1, .v (.int .i64 X.2.2)),(5, .sl 1 ((CG w.c).map Bt) none),(6, .v (.int .i64 (j:Int)))],⟨Ce w (E4 X.2.1) Y::Z,[(113,8,X.2.1.map As)]⟩⟩) (w.c.paths.length) ((wk 1 1)) (⟨0,([],[],e),_,_,Nat.zero_le _,rfl,rfl,rfl,rfl, .inl ⟨rfl,rfl,rfl⟩,rfl⟩) ?_
  rintro m s ⟨j,X,Y,Z,hj,rfl,hX,hl1,hl2,hYZ,rfl⟩
  refine q_ (w_ (m_ (h:=m_ (h:=k_ (h:=f_ (h:=f_ (h:=l_ (h:=n_ (h:=BJ (h:=e_ (?_)))))))))))
  refine A9 rfl (fun hb1=>?_) (fun hb1=>?_)
  ·have hc1:=bp hb1
   obtain⟨hlt,y,hy,hrow, -⟩:=CY Er hc1
   obtain⟨pj,hpj⟩:∃z,(CG w.c)[j]?=some z:=⟨_,B8 (by omega)⟩
   have hrow2:((CG w.c).map Bt)[j]?=some (Bt pj):=by rw[List.getElem?_map,hpj];rfl
   have hz:(w.c.paths.zip (CG w.c))[j]?=some (y,pj):=List.getElem?_zip_eq_some.2 ⟨hy,hpj⟩
   have hk:=cR (e:=e) hz
   rw[hX]at hk
   have hys:=hps y (Aj hy)
   refine AM (q_ (Ao (?_)))
   refine BG (fun s=>∃cap,X.1.length+1≤cap∧s=⟨look [(0, .bp 0 0),(1, .v (.int .i64 X.2.2)),(5, .sl 1 ((CG w.c).map Bt) none),(6, .v (.int .i64 (j:Int)))],⟨[Ce w (E4 X.2.1) (.bs 1 0 13 (X.1.length+1) cap),LB 13 CH (X.1++[Eo y pj]) cap],[(113,8,X.2.1.map As)]⟩⟩) ?_ ?_
   ·rcases hYZ with⟨rfl,rfl,hX0⟩|⟨cap,hcp,rfl,rfl⟩
    ·skip
     refine BQ ([(0,Ce w (E4 X.2.1) (.v (.slice none 0 0)))]) 24 (h:=AN 0 (h:=AN 1 (h:=BA 2 (h:=AK 3 (h:=AK 4 (h:=AE 5 (h:=AN 6 (h:=BA 7 (h:=AK 8 (h:=AK 9 (h:=AE 10 (h:=AN 11 (h:=DN 12 (h:=AE 13 (h:=AN 14 (h:=AN 15 (h:=DN 16 (h:=AE 17 (h:=?_)))))))))))))))))))
     refine Bo 18 rfl (fun _ hS=>Ec (y:= .agg (CH (Eo y pj))) (DF ⟨rfl,rfl⟩) (LeA.refl _) ⟨rfl,rfl⟩) ?_
     refine Jd 19 (h:=?_)
     refine c_ 20 rfl (MV rfl rfl HQ (by omega) (by omega) ?_)
     rintro cap2 k bx2 hcp hs
     rw[show C8 (.agg (CH (Eo y pj)))++List.replicate ((cap2 - 1) * 13) AV.any=LB 13 CH [Eo y pj] cap2 from TU B9 _ cap2]at hs
     obtain⟨rfl,rfl⟩:k=1∧bx2=[_,_]:=hs.eq
     refine o_ (h:=?_)
     refine BA 21 (h:=AK 22 (h:=AK 23 (h:=?_)))
     refine Az 24 rfl (Ax rfl rfl rfl rfl rfl rfl (by repeat constructor) (by repeat constructor) ?_)
     refine o_ (h:=z_ (h:=?_))
     refine AF ?_
     refine⟨_,⟨cap2,by rw[hX0];exact hcp,rfl⟩,?_⟩
     rw[hX0]
     exact Bl 2 1 (by simp[Ap,Ak,Am,Bf B9,CB,E4])
    skip
    refine BQ ([(0,Ce w (E4 X.2.1) (.bs 1 0 13 X.1.length cap))]) 24 (h:=AN 0 (h:=AN 1 (h:=BA 2 (h:=AK 3 (h:=AK 4 (h:=AE 5 (h:=AN 6 (h:=BA 7 (h:=AK 8 (h:=AK 9 (h:=AE 10 (h:=AN 11 (h:=DN 12 (h:=AE 13 (h:=AN 14 (h:=AN 15 (h:=DN 16 (h:=AE 17 (h:=?_)))))))))))))))))))
    refine Bo 18 rfl (fun _ hS=>Ec (y:= .agg (CH (Eo y pj))) (DF ⟨rfl,rfl⟩) (LeA.refl _) ⟨rfl,rfl⟩) ?_
    refine Jd 19 (h:=?_)
    refine c_ 20 rfl (Kf rfl rfl rfl (by rw[Ps B9 hcp];omega) HQ (by omega) (by omega) ?_ ?_)
    ·rintro hg row2 bx2 hs hb
     obtain rfl:=TW B9 hs hg
     obtain rfl:bx2=[_,_]:=hb.one.2
     refine o_ (h:=?_)
     refine BA 21 (h:=AK 22 (h:=AK 23 (h:=?_)))
     refine Az 24 rfl (Ax rfl rfl rfl rfl rfl rfl (by repeat constructor) (by repeat constructor) ?_)
     refine o_ (h:=z_ (h:=?_))
     refine AF ?_
     exact⟨_,⟨cap,hg,rfl⟩,Bl 2 1 (by simp[Ap,Ak,Am,Bf B9,CB,E4])⟩
    rintro hg cap3 k bx2 hcp3 hs
    rw[show((LB 13 CH X.1 cap).drop 0).take (X.1.length * 13)++C8 (.agg (CH (Eo y pj)))++List.replicate ((cap3 - (X.1.length+1)) * 13) AV.any=LB 13 CH (X.1++[Eo y pj]) cap3 from TV B9 X.1 _ cap cap3]at hs
    obtain⟨rfl,rfl⟩:k=2∧bx2=[_,_,_]:=hs.eq
    refine o_ (h:=?_)
    refine BA 21 (h:=AK 22 (h:=AK 23 (h:=?_)))
    refine Az 24 rfl (Ax rfl rfl rfl rfl rfl rfl (by repeat constructor) (by repeat constructor) ?_)
    refine o_ (h:=z_ (h:=?_))
    refine AF ?_
    first|exact⟨_,⟨cap,hg,rfl⟩,Bl 2 1 (by simp[Ap,Ak,Am,Bf B9,CB,E4])⟩|exact⟨_,⟨cap3,hcp3,rfl⟩,Eg [0,2] cM (by decide) (.cons _ _ _ _ _ rfl rfl (.cons _ _ _ _ _ rfl (JM B9 _ _ _) .nil)) (by repeat (first|exact SubK.nil|refine SubK.cons _ _ _ _ rfl (LeA.refl _) ?_))⟩
   rintro s ⟨cap,hcp,rfl⟩
   refine w_ (Aa (h:=e_ (?_)))
   refine BG (fun s=>∃(it:Itm) (F:Fnd) (e2:Int),ER w.s.spc w.p.cwd (CR w.c) X (y,pj)=(X.1++[it],X.2.1++[F],e2)∧s=⟨look [(0, .bp 0 0),(1, .v (.int .i64 e2)),(5, .sl 1 ((CG w.c).map Bt) none),(6, .v (.int .i64 (j:Int))),(7, .bp 2 0)],⟨[Ce w (E4 X.2.1) (.bs 1 0 13 (X.1.length+1) cap),LB 13 CH (X.1++[it]) cap,As F],[(113,8,X.2.1.map As)]⟩⟩) ?_ ?_
   ·skip
    refine w_ (m_ (h:=AW (h:=e_ (?_))))
    refine A9 rfl (fun hb2=>?_) (fun hb2=>?_)
    ·have hc2:=bp hb2
     have he0:X.2.2=0:=by simpa using hc2
     refine q_ (BQ ([(0,Ce w (E4 X.2.1) (.bs 1 0 13 (X.1.length+1) cap)),(1,LB 13 CH (X.1++[Eo y pj]) cap)]) 29 (h:=AN 0 (h:=BA 1 (h:=AK 2 (h:=AK 3 (h:=AE 4 (h:=AN 5 (h:=BA 6 (h:=AK 7 (h:=AK 8 (h:=AE 9 (h:=AN 10 (h:=BA 11 (h:=AK 12 (h:=AK 13 (h:=AE 14 (h:=AN 15 (h:=DN 16 (h:=AE 17 (h:=AN 18 (h:=BA 19 (h:=AK 20 (h:=AE 21 (h:=?_))))))))))))))))))))))))
     refine c_ 22 rfl (AJ (ZZ w.c) ?_)
     rintro r rfl
     refine o_ (h:=?_)
     refine c_ 23 rfl (AJ (U9 w.s.spc w.p.cwd y (CR w.c) hsn hv hys) ?_)
     rintro r rfl
     refine o_ (h:=AN 24 (h:=B7 25 (h:=B7 26 (h:=?_))))
     refine Az 27 rfl (Ax rfl rfl rfl rfl rfl rfl (by repeat constructor) (by repeat constructor) ?_)
     refine o_ (h:=B2 28 (h:=z_ (h:=t_ (w_ (m_ (h:=AW (h:=e_ (?_))))))))
     refine A9 rfl (fun hb3=>?_) (fun hb3=>?_)
     ·have hc3:=bp hb3
      have hf0:(BE w.s.spc w.p.cwd y (CR w.c)).2=0:=by simpa using hc3
      refine BQ ([(0,Ce w (E4 X.2.1) (.bs 1 0 13 (X.1.length+1) cap)),(1,LB 13 CH (X.1++[Eo y pj]) cap),(2,As (BE w.s.spc w.p.cwd y (CR w.c)).1)]) 26 (h:=AN 0 (h:=BA 1 (h:=AK 2 (h:=AK 3 (h:=AE 4 (h:=AN 5 (h:=AN 6 (h:=BA 7 (h:=AK 8 (h:=AK 9 (h:=AE 10 (h:=AN 11 (h:=BA 12 (h:=AK 13 (h:=AK 14 (h:=AE 15 (h:=AN 16 (h:=DN 17 (h:=AE 18 (h:=AN 19 (h:=AN 20 (h:=DN 21 (h:=AE 22 (h:=?_))))))))))))))))))))))))
      refine AE 23 (h:=?_)
      refine c_ 24 rfl (AJ (cH w.s.spc y pj (BE w.s.spc w.p.cwd y (CR w.c)).1 hsb) ?_)
      rintro r rfl
      refine o_ (h:=?_)
      refine Bo 25 rfl (fun _ hS=>Cq (m:=j) rfl rfl rfl (by omega) ⟨rfl,rfl⟩) ?_
      refine Az 26 rfl (Ax rfl rfl rfl rfl rfl rfl (cL B9 hl1) (by repeat constructor) ?_)
      refine o_ (h:=z_ (h:=?_))
      refine AF ?_
      exact⟨_,⟨Lc w.s.spc y pj (BE w.s.spc w.p.cwd y (CR w.c)).1,(BE w.s.spc w.p.cwd y (CR w.c)).1,(BE w.s.spc w.p.cwd y (CR w.c)).2,(by rw[ER,if_pos he0,if_pos hf0,hf0]),rfl⟩,Bl 3 1 (by simp[Ap,Ak,Am,Bf B9,CB,E4,As])⟩
     have hc3:=bp hb3
     have hf0:¬(BE w.s.spc w.p.cwd y (CR w.c)).2=0:=by simpa using hc3
     refine B4 (?_)
     refine AF ?_
     first|exact⟨_,⟨Lc w.s.spc y pj (BE w.s.spc w.p.cwd y (CR w.c)).1,(BE w.s.spc w.p.cwd y (CR w.c)).1,(BE w.s.spc w.p.cwd y (CR w.c)).2,(by rw[ER,if_pos he0,if_pos hf0,hf0]),rfl⟩,Bl 3 1 (by simp[Ap,Ak,Am,Bf B9,CB,E4,As])⟩|exact⟨_,⟨Eo y pj,(BE w.s.spc w.p.cwd y (CR w.c)).1,(BE w.s.spc w.p.cwd y (CR w.c)).2,(by rw[ER,if_pos he0,if_neg hf0]),rfl⟩,Bl 3 1 (by simp[Ap,Ak,Am,Bf B9,CB,E4,As])⟩
    have hc2:=bp hb2
    have he0:¬X.2.2=0:=by simpa using hc2
    refine B4 (?_)
    refine AF ?_
    first|exact⟨_,⟨Lc w.s.spc y pj (BE w.s.spc w.p.cwd y (CR w.c)).1,(BE w.s.spc w.p.cwd y (CR w.c)).1,(BE w.s.spc w.p.cwd y (CR w.c)).2,(by rw[ER,if_pos he0,if_pos hf0,hf0]),rfl⟩,Bl 3 1 (by simp[Ap,Ak,Am,Bf B9,CB,E4,As])⟩|exact⟨_,⟨Eo y pj,(BE w.s.spc w.p.cwd y (CR w.c)).1,(BE w.s.spc w.p.cwd y (CR w.c)).2,(by rw[ER,if_pos he0,if_neg hf0]),rfl⟩,Bl 3 1 (by simp[Ap,Ak,Am,Bf B9,CB,E4,As])⟩|exact⟨_,⟨Eo y pj,Cw,X.2.2,(by rw[ER,if_neg he0]),rfl⟩,Bl 3 1 (by simp[Ap,Ak,Am,Bf B9,CB,E4,As])⟩
   rintro s ⟨it,F,e2,hlk,rfl⟩
   refine BQ ([(0,Ce w (E4 X.2.1) (.bs 1 0 13 (X.1.length+1) cap)),(2,As F)]) 10 (h:=AN 0 (h:=AN 1 (h:=BA 2 (h:=AK 3 (h:=AE 4 (h:=AE 5 (h:=Jd 6 (h:=?_))))))))
   refine c_ 7 rfl (EL rfl rfl rfl (by simp;omega) (by repeat constructor) ?_)
   refine o_ (h:=BA 8 (h:=AK 9 (h:=?_)))
   refine Az 10 rfl (Ax rfl rfl rfl rfl rfl rfl (by repeat constructor) (by repeat constructor) ?_)
   refine o_ (h:=z_ (h:=Aw (t_ (AQ (m_ (h:=B3 (h:=a_ (h:=AP (?_)))))))))
   refine AF ?_
   refine⟨w.c.paths.length - (j+1),_,by omega,⟨j+1,(X.1++[it],X.2.1++[F],e2), .bs 1 0 13 (X.1++[it]).length cap,[LB 13 CH (X.1++[it]) cap],by omega,rfl,by rw[hk,hlk],by simp;omega,by simp;omega, .inr ⟨cap,by simpa using hcp,rfl,rfl⟩,rfl⟩,?_⟩
   rw[List.length_append]
   unfold E4
   rw[List.map_append]
   exact Bl 2 1 (by simp[Ap,Ak,Am,Bf B9,CB])
  have hc1:=bp hb1
  have e3:=Cn Er hj hc1
  rcases hYZ with⟨_,_,hX0⟩|⟨cap,hcp,rfl,rfl⟩
  ·exfalso
   rw[hX0]at hl1
   simp at hl1
   omega
  have hfin:LK w e=X:=by rw[←hX];exact(cT (by rw[List.length_zip];omega)).symm
  refine BM (Al (Al (BN (?_))))
  refine AF ?_
  refine⟨_,⟨cap,by rw[hfin];exact hcp,rfl⟩,?_⟩
  rw[hfin]
  exact(cO 0 rfl (cQ w _ _ _)).trans (Bl 2 0 (by simp[Ap,Ak,Am,Bf B9,CB]))
 rintro s ⟨cap,hcp,rfl⟩
 refine w_ (m_ (h:=a_ (h:=e_ (A4 (?_)))))
 refine Av (r:= .v (.int .i64 (LK w e).2.2)) none (h4:=(by simp[Ap,Ak,Am,Bf B9,CB])) (h5:=(LeA.refl _)) (h6:=⟨rfl,cap,hcp,rfl,rfl⟩)
theorem UE(w:Wrk)(cap:Nat)(f:AR)(l:List DG)(e:Int):ACall Tryz.prog 154 [.bp 0 0, .agg (Ah f), .sl 7 (l.map C0) none, .v (.int .i64 e)] [WA w cap,IB w cap] (fun r b t=>t=[]∧r= .v (.int .i64 e)∧b=[WA (Bk w (f,l,e)).1 cap,IB (Bk w (f,l,e)).1 cap]):=by
 refine enter Tryz.func154 rfl rfl rfl rfl rfl 2 rfl ?_
 refine w_ (b_ (h:=a_ (h:=e_ (q_ (w_ (m_ (h:=AW (h:=e_ (?_)))))))))
 refine A9 rfl (fun hb1=>?_) (fun hb1=>?_)
 ·have hc1:=bp hb1
  refine w_ (m_ (h:=l_ (h:=k_ (h:=f_ (h:=f_ (h:=f_ (h:=s_ (h:=e_ (AQ (m_ (h:=m_ (h:=k_ (h:=f_ (h:=f_ (h:=s_ (h:=e_ (w_ (m_ (h:=a_ (h:=e_ (A4 (?_))))))))))))))))))))))
  refine Av (r:= .v (.int .i64 e)) none (h4:=(by simp[Ap,Ak,Am,Bf B9,IB,Cb])) (h5:=(LeA.refl _)) (h6:=⟨rfl,rfl,?_⟩)
  rw[Bk,if_pos hc1]
  rfl
 have hc1:=bp hb1
 refine AM (w_ (m_ (h:=a_ (h:=e_ (A4 (?_))))))
 refine Av (r:= .v (.int .i64 e)) none (h4:=(by simp[Ap,Ak,Am,Bf B9,CB,WA,IB,Cb])) (h5:=(LeA.refl _)) (h6:=⟨rfl,rfl,?_⟩)
 rw[Bk,if_neg hc1]
 rfl
theorem cV(w:Wrk)(cap:Nat)(t:Tab)(e:Int):ACall Tryz.prog 152 [.bp 0 0, .agg (Bw t), .v (.int .i64 e)] [WA w cap,IB w cap] (fun r b tk=>tk=[]∧r= .v (.int .i64 e)∧b=[WA (DR w (t,e)).1 cap,IB (DR w (t,e)).1 cap]):=by
 refine enter Tryz.func152 rfl rfl rfl rfl rfl 2 rfl ?_
 refine w_ (b_ (h:=a_ (h:=e_ (q_ (w_ (m_ (h:=AW (h:=e_ (?_)))))))))
 refine A9 rfl (fun hb1=>?_) (fun hb1=>?_)
 ·have hc1:=bp hb1
  refine AQ (m_ (h:=l_ (h:=k_ (h:=f_ (h:=f_ (h:=s_ (h:=e_ (w_ (m_ (h:=a_ (h:=e_ (A4 (?_)))))))))))))
  refine Av (r:= .v (.int .i64 e)) none (h4:=(by simp[Ap,Ak,Am,Bf B9,IB,Cb])) (h5:=(LeA.refl _)) (h6:=⟨rfl,rfl,?_⟩)
  rw[DR,if_pos hc1]
  rfl
 have hc1:=bp hb1
 refine AM (w_ (m_ (h:=a_ (h:=e_ (A4 (?_))))))
 refine Av (r:= .v (.int .i64 e)) none (h4:=(by simp[Ap,Ak,Am,Bf B9,CB,WA,IB,Cb])) (h5:=(LeA.refl _)) (h6:=⟨rfl,rfl,?_⟩)
 rw[DR,if_neg hc1]
 rfl
end
section
variable {P:Program}{rs:List ResultVar}{n:Nat}{R:AV→List (List AV)→List CC→Prop}{s:AS}{xs:List AV}{r:AV}
theorem Dd(g:Option Nat){tk':List CC}(h1:ResA P s rs xs:=by repeat (first|exact ResA.nil|(apply ResA.tmp;(focus exact rfl))|(apply ResA.cellN;(focus exact inferInstance);(focus exact rfl);(focus exact rfl);(focus exact rfl))|(apply ResA.cell1;(focus exact inferInstance);(focus exact rfl);(focus exact rfl);(focus exact rfl))))(h2:Gw s.h.tk g=some tk':=by rfl)(h3:Am n 1 (Cp g (Dp xs))=true:=by rfl)(h4:Ap n 0 (s.h.bx.take n)=true:=by simp[Ap,Ak,Am,Bf B9,CB,WA,IB,Cb,As,AY,AA,Bw,Ar,Ah])(h5:LeA (Cp g (Dp xs)) r)(h6:R r (s.h.bx.take n) tk'):Gx P rs n R .ret s:=Ny g h1 h2 h3 h4 h5 h6
end
theorem DS{f:Nat→Option AV}{bx:List (List AV)}{tk:List (Nat×Nat×List (List AV))}{l:List (Nat×AV)}{N:Dim}(n m:Nat){bx':List (List AV)}{tk':List (Nat×Nat×List (List AV))}(hn:Nat.ble N.ni n=true:=by rfl)(hb:bx.take n=bx':=by rfl)(ht:tk.take m=tk':=by rfl)(hbp:Ap n m bx'=true:=by simp[Ap,Ak,Am,Bf B9,CB,WA,IB,Cb,As,AY,AA,Bw,Ar,Ah])(hl:Sub n m f l:=by repeat (first|exact Sub.nil|refine Sub.cons _ _ _ rfl rfl ?_|refine Sub.any _ _ ?_|refine Sub.sl _ _ _ _ _ rfl ?_|refine Sub.slnil _ _ _ rfl ?_)):Weak N ⟨f,⟨bx,tk⟩⟩ ⟨look l,⟨bx',tk'⟩⟩:=B1 n m hn hb ht hbp hl
theorem UF{α:Type}{l:List α}{i:Nat}{x:α}(h:l[i]?=some x)(f:α→α):l.modify i f=l.set i (f x):=by
 apply List.ext_getElem?
 intro k
 rw[List.getElem?_modify,List.getElem?_set]
 obtain⟨hl,rfl⟩:=Ag.1 h
 by_cases e:i=k
 ·subst e
  simp[hl]
 simp[e]
theorem cW(w:Wrk)(R:Tab×Int):(DR w R).2=R.2:=by
 unfold DR
 split
 ·rename_i h;exact h.symm
 rfl
theorem Hn{w:Wrk}{R:De}(h:R.2.2=0):(Bk w R).1={w with s:=⟨⟨R.1,w.s.spc.mounts⟩,w.s.tab⟩,r:={w.r with changes:=R.2.1}}:=by
 unfold Bk
 rw[if_pos h]
theorem UG{w:Wrk}{R:De}(h:¬R.2.2=0):(Bk w R).1=w:=by
 unfold Bk
 rw[if_neg h]
theorem UH{f:AR}{dir:A7}{name:AB}{n:Nod}(h0:(Di f dir name n).2.2=0):∃c,(Di f dir name n).2.1=[c]:=by
 unfold Di at h0 ⊢
 split at h0
 ·rename_i c;exact absurd h0 c
 rename_i c1
 rw[if_neg c1]
 split at h0
 ·exact absurd h0 (by decide)
 rename_i c2
 rw[if_neg c2]
 split at h0
 ·exact absurd h0 (by decide)
 rename_i c3
 rw[if_neg c3]
 cases e:Ei f dir.1 with
 |none=>rw[e]at h0;simp at h0
 |some d=>
   rw[e]at h0
   simp only at h0 ⊢
   split at h0
   ·exact absurd h0 (by decide)
   rename_i c4
   rw[if_neg c4]
   exact⟨_,rfl⟩
theorem cY{w:Wrk}{i:Nat}{n:Nod}(h:(Ca w i n).2=0):∃c,(Ca w i n).1.r.changes=[c]:=by
 unfold Ca at h ⊢
 split at h
 ·rename_i h0
  obtain⟨c,hc⟩:=UH h0
  rw[if_pos h0,Hn h0]
  exact⟨c,hc⟩
 rename_i h0;exact absurd h h0
theorem cZ(w:Wrk)(i:Nat)(n:Nod):(Ca w i n).1.s.tab=w.s.tab∧(Ca w i n).1.p=w.p∧(Ca w i n).1.c=w.c:=by
 unfold Ca
 split
 ·rename_i h0
  rw[Hn h0]
  exact⟨rfl,rfl,rfl⟩
 exact⟨rfl,rfl,rfl⟩
section
theorem UJ(w:Wrk)(cap i:Nat)(a:A7)(x:Itm)(hs:FlsB w.s.spc.files)(hx:w.r.items[i]?=some x):ACall Tryz.prog 155 [.bp 0 0, .v (.int .i64 (i:Int)), .agg (AA a)] [WA w cap,IB w cap] (fun r b t=>t=[]∧r= .tup []∧b=[WA (GF w i a) cap,IB (GF w i a) cap]):=by
 have hil:=(Ag.1 hx).1
 have hst:∀y:Itm,(w.r.items.set i y)[i]?=some y:=fun y=>by rw[List.getElem?_set_self hil]
 have hfin:w.r.items.modify i (TO (AT w.s.spc.files a) a)=w.r.items.set i {x with role:=2,file:=a,kind:=(AT w.s.spc.files a).kind,mode:=(AT w.s.spc.files a).mode,uid:=(AT w.s.spc.files a).uid,gid:=(AT w.s.spc.files a).gid}:=by rw[UF hx];rfl
 refine enter Tryz.func155 rfl rfl rfl rfl rfl 2 rfl ?_
 refine w_ (b_ (h:=e_ (?_)))
 refine BG (fun s=>s=⟨look [(0, .bp 0 0),(1, .v (.int .i64 (i:Int))),(5, .bp 2 0),(6, .bp 3 0)],⟨[WA w cap,IB w cap,AA a,AY (AT w.s.spc.files a)],[]⟩⟩) ?_ ?_
 ·skip
  refine BQ ([(0,WA w cap),(1,IB w cap),(2,AA a)]) 14 (h:=AN 0 (h:=BA 1 (h:=AK 2 (h:=AK 3 (h:=AK 4 (h:=AE 5 (h:=AE 6 (h:=?_))))))))
  refine Eh 7 11 rfl rfl ?_ ?_
  ·refine AJ (DV w.s.spc.files a hs) ?_
   rintro r rfl
   refine o_ (h:=?_)
   refine AN 8 (h:=B7 9 (h:=B7 10 (h:=?_)))
   refine c_ 11 rfl (CS (by repeat constructor) ?_)
   refine o_ (h:=?_)
   refine Az 12 rfl (Ax rfl rfl rfl rfl rfl rfl (by repeat constructor) (by repeat constructor) ?_)
   refine o_ (h:=B2 13 (h:=z_ (h:=?_)))
   refine AF ?_
   exact⟨_,rfl,DS 4 0⟩
  refine CS (by repeat constructor) ?_
  refine o_ (h:=?_)
  refine c_ 7 rfl (AJ (DV w.s.spc.files a hs) ?_)
  rintro r rfl
  refine o_ (h:=AN 8 (h:=B7 9 (h:=B7 10 (h:=?_))))
  refine Az 12 rfl (Ax rfl rfl rfl rfl rfl rfl (by repeat constructor) (by repeat constructor) ?_)
  refine o_ (h:=B2 13 (h:=z_ (h:=?_)))
  refine AF ?_
  exact⟨_,rfl,DS 4 0⟩
 rintro s rfl
 refine w_ (m_ (h:=k_ (h:=f_ (h:=f_ (h:=l_ (h:=m_ (h:=?_)))))))
 refine A6 rfl (Cq (m:=i) rfl rfl rfl hil ?_)
 refine a_ (h:=e_ (BQ ([(0,WA w cap),(2,AA a),(3,AY (AT w.s.spc.files a))]) 33 (h:=AN 0 (h:=AN 1 (h:=AN 2 (h:=AN 3 (h:=AN 4 (h:=AN 5 (h:=AE 6 (h:=AK 7 (h:=AE 8 (h:=AK 9 (h:=AE 10 (h:=AK 11 (h:=AE 12 (h:=AK 13 (h:=AE 14 (h:=BA 15 (h:=AK 16 (h:=?_))))))))))))))))))))
 refine Az 17 rfl (Ax rfl rfl rfl rfl rfl rfl (Hl B9 (x':={x with role:=2}) hx (by repeat constructor) (List.cons_ne_nil _ _)) (by repeat constructor) ?_)
 refine o_ (h:=BA 18 (h:=AK 19 (h:=?_)))
 refine Az 20 rfl (Ax rfl rfl rfl rfl rfl rfl (Hl B9 (x':={x with role:=2,file:=a}) (hst _) (by repeat constructor) (List.cons_ne_nil _ _)) (by repeat constructor) ?_)
 refine o_ (h:=BA 21 (h:=AK 22 (h:=?_)))
 refine Az 23 rfl (Ax rfl rfl rfl rfl rfl rfl (Hl B9 (x':={x with role:=2,file:=a,kind:=(AT w.s.spc.files a).kind}) (by rw[List.set_set];exact hst _) (by repeat constructor) (List.cons_ne_nil _ _)) (by repeat constructor) ?_)
 refine o_ (h:=BA 24 (h:=AK 25 (h:=?_)))
 refine Az 26 rfl (Ax rfl rfl rfl rfl rfl rfl (Hl B9 (x':={x with role:=2,file:=a,kind:=(AT w.s.spc.files a).kind,mode:=(AT w.s.spc.files a).mode}) (by rw[List.set_set,List.set_set];exact hst _) (by repeat constructor) (List.cons_ne_nil _ _)) (by repeat constructor) ?_)
 refine o_ (h:=BA 27 (h:=AK 28 (h:=?_)))
 refine Az 29 rfl (Ax rfl rfl rfl rfl rfl rfl (Hl B9 (x':={x with role:=2,file:=a,kind:=(AT w.s.spc.files a).kind,mode:=(AT w.s.spc.files a).mode,uid:=(AT w.s.spc.files a).uid}) (by rw[List.set_set,List.set_set,List.set_set];exact hst _) (by repeat constructor) (List.cons_ne_nil _ _)) (by repeat constructor) ?_)
 refine o_ (h:=BA 30 (h:=AK 31 (h:=?_)))
 refine Az 32 rfl (Ax rfl rfl rfl rfl rfl rfl (Hl B9 (x':={x with role:=2,file:=a,kind:=(AT w.s.spc.files a).kind,mode:=(AT w.s.spc.files a).mode,uid:=(AT w.s.spc.files a).uid,gid:=(AT w.s.spc.files a).gid}) (by rw[List.set_set,List.set_set,List.set_set,List.set_set];exact hst _) (by repeat constructor) (List.cons_ne_nil _ _)) (by repeat constructor) ?_)
 refine o_ (h:=z_ (h:=?_))
 refine MW (r:= .tup []) none (h4:=(by simp[Ap,Ak,Am,Bf B9,CB,WA,Cb])) (h5:=(LeA.refl _)) (h6:=⟨rfl,rfl,?_⟩)
 rw[List.set_set,List.set_set,List.set_set,List.set_set,List.set_set]
 unfold WA IB GF
 simp only[hfin,List.length_set]
 rfl
theorem d6(w:Wrk)(cap i:Nat)(n:Nod)(f:Fnd)(x:Itm)(hv:FlsV w.s.spc.files)(hf:w.found[i]?=some f)(hx:w.r.items[i]?=some x)(hn:f.name.size≤100000)(ht:n.target.size≤100000)(hne:n.entries=[]):ACall Tryz.prog 150 [.bp 0 0, .v (.int .i64 (i:Int)), .agg (AY n)] [WA w cap,IB w cap] (fun r b t=>t=[]∧r= .v (.int .i64 (Ca w i n).2)∧b=[WA (Ca w i n).1 cap,IB (Ca w i n).1 cap]):=by
 have hrow:(w.found.map As)[i]?=some (As f):=by rw[List.getElem?_map,hf];rfl
 have hfn:Aq w i=f:=by unfold Aq;rw[hf];rfl
 have hmk:Dm w i n=Di w.s.spc.files f.dir f.name (Ld w n):=by unfold Dm;rw[hfn]
 have hok:=Hc hv f.dir f.name (Ld w n)
 rw[←hmk]at hok
 have hcall:AFn Tryz.prog 45 [.agg (Ah w.s.spc.files), .agg (AA f.dir), .v (.string f.name), .agg (AY (Ld w n))] (fun r=>r=C9 (Dm w i n)):=by rw[hmk];exact Sb _ _ _ _ hv hn ht
 refine enter Tryz.func150 rfl rfl rfl rfl rfl 2 rfl ?_
 refine w_ (b_ (h:=a_ (h:=e_ (q_ (BQ ([(0,WA w cap),(1,IB w cap)]) 14 (h:=AN 0 (h:=BA 1 (h:=AK 2 (h:=AK 3 (h:=AE 4 (h:=AN 5 (h:=BA 6 (h:=AK 7 (h:=AK 8 (h:=AE 9 (h:=AK 10 (h:=?_)))))))))))))))))
 refine Az 11 rfl (Ax rfl rfl rfl rfl rfl rfl (by repeat constructor) (by repeat constructor) ?_)
 refine o_ (h:=AK 12 (h:=?_))
 refine Az 13 rfl (Ax rfl rfl rfl rfl rfl rfl (by repeat constructor) (by repeat constructor) ?_)
 refine o_ (h:=z_ (h:=t_ (q_ (BQ ([(0,WA w cap),(1,IB w cap),(2,AY (Ld w n))]) 28 (h:=AN 0 (h:=AN 1 (h:=BA 2 (h:=AK 3 (h:=AK 4 (h:=AK 5 (h:=AE 6 (h:=AN 7 (h:=BA 8 (h:=AK 9 (h:=AE 10 (h:=AN 11 (h:=DN 12 (h:=AK 13 (h:=AE 14 (h:=AN 15 (h:=BA 16 (h:=AK 17 (h:=AE 18 (h:=?_))))))))))))))))))))))))
 refine AN 19 (h:=DN 20 (h:=AK 21 (h:=AE 22 (h:=AE 23 (h:=?_)))))
 refine c_ 24 rfl (AJ (hcall) ?_)
 rintro r rfl
 refine o_ (h:=B7 25 (h:=B7 26 (h:=B7 27 (h:=?_))))
 refine c_ 28 rfl (Cs [0,1] rfl (.cons _ _ _ _ _ rfl (LeA.refl _) (.cons _ _ _ _ _ rfl (LeA.refl _) (.cons _ _ _ _ _ rfl (LeA.refl _) (.cons _ _ _ _ _ rfl (LeA.refl _) .nil)))) (by decide) (.cons _ _ _ _ _ rfl rfl (.cons _ _ _ _ _ rfl (Fa B9 _ _ _) .nil)) (UE w cap (Dm w i n).1 (Dm w i n).2.1 (Dm w i n).2.2) ?_)
 rintro r bc tc ⟨rfl,rfl,rfl⟩
 refine⟨rfl,_,Gj rfl (Bk w (Dm w i n)).1 cap,?_⟩
 refine o_ (h:=?_)
 refine c_ 29 rfl (Fy rfl ?_)
 refine o_ (h:=z_ (h:=t_ (q_ (w_ (m_ (h:=AW (h:=e_ (?_))))))))
 refine A9 rfl (fun hb1=>?_) (fun hb1=>?_)
 ·have hc1:=bp hb1
  have h0:(Dm w i n).2.2=0:=hc1
  obtain⟨c,hc⟩:∃c,(Dm w i n).2.1=[c]:=by rw[hmk]at h0 ⊢;exact UH h0
  have hch:(Bk w (Dm w i n)).1.r.changes=[c]:=by rw[Hn h0];exact hc
  have hx1:(Bk w (Dm w i n)).1.r.items[i]?=some x:=by rw[Hn h0];exact hx
  have hfb:FlsB (Bk w (Dm w i n)).1.s.spc.files:=by rw[Hn h0];exact(hok h0).1.b
  have hrow2:((Bk w (Dm w i n)).1.r.changes.map C0)[0]?=some (C0 c):=by rw[hch];rfl
  refine AQ (m_ (h:=m_ (h:=m_ (h:=k_ (h:=f_ (h:=f_ (h:=l_ (h:=?_))))))))
  refine A6 rfl (Cg (n:=0) rfl rfl rfl hrow2 ?_)
  refine f_ (h:=l_ (h:=?_))
  refine A6 rfl (Cs [0,1] rfl (.cons _ _ _ _ _ rfl (LeA.refl _) (.cons _ _ _ _ _ rfl (LeA.refl _) (.cons _ _ _ _ _ rfl (LeA.refl _) .nil))) (by decide) (.cons _ _ _ _ _ rfl rfl (.cons _ _ _ _ _ rfl (Fa B9 _ _ _) .nil)) (UJ (Bk w (Dm w i n)).1 cap i c.2.2.2 x hfb hx1) ?_)
  rintro r bc tc ⟨rfl,rfl,rfl⟩
  refine⟨rfl,_,Gj rfl (GF (Bk w (Dm w i n)).1 i c.2.2.2) cap,?_⟩
  refine e_ (w_ (m_ (h:=a_ (h:=e_ (A4 (?_))))))
  refine Dd (r:= .v (.int .i64 (Ca w i n).2)) none (h5:=(by rw[Ca,if_pos h0];exact LeA.of_eq (vi h0))) (h6:=⟨rfl,rfl,?_⟩)
  rw[Ca,if_pos h0,hc]
  rfl
 have hc1:=bp hb1
 have h0:¬(Dm w i n).2.2=0:=hc1
 refine AM (w_ (m_ (h:=a_ (h:=e_ (A4 (?_))))))
 refine Dd (r:= .v (.int .i64 (Ca w i n).2)) none (h5:=(by rw[Ca,if_neg h0];exact LeA.refl _)) (h6:=⟨rfl,rfl,?_⟩)
 rw[Ca,if_neg h0,UG h0]
 rfl
theorem d7(w:Wrk)(cap:Nat)(f:Fnd)(x:Itm)(hv:SpcV w.s.spc)(hm:w.s.spc.mounts.length≤1000)(htb:TabB w.s.tab)(hf:w.found[0]?=some f)(hx:w.r.items[0]?=some x)(hn:f.name.size≤100000):ACall Tryz.prog 114 [.bp 0 0] [WA w cap,IB w cap] (fun r b t=>t=[]∧r= .v (.int .i64 (C4 w).2)∧b=[WA (C4 w).1 cap,IB (C4 w).1 cap]):=by
 have hsb:=hv.b hm
 have hrow:(w.found.map As)[0]?=some (As f):=by rw[List.getElem?_map,hf];rfl
 have hfn:Aq w 0=f:=by unfold Aq;rw[hf];rfl
 refine enter Tryz.func114 rfl rfl rfl rfl rfl 2 rfl ?_
 refine w_ (a_ (h:=e_ (q_ (BQ ([(0,WA w cap),(1,IB w cap)]) 15 (h:=AN 0 (h:=BA 1 (h:=AK 2 (h:=AE 3 (h:=DN 4 (h:=AE 5 (h:=AN 6 (h:=BA 7 (h:=AK 8 (h:=AK 9 (h:=?_)))))))))))))))
 refine Bo 10 rfl (fun _ hS=>Dw (len:=4) (sz:=1) (n:=0) (by kernel_rfl) rfl rfl rfl rfl ⟨rfl,rfl⟩) ?_
 refine AE 11 (h:=?_)
 refine c_ 12 rfl (CS (by repeat constructor) ?_)
 refine o_ (h:=?_)
 refine Az 13 rfl (Ax rfl rfl rfl rfl rfl rfl (by repeat constructor) (by repeat constructor) ?_)
 refine o_ (h:=B2 14 (h:=z_ (h:=t_ (?_))))
 refine BG (fun s=>∃(w2:Wrk) (F2:Fnd),C4 w=Gg w2 F2.file∧TabB w2.s.tab∧s=⟨look [(0, .bp 0 0),(3, .bp 2 0),(4, .v (.int .i64 w2.c.a0))],⟨[WA w2 cap,IB w2 cap,As F2],[]⟩⟩) ?_ ?_
 ·skip
  refine w_ (f_ (h:=l_ (h:=e_ (?_))))
  refine A9 rfl (fun hb1=>?_) (fun hb1=>?_)
  ·have hc1:=bp hb1
   have hex:(Aq w 0).ex=true:=by rw[hfn];exact hc1
   refine BG (fun s=>s=⟨look [(0, .bp 0 0),(3, .bp 2 0),(4, .v (.int .i64 w.c.a0)),(5, .bp 3 0)],⟨[WA w cap,IB w cap,As f,AY (AT w.s.spc.files f.file)],[]⟩⟩) ?_ ?_
   ·skip
    refine BQ ([(0,WA w cap),(1,IB w cap),(2,As f)]) 15 (h:=AN 0 (h:=BA 1 (h:=AK 2 (h:=AK 3 (h:=AK 4 (h:=AE 5 (h:=AK 6 (h:=AE 7 (h:=?_)))))))))
    refine Eh 8 12 rfl rfl ?_ ?_
    ·refine AJ (DV w.s.spc.files f.file hsb.files) ?_
     rintro r rfl
     refine o_ (h:=?_)
     refine AN 9 (h:=B7 10 (h:=B7 11 (h:=?_)))
     refine c_ 12 rfl (CS (by repeat constructor) ?_)
     refine o_ (h:=?_)
     refine Az 13 rfl (Ax rfl rfl rfl rfl rfl rfl (by repeat constructor) (by repeat constructor) ?_)
     refine o_ (h:=B2 14 (h:=z_ (h:=?_)))
     refine AF ?_
     exact⟨_,rfl,DS 4 0⟩
    refine CS (by repeat constructor) ?_
    refine o_ (h:=?_)
    refine c_ 8 rfl (AJ (DV w.s.spc.files f.file hsb.files) ?_)
    rintro r rfl
    refine o_ (h:=AN 9 (h:=B7 10 (h:=B7 11 (h:=?_))))
    refine Az 13 rfl (Ax rfl rfl rfl rfl rfl rfl (by repeat constructor) (by repeat constructor) ?_)
    refine o_ (h:=B2 14 (h:=z_ (h:=?_)))
    refine AF ?_
    exact⟨_,rfl,DS 4 0⟩
   rintro s rfl
   refine w_ (a_ (h:=e_ (?_)))
   refine BG (fun s=>s=⟨look [(0, .bp 0 0),(3, .bp 2 0),(4, .v (.int .i64 w.c.a0)),(5, .bp 3 0),(7, .v (.int .i64 (if Bg w.c.a0 1=true then 4 else 0)))],⟨[WA w cap,IB w cap,As f,AY (AT w.s.spc.files f.file)],[]⟩⟩) ?_ ?_
   ·skip
    refine w_ (m_ (h:=Dq (h:=BS (h:=e_ (?_)))))
    refine A9 rfl (fun hb2=>?_) (fun hb2=>?_)
    ·have hc2:=bp hb2
     have k0:Bg w.c.a0 1=true:=by simpa[Bg]using hc2
     refine AQ (m_ (h:=B3 (h:=a_ (h:=AP (?_)))))
     refine AF ?_
     refine⟨_,rfl,?_⟩
     (rw[if_pos k0];exact DS 4 0)
    have hc2:=bp hb2
    have k0:¬Bg w.c.a0 1=true:=by simpa[Bg]using hc2
    refine B4 (?_)
    refine AF ?_
    refine⟨_,rfl,?_⟩
    first|(rw[if_pos k0];exact DS 4 0)|(rw[if_neg k0];exact DS 4 0)
   rintro s rfl
   refine BG (fun s=>s=⟨look [(0, .bp 0 0),(3, .bp 2 0),(4, .v (.int .i64 w.c.a0)),(5, .bp 3 0),(7, .v (.int .i64 (Gi w.c.a0)))],⟨[WA w cap,IB w cap,As f,AY (AT w.s.spc.files f.file)],[]⟩⟩) ?_ ?_
   ·skip
    refine w_ (m_ (h:=Dq (h:=BS (h:=e_ (?_)))))
    refine A9 rfl (fun hb3=>?_) (fun hb3=>?_)
    ·have hc3:=bp hb3
     have k00:Bg w.c.a0 18=true:=by simpa[Bg]using hc3
     refine AQ (m_ (h:=B3 (h:=a_ (h:=AP (?_)))))
     refine AF ?_
     refine⟨_,rfl,?_⟩
     unfold Gi
     (rw[if_pos k00];exact DS 4 0)
    have hc3:=bp hb3
    have k00:¬Bg w.c.a0 18=true:=by simpa[Bg]using hc3
    refine B4 (?_)
    refine AF ?_
    refine⟨_,rfl,?_⟩
    unfold Gi
    first|(rw[if_pos k00];exact DS 4 0)|(rw[if_neg k00,Int.add_zero];exact DS 4 0)
   rintro s rfl
   refine Ao (?_)
   refine BG (fun s=>s=⟨look [(0, .bp 0 0),(3, .bp 2 0),(4, .v (.int .i64 w.c.a0)),(5, .bp 3 0),(7, .v (.int .i64 (Gi w.c.a0))),(48, .v (.bool (Bg w.c.a0 4&&Bg w.c.a0 8)))],⟨[WA w cap,IB w cap,As f,AY (AT w.s.spc.files f.file)],[]⟩⟩) ?_ ?_
   ·skip
    refine AQ (m_ (h:=Dq (h:=BS (h:=m_ (h:=?_)))))
    refine At true rfl rfl (fun hb4=>?_) (fun hb4=>?_)
    ·have hc4:=bp hb4
     refine m_ (h:=Dq (h:=BS (h:=AZ (h:=a_ (h:=AP (?_))))))
     refine AF ?_
     exact⟨_,rfl,B1 4 0 rfl rfl rfl (by simp[Ap,Ak,Am,Bf B9,CB,WA,IB,Cb,As,AY]) (by repeat (first|exact Sub.nil|refine Sub.cons _ _ _ rfl rfl ?_|refine Sub.any _ _ ?_|refine Sub.sl _ _ _ _ _ rfl ?_|refine Sub.slnil _ _ _ rfl ?_|(apply Sub.of;(focus exact rfl);(focus exact LeA.of_eq (vb (by simp[Bg, *])));(focus exact rfl))))⟩
    have hc4:=bp hb4
    refine A3 (h:=A3 (h:=A3 (h:=Ai (h:=a_ (h:=AP (?_))))))
    refine AF ?_
    exact⟨_,rfl,B1 4 0 rfl rfl rfl (by simp[Ap,Ak,Am,Bf B9,CB,WA,IB,Cb,As,AY]) (by repeat (first|exact Sub.nil|refine Sub.cons _ _ _ rfl rfl ?_|refine Sub.any _ _ ?_|refine Sub.sl _ _ _ _ _ rfl ?_|refine Sub.slnil _ _ _ rfl ?_|(apply Sub.of;(focus exact rfl);(focus exact LeA.of_eq (vb (by simp[Bg, *])));(focus exact rfl))))⟩
   rintro s rfl
   refine A9 rfl (fun hb5=>?_) (fun hb5=>?_)
   ·have hc5:=bp hb5
    have k1:Bg w.c.a0 4=true∧Bg w.c.a0 8=true:=by simpa using hc5
    refine w_ (a_ (h:=e_ (A4 (Af (A8 (?_))))))
    refine Dd (r:= .v (.int .i64 (C4 w).2)) none (h5:=(by rw[C4,if_pos hex,if_pos k1];exact LeA.refl _)) (h6:=⟨rfl,rfl,?_⟩)
    rw[C4,if_pos hex,if_pos k1]
    rfl
   have hc5:=bp hb5
   have k1:¬(Bg w.c.a0 4=true∧Bg w.c.a0 8=true):=by simpa using hc5
   refine w_ (f_ (h:=l_ (h:=AW (h:=a_ (h:=e_ (?_))))))
   refine A9 rfl (fun hb6=>?_) (fun hb6=>?_)
   ·have hc6:=bp hb6
    have k2:(AT w.s.spc.files (Aq w 0).file).kind=3:=by rw[hfn];exact hc6
    refine w_ (a_ (h:=e_ (A4 (Af (A8 (?_))))))
    refine Dd (r:= .v (.int .i64 (C4 w).2)) none (h5:=(by rw[C4,if_pos hex,if_neg k1,if_pos k2];exact LeA.refl _)) (h6:=⟨rfl,rfl,?_⟩)
    rw[C4,if_pos hex,if_neg k1,if_pos k2]
    rfl
   have hc6:=bp hb6
   have k2:¬(AT w.s.spc.files (Aq w 0).file).kind=3:=by rw[hfn];exact hc6
   refine BG (fun s=>s=⟨look [(0, .bp 0 0),(3, .bp 2 0),(4, .v (.int .i64 w.c.a0)),(5, .bp 3 0),(7, .v (.int .i64 (Gi w.c.a0))),(61, .v (.bool (decide ((AT w.s.spc.files f.file).kind=2)&&Bg w.c.a0 22)))],⟨[WA w cap,IB w cap,As f,AY (AT w.s.spc.files f.file)],[]⟩⟩) ?_ ?_
   ·skip
    refine AQ (f_ (h:=l_ (h:=AW (h:=m_ (h:=?_)))))
    refine At true rfl rfl (fun hb7=>?_) (fun hb7=>?_)
    ·have hc7:=bp hb7
     refine m_ (h:=Dq (h:=BS (h:=AZ (h:=a_ (h:=AP (?_))))))
     refine AF ?_
     exact⟨_,rfl,B1 4 0 rfl rfl rfl (by simp[Ap,Ak,Am,Bf B9,CB,WA,IB,Cb,As,AY]) (by repeat (first|exact Sub.nil|refine Sub.cons _ _ _ rfl rfl ?_|refine Sub.any _ _ ?_|refine Sub.sl _ _ _ _ _ rfl ?_|refine Sub.slnil _ _ _ rfl ?_|(apply Sub.of;(focus exact rfl);(focus exact LeA.of_eq (vb (by simp[Bg, *])));(focus exact rfl))))⟩
    have hc7:=bp hb7
    refine A3 (h:=A3 (h:=A3 (h:=Ai (h:=a_ (h:=AP (?_))))))
    refine AF ?_
    exact⟨_,rfl,B1 4 0 rfl rfl rfl (by simp[Ap,Ak,Am,Bf B9,CB,WA,IB,Cb,As,AY]) (by repeat (first|exact Sub.nil|refine Sub.cons _ _ _ rfl rfl ?_|refine Sub.any _ _ ?_|refine Sub.sl _ _ _ _ _ rfl ?_|refine Sub.slnil _ _ _ rfl ?_|(apply Sub.of;(focus exact rfl);(focus exact LeA.of_eq (vb (by simp[Bg, *])));(focus exact rfl))))⟩
   rintro s rfl
   refine A9 rfl (fun hb8=>?_) (fun hb8=>?_)
   ·have hc8:=bp hb8
    have k3:(AT w.s.spc.files (Aq w 0).file).kind=2∧Bg w.c.a0 22=true:=by rw[hfn];simpa using hc8
    refine w_ (a_ (h:=e_ (A4 (Af (A8 (?_))))))
    refine Dd (r:= .v (.int .i64 (C4 w).2)) none (h5:=(by rw[C4,if_pos hex,if_neg k1,if_neg k2,if_pos k3];exact LeA.refl _)) (h6:=⟨rfl,rfl,?_⟩)
    rw[C4,if_pos hex,if_neg k1,if_neg k2,if_pos k3]
    rfl
   have hc8:=bp hb8
   have k3:¬((AT w.s.spc.files (Aq w 0).file).kind=2∧Bg w.c.a0 22=true):=by rw[hfn];simpa using hc8
   refine w_ (m_ (h:=f_ (h:=l_ (h:=m_ (h:=?_)))))
   refine A6 rfl (Dy 1 rfl (.cons _ _ _ _ _ rfl (LeA.of_eq rfl) (.cons _ _ _ _ _ rfl (LeA.refl _) (.cons _ _ _ _ _ rfl (LeA.refl _) .nil))) (NQ w .any f.file (Gi w.c.a0) hsb) ?_)
   rintro r rfl
   refine⟨rfl,?_⟩
   refine BR (h:=a_ (h:=e_ (?_)))
   refine A9 rfl (fun hb9=>?_) (fun hb9=>?_)
   ·have hc9:=bp hb9
    have k4:D9 w (Aq w 0).file (Gi w.c.a0)=false:=by rw[hfn];simpa using hc9
    refine w_ (a_ (h:=e_ (A4 (Af (A8 (?_))))))
    refine Dd (r:= .v (.int .i64 (C4 w).2)) none (h5:=(by rw[C4,if_pos hex,if_neg k1,if_neg k2,if_neg k3,if_pos k4];exact LeA.refl _)) (h6:=⟨rfl,rfl,?_⟩)
    rw[C4,if_pos hex,if_neg k1,if_neg k2,if_neg k3,if_pos k4]
    rfl
   have hc9:=bp hb9
   have k4:¬D9 w (Aq w 0).file (Gi w.c.a0)=false:=by rw[hfn];simpa using hc9
   refine B4 (Aw (?_))
   refine AF ?_
   exact⟨_,⟨w,f,(by rw[C4,if_pos hex,if_neg k1,if_neg k2,if_neg k3,if_neg k4,hfn]),htb,rfl⟩,DS 3 0⟩
  have hc1:=bp hb1
  have hex:¬(Aq w 0).ex=true:=by rw[hfn];simpa using hc1
  refine q_ (Ao (w_ (m_ (h:=Dq (h:=AW (h:=a_ (h:=e_ (?_))))))))
  refine A9 rfl (fun hb10=>?_) (fun hb10=>?_)
  ·have hc10:=bp hb10
   have k1:Bg w.c.a0 4=false:=by simp only[Bg];simpa using hc10
   refine w_ (a_ (h:=e_ (A4 (Af (A8 (A8 (?_)))))))
   refine Dd (r:= .v (.int .i64 (C4 w).2)) none (h5:=(by rw[C4,if_neg hex,if_pos k1];exact LeA.refl _)) (h6:=⟨rfl,rfl,?_⟩)
   rw[C4,if_neg hex,if_pos k1]
   rfl
  have hc10:=bp hb10
  have k1:¬Bg w.c.a0 4=false:=by simp only[Bg];simpa using hc10
  refine w_ (f_ (h:=l_ (h:=a_ (h:=e_ (?_)))))
  refine A9 rfl (fun hb11=>?_) (fun hb11=>?_)
  ·have hc11:=bp hb11
   have k2:(Aq w 0).slash=true:=by rw[hfn];exact hc11
   refine w_ (a_ (h:=e_ (A4 (Af (A8 (A8 (?_)))))))
   refine Dd (r:= .v (.int .i64 (C4 w).2)) none (h5:=(by rw[C4,if_neg hex,if_neg k1,if_pos k2];exact LeA.refl _)) (h6:=⟨rfl,rfl,?_⟩)
   rw[C4,if_neg hex,if_neg k1,if_pos k2]
   rfl
  have hc11:=bp hb11
  have k2:¬(Aq w 0).slash=true:=by rw[hfn];simpa using hc11
  refine w_ (m_ (h:=f_ (h:=l_ (h:=?_))))
  refine A6 rfl (Dy 1 rfl (.cons _ _ _ _ _ rfl (LeA.of_eq rfl) (.cons _ _ _ _ _ rfl (LeA.refl _) (.cons _ _ _ _ _ rfl (LeA.refl _) .nil))) (NQ w .any f.dir 2 hsb) ?_)
  rintro r rfl
  refine⟨rfl,?_⟩
  refine BR (h:=a_ (h:=e_ (?_)))
  refine A9 rfl (fun hb12=>?_) (fun hb12=>?_)
  ·have hc12:=bp hb12
   have k3:D9 w (Aq w 0).dir 2=false:=by rw[hfn];simpa using hc12
   refine w_ (a_ (h:=e_ (A4 (Af (A8 (A8 (?_)))))))
   refine Dd (r:= .v (.int .i64 (C4 w).2)) none (h5:=(by rw[C4,if_neg hex,if_neg k1,if_neg k2,if_pos k3];exact LeA.refl _)) (h6:=⟨rfl,rfl,?_⟩)
   rw[C4,if_neg hex,if_neg k1,if_neg k2,if_pos k3]
   rfl
  have hc12:=bp hb12
  have k3:¬D9 w (Aq w 0).dir 2=false:=by rw[hfn];simpa using hc12
  refine B4 (Aw (t_ (q_ (w_ (m_ (h:=m_ (h:=k_ (h:=f_ (h:=f_ (h:=?_))))))))))
  refine A6 rfl (Dw (len:=4) (sz:=1) (n:=1) (by kernel_rfl) rfl rfl rfl rfl ?_)
  refine l_ (h:=?_)
  refine A6 rfl (Fh (y:= .agg (AY (FY w.c.a1))) (DF ⟨rfl,rfl⟩) ?_)
  refine A6 rfl (Cs [0,1] rfl (.cons _ _ _ _ _ rfl (LeA.refl _) (.cons _ _ _ _ _ rfl (LeA.refl _) (.cons _ _ _ _ _ rfl (LeA.refl _) .nil))) (by decide) (.cons _ _ _ _ _ rfl rfl (.cons _ _ _ _ _ rfl (Fa B9 _ _ _) .nil)) (d6 w cap 0 (FY w.c.a1) f x hv.files hf hx hn (Nat.zero_le _) rfl) ?_)
  rintro r bc tc ⟨rfl,rfl,rfl⟩
  refine⟨rfl,_,Gj rfl (Ca w 0 (FY w.c.a1)).1 cap,?_⟩
  refine a_ (h:=e_ (w_ (m_ (h:=BS (h:=e_ (?_))))))
  refine A9 rfl (fun hb13=>?_) (fun hb13=>?_)
  ·have hc13:=bp hb13
   have k4:(Ca w 0 (FY w.c.a1)).2≠0:=by simpa using hc13
   refine w_ (m_ (h:=a_ (h:=e_ (A4 (A8 (A8 (?_)))))))
   refine Dd (r:= .v (.int .i64 (C4 w).2)) none (h5:=(by rw[C4,if_neg hex,if_neg k1,if_neg k2,if_neg k3,if_pos k4];exact LeA.refl _)) (h6:=⟨rfl,rfl,?_⟩)
   rw[C4,if_neg hex,if_neg k1,if_neg k2,if_neg k3,if_pos k4]
   rfl
  have hc13:=bp hb13
  have k4:(Ca w 0 (FY w.c.a1)).2=0:=by simpa using hc13
  obtain⟨c,hc⟩:=cY k4
  have hrow2:((Ca w 0 (FY w.c.a1)).1.r.changes.map C0)[0]?=some (C0 c):=by rw[hc];rfl
  refine AM (AQ (m_ (h:=k_ (h:=f_ (h:=f_ (h:=l_ (h:=?_)))))))
  refine A6 rfl (Cg (n:=0) rfl rfl rfl hrow2 ?_)
  refine f_ (h:=l_ (h:=f_ (h:=s_ (h:=AP (?_)))))
  refine AF ?_
  first|exact⟨_,⟨w,f,(by rw[C4,if_pos hex,if_neg k1,if_neg k2,if_neg k3,if_neg k4,hfn]),htb,rfl⟩,DS 3 0⟩|(obtain⟨q1,q2,q3⟩:=cZ w 0 (FY w.c.a1);exact⟨_,⟨(Ca w 0 (FY w.c.a1)).1,{f with file:=c.2.2.2},(by rw[C4,if_neg hex,if_neg k1,if_neg k2,if_neg k3,if_neg (by simp[k4]),hc];rfl),by rw[q1];exact htb,rfl⟩,by rw[q3];exact DS 3 0⟩)
 rintro s ⟨w2,F2,hop,htb2,rfl⟩
 refine BG (fun s=>s=⟨look [(0, .bp 0 0),(9, .bp 3 0),(10, .v (.int .i64 (EH w2.s.tab w2.p.pid F2.file w2.c.a0).2.1)),(11, .v (.int .i64 (EH w2.s.tab w2.p.pid F2.file w2.c.a0).2.2))],⟨[WA w2 cap,IB w2 cap,As F2,Bw (EH w2.s.tab w2.p.pid F2.file w2.c.a0).1],[]⟩⟩) ?_ ?_
 ·skip
  refine BQ ([(0,WA w2 cap),(1,IB w2 cap),(2,As F2)]) 22 (h:=AN 0 (h:=BA 1 (h:=AK 2 (h:=AK 3 (h:=AE 4 (h:=AN 5 (h:=BA 6 (h:=AK 7 (h:=AK 8 (h:=AE 9 (h:=AK 10 (h:=AE 11 (h:=AN 12 (h:=?_))))))))))))))
  refine Eh 13 18 rfl rfl ?_ ?_
  ·refine AJ (UD w2.s.tab w2.p.pid F2.file w2.c.a0 htb2) ?_
   rintro r rfl
   refine o_ (h:=?_)
   refine AN 14 (h:=B7 15 (h:=B7 16 (h:=B7 17 (h:=?_))))
   refine c_ 18 rfl (CS (by repeat constructor) ?_)
   refine o_ (h:=?_)
   refine Az 19 rfl (Ax rfl rfl rfl rfl rfl rfl (by repeat constructor) (by repeat constructor) ?_)
   refine o_ (h:=B2 20 (h:=B2 21 (h:=z_ (h:=?_))))
   refine AF ?_
   exact⟨_,rfl,DS 4 0⟩
  refine CS (by repeat constructor) ?_
  refine o_ (h:=?_)
  refine c_ 13 rfl (AJ (UD w2.s.tab w2.p.pid F2.file w2.c.a0 htb2) ?_)
  rintro r rfl
  refine o_ (h:=AN 14 (h:=B7 15 (h:=B7 16 (h:=B7 17 (h:=?_)))))
  refine Az 19 rfl (Ax rfl rfl rfl rfl rfl rfl (by repeat constructor) (by repeat constructor) ?_)
  refine o_ (h:=B2 20 (h:=B2 21 (h:=z_ (h:=?_))))
  refine AF ?_
  exact⟨_,rfl,DS 4 0⟩
 rintro s rfl
 refine w_ (m_ (h:=m_ (h:=k_ (h:=f_ (h:=f_ (h:=s_ (h:=e_ (w_ (m_ (h:=l_ (h:=m_ (h:=?_))))))))))))
 refine A6 rfl (Cs [0,1] rfl (.cons _ _ _ _ _ rfl (LeA.refl _) (.cons _ _ _ _ _ rfl (LeA.refl _) (.cons _ _ _ _ _ rfl (LeA.refl _) .nil))) (by decide) (.cons _ _ _ _ _ rfl rfl (.cons _ _ _ _ _ rfl (Fa B9 _ _ _) .nil)) (cV (TQ w2 (EH w2.s.tab w2.p.pid F2.file w2.c.a0).2.1) cap (EH w2.s.tab w2.p.pid F2.file w2.c.a0).1 (EH w2.s.tab w2.p.pid F2.file w2.c.a0).2.2) ?_)
 rintro r bc tc ⟨rfl,rfl,rfl⟩
 refine⟨rfl,_,Gj rfl (Gg w2 F2.file).1 cap,?_⟩
 refine a_ (h:=e_ (A4 (?_)))
 refine Dd (r:= .v (.int .i64 (C4 w).2)) none (h5:=(by rw[hop,Gg,cW];exact LeA.refl _)) (h6:=⟨rfl,rfl,?_⟩)
 rw[hop]
 rfl
end
theorem UK{e:Int}{y x:A7}{c d:Bool}:(decide (e=0)&& !decide ((y.1,y.2)=(x.1,x.2))&&c&&d)=true↔(e=0∧y≠x∧c=true∧d=true):=by
 have:decide ((y.1,y.2)=(x.1,x.2))=decide (y=x):=rfl
 rw[this]
 simp[and_assoc]
theorem UL{w:Wrk}{R:De}{x:A7}(h:(decide (R.2.2=0)&&decide (0<(R.2.1.length:Int)))=true):GG w R x=(GF (Ep (Bk w R).1 0 3) 1 x,R.2.2):=by
 rw[Bool.and_eq_true]at h
 have h1:=of_decide_eq_true h.1
 unfold GG
 rw[if_neg (by simp[h1]),if_pos (of_decide_eq_true h.2),h1]
theorem UM{w:Wrk}{R:De}{x:A7}(h:(decide (R.2.2=0)&&decide (0<(R.2.1.length:Int)))=false):GG w R x=((Bk w R).1,R.2.2):=by
 unfold GG
 by_cases h0:R.2.2=0
 ·rw[if_neg (by simp[h0]),if_neg (by simpa[h0]using h),h0]
 rw[if_pos h0,UG h0]
theorem d8(w:Wrk)(i:Nat)(r:Int)(cap:Nat):WA (Ep w i r) cap=WA w cap:=by
 unfold WA Ep
 simp only[List.length_modify]
 rfl
theorem d9{w:Wrk}{i:Nat}{x:Itm}(hx:w.r.items[i]?=some x)(r:Int)(cap:Nat):IB (Ep w i r) cap=LB 13 CH (w.r.items.set i {x with role:=r}) cap:=by
 unfold IB Ep
 rw[UF hx]
section
theorem dA(w:Wrk)(cap:Nat)(f g:Fnd)(x0 x1:Itm)(hv:SpcV w.s.spc)(hm:w.s.spc.mounts.length≤1000)(hps:w.s.tab.ps.length≤1000)(hf:w.found[0]?=some f)(hg:w.found[1]?=some g)(hx0:w.r.items[0]?=some x0)(hx1:w.r.items[1]?=some x1)(hn:f.name.size≤100000)(hn2:g.name.size≤100000):ACall Tryz.prog 117 [.bp 0 0] [WA w cap,IB w cap] (fun r b t=>t=[]∧r= .v (.int .i64 (Dn w).2)∧b=[WA (Dn w).1 cap,IB (Dn w).1 cap]):=by
 have hsb:=hv.b hm
 have hrow0:(w.found.map As)[0]?=some (As f):=by rw[List.getElem?_map,hf];rfl
 have hrow1:(w.found.map As)[1]?=some (As g):=by rw[List.getElem?_map,hg];rfl
 have hfn:Aq w 0=f:=by unfold Aq;rw[hf];rfl
 have hgn:Aq w 1=g:=by unfold Aq;rw[hg];rfl
 have hil:0<w.r.items.length:=(Ag.1 hx0).1
 obtain⟨R,hR⟩:∃R,R=EG w.s.spc.files f.dir f.name g.dir g.name:=⟨_,rfl⟩
 have hok:=Hd hv.files f.dir f.name g.dir g.name
 rw[←hR]at hok
 have hcall:AFn Tryz.prog 39 [.agg (Ah w.s.spc.files), .agg (AA f.dir), .v (.string f.name), .agg (AA g.dir), .v (.string g.name)] (fun r=>r=C9 R):=by rw[hR];exact Sj _ _ _ _ _ hv.files hn hn2
 obtain⟨x,hxd⟩:∃x,x=(AG w.s.spc.files f.dir f.name).1:=⟨_,rfl⟩
 obtain⟨y,hyd⟩:∃y,y=(AG w.s.spc.files g.dir g.name).1:=⟨_,rfl⟩
 have hl1:AFn Tryz.prog 38 [.agg (Ah w.s.spc.files), .agg (AA f.dir), .v (.string f.name)] (fun r=>r= .tup [.agg (AA x), .v (.int .i64 (AG w.s.spc.files f.dir f.name).2)]):=by rw[hxd];exact G7 _ _ _ hsb.files
 have hl2:AFn Tryz.prog 38 [.agg (Ah w.s.spc.files), .agg (AA g.dir), .v (.string g.name)] (fun r=>r= .tup [.agg (AA y), .v (.int .i64 (AG w.s.spc.files g.dir g.name).2)]):=by rw[hyd];exact G7 _ _ _ hsb.files
 obtain⟨e2,he2⟩:∃e,e=(AG w.s.spc.files g.dir g.name).2:=⟨_,rfl⟩
 rw[←he2]at hl2
 have hren:Dn w=if f.ex=false then(w,2)else if f.name=⟨#[]⟩∨g.name=⟨#[]⟩then(w,16)else if g.slash=true∧Ab w.s.spc.files f.file=false then(w,20)else if f.dir.1≠g.dir.1 then(w,18)else if D9 w f.dir 2=false∨D9 w g.dir 2=false then(w,13)else if e2=0∧y≠x∧Ab w.s.spc.files y=true∧Gf w y=true then(w,16)else GG w R x:=by
  unfold Dn Ge
  rw[hfn,hgn,←hxd,←hyd,←he2,←hR]
 clear hxd hyd he2 hR
 refine enter Tryz.func117 rfl rfl rfl rfl rfl 2 rfl ?_
 refine w_ (a_ (h:=e_ (?_)))
 refine BG (fun s=>s=⟨look [(0, .bp 0 0),(3, .bp 2 0),(4, .bp 3 0)],⟨[WA w cap,IB w cap,As f,As g],[]⟩⟩) ?_ ?_
 ·skip
  refine BQ ([(0,WA w cap)]) 16 (h:=AN 0 (h:=BA 1 (h:=AK 2 (h:=AE 3 (h:=?_)))))
  refine Bo 4 rfl (fun _ hS=>Cg (n:=0) rfl rfl rfl hrow0 ⟨rfl,rfl⟩) ?_
  refine AE 5 (h:=AN 6 (h:=BA 7 (h:=AK 8 (h:=AE 9 (h:=?_)))))
  refine Bo 10 rfl (fun _ hS=>Cg (n:=1) rfl rfl rfl hrow1 ⟨rfl,rfl⟩) ?_
  refine AE 11 (h:=?_)
  refine Eh 12 13 rfl rfl ?_ ?_
  ·refine CS (by repeat constructor) ?_
   refine o_ (h:=?_)
   refine c_ 13 rfl (CS (by repeat constructor) ?_)
   refine o_ (h:=?_)
   refine Az 14 rfl (Ax rfl rfl rfl rfl rfl rfl (by repeat constructor) (by repeat constructor) ?_)
   refine o_ (h:=?_)
   refine Az 15 rfl (Ax rfl rfl rfl rfl rfl rfl (by repeat constructor) (by repeat constructor) ?_)
   refine o_ (h:=z_ (h:=?_))
   refine AF ?_
   exact⟨_,rfl,DS 4 0⟩
  refine CS (by repeat constructor) ?_
  refine o_ (h:=?_)
  refine c_ 12 rfl (CS (by repeat constructor) ?_)
  refine o_ (h:=?_)
  refine Az 14 rfl (Ax rfl rfl rfl rfl rfl rfl (by repeat constructor) (by repeat constructor) ?_)
  refine o_ (h:=?_)
  refine Az 15 rfl (Ax rfl rfl rfl rfl rfl rfl (by repeat constructor) (by repeat constructor) ?_)
  refine o_ (h:=z_ (h:=?_))
  refine AF ?_
  first|exact⟨_,rfl,DS 4 0⟩|exact⟨_,rfl,Eg [0,1,3,2] Oz (by decide) (.cons _ _ _ _ _ rfl rfl (.cons _ _ _ _ _ rfl (JM B9 _ _ _) (.cons _ _ _ _ _ rfl rfl (.cons _ _ _ _ _ rfl rfl .nil)))) (by repeat (first|exact SubK.nil|refine SubK.cons _ _ _ _ rfl (LeA.refl _) ?_))⟩
 rintro s rfl
 refine q_ (Ao (w_ (f_ (h:=l_ (h:=BR (h:=a_ (h:=e_ (?_))))))))
 refine A9 rfl (fun hb1=>?_) (fun hb1=>?_)
 ·have hc1:=bp hb1
  have k1:f.ex=false:=by simpa using hc1
  refine w_ (a_ (h:=e_ (A4 (Af (A8 (?_))))))
  refine Dd (r:= .v (.int .i64 (Dn w).2)) none (h5:=(by rw[hren,if_pos k1];exact LeA.refl _)) (h6:=⟨rfl,rfl,?_⟩)
  rw[hren,if_pos k1]
  rfl
 have hc1:=bp hb1
 have k1:¬f.ex=false:=by simpa using hc1
 refine BG (fun s=>s=⟨look [(0, .bp 0 0),(3, .bp 2 0),(4, .bp 3 0),(26, .v (.bool (decide (f.name=⟨#[]⟩)||decide (g.name=⟨#[]⟩))))],⟨[WA w cap,IB w cap,As f,As g],[]⟩⟩) ?_ ?_
 ·skip
  refine AQ (f_ (h:=l_ (h:=AW (h:=m_ (h:=?_)))))
  refine At false rfl rfl (fun hb2=>?_) (fun hb2=>?_)
  ·have hc2:=bp hb2
   refine A3 (h:=A3 (h:=A3 (h:=AZ (h:=a_ (h:=AP (?_))))))
   refine AF ?_
   exact⟨_,rfl,Cl 4 0 (by simp[Ap,Ak,Am,Bf B9,CB,WA,IB,Cb,As])⟩
  have hc2:=bp hb2
  refine f_ (h:=l_ (h:=AW (h:=Ai (h:=a_ (h:=AP (?_))))))
  refine AF ?_
  exact⟨_,rfl,Cl 4 0 (by simp[Ap,Ak,Am,Bf B9,CB,WA,IB,Cb,As])⟩
 rintro s rfl
 refine A9 rfl (fun hb3=>?_) (fun hb3=>?_)
 ·have hc3:=bp hb3
  have k2:f.name=⟨#[]⟩∨g.name=⟨#[]⟩:=by simpa using hc3
  refine w_ (a_ (h:=e_ (A4 (Af (A8 (?_))))))
  refine Dd (r:= .v (.int .i64 (Dn w).2)) none (h5:=(by rw[hren,if_neg k1,if_pos k2];exact LeA.refl _)) (h6:=⟨rfl,rfl,?_⟩)
  rw[hren,if_neg k1,if_pos k2]
  rfl
 have hc3:=bp hb3
 have k2:¬(f.name=⟨#[]⟩∨g.name=⟨#[]⟩):=by simpa using hc3
 refine BG (fun s=>s=⟨look [(0, .bp 0 0),(3, .bp 2 0),(4, .bp 3 0),(35, .v (.bool (g.slash&& !Ab w.s.spc.files f.file)))],⟨[WA w cap,IB w cap,As f,As g],[]⟩⟩) ?_ ?_
 ·skip
  refine AQ (f_ (h:=l_ (h:=m_ (h:=?_))))
  refine At true rfl rfl (fun hb4=>?_) (fun hb4=>?_)
  ·have hc4:=bp hb4
   refine m_ (h:=?_)
   refine Ay (Dy 1 rfl (.cons _ _ _ _ _ rfl (LeA.of_eq rfl) (.cons _ _ _ _ _ rfl (LeA.refl _) .nil)) (cJ w .any 0 f hsb hf) ?_)
   rintro r rfl
   refine⟨rfl,?_⟩
   refine BR (h:=AZ (h:=a_ (h:=AP (?_))))
   refine AF ?_
   exact⟨_,rfl,Cl 4 0 (by simp[Ap,Ak,Am,Bf B9,CB,WA,IB,Cb,As])⟩
  have hc4:=bp hb4
  refine A3 (h:=A3 (h:=A3 (h:=Ai (h:=a_ (h:=AP (?_))))))
  refine AF ?_
  exact⟨_,rfl,Cl 4 0 (by simp[Ap,Ak,Am,Bf B9,CB,WA,IB,Cb,As])⟩
 rintro s rfl
 refine A9 rfl (fun hb5=>?_) (fun hb5=>?_)
 ·have hc5:=bp hb5
  have k3:g.slash=true∧Ab w.s.spc.files f.file=false:=by simpa using hc5
  refine w_ (a_ (h:=e_ (A4 (Af (A8 (?_))))))
  refine Dd (r:= .v (.int .i64 (Dn w).2)) none (h5:=(by rw[hren,if_neg k1,if_neg k2,if_pos k3];exact LeA.refl _)) (h6:=⟨rfl,rfl,?_⟩)
  rw[hren,if_neg k1,if_neg k2,if_pos k3]
  rfl
 have hc5:=bp hb5
 have k3:¬(g.slash=true∧Ab w.s.spc.files f.file=false):=by simpa using hc5
 refine w_ (f_ (h:=f_ (h:=l_ (h:=f_ (h:=f_ (h:=l_ (h:=BS (h:=a_ (h:=e_ (?_))))))))))
 refine A9 rfl (fun hb6=>?_) (fun hb6=>?_)
 ·have hc6:=bp hb6
  have k4:f.dir.1≠g.dir.1:=by simpa using hc6
  refine w_ (a_ (h:=e_ (A4 (Af (A8 (?_))))))
  refine Dd (r:= .v (.int .i64 (Dn w).2)) none (h5:=(by rw[hren,if_neg k1,if_neg k2,if_neg k3,if_pos k4];exact LeA.refl _)) (h6:=⟨rfl,rfl,?_⟩)
  rw[hren,if_neg k1,if_neg k2,if_neg k3,if_pos k4]
  rfl
 have hc6:=bp hb6
 have k4:¬f.dir.1≠g.dir.1:=by simpa using hc6
 refine BG (fun s=>s=⟨look [(0, .bp 0 0),(3, .bp 2 0),(4, .bp 3 0),(51, .v (.bool (!D9 w f.dir 2|| !D9 w g.dir 2)))],⟨[WA w cap,IB w cap,As f,As g],[]⟩⟩) ?_ ?_
 ·skip
  refine AQ (m_ (h:=f_ (h:=l_ (h:=?_))))
  refine A6 rfl (Dy 1 rfl (.cons _ _ _ _ _ rfl (LeA.of_eq rfl) (.cons _ _ _ _ _ rfl (LeA.refl _) (.cons _ _ _ _ _ rfl (LeA.refl _) .nil))) (NQ w .any f.dir 2 hsb) ?_)
  rintro r rfl
  refine⟨rfl,?_⟩
  refine BR (h:=m_ (h:=?_))
  refine At false rfl rfl (fun hb7=>?_) (fun hb7=>?_)
  ·have hc7:=bp hb7
   refine A3 (h:=A3 (h:=A3 (h:=A3 (h:=A3 (h:=AZ (h:=a_ (h:=AP (?_))))))))
   refine AF ?_
   exact⟨_,rfl,Cl 4 0 (by simp[Ap,Ak,Am,Bf B9,CB,WA,IB,Cb,As])⟩
  have hc7:=bp hb7
  refine m_ (h:=f_ (h:=l_ (h:=?_)))
  refine Ay (Dy 1 rfl (.cons _ _ _ _ _ rfl (LeA.of_eq rfl) (.cons _ _ _ _ _ rfl (LeA.refl _) (.cons _ _ _ _ _ rfl (LeA.refl _) .nil))) (NQ w .any g.dir 2 hsb) ?_)
  rintro r rfl
  refine⟨rfl,?_⟩
  refine BR (h:=Ai (h:=a_ (h:=AP (?_))))
  refine AF ?_
  exact⟨_,rfl,Cl 4 0 (by simp[Ap,Ak,Am,Bf B9,CB,WA,IB,Cb,As])⟩
 rintro s rfl
 refine A9 rfl (fun hb8=>?_) (fun hb8=>?_)
 ·have hc8:=bp hb8
  have k5:D9 w f.dir 2=false∨D9 w g.dir 2=false:=by simpa using hc8
  refine w_ (a_ (h:=e_ (A4 (Af (A8 (?_))))))
  refine Dd (r:= .v (.int .i64 (Dn w).2)) none (h5:=(by rw[hren,if_neg k1,if_neg k2,if_neg k3,if_neg k4,if_pos k5];exact LeA.refl _)) (h6:=⟨rfl,rfl,?_⟩)
  rw[hren,if_neg k1,if_neg k2,if_neg k3,if_neg k4,if_pos k5]
  rfl
 have hc8:=bp hb8
 have k5:¬(D9 w f.dir 2=false∨D9 w g.dir 2=false):=by simpa using hc8
 refine B4 (Aw (t_ (?_)))
 refine BG (fun s=>s=⟨look [(0, .bp 0 0),(3, .bp 2 0),(4, .bp 3 0),(5, .bp 4 0)],⟨[WA w cap,IB w cap,As f,As g,AA x],[]⟩⟩) ?_ ?_
 ·skip
  refine BQ ([(0,WA w cap),(1,IB w cap),(2,As f),(3,As g)]) 17 (h:=AN 0 (h:=BA 1 (h:=AK 2 (h:=AK 3 (h:=AK 4 (h:=AE 5 (h:=AK 6 (h:=AE 7 (h:=AK 8 (h:=AE 9 (h:=?_)))))))))))
  refine Eh 10 14 rfl rfl ?_ ?_
  ·refine AJ (hl1) ?_
   rintro r rfl
   refine o_ (h:=?_)
   refine AN 11 (h:=B7 12 (h:=B7 13 (h:=?_)))
   refine c_ 14 rfl (CS (by repeat constructor) ?_)
   refine o_ (h:=?_)
   refine Az 15 rfl (Ax rfl rfl rfl rfl rfl rfl (by repeat constructor) (by repeat constructor) ?_)
   refine o_ (h:=B2 16 (h:=z_ (h:=?_)))
   refine AF ?_
   exact⟨_,rfl,DS 5 0⟩
  refine CS (by repeat constructor) ?_
  refine o_ (h:=?_)
  refine c_ 10 rfl (AJ (hl1) ?_)
  rintro r rfl
  refine o_ (h:=AN 11 (h:=B7 12 (h:=B7 13 (h:=?_))))
  refine Az 15 rfl (Ax rfl rfl rfl rfl rfl rfl (by repeat constructor) (by repeat constructor) ?_)
  refine o_ (h:=B2 16 (h:=z_ (h:=?_)))
  refine AF ?_
  exact⟨_,rfl,DS 5 0⟩
 rintro s rfl
 refine q_ (?_)
 refine BG (fun s=>s=⟨look [(0, .bp 0 0),(3, .bp 2 0),(4, .bp 3 0),(5, .bp 4 0),(7, .bp 5 0),(8, .v (.int .i64 e2))],⟨[WA w cap,IB w cap,As f,As g,AA x,AA y],[]⟩⟩) ?_ ?_
 ·skip
  refine BQ ([(0,WA w cap),(1,IB w cap),(2,As f),(3,As g),(4,AA x)]) 17 (h:=AN 0 (h:=BA 1 (h:=AK 2 (h:=AK 3 (h:=AK 4 (h:=AE 5 (h:=AK 6 (h:=AE 7 (h:=AK 8 (h:=AE 9 (h:=?_)))))))))))
  refine Eh 10 14 rfl rfl ?_ ?_
  ·refine AJ (hl2) ?_
   rintro r rfl
   refine o_ (h:=?_)
   refine AN 11 (h:=B7 12 (h:=B7 13 (h:=?_)))
   refine c_ 14 rfl (CS (by repeat constructor) ?_)
   refine o_ (h:=?_)
   refine Az 15 rfl (Ax rfl rfl rfl rfl rfl rfl (by repeat constructor) (by repeat constructor) ?_)
   refine o_ (h:=B2 16 (h:=z_ (h:=?_)))
   refine AF ?_
   exact⟨_,rfl,DS 6 0⟩
  refine CS (by repeat constructor) ?_
  refine o_ (h:=?_)
  refine c_ 10 rfl (AJ (hl2) ?_)
  rintro r rfl
  refine o_ (h:=AN 11 (h:=B7 12 (h:=B7 13 (h:=?_))))
  refine Az 15 rfl (Ax rfl rfl rfl rfl rfl rfl (by repeat constructor) (by repeat constructor) ?_)
  refine o_ (h:=B2 16 (h:=z_ (h:=?_)))
  refine AF ?_
  exact⟨_,rfl,DS 6 0⟩
 rintro s rfl
 refine BG (fun s=>s=⟨look [(0, .bp 0 0),(3, .bp 2 0),(4, .bp 3 0),(5, .bp 4 0),(113, .v (.bool (decide (e2=0)&& !decide ((y.1,y.2)=(x.1,x.2))&&Ab w.s.spc.files y&&Gf w y)))],⟨[WA w cap,IB w cap,As f,As g,AA x],[]⟩⟩) ?_ ?_
 ·skip
  refine DM 22 (h:=AN 0 (h:=GR 1 (h:=AN 2 (h:=?_))))
  refine Fx (j:=2) rfl (fun hb9=>?_) (fun hb9=>?_)
  ·have hc9:=bp hb9
   refine AE 3 (h:=AE 4 (h:=?_))
   refine Ed (i:=5) rfl (Eb rfl rfl (by repeat constructor) (by repeat constructor) (fun w=>RS _ _ _ _ w) (by kernel_rfl) ⟨rfl,rfl⟩) ?_
   refine G4 6 (h:=AN 7 (h:=?_))
   refine Fx (j:=7) rfl (fun hb10=>?_) (fun hb10=>?_)
   ·have hc10:=bp hb10
    refine AN 8 (h:=BA 9 (h:=AK 10 (h:=AK 11 (h:=AK 12 (h:=AE 13 (h:=AE 14 (h:=?_)))))))
    refine c_ 15 rfl (AJ (Fi w.s.spc.files y hsb.files) ?_)
    rintro r rfl
    refine o_ (h:=G4 16 (h:=AN 17 (h:=?_)))
    refine Fx (j:=17) rfl (fun hb11=>?_) (fun hb11=>?_)
    ·have hc11:=bp hb11
     refine AN 18 (h:=AE 19 (h:=?_))
     refine c_ 20 rfl (Dy 1 rfl (.cons _ _ _ _ _ rfl (LeA.of_eq rfl) (.cons _ _ _ _ _ rfl (LeA.refl _) .nil)) (cK w .any y hsb hps) ?_)
     rintro r rfl
     refine⟨rfl,?_⟩
     refine o_ (h:=G4 21 (h:=z_ (h:=?_)))
     refine AF ?_
     exact⟨_,rfl,B1 5 0 rfl rfl rfl (by simp[Ap,Ak,Am,Bf B9,CB,WA,IB,Cb,As,AA]) (by repeat (first|exact Sub.nil|refine Sub.cons _ _ _ rfl rfl ?_|refine Sub.any _ _ ?_|refine Sub.sl _ _ _ _ _ rfl ?_|refine Sub.slnil _ _ _ rfl ?_|(apply Sub.of;(focus exact rfl);(focus exact LeA.of_eq (vb (by first|(simp[*];done)|(simp only[*,decide_true,decide_false,Bool.not_true,Bool.not_false,Bool.true_and,Bool.and_true,Bool.false_and,Bool.and_false]))));(focus exact rfl))))⟩
    have hc11:=bp hb11
    refine B6 18 (h:=B6 19 (h:=B6 20 (h:=EW 21 (h:=z_ (h:=?_)))))
    refine AF ?_
    exact⟨_,rfl,B1 5 0 rfl rfl rfl (by simp[Ap,Ak,Am,Bf B9,CB,WA,IB,Cb,As,AA]) (by repeat (first|exact Sub.nil|refine Sub.cons _ _ _ rfl rfl ?_|refine Sub.any _ _ ?_|refine Sub.sl _ _ _ _ _ rfl ?_|refine Sub.slnil _ _ _ rfl ?_|(apply Sub.of;(focus exact rfl);(focus exact LeA.of_eq (vb (by first|(simp[*];done)|(simp only[*,decide_true,decide_false,Bool.not_true,Bool.not_false,Bool.true_and,Bool.and_true,Bool.false_and,Bool.and_false]))));(focus exact rfl))))⟩
   have hc10:=bp hb10
   refine B6 8 (h:=B6 9 (h:=B6 10 (h:=B6 11 (h:=B6 12 (h:=B6 13 (h:=B6 14 (h:=B6 15 (h:=EW 16 (h:=AN 17 (h:=B6 18 (h:=B6 19 (h:=B6 20 (h:=EW 21 (h:=z_ (h:=?_)))))))))))))))
   refine AF ?_
   exact⟨_,rfl,B1 5 0 rfl rfl rfl (by simp[Ap,Ak,Am,Bf B9,CB,WA,IB,Cb,As,AA]) (by repeat (first|exact Sub.nil|refine Sub.cons _ _ _ rfl rfl ?_|refine Sub.any _ _ ?_|refine Sub.sl _ _ _ _ _ rfl ?_|refine Sub.slnil _ _ _ rfl ?_|(apply Sub.of;(focus exact rfl);(focus exact LeA.of_eq (vb (by first|(simp[*];done)|(simp only[*,decide_true,decide_false,Bool.not_true,Bool.not_false,Bool.true_and,Bool.and_true,Bool.false_and,Bool.and_false]))));(focus exact rfl))))⟩
  have hc9:=bp hb9
  refine B6 3 (h:=B6 4 (h:=B6 5 (h:=EW 6 (h:=AN 7 (h:=B6 8 (h:=B6 9 (h:=B6 10 (h:=B6 11 (h:=B6 12 (h:=B6 13 (h:=B6 14 (h:=B6 15 (h:=EW 16 (h:=AN 17 (h:=B6 18 (h:=B6 19 (h:=B6 20 (h:=EW 21 (h:=z_ (h:=?_))))))))))))))))))))
  refine AF ?_
  exact⟨_,rfl,B1 5 0 rfl rfl rfl (by simp[Ap,Ak,Am,Bf B9,CB,WA,IB,Cb,As,AA]) (by repeat (first|exact Sub.nil|refine Sub.cons _ _ _ rfl rfl ?_|refine Sub.any _ _ ?_|refine Sub.sl _ _ _ _ _ rfl ?_|refine Sub.slnil _ _ _ rfl ?_|(apply Sub.of;(focus exact rfl);(focus exact LeA.of_eq (vb (by first|(simp[*];done)|(simp only[*,decide_true,decide_false,Bool.not_true,Bool.not_false,Bool.true_and,Bool.and_true,Bool.false_and,Bool.and_false]))));(focus exact rfl))))⟩
 rintro s rfl
 refine A9 rfl (fun hb12=>?_) (fun hb12=>?_)
 ·have hc12:=bp hb12
  have k6:=UK.1 hb12
  refine w_ (a_ (h:=e_ (A4 (A8 (?_)))))
  refine Dd (r:= .v (.int .i64 (Dn w).2)) none (h5:=(by rw[hren,if_neg k1,if_neg k2,if_neg k3,if_neg k4,if_neg k5,if_pos k6];exact LeA.refl _)) (h6:=⟨rfl,rfl,?_⟩)
  rw[hren,if_neg k1,if_neg k2,if_neg k3,if_neg k4,if_neg k5,if_pos k6]
  rfl
 have hc12:=bp hb12
 have k6:¬(e2=0∧y≠x∧Ab w.s.spc.files y=true∧Gf w y=true):=fun h=>by rw[UK.2 h]at hb12;cases hb12
 refine AM (q_ (BQ ([(0,WA w cap),(1,IB w cap),(2,As f),(3,As g)]) 19 (h:=AN 0 (h:=AN 1 (h:=BA 2 (h:=AK 3 (h:=AK 4 (h:=AK 5 (h:=AE 6 (h:=AK 7 (h:=AE 8 (h:=AK 9 (h:=AE 10 (h:=AK 11 (h:=AE 12 (h:=AK 13 (h:=AE 14 (h:=?_))))))))))))))))))
 refine c_ 15 rfl (AJ (hcall) ?_)
 rintro r rfl
 refine o_ (h:=B7 16 (h:=B7 17 (h:=B7 18 (h:=?_))))
 refine c_ 19 rfl (Cs [0,1] rfl (.cons _ _ _ _ _ rfl (LeA.refl _) (.cons _ _ _ _ _ rfl (LeA.refl _) (.cons _ _ _ _ _ rfl (LeA.refl _) (.cons _ _ _ _ _ rfl (LeA.refl _) .nil)))) (by decide) (.cons _ _ _ _ _ rfl rfl (.cons _ _ _ _ _ rfl (Fa B9 _ _ _) .nil)) (UE w cap R.1 R.2.1 R.2.2) ?_)
 rintro r bc tc ⟨rfl,rfl,rfl⟩
 refine⟨rfl,_,Gj rfl (Bk w R).1 cap,?_⟩
 refine o_ (h:=?_)
 refine c_ 20 rfl (Fy rfl ?_)
 refine o_ (h:=z_ (h:=t_ (q_ (?_))))
 refine BG (fun s=>s=⟨look [(0, .bp 0 0),(5, .bp 4 0),(9, .v (.int .i64 R.2.2)),(144, .v (.bool (decide (R.2.2=0)&&decide (0<(R.2.1.length:Int)))))],⟨[WA (Bk w R).1 cap,IB (Bk w R).1 cap,As f,As g,AA x],[]⟩⟩) ?_ ?_
 ·skip
  refine AQ (m_ (h:=AW (h:=m_ (h:=?_))))
  refine At true rfl rfl (fun hb13=>?_) (fun hb13=>?_)
  ·have hc13:=bp hb13
   have hch:(Bk w R).1.r.changes=R.2.1:=by rw[Hn hc13]
   refine m_ (h:=k_ (h:=f_ (h:=f_ (h:=l_ (h:=n_ (h:=CD (h:=AZ (h:=AP (?_)))))))))
   refine AF ?_
   exact⟨_,rfl,Cl 5 0 (by simp[Ap,Ak,Am,Bf B9,CB,WA,IB,Cb,As,AA])⟩
  have hc13:=bp hb13
  refine A3 (h:=A3 (h:=A3 (h:=A3 (h:=A3 (h:=A3 (h:=A3 (h:=Ai (h:=AP (?_)))))))))
  refine AF ?_
  exact⟨_,rfl,Cl 5 0 (by simp[Ap,Ak,Am,Bf B9,CB,WA,IB,Cb,As,AA])⟩
 rintro s rfl
 refine A9 rfl (fun hb14=>?_) (fun hb14=>?_)
 ·have hc14:=bp hb14
  have h0:R.2.2=0:=of_decide_eq_true ((Bool.and_eq_true _ _).mp hb14).1
  have hfb:FlsB (Ep (Bk w R).1 0 3).s.spc.files:=by rw[Hn h0];exact(hok h0).1.b
  have hit:(Bk w R).1.r.items=w.r.items:=by rw[Hn h0]
  have hxa:(Bk w R).1.r.items[0]?=some x0:=by rw[hit];exact hx0
  have hil1:0<(Bk w R).1.r.items.length:=by rw[hit];exact hil
  have hxr:(Ep (Bk w R).1 0 3).r.items[1]?=some x1:=by
   show((Bk w R).1.r.items.modify 0 _)[1]?=_
   rw[hit,List.getElem?_modify]
   simp[hx1]
  refine BG (fun s=>s=⟨look [(0, .bp 0 0),(5, .bp 4 0),(9, .v (.int .i64 R.2.2))],⟨[WA (Ep (Bk w R).1 0 3) cap,IB (Ep (Bk w R).1 0 3) cap,As f,As g,AA x],[]⟩⟩) ?_ ?_
  ·skip
   refine AQ (m_ (h:=k_ (h:=f_ (h:=f_ (h:=l_ (h:=?_))))))
   refine A6 rfl (Cq (m:=0) rfl rfl rfl hil1 ?_)
   refine f_ (h:=?_)
   refine Kc (Ax rfl rfl rfl rfl rfl rfl (Hl B9 (x':={x0 with role:=3}) hxa (by repeat constructor) (List.cons_ne_nil _ _)) (by repeat constructor) ?_)
   refine AP (?_)
   refine AF ?_
   refine⟨_,rfl,?_⟩
   rw[d8,d9 hxa]
   exact DS 5 0
  rintro s rfl
  refine AQ (m_ (h:=l_ (h:=?_)))
  refine A6 rfl (Cs [0,1] rfl (.cons _ _ _ _ _ rfl (LeA.refl _) (.cons _ _ _ _ _ rfl (LeA.refl _) (.cons _ _ _ _ _ rfl (LeA.refl _) .nil))) (by decide) (.cons _ _ _ _ _ rfl rfl (.cons _ _ _ _ _ rfl (Fa B9 _ _ _) .nil)) (UJ (Ep (Bk w R).1 0 3) cap 1 x x1 hfb hxr) ?_)
  rintro r bc tc ⟨rfl,rfl,rfl⟩
  refine⟨rfl,_,Gj rfl (GF (Ep (Bk w R).1 0 3) 1 x) cap,?_⟩
  refine e_ (w_ (m_ (h:=a_ (h:=e_ (A4 (?_))))))
  refine Dd (r:= .v (.int .i64 (Dn w).2)) none (h5:=(by rw[hren,if_neg k1,if_neg k2,if_neg k3,if_neg k4,if_neg k5,if_neg k6,UL hb14];exact LeA.refl _)) (h6:=⟨rfl,rfl,?_⟩)
  rw[hren,if_neg k1,if_neg k2,if_neg k3,if_neg k4,if_neg k5,if_neg k6,UL hb14]
  rfl
 have hc14:=bp hb14
 refine AM (w_ (m_ (h:=a_ (h:=e_ (A4 (?_))))))
 refine Dd (r:= .v (.int .i64 (Dn w).2)) none (h5:=(by rw[hren,if_neg k1,if_neg k2,if_neg k3,if_neg k4,if_neg k5,if_neg k6,UM hb14];exact LeA.refl _)) (h6:=⟨rfl,rfl,?_⟩)
 rw[hren,if_neg k1,if_neg k2,if_neg k3,if_neg k4,if_neg k5,if_neg k6,UM hb14]
 rfl
end
end Go.Proofs.YtbglbmnhgbgelaaGreatDoor
