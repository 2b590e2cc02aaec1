/-
  Part 14 of the proof of WatchChangesP: what the statement's proof uses of the texts in wip/tpl.
-/
import Derived.Test.YtbglbmnhgbgelaaGreatDoorQc13
set_option maxRecDepth 10000
set_option maxHeartbeats 4000000
set_option linter.unusedVariables false
set_option linter.unusedSimpArgs false
namespace Go.Proofs.YtbglbmnhgbgelaaGreatDoor
open Go.RowKit
theorem U8:∀(l:List Dsc) (k:Nat),Dm k l≤k+l.length
 |[],k=>Nat.le_refl _
 |d::l,k=>by
   unfold Dm
   split
   ·have:=U8 l (k+1);simp only[List.length_cons];omega
   omega
theorem bY{α:Type}{l:List α}{j:Nat}{x:α}(h:l[j]?=some x):l.drop j=x::l.drop (j+1):=by
 obtain⟨hl,rfl⟩:=Ac.1 h
 exact List.drop_eq_getElem_cons hl
def U9(p:Prc)(x:AV):List AV:=[.v (.int .i64 p.pid), .v (.int .i64 p.ppid), .v (.int .i64 p.uid), .v (.int .i64 p.euid), .v (.int .i64 p.gid), .v (.int .i64 p.egid), .v (.int .i64 p.auid), .v (.int .i64 p.ses), .v (.int .i64 p.cwd.1), .v (.int .i64 p.cwd.2), .v (.string p.comm), .v (.string p.exe),x, .v (.bool p.audited)]
theorem bZ(p:Prc)(rows:List (List AV))(g:Option Nat)(l:List Dsc)(h:rows=l.map Hk):LeA (.agg (U9 p (.sl 4 rows g))) (.agg (BV {p with opens:=l})):=by
 subst h
 unfold U9 BV
 repeat (first|exact LeA.refl _|exact LeA.tok _ _ _|refine LeA.agg ?_|exact LeL.nil|refine LeL.cons ?_ ?_)
def NJ(R:Tab×Int×Int):AV:= .tup [.agg (Bw R.1), .v (.int .i64 R.2.1), .v (.int .i64 R.2.2)]
theorem UA(n e:Int):LeA (.tup [.agg Db, .v (.int .i64 n), .v (.int .i64 e)]) (NJ (Cz,n,e)):=(by repeat (first|exact LeA.refl _|exact LeA.nil _|exact LeL.refl _|refine LeA.agg ?_|refine LeA.tup ?_|exact LeL.nil|refine LeL.cons ?_ ?_|exact LeA.any _))
def NK(R:Syst×Int):AV:= .tup [.agg (D1 R.1), .v (.int .i64 R.2)]
def Cd(w:Wrk):AV:= .sl 8 (w.found.map Au) none
section
theorem UB(t:Tab)(pid:Int)(a:A8)(flags:Int)(ht:TabB t):AFn Tryz.prog 151 [.agg (Bw t), .v (.int .i64 pid), .agg (AA a), .v (.int .i64 flags)] (fun r=>r=NJ (EJ t pid a flags)):=by
 have h8:=ZK ht pid
 have hol:((Ax t pid).opens.map Hk).length=(Ax t pid).opens.length:=List.length_map _
 have hfl:Dm 0 (Ax t pid).opens≤(Ax t pid).opens.length:=by have:=U8 (Ax t pid).opens 0;omega
 refine enter Tryz.func151 rfl rfl rfl rfl rfl 0 rfl ?_
 refine w_ (b_ (h:=b_ (h:=AY (h:=a_ (h:=a_ (h:=e_ (w_ (l_ (h:=m_ (h:=?_))))))))))
 refine A4 rfl (AK (Td t pid ht) ?_)
 rintro r rfl
 refine m_ (h:=x_ (h:=x_ (h:=AY (h:=s_ (h:=a_ (h:=e_ (q_ (w_ (m_ (h:=BR (h:=e_ (?_))))))))))))
 refine A7 rfl (fun hb1=>?_) (fun hb1=>?_)
 ·have hc1:=bp hb1
  refine w_ (AU (h:=s_ (h:=a_ (h:=a_ (h:=e_ (A6 (A9 (?_))))))))
  refine Aw (r:=NJ (EJ t pid a flags)) none (h5:=?_) (h6:=⟨rfl,rfl,rfl⟩)
  rw[EJ,if_pos (by simpa using hc1)]
  exact UA _ _
 have hc1:=bp hb1
 have hhas:Da t pid=true:=by simpa using hc1
 refine AM (q_ (w_ (f_ (h:=l_ (h:=n_ (h:=Fj (h:=e_ (?_))))))))
 refine A7 rfl (fun hb2=>?_) (fun hb2=>?_)
 ·have hc2:=bp hb2
  refine w_ (AU (h:=s_ (h:=a_ (h:=a_ (h:=e_ (A6 (A9 (?_))))))))
  refine Aw (r:=NJ (EJ t pid a flags)) none (h5:=?_) (h6:=⟨rfl,rfl,rfl⟩)
  rw[EJ,if_neg (by simp[hhas]),if_pos (by omega)]
  exact UA _ _
 have hc2:=bp hb2
 refine AM (w_ (a_ (h:=e_ (?_))))
 refine B8 (fun s=>s=⟨look [(3, .v (.int .i64 flags)),(4, .bp 0 0),(6, .bp 1 0),(8, .bp 2 0),(11, .bp 3 0),(13, .v (.int .i64 (Dm 0 (Ax t pid).opens:Nat)))],⟨[Bw t,AA a,Db,BV (Ax t pid)],[]⟩⟩) ?_ ?_
 ·skip
  refine Al (?_)
  refine Bd (fun m s=>∃j:Nat,j≤(Ax t pid).opens.length∧m=(Ax t pid).opens.length - j∧Dm 0 (Ax t pid).opens=Dm j ((Ax t pid).opens.drop j)∧s=⟨look [(3, .v (.int .i64 flags)),(4, .bp 0 0),(6, .bp 1 0),(8, .bp 2 0),(11, .bp 3 0),(13, .v (.int .i64 (j:Int)))],⟨[Bw t,AA a,Db,BV (Ax t pid)],[]⟩⟩) ((Ax t pid).opens.length) ((wk 4 0)) (⟨0,Nat.zero_le _,rfl,rfl,rfl⟩) ?_
  rintro m s ⟨j,hj,rfl,hfd,rfl⟩
  refine q_ (w_ (m_ (h:=f_ (h:=l_ (h:=n_ (h:=BH (h:=m_ (h:=?_))))))))
  refine Ar true rfl rfl (fun hb3=>?_) (fun hb3=>?_)
  ·have hc3:=bp hb3
   obtain⟨hlt,d,hy,hrow, -⟩:=CX Hk hc3
   have hdr:=bY hy
   refine f_ (h:=l_ (h:=m_ (h:=i_ (h:=f_ (h:=l_ (h:=m_ (h:=AW (h:=AX (h:=e_ (?_))))))))))
   refine A7 rfl (fun hb4=>?_) (fun hb4=>?_)
   ·have hc4:=bp hb4
    have heq:d.fd=(j:Int):=by simpa using hc4
    refine AM (Al (AP (m_ (h:=B2 (h:=a_ (h:=AO (Ay (?_))))))))
    refine AE ?_
    refine⟨_,_,?_,⟨j+1,by omega,rfl,by rw[hfd,hdr,Dm,if_pos heq],rfl⟩,(wk 4 0)⟩
    omega
   have hc4:=bp hb4
   have hend:Dm 0 (Ax t pid).opens=j:=by rw[hfd,hdr,Dm,if_neg (by simpa using hc4)]
   refine BK (Aj (Aj (BL (?_))))
   refine AE ?_
   refine⟨_,rfl,?_⟩
   rw[hend]
   exact(wk 4 0)
  have hc3:=bp hb3
  have hend:Dm 0 (Ax t pid).opens=j:=by rw[hfd,Cl Hk hj hc3,List.drop_length];rfl
  refine A3 (h:=A3 (h:=A3 (h:=A3 (h:=A3 (h:=A3 (h:=A3 (h:=A3 (h:=Af (h:=e_ (Fh (h:=BK (Aj (Aj (BL (?_)))))))))))))))
  refine AE ?_
  refine⟨_,rfl,?_⟩
  rw[hend]
  exact(wk 4 0)
 rintro s rfl
 refine w_ (f_ (h:=l_ (h:=m_ (h:=?_))))
 refine A4 rfl (V5 (k:=Dm 0 (Ax t pid).opens) rfl rfl rfl (by omega) ?_)
 first|refine A4 rfl (EM rfl rfl rfl (by simp;omega) (by repeat constructor) ?_)|refine A4 rfl (GQ rfl rfl (by simp;omega) (by repeat constructor) ?_)
 refine a_ (h:=e_ (w_ (m_ (h:=m_ (h:=l_ (h:=m_ (h:=AU (h:=Bg (h:=?_)))))))))
 refine A4 rfl (EM rfl rfl rfl (by simp;omega) (by repeat constructor) ?_)
 refine a_ (h:=e_ (w_ (m_ (h:=f_ (h:=l_ (h:=m_ (h:=?_)))))))
 refine A4 rfl (Np (l:=Dm 0 (Ax t pid).opens) rfl rfl rfl (by omega) ?_)
 refine A4 rfl (EM rfl rfl rfl (by simp;omega) (by repeat constructor) ?_)
 refine f_ (h:=s_ (h:=e_ (w_ (l_ (h:=?_)))))
 refine A4 rfl (EN (y:= .agg (BV {Ax t pid with opens:=K4 (Ax t pid).opens (Dm 0 (Ax t pid).opens) ⟨(Dm 0 (Ax t pid).opens:Nat),a,flags⟩})) (G4 rfl rfl rfl ⟨rfl,rfl⟩) (bZ _ _ _ _ (by simp[K4,Hk];rfl)) ?_)
 refine A4 rfl (AK (ZP t {Ax t pid with opens:=K4 (Ax t pid).opens (Dm 0 (Ax t pid).opens) ⟨(Dm 0 (Ax t pid).opens:Nat),a,flags⟩} ht (ZL hhas) (by simp[K4];omega)) ?_)
 rintro r rfl
 refine m_ (h:=s_ (h:=a_ (h:=a_ (h:=e_ (A6 (?_))))))
 refine AD ?_
 rw[EJ,if_neg (by simp[hhas]),if_neg (by omega)];rfl
theorem cA(a:A8):AFn Tryz.prog 85 [.agg (AA a)] (fun r=>r= .agg (Bw (Ph a))):=by
 refine enter Tryz.func85 rfl rfl rfl rfl rfl 0 rfl ?_
 refine w_ (b_ (h:=AY (h:=e_ (w_ (l_ (h:=?_))))))
 refine A4 rfl (Fk (y:= .agg (BV ⟨1,0,0,0,0,0,4294967295,4294967295,a,⟨#[105,110,105,116]⟩,⟨#[47,105,110,105,116]⟩,[],true⟩)) (DF ⟨rfl,rfl⟩) ?_)
 refine Bg (h:=AU (h:=s_ (h:=e_ (A6 (?_)))))
 refine AD ?_
 rfl
theorem cB(n:Int):AFn Tryz.prog 44 [.v (.int .i64 n)] (fun r=>r=NK (GK n)):=by
 refine enter Tryz.func44 rfl rfl rfl rfl rfl 0 rfl ?_
 refine w_ (AY (h:=a_ (h:=e_ (w_ (m_ (h:=?_))))))
 refine A4 rfl (AK (RP n) ?_)
 rintro r rfl
 refine m_ (h:=x_ (h:=x_ (h:=AY (h:=s_ (h:=a_ (h:=e_ (q_ (w_ (m_ (h:=BN (h:=e_ (?_))))))))))))
 refine A7 rfl (fun hb1=>?_) (fun hb1=>?_)
 ·have hc1:=bp hb1
  refine w_ (AU (h:=m_ (h:=s_ (h:=a_ (h:=e_ (A6 (A9 (?_))))))))
  refine Aw (r:=NK (GK n)) none (h5:=?_) (h6:=⟨rfl,rfl,rfl⟩)
  rw[GK,if_pos (by simpa using hc1)]
  exact(by repeat (first|exact LeA.refl _|exact LeA.nil _|exact LeL.refl _|refine LeA.agg ?_|refine LeA.tup ?_|exact LeL.nil|refine LeL.cons ?_ ?_|exact LeA.any _))
 have hc1:=bp hb1
 refine AM (q_ (BM ([(1,Ah (Dz n).1)]) 7 (h:=AF 0 (h:=EP 1 (h:=EP 2 (h:=?_))))))
 refine c_ 3 rfl (AK (cA (0,1)) ?_)
 rintro r rfl
 refine o_ (h:=EP 4 (h:=?_))
 refine Az 5 rfl (Av rfl rfl rfl rfl rfl rfl (by repeat constructor) (by repeat constructor) ?_)
 refine o_ (h:=B6 6 (h:=z_ (h:=t_ (A6 (?_)))))
 refine Aw (r:=NK (GK n)) none (h5:=?_) (h6:=⟨rfl,rfl,rfl⟩)
 rw[GK,if_neg (by simpa using hc1)]
 exact(by repeat (first|exact LeA.refl _|exact LeA.nil _|exact LeL.refl _|refine LeA.agg ?_|refine LeA.tup ?_|exact LeL.nil|refine LeL.cons ?_ ?_|exact LeA.any _))
theorem NL(s:Syst)(hs:SpcB s.spc)(ht:TabB s.tab):AFn Tryz.prog 64 [.agg (D1 s)] (fun r=>r= .agg (D1 s)):=by
 refine enter Tryz.func64 rfl rfl rfl rfl rfl 0 rfl ?_
 refine w_ (b_ (h:=AY (h:=e_ (q_ (BM ([(0,D1 s)]) 7 (h:=AJ 0 (h:=?_)))))))
 refine AF 1 (h:=?_)
 refine AJ 3 (h:=?_)
 refine AF 4 (h:=?_)
 refine c_ 2 rfl (AK (Zr s.spc hs) ?_)
 rintro r rfl
 refine o_ (h:=?_)
 refine c_ 5 rfl (AK (ZN s.tab ht) ?_)
 rintro r rfl
 refine o_ (h:=EP 6 (h:=?_))
 refine Az 7 rfl (Av rfl rfl rfl rfl rfl rfl (by repeat constructor) (by repeat constructor) ?_)
 refine o_ (h:=z_ (h:=t_ (A6 (?_))))
 refine AD ?_
 rfl
theorem cC(s:Spc)(given:AB)(perm:Int)(f:Fnd)(hs:SpcB s):AFn Tryz.prog 112 [.agg (Ap s), .v (.string given), .v (.int .i64 perm), .agg (Au f)] (fun r=>r= .agg (CL (Lc s given perm f))):=by
 refine enter Tryz.func112 rfl rfl rfl rfl rfl 0 rfl ?_
 refine w_ (b_ (h:=b_ (h:=AY (h:=e_ (w_ (f_ (h:=l_ (h:=f_ (h:=l_ (h:=?_))))))))))
 refine A4 rfl (AK (DW s.files f.file hs.files) ?_)
 rintro r rfl
 refine m_ (h:=x_ (h:=x_ (h:=AY (h:=s_ (h:=a_ (h:=e_ (w_ (m_ (h:=f_ (h:=l_ (h:=f_ (h:=l_ (h:=f_ (h:=l_ (h:=f_ (h:=l_ (h:=f_ (h:=l_ (h:=f_ (h:=l_ (h:=f_ (h:=l_ (h:=f_ (h:=?_))))))))))))))))))))))))
 refine l_ (h:=m_ (h:=AU (h:=s_ (h:=e_ (A6 (?_))))))
 refine AD ?_
 rfl
theorem NM(w:Wrk)(its:AV)(a:A8)(want:Int)(hs:SpcB w.s.spc):AFn Tryz.prog 149 [.fp (Ci w (Cd w) its), .agg (AA a), .v (.int .i64 want)] (fun r=>r= .v (.bool (D9 w a want))):=by
 refine enter Tryz.func149 rfl rfl rfl rfl rfl 0 rfl ?_
 refine w_ (b_ (h:=a_ (h:=e_ (q_ (BM ([(0,AA a)]) 14 (h:=AN 0 (h:=BC 1 (h:=AJ 2 (h:=AJ 3 (h:=AJ 4 (h:=AF 5 (h:=AF 6 (h:=?_)))))))))))))
 refine Dg 7 11 rfl rfl ?_ ?_
 ·refine AK (DW w.s.spc.files a hs.files) ?_
  rintro r rfl
  refine o_ (h:=?_)
  refine AN 8 (h:=B1 9 (h:=B1 10 (h:=?_)))
  refine c_ 11 rfl (Bz (by repeat constructor) ?_)
  refine o_ (h:=?_)
  refine Az 12 rfl (Av rfl rfl rfl rfl rfl rfl (by repeat constructor) (by repeat constructor) ?_)
  refine o_ (h:=B6 13 (h:=z_ (h:=t_ (q_ (DV 14 (h:=AF 0 (h:=AN 1 (h:=BC 2 (h:=AJ 3 (h:=AJ 4 (h:=AF 5 (h:=AN 6 (h:=BC 7 (h:=AJ 8 (h:=AJ 9 (h:=AF 10 (h:=AN 11 (h:=?_))))))))))))))))))
  refine c_ 12 rfl (AK (Tf (AT w.s.spc.files a) w.p.euid w.p.egid want) ?_)
  rintro r rfl
  refine o_ (h:=B6 13 (h:=z_ (h:=t_ (A6 (?_)))))
  refine AD ?_
  rfl
 refine Bz (by repeat constructor) ?_
 refine o_ (h:=?_)
 refine c_ 7 rfl (AK (DW w.s.spc.files a hs.files) ?_)
 rintro r rfl
 refine o_ (h:=AN 8 (h:=B1 9 (h:=B1 10 (h:=?_))))
 refine Az 12 rfl (Av rfl rfl rfl rfl rfl rfl (by repeat constructor) (by repeat constructor) ?_)
 refine o_ (h:=B6 13 (h:=z_ (h:=t_ (q_ (DV 14 (h:=AF 0 (h:=AN 1 (h:=BC 2 (h:=AJ 3 (h:=AJ 4 (h:=AF 5 (h:=AN 6 (h:=BC 7 (h:=AJ 8 (h:=AJ 9 (h:=AF 10 (h:=AN 11 (h:=?_))))))))))))))))))
 refine c_ 12 rfl (AK (Tf (AT w.s.spc.files a) w.p.euid w.p.egid want) ?_)
 rintro r rfl
 refine o_ (h:=B6 13 (h:=z_ (h:=t_ (A6 (?_)))))
 refine AD ?_
 rfl
theorem cF(w:Wrk)(its:AV)(i:Nat)(f:Fnd)(hs:SpcB w.s.spc)(hf:w.found[i]?=some f):AFn Tryz.prog 153 [.fp (Ci w (Cd w) its), .v (.int .i64 (i:Int))] (fun r=>r= .v (.bool (Ai w.s.spc.files f.file))):=by
 have hrow:(w.found.map Au)[i]?=some (Au f):=by rw[List.getElem?_map,hf];rfl
 refine enter Tryz.func153 rfl rfl rfl rfl rfl 0 rfl ?_
 refine w_ (a_ (h:=e_ (q_ (DV 16 (h:=AN 0 (h:=BC 1 (h:=AJ 2 (h:=AJ 3 (h:=AJ 4 (h:=AF 5 (h:=AN 6 (h:=BC 7 (h:=AJ 8 (h:=AF 9 (h:=AN 10 (h:=DN 11 (h:=AJ 12 (h:=AF 13 (h:=?_)))))))))))))))))))
 refine c_ 14 rfl (AK (Fl w.s.spc.files f.file hs.files) ?_)
 rintro r rfl
 refine o_ (h:=B6 15 (h:=z_ (h:=t_ (A6 (?_)))))
 refine AD ?_
 rfl
theorem cG(w:Wrk)(its:AV)(a:A8)(hs:SpcB w.s.spc)(hp:w.s.tab.ps.length≤1000):AFn Tryz.prog 156 [.fp (Ci w (Cd w) its), .agg (AA a)] (fun r=>r= .v (.bool (Ge w a))):=by
 refine enter Tryz.func156 rfl rfl rfl rfl rfl 0 rfl ?_
 refine w_ (b_ (h:=a_ (h:=e_ (q_ (q_ (DV 7 (h:=AN 0 (h:=BC 1 (h:=AJ 2 (h:=AJ 3 (h:=AF 4 (h:=AF 5 (h:=?_)))))))))))))
 refine c_ 6 rfl (AK (RK w.s.spc a hs) ?_)
 rintro r rfl
 refine o_ (h:=z_ (h:=t_ (?_)))
 refine A7 rfl (fun hb1=>?_) (fun hb1=>?_)
 ·have hc1:=bp hb1
  refine w_ (a_ (h:=e_ (A6 (A9 (?_)))))
  refine AD ?_
  first|(exfalso;first|contradiction|omega)|(exact vb (by simp[Ge, *]))
 have hc1:=bp hb1
 refine AM (q_ (w_ (a_ (h:=e_ (Al (?_))))))
 refine Bd (fun m s=>∃j:Nat,j≤w.s.tab.ps.length∧m=w.s.tab.ps.length - j∧(∀i y,i<j→w.s.tab.ps[i]?=some y→decide (y.cwd=a)=false)∧s=⟨look [(0, .fp (Ci w (Cd w) its)),(3, .bp 0 0),(5, .v (.int .i64 (j:Int)))],⟨[AA a],[]⟩⟩) (w.s.tab.ps.length) ((wk 1 0)) (⟨0,Nat.zero_le _,rfl,fun i y hi=>by omega,rfl⟩) ?_
 rintro m s ⟨j,hj,rfl,ha,rfl⟩
 refine q_ (w_ (m_ (h:=m_ (h:=k_ (h:=f_ (h:=f_ (h:=f_ (h:=l_ (h:=n_ (h:=BH (h:=e_ (?_))))))))))))
 refine A7 rfl (fun hb2=>?_) (fun hb2=>?_)
 ·have hc2:=bp hb2
  obtain⟨hlt,p,hy,hrow, -⟩:=CX BV hc2
  refine AM (q_ (Al (q_ (DV 12 (h:=AN 0 (h:=BC 1 (h:=AJ 2 (h:=AJ 3 (h:=AJ 4 (h:=AF 5 (h:=AN 6 (h:=DN 7 (h:=AJ 8 (h:=AF 9 (h:=AF 10 (h:=?_))))))))))))))))
  refine F0 (i:=11) rfl (Ei rfl rfl (by repeat constructor) (by repeat constructor) (fun w=>Jh _ _ _ _ w) (by kernel_rfl) ⟨rfl,rfl⟩) ?_
  refine z_ (h:=t_ (?_))
  refine A7 rfl (fun hb3=>?_) (fun hb3=>?_)
  ·have hc3:=bp hb3
   have hany:(w.s.tab.ps.any fun p=>decide (p.cwd=a))=true:=OP hy (decide_eq_true hc3)
   refine w_ (a_ (h:=e_ (A6 (Ag (A9 (A9 (Ag (A9 (?_)))))))))
   refine AD ?_
   first|(exfalso;first|contradiction|omega)|(exact vb (by simp[Ge, *]))
  have hc3:=bp hb3
  have hne:decide (p.cwd=a)=false:=decide_eq_false hc3
  refine B4 (Ay (t_ (AP (m_ (h:=B2 (h:=a_ (h:=AO (?_))))))))
  refine AE ?_
  refine⟨_,_,?_,⟨j+1,by omega,rfl,EQ hy ha hne,rfl⟩,(wk 1 0)⟩
  omega
 have hc2:=bp hb2
 have e:=Cl BV hj hc2
 have hany:(w.s.tab.ps.any fun p=>decide (p.cwd=a))=false:=OQ (by rw[←e];exact ha)
 refine BK (Aj (Aj (BL (t_ (w_ (a_ (h:=e_ (A6 (?_)))))))))
 refine AD ?_
 first|(exfalso;first|contradiction|omega)|(exact vb (by simp[Ge, *]))
end
theorem cH{α:Type}{sz:Nat}{F:α→List AV}(hF:RowF sz F){l:List α}{j cap:Nat}{x x':α}(h:l.length=j):SetAt (LB sz F (l++[x]) cap) (0+j * sz) (F x') (LB sz F (l++[x']) cap):=by
 have h1:(l++[x])[j]?=some x:=by rw[←h];simp
 have h2:(l++[x]).set j x'=l++[x']:=by rw[←h];simp
 have key:=TT hF (cap:=cap) (x':=x') h1
 rwa [h2]at key
theorem cJ{is:List Nat}:∀i,i<1→(0::is)[i]?=some i:=by
 intro i hi
 obtain rfl:i=0:=by omega
 rfl
theorem cK{f:Nat→Option AV}{bx:List (List AV)}{tk:List CH}{N:Dim}(i:Nat){row row':List AV}(hi:bx[i]?=some row)(hle:LeL row row'):Weak N ⟨f,⟨bx,tk⟩⟩ ⟨f,⟨bx.set i row',tk⟩⟩:=by
 rintro E a w ⟨G,h1,h2,h3⟩
 exact⟨G,h1.boxLe hi (fun us hu=>hle G w us hu),h2,h3⟩
theorem cL(w:Wrk)(rows:List (List AV))(g:Option Nat)(I:AV):LeL (Ci w (.sl 8 rows g) I) (Ci w (.sl 8 rows none) I):=by
 unfold Ci
 repeat (first|exact LeL.nil|refine LeL.cons (LeA.refl _) ?_|refine LeL.cons (LeA.tok _ _ _) ?_)
theorem CF{n m:Nat}(w:Wrk)(F I:AV):Am n m (Ci w F I)=(Ao n m F&&Ao n m I):=by
 simp[Ci,Am,Ao]
def E5(l:List Fnd):AV:= .sl 8 (l.map Au) (some 0)
def K9(w:Wrk)(e:Int)(j:Nat):List Itm×List Fnd×Int:=Gb w.s.spc w.p.cwd (CU w.c) ((w.c.paths.zip (CK w.c)).take j) e
def LK(w:Wrk)(e:Int):List Itm×List Fnd×Int:=Gb w.s.spc w.p.cwd (CU w.c) (w.c.paths.zip (CK w.c)) e
theorem cM{w:Wrk}{e:Int}{j:Nat}{g:AB×Int}(h:(w.c.paths.zip (CK w.c))[j]?=some g):K9 w e (j+1)=EV w.s.spc w.p.cwd (CU w.c) (K9 w e j) g:=by
 unfold K9 Gb
 rw[List.take_add_one,h,List.foldl_append]
 rfl
theorem cO{w:Wrk}{e:Int}{j:Nat}(h:(w.c.paths.zip (CK w.c)).length≤j):K9 w e j=LK w e:=by
 unfold K9 LK
 rw[List.take_of_length_le h]
def WA(w:Wrk)(cap:Nat):List AV:=Ci w (Cd w) (.bs 1 0 13 w.r.items.length cap)
def IB(w:Wrk)(cap:Nat):List AV:=LB 13 CL w.r.items cap
theorem Gi{bx:List (List AV)}{a b:List AV}{rest:List (List AV)}(hb:bx=a::b::rest)(w:Wrk)(cap:Nat):Back bx [0,1] [WA w cap,IB w cap] (WA w cap::IB w cap::rest):=by
 subst hb
 have:=Pn (bx:=a::b::rest) (is:=[0,1]) (bc:=[WA w cap,IB w cap]) (by simp) (by simp) (by simp)
 have e1:Cs (DU [0,1] (a::b::rest).length) (WA w cap)=WA w cap:=rfl
 have e2:Cs (DU [0,1] (a::b::rest).length) (IB w cap)=IB w cap:=Fc BB _ _ _
 have hb:DA (a::b::rest) (DU [0,1] (a::b::rest).length) [0,1] [WA w cap,IB w cap]=WA w cap::IB w cap::rest:=by
  unfold DA
  rw[e1]
  unfold DA
  rw[e2]
  simp[DA]
 rw[hb]at this
 exact this
section
theorem cQ(w:Wrk)(e:Int)(hv:SpcV w.s.spc)(hm:w.s.spc.mounts.length≤1000)(hp:w.c.paths.length=(CK w.c).length)(hpl:w.c.paths.length≤1000)(h0:0<w.c.paths.length)(hps:∀p∈w.c.paths,p.size≤100000):
    ACall Tryz.prog 66 [.bp 0 0, .v (.int .i64 e)] [Ci w (.v (.slice none 0 0)) (.v (.slice none 0 0))] (fun r b t=>t=[]∧∃cap,(LK w e).1.length≤cap∧r= .v (.int .i64 (LK w e).2.2)∧b=[Ci w (.sl 8 ((LK w e).2.1.map Au) none) (.bs 1 0 13 (LK w e).1.length cap),LB 13 CL (LK w e).1 cap]):=by
 have hsb:=hv.b hm
 have hsn:=hv.n hm
 refine enter Tryz.func66 rfl rfl rfl rfl rfl 2 rfl ?_
 refine w_ (a_ (h:=e_ (w_ (m_ (h:=k_ (h:=f_ (h:=l_ (h:=?_))))))))
 refine A4 rfl (AK (ZX w.c) ?_)
 rintro r rfl
 refine a_ (h:=e_ (?_))
 refine B8 (fun s=>∃cap,(LK w e).1.length≤cap∧s=⟨look [(1, .v (.int .i64 (LK w e).2.2))],⟨[Ci w (.sl 8 ((LK w e).2.1.map Au) none) (.bs 1 0 13 (LK w e).1.length cap),LB 13 CL (LK w e).1 cap],[]⟩⟩) ?_ ?_
 ·skip
  refine w_ (a_ (h:=e_ (Al (?_))))
  refine O0 0 26 113 8 rfl rfl (by repeat constructor) (by repeat constructor) (by repeat constructor) ?_
  refine Bd (fun m s=>∃(j:Nat) (X:List Itm×List Fnd×Int) (Y:AV) (Z:List (List AV)),j≤w.c.paths.length∧m=w.c.paths.length - j∧K9 w e j=X∧X.1.length=j∧X.2.1.length=j∧((Y= .v (.slice none 0 0)∧Z=[]∧X.1=[])∨∃cap,X.1.length≤cap∧Y= .bs 1 0 13 X.1.length cap∧Z=[LB 13 CL X.1 cap])∧s=⟨look [(0, .bp 0 0),(1, .v (.int .i64 X.2.2)),(5, .sl 1 ((CK w.c).map Bx) none),(6, .v (.int .i64 (j:Int)))],⟨Ci w (E5 X.2.1) Y::Z,[(113,8,X.2.1.map Au)]⟩⟩) (w.c.paths.length) ((wk 1 1)) (⟨0,([],[],e),_,_,Nat.zero_le _,rfl,rfl,rfl,rfl, .inl ⟨rfl,rfl,rfl⟩,rfl⟩) ?_
  rintro m s ⟨j,X,Y,Z,hj,rfl,hX,hl1,hl2,hYZ,rfl⟩
  refine q_ (w_ (m_ (h:=m_ (h:=k_ (h:=f_ (h:=f_ (h:=l_ (h:=n_ (h:=BH (h:=e_ (?_)))))))))))
  refine A7 rfl (fun hb1=>?_) (fun hb1=>?_)
  ·have hc1:=bp hb1
   obtain⟨hlt,y,hy,hrow, -⟩:=CX Ew hc1
   obtain⟨pj,hpj⟩:∃z,(CK w.c)[j]?=some z:=⟨_,BA (by omega)⟩
   have hrow2:((CK w.c).map Bx)[j]?=some (Bx pj):=by rw[List.getElem?_map,hpj];rfl
   have hz:(w.c.paths.zip (CK w.c))[j]?=some (y,pj):=List.getElem?_zip_eq_some.2 ⟨hy,hpj⟩
   have hk:=cM (e:=e) hz
   rw[hX]at hk
   have hys:=hps y (Ak hy)
   refine AM (q_ (Al (?_)))
   refine B8 (fun s=>∃cap,X.1.length+1≤cap∧s=⟨look [(0, .bp 0 0),(1, .v (.int .i64 X.2.2)),(5, .sl 1 ((CK w.c).map Bx) none),(6, .v (.int .i64 (j:Int)))],⟨[Ci w (E5 X.2.1) (.bs 1 0 13 (X.1.length+1) cap),LB 13 CL (X.1++[Et y pj]) cap],[(113,8,X.2.1.map Au)]⟩⟩) ?_ ?_
   ·rcases hYZ with⟨rfl,rfl,hX0⟩|⟨cap,hcp,rfl,rfl⟩
    ·skip
     refine BM ([(0,Ci w (E5 X.2.1) (.v (.slice none 0 0)))]) 24 (h:=AN 0 (h:=AN 1 (h:=BC 2 (h:=AJ 3 (h:=AJ 4 (h:=AF 5 (h:=AN 6 (h:=BC 7 (h:=AJ 8 (h:=AJ 9 (h:=AF 10 (h:=AN 11 (h:=DN 12 (h:=AF 13 (h:=AN 14 (h:=AN 15 (h:=DN 16 (h:=AF 17 (h:=?_)))))))))))))))))))
     refine Bn 18 rfl (fun _ hS=>EN (y:= .agg (CL (Et y pj))) (DF ⟨rfl,rfl⟩) (LeA.refl _) ⟨rfl,rfl⟩) ?_
     refine Je 19 (h:=?_)
     refine c_ 20 rfl (MS rfl rfl HQ (by omega) (by omega) ?_)
     rintro cap2 k bx2 hcp hs
     rw[show CA (.agg (CL (Et y pj)))++List.replicate ((cap2 - 1) * 13) AV.any=LB 13 CL [Et y pj] cap2 from TU BB _ cap2]at hs
     obtain⟨rfl,rfl⟩:k=1∧bx2=[_,_]:=hs.eq
     refine o_ (h:=?_)
     refine BC 21 (h:=AJ 22 (h:=AJ 23 (h:=?_)))
     refine Az 24 rfl (Av rfl rfl rfl rfl rfl rfl (by repeat constructor) (by repeat constructor) ?_)
     refine o_ (h:=z_ (h:=?_))
     refine AE ?_
     refine⟨_,⟨cap2,by rw[hX0];exact hcp,rfl⟩,?_⟩
     rw[hX0]
     exact Bl 2 1 (by simp[Aq,Am,Ao,Bh BB,CF,E5])
    skip
    refine BM ([(0,Ci w (E5 X.2.1) (.bs 1 0 13 X.1.length cap))]) 24 (h:=AN 0 (h:=AN 1 (h:=BC 2 (h:=AJ 3 (h:=AJ 4 (h:=AF 5 (h:=AN 6 (h:=BC 7 (h:=AJ 8 (h:=AJ 9 (h:=AF 10 (h:=AN 11 (h:=DN 12 (h:=AF 13 (h:=AN 14 (h:=AN 15 (h:=DN 16 (h:=AF 17 (h:=?_)))))))))))))))))))
    refine Bn 18 rfl (fun _ hS=>EN (y:= .agg (CL (Et y pj))) (DF ⟨rfl,rfl⟩) (LeA.refl _) ⟨rfl,rfl⟩) ?_
    refine Je 19 (h:=?_)
    refine c_ 20 rfl (Kg rfl rfl rfl (by rw[Pk BB hcp];omega) HQ (by omega) (by omega) ?_ ?_)
    ·rintro hg row2 bx2 hs hb
     obtain rfl:=TW BB hs hg
     obtain rfl:bx2=[_,_]:=hb.one.2
     refine o_ (h:=?_)
     refine BC 21 (h:=AJ 22 (h:=AJ 23 (h:=?_)))
     refine Az 24 rfl (Av rfl rfl rfl rfl rfl rfl (by repeat constructor) (by repeat constructor) ?_)
     refine o_ (h:=z_ (h:=?_))
     refine AE ?_
     exact⟨_,⟨cap,hg,rfl⟩,Bl 2 1 (by simp[Aq,Am,Ao,Bh BB,CF,E5])⟩
    rintro hg cap3 k bx2 hcp3 hs
    rw[show((LB 13 CL X.1 cap).drop 0).take (X.1.length * 13)++CA (.agg (CL (Et y pj)))++List.replicate ((cap3 - (X.1.length+1)) * 13) AV.any=LB 13 CL (X.1++[Et y pj]) cap3 from TV BB X.1 _ cap cap3]at hs
    obtain⟨rfl,rfl⟩:k=2∧bx2=[_,_,_]:=hs.eq
    refine o_ (h:=?_)
    refine BC 21 (h:=AJ 22 (h:=AJ 23 (h:=?_)))
    refine Az 24 rfl (Av rfl rfl rfl rfl rfl rfl (by repeat constructor) (by repeat constructor) ?_)
    refine o_ (h:=z_ (h:=?_))
    refine AE ?_
    first|exact⟨_,⟨cap,hg,rfl⟩,Bl 2 1 (by simp[Aq,Am,Ao,Bh BB,CF,E5])⟩|exact⟨_,⟨cap3,hcp3,rfl⟩,Em [0,2] cJ (by decide) (.cons _ _ _ _ _ rfl rfl (.cons _ _ _ _ _ rfl (JN BB _ _ _) .nil)) (by repeat (first|exact SubK.nil|refine SubK.cons _ _ _ _ rfl (LeA.refl _) ?_))⟩
   rintro s ⟨cap,hcp,rfl⟩
   refine w_ (AY (h:=e_ (?_)))
   refine B8 (fun s=>∃(it:Itm) (F:Fnd) (e2:Int),EV w.s.spc w.p.cwd (CU w.c) X (y,pj)=(X.1++[it],X.2.1++[F],e2)∧s=⟨look [(0, .bp 0 0),(1, .v (.int .i64 e2)),(5, .sl 1 ((CK w.c).map Bx) none),(6, .v (.int .i64 (j:Int))),(7, .bp 2 0)],⟨[Ci w (E5 X.2.1) (.bs 1 0 13 (X.1.length+1) cap),LB 13 CL (X.1++[it]) cap,Au F],[(113,8,X.2.1.map Au)]⟩⟩) ?_ ?_
   ·skip
    refine w_ (m_ (h:=AW (h:=e_ (?_))))
    refine A7 rfl (fun hb2=>?_) (fun hb2=>?_)
    ·have hc2:=bp hb2
     have he0:X.2.2=0:=by simpa using hc2
     refine q_ (BM ([(0,Ci w (E5 X.2.1) (.bs 1 0 13 (X.1.length+1) cap)),(1,LB 13 CL (X.1++[Et y pj]) cap)]) 29 (h:=AN 0 (h:=BC 1 (h:=AJ 2 (h:=AJ 3 (h:=AF 4 (h:=AN 5 (h:=BC 6 (h:=AJ 7 (h:=AJ 8 (h:=AF 9 (h:=AN 10 (h:=BC 11 (h:=AJ 12 (h:=AJ 13 (h:=AF 14 (h:=AN 15 (h:=DN 16 (h:=AF 17 (h:=AN 18 (h:=BC 19 (h:=AJ 20 (h:=AF 21 (h:=?_))))))))))))))))))))))))
     refine c_ 22 rfl (AK (ZY w.c) ?_)
     rintro r rfl
     refine o_ (h:=?_)
     refine c_ 23 rfl (AK (U7 w.s.spc w.p.cwd y (CU w.c) hsn hv hys) ?_)
     rintro r rfl
     refine o_ (h:=AN 24 (h:=B1 25 (h:=B1 26 (h:=?_))))
     refine Az 27 rfl (Av rfl rfl rfl rfl rfl rfl (by repeat constructor) (by repeat constructor) ?_)
     refine o_ (h:=B6 28 (h:=z_ (h:=t_ (w_ (m_ (h:=AW (h:=e_ (?_))))))))
     refine A7 rfl (fun hb3=>?_) (fun hb3=>?_)
     ·have hc3:=bp hb3
      have hf0:(BU w.s.spc w.p.cwd y (CU w.c)).2=0:=by simpa using hc3
      refine BM ([(0,Ci w (E5 X.2.1) (.bs 1 0 13 (X.1.length+1) cap)),(1,LB 13 CL (X.1++[Et y pj]) cap),(2,Au (BU w.s.spc w.p.cwd y (CU w.c)).1)]) 26 (h:=AN 0 (h:=BC 1 (h:=AJ 2 (h:=AJ 3 (h:=AF 4 (h:=AN 5 (h:=AN 6 (h:=BC 7 (h:=AJ 8 (h:=AJ 9 (h:=AF 10 (h:=AN 11 (h:=BC 12 (h:=AJ 13 (h:=AJ 14 (h:=AF 15 (h:=AN 16 (h:=DN 17 (h:=AF 18 (h:=AN 19 (h:=AN 20 (h:=DN 21 (h:=AF 22 (h:=?_))))))))))))))))))))))))
      refine AF 23 (h:=?_)
      refine c_ 24 rfl (AK (cC w.s.spc y pj (BU w.s.spc w.p.cwd y (CU w.c)).1 hsb) ?_)
      rintro r rfl
      refine o_ (h:=?_)
      refine Bn 25 rfl (fun _ hS=>Cr (m:=j) rfl rfl rfl (by omega) ⟨rfl,rfl⟩) ?_
      refine Az 26 rfl (Av rfl rfl rfl rfl rfl rfl (cH BB hl1) (by repeat constructor) ?_)
      refine o_ (h:=z_ (h:=?_))
      refine AE ?_
      exact⟨_,⟨Lc w.s.spc y pj (BU w.s.spc w.p.cwd y (CU w.c)).1,(BU w.s.spc w.p.cwd y (CU w.c)).1,(BU w.s.spc w.p.cwd y (CU w.c)).2,(by rw[EV,if_pos he0,if_pos hf0,hf0]),rfl⟩,Bl 3 1 (by simp[Aq,Am,Ao,Bh BB,CF,E5,Au])⟩
     have hc3:=bp hb3
     have hf0:¬(BU w.s.spc w.p.cwd y (CU w.c)).2=0:=by simpa using hc3
     refine B4 (?_)
     refine AE ?_
     first|exact⟨_,⟨Lc w.s.spc y pj (BU w.s.spc w.p.cwd y (CU w.c)).1,(BU w.s.spc w.p.cwd y (CU w.c)).1,(BU w.s.spc w.p.cwd y (CU w.c)).2,(by rw[EV,if_pos he0,if_pos hf0,hf0]),rfl⟩,Bl 3 1 (by simp[Aq,Am,Ao,Bh BB,CF,E5,Au])⟩|exact⟨_,⟨Et y pj,(BU w.s.spc w.p.cwd y (CU w.c)).1,(BU w.s.spc w.p.cwd y (CU w.c)).2,(by rw[EV,if_pos he0,if_neg hf0]),rfl⟩,Bl 3 1 (by simp[Aq,Am,Ao,Bh BB,CF,E5,Au])⟩
    have hc2:=bp hb2
    have he0:¬X.2.2=0:=by simpa using hc2
    refine B4 (?_)
    refine AE ?_
    first|exact⟨_,⟨Lc w.s.spc y pj (BU w.s.spc w.p.cwd y (CU w.c)).1,(BU w.s.spc w.p.cwd y (CU w.c)).1,(BU w.s.spc w.p.cwd y (CU w.c)).2,(by rw[EV,if_pos he0,if_pos hf0,hf0]),rfl⟩,Bl 3 1 (by simp[Aq,Am,Ao,Bh BB,CF,E5,Au])⟩|exact⟨_,⟨Et y pj,(BU w.s.spc w.p.cwd y (CU w.c)).1,(BU w.s.spc w.p.cwd y (CU w.c)).2,(by rw[EV,if_pos he0,if_neg hf0]),rfl⟩,Bl 3 1 (by simp[Aq,Am,Ao,Bh BB,CF,E5,Au])⟩|exact⟨_,⟨Et y pj,Cx,X.2.2,(by rw[EV,if_neg he0]),rfl⟩,Bl 3 1 (by simp[Aq,Am,Ao,Bh BB,CF,E5,Au])⟩
   rintro s ⟨it,F,e2,hlk,rfl⟩
   refine BM ([(0,Ci w (E5 X.2.1) (.bs 1 0 13 (X.1.length+1) cap)),(2,Au F)]) 10 (h:=AN 0 (h:=AN 1 (h:=BC 2 (h:=AJ 3 (h:=AF 4 (h:=AF 5 (h:=Je 6 (h:=?_))))))))
   refine c_ 7 rfl (EM rfl rfl rfl (by simp;omega) (by repeat constructor) ?_)
   refine o_ (h:=BC 8 (h:=AJ 9 (h:=?_)))
   refine Az 10 rfl (Av rfl rfl rfl rfl rfl rfl (by repeat constructor) (by repeat constructor) ?_)
   refine o_ (h:=z_ (h:=Ay (t_ (AP (m_ (h:=B2 (h:=a_ (h:=AO (?_)))))))))
   refine AE ?_
   refine⟨w.c.paths.length - (j+1),_,by omega,⟨j+1,(X.1++[it],X.2.1++[F],e2), .bs 1 0 13 (X.1++[it]).length cap,[LB 13 CL (X.1++[it]) cap],by omega,rfl,by rw[hk,hlk],by simp;omega,by simp;omega, .inr ⟨cap,by simpa using hcp,rfl,rfl⟩,rfl⟩,?_⟩
   rw[List.length_append]
   unfold E5
   rw[List.map_append]
   exact Bl 2 1 (by simp[Aq,Am,Ao,Bh BB,CF])
  have hc1:=bp hb1
  have e3:=Cl Ew hj hc1
  rcases hYZ with⟨_,_,hX0⟩|⟨cap,hcp,rfl,rfl⟩
  ·exfalso
   rw[hX0]at hl1
   simp at hl1
   omega
  have hfin:LK w e=X:=by rw[←hX];exact(cO (by rw[List.length_zip];omega)).symm
  refine BK (Aj (Aj (BL (?_))))
  refine AE ?_
  refine⟨_,⟨cap,by rw[hfin];exact hcp,rfl⟩,?_⟩
  rw[hfin]
  exact(cK 0 rfl (cL w _ _ _)).trans (Bl 2 0 (by simp[Aq,Am,Ao,Bh BB,CF]))
 rintro s ⟨cap,hcp,rfl⟩
 refine w_ (m_ (h:=a_ (h:=e_ (A6 (?_)))))
 refine Aw (r:= .v (.int .i64 (LK w e).2.2)) none (h4:=(by simp[Aq,Am,Ao,Bh BB,CF])) (h5:=(LeA.refl _)) (h6:=⟨rfl,cap,hcp,rfl,rfl⟩)
theorem UC(w:Wrk)(cap:Nat)(f:AR)(l:List CR)(e:Int):ACall Tryz.prog 154 [.bp 0 0, .agg (Ah f), .sl 7 (l.map BG) none, .v (.int .i64 e)] [WA w cap,IB w cap] (fun r b t=>t=[]∧r= .v (.int .i64 e)∧b=[WA (Bk w (f,l,e)).1 cap,IB (Bk w (f,l,e)).1 cap]):=by
 refine enter Tryz.func154 rfl rfl rfl rfl rfl 2 rfl ?_
 refine w_ (b_ (h:=a_ (h:=e_ (q_ (w_ (m_ (h:=AW (h:=e_ (?_)))))))))
 refine A7 rfl (fun hb1=>?_) (fun hb1=>?_)
 ·have hc1:=bp hb1
  refine w_ (m_ (h:=l_ (h:=k_ (h:=f_ (h:=f_ (h:=f_ (h:=s_ (h:=e_ (AP (m_ (h:=m_ (h:=k_ (h:=f_ (h:=f_ (h:=s_ (h:=e_ (w_ (m_ (h:=a_ (h:=e_ (A6 (?_))))))))))))))))))))))
  refine Aw (r:= .v (.int .i64 e)) none (h4:=(by simp[Aq,Am,Ao,Bh BB,IB,Cd])) (h5:=(LeA.refl _)) (h6:=⟨rfl,rfl,?_⟩)
  rw[Bk,if_pos hc1]
  rfl
 have hc1:=bp hb1
 refine AM (w_ (m_ (h:=a_ (h:=e_ (A6 (?_))))))
 refine Aw (r:= .v (.int .i64 e)) none (h4:=(by simp[Aq,Am,Ao,Bh BB,CF,WA,IB,Cd])) (h5:=(LeA.refl _)) (h6:=⟨rfl,rfl,?_⟩)
 rw[Bk,if_neg hc1]
 rfl
theorem cR(w:Wrk)(cap:Nat)(t:Tab)(e:Int):ACall Tryz.prog 152 [.bp 0 0, .agg (Bw t), .v (.int .i64 e)] [WA w cap,IB w cap] (fun r b tk=>tk=[]∧r= .v (.int .i64 e)∧b=[WA (DR w (t,e)).1 cap,IB (DR w (t,e)).1 cap]):=by
 refine enter Tryz.func152 rfl rfl rfl rfl rfl 2 rfl ?_
 refine w_ (b_ (h:=a_ (h:=e_ (q_ (w_ (m_ (h:=AW (h:=e_ (?_)))))))))
 refine A7 rfl (fun hb1=>?_) (fun hb1=>?_)
 ·have hc1:=bp hb1
  refine AP (m_ (h:=l_ (h:=k_ (h:=f_ (h:=f_ (h:=s_ (h:=e_ (w_ (m_ (h:=a_ (h:=e_ (A6 (?_)))))))))))))
  refine Aw (r:= .v (.int .i64 e)) none (h4:=(by simp[Aq,Am,Ao,Bh BB,IB,Cd])) (h5:=(LeA.refl _)) (h6:=⟨rfl,rfl,?_⟩)
  rw[DR,if_pos hc1]
  rfl
 have hc1:=bp hb1
 refine AM (w_ (m_ (h:=a_ (h:=e_ (A6 (?_))))))
 refine Aw (r:= .v (.int .i64 e)) none (h4:=(by simp[Aq,Am,Ao,Bh BB,CF,WA,IB,Cd])) (h5:=(LeA.refl _)) (h6:=⟨rfl,rfl,?_⟩)
 rw[DR,if_neg hc1]
 rfl
end
section
variable {P:Program}{rs:List ResultVar}{n:Nat}{R:AV→List (List AV)→List CH→Prop}{s:AS}{xs:List AV}{r:AV}
theorem De(g:Option Nat){tk':List CH}(h1:ResA P s rs xs:=by repeat (first|exact ResA.nil|(apply ResA.tmp;(focus exact rfl))|(apply ResA.cellN;(focus exact inferInstance);(focus exact rfl);(focus exact rfl);(focus exact rfl))|(apply ResA.cell1;(focus exact inferInstance);(focus exact rfl);(focus exact rfl);(focus exact rfl))))(h2:Gv s.h.tk g=some tk':=by rfl)(h3:Ao n 1 (Cq g (Dq xs))=true:=by rfl)(h4:Aq n 0 (s.h.bx.take n)=true:=by simp[Aq,Am,Ao,Bh BB,CF,WA,IB,Cd,Au,Aa,AA,Bw,Ap,Ah])(h5:LeA (Cq g (Dq xs)) r)(h6:R r (s.h.bx.take n) tk'):Gw P rs n R .ret s:=Ns g h1 h2 h3 h4 h5 h6
end
theorem DS{f:Nat→Option AV}{bx:List (List AV)}{tk:List (Nat×Nat×List (List AV))}{l:List (Nat×AV)}{N:Dim}(n m:Nat){bx':List (List AV)}{tk':List (Nat×Nat×List (List AV))}(hn:Nat.ble N.ni n=true:=by rfl)(hb:bx.take n=bx':=by rfl)(ht:tk.take m=tk':=by rfl)(hbp:Aq n m bx'=true:=by simp[Aq,Am,Ao,Bh BB,CF,WA,IB,Cd,Au,Aa,AA,Bw,Ap,Ah])(hl:Sub n m f l:=by repeat (first|exact Sub.nil|refine Sub.cons _ _ _ rfl rfl ?_|refine Sub.any _ _ ?_|refine Sub.sl _ _ _ _ _ rfl ?_|refine Sub.slnil _ _ _ rfl ?_)):Weak N ⟨f,⟨bx,tk⟩⟩ ⟨look l,⟨bx',tk'⟩⟩:=As n m hn hb ht hbp hl
theorem UD{α:Type}{l:List α}{i:Nat}{x:α}(h:l[i]?=some x)(f:α→α):l.modify i f=l.set i (f x):=by
 apply List.ext_getElem?
 intro k
 rw[List.getElem?_modify,List.getElem?_set]
 obtain⟨hl,rfl⟩:=Ac.1 h
 by_cases e:i=k
 ·subst e
  simp[hl]
 simp[e]
theorem cT(w:Wrk)(R:Tab×Int):(DR w R).2=R.2:=by
 unfold DR
 split
 ·rename_i h;exact h.symm
 rfl
theorem Hn{w:Wrk}{R:Dh}(h:R.2.2=0):(Bk w R).1={w with s:=⟨⟨R.1,w.s.spc.mounts⟩,w.s.tab⟩,r:={w.r with changes:=R.2.1}}:=by
 unfold Bk
 rw[if_pos h]
theorem UE{w:Wrk}{R:Dh}(h:¬R.2.2=0):(Bk w R).1=w:=by
 unfold Bk
 rw[if_neg h]
theorem UF{f:AR}{dir:A8}{name:AB}{n:Nod}(h0:(Dl f dir name n).2.2=0):∃c,(Dl f dir name n).2.1=[c]:=by
 unfold Dl at h0 ⊢
 split at h0
 ·rename_i c;exact absurd h0 c
 rename_i c1
 rw[if_neg c1]
 split at h0
 ·exact absurd h0 (by decide)
 rename_i c2
 rw[if_neg c2]
 split at h0
 ·exact absurd h0 (by decide)
 rename_i c3
 rw[if_neg c3]
 cases e:En f dir.1 with
 |none=>rw[e]at h0;simp at h0
 |some d=>
   rw[e]at h0
   simp only at h0 ⊢
   split at h0
   ·exact absurd h0 (by decide)
   rename_i c4
   rw[if_neg c4]
   exact⟨_,rfl⟩
theorem cU{w:Wrk}{i:Nat}{n:Nod}(h:(Cc w i n).2=0):∃c,(Cc w i n).1.r.changes=[c]:=by
 unfold Cc at h ⊢
 split at h
 ·rename_i h0
  obtain⟨c,hc⟩:=UF h0
  rw[if_pos h0,Hn h0]
  exact⟨c,hc⟩
 rename_i h0;exact absurd h h0
theorem cV(w:Wrk)(i:Nat)(n:Nod):(Cc w i n).1.s.tab=w.s.tab∧(Cc w i n).1.p=w.p∧(Cc w i n).1.c=w.c:=by
 unfold Cc
 split
 ·rename_i h0
  rw[Hn h0]
  exact⟨rfl,rfl,rfl⟩
 exact⟨rfl,rfl,rfl⟩
section
theorem UG(w:Wrk)(cap i:Nat)(a:A8)(x:Itm)(hs:FlsB w.s.spc.files)(hx:w.r.items[i]?=some x):ACall Tryz.prog 155 [.bp 0 0, .v (.int .i64 (i:Int)), .agg (AA a)] [WA w cap,IB w cap] (fun r b t=>t=[]∧r= .tup []∧b=[WA (GH w i a) cap,IB (GH w i a) cap]):=by
 have hil:=(Ac.1 hx).1
 have hst:∀y:Itm,(w.r.items.set i y)[i]?=some y:=fun y=>by rw[List.getElem?_set_self hil]
 have hfin:w.r.items.modify i (TO (AT w.s.spc.files a) a)=w.r.items.set i {x with role:=2,file:=a,kind:=(AT w.s.spc.files a).kind,mode:=(AT w.s.spc.files a).mode,uid:=(AT w.s.spc.files a).uid,gid:=(AT w.s.spc.files a).gid}:=by rw[UD hx];rfl
 refine enter Tryz.func155 rfl rfl rfl rfl rfl 2 rfl ?_
 refine w_ (b_ (h:=e_ (?_)))
 refine B8 (fun s=>s=⟨look [(0, .bp 0 0),(1, .v (.int .i64 (i:Int))),(5, .bp 2 0),(6, .bp 3 0)],⟨[WA w cap,IB w cap,AA a,Aa (AT w.s.spc.files a)],[]⟩⟩) ?_ ?_
 ·skip
  refine BM ([(0,WA w cap),(1,IB w cap),(2,AA a)]) 14 (h:=AN 0 (h:=BC 1 (h:=AJ 2 (h:=AJ 3 (h:=AJ 4 (h:=AF 5 (h:=AF 6 (h:=?_))))))))
  refine Dg 7 11 rfl rfl ?_ ?_
  ·refine AK (DW w.s.spc.files a hs) ?_
   rintro r rfl
   refine o_ (h:=?_)
   refine AN 8 (h:=B1 9 (h:=B1 10 (h:=?_)))
   refine c_ 11 rfl (Bz (by repeat constructor) ?_)
   refine o_ (h:=?_)
   refine Az 12 rfl (Av rfl rfl rfl rfl rfl rfl (by repeat constructor) (by repeat constructor) ?_)
   refine o_ (h:=B6 13 (h:=z_ (h:=?_)))
   refine AE ?_
   exact⟨_,rfl,DS 4 0⟩
  refine Bz (by repeat constructor) ?_
  refine o_ (h:=?_)
  refine c_ 7 rfl (AK (DW w.s.spc.files a hs) ?_)
  rintro r rfl
  refine o_ (h:=AN 8 (h:=B1 9 (h:=B1 10 (h:=?_))))
  refine Az 12 rfl (Av rfl rfl rfl rfl rfl rfl (by repeat constructor) (by repeat constructor) ?_)
  refine o_ (h:=B6 13 (h:=z_ (h:=?_)))
  refine AE ?_
  exact⟨_,rfl,DS 4 0⟩
 rintro s rfl
 refine w_ (m_ (h:=k_ (h:=f_ (h:=f_ (h:=l_ (h:=m_ (h:=?_)))))))
 refine A4 rfl (Cr (m:=i) rfl rfl rfl hil ?_)
 refine a_ (h:=e_ (BM ([(0,WA w cap),(2,AA a),(3,Aa (AT w.s.spc.files a))]) 33 (h:=AN 0 (h:=AN 1 (h:=AN 2 (h:=AN 3 (h:=AN 4 (h:=AN 5 (h:=AF 6 (h:=AJ 7 (h:=AF 8 (h:=AJ 9 (h:=AF 10 (h:=AJ 11 (h:=AF 12 (h:=AJ 13 (h:=AF 14 (h:=BC 15 (h:=AJ 16 (h:=?_))))))))))))))))))))
 refine Az 17 rfl (Av rfl rfl rfl rfl rfl rfl (Hl BB (x':={x with role:=2}) hx (by repeat constructor) (List.cons_ne_nil _ _)) (by repeat constructor) ?_)
 refine o_ (h:=BC 18 (h:=AJ 19 (h:=?_)))
 refine Az 20 rfl (Av rfl rfl rfl rfl rfl rfl (Hl BB (x':={x with role:=2,file:=a}) (hst _) (by repeat constructor) (List.cons_ne_nil _ _)) (by repeat constructor) ?_)
 refine o_ (h:=BC 21 (h:=AJ 22 (h:=?_)))
 refine Az 23 rfl (Av rfl rfl rfl rfl rfl rfl (Hl BB (x':={x with role:=2,file:=a,kind:=(AT w.s.spc.files a).kind}) (by rw[List.set_set];exact hst _) (by repeat constructor) (List.cons_ne_nil _ _)) (by repeat constructor) ?_)
 refine o_ (h:=BC 24 (h:=AJ 25 (h:=?_)))
 refine Az 26 rfl (Av rfl rfl rfl rfl rfl rfl (Hl BB (x':={x with role:=2,file:=a,kind:=(AT w.s.spc.files a).kind,mode:=(AT w.s.spc.files a).mode}) (by rw[List.set_set,List.set_set];exact hst _) (by repeat constructor) (List.cons_ne_nil _ _)) (by repeat constructor) ?_)
 refine o_ (h:=BC 27 (h:=AJ 28 (h:=?_)))
 refine Az 29 rfl (Av rfl rfl rfl rfl rfl rfl (Hl BB (x':={x with role:=2,file:=a,kind:=(AT w.s.spc.files a).kind,mode:=(AT w.s.spc.files a).mode,uid:=(AT w.s.spc.files a).uid}) (by rw[List.set_set,List.set_set,List.set_set];exact hst _) (by repeat constructor) (List.cons_ne_nil _ _)) (by repeat constructor) ?_)
 refine o_ (h:=BC 30 (h:=AJ 31 (h:=?_)))
 refine Az 32 rfl (Av rfl rfl rfl rfl rfl rfl (Hl BB (x':={x with role:=2,file:=a,kind:=(AT w.s.spc.files a).kind,mode:=(AT w.s.spc.files a).mode,uid:=(AT w.s.spc.files a).uid,gid:=(AT w.s.spc.files a).gid}) (by rw[List.set_set,List.set_set,List.set_set,List.set_set];exact hst _) (by repeat constructor) (List.cons_ne_nil _ _)) (by repeat constructor) ?_)
 refine o_ (h:=z_ (h:=?_))
 refine MT (r:= .tup []) none (h4:=(by simp[Aq,Am,Ao,Bh BB,CF,WA,Cd])) (h5:=(LeA.refl _)) (h6:=⟨rfl,rfl,?_⟩)
 rw[List.set_set,List.set_set,List.set_set,List.set_set,List.set_set]
 unfold WA IB GH
 simp only[hfin,List.length_set]
 rfl
theorem cW(w:Wrk)(cap i:Nat)(n:Nod)(f:Fnd)(x:Itm)(hv:FlsV w.s.spc.files)(hf:w.found[i]?=some f)(hx:w.r.items[i]?=some x)(hn:f.name.size≤100000)(ht:n.target.size≤100000)(hne:n.entries=[]):ACall Tryz.prog 150 [.bp 0 0, .v (.int .i64 (i:Int)), .agg (Aa n)] [WA w cap,IB w cap] (fun r b t=>t=[]∧r= .v (.int .i64 (Cc w i n).2)∧b=[WA (Cc w i n).1 cap,IB (Cc w i n).1 cap]):=by
 have hrow:(w.found.map Au)[i]?=some (Au f):=by rw[List.getElem?_map,hf];rfl
 have hfn:At w i=f:=by unfold At;rw[hf];rfl
 have hmk:Dn w i n=Dl w.s.spc.files f.dir f.name (Ld w n):=by unfold Dn;rw[hfn]
 have hok:=Hc hv f.dir f.name (Ld w n)
 rw[←hmk]at hok
 have hcall:AFn Tryz.prog 45 [.agg (Ah w.s.spc.files), .agg (AA f.dir), .v (.string f.name), .agg (Aa (Ld w n))] (fun r=>r=CB (Dn w i n)):=by rw[hmk];exact SS _ _ _ _ hv hn ht
 refine enter Tryz.func150 rfl rfl rfl rfl rfl 2 rfl ?_
 refine w_ (b_ (h:=a_ (h:=e_ (q_ (BM ([(0,WA w cap),(1,IB w cap)]) 14 (h:=AN 0 (h:=BC 1 (h:=AJ 2 (h:=AJ 3 (h:=AF 4 (h:=AN 5 (h:=BC 6 (h:=AJ 7 (h:=AJ 8 (h:=AF 9 (h:=AJ 10 (h:=?_)))))))))))))))))
 refine Az 11 rfl (Av rfl rfl rfl rfl rfl rfl (by repeat constructor) (by repeat constructor) ?_)
 refine o_ (h:=AJ 12 (h:=?_))
 refine Az 13 rfl (Av rfl rfl rfl rfl rfl rfl (by repeat constructor) (by repeat constructor) ?_)
 refine o_ (h:=z_ (h:=t_ (q_ (BM ([(0,WA w cap),(1,IB w cap),(2,Aa (Ld w n))]) 28 (h:=AN 0 (h:=AN 1 (h:=BC 2 (h:=AJ 3 (h:=AJ 4 (h:=AJ 5 (h:=AF 6 (h:=AN 7 (h:=BC 8 (h:=AJ 9 (h:=AF 10 (h:=AN 11 (h:=DN 12 (h:=AJ 13 (h:=AF 14 (h:=AN 15 (h:=BC 16 (h:=AJ 17 (h:=AF 18 (h:=?_))))))))))))))))))))))))
 refine AN 19 (h:=DN 20 (h:=AJ 21 (h:=AF 22 (h:=AF 23 (h:=?_)))))
 refine c_ 24 rfl (AK (hcall) ?_)
 rintro r rfl
 refine o_ (h:=B1 25 (h:=B1 26 (h:=B1 27 (h:=?_))))
 refine c_ 28 rfl (Ct [0,1] rfl (.cons _ _ _ _ _ rfl (LeA.refl _) (.cons _ _ _ _ _ rfl (LeA.refl _) (.cons _ _ _ _ _ rfl (LeA.refl _) (.cons _ _ _ _ _ rfl (LeA.refl _) .nil)))) (by decide) (.cons _ _ _ _ _ rfl rfl (.cons _ _ _ _ _ rfl (Fc BB _ _ _) .nil)) (UC w cap (Dn w i n).1 (Dn w i n).2.1 (Dn w i n).2.2) ?_)
 rintro r bc tc ⟨rfl,rfl,rfl⟩
 refine⟨rfl,_,Gi rfl (Bk w (Dn w i n)).1 cap,?_⟩
 refine o_ (h:=?_)
 refine c_ 29 rfl (Fz rfl ?_)
 refine o_ (h:=z_ (h:=t_ (q_ (w_ (m_ (h:=AW (h:=e_ (?_))))))))
 refine A7 rfl (fun hb1=>?_) (fun hb1=>?_)
 ·have hc1:=bp hb1
  have h0:(Dn w i n).2.2=0:=hc1
  obtain⟨c,hc⟩:∃c,(Dn w i n).2.1=[c]:=by rw[hmk]at h0 ⊢;exact UF h0
  have hch:(Bk w (Dn w i n)).1.r.changes=[c]:=by rw[Hn h0];exact hc
  have hx1:(Bk w (Dn w i n)).1.r.items[i]?=some x:=by rw[Hn h0];exact hx
  have hfb:FlsB (Bk w (Dn w i n)).1.s.spc.files:=by rw[Hn h0];exact(hok h0).1.b
  have hrow2:((Bk w (Dn w i n)).1.r.changes.map BG)[0]?=some (BG c):=by rw[hch];rfl
  refine AP (m_ (h:=m_ (h:=m_ (h:=k_ (h:=f_ (h:=f_ (h:=l_ (h:=?_))))))))
  refine A4 rfl (Ck (n:=0) rfl rfl rfl hrow2 ?_)
  refine f_ (h:=l_ (h:=?_))
  refine A4 rfl (Ct [0,1] rfl (.cons _ _ _ _ _ rfl (LeA.refl _) (.cons _ _ _ _ _ rfl (LeA.refl _) (.cons _ _ _ _ _ rfl (LeA.refl _) .nil))) (by decide) (.cons _ _ _ _ _ rfl rfl (.cons _ _ _ _ _ rfl (Fc BB _ _ _) .nil)) (UG (Bk w (Dn w i n)).1 cap i c.2.2.2 x hfb hx1) ?_)
  rintro r bc tc ⟨rfl,rfl,rfl⟩
  refine⟨rfl,_,Gi rfl (GH (Bk w (Dn w i n)).1 i c.2.2.2) cap,?_⟩
  refine e_ (w_ (m_ (h:=a_ (h:=e_ (A6 (?_))))))
  refine De (r:= .v (.int .i64 (Cc w i n).2)) none (h5:=(by rw[Cc,if_pos h0];exact LeA.of_eq (vi h0))) (h6:=⟨rfl,rfl,?_⟩)
  rw[Cc,if_pos h0,hc]
  rfl
 have hc1:=bp hb1
 have h0:¬(Dn w i n).2.2=0:=hc1
 refine AM (w_ (m_ (h:=a_ (h:=e_ (A6 (?_))))))
 refine De (r:= .v (.int .i64 (Cc w i n).2)) none (h5:=(by rw[Cc,if_neg h0];exact LeA.refl _)) (h6:=⟨rfl,rfl,?_⟩)
 rw[Cc,if_neg h0,UE h0]
 rfl
theorem cY(w:Wrk)(cap:Nat)(f:Fnd)(x:Itm)(hv:SpcV w.s.spc)(hm:w.s.spc.mounts.length≤1000)(htb:TabB w.s.tab)(hf:w.found[0]?=some f)(hx:w.r.items[0]?=some x)(hn:f.name.size≤100000):ACall Tryz.prog 114 [.bp 0 0] [WA w cap,IB w cap] (fun r b t=>t=[]∧r= .v (.int .i64 (C5 w).2)∧b=[WA (C5 w).1 cap,IB (C5 w).1 cap]):=by
 have hsb:=hv.b hm
 have hrow:(w.found.map Au)[0]?=some (Au f):=by rw[List.getElem?_map,hf];rfl
 have hfn:At w 0=f:=by unfold At;rw[hf];rfl
 refine enter Tryz.func114 rfl rfl rfl rfl rfl 2 rfl ?_
 refine w_ (a_ (h:=e_ (q_ (BM ([(0,WA w cap),(1,IB w cap)]) 15 (h:=AN 0 (h:=BC 1 (h:=AJ 2 (h:=AF 3 (h:=DN 4 (h:=AF 5 (h:=AN 6 (h:=BC 7 (h:=AJ 8 (h:=AJ 9 (h:=?_)))))))))))))))
 refine Bn 10 rfl (fun _ hS=>Dx (len:=4) (sz:=1) (n:=0) (by kernel_rfl) rfl rfl rfl rfl ⟨rfl,rfl⟩) ?_
 refine AF 11 (h:=?_)
 refine c_ 12 rfl (Bz (by repeat constructor) ?_)
 refine o_ (h:=?_)
 refine Az 13 rfl (Av rfl rfl rfl rfl rfl rfl (by repeat constructor) (by repeat constructor) ?_)
 refine o_ (h:=B6 14 (h:=z_ (h:=t_ (?_))))
 refine B8 (fun s=>∃(w2:Wrk) (F2:Fnd),C5 w=Gf w2 F2.file∧TabB w2.s.tab∧s=⟨look [(0, .bp 0 0),(3, .bp 2 0),(4, .v (.int .i64 w2.c.a0))],⟨[WA w2 cap,IB w2 cap,Au F2],[]⟩⟩) ?_ ?_
 ·skip
  refine w_ (f_ (h:=l_ (h:=e_ (?_))))
  refine A7 rfl (fun hb1=>?_) (fun hb1=>?_)
  ·have hc1:=bp hb1
   have hex:(At w 0).ex=true:=by rw[hfn];exact hc1
   refine B8 (fun s=>s=⟨look [(0, .bp 0 0),(3, .bp 2 0),(4, .v (.int .i64 w.c.a0)),(5, .bp 3 0)],⟨[WA w cap,IB w cap,Au f,Aa (AT w.s.spc.files f.file)],[]⟩⟩) ?_ ?_
   ·skip
    refine BM ([(0,WA w cap),(1,IB w cap),(2,Au f)]) 15 (h:=AN 0 (h:=BC 1 (h:=AJ 2 (h:=AJ 3 (h:=AJ 4 (h:=AF 5 (h:=AJ 6 (h:=AF 7 (h:=?_)))))))))
    refine Dg 8 12 rfl rfl ?_ ?_
    ·refine AK (DW w.s.spc.files f.file hsb.files) ?_
     rintro r rfl
     refine o_ (h:=?_)
     refine AN 9 (h:=B1 10 (h:=B1 11 (h:=?_)))
     refine c_ 12 rfl (Bz (by repeat constructor) ?_)
     refine o_ (h:=?_)
     refine Az 13 rfl (Av rfl rfl rfl rfl rfl rfl (by repeat constructor) (by repeat constructor) ?_)
     refine o_ (h:=B6 14 (h:=z_ (h:=?_)))
     refine AE ?_
     exact⟨_,rfl,DS 4 0⟩
    refine Bz (by repeat constructor) ?_
    refine o_ (h:=?_)
    refine c_ 8 rfl (AK (DW w.s.spc.files f.file hsb.files) ?_)
    rintro r rfl
    refine o_ (h:=AN 9 (h:=B1 10 (h:=B1 11 (h:=?_))))
    refine Az 13 rfl (Av rfl rfl rfl rfl rfl rfl (by repeat constructor) (by repeat constructor) ?_)
    refine o_ (h:=B6 14 (h:=z_ (h:=?_)))
    refine AE ?_
    exact⟨_,rfl,DS 4 0⟩
   rintro s rfl
   refine w_ (a_ (h:=e_ (?_)))
   refine B8 (fun s=>s=⟨look [(0, .bp 0 0),(3, .bp 2 0),(4, .v (.int .i64 w.c.a0)),(5, .bp 3 0),(7, .v (.int .i64 (if Bi w.c.a0 1=true then 4 else 0)))],⟨[WA w cap,IB w cap,Au f,Aa (AT w.s.spc.files f.file)],[]⟩⟩) ?_ ?_
   ·skip
    refine w_ (m_ (h:=Dr (h:=BN (h:=e_ (?_)))))
    refine A7 rfl (fun hb2=>?_) (fun hb2=>?_)
    ·have hc2:=bp hb2
     have k0:Bi w.c.a0 1=true:=by simpa[Bi]using hc2
     refine AP (m_ (h:=B2 (h:=a_ (h:=AO (?_)))))
     refine AE ?_
     refine⟨_,rfl,?_⟩
     (rw[if_pos k0];exact DS 4 0)
    have hc2:=bp hb2
    have k0:¬Bi w.c.a0 1=true:=by simpa[Bi]using hc2
    refine B4 (?_)
    refine AE ?_
    refine⟨_,rfl,?_⟩
    first|(rw[if_pos k0];exact DS 4 0)|(rw[if_neg k0];exact DS 4 0)
   rintro s rfl
   refine B8 (fun s=>s=⟨look [(0, .bp 0 0),(3, .bp 2 0),(4, .v (.int .i64 w.c.a0)),(5, .bp 3 0),(7, .v (.int .i64 (Gg w.c.a0)))],⟨[WA w cap,IB w cap,Au f,Aa (AT w.s.spc.files f.file)],[]⟩⟩) ?_ ?_
   ·skip
    refine w_ (m_ (h:=Dr (h:=BN (h:=e_ (?_)))))
    refine A7 rfl (fun hb3=>?_) (fun hb3=>?_)
    ·have hc3:=bp hb3
     have k00:Bi w.c.a0 18=true:=by simpa[Bi]using hc3
     refine AP (m_ (h:=B2 (h:=a_ (h:=AO (?_)))))
     refine AE ?_
     refine⟨_,rfl,?_⟩
     unfold Gg
     (rw[if_pos k00];exact DS 4 0)
    have hc3:=bp hb3
    have k00:¬Bi w.c.a0 18=true:=by simpa[Bi]using hc3
    refine B4 (?_)
    refine AE ?_
    refine⟨_,rfl,?_⟩
    unfold Gg
    first|(rw[if_pos k00];exact DS 4 0)|(rw[if_neg k00,Int.add_zero];exact DS 4 0)
   rintro s rfl
   refine Al (?_)
   refine B8 (fun s=>s=⟨look [(0, .bp 0 0),(3, .bp 2 0),(4, .v (.int .i64 w.c.a0)),(5, .bp 3 0),(7, .v (.int .i64 (Gg w.c.a0))),(48, .v (.bool (Bi w.c.a0 4&&Bi w.c.a0 8)))],⟨[WA w cap,IB w cap,Au f,Aa (AT w.s.spc.files f.file)],[]⟩⟩) ?_ ?_
   ·skip
    refine AP (m_ (h:=Dr (h:=BN (h:=m_ (h:=?_)))))
    refine Ar true rfl rfl (fun hb4=>?_) (fun hb4=>?_)
    ·have hc4:=bp hb4
     refine m_ (h:=Dr (h:=BN (h:=AX (h:=a_ (h:=AO (?_))))))
     refine AE ?_
     exact⟨_,rfl,As 4 0 rfl rfl rfl (by simp[Aq,Am,Ao,Bh BB,CF,WA,IB,Cd,Au,Aa]) (by repeat (first|exact Sub.nil|refine Sub.cons _ _ _ rfl rfl ?_|refine Sub.any _ _ ?_|refine Sub.sl _ _ _ _ _ rfl ?_|refine Sub.slnil _ _ _ rfl ?_|(apply Sub.of;(focus exact rfl);(focus exact LeA.of_eq (vb (by simp[Bi, *])));(focus exact rfl))))⟩
    have hc4:=bp hb4
    refine A3 (h:=A3 (h:=A3 (h:=Af (h:=a_ (h:=AO (?_))))))
    refine AE ?_
    exact⟨_,rfl,As 4 0 rfl rfl rfl (by simp[Aq,Am,Ao,Bh BB,CF,WA,IB,Cd,Au,Aa]) (by repeat (first|exact Sub.nil|refine Sub.cons _ _ _ rfl rfl ?_|refine Sub.any _ _ ?_|refine Sub.sl _ _ _ _ _ rfl ?_|refine Sub.slnil _ _ _ rfl ?_|(apply Sub.of;(focus exact rfl);(focus exact LeA.of_eq (vb (by simp[Bi, *])));(focus exact rfl))))⟩
   rintro s rfl
   refine A7 rfl (fun hb5=>?_) (fun hb5=>?_)
   ·have hc5:=bp hb5
    have k1:Bi w.c.a0 4=true∧Bi w.c.a0 8=true:=by simpa using hc5
    refine w_ (a_ (h:=e_ (A6 (Ag (A9 (?_))))))
    refine De (r:= .v (.int .i64 (C5 w).2)) none (h5:=(by rw[C5,if_pos hex,if_pos k1];exact LeA.refl _)) (h6:=⟨rfl,rfl,?_⟩)
    rw[C5,if_pos hex,if_pos k1]
    rfl
   have hc5:=bp hb5
   have k1:¬(Bi w.c.a0 4=true∧Bi w.c.a0 8=true):=by simpa using hc5
   refine w_ (f_ (h:=l_ (h:=AW (h:=a_ (h:=e_ (?_))))))
   refine A7 rfl (fun hb6=>?_) (fun hb6=>?_)
   ·have hc6:=bp hb6
    have k2:(AT w.s.spc.files (At w 0).file).kind=3:=by rw[hfn];exact hc6
    refine w_ (a_ (h:=e_ (A6 (Ag (A9 (?_))))))
    refine De (r:= .v (.int .i64 (C5 w).2)) none (h5:=(by rw[C5,if_pos hex,if_neg k1,if_pos k2];exact LeA.refl _)) (h6:=⟨rfl,rfl,?_⟩)
    rw[C5,if_pos hex,if_neg k1,if_pos k2]
    rfl
   have hc6:=bp hb6
   have k2:¬(AT w.s.spc.files (At w 0).file).kind=3:=by rw[hfn];exact hc6
   refine B8 (fun s=>s=⟨look [(0, .bp 0 0),(3, .bp 2 0),(4, .v (.int .i64 w.c.a0)),(5, .bp 3 0),(7, .v (.int .i64 (Gg w.c.a0))),(61, .v (.bool (decide ((AT w.s.spc.files f.file).kind=2)&&Bi w.c.a0 22)))],⟨[WA w cap,IB w cap,Au f,Aa (AT w.s.spc.files f.file)],[]⟩⟩) ?_ ?_
   ·skip
    refine AP (f_ (h:=l_ (h:=AW (h:=m_ (h:=?_)))))
    refine Ar true rfl rfl (fun hb7=>?_) (fun hb7=>?_)
    ·have hc7:=bp hb7
     refine m_ (h:=Dr (h:=BN (h:=AX (h:=a_ (h:=AO (?_))))))
     refine AE ?_
     exact⟨_,rfl,As 4 0 rfl rfl rfl (by simp[Aq,Am,Ao,Bh BB,CF,WA,IB,Cd,Au,Aa]) (by repeat (first|exact Sub.nil|refine Sub.cons _ _ _ rfl rfl ?_|refine Sub.any _ _ ?_|refine Sub.sl _ _ _ _ _ rfl ?_|refine Sub.slnil _ _ _ rfl ?_|(apply Sub.of;(focus exact rfl);(focus exact LeA.of_eq (vb (by simp[Bi, *])));(focus exact rfl))))⟩
    have hc7:=bp hb7
    refine A3 (h:=A3 (h:=A3 (h:=Af (h:=a_ (h:=AO (?_))))))
    refine AE ?_
    exact⟨_,rfl,As 4 0 rfl rfl rfl (by simp[Aq,Am,Ao,Bh BB,CF,WA,IB,Cd,Au,Aa]) (by repeat (first|exact Sub.nil|refine Sub.cons _ _ _ rfl rfl ?_|refine Sub.any _ _ ?_|refine Sub.sl _ _ _ _ _ rfl ?_|refine Sub.slnil _ _ _ rfl ?_|(apply Sub.of;(focus exact rfl);(focus exact LeA.of_eq (vb (by simp[Bi, *])));(focus exact rfl))))⟩
   rintro s rfl
   refine A7 rfl (fun hb8=>?_) (fun hb8=>?_)
   ·have hc8:=bp hb8
    have k3:(AT w.s.spc.files (At w 0).file).kind=2∧Bi w.c.a0 22=true:=by rw[hfn];simpa using hc8
    refine w_ (a_ (h:=e_ (A6 (Ag (A9 (?_))))))
    refine De (r:= .v (.int .i64 (C5 w).2)) none (h5:=(by rw[C5,if_pos hex,if_neg k1,if_neg k2,if_pos k3];exact LeA.refl _)) (h6:=⟨rfl,rfl,?_⟩)
    rw[C5,if_pos hex,if_neg k1,if_neg k2,if_pos k3]
    rfl
   have hc8:=bp hb8
   have k3:¬((AT w.s.spc.files (At w 0).file).kind=2∧Bi w.c.a0 22=true):=by rw[hfn];simpa using hc8
   refine w_ (m_ (h:=f_ (h:=l_ (h:=m_ (h:=?_)))))
   refine A4 rfl (Dy 1 rfl (.cons _ _ _ _ _ rfl (LeA.of_eq rfl) (.cons _ _ _ _ _ rfl (LeA.refl _) (.cons _ _ _ _ _ rfl (LeA.refl _) .nil))) (NM w .any f.file (Gg w.c.a0) hsb) ?_)
   rintro r rfl
   refine⟨rfl,?_⟩
   refine BR (h:=a_ (h:=e_ (?_)))
   refine A7 rfl (fun hb9=>?_) (fun hb9=>?_)
   ·have hc9:=bp hb9
    have k4:D9 w (At w 0).file (Gg w.c.a0)=false:=by rw[hfn];simpa using hc9
    refine w_ (a_ (h:=e_ (A6 (Ag (A9 (?_))))))
    refine De (r:= .v (.int .i64 (C5 w).2)) none (h5:=(by rw[C5,if_pos hex,if_neg k1,if_neg k2,if_neg k3,if_pos k4];exact LeA.refl _)) (h6:=⟨rfl,rfl,?_⟩)
    rw[C5,if_pos hex,if_neg k1,if_neg k2,if_neg k3,if_pos k4]
    rfl
   have hc9:=bp hb9
   have k4:¬D9 w (At w 0).file (Gg w.c.a0)=false:=by rw[hfn];simpa using hc9
   refine B4 (Ay (?_))
   refine AE ?_
   exact⟨_,⟨w,f,(by rw[C5,if_pos hex,if_neg k1,if_neg k2,if_neg k3,if_neg k4,hfn]),htb,rfl⟩,DS 3 0⟩
  have hc1:=bp hb1
  have hex:¬(At w 0).ex=true:=by rw[hfn];simpa using hc1
  refine q_ (Al (w_ (m_ (h:=Dr (h:=AW (h:=a_ (h:=e_ (?_))))))))
  refine A7 rfl (fun hb10=>?_) (fun hb10=>?_)
  ·have hc10:=bp hb10
   have k1:Bi w.c.a0 4=false:=by simp only[Bi];simpa using hc10
   refine w_ (a_ (h:=e_ (A6 (Ag (A9 (A9 (?_)))))))
   refine De (r:= .v (.int .i64 (C5 w).2)) none (h5:=(by rw[C5,if_neg hex,if_pos k1];exact LeA.refl _)) (h6:=⟨rfl,rfl,?_⟩)
   rw[C5,if_neg hex,if_pos k1]
   rfl
  have hc10:=bp hb10
  have k1:¬Bi w.c.a0 4=false:=by simp only[Bi];simpa using hc10
  refine w_ (f_ (h:=l_ (h:=a_ (h:=e_ (?_)))))
  refine A7 rfl (fun hb11=>?_) (fun hb11=>?_)
  ·have hc11:=bp hb11
   have k2:(At w 0).slash=true:=by rw[hfn];exact hc11
   refine w_ (a_ (h:=e_ (A6 (Ag (A9 (A9 (?_)))))))
   refine De (r:= .v (.int .i64 (C5 w).2)) none (h5:=(by rw[C5,if_neg hex,if_neg k1,if_pos k2];exact LeA.refl _)) (h6:=⟨rfl,rfl,?_⟩)
   rw[C5,if_neg hex,if_neg k1,if_pos k2]
   rfl
  have hc11:=bp hb11
  have k2:¬(At w 0).slash=true:=by rw[hfn];simpa using hc11
  refine w_ (m_ (h:=f_ (h:=l_ (h:=?_))))
  refine A4 rfl (Dy 1 rfl (.cons _ _ _ _ _ rfl (LeA.of_eq rfl) (.cons _ _ _ _ _ rfl (LeA.refl _) (.cons _ _ _ _ _ rfl (LeA.refl _) .nil))) (NM w .any f.dir 2 hsb) ?_)
  rintro r rfl
  refine⟨rfl,?_⟩
  refine BR (h:=a_ (h:=e_ (?_)))
  refine A7 rfl (fun hb12=>?_) (fun hb12=>?_)
  ·have hc12:=bp hb12
   have k3:D9 w (At w 0).dir 2=false:=by rw[hfn];simpa using hc12
   refine w_ (a_ (h:=e_ (A6 (Ag (A9 (A9 (?_)))))))
   refine De (r:= .v (.int .i64 (C5 w).2)) none (h5:=(by rw[C5,if_neg hex,if_neg k1,if_neg k2,if_pos k3];exact LeA.refl _)) (h6:=⟨rfl,rfl,?_⟩)
   rw[C5,if_neg hex,if_neg k1,if_neg k2,if_pos k3]
   rfl
  have hc12:=bp hb12
  have k3:¬D9 w (At w 0).dir 2=false:=by rw[hfn];simpa using hc12
  refine B4 (Ay (t_ (q_ (w_ (m_ (h:=m_ (h:=k_ (h:=f_ (h:=f_ (h:=?_))))))))))
  refine A4 rfl (Dx (len:=4) (sz:=1) (n:=1) (by kernel_rfl) rfl rfl rfl rfl ?_)
  refine l_ (h:=?_)
  refine A4 rfl (Fk (y:= .agg (Aa (Fa w.c.a1))) (DF ⟨rfl,rfl⟩) ?_)
  refine A4 rfl (Ct [0,1] rfl (.cons _ _ _ _ _ rfl (LeA.refl _) (.cons _ _ _ _ _ rfl (LeA.refl _) (.cons _ _ _ _ _ rfl (LeA.refl _) .nil))) (by decide) (.cons _ _ _ _ _ rfl rfl (.cons _ _ _ _ _ rfl (Fc BB _ _ _) .nil)) (cW w cap 0 (Fa w.c.a1) f x hv.files hf hx hn (Nat.zero_le _) rfl) ?_)
  rintro r bc tc ⟨rfl,rfl,rfl⟩
  refine⟨rfl,_,Gi rfl (Cc w 0 (Fa w.c.a1)).1 cap,?_⟩
  refine a_ (h:=e_ (w_ (m_ (h:=BN (h:=e_ (?_))))))
  refine A7 rfl (fun hb13=>?_) (fun hb13=>?_)
  ·have hc13:=bp hb13
   have k4:(Cc w 0 (Fa w.c.a1)).2≠0:=by simpa using hc13
   refine w_ (m_ (h:=a_ (h:=e_ (A6 (A9 (A9 (?_)))))))
   refine De (r:= .v (.int .i64 (C5 w).2)) none (h5:=(by rw[C5,if_neg hex,if_neg k1,if_neg k2,if_neg k3,if_pos k4];exact LeA.refl _)) (h6:=⟨rfl,rfl,?_⟩)
   rw[C5,if_neg hex,if_neg k1,if_neg k2,if_neg k3,if_pos k4]
   rfl
  have hc13:=bp hb13
  have k4:(Cc w 0 (Fa w.c.a1)).2=0:=by simpa using hc13
  obtain⟨c,hc⟩:=cU k4
  have hrow2:((Cc w 0 (Fa w.c.a1)).1.r.changes.map BG)[0]?=some (BG c):=by rw[hc];rfl
  refine AM (AP (m_ (h:=k_ (h:=f_ (h:=f_ (h:=l_ (h:=?_)))))))
  refine A4 rfl (Ck (n:=0) rfl rfl rfl hrow2 ?_)
  refine f_ (h:=l_ (h:=f_ (h:=s_ (h:=AO (?_)))))
  refine AE ?_
  first|exact⟨_,⟨w,f,(by rw[C5,if_pos hex,if_neg k1,if_neg k2,if_neg k3,if_neg k4,hfn]),htb,rfl⟩,DS 3 0⟩|(obtain⟨q1,q2,q3⟩:=cV w 0 (Fa w.c.a1);exact⟨_,⟨(Cc w 0 (Fa w.c.a1)).1,{f with file:=c.2.2.2},(by rw[C5,if_neg hex,if_neg k1,if_neg k2,if_neg k3,if_neg (by simp[k4]),hc];rfl),by rw[q1];exact htb,rfl⟩,by rw[q3];exact DS 3 0⟩)
 rintro s ⟨w2,F2,hop,htb2,rfl⟩
 refine B8 (fun s=>s=⟨look [(0, .bp 0 0),(9, .bp 3 0),(10, .v (.int .i64 (EJ w2.s.tab w2.p.pid F2.file w2.c.a0).2.1)),(11, .v (.int .i64 (EJ w2.s.tab w2.p.pid F2.file w2.c.a0).2.2))],⟨[WA w2 cap,IB w2 cap,Au F2,Bw (EJ w2.s.tab w2.p.pid F2.file w2.c.a0).1],[]⟩⟩) ?_ ?_
 ·skip
  refine BM ([(0,WA w2 cap),(1,IB w2 cap),(2,Au F2)]) 22 (h:=AN 0 (h:=BC 1 (h:=AJ 2 (h:=AJ 3 (h:=AF 4 (h:=AN 5 (h:=BC 6 (h:=AJ 7 (h:=AJ 8 (h:=AF 9 (h:=AJ 10 (h:=AF 11 (h:=AN 12 (h:=?_))))))))))))))
  refine Dg 13 18 rfl rfl ?_ ?_
  ·refine AK (UB w2.s.tab w2.p.pid F2.file w2.c.a0 htb2) ?_
   rintro r rfl
   refine o_ (h:=?_)
   refine AN 14 (h:=B1 15 (h:=B1 16 (h:=B1 17 (h:=?_))))
   refine c_ 18 rfl (Bz (by repeat constructor) ?_)
   refine o_ (h:=?_)
   refine Az 19 rfl (Av rfl rfl rfl rfl rfl rfl (by repeat constructor) (by repeat constructor) ?_)
   refine o_ (h:=B6 20 (h:=B6 21 (h:=z_ (h:=?_))))
   refine AE ?_
   exact⟨_,rfl,DS 4 0⟩
  refine Bz (by repeat constructor) ?_
  refine o_ (h:=?_)
  refine c_ 13 rfl (AK (UB w2.s.tab w2.p.pid F2.file w2.c.a0 htb2) ?_)
  rintro r rfl
  refine o_ (h:=AN 14 (h:=B1 15 (h:=B1 16 (h:=B1 17 (h:=?_)))))
  refine Az 19 rfl (Av rfl rfl rfl rfl rfl rfl (by repeat constructor) (by repeat constructor) ?_)
  refine o_ (h:=B6 20 (h:=B6 21 (h:=z_ (h:=?_))))
  refine AE ?_
  exact⟨_,rfl,DS 4 0⟩
 rintro s rfl
 refine w_ (m_ (h:=m_ (h:=k_ (h:=f_ (h:=f_ (h:=s_ (h:=e_ (w_ (m_ (h:=l_ (h:=m_ (h:=?_))))))))))))
 refine A4 rfl (Ct [0,1] rfl (.cons _ _ _ _ _ rfl (LeA.refl _) (.cons _ _ _ _ _ rfl (LeA.refl _) (.cons _ _ _ _ _ rfl (LeA.refl _) .nil))) (by decide) (.cons _ _ _ _ _ rfl rfl (.cons _ _ _ _ _ rfl (Fc BB _ _ _) .nil)) (cR (TQ w2 (EJ w2.s.tab w2.p.pid F2.file w2.c.a0).2.1) cap (EJ w2.s.tab w2.p.pid F2.file w2.c.a0).1 (EJ w2.s.tab w2.p.pid F2.file w2.c.a0).2.2) ?_)
 rintro r bc tc ⟨rfl,rfl,rfl⟩
 refine⟨rfl,_,Gi rfl (Gf w2 F2.file).1 cap,?_⟩
 refine a_ (h:=e_ (A6 (?_)))
 refine De (r:= .v (.int .i64 (C5 w).2)) none (h5:=(by rw[hop,Gf,cT];exact LeA.refl _)) (h6:=⟨rfl,rfl,?_⟩)
 rw[hop]
 rfl
end
theorem UH{e:Int}{y x:A8}{c d:Bool}:(decide (e=0)&& !decide ((y.1,y.2)=(x.1,x.2))&&c&&d)=true↔(e=0∧y≠x∧c=true∧d=true):=by
 have:decide ((y.1,y.2)=(x.1,x.2))=decide (y=x):=rfl
 rw[this]
 simp[and_assoc]
theorem UJ{w:Wrk}{R:Dh}{x:A8}(h:(decide (R.2.2=0)&&decide (0<(R.2.1.length:Int)))=true):GJ w R x=(GH (Eu (Bk w R).1 0 3) 1 x,R.2.2):=by
 rw[Bool.and_eq_true]at h
 have h1:=of_decide_eq_true h.1
 unfold GJ
 rw[if_neg (by simp[h1]),if_pos (of_decide_eq_true h.2),h1]
theorem UK{w:Wrk}{R:Dh}{x:A8}(h:(decide (R.2.2=0)&&decide (0<(R.2.1.length:Int)))=false):GJ w R x=((Bk w R).1,R.2.2):=by
 unfold GJ
 by_cases h0:R.2.2=0
 ·rw[if_neg (by simp[h0]),if_neg (by simpa[h0]using h),h0]
 rw[if_pos h0,UE h0]
theorem cZ(w:Wrk)(i:Nat)(r:Int)(cap:Nat):WA (Eu w i r) cap=WA w cap:=by
 unfold WA Eu
 simp only[List.length_modify]
 rfl
theorem d6{w:Wrk}{i:Nat}{x:Itm}(hx:w.r.items[i]?=some x)(r:Int)(cap:Nat):IB (Eu w i r) cap=LB 13 CL (w.r.items.set i {x with role:=r}) cap:=by
 unfold IB Eu
 rw[UD hx]
section
theorem d7(w:Wrk)(cap:Nat)(f g:Fnd)(x0 x1:Itm)(hv:SpcV w.s.spc)(hm:w.s.spc.mounts.length≤1000)(hps:w.s.tab.ps.length≤1000)(hf:w.found[0]?=some f)(hg:w.found[1]?=some g)(hx0:w.r.items[0]?=some x0)(hx1:w.r.items[1]?=some x1)(hn:f.name.size≤100000)(hn2:g.name.size≤100000):ACall Tryz.prog 117 [.bp 0 0] [WA w cap,IB w cap] (fun r b t=>t=[]∧r= .v (.int .i64 (Dp w).2)∧b=[WA (Dp w).1 cap,IB (Dp w).1 cap]):=by
 have hsb:=hv.b hm
 have hrow0:(w.found.map Au)[0]?=some (Au f):=by rw[List.getElem?_map,hf];rfl
 have hrow1:(w.found.map Au)[1]?=some (Au g):=by rw[List.getElem?_map,hg];rfl
 have hfn:At w 0=f:=by unfold At;rw[hf];rfl
 have hgn:At w 1=g:=by unfold At;rw[hg];rfl
 have hil:0<w.r.items.length:=(Ac.1 hx0).1
 obtain⟨R,hR⟩:∃R,R=EG w.s.spc.files f.dir f.name g.dir g.name:=⟨_,rfl⟩
 have hok:=Hd hv.files f.dir f.name g.dir g.name
 rw[←hR]at hok
 have hcall:AFn Tryz.prog 39 [.agg (Ah w.s.spc.files), .agg (AA f.dir), .v (.string f.name), .agg (AA g.dir), .v (.string g.name)] (fun r=>r=CB R):=by rw[hR];exact Sa _ _ _ _ _ hv.files hn hn2
 obtain⟨x,hxd⟩:∃x,x=(AG w.s.spc.files f.dir f.name).1:=⟨_,rfl⟩
 obtain⟨y,hyd⟩:∃y,y=(AG w.s.spc.files g.dir g.name).1:=⟨_,rfl⟩
 have hl1:AFn Tryz.prog 38 [.agg (Ah w.s.spc.files), .agg (AA f.dir), .v (.string f.name)] (fun r=>r= .tup [.agg (AA x), .v (.int .i64 (AG w.s.spc.files f.dir f.name).2)]):=by rw[hxd];exact G8 _ _ _ hsb.files
 have hl2:AFn Tryz.prog 38 [.agg (Ah w.s.spc.files), .agg (AA g.dir), .v (.string g.name)] (fun r=>r= .tup [.agg (AA y), .v (.int .i64 (AG w.s.spc.files g.dir g.name).2)]):=by rw[hyd];exact G8 _ _ _ hsb.files
 obtain⟨e2,he2⟩:∃e,e=(AG w.s.spc.files g.dir g.name).2:=⟨_,rfl⟩
 rw[←he2]at hl2
 have hren:Dp w=if f.ex=false then(w,2)else if f.name=⟨#[]⟩∨g.name=⟨#[]⟩then(w,16)else if g.slash=true∧Ai w.s.spc.files f.file=false then(w,20)else if f.dir.1≠g.dir.1 then(w,18)else if D9 w f.dir 2=false∨D9 w g.dir 2=false then(w,13)else if e2=0∧y≠x∧Ai w.s.spc.files y=true∧Ge w y=true then(w,16)else GJ w R x:=by
  unfold Dp Gd
  rw[hfn,hgn,←hxd,←hyd,←he2,←hR]
 clear hxd hyd he2 hR
 refine enter Tryz.func117 rfl rfl rfl rfl rfl 2 rfl ?_
 refine w_ (a_ (h:=e_ (?_)))
 refine B8 (fun s=>s=⟨look [(0, .bp 0 0),(3, .bp 2 0),(4, .bp 3 0)],⟨[WA w cap,IB w cap,Au f,Au g],[]⟩⟩) ?_ ?_
 ·skip
  refine BM ([(0,WA w cap)]) 16 (h:=AN 0 (h:=BC 1 (h:=AJ 2 (h:=AF 3 (h:=?_)))))
  refine Bn 4 rfl (fun _ hS=>Ck (n:=0) rfl rfl rfl hrow0 ⟨rfl,rfl⟩) ?_
  refine AF 5 (h:=AN 6 (h:=BC 7 (h:=AJ 8 (h:=AF 9 (h:=?_)))))
  refine Bn 10 rfl (fun _ hS=>Ck (n:=1) rfl rfl rfl hrow1 ⟨rfl,rfl⟩) ?_
  refine AF 11 (h:=?_)
  refine Dg 12 13 rfl rfl ?_ ?_
  ·refine Bz (by repeat constructor) ?_
   refine o_ (h:=?_)
   refine c_ 13 rfl (Bz (by repeat constructor) ?_)
   refine o_ (h:=?_)
   refine Az 14 rfl (Av rfl rfl rfl rfl rfl rfl (by repeat constructor) (by repeat constructor) ?_)
   refine o_ (h:=?_)
   refine Az 15 rfl (Av rfl rfl rfl rfl rfl rfl (by repeat constructor) (by repeat constructor) ?_)
   refine o_ (h:=z_ (h:=?_))
   refine AE ?_
   exact⟨_,rfl,DS 4 0⟩
  refine Bz (by repeat constructor) ?_
  refine o_ (h:=?_)
  refine c_ 12 rfl (Bz (by repeat constructor) ?_)
  refine o_ (h:=?_)
  refine Az 14 rfl (Av rfl rfl rfl rfl rfl rfl (by repeat constructor) (by repeat constructor) ?_)
  refine o_ (h:=?_)
  refine Az 15 rfl (Av rfl rfl rfl rfl rfl rfl (by repeat constructor) (by repeat constructor) ?_)
  refine o_ (h:=z_ (h:=?_))
  refine AE ?_
  first|exact⟨_,rfl,DS 4 0⟩|exact⟨_,rfl,Em [0,1,3,2] Ou (by decide) (.cons _ _ _ _ _ rfl rfl (.cons _ _ _ _ _ rfl (JN BB _ _ _) (.cons _ _ _ _ _ rfl rfl (.cons _ _ _ _ _ rfl rfl .nil)))) (by repeat (first|exact SubK.nil|refine SubK.cons _ _ _ _ rfl (LeA.refl _) ?_))⟩
 rintro s rfl
 refine q_ (Al (w_ (f_ (h:=l_ (h:=BR (h:=a_ (h:=e_ (?_))))))))
 refine A7 rfl (fun hb1=>?_) (fun hb1=>?_)
 ·have hc1:=bp hb1
  have k1:f.ex=false:=by simpa using hc1
  refine w_ (a_ (h:=e_ (A6 (Ag (A9 (?_))))))
  refine De (r:= .v (.int .i64 (Dp w).2)) none (h5:=(by rw[hren,if_pos k1];exact LeA.refl _)) (h6:=⟨rfl,rfl,?_⟩)
  rw[hren,if_pos k1]
  rfl
 have hc1:=bp hb1
 have k1:¬f.ex=false:=by simpa using hc1
 refine B8 (fun s=>s=⟨look [(0, .bp 0 0),(3, .bp 2 0),(4, .bp 3 0),(26, .v (.bool (decide (f.name=⟨#[]⟩)||decide (g.name=⟨#[]⟩))))],⟨[WA w cap,IB w cap,Au f,Au g],[]⟩⟩) ?_ ?_
 ·skip
  refine AP (f_ (h:=l_ (h:=AW (h:=m_ (h:=?_)))))
  refine Ar false rfl rfl (fun hb2=>?_) (fun hb2=>?_)
  ·have hc2:=bp hb2
   refine A3 (h:=A3 (h:=A3 (h:=AX (h:=a_ (h:=AO (?_))))))
   refine AE ?_
   exact⟨_,rfl,C6 4 0 (by simp[Aq,Am,Ao,Bh BB,CF,WA,IB,Cd,Au])⟩
  have hc2:=bp hb2
  refine f_ (h:=l_ (h:=AW (h:=Af (h:=a_ (h:=AO (?_))))))
  refine AE ?_
  exact⟨_,rfl,C6 4 0 (by simp[Aq,Am,Ao,Bh BB,CF,WA,IB,Cd,Au])⟩
 rintro s rfl
 refine A7 rfl (fun hb3=>?_) (fun hb3=>?_)
 ·have hc3:=bp hb3
  have k2:f.name=⟨#[]⟩∨g.name=⟨#[]⟩:=by simpa using hc3
  refine w_ (a_ (h:=e_ (A6 (Ag (A9 (?_))))))
  refine De (r:= .v (.int .i64 (Dp w).2)) none (h5:=(by rw[hren,if_neg k1,if_pos k2];exact LeA.refl _)) (h6:=⟨rfl,rfl,?_⟩)
  rw[hren,if_neg k1,if_pos k2]
  rfl
 have hc3:=bp hb3
 have k2:¬(f.name=⟨#[]⟩∨g.name=⟨#[]⟩):=by simpa using hc3
 refine B8 (fun s=>s=⟨look [(0, .bp 0 0),(3, .bp 2 0),(4, .bp 3 0),(35, .v (.bool (g.slash&& !Ai w.s.spc.files f.file)))],⟨[WA w cap,IB w cap,Au f,Au g],[]⟩⟩) ?_ ?_
 ·skip
  refine AP (f_ (h:=l_ (h:=m_ (h:=?_))))
  refine Ar true rfl rfl (fun hb4=>?_) (fun hb4=>?_)
  ·have hc4:=bp hb4
   refine m_ (h:=?_)
   refine B0 (Dy 1 rfl (.cons _ _ _ _ _ rfl (LeA.of_eq rfl) (.cons _ _ _ _ _ rfl (LeA.refl _) .nil)) (cF w .any 0 f hsb hf) ?_)
   rintro r rfl
   refine⟨rfl,?_⟩
   refine BR (h:=AX (h:=a_ (h:=AO (?_))))
   refine AE ?_
   exact⟨_,rfl,C6 4 0 (by simp[Aq,Am,Ao,Bh BB,CF,WA,IB,Cd,Au])⟩
  have hc4:=bp hb4
  refine A3 (h:=A3 (h:=A3 (h:=Af (h:=a_ (h:=AO (?_))))))
  refine AE ?_
  exact⟨_,rfl,C6 4 0 (by simp[Aq,Am,Ao,Bh BB,CF,WA,IB,Cd,Au])⟩
 rintro s rfl
 refine A7 rfl (fun hb5=>?_) (fun hb5=>?_)
 ·have hc5:=bp hb5
  have k3:g.slash=true∧Ai w.s.spc.files f.file=false:=by simpa using hc5
  refine w_ (a_ (h:=e_ (A6 (Ag (A9 (?_))))))
  refine De (r:= .v (.int .i64 (Dp w).2)) none (h5:=(by rw[hren,if_neg k1,if_neg k2,if_pos k3];exact LeA.refl _)) (h6:=⟨rfl,rfl,?_⟩)
  rw[hren,if_neg k1,if_neg k2,if_pos k3]
  rfl
 have hc5:=bp hb5
 have k3:¬(g.slash=true∧Ai w.s.spc.files f.file=false):=by simpa using hc5
 refine w_ (f_ (h:=f_ (h:=l_ (h:=f_ (h:=f_ (h:=l_ (h:=BN (h:=a_ (h:=e_ (?_))))))))))
 refine A7 rfl (fun hb6=>?_) (fun hb6=>?_)
 ·have hc6:=bp hb6
  have k4:f.dir.1≠g.dir.1:=by simpa using hc6
  refine w_ (a_ (h:=e_ (A6 (Ag (A9 (?_))))))
  refine De (r:= .v (.int .i64 (Dp w).2)) none (h5:=(by rw[hren,if_neg k1,if_neg k2,if_neg k3,if_pos k4];exact LeA.refl _)) (h6:=⟨rfl,rfl,?_⟩)
  rw[hren,if_neg k1,if_neg k2,if_neg k3,if_pos k4]
  rfl
 have hc6:=bp hb6
 have k4:¬f.dir.1≠g.dir.1:=by simpa using hc6
 refine B8 (fun s=>s=⟨look [(0, .bp 0 0),(3, .bp 2 0),(4, .bp 3 0),(51, .v (.bool (!D9 w f.dir 2|| !D9 w g.dir 2)))],⟨[WA w cap,IB w cap,Au f,Au g],[]⟩⟩) ?_ ?_
 ·skip
  refine AP (m_ (h:=f_ (h:=l_ (h:=?_))))
  refine A4 rfl (Dy 1 rfl (.cons _ _ _ _ _ rfl (LeA.of_eq rfl) (.cons _ _ _ _ _ rfl (LeA.refl _) (.cons _ _ _ _ _ rfl (LeA.refl _) .nil))) (NM w .any f.dir 2 hsb) ?_)
  rintro r rfl
  refine⟨rfl,?_⟩
  refine BR (h:=m_ (h:=?_))
  refine Ar false rfl rfl (fun hb7=>?_) (fun hb7=>?_)
  ·have hc7:=bp hb7
   refine A3 (h:=A3 (h:=A3 (h:=A3 (h:=A3 (h:=AX (h:=a_ (h:=AO (?_))))))))
   refine AE ?_
   exact⟨_,rfl,C6 4 0 (by simp[Aq,Am,Ao,Bh BB,CF,WA,IB,Cd,Au])⟩
  have hc7:=bp hb7
  refine m_ (h:=f_ (h:=l_ (h:=?_)))
  refine B0 (Dy 1 rfl (.cons _ _ _ _ _ rfl (LeA.of_eq rfl) (.cons _ _ _ _ _ rfl (LeA.refl _) (.cons _ _ _ _ _ rfl (LeA.refl _) .nil))) (NM w .any g.dir 2 hsb) ?_)
  rintro r rfl
  refine⟨rfl,?_⟩
  refine BR (h:=Af (h:=a_ (h:=AO (?_))))
  refine AE ?_
  exact⟨_,rfl,C6 4 0 (by simp[Aq,Am,Ao,Bh BB,CF,WA,IB,Cd,Au])⟩
 rintro s rfl
 refine A7 rfl (fun hb8=>?_) (fun hb8=>?_)
 ·have hc8:=bp hb8
  have k5:D9 w f.dir 2=false∨D9 w g.dir 2=false:=by simpa using hc8
  refine w_ (a_ (h:=e_ (A6 (Ag (A9 (?_))))))
  refine De (r:= .v (.int .i64 (Dp w).2)) none (h5:=(by rw[hren,if_neg k1,if_neg k2,if_neg k3,if_neg k4,if_pos k5];exact LeA.refl _)) (h6:=⟨rfl,rfl,?_⟩)
  rw[hren,if_neg k1,if_neg k2,if_neg k3,if_neg k4,if_pos k5]
  rfl
 have hc8:=bp hb8
 have k5:¬(D9 w f.dir 2=false∨D9 w g.dir 2=false):=by simpa using hc8
 refine B4 (Ay (t_ (?_)))
 refine B8 (fun s=>s=⟨look [(0, .bp 0 0),(3, .bp 2 0),(4, .bp 3 0),(5, .bp 4 0)],⟨[WA w cap,IB w cap,Au f,Au g,AA x],[]⟩⟩) ?_ ?_
 ·skip
  refine BM ([(0,WA w cap),(1,IB w cap),(2,Au f),(3,Au g)]) 17 (h:=AN 0 (h:=BC 1 (h:=AJ 2 (h:=AJ 3 (h:=AJ 4 (h:=AF 5 (h:=AJ 6 (h:=AF 7 (h:=AJ 8 (h:=AF 9 (h:=?_)))))))))))
  refine Dg 10 14 rfl rfl ?_ ?_
  ·refine AK (hl1) ?_
   rintro r rfl
   refine o_ (h:=?_)
   refine AN 11 (h:=B1 12 (h:=B1 13 (h:=?_)))
   refine c_ 14 rfl (Bz (by repeat constructor) ?_)
   refine o_ (h:=?_)
   refine Az 15 rfl (Av rfl rfl rfl rfl rfl rfl (by repeat constructor) (by repeat constructor) ?_)
   refine o_ (h:=B6 16 (h:=z_ (h:=?_)))
   refine AE ?_
   exact⟨_,rfl,DS 5 0⟩
  refine Bz (by repeat constructor) ?_
  refine o_ (h:=?_)
  refine c_ 10 rfl (AK (hl1) ?_)
  rintro r rfl
  refine o_ (h:=AN 11 (h:=B1 12 (h:=B1 13 (h:=?_))))
  refine Az 15 rfl (Av rfl rfl rfl rfl rfl rfl (by repeat constructor) (by repeat constructor) ?_)
  refine o_ (h:=B6 16 (h:=z_ (h:=?_)))
  refine AE ?_
  exact⟨_,rfl,DS 5 0⟩
 rintro s rfl
 refine q_ (?_)
 refine B8 (fun s=>s=⟨look [(0, .bp 0 0),(3, .bp 2 0),(4, .bp 3 0),(5, .bp 4 0),(7, .bp 5 0),(8, .v (.int .i64 e2))],⟨[WA w cap,IB w cap,Au f,Au g,AA x,AA y],[]⟩⟩) ?_ ?_
 ·skip
  refine BM ([(0,WA w cap),(1,IB w cap),(2,Au f),(3,Au g),(4,AA x)]) 17 (h:=AN 0 (h:=BC 1 (h:=AJ 2 (h:=AJ 3 (h:=AJ 4 (h:=AF 5 (h:=AJ 6 (h:=AF 7 (h:=AJ 8 (h:=AF 9 (h:=?_)))))))))))
  refine Dg 10 14 rfl rfl ?_ ?_
  ·refine AK (hl2) ?_
   rintro r rfl
   refine o_ (h:=?_)
   refine AN 11 (h:=B1 12 (h:=B1 13 (h:=?_)))
   refine c_ 14 rfl (Bz (by repeat constructor) ?_)
   refine o_ (h:=?_)
   refine Az 15 rfl (Av rfl rfl rfl rfl rfl rfl (by repeat constructor) (by repeat constructor) ?_)
   refine o_ (h:=B6 16 (h:=z_ (h:=?_)))
   refine AE ?_
   exact⟨_,rfl,DS 6 0⟩
  refine Bz (by repeat constructor) ?_
  refine o_ (h:=?_)
  refine c_ 10 rfl (AK (hl2) ?_)
  rintro r rfl
  refine o_ (h:=AN 11 (h:=B1 12 (h:=B1 13 (h:=?_))))
  refine Az 15 rfl (Av rfl rfl rfl rfl rfl rfl (by repeat constructor) (by repeat constructor) ?_)
  refine o_ (h:=B6 16 (h:=z_ (h:=?_)))
  refine AE ?_
  exact⟨_,rfl,DS 6 0⟩
 rintro s rfl
 refine B8 (fun s=>s=⟨look [(0, .bp 0 0),(3, .bp 2 0),(4, .bp 3 0),(5, .bp 4 0),(113, .v (.bool (decide (e2=0)&& !decide ((y.1,y.2)=(x.1,x.2))&&Ai w.s.spc.files y&&Ge w y)))],⟨[WA w cap,IB w cap,Au f,Au g,AA x],[]⟩⟩) ?_ ?_
 ·skip
  refine DV 22 (h:=AN 0 (h:=GS 1 (h:=AN 2 (h:=?_))))
  refine Gq (j:=2) rfl (fun hb9=>?_) (fun hb9=>?_)
  ·have hc9:=bp hb9
   refine AF 3 (h:=AF 4 (h:=?_))
   refine F0 (i:=5) rfl (Ei rfl rfl (by repeat constructor) (by repeat constructor) (fun w=>RH _ _ _ _ w) (by kernel_rfl) ⟨rfl,rfl⟩) ?_
   refine Gx 6 (h:=AN 7 (h:=?_))
   refine Gq (j:=7) rfl (fun hb10=>?_) (fun hb10=>?_)
   ·have hc10:=bp hb10
    refine AN 8 (h:=BC 9 (h:=AJ 10 (h:=AJ 11 (h:=AJ 12 (h:=AF 13 (h:=AF 14 (h:=?_)))))))
    refine c_ 15 rfl (AK (Fl w.s.spc.files y hsb.files) ?_)
    rintro r rfl
    refine o_ (h:=Gx 16 (h:=AN 17 (h:=?_)))
    refine Gq (j:=17) rfl (fun hb11=>?_) (fun hb11=>?_)
    ·have hc11:=bp hb11
     refine AN 18 (h:=AF 19 (h:=?_))
     refine c_ 20 rfl (Dy 1 rfl (.cons _ _ _ _ _ rfl (LeA.of_eq rfl) (.cons _ _ _ _ _ rfl (LeA.refl _) .nil)) (cG w .any y hsb hps) ?_)
     rintro r rfl
     refine⟨rfl,?_⟩
     refine o_ (h:=Gx 21 (h:=z_ (h:=?_)))
     refine AE ?_
     exact⟨_,rfl,As 5 0 rfl rfl rfl (by simp[Aq,Am,Ao,Bh BB,CF,WA,IB,Cd,Au,AA]) (by repeat (first|exact Sub.nil|refine Sub.cons _ _ _ rfl rfl ?_|refine Sub.any _ _ ?_|refine Sub.sl _ _ _ _ _ rfl ?_|refine Sub.slnil _ _ _ rfl ?_|(apply Sub.of;(focus exact rfl);(focus exact LeA.of_eq (vb (by first|(simp[*];done)|(simp only[*,decide_true,decide_false,Bool.not_true,Bool.not_false,Bool.true_and,Bool.and_true,Bool.false_and,Bool.and_false]))));(focus exact rfl))))⟩
    have hc11:=bp hb11
    refine BW 18 (h:=BW 19 (h:=BW 20 (h:=FP 21 (h:=z_ (h:=?_)))))
    refine AE ?_
    exact⟨_,rfl,As 5 0 rfl rfl rfl (by simp[Aq,Am,Ao,Bh BB,CF,WA,IB,Cd,Au,AA]) (by repeat (first|exact Sub.nil|refine Sub.cons _ _ _ rfl rfl ?_|refine Sub.any _ _ ?_|refine Sub.sl _ _ _ _ _ rfl ?_|refine Sub.slnil _ _ _ rfl ?_|(apply Sub.of;(focus exact rfl);(focus exact LeA.of_eq (vb (by first|(simp[*];done)|(simp only[*,decide_true,decide_false,Bool.not_true,Bool.not_false,Bool.true_and,Bool.and_true,Bool.false_and,Bool.and_false]))));(focus exact rfl))))⟩
   have hc10:=bp hb10
   refine BW 8 (h:=BW 9 (h:=BW 10 (h:=BW 11 (h:=BW 12 (h:=BW 13 (h:=BW 14 (h:=BW 15 (h:=FP 16 (h:=AN 17 (h:=BW 18 (h:=BW 19 (h:=BW 20 (h:=FP 21 (h:=z_ (h:=?_)))))))))))))))
   refine AE ?_
   exact⟨_,rfl,As 5 0 rfl rfl rfl (by simp[Aq,Am,Ao,Bh BB,CF,WA,IB,Cd,Au,AA]) (by repeat (first|exact Sub.nil|refine Sub.cons _ _ _ rfl rfl ?_|refine Sub.any _ _ ?_|refine Sub.sl _ _ _ _ _ rfl ?_|refine Sub.slnil _ _ _ rfl ?_|(apply Sub.of;(focus exact rfl);(focus exact LeA.of_eq (vb (by first|(simp[*];done)|(simp only[*,decide_true,decide_false,Bool.not_true,Bool.not_false,Bool.true_and,Bool.and_true,Bool.false_and,Bool.and_false]))));(focus exact rfl))))⟩
  have hc9:=bp hb9
  refine BW 3 (h:=BW 4 (h:=BW 5 (h:=FP 6 (h:=AN 7 (h:=BW 8 (h:=BW 9 (h:=BW 10 (h:=BW 11 (h:=BW 12 (h:=BW 13 (h:=BW 14 (h:=BW 15 (h:=FP 16 (h:=AN 17 (h:=BW 18 (h:=BW 19 (h:=BW 20 (h:=FP 21 (h:=z_ (h:=?_))))))))))))))))))))
  refine AE ?_
  exact⟨_,rfl,As 5 0 rfl rfl rfl (by simp[Aq,Am,Ao,Bh BB,CF,WA,IB,Cd,Au,AA]) (by repeat (first|exact Sub.nil|refine Sub.cons _ _ _ rfl rfl ?_|refine Sub.any _ _ ?_|refine Sub.sl _ _ _ _ _ rfl ?_|refine Sub.slnil _ _ _ rfl ?_|(apply Sub.of;(focus exact rfl);(focus exact LeA.of_eq (vb (by first|(simp[*];done)|(simp only[*,decide_true,decide_false,Bool.not_true,Bool.not_false,Bool.true_and,Bool.and_true,Bool.false_and,Bool.and_false]))));(focus exact rfl))))⟩
 rintro s rfl
 refine A7 rfl (fun hb12=>?_) (fun hb12=>?_)
 ·have hc12:=bp hb12
  have k6:=UH.1 hb12
  refine w_ (a_ (h:=e_ (A6 (A9 (?_)))))
  refine De (r:= .v (.int .i64 (Dp w).2)) none (h5:=(by rw[hren,if_neg k1,if_neg k2,if_neg k3,if_neg k4,if_neg k5,if_pos k6];exact LeA.refl _)) (h6:=⟨rfl,rfl,?_⟩)
  rw[hren,if_neg k1,if_neg k2,if_neg k3,if_neg k4,if_neg k5,if_pos k6]
  rfl
 have hc12:=bp hb12
 have k6:¬(e2=0∧y≠x∧Ai w.s.spc.files y=true∧Ge w y=true):=fun h=>by rw[UH.2 h]at hb12;cases hb12
 refine AM (q_ (BM ([(0,WA w cap),(1,IB w cap),(2,Au f),(3,Au g)]) 19 (h:=AN 0 (h:=AN 1 (h:=BC 2 (h:=AJ 3 (h:=AJ 4 (h:=AJ 5 (h:=AF 6 (h:=AJ 7 (h:=AF 8 (h:=AJ 9 (h:=AF 10 (h:=AJ 11 (h:=AF 12 (h:=AJ 13 (h:=AF 14 (h:=?_))))))))))))))))))
 refine c_ 15 rfl (AK (hcall) ?_)
 rintro r rfl
 refine o_ (h:=B1 16 (h:=B1 17 (h:=B1 18 (h:=?_))))
 refine c_ 19 rfl (Ct [0,1] rfl (.cons _ _ _ _ _ rfl (LeA.refl _) (.cons _ _ _ _ _ rfl (LeA.refl _) (.cons _ _ _ _ _ rfl (LeA.refl _) (.cons _ _ _ _ _ rfl (LeA.refl _) .nil)))) (by decide) (.cons _ _ _ _ _ rfl rfl (.cons _ _ _ _ _ rfl (Fc BB _ _ _) .nil)) (UC w cap R.1 R.2.1 R.2.2) ?_)
 rintro r bc tc ⟨rfl,rfl,rfl⟩
 refine⟨rfl,_,Gi rfl (Bk w R).1 cap,?_⟩
 refine o_ (h:=?_)
 refine c_ 20 rfl (Fz rfl ?_)
 refine o_ (h:=z_ (h:=t_ (q_ (?_))))
 refine B8 (fun s=>s=⟨look [(0, .bp 0 0),(5, .bp 4 0),(9, .v (.int .i64 R.2.2)),(144, .v (.bool (decide (R.2.2=0)&&decide (0<(R.2.1.length:Int)))))],⟨[WA (Bk w R).1 cap,IB (Bk w R).1 cap,Au f,Au g,AA x],[]⟩⟩) ?_ ?_
 ·skip
  refine AP (m_ (h:=AW (h:=m_ (h:=?_))))
  refine Ar true rfl rfl (fun hb13=>?_) (fun hb13=>?_)
  ·have hc13:=bp hb13
   have hch:(Bk w R).1.r.changes=R.2.1:=by rw[Hn hc13]
   refine m_ (h:=k_ (h:=f_ (h:=f_ (h:=l_ (h:=n_ (h:=CC (h:=AX (h:=AO (?_)))))))))
   refine AE ?_
   exact⟨_,rfl,C6 5 0 (by simp[Aq,Am,Ao,Bh BB,CF,WA,IB,Cd,Au,AA])⟩
  have hc13:=bp hb13
  refine A3 (h:=A3 (h:=A3 (h:=A3 (h:=A3 (h:=A3 (h:=A3 (h:=Af (h:=AO (?_)))))))))
  refine AE ?_
  exact⟨_,rfl,C6 5 0 (by simp[Aq,Am,Ao,Bh BB,CF,WA,IB,Cd,Au,AA])⟩
 rintro s rfl
 refine A7 rfl (fun hb14=>?_) (fun hb14=>?_)
 ·have hc14:=bp hb14
  have h0:R.2.2=0:=of_decide_eq_true ((Bool.and_eq_true _ _).mp hb14).1
  have hfb:FlsB (Eu (Bk w R).1 0 3).s.spc.files:=by rw[Hn h0];exact(hok h0).1.b
  have hit:(Bk w R).1.r.items=w.r.items:=by rw[Hn h0]
  have hxa:(Bk w R).1.r.items[0]?=some x0:=by rw[hit];exact hx0
  have hil1:0<(Bk w R).1.r.items.length:=by rw[hit];exact hil
  have hxr:(Eu (Bk w R).1 0 3).r.items[1]?=some x1:=by
   show((Bk w R).1.r.items.modify 0 _)[1]?=_
   rw[hit,List.getElem?_modify]
   simp[hx1]
  refine B8 (fun s=>s=⟨look [(0, .bp 0 0),(5, .bp 4 0),(9, .v (.int .i64 R.2.2))],⟨[WA (Eu (Bk w R).1 0 3) cap,IB (Eu (Bk w R).1 0 3) cap,Au f,Au g,AA x],[]⟩⟩) ?_ ?_
  ·skip
   refine AP (m_ (h:=k_ (h:=f_ (h:=f_ (h:=l_ (h:=?_))))))
   refine A4 rfl (Cr (m:=0) rfl rfl rfl hil1 ?_)
   refine f_ (h:=?_)
   refine Kd (Av rfl rfl rfl rfl rfl rfl (Hl BB (x':={x0 with role:=3}) hxa (by repeat constructor) (List.cons_ne_nil _ _)) (by repeat constructor) ?_)
   refine AO (?_)
   refine AE ?_
   refine⟨_,rfl,?_⟩
   rw[cZ,d6 hxa]
   exact DS 5 0
  rintro s rfl
  refine AP (m_ (h:=l_ (h:=?_)))
  refine A4 rfl (Ct [0,1] rfl (.cons _ _ _ _ _ rfl (LeA.refl _) (.cons _ _ _ _ _ rfl (LeA.refl _) (.cons _ _ _ _ _ rfl (LeA.refl _) .nil))) (by decide) (.cons _ _ _ _ _ rfl rfl (.cons _ _ _ _ _ rfl (Fc BB _ _ _) .nil)) (UG (Eu (Bk w R).1 0 3) cap 1 x x1 hfb hxr) ?_)
  rintro r bc tc ⟨rfl,rfl,rfl⟩
  refine⟨rfl,_,Gi rfl (GH (Eu (Bk w R).1 0 3) 1 x) cap,?_⟩
  refine e_ (w_ (m_ (h:=a_ (h:=e_ (A6 (?_))))))
  refine De (r:= .v (.int .i64 (Dp w).2)) none (h5:=(by rw[hren,if_neg k1,if_neg k2,if_neg k3,if_neg k4,if_neg k5,if_neg k6,UJ hb14];exact LeA.refl _)) (h6:=⟨rfl,rfl,?_⟩)
  rw[hren,if_neg k1,if_neg k2,if_neg k3,if_neg k4,if_neg k5,if_neg k6,UJ hb14]
  rfl
 have hc14:=bp hb14
 refine AM (w_ (m_ (h:=a_ (h:=e_ (A6 (?_))))))
 refine De (r:= .v (.int .i64 (Dp w).2)) none (h5:=(by rw[hren,if_neg k1,if_neg k2,if_neg k3,if_neg k4,if_neg k5,if_neg k6,UK hb14];exact LeA.refl _)) (h6:=⟨rfl,rfl,?_⟩)
 rw[hren,if_neg k1,if_neg k2,if_neg k3,if_neg k4,if_neg k5,if_neg k6,UK hb14]
 rfl
end
end Go.Proofs.YtbglbmnhgbgelaaGreatDoor
