/-
  Part 14 of the proof of WatchCurrentP: what the statement's proof uses of the texts in wip/tpl.
-/
import Derived.Test.YtbglbmnhgbgelaaGreatDoorQb13
set_option maxRecDepth 10000
set_option maxHeartbeats 4000000
set_option linter.unusedVariables false
set_option linter.unusedSimpArgs false
namespace Go.Proofs.YtbglbmnhgbgelaaGreatDoor
open Go.RowKit
theorem UB:∀(l:List Dsc) (k:Nat),Dk k l≤k+l.length
 |[],k=>Nat.le_refl _
 |d::l,k=>by
   unfold Dk
   split
   ·have:=UB l (k+1);simp only[List.length_cons];omega
   omega
theorem bW{α:Type}{l:List α}{j:Nat}{x:α}(h:l[j]?=some x):l.drop j=x::l.drop (j+1):=by
 obtain⟨hl,rfl⟩:=Af.1 h
 exact List.drop_eq_getElem_cons hl
def UC(p:Prc)(x:AV):List AV:=[.v (.int .i64 p.pid), .v (.int .i64 p.ppid), .v (.int .i64 p.uid), .v (.int .i64 p.euid), .v (.int .i64 p.gid), .v (.int .i64 p.egid), .v (.int .i64 p.auid), .v (.int .i64 p.ses), .v (.int .i64 p.cwd.1), .v (.int .i64 p.cwd.2), .v (.string p.comm), .v (.string p.exe),x, .v (.bool p.audited)]
theorem bY(p:Prc)(rows:List (List AV))(g:Option Nat)(l:List Dsc)(h:rows=l.map Hl):LeA (.agg (UC p (.sl 4 rows g))) (.agg (BW {p with opens:=l})):=by
 subst h
 unfold UC BW
 repeat (first|exact LeA.refl _|exact LeA.tok _ _ _|refine LeA.agg ?_|exact LeL.nil|refine LeL.cons ?_ ?_)
def NK(R:Tab×Int×Int):AV:= .tup [.agg (Bv R.1), .v (.int .i64 R.2.1), .v (.int .i64 R.2.2)]
theorem UD(n e:Int):LeA (.tup [.agg Db, .v (.int .i64 n), .v (.int .i64 e)]) (NK (Cz,n,e)):=(by repeat (first|exact LeA.refl _|exact LeA.nil _|exact LeL.refl _|refine LeA.agg ?_|refine LeA.tup ?_|exact LeL.nil|refine LeL.cons ?_ ?_|exact LeA.any _))
def NL(R:Syst×Int):AV:= .tup [.agg (D1 R.1), .v (.int .i64 R.2)]
def Cd(w:Wrk):AV:= .sl 8 (w.found.map Av) none
section
theorem UE(t:Tab)(pid:Int)(a:A9)(flags:Int)(ht:TabB t):AFn Tryz.prog 151 [.agg (Bv t), .v (.int .i64 pid), .agg (AA a), .v (.int .i64 flags)] (fun r=>r=NK (EH t pid a flags)):=by
 have h8:=ZL ht pid
 have hol:((Ax t pid).opens.map Hl).length=(Ax t pid).opens.length:=List.length_map _
 have hfl:Dk 0 (Ax t pid).opens≤(Ax t pid).opens.length:=by have:=UB (Ax t pid).opens 0;omega
 refine enter Tryz.func151 rfl rfl rfl rfl rfl 0 rfl ?_
 refine w_ (b_ (h:=b_ (h:=AY (h:=a_ (h:=a_ (h:=e_ (w_ (l_ (h:=m_ (h:=?_))))))))))
 refine A6 rfl (AG (Tf t pid ht) ?_)
 rintro r rfl
 refine m_ (h:=x_ (h:=x_ (h:=AY (h:=s_ (h:=a_ (h:=e_ (q_ (w_ (m_ (h:=BR (h:=e_ (?_))))))))))))
 refine A8 rfl (fun hb1=>?_) (fun hb1=>?_)
 ·have hc1:=bp hb1
  refine w_ (AT (h:=s_ (h:=a_ (h:=a_ (h:=e_ (A4 (A7 (?_))))))))
  refine Aw (r:=NK (EH t pid a flags)) none (h5:=?_) (h6:=⟨rfl,rfl,rfl⟩)
  rw[EH,if_pos (by simpa using hc1)]
  exact UD _ _
 have hc1:=bp hb1
 have hhas:Da t pid=true:=by simpa using hc1
 refine AM (q_ (w_ (f_ (h:=l_ (h:=n_ (h:=Fk (h:=e_ (?_))))))))
 refine A8 rfl (fun hb2=>?_) (fun hb2=>?_)
 ·have hc2:=bp hb2
  refine w_ (AT (h:=s_ (h:=a_ (h:=a_ (h:=e_ (A4 (A7 (?_))))))))
  refine Aw (r:=NK (EH t pid a flags)) none (h5:=?_) (h6:=⟨rfl,rfl,rfl⟩)
  rw[EH,if_neg (by simp[hhas]),if_pos (by omega)]
  exact UD _ _
 have hc2:=bp hb2
 refine AM (w_ (a_ (h:=e_ (?_))))
 refine BB (fun s=>s=⟨look [(3, .v (.int .i64 flags)),(4, .bp 0 0),(6, .bp 1 0),(8, .bp 2 0),(11, .bp 3 0),(13, .v (.int .i64 (Dk 0 (Ax t pid).opens:Nat)))],⟨[Bv t,AA a,Db,BW (Ax t pid)],[]⟩⟩) ?_ ?_
 ·skip
  refine Aj (?_)
  refine Bg (fun m s=>∃j:Nat,j≤(Ax t pid).opens.length∧m=(Ax t pid).opens.length - j∧Dk 0 (Ax t pid).opens=Dk j ((Ax t pid).opens.drop j)∧s=⟨look [(3, .v (.int .i64 flags)),(4, .bp 0 0),(6, .bp 1 0),(8, .bp 2 0),(11, .bp 3 0),(13, .v (.int .i64 (j:Int)))],⟨[Bv t,AA a,Db,BW (Ax t pid)],[]⟩⟩) ((Ax t pid).opens.length) ((wk 4 0)) (⟨0,Nat.zero_le _,rfl,rfl,rfl⟩) ?_
  rintro m s ⟨j,hj,rfl,hfd,rfl⟩
  refine q_ (w_ (m_ (h:=f_ (h:=l_ (h:=n_ (h:=BH (h:=m_ (h:=?_))))))))
  refine Ar true rfl rfl (fun hb3=>?_) (fun hb3=>?_)
  ·have hc3:=bp hb3
   obtain⟨hlt,d,hy,hrow, -⟩:=Ca Hl hc3
   have hdr:=bW hy
   refine f_ (h:=l_ (h:=m_ (h:=i_ (h:=f_ (h:=l_ (h:=m_ (h:=AW (h:=AZ (h:=e_ (?_))))))))))
   refine A8 rfl (fun hb4=>?_) (fun hb4=>?_)
   ·have hc4:=bp hb4
    have heq:d.fd=(j:Int):=by simpa using hc4
    refine AM (Aj (AQ (m_ (h:=B6 (h:=a_ (h:=AO (As (?_))))))))
    refine AF ?_
    refine⟨_,_,?_,⟨j+1,by omega,rfl,by rw[hfd,hdr,Dk,if_pos heq],rfl⟩,(wk 4 0)⟩
    omega
   have hc4:=bp hb4
   have hend:Dk 0 (Ax t pid).opens=j:=by rw[hfd,hdr,Dk,if_neg (by simpa using hc4)]
   refine BM (Ak (Ak (BN (?_))))
   refine AF ?_
   refine⟨_,rfl,?_⟩
   rw[hend]
   exact(wk 4 0)
  have hc3:=bp hb3
  have hend:Dk 0 (Ax t pid).opens=j:=by rw[hfd,Cn Hl hj hc3,List.drop_length];rfl
  refine A3 (h:=A3 (h:=A3 (h:=A3 (h:=A3 (h:=A3 (h:=A3 (h:=A3 (h:=Ah (h:=e_ (Fi (h:=BM (Ak (Ak (BN (?_)))))))))))))))
  refine AF ?_
  refine⟨_,rfl,?_⟩
  rw[hend]
  exact(wk 4 0)
 rintro s rfl
 refine w_ (f_ (h:=l_ (h:=m_ (h:=?_))))
 refine A6 rfl (V5 (k:=Dk 0 (Ax t pid).opens) rfl rfl rfl (by omega) ?_)
 first|refine A6 rfl (EM rfl rfl rfl (by simp;omega) (by repeat constructor) ?_)|refine A6 rfl (GQ rfl rfl (by simp;omega) (by repeat constructor) ?_)
 refine a_ (h:=e_ (w_ (m_ (h:=m_ (h:=l_ (h:=m_ (h:=AT (h:=Bh (h:=?_)))))))))
 refine A6 rfl (EM rfl rfl rfl (by simp;omega) (by repeat constructor) ?_)
 refine a_ (h:=e_ (w_ (m_ (h:=f_ (h:=l_ (h:=m_ (h:=?_)))))))
 refine A6 rfl (Ns (l:=Dk 0 (Ax t pid).opens) rfl rfl rfl (by omega) ?_)
 refine A6 rfl (EM rfl rfl rfl (by simp;omega) (by repeat constructor) ?_)
 refine f_ (h:=s_ (h:=e_ (w_ (l_ (h:=?_)))))
 refine A6 rfl (Ef (y:= .agg (BW {Ax t pid with opens:=K6 (Ax t pid).opens (Dk 0 (Ax t pid).opens) ⟨(Dk 0 (Ax t pid).opens:Nat),a,flags⟩})) (Gs rfl rfl rfl ⟨rfl,rfl⟩) (bY _ _ _ _ (by simp[K6,Hl];rfl)) ?_)
 refine A6 rfl (AG (ZQ t {Ax t pid with opens:=K6 (Ax t pid).opens (Dk 0 (Ax t pid).opens) ⟨(Dk 0 (Ax t pid).opens:Nat),a,flags⟩} ht (ZM hhas) (by simp[K6];omega)) ?_)
 rintro r rfl
 refine m_ (h:=s_ (h:=a_ (h:=a_ (h:=e_ (A4 (?_))))))
 refine AB ?_
 rw[EH,if_neg (by simp[hhas]),if_neg (by omega)];rfl
theorem bZ(a:A9):AFn Tryz.prog 85 [.agg (AA a)] (fun r=>r= .agg (Bv (Pi a))):=by
 refine enter Tryz.func85 rfl rfl rfl rfl rfl 0 rfl ?_
 refine w_ (b_ (h:=AY (h:=e_ (w_ (l_ (h:=?_))))))
 refine A6 rfl (Fl (y:= .agg (BW ⟨1,0,0,0,0,0,4294967295,4294967295,a,⟨#[105,110,105,116]⟩,⟨#[47,105,110,105,116]⟩,[],true⟩)) (DD ⟨rfl,rfl⟩) ?_)
 refine Bh (h:=AT (h:=s_ (h:=e_ (A4 (?_)))))
 refine AB ?_
 rfl
theorem cA(n:Int):AFn Tryz.prog 44 [.v (.int .i64 n)] (fun r=>r=NL (GJ n)):=by
 refine enter Tryz.func44 rfl rfl rfl rfl rfl 0 rfl ?_
 refine w_ (AY (h:=a_ (h:=e_ (w_ (m_ (h:=?_))))))
 refine A6 rfl (AG (RR n) ?_)
 rintro r rfl
 refine m_ (h:=x_ (h:=x_ (h:=AY (h:=s_ (h:=a_ (h:=e_ (q_ (w_ (m_ (h:=BS (h:=e_ (?_))))))))))))
 refine A8 rfl (fun hb1=>?_) (fun hb1=>?_)
 ·have hc1:=bp hb1
  refine w_ (AT (h:=m_ (h:=s_ (h:=a_ (h:=e_ (A4 (A7 (?_))))))))
  refine Aw (r:=NL (GJ n)) none (h5:=?_) (h6:=⟨rfl,rfl,rfl⟩)
  rw[GJ,if_pos (by simpa using hc1)]
  exact(by repeat (first|exact LeA.refl _|exact LeA.nil _|exact LeL.refl _|refine LeA.agg ?_|refine LeA.tup ?_|exact LeL.nil|refine LeL.cons ?_ ?_|exact LeA.any _))
 have hc1:=bp hb1
 refine AM (q_ (BL ([(1,Ag (Dy n).1)]) 7 (h:=AE 0 (h:=Fj 1 (h:=Fj 2 (h:=?_))))))
 refine c_ 3 rfl (AG (bZ (0,1)) ?_)
 rintro r rfl
 refine o_ (h:=Fj 4 (h:=?_))
 refine B0 5 rfl (Ay rfl rfl rfl rfl rfl rfl (by repeat constructor) (by repeat constructor) ?_)
 refine o_ (h:=B3 6 (h:=z_ (h:=t_ (A4 (?_)))))
 refine Aw (r:=NL (GJ n)) none (h5:=?_) (h6:=⟨rfl,rfl,rfl⟩)
 rw[GJ,if_neg (by simpa using hc1)]
 exact(by repeat (first|exact LeA.refl _|exact LeA.nil _|exact LeL.refl _|refine LeA.agg ?_|refine LeA.tup ?_|exact LeL.nil|refine LeL.cons ?_ ?_|exact LeA.any _))
theorem NM(s:Syst)(hs:SpcB s.spc)(ht:TabB s.tab):AFn Tryz.prog 64 [.agg (D1 s)] (fun r=>r= .agg (D1 s)):=by
 refine enter Tryz.func64 rfl rfl rfl rfl rfl 0 rfl ?_
 refine w_ (b_ (h:=AY (h:=e_ (q_ (BL ([(0,D1 s)]) 7 (h:=AK 0 (h:=?_)))))))
 refine AE 1 (h:=?_)
 refine AK 3 (h:=?_)
 refine AE 4 (h:=?_)
 refine c_ 2 rfl (AG (Zr s.spc hs) ?_)
 rintro r rfl
 refine o_ (h:=?_)
 refine c_ 5 rfl (AG (ZO s.tab ht) ?_)
 rintro r rfl
 refine o_ (h:=Fj 6 (h:=?_))
 refine B0 7 rfl (Ay rfl rfl rfl rfl rfl rfl (by repeat constructor) (by repeat constructor) ?_)
 refine o_ (h:=z_ (h:=t_ (A4 (?_))))
 refine AB ?_
 rfl
theorem cB(s:Spc)(given:AD)(perm:Int)(f:Fnd)(hs:SpcB s):AFn Tryz.prog 112 [.agg (Al s), .v (.string given), .v (.int .i64 perm), .agg (Av f)] (fun r=>r= .agg (CK (Lc s given perm f))):=by
 refine enter Tryz.func112 rfl rfl rfl rfl rfl 0 rfl ?_
 refine w_ (b_ (h:=b_ (h:=AY (h:=e_ (w_ (f_ (h:=l_ (h:=f_ (h:=l_ (h:=?_))))))))))
 refine A6 rfl (AG (DW s.files f.file hs.files) ?_)
 rintro r rfl
 refine m_ (h:=x_ (h:=x_ (h:=AY (h:=s_ (h:=a_ (h:=e_ (w_ (m_ (h:=f_ (h:=l_ (h:=f_ (h:=l_ (h:=f_ (h:=l_ (h:=f_ (h:=l_ (h:=f_ (h:=l_ (h:=f_ (h:=l_ (h:=f_ (h:=l_ (h:=f_ (h:=?_))))))))))))))))))))))))
 refine l_ (h:=m_ (h:=AT (h:=s_ (h:=e_ (A4 (?_))))))
 refine AB ?_
 rfl
theorem NN(w:Wrk)(its:AV)(a:A9)(want:Int)(hs:SpcB w.s.spc):AFn Tryz.prog 149 [.fp (Ci w (Cd w) its), .agg (AA a), .v (.int .i64 want)] (fun r=>r= .v (.bool (D7 w a want))):=by
 refine enter Tryz.func149 rfl rfl rfl rfl rfl 0 rfl ?_
 refine w_ (b_ (h:=a_ (h:=e_ (q_ (BL ([(0,AA a)]) 14 (h:=AN 0 (h:=BC 1 (h:=AK 2 (h:=AK 3 (h:=AK 4 (h:=AE 5 (h:=AE 6 (h:=?_)))))))))))))
 refine Dx 7 11 rfl rfl ?_ ?_
 ·refine AG (DW w.s.spc.files a hs.files) ?_
  rintro r rfl
  refine o_ (h:=?_)
  refine AN 8 (h:=B1 9 (h:=B1 10 (h:=?_)))
  refine c_ 11 rfl (C0 (by repeat constructor) ?_)
  refine o_ (h:=?_)
  refine B0 12 rfl (Ay rfl rfl rfl rfl rfl rfl (by repeat constructor) (by repeat constructor) ?_)
  refine o_ (h:=B3 13 (h:=z_ (h:=t_ (q_ (DC 14 (h:=AE 0 (h:=AN 1 (h:=BC 2 (h:=AK 3 (h:=AK 4 (h:=AE 5 (h:=AN 6 (h:=BC 7 (h:=AK 8 (h:=AK 9 (h:=AE 10 (h:=AN 11 (h:=?_))))))))))))))))))
  refine c_ 12 rfl (AG (Th (AU w.s.spc.files a) w.p.euid w.p.egid want) ?_)
  rintro r rfl
  refine o_ (h:=B3 13 (h:=z_ (h:=t_ (A4 (?_)))))
  refine AB ?_
  rfl
 refine C0 (by repeat constructor) ?_
 refine o_ (h:=?_)
 refine c_ 7 rfl (AG (DW w.s.spc.files a hs.files) ?_)
 rintro r rfl
 refine o_ (h:=AN 8 (h:=B1 9 (h:=B1 10 (h:=?_))))
 refine B0 12 rfl (Ay rfl rfl rfl rfl rfl rfl (by repeat constructor) (by repeat constructor) ?_)
 refine o_ (h:=B3 13 (h:=z_ (h:=t_ (q_ (DC 14 (h:=AE 0 (h:=AN 1 (h:=BC 2 (h:=AK 3 (h:=AK 4 (h:=AE 5 (h:=AN 6 (h:=BC 7 (h:=AK 8 (h:=AK 9 (h:=AE 10 (h:=AN 11 (h:=?_))))))))))))))))))
 refine c_ 12 rfl (AG (Th (AU w.s.spc.files a) w.p.euid w.p.egid want) ?_)
 rintro r rfl
 refine o_ (h:=B3 13 (h:=z_ (h:=t_ (A4 (?_)))))
 refine AB ?_
 rfl
theorem cC(w:Wrk)(its:AV)(i:Nat)(f:Fnd)(hs:SpcB w.s.spc)(hf:w.found[i]?=some f):AFn Tryz.prog 153 [.fp (Ci w (Cd w) its), .v (.int .i64 (i:Int))] (fun r=>r= .v (.bool (Ai w.s.spc.files f.file))):=by
 have hrow:(w.found.map Av)[i]?=some (Av f):=by rw[List.getElem?_map,hf];rfl
 refine enter Tryz.func153 rfl rfl rfl rfl rfl 0 rfl ?_
 refine w_ (a_ (h:=e_ (q_ (DC 16 (h:=AN 0 (h:=BC 1 (h:=AK 2 (h:=AK 3 (h:=AK 4 (h:=AE 5 (h:=AN 6 (h:=BC 7 (h:=AK 8 (h:=AE 9 (h:=AN 10 (h:=DO 11 (h:=AK 12 (h:=AE 13 (h:=?_)))))))))))))))))))
 refine c_ 14 rfl (AG (FQ w.s.spc.files f.file hs.files) ?_)
 rintro r rfl
 refine o_ (h:=B3 15 (h:=z_ (h:=t_ (A4 (?_)))))
 refine AB ?_
 rfl
theorem cF(w:Wrk)(its:AV)(a:A9)(hs:SpcB w.s.spc)(hp:w.s.tab.ps.length≤1000):AFn Tryz.prog 156 [.fp (Ci w (Cd w) its), .agg (AA a)] (fun r=>r= .v (.bool (Gg w a))):=by
 refine enter Tryz.func156 rfl rfl rfl rfl rfl 0 rfl ?_
 refine w_ (b_ (h:=a_ (h:=e_ (q_ (q_ (DC 7 (h:=AN 0 (h:=BC 1 (h:=AK 2 (h:=AK 3 (h:=AE 4 (h:=AE 5 (h:=?_)))))))))))))
 refine c_ 6 rfl (AG (RM w.s.spc a hs) ?_)
 rintro r rfl
 refine o_ (h:=z_ (h:=t_ (?_)))
 refine A8 rfl (fun hb1=>?_) (fun hb1=>?_)
 ·have hc1:=bp hb1
  refine w_ (a_ (h:=e_ (A4 (A7 (?_)))))
  refine AB ?_
  first|(exfalso;first|contradiction|omega)|(exact vb (by simp[Gg, *]))
 have hc1:=bp hb1
 refine AM (q_ (w_ (a_ (h:=e_ (Aj (?_))))))
 refine Bg (fun m s=>∃j:Nat,j≤w.s.tab.ps.length∧m=w.s.tab.ps.length - j∧(∀i y,i<j→w.s.tab.ps[i]?=some y→decide (y.cwd=a)=false)∧s=⟨look [(0, .fp (Ci w (Cd w) its)),(3, .bp 0 0),(5, .v (.int .i64 (j:Int)))],⟨[AA a],[]⟩⟩) (w.s.tab.ps.length) ((wk 1 0)) (⟨0,Nat.zero_le _,rfl,fun i y hi=>by omega,rfl⟩) ?_
 rintro m s ⟨j,hj,rfl,ha,rfl⟩
 refine q_ (w_ (m_ (h:=m_ (h:=k_ (h:=f_ (h:=f_ (h:=f_ (h:=l_ (h:=n_ (h:=BH (h:=e_ (?_))))))))))))
 refine A8 rfl (fun hb2=>?_) (fun hb2=>?_)
 ·have hc2:=bp hb2
  obtain⟨hlt,p,hy,hrow, -⟩:=Ca BW hc2
  refine AM (q_ (Aj (q_ (DC 12 (h:=AN 0 (h:=BC 1 (h:=AK 2 (h:=AK 3 (h:=AK 4 (h:=AE 5 (h:=AN 6 (h:=DO 7 (h:=AK 8 (h:=AE 9 (h:=AE 10 (h:=?_))))))))))))))))
  refine E9 (i:=11) rfl (EN rfl rfl (by repeat constructor) (by repeat constructor) (fun w=>Jj _ _ _ _ w) (by kernel_rfl) ⟨rfl,rfl⟩) ?_
  refine z_ (h:=t_ (?_))
  refine A8 rfl (fun hb3=>?_) (fun hb3=>?_)
  ·have hc3:=bp hb3
   have hany:(w.s.tab.ps.any fun p=>decide (p.cwd=a))=true:=OR hy (decide_eq_true hc3)
   refine w_ (a_ (h:=e_ (A4 (AX (A7 (A7 (AX (A7 (?_)))))))))
   refine AB ?_
   first|(exfalso;first|contradiction|omega)|(exact vb (by simp[Gg, *]))
  have hc3:=bp hb3
  have hne:decide (p.cwd=a)=false:=decide_eq_false hc3
  refine B4 (As (t_ (AQ (m_ (h:=B6 (h:=a_ (h:=AO (?_))))))))
  refine AF ?_
  refine⟨_,_,?_,⟨j+1,by omega,rfl,EO hy ha hne,rfl⟩,(wk 1 0)⟩
  omega
 have hc2:=bp hb2
 have e:=Cn BW hj hc2
 have hany:(w.s.tab.ps.any fun p=>decide (p.cwd=a))=false:=OS (by rw[←e];exact ha)
 refine BM (Ak (Ak (BN (t_ (w_ (a_ (h:=e_ (A4 (?_)))))))))
 refine AB ?_
 first|(exfalso;first|contradiction|omega)|(exact vb (by simp[Gg, *]))
end
theorem cG{α:Type}{sz:Nat}{F:α→List AV}(hF:RowF sz F){l:List α}{j cap:Nat}{x x':α}(h:l.length=j):SetAt (LB sz F (l++[x]) cap) (0+j * sz) (F x') (LB sz F (l++[x']) cap):=by
 have h1:(l++[x])[j]?=some x:=by rw[←h];simp
 have h2:(l++[x]).set j x'=l++[x']:=by rw[←h];simp
 have key:=TV hF (cap:=cap) (x':=x') h1
 rwa [h2]at key
theorem cH{is:List Nat}:∀i,i<1→(0::is)[i]?=some i:=by
 intro i hi
 obtain rfl:i=0:=by omega
 rfl
theorem cJ{f:Nat→Option AV}{bx:List (List AV)}{tk:List CF}{N:Dim}(i:Nat){row row':List AV}(hi:bx[i]?=some row)(hle:LeL row row'):Weak N ⟨f,⟨bx,tk⟩⟩ ⟨f,⟨bx.set i row',tk⟩⟩:=by
 rintro E a w ⟨G,h1,h2,h3⟩
 exact⟨G,h1.boxLe hi (fun us hu=>hle G w us hu),h2,h3⟩
theorem cK(w:Wrk)(rows:List (List AV))(g:Option Nat)(I:AV):LeL (Ci w (.sl 8 rows g) I) (Ci w (.sl 8 rows none) I):=by
 unfold Ci
 repeat (first|exact LeL.nil|refine LeL.cons (LeA.refl _) ?_|refine LeL.cons (LeA.tok _ _ _) ?_)
theorem CD{n m:Nat}(w:Wrk)(F I:AV):Ao n m (Ci w F I)=(Ap n m F&&Ap n m I):=by
 simp[Ci,Ao,Ap]
def E4(l:List Fnd):AV:= .sl 8 (l.map Av) (some 0)
def KC(w:Wrk)(e:Int)(j:Nat):List Itm×List Fnd×Int:=Ge w.s.spc w.p.cwd (CT w.c) ((w.c.paths.zip (CJ w.c)).take j) e
def LK(w:Wrk)(e:Int):List Itm×List Fnd×Int:=Ge w.s.spc w.p.cwd (CT w.c) (w.c.paths.zip (CJ w.c)) e
theorem cL{w:Wrk}{e:Int}{j:Nat}{g:AD×Int}(h:(w.c.paths.zip (CJ w.c))[j]?=some g):KC w e (j+1)=ET w.s.spc w.p.cwd (CT w.c) (KC w e j) g:=by
 unfold KC Ge
 rw[List.take_add_one,h,List.foldl_append]
 rfl
theorem cM{w:Wrk}{e:Int}{j:Nat}(h:(w.c.paths.zip (CJ w.c)).length≤j):KC w e j=LK w e:=by
 unfold KC LK
 rw[List.take_of_length_le h]
def WA(w:Wrk)(cap:Nat):List AV:=Ci w (Cd w) (.bs 1 0 13 w.r.items.length cap)
def IB(w:Wrk)(cap:Nat):List AV:=LB 13 CK w.r.items cap
theorem Gk{bx:List (List AV)}{a b:List AV}{rest:List (List AV)}(hb:bx=a::b::rest)(w:Wrk)(cap:Nat):Back bx [0,1] [WA w cap,IB w cap] (WA w cap::IB w cap::rest):=by
 subst hb
 have:=Po (bx:=a::b::rest) (is:=[0,1]) (bc:=[WA w cap,IB w cap]) (by simp) (by simp) (by simp)
 have e1:Cr (DV [0,1] (a::b::rest).length) (WA w cap)=WA w cap:=rfl
 have e2:Cr (DV [0,1] (a::b::rest).length) (IB w cap)=IB w cap:=Fd BA _ _ _
 have hb:D8 (a::b::rest) (DV [0,1] (a::b::rest).length) [0,1] [WA w cap,IB w cap]=WA w cap::IB w cap::rest:=by
  unfold D8
  rw[e1]
  unfold D8
  rw[e2]
  simp[D8]
 rw[hb]at this
 exact this
section
theorem cO(w:Wrk)(e:Int)(hv:SpcV w.s.spc)(hm:w.s.spc.mounts.length≤1000)(hp:w.c.paths.length=(CJ w.c).length)(hpl:w.c.paths.length≤1000)(h0:0<w.c.paths.length)(hps:∀p∈w.c.paths,p.size≤100000):
    ACall Tryz.prog 66 [.bp 0 0, .v (.int .i64 e)] [Ci w (.v (.slice none 0 0)) (.v (.slice none 0 0))] (fun r b t=>t=[]∧∃cap,(LK w e).1.length≤cap∧r= .v (.int .i64 (LK w e).2.2)∧b=[Ci w (.sl 8 ((LK w e).2.1.map Av) none) (.bs 1 0 13 (LK w e).1.length cap),LB 13 CK (LK w e).1 cap]):=by
 have hsb:=hv.b hm
 have hsn:=hv.n hm
 refine enter Tryz.func66 rfl rfl rfl rfl rfl 2 rfl ?_
 refine w_ (a_ (h:=e_ (w_ (m_ (h:=k_ (h:=f_ (h:=l_ (h:=?_))))))))
 refine A6 rfl (AG (ZY w.c) ?_)
 rintro r rfl
 refine a_ (h:=e_ (?_))
 refine BB (fun s=>∃cap,(LK w e).1.length≤cap∧s=⟨look [(1, .v (.int .i64 (LK w e).2.2))],⟨[Ci w (.sl 8 ((LK w e).2.1.map Av) none) (.bs 1 0 13 (LK w e).1.length cap),LB 13 CK (LK w e).1 cap],[]⟩⟩) ?_ ?_
 ·skip
  refine w_ (a_ (h:=e_ (Aj (?_))))
  refine O3 0 26 113 8 rfl rfl (by repeat constructor) (by repeat constructor) (by repeat constructor) ?_
  refine Bg (fun m s=>∃(j:Nat) (X:List Itm×List Fnd×Int) (Y:AV) (Z:List (List AV)),j≤w.c.paths.length∧m=w.c.paths.length - j∧KC w e j=X∧X.1.length=j∧X.2.1.length=j∧((Y= .v (.slice none 0 0)∧Z=[]∧X.1=[])∨∃cap,X.1.length≤cap∧Y= .bs 1 0 13 X.1.length cap∧Z=[LB 13 CK X.1 cap])∧s=⟨look [(0, .bp 0 0),(1, .v (.int .i64 X.2.2)),(5, .sl 1 ((CJ w.c).map Bw) none),(6, .v (.int .i64 (j:Int)))],⟨Ci w (E4 X.2.1) Y::Z,[(113,8,X.2.1.map Av)]⟩⟩) (w.c.paths.length) ((wk 1 1)) (⟨0,([],[],e),_,_,Nat.zero_le _,rfl,rfl,rfl,rfl, .inl ⟨rfl,rfl,rfl⟩,rfl⟩) ?_
  rintro m s ⟨j,X,Y,Z,hj,rfl,hX,hl1,hl2,hYZ,rfl⟩
  refine q_ (w_ (m_ (h:=m_ (h:=k_ (h:=f_ (h:=f_ (h:=l_ (h:=n_ (h:=BH (h:=e_ (?_)))))))))))
  refine A8 rfl (fun hb1=>?_) (fun hb1=>?_)
  ·have hc1:=bp hb1
   obtain⟨hlt,y,hy,hrow, -⟩:=Ca Es hc1
   obtain⟨pj,hpj⟩:∃z,(CJ w.c)[j]?=some z:=⟨_,B9 (by omega)⟩
   have hrow2:((CJ w.c).map Bw)[j]?=some (Bw pj):=by rw[List.getElem?_map,hpj];rfl
   have hz:(w.c.paths.zip (CJ w.c))[j]?=some (y,pj):=List.getElem?_zip_eq_some.2 ⟨hy,hpj⟩
   have hk:=cL (e:=e) hz
   rw[hX]at hk
   have hys:=hps y (Am hy)
   refine AM (q_ (Aj (?_)))
   refine BB (fun s=>∃cap,X.1.length+1≤cap∧s=⟨look [(0, .bp 0 0),(1, .v (.int .i64 X.2.2)),(5, .sl 1 ((CJ w.c).map Bw) none),(6, .v (.int .i64 (j:Int)))],⟨[Ci w (E4 X.2.1) (.bs 1 0 13 (X.1.length+1) cap),LB 13 CK (X.1++[Ep y pj]) cap],[(113,8,X.2.1.map Av)]⟩⟩) ?_ ?_
   ·rcases hYZ with⟨rfl,rfl,hX0⟩|⟨cap,hcp,rfl,rfl⟩
    ·skip
     refine BL ([(0,Ci w (E4 X.2.1) (.v (.slice none 0 0)))]) 24 (h:=AN 0 (h:=AN 1 (h:=BC 2 (h:=AK 3 (h:=AK 4 (h:=AE 5 (h:=AN 6 (h:=BC 7 (h:=AK 8 (h:=AK 9 (h:=AE 10 (h:=AN 11 (h:=DO 12 (h:=AE 13 (h:=AN 14 (h:=AN 15 (h:=DO 16 (h:=AE 17 (h:=?_)))))))))))))))))))
     refine Bj 18 rfl (fun _ hS=>Ef (y:= .agg (CK (Ep y pj))) (DD ⟨rfl,rfl⟩) (LeA.refl _) ⟨rfl,rfl⟩) ?_
     refine Jf 19 (h:=?_)
     refine c_ 20 rfl (MT rfl rfl HU (by omega) (by omega) ?_)
     rintro cap2 k bx2 hcp hs
     rw[show C9 (.agg (CK (Ep y pj)))++List.replicate ((cap2 - 1) * 13) AV.any=LB 13 CK [Ep y pj] cap2 from TW BA _ cap2]at hs
     obtain⟨rfl,rfl⟩:k=1∧bx2=[_,_]:=hs.eq
     refine o_ (h:=?_)
     refine BC 21 (h:=AK 22 (h:=AK 23 (h:=?_)))
     refine B0 24 rfl (Ay rfl rfl rfl rfl rfl rfl (by repeat constructor) (by repeat constructor) ?_)
     refine o_ (h:=z_ (h:=?_))
     refine AF ?_
     refine⟨_,⟨cap2,by rw[hX0];exact hcp,rfl⟩,?_⟩
     rw[hX0]
     exact Bm 2 1 (by simp[Aq,Ao,Ap,Bf BA,CD,E4])
    skip
    refine BL ([(0,Ci w (E4 X.2.1) (.bs 1 0 13 X.1.length cap))]) 24 (h:=AN 0 (h:=AN 1 (h:=BC 2 (h:=AK 3 (h:=AK 4 (h:=AE 5 (h:=AN 6 (h:=BC 7 (h:=AK 8 (h:=AK 9 (h:=AE 10 (h:=AN 11 (h:=DO 12 (h:=AE 13 (h:=AN 14 (h:=AN 15 (h:=DO 16 (h:=AE 17 (h:=?_)))))))))))))))))))
    refine Bj 18 rfl (fun _ hS=>Ef (y:= .agg (CK (Ep y pj))) (DD ⟨rfl,rfl⟩) (LeA.refl _) ⟨rfl,rfl⟩) ?_
    refine Jf 19 (h:=?_)
    refine c_ 20 rfl (Kf rfl rfl rfl (by rw[Pl BA hcp];omega) HU (by omega) (by omega) ?_ ?_)
    ·rintro hg row2 bx2 hs hb
     obtain rfl:=TY BA hs hg
     obtain rfl:bx2=[_,_]:=hb.one.2
     refine o_ (h:=?_)
     refine BC 21 (h:=AK 22 (h:=AK 23 (h:=?_)))
     refine B0 24 rfl (Ay rfl rfl rfl rfl rfl rfl (by repeat constructor) (by repeat constructor) ?_)
     refine o_ (h:=z_ (h:=?_))
     refine AF ?_
     exact⟨_,⟨cap,hg,rfl⟩,Bm 2 1 (by simp[Aq,Ao,Ap,Bf BA,CD,E4])⟩
    rintro hg cap3 k bx2 hcp3 hs
    rw[show((LB 13 CK X.1 cap).drop 0).take (X.1.length * 13)++C9 (.agg (CK (Ep y pj)))++List.replicate ((cap3 - (X.1.length+1)) * 13) AV.any=LB 13 CK (X.1++[Ep y pj]) cap3 from TX BA X.1 _ cap cap3]at hs
    obtain⟨rfl,rfl⟩:k=2∧bx2=[_,_,_]:=hs.eq
    refine o_ (h:=?_)
    refine BC 21 (h:=AK 22 (h:=AK 23 (h:=?_)))
    refine B0 24 rfl (Ay rfl rfl rfl rfl rfl rfl (by repeat constructor) (by repeat constructor) ?_)
    refine o_ (h:=z_ (h:=?_))
    refine AF ?_
    first|exact⟨_,⟨cap,hg,rfl⟩,Bm 2 1 (by simp[Aq,Ao,Ap,Bf BA,CD,E4])⟩|exact⟨_,⟨cap3,hcp3,rfl⟩,Ej [0,2] cH (by decide) (.cons _ _ _ _ _ rfl rfl (.cons _ _ _ _ _ rfl (JN BA _ _ _) .nil)) (by repeat (first|exact SubK.nil|refine SubK.cons _ _ _ _ rfl (LeA.refl _) ?_))⟩
   rintro s ⟨cap,hcp,rfl⟩
   refine w_ (AY (h:=e_ (?_)))
   refine BB (fun s=>∃(it:Itm) (F:Fnd) (e2:Int),ET w.s.spc w.p.cwd (CT w.c) X (y,pj)=(X.1++[it],X.2.1++[F],e2)∧s=⟨look [(0, .bp 0 0),(1, .v (.int .i64 e2)),(5, .sl 1 ((CJ w.c).map Bw) none),(6, .v (.int .i64 (j:Int))),(7, .bp 2 0)],⟨[Ci w (E4 X.2.1) (.bs 1 0 13 (X.1.length+1) cap),LB 13 CK (X.1++[it]) cap,Av F],[(113,8,X.2.1.map Av)]⟩⟩) ?_ ?_
   ·skip
    refine w_ (m_ (h:=AW (h:=e_ (?_))))
    refine A8 rfl (fun hb2=>?_) (fun hb2=>?_)
    ·have hc2:=bp hb2
     have he0:X.2.2=0:=by simpa using hc2
     refine q_ (BL ([(0,Ci w (E4 X.2.1) (.bs 1 0 13 (X.1.length+1) cap)),(1,LB 13 CK (X.1++[Ep y pj]) cap)]) 29 (h:=AN 0 (h:=BC 1 (h:=AK 2 (h:=AK 3 (h:=AE 4 (h:=AN 5 (h:=BC 6 (h:=AK 7 (h:=AK 8 (h:=AE 9 (h:=AN 10 (h:=BC 11 (h:=AK 12 (h:=AK 13 (h:=AE 14 (h:=AN 15 (h:=DO 16 (h:=AE 17 (h:=AN 18 (h:=BC 19 (h:=AK 20 (h:=AE 21 (h:=?_))))))))))))))))))))))))
     refine c_ 22 rfl (AG (ZZ w.c) ?_)
     rintro r rfl
     refine o_ (h:=?_)
     refine c_ 23 rfl (AG (UA w.s.spc w.p.cwd y (CT w.c) hsn hv hys) ?_)
     rintro r rfl
     refine o_ (h:=AN 24 (h:=B1 25 (h:=B1 26 (h:=?_))))
     refine B0 27 rfl (Ay rfl rfl rfl rfl rfl rfl (by repeat constructor) (by repeat constructor) ?_)
     refine o_ (h:=B3 28 (h:=z_ (h:=t_ (w_ (m_ (h:=AW (h:=e_ (?_))))))))
     refine A8 rfl (fun hb3=>?_) (fun hb3=>?_)
     ·have hc3:=bp hb3
      have hf0:(BV w.s.spc w.p.cwd y (CT w.c)).2=0:=by simpa using hc3
      refine BL ([(0,Ci w (E4 X.2.1) (.bs 1 0 13 (X.1.length+1) cap)),(1,LB 13 CK (X.1++[Ep y pj]) cap),(2,Av (BV w.s.spc w.p.cwd y (CT w.c)).1)]) 26 (h:=AN 0 (h:=BC 1 (h:=AK 2 (h:=AK 3 (h:=AE 4 (h:=AN 5 (h:=AN 6 (h:=BC 7 (h:=AK 8 (h:=AK 9 (h:=AE 10 (h:=AN 11 (h:=BC 12 (h:=AK 13 (h:=AK 14 (h:=AE 15 (h:=AN 16 (h:=DO 17 (h:=AE 18 (h:=AN 19 (h:=AN 20 (h:=DO 21 (h:=AE 22 (h:=?_))))))))))))))))))))))))
      refine AE 23 (h:=?_)
      refine c_ 24 rfl (AG (cB w.s.spc y pj (BV w.s.spc w.p.cwd y (CT w.c)).1 hsb) ?_)
      rintro r rfl
      refine o_ (h:=?_)
      refine Bj 25 rfl (fun _ hS=>Cq (m:=j) rfl rfl rfl (by omega) ⟨rfl,rfl⟩) ?_
      refine B0 26 rfl (Ay rfl rfl rfl rfl rfl rfl (cG BA hl1) (by repeat constructor) ?_)
      refine o_ (h:=z_ (h:=?_))
      refine AF ?_
      exact⟨_,⟨Lc w.s.spc y pj (BV w.s.spc w.p.cwd y (CT w.c)).1,(BV w.s.spc w.p.cwd y (CT w.c)).1,(BV w.s.spc w.p.cwd y (CT w.c)).2,(by rw[ET,if_pos he0,if_pos hf0,hf0]),rfl⟩,Bm 3 1 (by simp[Aq,Ao,Ap,Bf BA,CD,E4,Av])⟩
     have hc3:=bp hb3
     have hf0:¬(BV w.s.spc w.p.cwd y (CT w.c)).2=0:=by simpa using hc3
     refine B4 (?_)
     refine AF ?_
     first|exact⟨_,⟨Lc w.s.spc y pj (BV w.s.spc w.p.cwd y (CT w.c)).1,(BV w.s.spc w.p.cwd y (CT w.c)).1,(BV w.s.spc w.p.cwd y (CT w.c)).2,(by rw[ET,if_pos he0,if_pos hf0,hf0]),rfl⟩,Bm 3 1 (by simp[Aq,Ao,Ap,Bf BA,CD,E4,Av])⟩|exact⟨_,⟨Ep y pj,(BV w.s.spc w.p.cwd y (CT w.c)).1,(BV w.s.spc w.p.cwd y (CT w.c)).2,(by rw[ET,if_pos he0,if_neg hf0]),rfl⟩,Bm 3 1 (by simp[Aq,Ao,Ap,Bf BA,CD,E4,Av])⟩
    have hc2:=bp hb2
    have he0:¬X.2.2=0:=by simpa using hc2
    refine B4 (?_)
    refine AF ?_
    first|exact⟨_,⟨Lc w.s.spc y pj (BV w.s.spc w.p.cwd y (CT w.c)).1,(BV w.s.spc w.p.cwd y (CT w.c)).1,(BV w.s.spc w.p.cwd y (CT w.c)).2,(by rw[ET,if_pos he0,if_pos hf0,hf0]),rfl⟩,Bm 3 1 (by simp[Aq,Ao,Ap,Bf BA,CD,E4,Av])⟩|exact⟨_,⟨Ep y pj,(BV w.s.spc w.p.cwd y (CT w.c)).1,(BV w.s.spc w.p.cwd y (CT w.c)).2,(by rw[ET,if_pos he0,if_neg hf0]),rfl⟩,Bm 3 1 (by simp[Aq,Ao,Ap,Bf BA,CD,E4,Av])⟩|exact⟨_,⟨Ep y pj,Cw,X.2.2,(by rw[ET,if_neg he0]),rfl⟩,Bm 3 1 (by simp[Aq,Ao,Ap,Bf BA,CD,E4,Av])⟩
   rintro s ⟨it,F,e2,hlk,rfl⟩
   refine BL ([(0,Ci w (E4 X.2.1) (.bs 1 0 13 (X.1.length+1) cap)),(2,Av F)]) 10 (h:=AN 0 (h:=AN 1 (h:=BC 2 (h:=AK 3 (h:=AE 4 (h:=AE 5 (h:=Jf 6 (h:=?_))))))))
   refine c_ 7 rfl (EM rfl rfl rfl (by simp;omega) (by repeat constructor) ?_)
   refine o_ (h:=BC 8 (h:=AK 9 (h:=?_)))
   refine B0 10 rfl (Ay rfl rfl rfl rfl rfl rfl (by repeat constructor) (by repeat constructor) ?_)
   refine o_ (h:=z_ (h:=As (t_ (AQ (m_ (h:=B6 (h:=a_ (h:=AO (?_)))))))))
   refine AF ?_
   refine⟨w.c.paths.length - (j+1),_,by omega,⟨j+1,(X.1++[it],X.2.1++[F],e2), .bs 1 0 13 (X.1++[it]).length cap,[LB 13 CK (X.1++[it]) cap],by omega,rfl,by rw[hk,hlk],by simp;omega,by simp;omega, .inr ⟨cap,by simpa using hcp,rfl,rfl⟩,rfl⟩,?_⟩
   rw[List.length_append]
   unfold E4
   rw[List.map_append]
   exact Bm 2 1 (by simp[Aq,Ao,Ap,Bf BA,CD])
  have hc1:=bp hb1
  have e3:=Cn Es hj hc1
  rcases hYZ with⟨_,_,hX0⟩|⟨cap,hcp,rfl,rfl⟩
  ·exfalso
   rw[hX0]at hl1
   simp at hl1
   omega
  have hfin:LK w e=X:=by rw[←hX];exact(cM (by rw[List.length_zip];omega)).symm
  refine BM (Ak (Ak (BN (?_))))
  refine AF ?_
  refine⟨_,⟨cap,by rw[hfin];exact hcp,rfl⟩,?_⟩
  rw[hfin]
  exact(cJ 0 rfl (cK w _ _ _)).trans (Bm 2 0 (by simp[Aq,Ao,Ap,Bf BA,CD]))
 rintro s ⟨cap,hcp,rfl⟩
 refine w_ (m_ (h:=a_ (h:=e_ (A4 (?_)))))
 refine Aw (r:= .v (.int .i64 (LK w e).2.2)) none (h4:=(by simp[Aq,Ao,Ap,Bf BA,CD])) (h5:=(LeA.refl _)) (h6:=⟨rfl,cap,hcp,rfl,rfl⟩)
theorem UF(w:Wrk)(cap:Nat)(f:AR)(l:List DE)(e:Int):ACall Tryz.prog 154 [.bp 0 0, .agg (Ag f), .sl 7 (l.map C1) none, .v (.int .i64 e)] [WA w cap,IB w cap] (fun r b t=>t=[]∧r= .v (.int .i64 e)∧b=[WA (Bl w (f,l,e)).1 cap,IB (Bl w (f,l,e)).1 cap]):=by
 refine enter Tryz.func154 rfl rfl rfl rfl rfl 2 rfl ?_
 refine w_ (b_ (h:=a_ (h:=e_ (q_ (w_ (m_ (h:=AW (h:=e_ (?_)))))))))
 refine A8 rfl (fun hb1=>?_) (fun hb1=>?_)
 ·have hc1:=bp hb1
  refine w_ (m_ (h:=l_ (h:=k_ (h:=f_ (h:=f_ (h:=f_ (h:=s_ (h:=e_ (AQ (m_ (h:=m_ (h:=k_ (h:=f_ (h:=f_ (h:=s_ (h:=e_ (w_ (m_ (h:=a_ (h:=e_ (A4 (?_))))))))))))))))))))))
  refine Aw (r:= .v (.int .i64 e)) none (h4:=(by simp[Aq,Ao,Ap,Bf BA,IB,Cd])) (h5:=(LeA.refl _)) (h6:=⟨rfl,rfl,?_⟩)
  rw[Bl,if_pos hc1]
  rfl
 have hc1:=bp hb1
 refine AM (w_ (m_ (h:=a_ (h:=e_ (A4 (?_))))))
 refine Aw (r:= .v (.int .i64 e)) none (h4:=(by simp[Aq,Ao,Ap,Bf BA,CD,WA,IB,Cd])) (h5:=(LeA.refl _)) (h6:=⟨rfl,rfl,?_⟩)
 rw[Bl,if_neg hc1]
 rfl
theorem cQ(w:Wrk)(cap:Nat)(t:Tab)(e:Int):ACall Tryz.prog 152 [.bp 0 0, .agg (Bv t), .v (.int .i64 e)] [WA w cap,IB w cap] (fun r b tk=>tk=[]∧r= .v (.int .i64 e)∧b=[WA (DS w (t,e)).1 cap,IB (DS w (t,e)).1 cap]):=by
 refine enter Tryz.func152 rfl rfl rfl rfl rfl 2 rfl ?_
 refine w_ (b_ (h:=a_ (h:=e_ (q_ (w_ (m_ (h:=AW (h:=e_ (?_)))))))))
 refine A8 rfl (fun hb1=>?_) (fun hb1=>?_)
 ·have hc1:=bp hb1
  refine AQ (m_ (h:=l_ (h:=k_ (h:=f_ (h:=f_ (h:=s_ (h:=e_ (w_ (m_ (h:=a_ (h:=e_ (A4 (?_)))))))))))))
  refine Aw (r:= .v (.int .i64 e)) none (h4:=(by simp[Aq,Ao,Ap,Bf BA,IB,Cd])) (h5:=(LeA.refl _)) (h6:=⟨rfl,rfl,?_⟩)
  rw[DS,if_pos hc1]
  rfl
 have hc1:=bp hb1
 refine AM (w_ (m_ (h:=a_ (h:=e_ (A4 (?_))))))
 refine Aw (r:= .v (.int .i64 e)) none (h4:=(by simp[Aq,Ao,Ap,Bf BA,CD,WA,IB,Cd])) (h5:=(LeA.refl _)) (h6:=⟨rfl,rfl,?_⟩)
 rw[DS,if_neg hc1]
 rfl
end
section
variable {P:Program}{rs:List ResultVar}{n:Nat}{R:AV→List (List AV)→List CF→Prop}{s:AS}{xs:List AV}{r:AV}
theorem De(g:Option Nat){tk':List CF}(h1:ResA P s rs xs:=by repeat (first|exact ResA.nil|(apply ResA.tmp;(focus exact rfl))|(apply ResA.cellN;(focus exact inferInstance);(focus exact rfl);(focus exact rfl);(focus exact rfl))|(apply ResA.cell1;(focus exact inferInstance);(focus exact rfl);(focus exact rfl);(focus exact rfl))))(h2:Gx s.h.tk g=some tk':=by rfl)(h3:Ap n 1 (Cp g (Dn xs))=true:=by rfl)(h4:Aq n 0 (s.h.bx.take n)=true:=by simp[Aq,Ao,Ap,Bf BA,CD,WA,IB,Cd,Av,Ac,AA,Bv,Al,Ag])(h5:LeA (Cp g (Dn xs)) r)(h6:R r (s.h.bx.take n) tk'):Gy P rs n R .ret s:=Nv g h1 h2 h3 h4 h5 h6
end
theorem DT{f:Nat→Option AV}{bx:List (List AV)}{tk:List (Nat×Nat×List (List AV))}{l:List (Nat×AV)}{N:Dim}(n m:Nat){bx':List (List AV)}{tk':List (Nat×Nat×List (List AV))}(hn:Nat.ble N.ni n=true:=by rfl)(hb:bx.take n=bx':=by rfl)(ht:tk.take m=tk':=by rfl)(hbp:Aq n m bx'=true:=by simp[Aq,Ao,Ap,Bf BA,CD,WA,IB,Cd,Av,Ac,AA,Bv,Al,Ag])(hl:Sub n m f l:=by repeat (first|exact Sub.nil|refine Sub.cons _ _ _ rfl rfl ?_|refine Sub.any _ _ ?_|refine Sub.sl _ _ _ _ _ rfl ?_|refine Sub.slnil _ _ _ rfl ?_)):Weak N ⟨f,⟨bx,tk⟩⟩ ⟨look l,⟨bx',tk'⟩⟩:=Au n m hn hb ht hbp hl
theorem UG{α:Type}{l:List α}{i:Nat}{x:α}(h:l[i]?=some x)(f:α→α):l.modify i f=l.set i (f x):=by
 apply List.ext_getElem?
 intro k
 rw[List.getElem?_modify,List.getElem?_set]
 obtain⟨hl,rfl⟩:=Af.1 h
 by_cases e:i=k
 ·subst e
  simp[hl]
 simp[e]
theorem cR(w:Wrk)(R:Tab×Int):(DS w R).2=R.2:=by
 unfold DS
 split
 ·rename_i h;exact h.symm
 rfl
theorem Ho{w:Wrk}{R:Df}(h:R.2.2=0):(Bl w R).1={w with s:=⟨⟨R.1,w.s.spc.mounts⟩,w.s.tab⟩,r:={w.r with changes:=R.2.1}}:=by
 unfold Bl
 rw[if_pos h]
theorem UH{w:Wrk}{R:Df}(h:¬R.2.2=0):(Bl w R).1=w:=by
 unfold Bl
 rw[if_neg h]
theorem UJ{f:AR}{dir:A9}{name:AD}{n:Nod}(h0:(Dj f dir name n).2.2=0):∃c,(Dj f dir name n).2.1=[c]:=by
 unfold Dj at h0 ⊢
 split at h0
 ·rename_i c;exact absurd h0 c
 rename_i c1
 rw[if_neg c1]
 split at h0
 ·exact absurd h0 (by decide)
 rename_i c2
 rw[if_neg c2]
 split at h0
 ·exact absurd h0 (by decide)
 rename_i c3
 rw[if_neg c3]
 cases e:Ek f dir.1 with
 |none=>rw[e]at h0;simp at h0
 |some d=>
   rw[e]at h0
   simp only at h0 ⊢
   split at h0
   ·exact absurd h0 (by decide)
   rename_i c4
   rw[if_neg c4]
   exact⟨_,rfl⟩
theorem cT{w:Wrk}{i:Nat}{n:Nod}(h:(Cc w i n).2=0):∃c,(Cc w i n).1.r.changes=[c]:=by
 unfold Cc at h ⊢
 split at h
 ·rename_i h0
  obtain⟨c,hc⟩:=UJ h0
  rw[if_pos h0,Ho h0]
  exact⟨c,hc⟩
 rename_i h0;exact absurd h h0
theorem cU(w:Wrk)(i:Nat)(n:Nod):(Cc w i n).1.s.tab=w.s.tab∧(Cc w i n).1.p=w.p∧(Cc w i n).1.c=w.c:=by
 unfold Cc
 split
 ·rename_i h0
  rw[Ho h0]
  exact⟨rfl,rfl,rfl⟩
 exact⟨rfl,rfl,rfl⟩
section
theorem UK(w:Wrk)(cap i:Nat)(a:A9)(x:Itm)(hs:FlsB w.s.spc.files)(hx:w.r.items[i]?=some x):ACall Tryz.prog 155 [.bp 0 0, .v (.int .i64 (i:Int)), .agg (AA a)] [WA w cap,IB w cap] (fun r b t=>t=[]∧r= .tup []∧b=[WA (GG w i a) cap,IB (GG w i a) cap]):=by
 have hil:=(Af.1 hx).1
 have hst:∀y:Itm,(w.r.items.set i y)[i]?=some y:=fun y=>by rw[List.getElem?_set_self hil]
 have hfin:w.r.items.modify i (TQ (AU w.s.spc.files a) a)=w.r.items.set i {x with role:=2,file:=a,kind:=(AU w.s.spc.files a).kind,mode:=(AU w.s.spc.files a).mode,uid:=(AU w.s.spc.files a).uid,gid:=(AU w.s.spc.files a).gid}:=by rw[UG hx];rfl
 refine enter Tryz.func155 rfl rfl rfl rfl rfl 2 rfl ?_
 refine w_ (b_ (h:=e_ (?_)))
 refine BB (fun s=>s=⟨look [(0, .bp 0 0),(1, .v (.int .i64 (i:Int))),(5, .bp 2 0),(6, .bp 3 0)],⟨[WA w cap,IB w cap,AA a,Ac (AU w.s.spc.files a)],[]⟩⟩) ?_ ?_
 ·skip
  refine BL ([(0,WA w cap),(1,IB w cap),(2,AA a)]) 14 (h:=AN 0 (h:=BC 1 (h:=AK 2 (h:=AK 3 (h:=AK 4 (h:=AE 5 (h:=AE 6 (h:=?_))))))))
  refine Dx 7 11 rfl rfl ?_ ?_
  ·refine AG (DW w.s.spc.files a hs) ?_
   rintro r rfl
   refine o_ (h:=?_)
   refine AN 8 (h:=B1 9 (h:=B1 10 (h:=?_)))
   refine c_ 11 rfl (C0 (by repeat constructor) ?_)
   refine o_ (h:=?_)
   refine B0 12 rfl (Ay rfl rfl rfl rfl rfl rfl (by repeat constructor) (by repeat constructor) ?_)
   refine o_ (h:=B3 13 (h:=z_ (h:=?_)))
   refine AF ?_
   exact⟨_,rfl,DT 4 0⟩
  refine C0 (by repeat constructor) ?_
  refine o_ (h:=?_)
  refine c_ 7 rfl (AG (DW w.s.spc.files a hs) ?_)
  rintro r rfl
  refine o_ (h:=AN 8 (h:=B1 9 (h:=B1 10 (h:=?_))))
  refine B0 12 rfl (Ay rfl rfl rfl rfl rfl rfl (by repeat constructor) (by repeat constructor) ?_)
  refine o_ (h:=B3 13 (h:=z_ (h:=?_)))
  refine AF ?_
  exact⟨_,rfl,DT 4 0⟩
 rintro s rfl
 refine w_ (m_ (h:=k_ (h:=f_ (h:=f_ (h:=l_ (h:=m_ (h:=?_)))))))
 refine A6 rfl (Cq (m:=i) rfl rfl rfl hil ?_)
 refine a_ (h:=e_ (BL ([(0,WA w cap),(2,AA a),(3,Ac (AU w.s.spc.files a))]) 33 (h:=AN 0 (h:=AN 1 (h:=AN 2 (h:=AN 3 (h:=AN 4 (h:=AN 5 (h:=AE 6 (h:=AK 7 (h:=AE 8 (h:=AK 9 (h:=AE 10 (h:=AK 11 (h:=AE 12 (h:=AK 13 (h:=AE 14 (h:=BC 15 (h:=AK 16 (h:=?_))))))))))))))))))))
 refine B0 17 rfl (Ay rfl rfl rfl rfl rfl rfl (Hm BA (x':={x with role:=2}) hx (by repeat constructor) (List.cons_ne_nil _ _)) (by repeat constructor) ?_)
 refine o_ (h:=BC 18 (h:=AK 19 (h:=?_)))
 refine B0 20 rfl (Ay rfl rfl rfl rfl rfl rfl (Hm BA (x':={x with role:=2,file:=a}) (hst _) (by repeat constructor) (List.cons_ne_nil _ _)) (by repeat constructor) ?_)
 refine o_ (h:=BC 21 (h:=AK 22 (h:=?_)))
 refine B0 23 rfl (Ay rfl rfl rfl rfl rfl rfl (Hm BA (x':={x with role:=2,file:=a,kind:=(AU w.s.spc.files a).kind}) (by rw[List.set_set];exact hst _) (by repeat constructor) (List.cons_ne_nil _ _)) (by repeat constructor) ?_)
 refine o_ (h:=BC 24 (h:=AK 25 (h:=?_)))
 refine B0 26 rfl (Ay rfl rfl rfl rfl rfl rfl (Hm BA (x':={x with role:=2,file:=a,kind:=(AU w.s.spc.files a).kind,mode:=(AU w.s.spc.files a).mode}) (by rw[List.set_set,List.set_set];exact hst _) (by repeat constructor) (List.cons_ne_nil _ _)) (by repeat constructor) ?_)
 refine o_ (h:=BC 27 (h:=AK 28 (h:=?_)))
 refine B0 29 rfl (Ay rfl rfl rfl rfl rfl rfl (Hm BA (x':={x with role:=2,file:=a,kind:=(AU w.s.spc.files a).kind,mode:=(AU w.s.spc.files a).mode,uid:=(AU w.s.spc.files a).uid}) (by rw[List.set_set,List.set_set,List.set_set];exact hst _) (by repeat constructor) (List.cons_ne_nil _ _)) (by repeat constructor) ?_)
 refine o_ (h:=BC 30 (h:=AK 31 (h:=?_)))
 refine B0 32 rfl (Ay rfl rfl rfl rfl rfl rfl (Hm BA (x':={x with role:=2,file:=a,kind:=(AU w.s.spc.files a).kind,mode:=(AU w.s.spc.files a).mode,uid:=(AU w.s.spc.files a).uid,gid:=(AU w.s.spc.files a).gid}) (by rw[List.set_set,List.set_set,List.set_set,List.set_set];exact hst _) (by repeat constructor) (List.cons_ne_nil _ _)) (by repeat constructor) ?_)
 refine o_ (h:=z_ (h:=?_))
 refine MU (r:= .tup []) none (h4:=(by simp[Aq,Ao,Ap,Bf BA,CD,WA,Cd])) (h5:=(LeA.refl _)) (h6:=⟨rfl,rfl,?_⟩)
 rw[List.set_set,List.set_set,List.set_set,List.set_set,List.set_set]
 unfold WA IB GG
 simp only[hfin,List.length_set]
 rfl
theorem cV(w:Wrk)(cap i:Nat)(n:Nod)(f:Fnd)(x:Itm)(hv:FlsV w.s.spc.files)(hf:w.found[i]?=some f)(hx:w.r.items[i]?=some x)(hn:f.name.size≤100000)(ht:n.target.size≤100000)(hne:n.entries=[]):ACall Tryz.prog 150 [.bp 0 0, .v (.int .i64 (i:Int)), .agg (Ac n)] [WA w cap,IB w cap] (fun r b t=>t=[]∧r= .v (.int .i64 (Cc w i n).2)∧b=[WA (Cc w i n).1 cap,IB (Cc w i n).1 cap]):=by
 have hrow:(w.found.map Av)[i]?=some (Av f):=by rw[List.getElem?_map,hf];rfl
 have hfn:At w i=f:=by unfold At;rw[hf];rfl
 have hmk:Dl w i n=Dj w.s.spc.files f.dir f.name (Ld w n):=by unfold Dl;rw[hfn]
 have hok:=Hd hv f.dir f.name (Ld w n)
 rw[←hmk]at hok
 have hcall:AFn Tryz.prog 45 [.agg (Ag w.s.spc.files), .agg (AA f.dir), .v (.string f.name), .agg (Ac (Ld w n))] (fun r=>r=CA (Dl w i n)):=by rw[hmk];exact SU _ _ _ _ hv hn ht
 refine enter Tryz.func150 rfl rfl rfl rfl rfl 2 rfl ?_
 refine w_ (b_ (h:=a_ (h:=e_ (q_ (BL ([(0,WA w cap),(1,IB w cap)]) 14 (h:=AN 0 (h:=BC 1 (h:=AK 2 (h:=AK 3 (h:=AE 4 (h:=AN 5 (h:=BC 6 (h:=AK 7 (h:=AK 8 (h:=AE 9 (h:=AK 10 (h:=?_)))))))))))))))))
 refine B0 11 rfl (Ay rfl rfl rfl rfl rfl rfl (by repeat constructor) (by repeat constructor) ?_)
 refine o_ (h:=AK 12 (h:=?_))
 refine B0 13 rfl (Ay rfl rfl rfl rfl rfl rfl (by repeat constructor) (by repeat constructor) ?_)
 refine o_ (h:=z_ (h:=t_ (q_ (BL ([(0,WA w cap),(1,IB w cap),(2,Ac (Ld w n))]) 28 (h:=AN 0 (h:=AN 1 (h:=BC 2 (h:=AK 3 (h:=AK 4 (h:=AK 5 (h:=AE 6 (h:=AN 7 (h:=BC 8 (h:=AK 9 (h:=AE 10 (h:=AN 11 (h:=DO 12 (h:=AK 13 (h:=AE 14 (h:=AN 15 (h:=BC 16 (h:=AK 17 (h:=AE 18 (h:=?_))))))))))))))))))))))))
 refine AN 19 (h:=DO 20 (h:=AK 21 (h:=AE 22 (h:=AE 23 (h:=?_)))))
 refine c_ 24 rfl (AG (hcall) ?_)
 rintro r rfl
 refine o_ (h:=B1 25 (h:=B1 26 (h:=B1 27 (h:=?_))))
 refine c_ 28 rfl (Cs [0,1] rfl (.cons _ _ _ _ _ rfl (LeA.refl _) (.cons _ _ _ _ _ rfl (LeA.refl _) (.cons _ _ _ _ _ rfl (LeA.refl _) (.cons _ _ _ _ _ rfl (LeA.refl _) .nil)))) (by decide) (.cons _ _ _ _ _ rfl rfl (.cons _ _ _ _ _ rfl (Fd BA _ _ _) .nil)) (UF w cap (Dl w i n).1 (Dl w i n).2.1 (Dl w i n).2.2) ?_)
 rintro r bc tc ⟨rfl,rfl,rfl⟩
 refine⟨rfl,_,Gk rfl (Bl w (Dl w i n)).1 cap,?_⟩
 refine o_ (h:=?_)
 refine c_ 29 rfl (G4 rfl ?_)
 refine o_ (h:=z_ (h:=t_ (q_ (w_ (m_ (h:=AW (h:=e_ (?_))))))))
 refine A8 rfl (fun hb1=>?_) (fun hb1=>?_)
 ·have hc1:=bp hb1
  have h0:(Dl w i n).2.2=0:=hc1
  obtain⟨c,hc⟩:∃c,(Dl w i n).2.1=[c]:=by rw[hmk]at h0 ⊢;exact UJ h0
  have hch:(Bl w (Dl w i n)).1.r.changes=[c]:=by rw[Ho h0];exact hc
  have hx1:(Bl w (Dl w i n)).1.r.items[i]?=some x:=by rw[Ho h0];exact hx
  have hfb:FlsB (Bl w (Dl w i n)).1.s.spc.files:=by rw[Ho h0];exact(hok h0).1.b
  have hrow2:((Bl w (Dl w i n)).1.r.changes.map C1)[0]?=some (C1 c):=by rw[hch];rfl
  refine AQ (m_ (h:=m_ (h:=m_ (h:=k_ (h:=f_ (h:=f_ (h:=l_ (h:=?_))))))))
  refine A6 rfl (CQ (n:=0) rfl rfl rfl hrow2 ?_)
  refine f_ (h:=l_ (h:=?_))
  refine A6 rfl (Cs [0,1] rfl (.cons _ _ _ _ _ rfl (LeA.refl _) (.cons _ _ _ _ _ rfl (LeA.refl _) (.cons _ _ _ _ _ rfl (LeA.refl _) .nil))) (by decide) (.cons _ _ _ _ _ rfl rfl (.cons _ _ _ _ _ rfl (Fd BA _ _ _) .nil)) (UK (Bl w (Dl w i n)).1 cap i c.2.2.2 x hfb hx1) ?_)
  rintro r bc tc ⟨rfl,rfl,rfl⟩
  refine⟨rfl,_,Gk rfl (GG (Bl w (Dl w i n)).1 i c.2.2.2) cap,?_⟩
  refine e_ (w_ (m_ (h:=a_ (h:=e_ (A4 (?_))))))
  refine De (r:= .v (.int .i64 (Cc w i n).2)) none (h5:=(by rw[Cc,if_pos h0];exact LeA.of_eq (vi h0))) (h6:=⟨rfl,rfl,?_⟩)
  rw[Cc,if_pos h0,hc]
  rfl
 have hc1:=bp hb1
 have h0:¬(Dl w i n).2.2=0:=hc1
 refine AM (w_ (m_ (h:=a_ (h:=e_ (A4 (?_))))))
 refine De (r:= .v (.int .i64 (Cc w i n).2)) none (h5:=(by rw[Cc,if_neg h0];exact LeA.refl _)) (h6:=⟨rfl,rfl,?_⟩)
 rw[Cc,if_neg h0,UH h0]
 rfl
theorem cW(w:Wrk)(cap:Nat)(f:Fnd)(x:Itm)(hv:SpcV w.s.spc)(hm:w.s.spc.mounts.length≤1000)(htb:TabB w.s.tab)(hf:w.found[0]?=some f)(hx:w.r.items[0]?=some x)(hn:f.name.size≤100000):ACall Tryz.prog 114 [.bp 0 0] [WA w cap,IB w cap] (fun r b t=>t=[]∧r= .v (.int .i64 (C5 w).2)∧b=[WA (C5 w).1 cap,IB (C5 w).1 cap]):=by
 have hsb:=hv.b hm
 have hrow:(w.found.map Av)[0]?=some (Av f):=by rw[List.getElem?_map,hf];rfl
 have hfn:At w 0=f:=by unfold At;rw[hf];rfl
 refine enter Tryz.func114 rfl rfl rfl rfl rfl 2 rfl ?_
 refine w_ (a_ (h:=e_ (q_ (BL ([(0,WA w cap),(1,IB w cap)]) 15 (h:=AN 0 (h:=BC 1 (h:=AK 2 (h:=AE 3 (h:=DO 4 (h:=AE 5 (h:=AN 6 (h:=BC 7 (h:=AK 8 (h:=AK 9 (h:=?_)))))))))))))))
 refine Bj 10 rfl (fun _ hS=>Dv (len:=4) (sz:=1) (n:=0) (by kernel_rfl) rfl rfl rfl rfl ⟨rfl,rfl⟩) ?_
 refine AE 11 (h:=?_)
 refine c_ 12 rfl (C0 (by repeat constructor) ?_)
 refine o_ (h:=?_)
 refine B0 13 rfl (Ay rfl rfl rfl rfl rfl rfl (by repeat constructor) (by repeat constructor) ?_)
 refine o_ (h:=B3 14 (h:=z_ (h:=t_ (?_))))
 refine BB (fun s=>∃(w2:Wrk) (F2:Fnd),C5 w=Gi w2 F2.file∧TabB w2.s.tab∧s=⟨look [(0, .bp 0 0),(3, .bp 2 0),(4, .v (.int .i64 w2.c.a0))],⟨[WA w2 cap,IB w2 cap,Av F2],[]⟩⟩) ?_ ?_
 ·skip
  refine w_ (f_ (h:=l_ (h:=e_ (?_))))
  refine A8 rfl (fun hb1=>?_) (fun hb1=>?_)
  ·have hc1:=bp hb1
   have hex:(At w 0).ex=true:=by rw[hfn];exact hc1
   refine BB (fun s=>s=⟨look [(0, .bp 0 0),(3, .bp 2 0),(4, .v (.int .i64 w.c.a0)),(5, .bp 3 0)],⟨[WA w cap,IB w cap,Av f,Ac (AU w.s.spc.files f.file)],[]⟩⟩) ?_ ?_
   ·skip
    refine BL ([(0,WA w cap),(1,IB w cap),(2,Av f)]) 15 (h:=AN 0 (h:=BC 1 (h:=AK 2 (h:=AK 3 (h:=AK 4 (h:=AE 5 (h:=AK 6 (h:=AE 7 (h:=?_)))))))))
    refine Dx 8 12 rfl rfl ?_ ?_
    ·refine AG (DW w.s.spc.files f.file hsb.files) ?_
     rintro r rfl
     refine o_ (h:=?_)
     refine AN 9 (h:=B1 10 (h:=B1 11 (h:=?_)))
     refine c_ 12 rfl (C0 (by repeat constructor) ?_)
     refine o_ (h:=?_)
     refine B0 13 rfl (Ay rfl rfl rfl rfl rfl rfl (by repeat constructor) (by repeat constructor) ?_)
     refine o_ (h:=B3 14 (h:=z_ (h:=?_)))
     refine AF ?_
     exact⟨_,rfl,DT 4 0⟩
    refine C0 (by repeat constructor) ?_
    refine o_ (h:=?_)
    refine c_ 8 rfl (AG (DW w.s.spc.files f.file hsb.files) ?_)
    rintro r rfl
    refine o_ (h:=AN 9 (h:=B1 10 (h:=B1 11 (h:=?_))))
    refine B0 13 rfl (Ay rfl rfl rfl rfl rfl rfl (by repeat constructor) (by repeat constructor) ?_)
    refine o_ (h:=B3 14 (h:=z_ (h:=?_)))
    refine AF ?_
    exact⟨_,rfl,DT 4 0⟩
   rintro s rfl
   refine w_ (a_ (h:=e_ (?_)))
   refine BB (fun s=>s=⟨look [(0, .bp 0 0),(3, .bp 2 0),(4, .v (.int .i64 w.c.a0)),(5, .bp 3 0),(7, .v (.int .i64 (if Bi w.c.a0 1=true then 4 else 0)))],⟨[WA w cap,IB w cap,Av f,Ac (AU w.s.spc.files f.file)],[]⟩⟩) ?_ ?_
   ·skip
    refine w_ (m_ (h:=Dp (h:=BS (h:=e_ (?_)))))
    refine A8 rfl (fun hb2=>?_) (fun hb2=>?_)
    ·have hc2:=bp hb2
     have k0:Bi w.c.a0 1=true:=by simpa[Bi]using hc2
     refine AQ (m_ (h:=B6 (h:=a_ (h:=AO (?_)))))
     refine AF ?_
     refine⟨_,rfl,?_⟩
     (rw[if_pos k0];exact DT 4 0)
    have hc2:=bp hb2
    have k0:¬Bi w.c.a0 1=true:=by simpa[Bi]using hc2
    refine B4 (?_)
    refine AF ?_
    refine⟨_,rfl,?_⟩
    first|(rw[if_pos k0];exact DT 4 0)|(rw[if_neg k0];exact DT 4 0)
   rintro s rfl
   refine BB (fun s=>s=⟨look [(0, .bp 0 0),(3, .bp 2 0),(4, .v (.int .i64 w.c.a0)),(5, .bp 3 0),(7, .v (.int .i64 (Gj w.c.a0)))],⟨[WA w cap,IB w cap,Av f,Ac (AU w.s.spc.files f.file)],[]⟩⟩) ?_ ?_
   ·skip
    refine w_ (m_ (h:=Dp (h:=BS (h:=e_ (?_)))))
    refine A8 rfl (fun hb3=>?_) (fun hb3=>?_)
    ·have hc3:=bp hb3
     have k00:Bi w.c.a0 18=true:=by simpa[Bi]using hc3
     refine AQ (m_ (h:=B6 (h:=a_ (h:=AO (?_)))))
     refine AF ?_
     refine⟨_,rfl,?_⟩
     unfold Gj
     (rw[if_pos k00];exact DT 4 0)
    have hc3:=bp hb3
    have k00:¬Bi w.c.a0 18=true:=by simpa[Bi]using hc3
    refine B4 (?_)
    refine AF ?_
    refine⟨_,rfl,?_⟩
    unfold Gj
    first|(rw[if_pos k00];exact DT 4 0)|(rw[if_neg k00,Int.add_zero];exact DT 4 0)
   rintro s rfl
   refine Aj (?_)
   refine BB (fun s=>s=⟨look [(0, .bp 0 0),(3, .bp 2 0),(4, .v (.int .i64 w.c.a0)),(5, .bp 3 0),(7, .v (.int .i64 (Gj w.c.a0))),(48, .v (.bool (Bi w.c.a0 4&&Bi w.c.a0 8)))],⟨[WA w cap,IB w cap,Av f,Ac (AU w.s.spc.files f.file)],[]⟩⟩) ?_ ?_
   ·skip
    refine AQ (m_ (h:=Dp (h:=BS (h:=m_ (h:=?_)))))
    refine Ar true rfl rfl (fun hb4=>?_) (fun hb4=>?_)
    ·have hc4:=bp hb4
     refine m_ (h:=Dp (h:=BS (h:=AZ (h:=a_ (h:=AO (?_))))))
     refine AF ?_
     exact⟨_,rfl,Au 4 0 rfl rfl rfl (by simp[Aq,Ao,Ap,Bf BA,CD,WA,IB,Cd,Av,Ac]) (by repeat (first|exact Sub.nil|refine Sub.cons _ _ _ rfl rfl ?_|refine Sub.any _ _ ?_|refine Sub.sl _ _ _ _ _ rfl ?_|refine Sub.slnil _ _ _ rfl ?_|(apply Sub.of;(focus exact rfl);(focus exact LeA.of_eq (vb (by simp[Bi, *])));(focus exact rfl))))⟩
    have hc4:=bp hb4
    refine A3 (h:=A3 (h:=A3 (h:=Ah (h:=a_ (h:=AO (?_))))))
    refine AF ?_
    exact⟨_,rfl,Au 4 0 rfl rfl rfl (by simp[Aq,Ao,Ap,Bf BA,CD,WA,IB,Cd,Av,Ac]) (by repeat (first|exact Sub.nil|refine Sub.cons _ _ _ rfl rfl ?_|refine Sub.any _ _ ?_|refine Sub.sl _ _ _ _ _ rfl ?_|refine Sub.slnil _ _ _ rfl ?_|(apply Sub.of;(focus exact rfl);(focus exact LeA.of_eq (vb (by simp[Bi, *])));(focus exact rfl))))⟩
   rintro s rfl
   refine A8 rfl (fun hb5=>?_) (fun hb5=>?_)
   ·have hc5:=bp hb5
    have k1:Bi w.c.a0 4=true∧Bi w.c.a0 8=true:=by simpa using hc5
    refine w_ (a_ (h:=e_ (A4 (AX (A7 (?_))))))
    refine De (r:= .v (.int .i64 (C5 w).2)) none (h5:=(by rw[C5,if_pos hex,if_pos k1];exact LeA.refl _)) (h6:=⟨rfl,rfl,?_⟩)
    rw[C5,if_pos hex,if_pos k1]
    rfl
   have hc5:=bp hb5
   have k1:¬(Bi w.c.a0 4=true∧Bi w.c.a0 8=true):=by simpa using hc5
   refine w_ (f_ (h:=l_ (h:=AW (h:=a_ (h:=e_ (?_))))))
   refine A8 rfl (fun hb6=>?_) (fun hb6=>?_)
   ·have hc6:=bp hb6
    have k2:(AU w.s.spc.files (At w 0).file).kind=3:=by rw[hfn];exact hc6
    refine w_ (a_ (h:=e_ (A4 (AX (A7 (?_))))))
    refine De (r:= .v (.int .i64 (C5 w).2)) none (h5:=(by rw[C5,if_pos hex,if_neg k1,if_pos k2];exact LeA.refl _)) (h6:=⟨rfl,rfl,?_⟩)
    rw[C5,if_pos hex,if_neg k1,if_pos k2]
    rfl
   have hc6:=bp hb6
   have k2:¬(AU w.s.spc.files (At w 0).file).kind=3:=by rw[hfn];exact hc6
   refine BB (fun s=>s=⟨look [(0, .bp 0 0),(3, .bp 2 0),(4, .v (.int .i64 w.c.a0)),(5, .bp 3 0),(7, .v (.int .i64 (Gj w.c.a0))),(61, .v (.bool (decide ((AU w.s.spc.files f.file).kind=2)&&Bi w.c.a0 22)))],⟨[WA w cap,IB w cap,Av f,Ac (AU w.s.spc.files f.file)],[]⟩⟩) ?_ ?_
   ·skip
    refine AQ (f_ (h:=l_ (h:=AW (h:=m_ (h:=?_)))))
    refine Ar true rfl rfl (fun hb7=>?_) (fun hb7=>?_)
    ·have hc7:=bp hb7
     refine m_ (h:=Dp (h:=BS (h:=AZ (h:=a_ (h:=AO (?_))))))
     refine AF ?_
     exact⟨_,rfl,Au 4 0 rfl rfl rfl (by simp[Aq,Ao,Ap,Bf BA,CD,WA,IB,Cd,Av,Ac]) (by repeat (first|exact Sub.nil|refine Sub.cons _ _ _ rfl rfl ?_|refine Sub.any _ _ ?_|refine Sub.sl _ _ _ _ _ rfl ?_|refine Sub.slnil _ _ _ rfl ?_|(apply Sub.of;(focus exact rfl);(focus exact LeA.of_eq (vb (by simp[Bi, *])));(focus exact rfl))))⟩
    have hc7:=bp hb7
    refine A3 (h:=A3 (h:=A3 (h:=Ah (h:=a_ (h:=AO (?_))))))
    refine AF ?_
    exact⟨_,rfl,Au 4 0 rfl rfl rfl (by simp[Aq,Ao,Ap,Bf BA,CD,WA,IB,Cd,Av,Ac]) (by repeat (first|exact Sub.nil|refine Sub.cons _ _ _ rfl rfl ?_|refine Sub.any _ _ ?_|refine Sub.sl _ _ _ _ _ rfl ?_|refine Sub.slnil _ _ _ rfl ?_|(apply Sub.of;(focus exact rfl);(focus exact LeA.of_eq (vb (by simp[Bi, *])));(focus exact rfl))))⟩
   rintro s rfl
   refine A8 rfl (fun hb8=>?_) (fun hb8=>?_)
   ·have hc8:=bp hb8
    have k3:(AU w.s.spc.files (At w 0).file).kind=2∧Bi w.c.a0 22=true:=by rw[hfn];simpa using hc8
    refine w_ (a_ (h:=e_ (A4 (AX (A7 (?_))))))
    refine De (r:= .v (.int .i64 (C5 w).2)) none (h5:=(by rw[C5,if_pos hex,if_neg k1,if_neg k2,if_pos k3];exact LeA.refl _)) (h6:=⟨rfl,rfl,?_⟩)
    rw[C5,if_pos hex,if_neg k1,if_neg k2,if_pos k3]
    rfl
   have hc8:=bp hb8
   have k3:¬((AU w.s.spc.files (At w 0).file).kind=2∧Bi w.c.a0 22=true):=by rw[hfn];simpa using hc8
   refine w_ (m_ (h:=f_ (h:=l_ (h:=m_ (h:=?_)))))
   refine A6 rfl (Dw 1 rfl (.cons _ _ _ _ _ rfl (LeA.of_eq rfl) (.cons _ _ _ _ _ rfl (LeA.refl _) (.cons _ _ _ _ _ rfl (LeA.refl _) .nil))) (NN w .any f.file (Gj w.c.a0) hsb) ?_)
   rintro r rfl
   refine⟨rfl,?_⟩
   refine BR (h:=a_ (h:=e_ (?_)))
   refine A8 rfl (fun hb9=>?_) (fun hb9=>?_)
   ·have hc9:=bp hb9
    have k4:D7 w (At w 0).file (Gj w.c.a0)=false:=by rw[hfn];simpa using hc9
    refine w_ (a_ (h:=e_ (A4 (AX (A7 (?_))))))
    refine De (r:= .v (.int .i64 (C5 w).2)) none (h5:=(by rw[C5,if_pos hex,if_neg k1,if_neg k2,if_neg k3,if_pos k4];exact LeA.refl _)) (h6:=⟨rfl,rfl,?_⟩)
    rw[C5,if_pos hex,if_neg k1,if_neg k2,if_neg k3,if_pos k4]
    rfl
   have hc9:=bp hb9
   have k4:¬D7 w (At w 0).file (Gj w.c.a0)=false:=by rw[hfn];simpa using hc9
   refine B4 (As (?_))
   refine AF ?_
   exact⟨_,⟨w,f,(by rw[C5,if_pos hex,if_neg k1,if_neg k2,if_neg k3,if_neg k4,hfn]),htb,rfl⟩,DT 3 0⟩
  have hc1:=bp hb1
  have hex:¬(At w 0).ex=true:=by rw[hfn];simpa using hc1
  refine q_ (Aj (w_ (m_ (h:=Dp (h:=AW (h:=a_ (h:=e_ (?_))))))))
  refine A8 rfl (fun hb10=>?_) (fun hb10=>?_)
  ·have hc10:=bp hb10
   have k1:Bi w.c.a0 4=false:=by simp only[Bi];simpa using hc10
   refine w_ (a_ (h:=e_ (A4 (AX (A7 (A7 (?_)))))))
   refine De (r:= .v (.int .i64 (C5 w).2)) none (h5:=(by rw[C5,if_neg hex,if_pos k1];exact LeA.refl _)) (h6:=⟨rfl,rfl,?_⟩)
   rw[C5,if_neg hex,if_pos k1]
   rfl
  have hc10:=bp hb10
  have k1:¬Bi w.c.a0 4=false:=by simp only[Bi];simpa using hc10
  refine w_ (f_ (h:=l_ (h:=a_ (h:=e_ (?_)))))
  refine A8 rfl (fun hb11=>?_) (fun hb11=>?_)
  ·have hc11:=bp hb11
   have k2:(At w 0).slash=true:=by rw[hfn];exact hc11
   refine w_ (a_ (h:=e_ (A4 (AX (A7 (A7 (?_)))))))
   refine De (r:= .v (.int .i64 (C5 w).2)) none (h5:=(by rw[C5,if_neg hex,if_neg k1,if_pos k2];exact LeA.refl _)) (h6:=⟨rfl,rfl,?_⟩)
   rw[C5,if_neg hex,if_neg k1,if_pos k2]
   rfl
  have hc11:=bp hb11
  have k2:¬(At w 0).slash=true:=by rw[hfn];simpa using hc11
  refine w_ (m_ (h:=f_ (h:=l_ (h:=?_))))
  refine A6 rfl (Dw 1 rfl (.cons _ _ _ _ _ rfl (LeA.of_eq rfl) (.cons _ _ _ _ _ rfl (LeA.refl _) (.cons _ _ _ _ _ rfl (LeA.refl _) .nil))) (NN w .any f.dir 2 hsb) ?_)
  rintro r rfl
  refine⟨rfl,?_⟩
  refine BR (h:=a_ (h:=e_ (?_)))
  refine A8 rfl (fun hb12=>?_) (fun hb12=>?_)
  ·have hc12:=bp hb12
   have k3:D7 w (At w 0).dir 2=false:=by rw[hfn];simpa using hc12
   refine w_ (a_ (h:=e_ (A4 (AX (A7 (A7 (?_)))))))
   refine De (r:= .v (.int .i64 (C5 w).2)) none (h5:=(by rw[C5,if_neg hex,if_neg k1,if_neg k2,if_pos k3];exact LeA.refl _)) (h6:=⟨rfl,rfl,?_⟩)
   rw[C5,if_neg hex,if_neg k1,if_neg k2,if_pos k3]
   rfl
  have hc12:=bp hb12
  have k3:¬D7 w (At w 0).dir 2=false:=by rw[hfn];simpa using hc12
  refine B4 (As (t_ (q_ (w_ (m_ (h:=m_ (h:=k_ (h:=f_ (h:=f_ (h:=?_))))))))))
  refine A6 rfl (Dv (len:=4) (sz:=1) (n:=1) (by kernel_rfl) rfl rfl rfl rfl ?_)
  refine l_ (h:=?_)
  refine A6 rfl (Fl (y:= .agg (Ac (Fb w.c.a1))) (DD ⟨rfl,rfl⟩) ?_)
  refine A6 rfl (Cs [0,1] rfl (.cons _ _ _ _ _ rfl (LeA.refl _) (.cons _ _ _ _ _ rfl (LeA.refl _) (.cons _ _ _ _ _ rfl (LeA.refl _) .nil))) (by decide) (.cons _ _ _ _ _ rfl rfl (.cons _ _ _ _ _ rfl (Fd BA _ _ _) .nil)) (cV w cap 0 (Fb w.c.a1) f x hv.files hf hx hn (Nat.zero_le _) rfl) ?_)
  rintro r bc tc ⟨rfl,rfl,rfl⟩
  refine⟨rfl,_,Gk rfl (Cc w 0 (Fb w.c.a1)).1 cap,?_⟩
  refine a_ (h:=e_ (w_ (m_ (h:=BS (h:=e_ (?_))))))
  refine A8 rfl (fun hb13=>?_) (fun hb13=>?_)
  ·have hc13:=bp hb13
   have k4:(Cc w 0 (Fb w.c.a1)).2≠0:=by simpa using hc13
   refine w_ (m_ (h:=a_ (h:=e_ (A4 (A7 (A7 (?_)))))))
   refine De (r:= .v (.int .i64 (C5 w).2)) none (h5:=(by rw[C5,if_neg hex,if_neg k1,if_neg k2,if_neg k3,if_pos k4];exact LeA.refl _)) (h6:=⟨rfl,rfl,?_⟩)
   rw[C5,if_neg hex,if_neg k1,if_neg k2,if_neg k3,if_pos k4]
   rfl
  have hc13:=bp hb13
  have k4:(Cc w 0 (Fb w.c.a1)).2=0:=by simpa using hc13
  obtain⟨c,hc⟩:=cT k4
  have hrow2:((Cc w 0 (Fb w.c.a1)).1.r.changes.map C1)[0]?=some (C1 c):=by rw[hc];rfl
  refine AM (AQ (m_ (h:=k_ (h:=f_ (h:=f_ (h:=l_ (h:=?_)))))))
  refine A6 rfl (CQ (n:=0) rfl rfl rfl hrow2 ?_)
  refine f_ (h:=l_ (h:=f_ (h:=s_ (h:=AO (?_)))))
  refine AF ?_
  first|exact⟨_,⟨w,f,(by rw[C5,if_pos hex,if_neg k1,if_neg k2,if_neg k3,if_neg k4,hfn]),htb,rfl⟩,DT 3 0⟩|(obtain⟨q1,q2,q3⟩:=cU w 0 (Fb w.c.a1);exact⟨_,⟨(Cc w 0 (Fb w.c.a1)).1,{f with file:=c.2.2.2},(by rw[C5,if_neg hex,if_neg k1,if_neg k2,if_neg k3,if_neg (by simp[k4]),hc];rfl),by rw[q1];exact htb,rfl⟩,by rw[q3];exact DT 3 0⟩)
 rintro s ⟨w2,F2,hop,htb2,rfl⟩
 refine BB (fun s=>s=⟨look [(0, .bp 0 0),(9, .bp 3 0),(10, .v (.int .i64 (EH w2.s.tab w2.p.pid F2.file w2.c.a0).2.1)),(11, .v (.int .i64 (EH w2.s.tab w2.p.pid F2.file w2.c.a0).2.2))],⟨[WA w2 cap,IB w2 cap,Av F2,Bv (EH w2.s.tab w2.p.pid F2.file w2.c.a0).1],[]⟩⟩) ?_ ?_
 ·skip
  refine BL ([(0,WA w2 cap),(1,IB w2 cap),(2,Av F2)]) 22 (h:=AN 0 (h:=BC 1 (h:=AK 2 (h:=AK 3 (h:=AE 4 (h:=AN 5 (h:=BC 6 (h:=AK 7 (h:=AK 8 (h:=AE 9 (h:=AK 10 (h:=AE 11 (h:=AN 12 (h:=?_))))))))))))))
  refine Dx 13 18 rfl rfl ?_ ?_
  ·refine AG (UE w2.s.tab w2.p.pid F2.file w2.c.a0 htb2) ?_
   rintro r rfl
   refine o_ (h:=?_)
   refine AN 14 (h:=B1 15 (h:=B1 16 (h:=B1 17 (h:=?_))))
   refine c_ 18 rfl (C0 (by repeat constructor) ?_)
   refine o_ (h:=?_)
   refine B0 19 rfl (Ay rfl rfl rfl rfl rfl rfl (by repeat constructor) (by repeat constructor) ?_)
   refine o_ (h:=B3 20 (h:=B3 21 (h:=z_ (h:=?_))))
   refine AF ?_
   exact⟨_,rfl,DT 4 0⟩
  refine C0 (by repeat constructor) ?_
  refine o_ (h:=?_)
  refine c_ 13 rfl (AG (UE w2.s.tab w2.p.pid F2.file w2.c.a0 htb2) ?_)
  rintro r rfl
  refine o_ (h:=AN 14 (h:=B1 15 (h:=B1 16 (h:=B1 17 (h:=?_)))))
  refine B0 19 rfl (Ay rfl rfl rfl rfl rfl rfl (by repeat constructor) (by repeat constructor) ?_)
  refine o_ (h:=B3 20 (h:=B3 21 (h:=z_ (h:=?_))))
  refine AF ?_
  exact⟨_,rfl,DT 4 0⟩
 rintro s rfl
 refine w_ (m_ (h:=m_ (h:=k_ (h:=f_ (h:=f_ (h:=s_ (h:=e_ (w_ (m_ (h:=l_ (h:=m_ (h:=?_))))))))))))
 refine A6 rfl (Cs [0,1] rfl (.cons _ _ _ _ _ rfl (LeA.refl _) (.cons _ _ _ _ _ rfl (LeA.refl _) (.cons _ _ _ _ _ rfl (LeA.refl _) .nil))) (by decide) (.cons _ _ _ _ _ rfl rfl (.cons _ _ _ _ _ rfl (Fd BA _ _ _) .nil)) (cQ (TS w2 (EH w2.s.tab w2.p.pid F2.file w2.c.a0).2.1) cap (EH w2.s.tab w2.p.pid F2.file w2.c.a0).1 (EH w2.s.tab w2.p.pid F2.file w2.c.a0).2.2) ?_)
 rintro r bc tc ⟨rfl,rfl,rfl⟩
 refine⟨rfl,_,Gk rfl (Gi w2 F2.file).1 cap,?_⟩
 refine a_ (h:=e_ (A4 (?_)))
 refine De (r:= .v (.int .i64 (C5 w).2)) none (h5:=(by rw[hop,Gi,cR];exact LeA.refl _)) (h6:=⟨rfl,rfl,?_⟩)
 rw[hop]
 rfl
end
theorem UL{e:Int}{y x:A9}{c d:Bool}:(decide (e=0)&& !decide ((y.1,y.2)=(x.1,x.2))&&c&&d)=true↔(e=0∧y≠x∧c=true∧d=true):=by
 have:decide ((y.1,y.2)=(x.1,x.2))=decide (y=x):=rfl
 rw[this]
 simp[and_assoc]
theorem UM{w:Wrk}{R:Df}{x:A9}(h:(decide (R.2.2=0)&&decide (0<(R.2.1.length:Int)))=true):GH w R x=(GG (Er (Bl w R).1 0 3) 1 x,R.2.2):=by
 rw[Bool.and_eq_true]at h
 have h1:=of_decide_eq_true h.1
 unfold GH
 rw[if_neg (by simp[h1]),if_pos (of_decide_eq_true h.2),h1]
theorem UN{w:Wrk}{R:Df}{x:A9}(h:(decide (R.2.2=0)&&decide (0<(R.2.1.length:Int)))=false):GH w R x=((Bl w R).1,R.2.2):=by
 unfold GH
 by_cases h0:R.2.2=0
 ·rw[if_neg (by simp[h0]),if_neg (by simpa[h0]using h),h0]
 rw[if_pos h0,UH h0]
theorem cY(w:Wrk)(i:Nat)(r:Int)(cap:Nat):WA (Er w i r) cap=WA w cap:=by
 unfold WA Er
 simp only[List.length_modify]
 rfl
theorem cZ{w:Wrk}{i:Nat}{x:Itm}(hx:w.r.items[i]?=some x)(r:Int)(cap:Nat):IB (Er w i r) cap=LB 13 CK (w.r.items.set i {x with role:=r}) cap:=by
 unfold IB Er
 rw[UG hx]
section
theorem d6(w:Wrk)(cap:Nat)(f g:Fnd)(x0 x1:Itm)(hv:SpcV w.s.spc)(hm:w.s.spc.mounts.length≤1000)(hps:w.s.tab.ps.length≤1000)(hf:w.found[0]?=some f)(hg:w.found[1]?=some g)(hx0:w.r.items[0]?=some x0)(hx1:w.r.items[1]?=some x1)(hn:f.name.size≤100000)(hn2:g.name.size≤100000):ACall Tryz.prog 117 [.bp 0 0] [WA w cap,IB w cap] (fun r b t=>t=[]∧r= .v (.int .i64 (Dm w).2)∧b=[WA (Dm w).1 cap,IB (Dm w).1 cap]):=by
 have hsb:=hv.b hm
 have hrow0:(w.found.map Av)[0]?=some (Av f):=by rw[List.getElem?_map,hf];rfl
 have hrow1:(w.found.map Av)[1]?=some (Av g):=by rw[List.getElem?_map,hg];rfl
 have hfn:At w 0=f:=by unfold At;rw[hf];rfl
 have hgn:At w 1=g:=by unfold At;rw[hg];rfl
 have hil:0<w.r.items.length:=(Af.1 hx0).1
 obtain⟨R,hR⟩:∃R,R=EG w.s.spc.files f.dir f.name g.dir g.name:=⟨_,rfl⟩
 have hok:=He hv.files f.dir f.name g.dir g.name
 rw[←hR]at hok
 have hcall:AFn Tryz.prog 39 [.agg (Ag w.s.spc.files), .agg (AA f.dir), .v (.string f.name), .agg (AA g.dir), .v (.string g.name)] (fun r=>r=CA R):=by rw[hR];exact Sc _ _ _ _ _ hv.files hn hn2
 obtain⟨x,hxd⟩:∃x,x=(AJ w.s.spc.files f.dir f.name).1:=⟨_,rfl⟩
 obtain⟨y,hyd⟩:∃y,y=(AJ w.s.spc.files g.dir g.name).1:=⟨_,rfl⟩
 have hl1:AFn Tryz.prog 38 [.agg (Ag w.s.spc.files), .agg (AA f.dir), .v (.string f.name)] (fun r=>r= .tup [.agg (AA x), .v (.int .i64 (AJ w.s.spc.files f.dir f.name).2)]):=by rw[hxd];exact FR _ _ _ hsb.files
 have hl2:AFn Tryz.prog 38 [.agg (Ag w.s.spc.files), .agg (AA g.dir), .v (.string g.name)] (fun r=>r= .tup [.agg (AA y), .v (.int .i64 (AJ w.s.spc.files g.dir g.name).2)]):=by rw[hyd];exact FR _ _ _ hsb.files
 obtain⟨e2,he2⟩:∃e,e=(AJ w.s.spc.files g.dir g.name).2:=⟨_,rfl⟩
 rw[←he2]at hl2
 have hren:Dm w=if f.ex=false then(w,2)else if f.name=⟨#[]⟩∨g.name=⟨#[]⟩then(w,16)else if g.slash=true∧Ai w.s.spc.files f.file=false then(w,20)else if f.dir.1≠g.dir.1 then(w,18)else if D7 w f.dir 2=false∨D7 w g.dir 2=false then(w,13)else if e2=0∧y≠x∧Ai w.s.spc.files y=true∧Gg w y=true then(w,16)else GH w R x:=by
  unfold Dm Gf
  rw[hfn,hgn,←hxd,←hyd,←he2,←hR]
 clear hxd hyd he2 hR
 refine enter Tryz.func117 rfl rfl rfl rfl rfl 2 rfl ?_
 refine w_ (a_ (h:=e_ (?_)))
 refine BB (fun s=>s=⟨look [(0, .bp 0 0),(3, .bp 2 0),(4, .bp 3 0)],⟨[WA w cap,IB w cap,Av f,Av g],[]⟩⟩) ?_ ?_
 ·skip
  refine BL ([(0,WA w cap)]) 16 (h:=AN 0 (h:=BC 1 (h:=AK 2 (h:=AE 3 (h:=?_)))))
  refine Bj 4 rfl (fun _ hS=>CQ (n:=0) rfl rfl rfl hrow0 ⟨rfl,rfl⟩) ?_
  refine AE 5 (h:=AN 6 (h:=BC 7 (h:=AK 8 (h:=AE 9 (h:=?_)))))
  refine Bj 10 rfl (fun _ hS=>CQ (n:=1) rfl rfl rfl hrow1 ⟨rfl,rfl⟩) ?_
  refine AE 11 (h:=?_)
  refine Dx 12 13 rfl rfl ?_ ?_
  ·refine C0 (by repeat constructor) ?_
   refine o_ (h:=?_)
   refine c_ 13 rfl (C0 (by repeat constructor) ?_)
   refine o_ (h:=?_)
   refine B0 14 rfl (Ay rfl rfl rfl rfl rfl rfl (by repeat constructor) (by repeat constructor) ?_)
   refine o_ (h:=?_)
   refine B0 15 rfl (Ay rfl rfl rfl rfl rfl rfl (by repeat constructor) (by repeat constructor) ?_)
   refine o_ (h:=z_ (h:=?_))
   refine AF ?_
   exact⟨_,rfl,DT 4 0⟩
  refine C0 (by repeat constructor) ?_
  refine o_ (h:=?_)
  refine c_ 12 rfl (C0 (by repeat constructor) ?_)
  refine o_ (h:=?_)
  refine B0 14 rfl (Ay rfl rfl rfl rfl rfl rfl (by repeat constructor) (by repeat constructor) ?_)
  refine o_ (h:=?_)
  refine B0 15 rfl (Ay rfl rfl rfl rfl rfl rfl (by repeat constructor) (by repeat constructor) ?_)
  refine o_ (h:=z_ (h:=?_))
  refine AF ?_
  first|exact⟨_,rfl,DT 4 0⟩|exact⟨_,rfl,Ej [0,1,3,2] Ow (by decide) (.cons _ _ _ _ _ rfl rfl (.cons _ _ _ _ _ rfl (JN BA _ _ _) (.cons _ _ _ _ _ rfl rfl (.cons _ _ _ _ _ rfl rfl .nil)))) (by repeat (first|exact SubK.nil|refine SubK.cons _ _ _ _ rfl (LeA.refl _) ?_))⟩
 rintro s rfl
 refine q_ (Aj (w_ (f_ (h:=l_ (h:=BR (h:=a_ (h:=e_ (?_))))))))
 refine A8 rfl (fun hb1=>?_) (fun hb1=>?_)
 ·have hc1:=bp hb1
  have k1:f.ex=false:=by simpa using hc1
  refine w_ (a_ (h:=e_ (A4 (AX (A7 (?_))))))
  refine De (r:= .v (.int .i64 (Dm w).2)) none (h5:=(by rw[hren,if_pos k1];exact LeA.refl _)) (h6:=⟨rfl,rfl,?_⟩)
  rw[hren,if_pos k1]
  rfl
 have hc1:=bp hb1
 have k1:¬f.ex=false:=by simpa using hc1
 refine BB (fun s=>s=⟨look [(0, .bp 0 0),(3, .bp 2 0),(4, .bp 3 0),(26, .v (.bool (decide (f.name=⟨#[]⟩)||decide (g.name=⟨#[]⟩))))],⟨[WA w cap,IB w cap,Av f,Av g],[]⟩⟩) ?_ ?_
 ·skip
  refine AQ (f_ (h:=l_ (h:=AW (h:=m_ (h:=?_)))))
  refine Ar false rfl rfl (fun hb2=>?_) (fun hb2=>?_)
  ·have hc2:=bp hb2
   refine A3 (h:=A3 (h:=A3 (h:=AZ (h:=a_ (h:=AO (?_))))))
   refine AF ?_
   exact⟨_,rfl,CX 4 0 (by simp[Aq,Ao,Ap,Bf BA,CD,WA,IB,Cd,Av])⟩
  have hc2:=bp hb2
  refine f_ (h:=l_ (h:=AW (h:=Ah (h:=a_ (h:=AO (?_))))))
  refine AF ?_
  exact⟨_,rfl,CX 4 0 (by simp[Aq,Ao,Ap,Bf BA,CD,WA,IB,Cd,Av])⟩
 rintro s rfl
 refine A8 rfl (fun hb3=>?_) (fun hb3=>?_)
 ·have hc3:=bp hb3
  have k2:f.name=⟨#[]⟩∨g.name=⟨#[]⟩:=by simpa using hc3
  refine w_ (a_ (h:=e_ (A4 (AX (A7 (?_))))))
  refine De (r:= .v (.int .i64 (Dm w).2)) none (h5:=(by rw[hren,if_neg k1,if_pos k2];exact LeA.refl _)) (h6:=⟨rfl,rfl,?_⟩)
  rw[hren,if_neg k1,if_pos k2]
  rfl
 have hc3:=bp hb3
 have k2:¬(f.name=⟨#[]⟩∨g.name=⟨#[]⟩):=by simpa using hc3
 refine BB (fun s=>s=⟨look [(0, .bp 0 0),(3, .bp 2 0),(4, .bp 3 0),(35, .v (.bool (g.slash&& !Ai w.s.spc.files f.file)))],⟨[WA w cap,IB w cap,Av f,Av g],[]⟩⟩) ?_ ?_
 ·skip
  refine AQ (f_ (h:=l_ (h:=m_ (h:=?_))))
  refine Ar true rfl rfl (fun hb4=>?_) (fun hb4=>?_)
  ·have hc4:=bp hb4
   refine m_ (h:=?_)
   refine Az (Dw 1 rfl (.cons _ _ _ _ _ rfl (LeA.of_eq rfl) (.cons _ _ _ _ _ rfl (LeA.refl _) .nil)) (cC w .any 0 f hsb hf) ?_)
   rintro r rfl
   refine⟨rfl,?_⟩
   refine BR (h:=AZ (h:=a_ (h:=AO (?_))))
   refine AF ?_
   exact⟨_,rfl,CX 4 0 (by simp[Aq,Ao,Ap,Bf BA,CD,WA,IB,Cd,Av])⟩
  have hc4:=bp hb4
  refine A3 (h:=A3 (h:=A3 (h:=Ah (h:=a_ (h:=AO (?_))))))
  refine AF ?_
  exact⟨_,rfl,CX 4 0 (by simp[Aq,Ao,Ap,Bf BA,CD,WA,IB,Cd,Av])⟩
 rintro s rfl
 refine A8 rfl (fun hb5=>?_) (fun hb5=>?_)
 ·have hc5:=bp hb5
  have k3:g.slash=true∧Ai w.s.spc.files f.file=false:=by simpa using hc5
  refine w_ (a_ (h:=e_ (A4 (AX (A7 (?_))))))
  refine De (r:= .v (.int .i64 (Dm w).2)) none (h5:=(by rw[hren,if_neg k1,if_neg k2,if_pos k3];exact LeA.refl _)) (h6:=⟨rfl,rfl,?_⟩)
  rw[hren,if_neg k1,if_neg k2,if_pos k3]
  rfl
 have hc5:=bp hb5
 have k3:¬(g.slash=true∧Ai w.s.spc.files f.file=false):=by simpa using hc5
 refine w_ (f_ (h:=f_ (h:=l_ (h:=f_ (h:=f_ (h:=l_ (h:=BS (h:=a_ (h:=e_ (?_))))))))))
 refine A8 rfl (fun hb6=>?_) (fun hb6=>?_)
 ·have hc6:=bp hb6
  have k4:f.dir.1≠g.dir.1:=by simpa using hc6
  refine w_ (a_ (h:=e_ (A4 (AX (A7 (?_))))))
  refine De (r:= .v (.int .i64 (Dm w).2)) none (h5:=(by rw[hren,if_neg k1,if_neg k2,if_neg k3,if_pos k4];exact LeA.refl _)) (h6:=⟨rfl,rfl,?_⟩)
  rw[hren,if_neg k1,if_neg k2,if_neg k3,if_pos k4]
  rfl
 have hc6:=bp hb6
 have k4:¬f.dir.1≠g.dir.1:=by simpa using hc6
 refine BB (fun s=>s=⟨look [(0, .bp 0 0),(3, .bp 2 0),(4, .bp 3 0),(51, .v (.bool (!D7 w f.dir 2|| !D7 w g.dir 2)))],⟨[WA w cap,IB w cap,Av f,Av g],[]⟩⟩) ?_ ?_
 ·skip
  refine AQ (m_ (h:=f_ (h:=l_ (h:=?_))))
  refine A6 rfl (Dw 1 rfl (.cons _ _ _ _ _ rfl (LeA.of_eq rfl) (.cons _ _ _ _ _ rfl (LeA.refl _) (.cons _ _ _ _ _ rfl (LeA.refl _) .nil))) (NN w .any f.dir 2 hsb) ?_)
  rintro r rfl
  refine⟨rfl,?_⟩
  refine BR (h:=m_ (h:=?_))
  refine Ar false rfl rfl (fun hb7=>?_) (fun hb7=>?_)
  ·have hc7:=bp hb7
   refine A3 (h:=A3 (h:=A3 (h:=A3 (h:=A3 (h:=AZ (h:=a_ (h:=AO (?_))))))))
   refine AF ?_
   exact⟨_,rfl,CX 4 0 (by simp[Aq,Ao,Ap,Bf BA,CD,WA,IB,Cd,Av])⟩
  have hc7:=bp hb7
  refine m_ (h:=f_ (h:=l_ (h:=?_)))
  refine Az (Dw 1 rfl (.cons _ _ _ _ _ rfl (LeA.of_eq rfl) (.cons _ _ _ _ _ rfl (LeA.refl _) (.cons _ _ _ _ _ rfl (LeA.refl _) .nil))) (NN w .any g.dir 2 hsb) ?_)
  rintro r rfl
  refine⟨rfl,?_⟩
  refine BR (h:=Ah (h:=a_ (h:=AO (?_))))
  refine AF ?_
  exact⟨_,rfl,CX 4 0 (by simp[Aq,Ao,Ap,Bf BA,CD,WA,IB,Cd,Av])⟩
 rintro s rfl
 refine A8 rfl (fun hb8=>?_) (fun hb8=>?_)
 ·have hc8:=bp hb8
  have k5:D7 w f.dir 2=false∨D7 w g.dir 2=false:=by simpa using hc8
  refine w_ (a_ (h:=e_ (A4 (AX (A7 (?_))))))
  refine De (r:= .v (.int .i64 (Dm w).2)) none (h5:=(by rw[hren,if_neg k1,if_neg k2,if_neg k3,if_neg k4,if_pos k5];exact LeA.refl _)) (h6:=⟨rfl,rfl,?_⟩)
  rw[hren,if_neg k1,if_neg k2,if_neg k3,if_neg k4,if_pos k5]
  rfl
 have hc8:=bp hb8
 have k5:¬(D7 w f.dir 2=false∨D7 w g.dir 2=false):=by simpa using hc8
 refine B4 (As (t_ (?_)))
 refine BB (fun s=>s=⟨look [(0, .bp 0 0),(3, .bp 2 0),(4, .bp 3 0),(5, .bp 4 0)],⟨[WA w cap,IB w cap,Av f,Av g,AA x],[]⟩⟩) ?_ ?_
 ·skip
  refine BL ([(0,WA w cap),(1,IB w cap),(2,Av f),(3,Av g)]) 17 (h:=AN 0 (h:=BC 1 (h:=AK 2 (h:=AK 3 (h:=AK 4 (h:=AE 5 (h:=AK 6 (h:=AE 7 (h:=AK 8 (h:=AE 9 (h:=?_)))))))))))
  refine Dx 10 14 rfl rfl ?_ ?_
  ·refine AG (hl1) ?_
   rintro r rfl
   refine o_ (h:=?_)
   refine AN 11 (h:=B1 12 (h:=B1 13 (h:=?_)))
   refine c_ 14 rfl (C0 (by repeat constructor) ?_)
   refine o_ (h:=?_)
   refine B0 15 rfl (Ay rfl rfl rfl rfl rfl rfl (by repeat constructor) (by repeat constructor) ?_)
   refine o_ (h:=B3 16 (h:=z_ (h:=?_)))
   refine AF ?_
   exact⟨_,rfl,DT 5 0⟩
  refine C0 (by repeat constructor) ?_
  refine o_ (h:=?_)
  refine c_ 10 rfl (AG (hl1) ?_)
  rintro r rfl
  refine o_ (h:=AN 11 (h:=B1 12 (h:=B1 13 (h:=?_))))
  refine B0 15 rfl (Ay rfl rfl rfl rfl rfl rfl (by repeat constructor) (by repeat constructor) ?_)
  refine o_ (h:=B3 16 (h:=z_ (h:=?_)))
  refine AF ?_
  exact⟨_,rfl,DT 5 0⟩
 rintro s rfl
 refine q_ (?_)
 refine BB (fun s=>s=⟨look [(0, .bp 0 0),(3, .bp 2 0),(4, .bp 3 0),(5, .bp 4 0),(7, .bp 5 0),(8, .v (.int .i64 e2))],⟨[WA w cap,IB w cap,Av f,Av g,AA x,AA y],[]⟩⟩) ?_ ?_
 ·skip
  refine BL ([(0,WA w cap),(1,IB w cap),(2,Av f),(3,Av g),(4,AA x)]) 17 (h:=AN 0 (h:=BC 1 (h:=AK 2 (h:=AK 3 (h:=AK 4 (h:=AE 5 (h:=AK 6 (h:=AE 7 (h:=AK 8 (h:=AE 9 (h:=?_)))))))))))
  refine Dx 10 14 rfl rfl ?_ ?_
  ·refine AG (hl2) ?_
   rintro r rfl
   refine o_ (h:=?_)
   refine AN 11 (h:=B1 12 (h:=B1 13 (h:=?_)))
   refine c_ 14 rfl (C0 (by repeat constructor) ?_)
   refine o_ (h:=?_)
   refine B0 15 rfl (Ay rfl rfl rfl rfl rfl rfl (by repeat constructor) (by repeat constructor) ?_)
   refine o_ (h:=B3 16 (h:=z_ (h:=?_)))
   refine AF ?_
   exact⟨_,rfl,DT 6 0⟩
  refine C0 (by repeat constructor) ?_
  refine o_ (h:=?_)
  refine c_ 10 rfl (AG (hl2) ?_)
  rintro r rfl
  refine o_ (h:=AN 11 (h:=B1 12 (h:=B1 13 (h:=?_))))
  refine B0 15 rfl (Ay rfl rfl rfl rfl rfl rfl (by repeat constructor) (by repeat constructor) ?_)
  refine o_ (h:=B3 16 (h:=z_ (h:=?_)))
  refine AF ?_
  exact⟨_,rfl,DT 6 0⟩
 rintro s rfl
 refine BB (fun s=>s=⟨look [(0, .bp 0 0),(3, .bp 2 0),(4, .bp 3 0),(5, .bp 4 0),(113, .v (.bool (decide (e2=0)&& !decide ((y.1,y.2)=(x.1,x.2))&&Ai w.s.spc.files y&&Gg w y)))],⟨[WA w cap,IB w cap,Av f,Av g,AA x],[]⟩⟩) ?_ ?_
 ·skip
  refine DC 22 (h:=AN 0 (h:=GU 1 (h:=AN 2 (h:=?_))))
  refine FK (j:=2) rfl (fun hb9=>?_) (fun hb9=>?_)
  ·have hc9:=bp hb9
   refine AE 3 (h:=AE 4 (h:=?_))
   refine E9 (i:=5) rfl (EN rfl rfl (by repeat constructor) (by repeat constructor) (fun w=>RK _ _ _ _ w) (by kernel_rfl) ⟨rfl,rfl⟩) ?_
   refine F0 6 (h:=AN 7 (h:=?_))
   refine FK (j:=7) rfl (fun hb10=>?_) (fun hb10=>?_)
   ·have hc10:=bp hb10
    refine AN 8 (h:=BC 9 (h:=AK 10 (h:=AK 11 (h:=AK 12 (h:=AE 13 (h:=AE 14 (h:=?_)))))))
    refine c_ 15 rfl (AG (FQ w.s.spc.files y hsb.files) ?_)
    rintro r rfl
    refine o_ (h:=F0 16 (h:=AN 17 (h:=?_)))
    refine FK (j:=17) rfl (fun hb11=>?_) (fun hb11=>?_)
    ·have hc11:=bp hb11
     refine AN 18 (h:=AE 19 (h:=?_))
     refine c_ 20 rfl (Dw 1 rfl (.cons _ _ _ _ _ rfl (LeA.of_eq rfl) (.cons _ _ _ _ _ rfl (LeA.refl _) .nil)) (cF w .any y hsb hps) ?_)
     rintro r rfl
     refine⟨rfl,?_⟩
     refine o_ (h:=F0 21 (h:=z_ (h:=?_)))
     refine AF ?_
     exact⟨_,rfl,Au 5 0 rfl rfl rfl (by simp[Aq,Ao,Ap,Bf BA,CD,WA,IB,Cd,Av,AA]) (by repeat (first|exact Sub.nil|refine Sub.cons _ _ _ rfl rfl ?_|refine Sub.any _ _ ?_|refine Sub.sl _ _ _ _ _ rfl ?_|refine Sub.slnil _ _ _ rfl ?_|(apply Sub.of;(focus exact rfl);(focus exact LeA.of_eq (vb (by first|(simp[*];done)|(simp only[*,decide_true,decide_false,Bool.not_true,Bool.not_false,Bool.true_and,Bool.and_true,Bool.false_and,Bool.and_false]))));(focus exact rfl))))⟩
    have hc11:=bp hb11
    refine B2 18 (h:=B2 19 (h:=B2 20 (h:=EC 21 (h:=z_ (h:=?_)))))
    refine AF ?_
    exact⟨_,rfl,Au 5 0 rfl rfl rfl (by simp[Aq,Ao,Ap,Bf BA,CD,WA,IB,Cd,Av,AA]) (by repeat (first|exact Sub.nil|refine Sub.cons _ _ _ rfl rfl ?_|refine Sub.any _ _ ?_|refine Sub.sl _ _ _ _ _ rfl ?_|refine Sub.slnil _ _ _ rfl ?_|(apply Sub.of;(focus exact rfl);(focus exact LeA.of_eq (vb (by first|(simp[*];done)|(simp only[*,decide_true,decide_false,Bool.not_true,Bool.not_false,Bool.true_and,Bool.and_true,Bool.false_and,Bool.and_false]))));(focus exact rfl))))⟩
   have hc10:=bp hb10
   refine B2 8 (h:=B2 9 (h:=B2 10 (h:=B2 11 (h:=B2 12 (h:=B2 13 (h:=B2 14 (h:=B2 15 (h:=EC 16 (h:=AN 17 (h:=B2 18 (h:=B2 19 (h:=B2 20 (h:=EC 21 (h:=z_ (h:=?_)))))))))))))))
   refine AF ?_
   exact⟨_,rfl,Au 5 0 rfl rfl rfl (by simp[Aq,Ao,Ap,Bf BA,CD,WA,IB,Cd,Av,AA]) (by repeat (first|exact Sub.nil|refine Sub.cons _ _ _ rfl rfl ?_|refine Sub.any _ _ ?_|refine Sub.sl _ _ _ _ _ rfl ?_|refine Sub.slnil _ _ _ rfl ?_|(apply Sub.of;(focus exact rfl);(focus exact LeA.of_eq (vb (by first|(simp[*];done)|(simp only[*,decide_true,decide_false,Bool.not_true,Bool.not_false,Bool.true_and,Bool.and_true,Bool.false_and,Bool.and_false]))));(focus exact rfl))))⟩
  have hc9:=bp hb9
  refine B2 3 (h:=B2 4 (h:=B2 5 (h:=EC 6 (h:=AN 7 (h:=B2 8 (h:=B2 9 (h:=B2 10 (h:=B2 11 (h:=B2 12 (h:=B2 13 (h:=B2 14 (h:=B2 15 (h:=EC 16 (h:=AN 17 (h:=B2 18 (h:=B2 19 (h:=B2 20 (h:=EC 21 (h:=z_ (h:=?_))))))))))))))))))))
  refine AF ?_
  exact⟨_,rfl,Au 5 0 rfl rfl rfl (by simp[Aq,Ao,Ap,Bf BA,CD,WA,IB,Cd,Av,AA]) (by repeat (first|exact Sub.nil|refine Sub.cons _ _ _ rfl rfl ?_|refine Sub.any _ _ ?_|refine Sub.sl _ _ _ _ _ rfl ?_|refine Sub.slnil _ _ _ rfl ?_|(apply Sub.of;(focus exact rfl);(focus exact LeA.of_eq (vb (by first|(simp[*];done)|(simp only[*,decide_true,decide_false,Bool.not_true,Bool.not_false,Bool.true_and,Bool.and_true,Bool.false_and,Bool.and_false]))));(focus exact rfl))))⟩
 rintro s rfl
 refine A8 rfl (fun hb12=>?_) (fun hb12=>?_)
 ·have hc12:=bp hb12
  have k6:=UL.1 hb12
  refine w_ (a_ (h:=e_ (A4 (A7 (?_)))))
  refine De (r:= .v (.int .i64 (Dm w).2)) none (h5:=(by rw[hren,if_neg k1,if_neg k2,if_neg k3,if_neg k4,if_neg k5,if_pos k6];exact LeA.refl _)) (h6:=⟨rfl,rfl,?_⟩)
  rw[hren,if_neg k1,if_neg k2,if_neg k3,if_neg k4,if_neg k5,if_pos k6]
  rfl
 have hc12:=bp hb12
 have k6:¬(e2=0∧y≠x∧Ai w.s.spc.files y=true∧Gg w y=true):=fun h=>by rw[UL.2 h]at hb12;cases hb12
 refine AM (q_ (BL ([(0,WA w cap),(1,IB w cap),(2,Av f),(3,Av g)]) 19 (h:=AN 0 (h:=AN 1 (h:=BC 2 (h:=AK 3 (h:=AK 4 (h:=AK 5 (h:=AE 6 (h:=AK 7 (h:=AE 8 (h:=AK 9 (h:=AE 10 (h:=AK 11 (h:=AE 12 (h:=AK 13 (h:=AE 14 (h:=?_))))))))))))))))))
 refine c_ 15 rfl (AG (hcall) ?_)
 rintro r rfl
 refine o_ (h:=B1 16 (h:=B1 17 (h:=B1 18 (h:=?_))))
 refine c_ 19 rfl (Cs [0,1] rfl (.cons _ _ _ _ _ rfl (LeA.refl _) (.cons _ _ _ _ _ rfl (LeA.refl _) (.cons _ _ _ _ _ rfl (LeA.refl _) (.cons _ _ _ _ _ rfl (LeA.refl _) .nil)))) (by decide) (.cons _ _ _ _ _ rfl rfl (.cons _ _ _ _ _ rfl (Fd BA _ _ _) .nil)) (UF w cap R.1 R.2.1 R.2.2) ?_)
 rintro r bc tc ⟨rfl,rfl,rfl⟩
 refine⟨rfl,_,Gk rfl (Bl w R).1 cap,?_⟩
 refine o_ (h:=?_)
 refine c_ 20 rfl (G4 rfl ?_)
 refine o_ (h:=z_ (h:=t_ (q_ (?_))))
 refine BB (fun s=>s=⟨look [(0, .bp 0 0),(5, .bp 4 0),(9, .v (.int .i64 R.2.2)),(144, .v (.bool (decide (R.2.2=0)&&decide (0<(R.2.1.length:Int)))))],⟨[WA (Bl w R).1 cap,IB (Bl w R).1 cap,Av f,Av g,AA x],[]⟩⟩) ?_ ?_
 ·skip
  refine AQ (m_ (h:=AW (h:=m_ (h:=?_))))
  refine Ar true rfl rfl (fun hb13=>?_) (fun hb13=>?_)
  ·have hc13:=bp hb13
   have hch:(Bl w R).1.r.changes=R.2.1:=by rw[Ho hc13]
   refine m_ (h:=k_ (h:=f_ (h:=f_ (h:=l_ (h:=n_ (h:=CG (h:=AZ (h:=AO (?_)))))))))
   refine AF ?_
   exact⟨_,rfl,CX 5 0 (by simp[Aq,Ao,Ap,Bf BA,CD,WA,IB,Cd,Av,AA])⟩
  have hc13:=bp hb13
  refine A3 (h:=A3 (h:=A3 (h:=A3 (h:=A3 (h:=A3 (h:=A3 (h:=Ah (h:=AO (?_)))))))))
  refine AF ?_
  exact⟨_,rfl,CX 5 0 (by simp[Aq,Ao,Ap,Bf BA,CD,WA,IB,Cd,Av,AA])⟩
 rintro s rfl
 refine A8 rfl (fun hb14=>?_) (fun hb14=>?_)
 ·have hc14:=bp hb14
  have h0:R.2.2=0:=of_decide_eq_true ((Bool.and_eq_true _ _).mp hb14).1
  have hfb:FlsB (Er (Bl w R).1 0 3).s.spc.files:=by rw[Ho h0];exact(hok h0).1.b
  have hit:(Bl w R).1.r.items=w.r.items:=by rw[Ho h0]
  have hxa:(Bl w R).1.r.items[0]?=some x0:=by rw[hit];exact hx0
  have hil1:0<(Bl w R).1.r.items.length:=by rw[hit];exact hil
  have hxr:(Er (Bl w R).1 0 3).r.items[1]?=some x1:=by
   show((Bl w R).1.r.items.modify 0 _)[1]?=_
   rw[hit,List.getElem?_modify]
   simp[hx1]
  refine BB (fun s=>s=⟨look [(0, .bp 0 0),(5, .bp 4 0),(9, .v (.int .i64 R.2.2))],⟨[WA (Er (Bl w R).1 0 3) cap,IB (Er (Bl w R).1 0 3) cap,Av f,Av g,AA x],[]⟩⟩) ?_ ?_
  ·skip
   refine AQ (m_ (h:=k_ (h:=f_ (h:=f_ (h:=l_ (h:=?_))))))
   refine A6 rfl (Cq (m:=0) rfl rfl rfl hil1 ?_)
   refine f_ (h:=?_)
   refine Kc (Ay rfl rfl rfl rfl rfl rfl (Hm BA (x':={x0 with role:=3}) hxa (by repeat constructor) (List.cons_ne_nil _ _)) (by repeat constructor) ?_)
   refine AO (?_)
   refine AF ?_
   refine⟨_,rfl,?_⟩
   rw[cY,cZ hxa]
   exact DT 5 0
  rintro s rfl
  refine AQ (m_ (h:=l_ (h:=?_)))
  refine A6 rfl (Cs [0,1] rfl (.cons _ _ _ _ _ rfl (LeA.refl _) (.cons _ _ _ _ _ rfl (LeA.refl _) (.cons _ _ _ _ _ rfl (LeA.refl _) .nil))) (by decide) (.cons _ _ _ _ _ rfl rfl (.cons _ _ _ _ _ rfl (Fd BA _ _ _) .nil)) (UK (Er (Bl w R).1 0 3) cap 1 x x1 hfb hxr) ?_)
  rintro r bc tc ⟨rfl,rfl,rfl⟩
  refine⟨rfl,_,Gk rfl (GG (Er (Bl w R).1 0 3) 1 x) cap,?_⟩
  refine e_ (w_ (m_ (h:=a_ (h:=e_ (A4 (?_))))))
  refine De (r:= .v (.int .i64 (Dm w).2)) none (h5:=(by rw[hren,if_neg k1,if_neg k2,if_neg k3,if_neg k4,if_neg k5,if_neg k6,UM hb14];exact LeA.refl _)) (h6:=⟨rfl,rfl,?_⟩)
  rw[hren,if_neg k1,if_neg k2,if_neg k3,if_neg k4,if_neg k5,if_neg k6,UM hb14]
  rfl
 have hc14:=bp hb14
 refine AM (w_ (m_ (h:=a_ (h:=e_ (A4 (?_))))))
 refine De (r:= .v (.int .i64 (Dm w).2)) none (h5:=(by rw[hren,if_neg k1,if_neg k2,if_neg k3,if_neg k4,if_neg k5,if_neg k6,UN hb14];exact LeA.refl _)) (h6:=⟨rfl,rfl,?_⟩)
 rw[hren,if_neg k1,if_neg k2,if_neg k3,if_neg k4,if_neg k5,if_neg k6,UN hb14]
 rfl
end
end Go.Proofs.YtbglbmnhgbgelaaGreatDoor
