/-
  Part 13 of the proof of WatchNamesP: what the statement's proof uses of the texts in wip/tpl.
-/
import Derived.Test.YtobclmbkdhbnpaaGreatDoorQb12
open Go.Proofs.Tryz (prog)
set_option maxRecDepth 10000
set_option maxHeartbeats 4000000
set_option linter.unusedVariables false
set_option linter.unusedSimpArgs false
namespace Go.Proofs.YtobclmbkdhbnpaaGreatDoor
open Go.RowKit
theorem Td:∀(l:List Dsc) (k:Nat),Dt k l≤k+l.length
 |[],k=>Av _
 |d::l,k=>by
   unfold Dt;split
   ·have:=Td l (k+1);simp only[List.length_cons];omega
   omega
theorem aJ{α:Type}{l:List α}{j:Nat}{x:α}(h:l[j]?=some x):l.drop j=x::l.drop (j+1):=by
 obtain⟨hl,rfl⟩:=Ag.1 h;exact List.drop_eq_getElem_cons hl
def Te(p:Prc)(x:AV):List AV:=[.v (.int .i64 p.pid), .v (.int .i64 p.ppid), .v (.int .i64 p.uid), .v (.int .i64 p.euid), .v (.int .i64 p.gid), .v (.int .i64 p.egid), .v (.int .i64 p.auid), .v (.int .i64 p.ses), .v (.int .i64 p.cwd.1), .v (.int .i64 p.cwd.2), .v (.string p.comm), .v (.string p.exe),x, .v (.bool p.audited)]
theorem aK(p:Prc)(rows:List (List AV))(g:Option Nat)(l:List Dsc)(h:rows=l.map Hg):LeA (.agg (Te p (.sl 4 rows g))) (.agg (BW {p with opens:=l})):=by
 subst h;unfold Te BW
 repeat (first|exact AM _|exact LeA.tok _ _ _|refine LeA.agg ?_|exact LeL.nil|refine LeL.cons ?_ ?_)
def Mx(R:Tab×Int×Int):AV:= .tup [.agg (C0 R.1), .v (.int .i64 R.2.1), .v (.int .i64 R.2.2)]
theorem Tf(n e:Int):LeA (.tup [.agg Di, .v (.int .i64 n), .v (.int .i64 e)]) (Mx (D3,n,e)):=(by repeat (first|exact AM _|exact LeA.nil _|exact LeL.refl _|refine LeA.agg ?_|refine LeA.tup ?_|exact LeL.nil|refine LeL.cons ?_ ?_|exact LeA.any _))
def LV(R:Syst×Int):AV:= .tup [.agg (CB R.1), .v (.int .i64 R.2)]
def CX(w:Wrk):AV:= .sl 8 (w.found.map Aq) none
section
theorem Tg(t:Tab)(pid:Int)(a:A6)(flags:Int)(ht:TabB t):AFn prog 133 [.agg (C0 t), .v (.int .i64 pid), .agg (A7 a), .v (.int .i64 flags)] (fun r=>r=Mx (EM t pid a flags)):=by
 have h8:=Yk ht pid;have hol:((At t pid).opens.map Hg).length=(At t pid).opens.length:=List.length_map _;have hfl:Dt 0 (At t pid).opens≤(At t pid).opens.length:=by have:=Td (At t pid).opens 0;omega
 refine enter Tryz.func133 rfl rfl rfl rfl rfl 0 rfl ?_;refine w_ (b_ (h:=b_ (h:=Ak (h:=a_ (h:=a_ (h:=e_ (w_ (l_ (h:=m_ (h:=?_))))))))));refine A8 rfl (AN (T7 t pid ht) ?_);rintro r rfl;refine m_ (h:=x_ (h:=x_ (h:=Ak (h:=s_ (h:=a_ (h:=e_ (q_ (w_ (m_ (h:=Bt (h:=e_ (?_))))))))))));refine AA rfl (fun hb1=>?_) (fun hb1=>?_)
 ·have hc1:=bp hb1;refine w_ (Aa (h:=s_ (h:=a_ (h:=a_ (h:=e_ (A4 (A9 (?_))))))));refine BS (r:=Mx (EM t pid a flags)) none (h5:=?_) (h6:=⟨rfl,rfl,rfl⟩);rw[EM,if_pos (by simpa using hc1)];exact Tf _ _
 have hc1:=bp hb1;have hhas:Dh t pid=true:=by simpa using hc1
 refine AO (q_ (w_ (f_ (h:=l_ (h:=n_ (h:=Fz (h:=e_ (?_))))))));refine AA rfl (fun hb2=>?_) (fun hb2=>?_)
 ·have hc2:=bp hb2;refine w_ (Aa (h:=s_ (h:=a_ (h:=a_ (h:=e_ (A4 (A9 (?_))))))));refine BS (r:=Mx (EM t pid a flags)) none (h5:=?_) (h6:=⟨rfl,rfl,rfl⟩);rw[EM,if_neg (by simp[hhas]),if_pos (by omega)];exact Tf _ _
 have hc2:=bp hb2;refine AO (w_ (a_ (h:=e_ (?_))));refine BR (fun s=>s=⟨look [(3, .v (.int .i64 flags)),(4, .bp 0 0),(6, .bp 1 0),(8, .bp 2 0),(11, .bp 3 0),(13, .v (.int .i64 (Dt 0 (At t pid).opens:Nat)))],⟨[C0 t,A7 a,Di,BW (At t pid)],[]⟩⟩) ?_ ?_
 ·skip
  refine Ap (?_);refine By (fun m s=>∃j:Nat,j≤(At t pid).opens.length∧m=(At t pid).opens.length - j∧Dt 0 (At t pid).opens=Dt j ((At t pid).opens.drop j)∧s=⟨look [(3, .v (.int .i64 flags)),(4, .bp 0 0),(6, .bp 1 0),(8, .bp 2 0),(11, .bp 3 0),(13, .v (.int .i64 (j:Int)))],⟨[C0 t,A7 a,Di,BW (At t pid)],[]⟩⟩) ((At t pid).opens.length) ((wk 4 0)) (⟨0,BC _,rfl,rfl,rfl⟩) ?_;rintro m s ⟨j,hj,rfl,hfd,rfl⟩;refine q_ (w_ (m_ (h:=f_ (h:=l_ (h:=n_ (h:=BQ (h:=m_ (h:=?_))))))));refine Aw true rfl rfl (fun hb3=>?_) (fun hb3=>?_)
  ·have hc3:=bp hb3;obtain⟨hlt,d,hy,hrow, -⟩:=Cp Hg hc3;have hdr:=aJ hy;refine f_ (h:=l_ (h:=m_ (h:=i_ (h:=f_ (h:=l_ (h:=m_ (h:=Ah (h:=AY (h:=e_ (?_))))))))));refine AA rfl (fun hb4=>?_) (fun hb4=>?_)
   ·have hc4:=bp hb4;have heq:d.fd=(j:Int):=by simpa using hc4
    refine AO (Ap (AX (m_ (h:=BB (h:=a_ (h:=AT (Ay (?_))))))));refine AG ?_;refine⟨_,_,?_,⟨j+1,by omega,rfl,by rw[hfd,hdr,Dt,if_pos heq],rfl⟩,(wk 4 0)⟩;omega
   have hc4:=bp hb4;have hend:Dt 0 (At t pid).opens=j:=by rw[hfd,hdr,Dt,if_neg (by simpa using hc4)]
   refine Ba (Ao (Ao (Bb (?_))));refine AG ?_;refine⟨_,rfl,?_⟩;rw[hend];exact(wk 4 0)
  have hc3:=bp hb3;have hend:Dt 0 (At t pid).opens=j:=by rw[hfd,D0 Hg hj hc3,List.drop_length];rfl
  refine A3 (h:=A3 (h:=A3 (h:=A3 (h:=A3 (h:=A3 (h:=A3 (h:=A3 (h:=Aj (h:=e_ (F6 (h:=Ba (Ao (Ao (Bb (?_)))))))))))))));refine AG ?_;refine⟨_,rfl,?_⟩;rw[hend];exact(wk 4 0)
 rintro s rfl;refine w_ (f_ (h:=l_ (h:=m_ (h:=?_))));refine A8 rfl (Uk (k:=Dt 0 (At t pid).opens) rfl rfl rfl (by omega) ?_)
 first|refine A8 rfl (Ei rfl rfl rfl (by simp;omega) (by repeat constructor) ?_)|refine A8 rfl (Ej rfl rfl (by simp;omega) (by repeat constructor) ?_)
 refine a_ (h:=e_ (w_ (m_ (h:=m_ (h:=l_ (h:=m_ (h:=Aa (h:=CR (h:=?_)))))))))
 first|refine A8 rfl (Ei rfl rfl rfl (by simp;omega) (by repeat constructor) ?_)|refine A8 rfl (Ej rfl rfl (by simp;omega) (by repeat constructor) ?_)
 refine a_ (h:=e_ (w_ (m_ (h:=f_ (h:=l_ (h:=m_ (h:=?_)))))));refine A8 rfl (NU (l:=Dt 0 (At t pid).opens) rfl rfl rfl (by omega) ?_)
 first|refine A8 rfl (Ei rfl rfl rfl (by simp;omega) (by repeat constructor) ?_)|refine A8 rfl (Ej rfl rfl (by simp;omega) (by repeat constructor) ?_)
 refine f_ (h:=s_ (h:=e_ (w_ (l_ (h:=?_)))));refine A8 rfl (F1 (y:= .agg (BW {At t pid with opens:=Js (At t pid).opens (Dt 0 (At t pid).opens) ⟨(Dt 0 (At t pid).opens:Nat),a,flags⟩})) (Eg rfl rfl rfl ⟨rfl,rfl⟩) (aK _ _ _ _ (by simp[Js,Hg];rfl)) ?_);refine A8 rfl (AN (Yp t {At t pid with opens:=Js (At t pid).opens (Dt 0 (At t pid).opens) ⟨(Dt 0 (At t pid).opens:Nat),a,flags⟩} ht (Yl hhas) (by simp[Js];omega)) ?_);rintro r rfl;refine m_ (h:=s_ (h:=a_ (h:=a_ (h:=e_ (A4 (?_))))));refine AD ?_;rw[EM,if_neg (by simp[hhas]),if_neg (by omega)];rfl
theorem aL(a:A6):AFn prog 50 [.agg (A7 a)] (fun r=>r= .agg (C0 (P9 a))):=by
 refine enter Tryz.func50 rfl rfl rfl rfl rfl 0 rfl ?_;refine w_ (b_ (h:=Ak (h:=e_ (w_ (l_ (h:=?_))))));refine A8 rfl (Em (y:= .agg (BW ⟨1,0,0,0,0,0,4294967295,4294967295,a,⟨#[105,110,105,116]⟩,⟨#[47,105,110,105,116]⟩,[],true⟩)) (D8 ⟨rfl,rfl⟩) ?_);refine CR (h:=Aa (h:=s_ (h:=e_ (A4 (?_)))));refine AD ?_;rfl
theorem Th(n:Int):AFn prog 17 [.v (.int .i64 n)] (fun r=>r=LV (FE n)):=by
 refine enter Tryz.func17 rfl rfl rfl rfl rfl 0 rfl ?_;refine w_ (Ak (h:=a_ (h:=e_ (w_ (m_ (h:=?_))))));refine A8 rfl (AN (Vb n) ?_);rintro r rfl;refine m_ (h:=x_ (h:=x_ (h:=Ak (h:=s_ (h:=a_ (h:=e_ (q_ (w_ (m_ (h:=Bf (h:=e_ (?_))))))))))));refine AA rfl (fun hb1=>?_) (fun hb1=>?_)
 ·have hc1:=bp hb1;refine w_ (Aa (h:=m_ (h:=s_ (h:=a_ (h:=e_ (A4 (A9 (?_))))))));refine BS (r:=LV (FE n)) none (h5:=?_) (h6:=⟨rfl,rfl,rfl⟩);rw[FE,if_pos (by simpa using hc1)];exact(by repeat (first|exact AM _|exact LeA.nil _|exact LeL.refl _|refine LeA.agg ?_|refine LeA.tup ?_|exact LeL.nil|refine LeL.cons ?_ ?_|exact LeA.any _))
 have hc1:=bp hb1;refine AO (q_ (Bo ([(1,Am (E8 n).1)]) 7 (h:=AF 0 (h:=Fy 1 (h:=Fy 2 (h:=?_))))));refine c_ 3 rfl (AN (aL (0,1)) ?_);rintro r rfl;refine o_ (h:=Fy 4 (h:=?_));refine BA 5 rfl (B1 rfl rfl rfl rfl rfl rfl (by repeat constructor) (by repeat constructor) ?_);refine o_ (h:=BO 6 (h:=z_ (h:=t_ (A4 (?_)))));refine BS (r:=LV (FE n)) none (h5:=?_) (h6:=⟨rfl,rfl,rfl⟩);rw[FE,if_neg (by simpa using hc1)];exact(by repeat (first|exact AM _|exact LeA.nil _|exact LeL.refl _|refine LeA.agg ?_|refine LeA.tup ?_|exact LeL.nil|refine LeL.cons ?_ ?_|exact LeA.any _))
theorem My(s:Syst)(hs:SpcB s.spc)(ht:TabB s.tab):AFn prog 60 [.agg (CB s)] (fun r=>r= .agg (CB s)):=by
 refine enter Tryz.func60 rfl rfl rfl rfl rfl 0 rfl ?_;refine w_ (b_ (h:=Ak (h:=e_ (q_ (Bo ([(0,CB s)]) 7 (h:=AJ 0 (h:=?_)))))))
 first|refine AF 1 (h:=?_)|refine B5 1 rfl (fun _ hS=>Cv (row:=CB s) rfl (kb hS rfl) (BK rfl) rfl ⟨rfl,rfl⟩) ?_
 refine AJ 3 (h:=?_)
 first|refine AF 4 (h:=?_)|refine B5 4 rfl (fun _ hS=>Cv (row:=CB s) rfl (kb hS rfl) (BK rfl) rfl ⟨rfl,rfl⟩) ?_
 refine c_ 2 rfl (AN (ZH s.spc hs) ?_);rintro r rfl;refine o_ (h:=?_);refine c_ 5 rfl (AN (Yn s.tab ht) ?_);rintro r rfl;refine o_ (h:=Fy 6 (h:=?_));refine BA 7 rfl (B1 rfl rfl rfl rfl rfl rfl (by repeat constructor) (by repeat constructor) ?_);refine o_ (h:=z_ (h:=t_ (A4 (?_))));refine AD ?_;rfl
theorem aM(s:Spc)(given:AB)(perm:Int)(f:Fnd)(hs:SpcB s):AFn prog 97 [.agg (As s), .v (.string given), .v (.int .i64 perm), .agg (Aq f)] (fun r=>r= .agg (Bm (LR s given perm f))):=by
 refine enter Tryz.func97 rfl rfl rfl rfl rfl 0 rfl ?_;refine w_ (b_ (h:=b_ (h:=Ak (h:=e_ (w_ (f_ (h:=l_ (h:=f_ (h:=l_ (h:=?_))))))))));refine A8 rfl (AN (E1 s.files f.file hs.files) ?_);rintro r rfl;refine m_ (h:=x_ (h:=x_ (h:=Ak (h:=s_ (h:=a_ (h:=e_ (w_ (m_ (h:=f_ (h:=l_ (h:=f_ (h:=l_ (h:=f_ (h:=l_ (h:=f_ (h:=l_ (h:=f_ (h:=l_ (h:=f_ (h:=l_ (h:=f_ (h:=l_ (h:=f_ (h:=?_))))))))))))))))))))))));refine l_ (h:=m_ (h:=Aa (h:=s_ (h:=e_ (A4 (?_))))));refine AD ?_;rfl
theorem Mz(w:Wrk)(its:AV)(a:A6)(want:Int)(hs:SpcB w.s.spc):AFn prog 131 [.fp (Ch w (CX w) its), .agg (A7 a), .v (.int .i64 want)] (fun r=>r= .v (.bool (DJ w a want))):=by
 refine enter Tryz.func131 rfl rfl rfl rfl rfl 0 rfl ?_;refine w_ (b_ (h:=a_ (h:=e_ (q_ (Bo ([(0,A7 a)]) 14 (h:=AQ 0 (h:=BL 1 (h:=AJ 2 (h:=AJ 3 (h:=AJ 4 (h:=AF 5 (h:=AF 6 (h:=?_)))))))))))));refine Fa 7 11 rfl rfl ?_ ?_
 ·refine AN (E1 w.s.spc.files a hs.files) ?_;rintro r rfl;refine o_ (h:=?_);refine AQ 8 (h:=BU 9 (h:=BU 10 (h:=?_)));refine c_ 11 rfl (Cn (by repeat constructor) ?_);refine o_ (h:=?_);refine BA 12 rfl (B1 rfl rfl rfl rfl rfl rfl (by repeat constructor) (by repeat constructor) ?_);refine o_ (h:=BO 13 (h:=z_ (h:=t_ (q_ (Dp 14 (h:=AF 0 (h:=AQ 1 (h:=BL 2 (h:=AJ 3 (h:=AJ 4 (h:=AF 5 (h:=AQ 6 (h:=BL 7 (h:=AJ 8 (h:=AJ 9 (h:=AF 10 (h:=AQ 11 (h:=?_))))))))))))))))));refine c_ 12 rfl (AN (T9 (AU w.s.spc.files a) w.p.euid w.p.egid want) ?_);rintro r rfl;refine o_ (h:=BO 13 (h:=z_ (h:=t_ (A4 (?_)))));refine AD ?_;rfl
 refine Cn (by repeat constructor) ?_;refine o_ (h:=?_);refine c_ 7 rfl (AN (E1 w.s.spc.files a hs.files) ?_);rintro r rfl;refine o_ (h:=AQ 8 (h:=BU 9 (h:=BU 10 (h:=?_))));refine BA 12 rfl (B1 rfl rfl rfl rfl rfl rfl (by repeat constructor) (by repeat constructor) ?_);refine o_ (h:=BO 13 (h:=z_ (h:=t_ (q_ (Dp 14 (h:=AF 0 (h:=AQ 1 (h:=BL 2 (h:=AJ 3 (h:=AJ 4 (h:=AF 5 (h:=AQ 6 (h:=BL 7 (h:=AJ 8 (h:=AJ 9 (h:=AF 10 (h:=AQ 11 (h:=?_))))))))))))))))));refine c_ 12 rfl (AN (T9 (AU w.s.spc.files a) w.p.euid w.p.egid want) ?_);rintro r rfl;refine o_ (h:=BO 13 (h:=z_ (h:=t_ (A4 (?_)))));refine AD ?_;rfl
theorem aO(w:Wrk)(its:AV)(i:Nat)(f:Fnd)(hs:SpcB w.s.spc)(hf:w.found[i]?=some f):AFn prog 135 [.fp (Ch w (CX w) its), .v (.int .i64 (i:Int))] (fun r=>r= .v (.bool (Al w.s.spc.files f.file))):=by
 have hrow:(w.found.map Aq)[i]?=some (Aq f):=by rw[List.getElem?_map,hf];rfl
 refine enter Tryz.func135 rfl rfl rfl rfl rfl 0 rfl ?_;refine w_ (a_ (h:=e_ (q_ (Dp 16 (h:=AQ 0 (h:=BL 1 (h:=AJ 2 (h:=AJ 3 (h:=AJ 4 (h:=AF 5 (h:=AQ 6 (h:=BL 7 (h:=AJ 8 (h:=AF 9 (h:=AQ 10 (h:=DD 11 (h:=AJ 12 (h:=AF 13 (h:=?_)))))))))))))))))));refine c_ 14 rfl (AN (GX w.s.spc.files f.file hs.files) ?_);rintro r rfl;refine o_ (h:=BO 15 (h:=z_ (h:=t_ (A4 (?_)))));refine AD ?_;rfl
theorem aQ(w:Wrk)(its:AV)(a:A6)(hs:SpcB w.s.spc)(hp:w.s.tab.ps.length≤1000):AFn prog 138 [.fp (Ch w (CX w) its), .agg (A7 a)] (fun r=>r= .v (.bool (Gl w a))):=by
 refine enter Tryz.func138 rfl rfl rfl rfl rfl 0 rfl ?_;refine w_ (b_ (h:=a_ (h:=e_ (q_ (q_ (Dp 7 (h:=AQ 0 (h:=BL 1 (h:=AJ 2 (h:=AJ 3 (h:=AF 4 (h:=AF 5 (h:=?_)))))))))))));refine c_ 6 rfl (AN (VS w.s.spc a hs) ?_);rintro r rfl;refine o_ (h:=z_ (h:=t_ (?_)));refine AA rfl (fun hb1=>?_) (fun hb1=>?_)
 ·have hc1:=bp hb1;refine w_ (a_ (h:=e_ (A4 (A9 (?_)))));refine AD ?_
  first|(exfalso;first|contradiction|omega)|(exact vb (by simp[Gl, *]))
 have hc1:=bp hb1;refine AO (q_ (w_ (a_ (h:=e_ (Ap (?_))))));refine By (fun m s=>∃j:Nat,j≤w.s.tab.ps.length∧m=w.s.tab.ps.length - j∧(∀i y,i<j→w.s.tab.ps[i]?=some y→decide (y.cwd=a)=false)∧s=⟨look [(0, .fp (Ch w (CX w) its)),(3, .bp 0 0),(5, .v (.int .i64 (j:Int)))],⟨[A7 a],[]⟩⟩) (w.s.tab.ps.length) ((wk 1 0)) (⟨0,BC _,rfl,fun i y hi=>by omega,rfl⟩) ?_;rintro m s ⟨j,hj,rfl,ha,rfl⟩;refine q_ (w_ (m_ (h:=m_ (h:=k_ (h:=f_ (h:=f_ (h:=f_ (h:=l_ (h:=n_ (h:=BQ (h:=e_ (?_))))))))))));refine AA rfl (fun hb2=>?_) (fun hb2=>?_)
 ·have hc2:=bp hb2;obtain⟨hlt,p,hy,hrow, -⟩:=Cp BW hc2;refine AO (q_ (Ap (q_ (Dp 12 (h:=AQ 0 (h:=BL 1 (h:=AJ 2 (h:=AJ 3 (h:=AJ 4 (h:=AF 5 (h:=AQ 6 (h:=DD 7 (h:=AJ 8 (h:=AF 9 (h:=AF 10 (h:=?_))))))))))))))));refine F3 (i:=11) rfl (EQ rfl rfl (by repeat constructor) (by repeat constructor) (fun w=>Je _ _ _ _ w) (by kernel_rfl) ⟨rfl,rfl⟩) ?_;refine z_ (h:=t_ (?_));refine AA rfl (fun hb3=>?_) (fun hb3=>?_)
  ·have hc3:=bp hb3;have hany:(w.s.tab.ps.any fun p=>decide (p.cwd=a))=true:=O2 hy (decide_eq_true hc3);refine w_ (a_ (h:=e_ (A4 (Ab (A9 (A9 (Ab (A9 (?_)))))))));refine AD ?_
   first|(exfalso;first|contradiction|omega)|(exact vb (by simp[Gl, *]))
  have hc3:=bp hb3;have hne:decide (p.cwd=a)=false:=decide_eq_false hc3;refine BH (Ay (t_ (AX (m_ (h:=BB (h:=a_ (h:=AT (?_))))))));refine AG ?_;refine⟨_,_,?_,⟨j+1,by omega,rfl,Eb hy ha hne,rfl⟩,(wk 1 0)⟩;omega
 have hc2:=bp hb2;have e:=D0 BW hj hc2;have hany:(w.s.tab.ps.any fun p=>decide (p.cwd=a))=false:=O3 (by rw[←e];exact ha);refine Ba (Ao (Ao (Bb (t_ (w_ (a_ (h:=e_ (A4 (?_)))))))));refine AD ?_
 first|(exfalso;first|contradiction|omega)|(exact vb (by simp[Gl, *]))
end
theorem aR{α:Type}{sz:Nat}{F:α→List AV}(hF:RowF sz F){l:List α}{j cap:Nat}{x x':α}(h:l.length=j):SetAt (LB sz F (l++[x]) cap) (0+j * sz) (F x') (LB sz F (l++[x']) cap):=by
 have h1:(l++[x])[j]?=some x:=by rw[←h];simp
 have h2:(l++[x]).set j x'=l++[x']:=by rw[←h];simp
 have key:=Sy hF (cap:=cap) (x':=x') h1
 rwa [h2]at key
theorem Ti{is:List Nat}:∀i,i<1→(0::is)[i]?=some i:=by
 intro i hi;obtain rfl:i=0:=by omega
 rfl
theorem aS{f:Nat→Option AV}{bx:List (List AV)}{tk:List Cj}{N:Dim}(i:Nat){row row':List AV}(hi:bx[i]?=some row)(hle:LeL row row'):Weak N ⟨f,⟨bx,tk⟩⟩ ⟨f,⟨bx.set i row',tk⟩⟩:=by
 rintro E a w ⟨G,h1,h2,h3⟩;exact⟨G,h1.boxLe hi (fun us hu=>hle G w us hu),h2,h3⟩
theorem aT(w:Wrk)(rows:List (List AV))(g:Option Nat)(I:AV):LeL (Ch w (.sl 8 rows g) I) (Ch w (.sl 8 rows none) I):=by
 unfold Ch
 repeat (first|exact LeL.nil|refine LeL.cons (AM _) ?_|refine LeL.cons (LeA.tok _ _ _) ?_)
theorem C5{n m:Nat}(w:Wrk)(F I:AV):Ac n m (Ch w F I)=(Af n m F&&Af n m I):=by
 simp[Ch,Ac,Af]
def Dl(l:List Fnd):AV:= .sl 8 (l.map Aq) (some 0)
def Jy(w:Wrk)(e:Int)(j:Nat):List Itm×List Fnd×Int:=Gj w.s.spc w.p.cwd (CK w.c) ((w.c.paths.zip (CJ w.c)).take j) e
def LK(w:Wrk)(e:Int):List Itm×List Fnd×Int:=Gj w.s.spc w.p.cwd (CK w.c) (w.c.paths.zip (CJ w.c)) e
theorem aU{w:Wrk}{e:Int}{j:Nat}{g:AB×Int}(h:(w.c.paths.zip (CJ w.c))[j]?=some g):Jy w e (j+1)=E4 w.s.spc w.p.cwd (CK w.c) (Jy w e j) g:=by
 unfold Jy Gj;rw[List.take_add_one,h,List.foldl_append];rfl
theorem aV{w:Wrk}{e:Int}{j:Nat}(h:(w.c.paths.zip (CJ w.c)).length≤j):Jy w e j=LK w e:=by
 unfold Jy LK;rw[List.take_of_length_le h]
def WA(w:Wrk)(cap:Nat):List AV:=Ch w (CX w) (.bs 1 0 13 w.r.items.length cap)
def IB(w:Wrk)(cap:Nat):List AV:=LB 13 Bm w.r.items cap
theorem Gp{bx:List (List AV)}{a b:List AV}{rest:List (List AV)}(hb:bx=a::b::rest)(w:Wrk)(cap:Nat):Back bx [0,1] [WA w cap,IB w cap] (WA w cap::IB w cap::rest):=by
 subst hb;have:=PG (bx:=a::b::rest) (is:=[0,1]) (bc:=[WA w cap,IB w cap]) (by simp) (by simp) (by simp);have e1:Cs (De [0,1] (a::b::rest).length) (WA w cap)=WA w cap:=rfl;have e2:Cs (De [0,1] (a::b::rest).length) (IB w cap)=IB w cap:=FU B3 _ _ _
 have hb:DK (a::b::rest) (De [0,1] (a::b::rest).length) [0,1] [WA w cap,IB w cap]=WA w cap::IB w cap::rest:=by
  unfold DK;rw[e1];unfold DK;rw[e2];simp[DK]
 rw[hb]at this;exact this
section
theorem aW(w:Wrk)(e:Int)(hv:SpcV w.s.spc)(hm:w.s.spc.mounts.length≤1000)(hp:w.c.paths.length=(CJ w.c).length)(hpl:w.c.paths.length≤1000)(h0:0<w.c.paths.length)(hps:∀p∈w.c.paths,p.size≤100000):
    ACall prog 62 [.bp 0 0, .v (.int .i64 e)] [Ch w (.v (.slice none 0 0)) (.v (.slice none 0 0))] (fun r b t=>t=[]∧∃cap,(LK w e).1.length≤cap∧r= .v (.int .i64 (LK w e).2.2)∧b=[Ch w (.sl 8 ((LK w e).2.1.map Aq) none) (.bs 1 0 13 (LK w e).1.length cap),LB 13 Bm (LK w e).1 cap]):=by
 have hsb:=hv.b hm;have hsn:=hv.n hm;refine enter Tryz.func62 rfl rfl rfl rfl rfl 2 rfl ?_;refine w_ (a_ (h:=e_ (w_ (m_ (h:=k_ (h:=f_ (h:=l_ (h:=?_))))))));refine A8 rfl (AN (Yx w.c) ?_);rintro r rfl;refine a_ (h:=e_ (?_));refine BR (fun s=>∃cap,(LK w e).1.length≤cap∧s=⟨look [(1, .v (.int .i64 (LK w e).2.2))],⟨[Ch w (.sl 8 ((LK w e).2.1.map Aq) none) (.bs 1 0 13 (LK w e).1.length cap),LB 13 Bm (LK w e).1 cap],[]⟩⟩) ?_ ?_
 ·skip
  refine w_ (a_ (h:=e_ (Ap (?_))));refine Ng 0 26 121 8 rfl rfl (by repeat constructor) (by repeat constructor) (by repeat constructor) ?_;refine By (fun m s=>∃(j:Nat) (X:List Itm×List Fnd×Int) (Y:AV) (Z:List (List AV)),j≤w.c.paths.length∧m=w.c.paths.length - j∧Jy w e j=X∧X.1.length=j∧X.2.1.length=j∧((Y= .v (.slice none 0 0)∧Z=[]∧X.1=[])∨∃cap,X.1.length≤cap∧Y= .bs 1 0 13 X.1.length cap∧Z=[LB 13 Bm X.1 cap])∧s=⟨look [(0, .bp 0 0),(1, .v (.int .i64 X.2.2)),(5, .sl 1 ((CJ w.c).map CQ) none),(6, .v (.int .i64 (j:Int)))],⟨Ch w (Dl X.2.1) Y::Z,[(121,8,X.2.1.map Aq)]⟩⟩) (w.c.paths.length) ((wk 1 1)) (⟨0,([],[],e),_,_,BC _,rfl,rfl,rfl,rfl, .inl ⟨rfl,rfl,rfl⟩,rfl⟩) ?_;rintro m s ⟨j,X,Y,Z,hj,rfl,hX,hl1,hl2,hYZ,rfl⟩;refine q_ (w_ (m_ (h:=m_ (h:=k_ (h:=f_ (h:=f_ (h:=l_ (h:=n_ (h:=BQ (h:=e_ (?_)))))))))));refine AA rfl (fun hb1=>?_) (fun hb1=>?_)
  ·have hc1:=bp hb1;obtain⟨hlt,y,hy,hrow, -⟩:=Cp Eu hc1;obtain⟨pj,hpj⟩:∃z,(CJ w.c)[j]?=some z:=⟨_,BG (by omega)⟩;have hrow2:((CJ w.c).map CQ)[j]?=some (CQ pj):=by rw[List.getElem?_map,hpj];rfl
   have hz:(w.c.paths.zip (CJ w.c))[j]?=some (y,pj):=List.getElem?_zip_eq_some.2 ⟨hy,hpj⟩;have hk:=aU (e:=e) hz;rw[hX]at hk;have hys:=hps y (Au hy);refine AO (q_ (Ap (?_)));refine BR (fun s=>∃cap,X.1.length+1≤cap∧s=⟨look [(0, .bp 0 0),(1, .v (.int .i64 X.2.2)),(5, .sl 1 ((CJ w.c).map CQ) none),(6, .v (.int .i64 (j:Int)))],⟨[Ch w (Dl X.2.1) (.bs 1 0 13 (X.1.length+1) cap),LB 13 Bm (X.1++[EO y pj]) cap],[(121,8,X.2.1.map Aq)]⟩⟩) ?_ ?_
   ·rcases hYZ with⟨rfl,rfl,hX0⟩|⟨cap,hcp,rfl,rfl⟩
    ·skip
     refine Bo ([(0,Ch w (Dl X.2.1) (.v (.slice none 0 0)))]) 24 (h:=AQ 0 (h:=AQ 1 (h:=BL 2 (h:=AJ 3 (h:=AJ 4 (h:=AF 5 (h:=AQ 6 (h:=BL 7 (h:=AJ 8 (h:=AJ 9 (h:=AF 10 (h:=AQ 11 (h:=DD 12 (h:=AF 13 (h:=AQ 14 (h:=AQ 15 (h:=DD 16 (h:=AF 17 (h:=?_)))))))))))))))))));refine B5 18 rfl (fun _ hS=>F1 (y:= .agg (Bm (EO y pj))) (D8 ⟨rfl,rfl⟩) (AM _) ⟨rfl,rfl⟩) ?_;refine Jc 19 (h:=?_);refine c_ 20 rfl (M7 rfl rfl Ha (by omega) (by omega) ?_);rintro cap2 k bx2 hcp hs;rw[show CC (.agg (Bm (EO y pj)))++List.replicate ((cap2 - 1) * 13) AV.any=LB 13 Bm [EO y pj] cap2 from Sz B3 _ cap2]at hs;obtain⟨rfl,rfl⟩:k=1∧bx2=[_,_]:=hs.eq;refine o_ (h:=?_);refine BL 21 (h:=AJ 22 (h:=AJ 23 (h:=?_)));refine BA 24 rfl (B1 rfl rfl rfl rfl rfl rfl (by repeat constructor) (by repeat constructor) ?_);refine o_ (h:=z_ (h:=?_));refine AG ?_;refine⟨_,⟨cap2,by rw[hX0];exact hcp,rfl⟩,?_⟩;rw[hX0];exact BT 2 1 (by simp[Ai,Ac,Af,Bi B3,C5,Dl])
    skip
    refine Bo ([(0,Ch w (Dl X.2.1) (.bs 1 0 13 X.1.length cap))]) 24 (h:=AQ 0 (h:=AQ 1 (h:=BL 2 (h:=AJ 3 (h:=AJ 4 (h:=AF 5 (h:=AQ 6 (h:=BL 7 (h:=AJ 8 (h:=AJ 9 (h:=AF 10 (h:=AQ 11 (h:=DD 12 (h:=AF 13 (h:=AQ 14 (h:=AQ 15 (h:=DD 16 (h:=AF 17 (h:=?_)))))))))))))))))));refine B5 18 rfl (fun _ hS=>F1 (y:= .agg (Bm (EO y pj))) (D8 ⟨rfl,rfl⟩) (AM _) ⟨rfl,rfl⟩) ?_;refine Jc 19 (h:=?_);refine c_ 20 rfl (Ka rfl rfl rfl (by rw[PC B3 hcp];omega) Ha (by omega) (by omega) ?_ ?_)
    ·rintro hg row2 bx2 hs hb;obtain rfl:=T1 B3 hs hg;obtain rfl:bx2=[_,_]:=hb.one.2;refine o_ (h:=?_);refine BL 21 (h:=AJ 22 (h:=AJ 23 (h:=?_)));refine BA 24 rfl (B1 rfl rfl rfl rfl rfl rfl (by repeat constructor) (by repeat constructor) ?_);refine o_ (h:=z_ (h:=?_));refine AG ?_
     first|exact⟨_,⟨cap,hg,rfl⟩,BT 2 1 (by simp[Ai,Ac,Af,Bi B3,C5,Dl])⟩|exact⟨_,⟨cap3,hcp3,rfl⟩,E7 [0,2] Ti (by decide) (.cons _ _ _ _ _ rfl rfl (.cons _ _ _ _ _ rfl (GH B3 _ _ _) .nil)) (by repeat (first|exact SubK.nil|refine SubK.cons _ _ _ _ rfl (AM _) ?_))⟩
    rintro hg cap3 k bx2 hcp3 hs;rw[show((LB 13 Bm X.1 cap).drop 0).take (X.1.length * 13)++CC (.agg (Bm (EO y pj)))++List.replicate ((cap3 - (X.1.length+1)) * 13) AV.any=LB 13 Bm (X.1++[EO y pj]) cap3 from T0 B3 X.1 _ cap cap3]at hs;obtain⟨rfl,rfl⟩:k=2∧bx2=[_,_,_]:=hs.eq;refine o_ (h:=?_);refine BL 21 (h:=AJ 22 (h:=AJ 23 (h:=?_)));refine BA 24 rfl (B1 rfl rfl rfl rfl rfl rfl (by repeat constructor) (by repeat constructor) ?_);refine o_ (h:=z_ (h:=?_));refine AG ?_
    first|exact⟨_,⟨cap,hg,rfl⟩,BT 2 1 (by simp[Ai,Ac,Af,Bi B3,C5,Dl])⟩|exact⟨_,⟨cap3,hcp3,rfl⟩,E7 [0,2] Ti (by decide) (.cons _ _ _ _ _ rfl rfl (.cons _ _ _ _ _ rfl (GH B3 _ _ _) .nil)) (by repeat (first|exact SubK.nil|refine SubK.cons _ _ _ _ rfl (AM _) ?_))⟩
   rintro s ⟨cap,hcp,rfl⟩;refine w_ (Ak (h:=e_ (?_)));refine BR (fun s=>∃(it:Itm) (F:Fnd) (e2:Int),E4 w.s.spc w.p.cwd (CK w.c) X (y,pj)=(X.1++[it],X.2.1++[F],e2)∧s=⟨look [(0, .bp 0 0),(1, .v (.int .i64 e2)),(5, .sl 1 ((CJ w.c).map CQ) none),(6, .v (.int .i64 (j:Int))),(7, .bp 2 0)],⟨[Ch w (Dl X.2.1) (.bs 1 0 13 (X.1.length+1) cap),LB 13 Bm (X.1++[it]) cap,Aq F],[(121,8,X.2.1.map Aq)]⟩⟩) ?_ ?_
   ·skip
    refine w_ (m_ (h:=Ah (h:=e_ (?_))));refine AA rfl (fun hb2=>?_) (fun hb2=>?_)
    ·have hc2:=bp hb2;have he0:X.2.2=0:=by simpa using hc2
     refine q_ (Bo ([(0,Ch w (Dl X.2.1) (.bs 1 0 13 (X.1.length+1) cap)),(1,LB 13 Bm (X.1++[EO y pj]) cap)]) 29 (h:=AQ 0 (h:=BL 1 (h:=AJ 2 (h:=AJ 3 (h:=AF 4 (h:=AQ 5 (h:=BL 6 (h:=AJ 7 (h:=AJ 8 (h:=AF 9 (h:=AQ 10 (h:=BL 11 (h:=AJ 12 (h:=AJ 13 (h:=AF 14 (h:=AQ 15 (h:=DD 16 (h:=AF 17 (h:=AQ 18 (h:=BL 19 (h:=AJ 20 (h:=AF 21 (h:=?_))))))))))))))))))))))));refine c_ 22 rfl (AN (Yy w.c) ?_);rintro r rfl;refine o_ (h:=?_);refine c_ 23 rfl (AN (aH w.s.spc w.p.cwd y (CK w.c) hsn hv hys) ?_);rintro r rfl;refine o_ (h:=AQ 24 (h:=BU 25 (h:=BU 26 (h:=?_))));refine BA 27 rfl (B1 rfl rfl rfl rfl rfl rfl (by repeat constructor) (by repeat constructor) ?_);refine o_ (h:=BO 28 (h:=z_ (h:=t_ (w_ (m_ (h:=Ah (h:=e_ (?_))))))));refine AA rfl (fun hb3=>?_) (fun hb3=>?_)
     ·have hc3:=bp hb3;have hf0:(BY w.s.spc w.p.cwd y (CK w.c)).2=0:=by simpa using hc3
      refine Bo ([(0,Ch w (Dl X.2.1) (.bs 1 0 13 (X.1.length+1) cap)),(1,LB 13 Bm (X.1++[EO y pj]) cap),(2,Aq (BY w.s.spc w.p.cwd y (CK w.c)).1)]) 26 (h:=AQ 0 (h:=BL 1 (h:=AJ 2 (h:=AJ 3 (h:=AF 4 (h:=AQ 5 (h:=AQ 6 (h:=BL 7 (h:=AJ 8 (h:=AJ 9 (h:=AF 10 (h:=AQ 11 (h:=BL 12 (h:=AJ 13 (h:=AJ 14 (h:=AF 15 (h:=AQ 16 (h:=DD 17 (h:=AF 18 (h:=AQ 19 (h:=AQ 20 (h:=DD 21 (h:=AF 22 (h:=?_))))))))))))))))))))))));refine AF 23 (h:=?_);refine c_ 24 rfl (AN (aM w.s.spc y pj (BY w.s.spc w.p.cwd y (CK w.c)).1 hsb) ?_);rintro r rfl;refine o_ (h:=?_);refine B5 25 rfl (fun _ hS=>D6 (m:=j) rfl rfl rfl (by omega) ⟨rfl,rfl⟩) ?_;refine BA 26 rfl (B1 rfl rfl rfl rfl rfl rfl (aR B3 hl1) (by repeat constructor) ?_);refine o_ (h:=z_ (h:=?_));refine AG ?_
      first|exact⟨_,⟨LR w.s.spc y pj (BY w.s.spc w.p.cwd y (CK w.c)).1,(BY w.s.spc w.p.cwd y (CK w.c)).1,(BY w.s.spc w.p.cwd y (CK w.c)).2,(by rw[E4,if_pos he0,if_pos hf0,hf0]),rfl⟩,BT 3 1 (by simp[Ai,Ac,Af,Bi B3,C5,Dl,Aq])⟩|exact⟨_,⟨EO y pj,(BY w.s.spc w.p.cwd y (CK w.c)).1,(BY w.s.spc w.p.cwd y (CK w.c)).2,(by rw[E4,if_pos he0,if_neg hf0]),rfl⟩,BT 3 1 (by simp[Ai,Ac,Af,Bi B3,C5,Dl,Aq])⟩|exact⟨_,⟨EO y pj,Cm,X.2.2,(by rw[E4,if_neg he0]),rfl⟩,BT 3 1 (by simp[Ai,Ac,Af,Bi B3,C5,Dl,Aq])⟩
     have hc3:=bp hb3;have hf0:¬(BY w.s.spc w.p.cwd y (CK w.c)).2=0:=by simpa using hc3
     refine BH (?_);refine AG ?_
     first|exact⟨_,⟨LR w.s.spc y pj (BY w.s.spc w.p.cwd y (CK w.c)).1,(BY w.s.spc w.p.cwd y (CK w.c)).1,(BY w.s.spc w.p.cwd y (CK w.c)).2,(by rw[E4,if_pos he0,if_pos hf0,hf0]),rfl⟩,BT 3 1 (by simp[Ai,Ac,Af,Bi B3,C5,Dl,Aq])⟩|exact⟨_,⟨EO y pj,(BY w.s.spc w.p.cwd y (CK w.c)).1,(BY w.s.spc w.p.cwd y (CK w.c)).2,(by rw[E4,if_pos he0,if_neg hf0]),rfl⟩,BT 3 1 (by simp[Ai,Ac,Af,Bi B3,C5,Dl,Aq])⟩|exact⟨_,⟨EO y pj,Cm,X.2.2,(by rw[E4,if_neg he0]),rfl⟩,BT 3 1 (by simp[Ai,Ac,Af,Bi B3,C5,Dl,Aq])⟩
    have hc2:=bp hb2;have he0:¬X.2.2=0:=by simpa using hc2
    refine BH (?_);refine AG ?_
    first|exact⟨_,⟨LR w.s.spc y pj (BY w.s.spc w.p.cwd y (CK w.c)).1,(BY w.s.spc w.p.cwd y (CK w.c)).1,(BY w.s.spc w.p.cwd y (CK w.c)).2,(by rw[E4,if_pos he0,if_pos hf0,hf0]),rfl⟩,BT 3 1 (by simp[Ai,Ac,Af,Bi B3,C5,Dl,Aq])⟩|exact⟨_,⟨EO y pj,(BY w.s.spc w.p.cwd y (CK w.c)).1,(BY w.s.spc w.p.cwd y (CK w.c)).2,(by rw[E4,if_pos he0,if_neg hf0]),rfl⟩,BT 3 1 (by simp[Ai,Ac,Af,Bi B3,C5,Dl,Aq])⟩|exact⟨_,⟨EO y pj,Cm,X.2.2,(by rw[E4,if_neg he0]),rfl⟩,BT 3 1 (by simp[Ai,Ac,Af,Bi B3,C5,Dl,Aq])⟩
   rintro s ⟨it,F,e2,hlk,rfl⟩;refine Bo ([(0,Ch w (Dl X.2.1) (.bs 1 0 13 (X.1.length+1) cap)),(2,Aq F)]) 10 (h:=AQ 0 (h:=AQ 1 (h:=BL 2 (h:=AJ 3 (h:=AF 4 (h:=AF 5 (h:=Jc 6 (h:=?_))))))))
   first|refine c_ 7 rfl (Ei rfl rfl rfl (by simp;omega) (by repeat constructor) ?_)|refine c_ 7 rfl (Ej rfl rfl (by simp;omega) (by repeat constructor) ?_)
   refine o_ (h:=BL 8 (h:=AJ 9 (h:=?_)));refine BA 10 rfl (B1 rfl rfl rfl rfl rfl rfl (by repeat constructor) (by repeat constructor) ?_);refine o_ (h:=z_ (h:=Ay (t_ (AX (m_ (h:=BB (h:=a_ (h:=AT (?_)))))))));refine AG ?_;refine⟨w.c.paths.length - (j+1),_,by omega,⟨j+1,(X.1++[it],X.2.1++[F],e2), .bs 1 0 13 (X.1++[it]).length cap,[LB 13 Bm (X.1++[it]) cap],by omega,rfl,by rw[hk,hlk],by simp;omega,by simp;omega, .inr ⟨cap,by simpa using hcp,rfl,rfl⟩,rfl⟩,?_⟩;rw[List.length_append];unfold Dl;rw[List.map_append];exact BT 2 1 (by simp[Ai,Ac,Af,Bi B3,C5])
  have hc1:=bp hb1;have e3:=D0 Eu hj hc1;rcases hYZ with⟨_,_,hX0⟩|⟨cap,hcp,rfl,rfl⟩
  ·exfalso;rw[hX0]at hl1;simp at hl1;omega
  have hfin:LK w e=X:=by rw[←hX];exact(aV (by rw[List.length_zip];omega)).symm
  refine Ba (Ao (Ao (Bb (?_))));refine AG ?_;refine⟨_,⟨cap,by rw[hfin];exact hcp,rfl⟩,?_⟩;rw[hfin];exact(aS 0 rfl (aT w _ _ _)).trans (BT 2 0 (by simp[Ai,Ac,Af,Bi B3,C5]))
 rintro s ⟨cap,hcp,rfl⟩;refine w_ (m_ (h:=a_ (h:=e_ (A4 (?_)))));refine BS (r:= .v (.int .i64 (LK w e).2.2)) none (h4:=(by simp[Ai,Ac,Af,Bi B3,C5])) (h5:=(AM _)) (h6:=⟨rfl,cap,hcp,rfl,rfl⟩)
theorem Tj(w:Wrk)(cap:Nat)(f:AR)(l:List DP)(e:Int):ACall prog 136 [.bp 0 0, .agg (Am f), .sl 7 (l.map C2) none, .v (.int .i64 e)] [WA w cap,IB w cap] (fun r b t=>t=[]∧r= .v (.int .i64 e)∧b=[WA (Bu w (f,l,e)).1 cap,IB (Bu w (f,l,e)).1 cap]):=by
 refine enter Tryz.func136 rfl rfl rfl rfl rfl 2 rfl ?_;refine w_ (b_ (h:=a_ (h:=e_ (q_ (w_ (m_ (h:=Ah (h:=e_ (?_)))))))));refine AA rfl (fun hb1=>?_) (fun hb1=>?_)
 ·have hc1:=bp hb1;refine w_ (m_ (h:=l_ (h:=k_ (h:=f_ (h:=f_ (h:=f_ (h:=s_ (h:=e_ (AX (m_ (h:=m_ (h:=k_ (h:=f_ (h:=f_ (h:=s_ (h:=e_ (w_ (m_ (h:=a_ (h:=e_ (A4 (?_))))))))))))))))))))));refine BS (r:= .v (.int .i64 e)) none (h4:=(by simp[Ai,Ac,Af,Bi B3,IB,CX])) (h5:=(AM _)) (h6:=⟨rfl,rfl,?_⟩);rw[Bu,if_pos hc1];rfl
 have hc1:=bp hb1;refine AO (w_ (m_ (h:=a_ (h:=e_ (A4 (?_))))));refine BS (r:= .v (.int .i64 e)) none (h4:=(by simp[Ai,Ac,Af,Bi B3,C5,WA,IB,CX])) (h5:=(AM _)) (h6:=⟨rfl,rfl,?_⟩);rw[Bu,if_neg hc1];rfl
theorem aY(w:Wrk)(cap:Nat)(t:Tab)(e:Int):ACall prog 134 [.bp 0 0, .agg (C0 t), .v (.int .i64 e)] [WA w cap,IB w cap] (fun r b tk=>tk=[]∧r= .v (.int .i64 e)∧b=[WA (Dd w (t,e)).1 cap,IB (Dd w (t,e)).1 cap]):=by
 refine enter Tryz.func134 rfl rfl rfl rfl rfl 2 rfl ?_;refine w_ (b_ (h:=a_ (h:=e_ (q_ (w_ (m_ (h:=Ah (h:=e_ (?_)))))))));refine AA rfl (fun hb1=>?_) (fun hb1=>?_)
 ·have hc1:=bp hb1;refine AX (m_ (h:=l_ (h:=k_ (h:=f_ (h:=f_ (h:=s_ (h:=e_ (w_ (m_ (h:=a_ (h:=e_ (A4 (?_)))))))))))));refine BS (r:= .v (.int .i64 e)) none (h4:=(by simp[Ai,Ac,Af,Bi B3,IB,CX])) (h5:=(AM _)) (h6:=⟨rfl,rfl,?_⟩);rw[Dd,if_pos hc1];rfl
 have hc1:=bp hb1;refine AO (w_ (m_ (h:=a_ (h:=e_ (A4 (?_))))));refine BS (r:= .v (.int .i64 e)) none (h4:=(by simp[Ai,Ac,Af,Bi B3,C5,WA,IB,CX])) (h5:=(AM _)) (h6:=⟨rfl,rfl,?_⟩);rw[Dd,if_neg hc1];rfl
end
section
variable {P:Program}{rs:List ResultVar}{n:Nat}{R:AV→List (List AV)→List Cj→Prop}{s:AS}{xs:List AV}{r:AV}
theorem Dm(g:Option Nat){tk':List Cj}(h1:ResA P s rs xs:=by repeat (first|exact ResA.nil|(apply ResA.tmp;(focus exact rfl))|(apply ResA.cellN;(focus exact inferInstance);(focus exact rfl);(focus exact rfl);(focus exact rfl))|(apply ResA.cell1;(focus exact inferInstance);(focus exact rfl);(focus exact rfl);(focus exact rfl))))(h2:H0 s.h.tk g=some tk':=by rfl)(h3:Af n 1 (Cr g (Dy xs))=true:=by rfl)(h4:Ai n 0 (s.h.bx.take n)=true:=by simp[Ai,Ac,Af,Bi B3,C5,WA,IB,CX,Aq,AW,A7,C0,As,Am])(h5:LeA (Cr g (Dy xs)) r)(h6:R r (s.h.bx.take n) tk'):H3 P rs n R .ret s:=NX g h1 h2 h3 h4 h5 h6
end
theorem DA{f:Nat→Option AV}{bx:List (List AV)}{tk:List (Nat×Nat×List (List AV))}{l:List (Nat×AV)}{N:Dim}(n m:Nat){bx':List (List AV)}{tk':List (Nat×Nat×List (List AV))}(hn:Nat.ble N.ni n=true:=by rfl)(hb:bx.take n=bx':=by rfl)(ht:tk.take m=tk':=by rfl)(hbp:Ai n m bx'=true:=by simp[Ai,Ac,Af,Bi B3,C5,WA,IB,CX,Aq,AW,A7,C0,As,Am])(hl:Sub n m f l:=by repeat (first|exact Sub.nil|refine Sub.cons _ _ _ rfl rfl ?_|refine Sub.any _ _ ?_|refine Sub.sl _ _ _ _ _ rfl ?_|refine Sub.slnil _ _ _ rfl ?_)):Weak N ⟨f,⟨bx,tk⟩⟩ ⟨look l,⟨bx',tk'⟩⟩:=B4 n m hn hb ht hbp hl
theorem Tk{α:Type}{l:List α}{i:Nat}{x:α}(h:l[i]?=some x)(f:α→α):l.modify i f=l.set i (f x):=by
 apply List.ext_getElem?;intro k;rw[List.getElem?_modify,List.getElem?_set];obtain⟨hl,rfl⟩:=Ag.1 h;by_cases e:i=k
 ·subst e;simp[hl]
 simp[e]
theorem aZ(w:Wrk)(R:Tab×Int):(Dd w R).2=R.2:=by
 unfold Dd;split
 ·rename_i h;exact h.symm
 rfl
theorem Hj{w:Wrk}{R:Df}(h:R.2.2=0):(Bu w R).1={w with s:=⟨⟨R.1,w.s.spc.mounts⟩,w.s.tab⟩,r:={w.r with changes:=R.2.1}}:=by
 unfold Bu;rw[if_pos h]
theorem Tl{w:Wrk}{R:Df}(h:¬R.2.2=0):(Bu w R).1=w:=by
 unfold Bu;rw[if_neg h]
theorem Tm{f:AR}{dir:A6}{name:AB}{n:Nod}(h0:(DU f dir name n).2.2=0):∃c,(DU f dir name n).2.1=[c]:=by
 unfold DU at h0 ⊢;split at h0
 ·rename_i c;exact absurd h0 c
 rename_i c1;rw[if_neg c1];split at h0
 ·exact absurd h0 (by decide)
 rename_i c2;rw[if_neg c2];split at h0
 ·exact absurd h0 (by decide)
 rename_i c3;rw[if_neg c3]
 cases e:En f dir.1 with
 |none=>rw[e]at h0;simp at h0
 |some d=>
   rw[e]at h0;simp only at h0 ⊢;split at h0
   ·exact absurd h0 (by decide)
   rename_i c4;rw[if_neg c4];exact⟨_,rfl⟩
theorem b5{w:Wrk}{i:Nat}{n:Nod}(h:(CW w i n).2=0):∃c,(CW w i n).1.r.changes=[c]:=by
 unfold CW at h ⊢;split at h
 ·rename_i h0;obtain⟨c,hc⟩:=Tm h0;rw[if_pos h0,Hj h0];exact⟨c,hc⟩
 rename_i h0;exact absurd h h0
theorem Tn(w:Wrk)(i:Nat)(n:Nod):(CW w i n).1.s.tab=w.s.tab∧(CW w i n).1.p=w.p∧(CW w i n).1.c=w.c:=by
 unfold CW;split
 ·rename_i h0;rw[Hj h0];exact⟨rfl,rfl,rfl⟩
 exact⟨rfl,rfl,rfl⟩
section
theorem To(w:Wrk)(cap i:Nat)(a:A6)(x:Itm)(hs:FlsB w.s.spc.files)(hx:w.r.items[i]?=some x):ACall prog 137 [.bp 0 0, .v (.int .i64 (i:Int)), .agg (A7 a)] [WA w cap,IB w cap] (fun r b t=>t=[]∧r= .tup []∧b=[WA (GF w i a) cap,IB (GF w i a) cap]):=by
 have hil:=(Ag.1 hx).1;have hst:∀y:Itm,(w.r.items.set i y)[i]?=some y:=fun y=>by rw[List.getElem?_set_self hil]
 have hfin:w.r.items.modify i (Ss (AU w.s.spc.files a) a)=w.r.items.set i {x with role:=2,file:=a,kind:=(AU w.s.spc.files a).kind,mode:=(AU w.s.spc.files a).mode,uid:=(AU w.s.spc.files a).uid,gid:=(AU w.s.spc.files a).gid}:=by rw[Tk hx];rfl
 refine enter Tryz.func137 rfl rfl rfl rfl rfl 2 rfl ?_;refine w_ (b_ (h:=e_ (?_)));refine BR (fun s=>s=⟨look [(0, .bp 0 0),(1, .v (.int .i64 (i:Int))),(5, .bp 2 0),(6, .bp 3 0)],⟨[WA w cap,IB w cap,A7 a,AW (AU w.s.spc.files a)],[]⟩⟩) ?_ ?_
 ·skip
  refine Bo ([(0,WA w cap),(1,IB w cap),(2,A7 a)]) 14 (h:=AQ 0 (h:=BL 1 (h:=AJ 2 (h:=AJ 3 (h:=AJ 4 (h:=AF 5 (h:=AF 6 (h:=?_))))))));refine Fa 7 11 rfl rfl ?_ ?_
  ·refine AN (E1 w.s.spc.files a hs) ?_;rintro r rfl;refine o_ (h:=?_);refine AQ 8 (h:=BU 9 (h:=BU 10 (h:=?_)));refine c_ 11 rfl (Cn (by repeat constructor) ?_);refine o_ (h:=?_);refine BA 12 rfl (B1 rfl rfl rfl rfl rfl rfl (by repeat constructor) (by repeat constructor) ?_);refine o_ (h:=BO 13 (h:=z_ (h:=?_)));refine AG ?_;exact⟨_,rfl,DA 4 0⟩
  refine Cn (by repeat constructor) ?_;refine o_ (h:=?_);refine c_ 7 rfl (AN (E1 w.s.spc.files a hs) ?_);rintro r rfl;refine o_ (h:=AQ 8 (h:=BU 9 (h:=BU 10 (h:=?_))));refine BA 12 rfl (B1 rfl rfl rfl rfl rfl rfl (by repeat constructor) (by repeat constructor) ?_);refine o_ (h:=BO 13 (h:=z_ (h:=?_)));refine AG ?_;exact⟨_,rfl,DA 4 0⟩
 rintro s rfl;refine w_ (m_ (h:=k_ (h:=f_ (h:=f_ (h:=l_ (h:=m_ (h:=?_)))))));refine A8 rfl (D6 (m:=i) rfl rfl rfl hil ?_);refine a_ (h:=e_ (Bo ([(0,WA w cap),(2,A7 a),(3,AW (AU w.s.spc.files a))]) 33 (h:=AQ 0 (h:=AQ 1 (h:=AQ 2 (h:=AQ 3 (h:=AQ 4 (h:=AQ 5 (h:=AF 6 (h:=AJ 7 (h:=AF 8 (h:=AJ 9 (h:=AF 10 (h:=AJ 11 (h:=AF 12 (h:=AJ 13 (h:=AF 14 (h:=BL 15 (h:=AJ 16 (h:=?_))))))))))))))))))));refine BA 17 rfl (B1 rfl rfl rfl rfl rfl rfl (Hh B3 (x':={x with role:=2}) hx (by repeat constructor) (List.cons_ne_nil _ _)) (by repeat constructor) ?_);refine o_ (h:=BL 18 (h:=AJ 19 (h:=?_)));refine BA 20 rfl (B1 rfl rfl rfl rfl rfl rfl (Hh B3 (x':={x with role:=2,file:=a}) (hst _) (by repeat constructor) (List.cons_ne_nil _ _)) (by repeat constructor) ?_);refine o_ (h:=BL 21 (h:=AJ 22 (h:=?_)));refine BA 23 rfl (B1 rfl rfl rfl rfl rfl rfl (Hh B3 (x':={x with role:=2,file:=a,kind:=(AU w.s.spc.files a).kind}) (by rw[List.set_set];exact hst _) (by repeat constructor) (List.cons_ne_nil _ _)) (by repeat constructor) ?_);refine o_ (h:=BL 24 (h:=AJ 25 (h:=?_)));refine BA 26 rfl (B1 rfl rfl rfl rfl rfl rfl (Hh B3 (x':={x with role:=2,file:=a,kind:=(AU w.s.spc.files a).kind,mode:=(AU w.s.spc.files a).mode}) (by rw[List.set_set,List.set_set];exact hst _) (by repeat constructor) (List.cons_ne_nil _ _)) (by repeat constructor) ?_);refine o_ (h:=BL 27 (h:=AJ 28 (h:=?_)));refine BA 29 rfl (B1 rfl rfl rfl rfl rfl rfl (Hh B3 (x':={x with role:=2,file:=a,kind:=(AU w.s.spc.files a).kind,mode:=(AU w.s.spc.files a).mode,uid:=(AU w.s.spc.files a).uid}) (by rw[List.set_set,List.set_set,List.set_set];exact hst _) (by repeat constructor) (List.cons_ne_nil _ _)) (by repeat constructor) ?_);refine o_ (h:=BL 30 (h:=AJ 31 (h:=?_)));refine BA 32 rfl (B1 rfl rfl rfl rfl rfl rfl (Hh B3 (x':={x with role:=2,file:=a,kind:=(AU w.s.spc.files a).kind,mode:=(AU w.s.spc.files a).mode,uid:=(AU w.s.spc.files a).uid,gid:=(AU w.s.spc.files a).gid}) (by rw[List.set_set,List.set_set,List.set_set,List.set_set];exact hst _) (by repeat constructor) (List.cons_ne_nil _ _)) (by repeat constructor) ?_);refine o_ (h:=z_ (h:=?_));refine M8 (r:= .tup []) none (h4:=(by simp[Ai,Ac,Af,Bi B3,C5,WA,CX])) (h5:=(AM _)) (h6:=⟨rfl,rfl,?_⟩);rw[List.set_set,List.set_set,List.set_set,List.set_set,List.set_set];unfold WA IB GF;simp only[hfin,List.length_set];rfl
theorem b6(w:Wrk)(cap i:Nat)(n:Nod)(f:Fnd)(x:Itm)(hv:FlsV w.s.spc.files)(hf:w.found[i]?=some f)(hx:w.r.items[i]?=some x)(hn:f.name.size≤100000)(ht:n.target.size≤100000)(hne:n.entries=[]):ACall prog 132 [.bp 0 0, .v (.int .i64 (i:Int)), .agg (AW n)] [WA w cap,IB w cap] (fun r b t=>t=[]∧r= .v (.int .i64 (CW w i n).2)∧b=[WA (CW w i n).1 cap,IB (CW w i n).1 cap]):=by
 have hrow:(w.found.map Aq)[i]?=some (Aq f):=by rw[List.getElem?_map,hf];rfl
 have hfn:Ar w i=f:=by unfold Ar;rw[hf];rfl
 have hmk:Du w i n=DU w.s.spc.files f.dir f.name (LS w n):=by unfold Du;rw[hfn]
 have hok:=Oo hv f.dir f.name (LS w n);rw[←hmk]at hok;have hcall:AFn prog 18 [.agg (Am w.s.spc.files), .agg (A7 f.dir), .v (.string f.name), .agg (AW (LS w n))] (fun r=>r=CH (Du w i n)):=by rw[hmk];exact Rz _ _ _ _ hv hn ht
 refine enter Tryz.func132 rfl rfl rfl rfl rfl 2 rfl ?_;refine w_ (b_ (h:=a_ (h:=e_ (q_ (Bo ([(0,WA w cap),(1,IB w cap)]) 14 (h:=AQ 0 (h:=BL 1 (h:=AJ 2 (h:=AJ 3 (h:=AF 4 (h:=AQ 5 (h:=BL 6 (h:=AJ 7 (h:=AJ 8 (h:=AF 9 (h:=AJ 10 (h:=?_)))))))))))))))));refine BA 11 rfl (B1 rfl rfl rfl rfl rfl rfl (by repeat constructor) (by repeat constructor) ?_);refine o_ (h:=AJ 12 (h:=?_));refine BA 13 rfl (B1 rfl rfl rfl rfl rfl rfl (by repeat constructor) (by repeat constructor) ?_);refine o_ (h:=z_ (h:=t_ (q_ (Bo ([(0,WA w cap),(1,IB w cap),(2,AW (LS w n))]) 28 (h:=AQ 0 (h:=AQ 1 (h:=BL 2 (h:=AJ 3 (h:=AJ 4 (h:=AJ 5 (h:=AF 6 (h:=AQ 7 (h:=BL 8 (h:=AJ 9 (h:=AF 10 (h:=AQ 11 (h:=DD 12 (h:=AJ 13 (h:=AF 14 (h:=AQ 15 (h:=BL 16 (h:=AJ 17 (h:=AF 18 (h:=?_))))))))))))))))))))))));refine AQ 19 (h:=DD 20 (h:=AJ 21 (h:=AF 22 (h:=AF 23 (h:=?_)))));refine c_ 24 rfl (AN (hcall) ?_);rintro r rfl;refine o_ (h:=BU 25 (h:=BU 26 (h:=BU 27 (h:=?_))));refine c_ 28 rfl (DN [0,1] rfl (.cons _ _ _ _ _ rfl (AM _) (.cons _ _ _ _ _ rfl (AM _) (.cons _ _ _ _ _ rfl (AM _) (.cons _ _ _ _ _ rfl (AM _) .nil)))) (by decide) (.cons _ _ _ _ _ rfl rfl (.cons _ _ _ _ _ rfl (FU B3 _ _ _) .nil)) (Tj w cap (Du w i n).1 (Du w i n).2.1 (Du w i n).2.2) ?_);rintro r bc tc ⟨rfl,rfl,rfl⟩;refine⟨rfl,_,Gp rfl (Bu w (Du w i n)).1 cap,?_⟩;refine o_ (h:=?_);refine c_ 29 rfl (Fr rfl ?_);refine o_ (h:=z_ (h:=t_ (q_ (w_ (m_ (h:=Ah (h:=e_ (?_))))))));refine AA rfl (fun hb1=>?_) (fun hb1=>?_)
 ·have hc1:=bp hb1;have h0:(Du w i n).2.2=0:=hc1;obtain⟨c,hc⟩:∃c,(Du w i n).2.1=[c]:=by rw[hmk]at h0 ⊢;exact Tm h0
  have hch:(Bu w (Du w i n)).1.r.changes=[c]:=by rw[Hj h0];exact hc
  have hx1:(Bu w (Du w i n)).1.r.items[i]?=some x:=by rw[Hj h0];exact hx
  have hfb:FlsB (Bu w (Du w i n)).1.s.spc.files:=by rw[Hj h0];exact(hok h0).1.b
  have hrow2:((Bu w (Du w i n)).1.r.changes.map C2)[0]?=some (C2 c):=by rw[hch];rfl
  refine AX (m_ (h:=m_ (h:=m_ (h:=k_ (h:=f_ (h:=f_ (h:=l_ (h:=?_))))))));refine A8 rfl (DZ (n:=0) rfl rfl rfl hrow2 ?_);refine f_ (h:=l_ (h:=?_));refine A8 rfl (DN [0,1] rfl (.cons _ _ _ _ _ rfl (AM _) (.cons _ _ _ _ _ rfl (AM _) (.cons _ _ _ _ _ rfl (AM _) .nil))) (by decide) (.cons _ _ _ _ _ rfl rfl (.cons _ _ _ _ _ rfl (FU B3 _ _ _) .nil)) (To (Bu w (Du w i n)).1 cap i c.2.2.2 x hfb hx1) ?_);rintro r bc tc ⟨rfl,rfl,rfl⟩;refine⟨rfl,_,Gp rfl (GF (Bu w (Du w i n)).1 i c.2.2.2) cap,?_⟩;refine e_ (w_ (m_ (h:=a_ (h:=e_ (A4 (?_))))));refine Dm (r:= .v (.int .i64 (CW w i n).2)) none (h5:=(by rw[CW,if_pos h0];exact LeA.of_eq (vi h0))) (h6:=⟨rfl,rfl,?_⟩);rw[CW,if_pos h0,hc];rfl
 have hc1:=bp hb1;have h0:¬(Du w i n).2.2=0:=hc1;refine AO (w_ (m_ (h:=a_ (h:=e_ (A4 (?_))))));refine Dm (r:= .v (.int .i64 (CW w i n).2)) none (h5:=(by rw[CW,if_neg h0];exact AM _)) (h6:=⟨rfl,rfl,?_⟩);rw[CW,if_neg h0,Tl h0];rfl
theorem b7(w:Wrk)(cap:Nat)(f:Fnd)(x:Itm)(hv:SpcV w.s.spc)(hm:w.s.spc.mounts.length≤1000)(htb:TabB w.s.tab)(hf:w.found[0]?=some f)(hx:w.r.items[0]?=some x)(hn:f.name.size≤100000):ACall prog 99 [.bp 0 0] [WA w cap,IB w cap] (fun r b t=>t=[]∧r= .v (.int .i64 (C4 w).2)∧b=[WA (C4 w).1 cap,IB (C4 w).1 cap]):=by
 have hsb:=hv.b hm;have hrow:(w.found.map Aq)[0]?=some (Aq f):=by rw[List.getElem?_map,hf];rfl
 have hfn:Ar w 0=f:=by unfold Ar;rw[hf];rfl
 refine enter Tryz.func99 rfl rfl rfl rfl rfl 2 rfl ?_;refine w_ (a_ (h:=e_ (q_ (Bo ([(0,WA w cap),(1,IB w cap)]) 15 (h:=AQ 0 (h:=BL 1 (h:=AJ 2 (h:=AF 3 (h:=DD 4 (h:=AF 5 (h:=AQ 6 (h:=BL 7 (h:=AJ 8 (h:=AJ 9 (h:=?_)))))))))))))));refine B5 10 rfl (fun _ hS=>E6 (len:=4) (sz:=1) (n:=0) (by kernel_rfl) rfl rfl rfl rfl ⟨rfl,rfl⟩) ?_;refine AF 11 (h:=?_);refine c_ 12 rfl (Cn (by repeat constructor) ?_);refine o_ (h:=?_);refine BA 13 rfl (B1 rfl rfl rfl rfl rfl rfl (by repeat constructor) (by repeat constructor) ?_);refine o_ (h:=BO 14 (h:=z_ (h:=t_ (?_))));refine BR (fun s=>∃(w2:Wrk) (F2:Fnd),C4 w=Gm w2 F2.file∧TabB w2.s.tab∧s=⟨look [(0, .bp 0 0),(3, .bp 2 0),(4, .v (.int .i64 w2.c.a0))],⟨[WA w2 cap,IB w2 cap,Aq F2],[]⟩⟩) ?_ ?_
 ·skip
  refine w_ (f_ (h:=l_ (h:=e_ (?_))));refine AA rfl (fun hb1=>?_) (fun hb1=>?_)
  ·have hc1:=bp hb1;have hex:(Ar w 0).ex=true:=by rw[hfn];exact hc1
   refine BR (fun s=>s=⟨look [(0, .bp 0 0),(3, .bp 2 0),(4, .v (.int .i64 w.c.a0)),(5, .bp 3 0)],⟨[WA w cap,IB w cap,Aq f,AW (AU w.s.spc.files f.file)],[]⟩⟩) ?_ ?_
   ·skip
    refine Bo ([(0,WA w cap),(1,IB w cap),(2,Aq f)]) 15 (h:=AQ 0 (h:=BL 1 (h:=AJ 2 (h:=AJ 3 (h:=AJ 4 (h:=AF 5 (h:=AJ 6 (h:=AF 7 (h:=?_)))))))));refine Fa 8 12 rfl rfl ?_ ?_
    ·refine AN (E1 w.s.spc.files f.file hsb.files) ?_;rintro r rfl;refine o_ (h:=?_);refine AQ 9 (h:=BU 10 (h:=BU 11 (h:=?_)));refine c_ 12 rfl (Cn (by repeat constructor) ?_);refine o_ (h:=?_);refine BA 13 rfl (B1 rfl rfl rfl rfl rfl rfl (by repeat constructor) (by repeat constructor) ?_);refine o_ (h:=BO 14 (h:=z_ (h:=?_)));refine AG ?_;exact⟨_,rfl,DA 4 0⟩
    refine Cn (by repeat constructor) ?_;refine o_ (h:=?_);refine c_ 8 rfl (AN (E1 w.s.spc.files f.file hsb.files) ?_);rintro r rfl;refine o_ (h:=AQ 9 (h:=BU 10 (h:=BU 11 (h:=?_))));refine BA 13 rfl (B1 rfl rfl rfl rfl rfl rfl (by repeat constructor) (by repeat constructor) ?_);refine o_ (h:=BO 14 (h:=z_ (h:=?_)));refine AG ?_;exact⟨_,rfl,DA 4 0⟩
   rintro s rfl;refine w_ (a_ (h:=e_ (?_)));refine BR (fun s=>s=⟨look [(0, .bp 0 0),(3, .bp 2 0),(4, .v (.int .i64 w.c.a0)),(5, .bp 3 0),(7, .v (.int .i64 (if Br w.c.a0 1=true then 4 else 0)))],⟨[WA w cap,IB w cap,Aq f,AW (AU w.s.spc.files f.file)],[]⟩⟩) ?_ ?_
   ·skip
    refine w_ (m_ (h:=Dz (h:=Bf (h:=e_ (?_)))));refine AA rfl (fun hb2=>?_) (fun hb2=>?_)
    ·have hc2:=bp hb2;have k0:Br w.c.a0 1=true:=by simpa[Br]using hc2
     refine AX (m_ (h:=BB (h:=a_ (h:=AT (?_)))));refine AG ?_;refine⟨_,rfl,?_⟩
     first|(rw[if_pos k0];exact DA 4 0)|(rw[if_neg k0];exact DA 4 0)
    have hc2:=bp hb2;have k0:¬Br w.c.a0 1=true:=by simpa[Br]using hc2
    refine BH (?_);refine AG ?_;refine⟨_,rfl,?_⟩
    first|(rw[if_pos k0];exact DA 4 0)|(rw[if_neg k0];exact DA 4 0)
   rintro s rfl;refine BR (fun s=>s=⟨look [(0, .bp 0 0),(3, .bp 2 0),(4, .v (.int .i64 w.c.a0)),(5, .bp 3 0),(7, .v (.int .i64 (Gn w.c.a0)))],⟨[WA w cap,IB w cap,Aq f,AW (AU w.s.spc.files f.file)],[]⟩⟩) ?_ ?_
   ·skip
    refine w_ (m_ (h:=Dz (h:=Bf (h:=e_ (?_)))));refine AA rfl (fun hb3=>?_) (fun hb3=>?_)
    ·have hc3:=bp hb3;have k00:Br w.c.a0 18=true:=by simpa[Br]using hc3
     refine AX (m_ (h:=BB (h:=a_ (h:=AT (?_)))));refine AG ?_;refine⟨_,rfl,?_⟩;unfold Gn
     first|(rw[if_pos k00];exact DA 4 0)|(rw[if_neg k00,Int.add_zero];exact DA 4 0)
    have hc3:=bp hb3;have k00:¬Br w.c.a0 18=true:=by simpa[Br]using hc3
    refine BH (?_);refine AG ?_;refine⟨_,rfl,?_⟩;unfold Gn
    first|(rw[if_pos k00];exact DA 4 0)|(rw[if_neg k00,Int.add_zero];exact DA 4 0)
   rintro s rfl;refine Ap (?_);refine BR (fun s=>s=⟨look [(0, .bp 0 0),(3, .bp 2 0),(4, .v (.int .i64 w.c.a0)),(5, .bp 3 0),(7, .v (.int .i64 (Gn w.c.a0))),(48, .v (.bool (Br w.c.a0 4&&Br w.c.a0 8)))],⟨[WA w cap,IB w cap,Aq f,AW (AU w.s.spc.files f.file)],[]⟩⟩) ?_ ?_
   ·skip
    refine AX (m_ (h:=Dz (h:=Bf (h:=m_ (h:=?_)))));refine Aw true rfl rfl (fun hb4=>?_) (fun hb4=>?_)
    ·have hc4:=bp hb4;refine m_ (h:=Dz (h:=Bf (h:=AY (h:=a_ (h:=AT (?_))))));refine AG ?_;exact⟨_,rfl,B4 4 0 rfl rfl rfl (by simp[Ai,Ac,Af,Bi B3,C5,WA,IB,CX,Aq,AW]) (by repeat (first|exact Sub.nil|refine B9 rfl rfl ?_|refine BD ?_|refine BE rfl ?_|refine BF rfl ?_|(apply Sub.of;(focus exact rfl);(focus exact LeA.of_eq (vb (by simp[Br, *])));(focus exact rfl))))⟩
    have hc4:=bp hb4;refine A3 (h:=A3 (h:=A3 (h:=Aj (h:=a_ (h:=AT (?_))))));refine AG ?_;exact⟨_,rfl,B4 4 0 rfl rfl rfl (by simp[Ai,Ac,Af,Bi B3,C5,WA,IB,CX,Aq,AW]) (by repeat (first|exact Sub.nil|refine B9 rfl rfl ?_|refine BD ?_|refine BE rfl ?_|refine BF rfl ?_|(apply Sub.of;(focus exact rfl);(focus exact LeA.of_eq (vb (by simp[Br, *])));(focus exact rfl))))⟩
   rintro s rfl;refine AA rfl (fun hb5=>?_) (fun hb5=>?_)
   ·have hc5:=bp hb5;have k1:Br w.c.a0 4=true∧Br w.c.a0 8=true:=by simpa using hc5
    refine w_ (a_ (h:=e_ (A4 (Ab (A9 (?_))))));refine Dm (r:= .v (.int .i64 (C4 w).2)) none (h5:=(by rw[C4,if_pos hex,if_pos k1];exact AM _)) (h6:=⟨rfl,rfl,?_⟩);rw[C4,if_pos hex,if_pos k1];rfl
   have hc5:=bp hb5;have k1:¬(Br w.c.a0 4=true∧Br w.c.a0 8=true):=by simpa using hc5
   refine w_ (f_ (h:=l_ (h:=Ah (h:=a_ (h:=e_ (?_))))));refine AA rfl (fun hb6=>?_) (fun hb6=>?_)
   ·have hc6:=bp hb6;have k2:(AU w.s.spc.files (Ar w 0).file).kind=3:=by rw[hfn];exact hc6
    refine w_ (a_ (h:=e_ (A4 (Ab (A9 (?_))))));refine Dm (r:= .v (.int .i64 (C4 w).2)) none (h5:=(by rw[C4,if_pos hex,if_neg k1,if_pos k2];exact AM _)) (h6:=⟨rfl,rfl,?_⟩);rw[C4,if_pos hex,if_neg k1,if_pos k2];rfl
   have hc6:=bp hb6;have k2:¬(AU w.s.spc.files (Ar w 0).file).kind=3:=by rw[hfn];exact hc6
   refine BR (fun s=>s=⟨look [(0, .bp 0 0),(3, .bp 2 0),(4, .v (.int .i64 w.c.a0)),(5, .bp 3 0),(7, .v (.int .i64 (Gn w.c.a0))),(61, .v (.bool (decide ((AU w.s.spc.files f.file).kind=2)&&Br w.c.a0 22)))],⟨[WA w cap,IB w cap,Aq f,AW (AU w.s.spc.files f.file)],[]⟩⟩) ?_ ?_
   ·skip
    refine AX (f_ (h:=l_ (h:=Ah (h:=m_ (h:=?_)))));refine Aw true rfl rfl (fun hb7=>?_) (fun hb7=>?_)
    ·have hc7:=bp hb7;refine m_ (h:=Dz (h:=Bf (h:=AY (h:=a_ (h:=AT (?_))))));refine AG ?_;exact⟨_,rfl,B4 4 0 rfl rfl rfl (by simp[Ai,Ac,Af,Bi B3,C5,WA,IB,CX,Aq,AW]) (by repeat (first|exact Sub.nil|refine B9 rfl rfl ?_|refine BD ?_|refine BE rfl ?_|refine BF rfl ?_|(apply Sub.of;(focus exact rfl);(focus exact LeA.of_eq (vb (by simp[Br, *])));(focus exact rfl))))⟩
    have hc7:=bp hb7;refine A3 (h:=A3 (h:=A3 (h:=Aj (h:=a_ (h:=AT (?_))))));refine AG ?_;exact⟨_,rfl,B4 4 0 rfl rfl rfl (by simp[Ai,Ac,Af,Bi B3,C5,WA,IB,CX,Aq,AW]) (by repeat (first|exact Sub.nil|refine B9 rfl rfl ?_|refine BD ?_|refine BE rfl ?_|refine BF rfl ?_|(apply Sub.of;(focus exact rfl);(focus exact LeA.of_eq (vb (by simp[Br, *])));(focus exact rfl))))⟩
   rintro s rfl;refine AA rfl (fun hb8=>?_) (fun hb8=>?_)
   ·have hc8:=bp hb8;have k3:(AU w.s.spc.files (Ar w 0).file).kind=2∧Br w.c.a0 22=true:=by rw[hfn];simpa using hc8
    refine w_ (a_ (h:=e_ (A4 (Ab (A9 (?_))))));refine Dm (r:= .v (.int .i64 (C4 w).2)) none (h5:=(by rw[C4,if_pos hex,if_neg k1,if_neg k2,if_pos k3];exact AM _)) (h6:=⟨rfl,rfl,?_⟩);rw[C4,if_pos hex,if_neg k1,if_neg k2,if_pos k3];rfl
   have hc8:=bp hb8;have k3:¬((AU w.s.spc.files (Ar w 0).file).kind=2∧Br w.c.a0 22=true):=by rw[hfn];simpa using hc8
   refine w_ (m_ (h:=f_ (h:=l_ (h:=m_ (h:=?_)))));refine A8 rfl (EJ 1 rfl (.cons _ _ _ _ _ rfl (LeA.of_eq rfl) (.cons _ _ _ _ _ rfl (AM _) (.cons _ _ _ _ _ rfl (AM _) .nil))) (Mz w .any f.file (Gn w.c.a0) hsb) ?_);rintro r rfl;refine⟨rfl,?_⟩;refine Bt (h:=a_ (h:=e_ (?_)));refine AA rfl (fun hb9=>?_) (fun hb9=>?_)
   ·have hc9:=bp hb9;have k4:DJ w (Ar w 0).file (Gn w.c.a0)=false:=by rw[hfn];simpa using hc9
    refine w_ (a_ (h:=e_ (A4 (Ab (A9 (?_))))));refine Dm (r:= .v (.int .i64 (C4 w).2)) none (h5:=(by rw[C4,if_pos hex,if_neg k1,if_neg k2,if_neg k3,if_pos k4];exact AM _)) (h6:=⟨rfl,rfl,?_⟩);rw[C4,if_pos hex,if_neg k1,if_neg k2,if_neg k3,if_pos k4];rfl
   have hc9:=bp hb9;have k4:¬DJ w (Ar w 0).file (Gn w.c.a0)=false:=by rw[hfn];simpa using hc9
   refine BH (Ay (?_));refine AG ?_
   first|exact⟨_,⟨w,f,(by rw[C4,if_pos hex,if_neg k1,if_neg k2,if_neg k3,if_neg k4,hfn]),htb,rfl⟩,DA 3 0⟩|(obtain⟨q1,q2,q3⟩:=Tn w 0 (Et w.c.a1);exact⟨_,⟨(CW w 0 (Et w.c.a1)).1,{f with file:=c.2.2.2},(by rw[C4,if_neg hex,if_neg k1,if_neg k2,if_neg k3,if_neg (by simp[k4]),hc];rfl),by rw[q1];exact htb,rfl⟩,by rw[q3];exact DA 3 0⟩)
  have hc1:=bp hb1;have hex:¬(Ar w 0).ex=true:=by rw[hfn];simpa using hc1
  refine q_ (Ap (w_ (m_ (h:=Dz (h:=Ah (h:=a_ (h:=e_ (?_))))))));refine AA rfl (fun hb10=>?_) (fun hb10=>?_)
  ·have hc10:=bp hb10;have k1:Br w.c.a0 4=false:=by simp only[Br];simpa using hc10
   refine w_ (a_ (h:=e_ (A4 (Ab (A9 (A9 (?_)))))));refine Dm (r:= .v (.int .i64 (C4 w).2)) none (h5:=(by rw[C4,if_neg hex,if_pos k1];exact AM _)) (h6:=⟨rfl,rfl,?_⟩);rw[C4,if_neg hex,if_pos k1];rfl
  have hc10:=bp hb10;have k1:¬Br w.c.a0 4=false:=by simp only[Br];simpa using hc10
  refine w_ (f_ (h:=l_ (h:=a_ (h:=e_ (?_)))));refine AA rfl (fun hb11=>?_) (fun hb11=>?_)
  ·have hc11:=bp hb11;have k2:(Ar w 0).slash=true:=by rw[hfn];exact hc11
   refine w_ (a_ (h:=e_ (A4 (Ab (A9 (A9 (?_)))))));refine Dm (r:= .v (.int .i64 (C4 w).2)) none (h5:=(by rw[C4,if_neg hex,if_neg k1,if_pos k2];exact AM _)) (h6:=⟨rfl,rfl,?_⟩);rw[C4,if_neg hex,if_neg k1,if_pos k2];rfl
  have hc11:=bp hb11;have k2:¬(Ar w 0).slash=true:=by rw[hfn];simpa using hc11
  refine w_ (m_ (h:=f_ (h:=l_ (h:=?_))));refine A8 rfl (EJ 1 rfl (.cons _ _ _ _ _ rfl (LeA.of_eq rfl) (.cons _ _ _ _ _ rfl (AM _) (.cons _ _ _ _ _ rfl (AM _) .nil))) (Mz w .any f.dir 2 hsb) ?_);rintro r rfl;refine⟨rfl,?_⟩;refine Bt (h:=a_ (h:=e_ (?_)));refine AA rfl (fun hb12=>?_) (fun hb12=>?_)
  ·have hc12:=bp hb12;have k3:DJ w (Ar w 0).dir 2=false:=by rw[hfn];simpa using hc12
   refine w_ (a_ (h:=e_ (A4 (Ab (A9 (A9 (?_)))))));refine Dm (r:= .v (.int .i64 (C4 w).2)) none (h5:=(by rw[C4,if_neg hex,if_neg k1,if_neg k2,if_pos k3];exact AM _)) (h6:=⟨rfl,rfl,?_⟩);rw[C4,if_neg hex,if_neg k1,if_neg k2,if_pos k3];rfl
  have hc12:=bp hb12;have k3:¬DJ w (Ar w 0).dir 2=false:=by rw[hfn];simpa using hc12
  refine BH (Ay (t_ (q_ (w_ (m_ (h:=m_ (h:=k_ (h:=f_ (h:=f_ (h:=?_))))))))));refine A8 rfl (E6 (len:=4) (sz:=1) (n:=1) (by kernel_rfl) rfl rfl rfl rfl ?_);refine l_ (h:=?_);refine A8 rfl (Em (y:= .agg (AW (Et w.c.a1))) (D8 ⟨rfl,rfl⟩) ?_);refine A8 rfl (DN [0,1] rfl (.cons _ _ _ _ _ rfl (AM _) (.cons _ _ _ _ _ rfl (AM _) (.cons _ _ _ _ _ rfl (AM _) .nil))) (by decide) (.cons _ _ _ _ _ rfl rfl (.cons _ _ _ _ _ rfl (FU B3 _ _ _) .nil)) (b6 w cap 0 (Et w.c.a1) f x hv.files hf hx hn (BC _) rfl) ?_);rintro r bc tc ⟨rfl,rfl,rfl⟩;refine⟨rfl,_,Gp rfl (CW w 0 (Et w.c.a1)).1 cap,?_⟩;refine a_ (h:=e_ (w_ (m_ (h:=Bf (h:=e_ (?_))))));refine AA rfl (fun hb13=>?_) (fun hb13=>?_)
  ·have hc13:=bp hb13;have k4:(CW w 0 (Et w.c.a1)).2≠0:=by simpa using hc13
   refine w_ (m_ (h:=a_ (h:=e_ (A4 (A9 (A9 (?_)))))));refine Dm (r:= .v (.int .i64 (C4 w).2)) none (h5:=(by rw[C4,if_neg hex,if_neg k1,if_neg k2,if_neg k3,if_pos k4];exact AM _)) (h6:=⟨rfl,rfl,?_⟩);rw[C4,if_neg hex,if_neg k1,if_neg k2,if_neg k3,if_pos k4];rfl
  have hc13:=bp hb13;have k4:(CW w 0 (Et w.c.a1)).2=0:=by simpa using hc13
  obtain⟨c,hc⟩:=b5 k4;have hrow2:((CW w 0 (Et w.c.a1)).1.r.changes.map C2)[0]?=some (C2 c):=by rw[hc];rfl
  refine AO (AX (m_ (h:=k_ (h:=f_ (h:=f_ (h:=l_ (h:=?_)))))));refine A8 rfl (DZ (n:=0) rfl rfl rfl hrow2 ?_);refine f_ (h:=l_ (h:=f_ (h:=s_ (h:=AT (?_)))));refine AG ?_
  first|exact⟨_,⟨w,f,(by rw[C4,if_pos hex,if_neg k1,if_neg k2,if_neg k3,if_neg k4,hfn]),htb,rfl⟩,DA 3 0⟩|(obtain⟨q1,q2,q3⟩:=Tn w 0 (Et w.c.a1);exact⟨_,⟨(CW w 0 (Et w.c.a1)).1,{f with file:=c.2.2.2},(by rw[C4,if_neg hex,if_neg k1,if_neg k2,if_neg k3,if_neg (by simp[k4]),hc];rfl),by rw[q1];exact htb,rfl⟩,by rw[q3];exact DA 3 0⟩)
 rintro s ⟨w2,F2,hop,htb2,rfl⟩;refine BR (fun s=>s=⟨look [(0, .bp 0 0),(9, .bp 3 0),(10, .v (.int .i64 (EM w2.s.tab w2.p.pid F2.file w2.c.a0).2.1)),(11, .v (.int .i64 (EM w2.s.tab w2.p.pid F2.file w2.c.a0).2.2))],⟨[WA w2 cap,IB w2 cap,Aq F2,C0 (EM w2.s.tab w2.p.pid F2.file w2.c.a0).1],[]⟩⟩) ?_ ?_
 ·skip
  refine Bo ([(0,WA w2 cap),(1,IB w2 cap),(2,Aq F2)]) 22 (h:=AQ 0 (h:=BL 1 (h:=AJ 2 (h:=AJ 3 (h:=AF 4 (h:=AQ 5 (h:=BL 6 (h:=AJ 7 (h:=AJ 8 (h:=AF 9 (h:=AJ 10 (h:=AF 11 (h:=AQ 12 (h:=?_))))))))))))));refine Fa 13 18 rfl rfl ?_ ?_
  ·refine AN (Tg w2.s.tab w2.p.pid F2.file w2.c.a0 htb2) ?_;rintro r rfl;refine o_ (h:=?_);refine AQ 14 (h:=BU 15 (h:=BU 16 (h:=BU 17 (h:=?_))));refine c_ 18 rfl (Cn (by repeat constructor) ?_);refine o_ (h:=?_);refine BA 19 rfl (B1 rfl rfl rfl rfl rfl rfl (by repeat constructor) (by repeat constructor) ?_);refine o_ (h:=BO 20 (h:=BO 21 (h:=z_ (h:=?_))));refine AG ?_;exact⟨_,rfl,DA 4 0⟩
  refine Cn (by repeat constructor) ?_;refine o_ (h:=?_);refine c_ 13 rfl (AN (Tg w2.s.tab w2.p.pid F2.file w2.c.a0 htb2) ?_);rintro r rfl;refine o_ (h:=AQ 14 (h:=BU 15 (h:=BU 16 (h:=BU 17 (h:=?_)))));refine BA 19 rfl (B1 rfl rfl rfl rfl rfl rfl (by repeat constructor) (by repeat constructor) ?_);refine o_ (h:=BO 20 (h:=BO 21 (h:=z_ (h:=?_))));refine AG ?_;exact⟨_,rfl,DA 4 0⟩
 rintro s rfl;refine w_ (m_ (h:=m_ (h:=k_ (h:=f_ (h:=f_ (h:=s_ (h:=e_ (w_ (m_ (h:=l_ (h:=m_ (h:=?_))))))))))));refine A8 rfl (DN [0,1] rfl (.cons _ _ _ _ _ rfl (AM _) (.cons _ _ _ _ _ rfl (AM _) (.cons _ _ _ _ _ rfl (AM _) .nil))) (by decide) (.cons _ _ _ _ _ rfl rfl (.cons _ _ _ _ _ rfl (FU B3 _ _ _) .nil)) (aY (Sv w2 (EM w2.s.tab w2.p.pid F2.file w2.c.a0).2.1) cap (EM w2.s.tab w2.p.pid F2.file w2.c.a0).1 (EM w2.s.tab w2.p.pid F2.file w2.c.a0).2.2) ?_);rintro r bc tc ⟨rfl,rfl,rfl⟩;refine⟨rfl,_,Gp rfl (Gm w2 F2.file).1 cap,?_⟩;refine a_ (h:=e_ (A4 (?_)));refine Dm (r:= .v (.int .i64 (C4 w).2)) none (h5:=(by rw[hop,Gm,aZ];exact AM _)) (h6:=⟨rfl,rfl,?_⟩);rw[hop];rfl
end
theorem Tp{e:Int}{y x:A6}{c d:Bool}:(decide (e=0)&& !decide ((y.1,y.2)=(x.1,x.2))&&c&&d)=true↔(e=0∧y≠x∧c=true∧d=true):=by
 have:decide ((y.1,y.2)=(x.1,x.2))=decide (y=x):=rfl;rw[this];simp[and_assoc]
theorem Tq{w:Wrk}{R:Df}{x:A6}(h:(decide (R.2.2=0)&&decide (0<(R.2.1.length:Int)))=true):GG w R x=(GF (Es (Bu w R).1 0 3) 1 x,R.2.2):=by
 rw[Bool.and_eq_true]at h;have h1:=of_decide_eq_true h.1;unfold GG;rw[if_neg (by simp[h1]),if_pos (of_decide_eq_true h.2),h1]
theorem Tr{w:Wrk}{R:Df}{x:A6}(h:(decide (R.2.2=0)&&decide (0<(R.2.1.length:Int)))=false):GG w R x=((Bu w R).1,R.2.2):=by
 unfold GG;by_cases h0:R.2.2=0
 ·rw[if_neg (by simp[h0]),if_neg (by simpa[h0]using h),h0]
 rw[if_pos h0,Tl h0]
theorem b8(w:Wrk)(i:Nat)(r:Int)(cap:Nat):WA (Es w i r) cap=WA w cap:=by
 unfold WA Es;simp only[List.length_modify];rfl
theorem b9{w:Wrk}{i:Nat}{x:Itm}(hx:w.r.items[i]?=some x)(r:Int)(cap:Nat):IB (Es w i r) cap=LB 13 Bm (w.r.items.set i {x with role:=r}) cap:=by
 unfold IB Es;rw[Tk hx]
section
theorem bA(w:Wrk)(cap:Nat)(f g:Fnd)(x0 x1:Itm)(hv:SpcV w.s.spc)(hm:w.s.spc.mounts.length≤1000)(hps:w.s.tab.ps.length≤1000)(hf:w.found[0]?=some f)(hg:w.found[1]?=some g)(hx0:w.r.items[0]?=some x0)(hx1:w.r.items[1]?=some x1)(hn:f.name.size≤100000)(hn2:g.name.size≤100000):ACall prog 102 [.bp 0 0] [WA w cap,IB w cap] (fun r b t=>t=[]∧r= .v (.int .i64 (Dv w).2)∧b=[WA (Dv w).1 cap,IB (Dv w).1 cap]):=by
 have hsb:=hv.b hm;have hrow0:(w.found.map Aq)[0]?=some (Aq f):=by rw[List.getElem?_map,hf];rfl
 have hrow1:(w.found.map Aq)[1]?=some (Aq g):=by rw[List.getElem?_map,hg];rfl
 have hfn:Ar w 0=f:=by unfold Ar;rw[hf];rfl
 have hgn:Ar w 1=g:=by unfold Ar;rw[hg];rfl
 have hil:0<w.r.items.length:=(Ag.1 hx0).1;obtain⟨R,hR⟩:∃R,R=EL w.s.spc.files f.dir f.name g.dir g.name:=⟨_,rfl⟩;have hok:=SD hv.files f.dir f.name g.dir g.name;rw[←hR]at hok;have hcall:AFn prog 12 [.agg (Am w.s.spc.files), .agg (A7 f.dir), .v (.string f.name), .agg (A7 g.dir), .v (.string g.name)] (fun r=>r=CH R):=by rw[hR];exact XL _ _ _ _ _ hv.files hn hn2
 obtain⟨x,hxd⟩:∃x,x=(AK w.s.spc.files f.dir f.name).1:=⟨_,rfl⟩;obtain⟨y,hyd⟩:∃y,y=(AK w.s.spc.files g.dir g.name).1:=⟨_,rfl⟩;have hl1:AFn prog 10 [.agg (Am w.s.spc.files), .agg (A7 f.dir), .v (.string f.name)] (fun r=>r= .tup [.agg (A7 x), .v (.int .i64 (AK w.s.spc.files f.dir f.name).2)]):=by rw[hxd];exact H7 _ _ _ hsb.files
 have hl2:AFn prog 10 [.agg (Am w.s.spc.files), .agg (A7 g.dir), .v (.string g.name)] (fun r=>r= .tup [.agg (A7 y), .v (.int .i64 (AK w.s.spc.files g.dir g.name).2)]):=by rw[hyd];exact H7 _ _ _ hsb.files
 obtain⟨e2,he2⟩:∃e,e=(AK w.s.spc.files g.dir g.name).2:=⟨_,rfl⟩;rw[←he2]at hl2
 have hren:Dv w=if f.ex=false then(w,2)else if f.name=⟨#[]⟩∨g.name=⟨#[]⟩then(w,16)else if g.slash=true∧Al w.s.spc.files f.file=false then(w,20)else if f.dir.1≠g.dir.1 then(w,18)else if DJ w f.dir 2=false∨DJ w g.dir 2=false then(w,13)else if e2=0∧y≠x∧Al w.s.spc.files y=true∧Gl w y=true then(w,16)else GG w R x:=by
  unfold Dv Gk;rw[hfn,hgn,←hxd,←hyd,←he2,←hR]
 clear hxd hyd he2 hR;refine enter Tryz.func102 rfl rfl rfl rfl rfl 2 rfl ?_;refine w_ (a_ (h:=e_ (?_)));refine BR (fun s=>s=⟨look [(0, .bp 0 0),(3, .bp 2 0),(4, .bp 3 0)],⟨[WA w cap,IB w cap,Aq f,Aq g],[]⟩⟩) ?_ ?_
 ·skip
  refine Bo ([(0,WA w cap)]) 16 (h:=AQ 0 (h:=BL 1 (h:=AJ 2 (h:=AF 3 (h:=?_)))));refine B5 4 rfl (fun _ hS=>DZ (n:=0) rfl rfl rfl hrow0 ⟨rfl,rfl⟩) ?_;refine AF 5 (h:=AQ 6 (h:=BL 7 (h:=AJ 8 (h:=AF 9 (h:=?_)))));refine B5 10 rfl (fun _ hS=>DZ (n:=1) rfl rfl rfl hrow1 ⟨rfl,rfl⟩) ?_;refine AF 11 (h:=?_);refine Fa 12 13 rfl rfl ?_ ?_
  ·refine Cn (by repeat constructor) ?_;refine o_ (h:=?_);refine c_ 13 rfl (Cn (by repeat constructor) ?_);refine o_ (h:=?_);refine BA 14 rfl (B1 rfl rfl rfl rfl rfl rfl (by repeat constructor) (by repeat constructor) ?_);refine o_ (h:=?_);refine BA 15 rfl (B1 rfl rfl rfl rfl rfl rfl (by repeat constructor) (by repeat constructor) ?_);refine o_ (h:=z_ (h:=?_));refine AG ?_
   first|exact⟨_,rfl,DA 4 0⟩|exact⟨_,rfl,E7 [0,1,3,2] L5 (by decide) (.cons _ _ _ _ _ rfl rfl (.cons _ _ _ _ _ rfl (GH B3 _ _ _) (.cons _ _ _ _ _ rfl rfl (.cons _ _ _ _ _ rfl rfl .nil)))) (by repeat (first|exact SubK.nil|refine SubK.cons _ _ _ _ rfl (AM _) ?_))⟩
  refine Cn (by repeat constructor) ?_;refine o_ (h:=?_);refine c_ 12 rfl (Cn (by repeat constructor) ?_);refine o_ (h:=?_);refine BA 14 rfl (B1 rfl rfl rfl rfl rfl rfl (by repeat constructor) (by repeat constructor) ?_);refine o_ (h:=?_);refine BA 15 rfl (B1 rfl rfl rfl rfl rfl rfl (by repeat constructor) (by repeat constructor) ?_);refine o_ (h:=z_ (h:=?_));refine AG ?_
  first|exact⟨_,rfl,DA 4 0⟩|exact⟨_,rfl,E7 [0,1,3,2] L5 (by decide) (.cons _ _ _ _ _ rfl rfl (.cons _ _ _ _ _ rfl (GH B3 _ _ _) (.cons _ _ _ _ _ rfl rfl (.cons _ _ _ _ _ rfl rfl .nil)))) (by repeat (first|exact SubK.nil|refine SubK.cons _ _ _ _ rfl (AM _) ?_))⟩
 rintro s rfl;refine q_ (Ap (w_ (f_ (h:=l_ (h:=Bt (h:=a_ (h:=e_ (?_))))))));refine AA rfl (fun hb1=>?_) (fun hb1=>?_)
 ·have hc1:=bp hb1;have k1:f.ex=false:=by simpa using hc1
  refine w_ (a_ (h:=e_ (A4 (Ab (A9 (?_))))));refine Dm (r:= .v (.int .i64 (Dv w).2)) none (h5:=(by rw[hren,if_pos k1];exact AM _)) (h6:=⟨rfl,rfl,?_⟩);rw[hren,if_pos k1];rfl
 have hc1:=bp hb1;have k1:¬f.ex=false:=by simpa using hc1
 refine BR (fun s=>s=⟨look [(0, .bp 0 0),(3, .bp 2 0),(4, .bp 3 0),(26, .v (.bool (decide (f.name=⟨#[]⟩)||decide (g.name=⟨#[]⟩))))],⟨[WA w cap,IB w cap,Aq f,Aq g],[]⟩⟩) ?_ ?_
 ·skip
  refine AX (f_ (h:=l_ (h:=Ah (h:=m_ (h:=?_)))));refine Aw false rfl rfl (fun hb2=>?_) (fun hb2=>?_)
  ·have hc2:=bp hb2;refine A3 (h:=A3 (h:=A3 (h:=AY (h:=a_ (h:=AT (?_))))));refine AG ?_;exact⟨_,rfl,Cq 4 0 (by simp[Ai,Ac,Af,Bi B3,C5,WA,IB,CX,Aq])⟩
  have hc2:=bp hb2;refine f_ (h:=l_ (h:=Ah (h:=Aj (h:=a_ (h:=AT (?_))))));refine AG ?_;exact⟨_,rfl,Cq 4 0 (by simp[Ai,Ac,Af,Bi B3,C5,WA,IB,CX,Aq])⟩
 rintro s rfl;refine AA rfl (fun hb3=>?_) (fun hb3=>?_)
 ·have hc3:=bp hb3;have k2:f.name=⟨#[]⟩∨g.name=⟨#[]⟩:=by simpa using hc3
  refine w_ (a_ (h:=e_ (A4 (Ab (A9 (?_))))));refine Dm (r:= .v (.int .i64 (Dv w).2)) none (h5:=(by rw[hren,if_neg k1,if_pos k2];exact AM _)) (h6:=⟨rfl,rfl,?_⟩);rw[hren,if_neg k1,if_pos k2];rfl
 have hc3:=bp hb3;have k2:¬(f.name=⟨#[]⟩∨g.name=⟨#[]⟩):=by simpa using hc3
 refine BR (fun s=>s=⟨look [(0, .bp 0 0),(3, .bp 2 0),(4, .bp 3 0),(35, .v (.bool (g.slash&& !Al w.s.spc.files f.file)))],⟨[WA w cap,IB w cap,Aq f,Aq g],[]⟩⟩) ?_ ?_
 ·skip
  refine AX (f_ (h:=l_ (h:=m_ (h:=?_))));refine Aw true rfl rfl (fun hb4=>?_) (fun hb4=>?_)
  ·have hc4:=bp hb4;refine m_ (h:=?_);refine Ax (EJ 1 rfl (.cons _ _ _ _ _ rfl (LeA.of_eq rfl) (.cons _ _ _ _ _ rfl (AM _) .nil)) (aO w .any 0 f hsb hf) ?_);rintro r rfl;refine⟨rfl,?_⟩;refine Bt (h:=AY (h:=a_ (h:=AT (?_))));refine AG ?_;exact⟨_,rfl,Cq 4 0 (by simp[Ai,Ac,Af,Bi B3,C5,WA,IB,CX,Aq])⟩
  have hc4:=bp hb4;refine A3 (h:=A3 (h:=A3 (h:=Aj (h:=a_ (h:=AT (?_))))));refine AG ?_;exact⟨_,rfl,Cq 4 0 (by simp[Ai,Ac,Af,Bi B3,C5,WA,IB,CX,Aq])⟩
 rintro s rfl;refine AA rfl (fun hb5=>?_) (fun hb5=>?_)
 ·have hc5:=bp hb5;have k3:g.slash=true∧Al w.s.spc.files f.file=false:=by simpa using hc5
  refine w_ (a_ (h:=e_ (A4 (Ab (A9 (?_))))));refine Dm (r:= .v (.int .i64 (Dv w).2)) none (h5:=(by rw[hren,if_neg k1,if_neg k2,if_pos k3];exact AM _)) (h6:=⟨rfl,rfl,?_⟩);rw[hren,if_neg k1,if_neg k2,if_pos k3];rfl
 have hc5:=bp hb5;have k3:¬(g.slash=true∧Al w.s.spc.files f.file=false):=by simpa using hc5
 refine w_ (f_ (h:=f_ (h:=l_ (h:=f_ (h:=f_ (h:=l_ (h:=Bf (h:=a_ (h:=e_ (?_))))))))));refine AA rfl (fun hb6=>?_) (fun hb6=>?_)
 ·have hc6:=bp hb6;have k4:f.dir.1≠g.dir.1:=by simpa using hc6
  refine w_ (a_ (h:=e_ (A4 (Ab (A9 (?_))))));refine Dm (r:= .v (.int .i64 (Dv w).2)) none (h5:=(by rw[hren,if_neg k1,if_neg k2,if_neg k3,if_pos k4];exact AM _)) (h6:=⟨rfl,rfl,?_⟩);rw[hren,if_neg k1,if_neg k2,if_neg k3,if_pos k4];rfl
 have hc6:=bp hb6;have k4:¬f.dir.1≠g.dir.1:=by simpa using hc6
 refine BR (fun s=>s=⟨look [(0, .bp 0 0),(3, .bp 2 0),(4, .bp 3 0),(51, .v (.bool (!DJ w f.dir 2|| !DJ w g.dir 2)))],⟨[WA w cap,IB w cap,Aq f,Aq g],[]⟩⟩) ?_ ?_
 ·skip
  refine AX (m_ (h:=f_ (h:=l_ (h:=?_))));refine A8 rfl (EJ 1 rfl (.cons _ _ _ _ _ rfl (LeA.of_eq rfl) (.cons _ _ _ _ _ rfl (AM _) (.cons _ _ _ _ _ rfl (AM _) .nil))) (Mz w .any f.dir 2 hsb) ?_);rintro r rfl;refine⟨rfl,?_⟩;refine Bt (h:=m_ (h:=?_));refine Aw false rfl rfl (fun hb7=>?_) (fun hb7=>?_)
  ·have hc7:=bp hb7;refine A3 (h:=A3 (h:=A3 (h:=A3 (h:=A3 (h:=AY (h:=a_ (h:=AT (?_))))))));refine AG ?_;exact⟨_,rfl,Cq 4 0 (by simp[Ai,Ac,Af,Bi B3,C5,WA,IB,CX,Aq])⟩
  have hc7:=bp hb7;refine m_ (h:=f_ (h:=l_ (h:=?_)));refine Ax (EJ 1 rfl (.cons _ _ _ _ _ rfl (LeA.of_eq rfl) (.cons _ _ _ _ _ rfl (AM _) (.cons _ _ _ _ _ rfl (AM _) .nil))) (Mz w .any g.dir 2 hsb) ?_);rintro r rfl;refine⟨rfl,?_⟩;refine Bt (h:=Aj (h:=a_ (h:=AT (?_))));refine AG ?_;exact⟨_,rfl,Cq 4 0 (by simp[Ai,Ac,Af,Bi B3,C5,WA,IB,CX,Aq])⟩
 rintro s rfl;refine AA rfl (fun hb8=>?_) (fun hb8=>?_)
 ·have hc8:=bp hb8;have k5:DJ w f.dir 2=false∨DJ w g.dir 2=false:=by simpa using hc8
  refine w_ (a_ (h:=e_ (A4 (Ab (A9 (?_))))));refine Dm (r:= .v (.int .i64 (Dv w).2)) none (h5:=(by rw[hren,if_neg k1,if_neg k2,if_neg k3,if_neg k4,if_pos k5];exact AM _)) (h6:=⟨rfl,rfl,?_⟩);rw[hren,if_neg k1,if_neg k2,if_neg k3,if_neg k4,if_pos k5];rfl
 have hc8:=bp hb8;have k5:¬(DJ w f.dir 2=false∨DJ w g.dir 2=false):=by simpa using hc8
 refine BH (Ay (t_ (?_)));refine BR (fun s=>s=⟨look [(0, .bp 0 0),(3, .bp 2 0),(4, .bp 3 0),(5, .bp 4 0)],⟨[WA w cap,IB w cap,Aq f,Aq g,A7 x],[]⟩⟩) ?_ ?_
 ·skip
  refine Bo ([(0,WA w cap),(1,IB w cap),(2,Aq f),(3,Aq g)]) 17 (h:=AQ 0 (h:=BL 1 (h:=AJ 2 (h:=AJ 3 (h:=AJ 4 (h:=AF 5 (h:=AJ 6 (h:=AF 7 (h:=AJ 8 (h:=AF 9 (h:=?_)))))))))));refine Fa 10 14 rfl rfl ?_ ?_
  ·refine AN (hl1) ?_;rintro r rfl;refine o_ (h:=?_);refine AQ 11 (h:=BU 12 (h:=BU 13 (h:=?_)));refine c_ 14 rfl (Cn (by repeat constructor) ?_);refine o_ (h:=?_);refine BA 15 rfl (B1 rfl rfl rfl rfl rfl rfl (by repeat constructor) (by repeat constructor) ?_);refine o_ (h:=BO 16 (h:=z_ (h:=?_)));refine AG ?_;exact⟨_,rfl,DA 5 0⟩
  refine Cn (by repeat constructor) ?_;refine o_ (h:=?_);refine c_ 10 rfl (AN (hl1) ?_);rintro r rfl;refine o_ (h:=AQ 11 (h:=BU 12 (h:=BU 13 (h:=?_))));refine BA 15 rfl (B1 rfl rfl rfl rfl rfl rfl (by repeat constructor) (by repeat constructor) ?_);refine o_ (h:=BO 16 (h:=z_ (h:=?_)));refine AG ?_;exact⟨_,rfl,DA 5 0⟩
 rintro s rfl;refine q_ (?_);refine BR (fun s=>s=⟨look [(0, .bp 0 0),(3, .bp 2 0),(4, .bp 3 0),(5, .bp 4 0),(7, .bp 5 0),(8, .v (.int .i64 e2))],⟨[WA w cap,IB w cap,Aq f,Aq g,A7 x,A7 y],[]⟩⟩) ?_ ?_
 ·skip
  refine Bo ([(0,WA w cap),(1,IB w cap),(2,Aq f),(3,Aq g),(4,A7 x)]) 17 (h:=AQ 0 (h:=BL 1 (h:=AJ 2 (h:=AJ 3 (h:=AJ 4 (h:=AF 5 (h:=AJ 6 (h:=AF 7 (h:=AJ 8 (h:=AF 9 (h:=?_)))))))))));refine Fa 10 14 rfl rfl ?_ ?_
  ·refine AN (hl2) ?_;rintro r rfl;refine o_ (h:=?_);refine AQ 11 (h:=BU 12 (h:=BU 13 (h:=?_)));refine c_ 14 rfl (Cn (by repeat constructor) ?_);refine o_ (h:=?_);refine BA 15 rfl (B1 rfl rfl rfl rfl rfl rfl (by repeat constructor) (by repeat constructor) ?_);refine o_ (h:=BO 16 (h:=z_ (h:=?_)));refine AG ?_;exact⟨_,rfl,DA 6 0⟩
  refine Cn (by repeat constructor) ?_;refine o_ (h:=?_);refine c_ 10 rfl (AN (hl2) ?_);rintro r rfl;refine o_ (h:=AQ 11 (h:=BU 12 (h:=BU 13 (h:=?_))));refine BA 15 rfl (B1 rfl rfl rfl rfl rfl rfl (by repeat constructor) (by repeat constructor) ?_);refine o_ (h:=BO 16 (h:=z_ (h:=?_)));refine AG ?_;exact⟨_,rfl,DA 6 0⟩
 rintro s rfl;refine BR (fun s=>s=⟨look [(0, .bp 0 0),(3, .bp 2 0),(4, .bp 3 0),(5, .bp 4 0),(113, .v (.bool (decide (e2=0)&& !decide ((y.1,y.2)=(x.1,x.2))&&Al w.s.spc.files y&&Gl w y)))],⟨[WA w cap,IB w cap,Aq f,Aq g,A7 x],[]⟩⟩) ?_ ?_
 ·skip
  refine Dp 22 (h:=AQ 0 (h:=GU 1 (h:=AQ 2 (h:=?_))));refine Gu (j:=2) rfl (fun hb9=>?_) (fun hb9=>?_)
  ·have hc9:=bp hb9;refine AF 3 (h:=AF 4 (h:=?_));refine F3 (i:=5) rfl (EQ rfl rfl (by repeat constructor) (by repeat constructor) (fun w=>Nu _ _ _ _ w) (by kernel_rfl) ⟨rfl,rfl⟩) ?_;refine H4 6 (h:=AQ 7 (h:=?_));refine Gu (j:=7) rfl (fun hb10=>?_) (fun hb10=>?_)
   ·have hc10:=bp hb10;refine AQ 8 (h:=BL 9 (h:=AJ 10 (h:=AJ 11 (h:=AJ 12 (h:=AF 13 (h:=AF 14 (h:=?_)))))));refine c_ 15 rfl (AN (GX w.s.spc.files y hsb.files) ?_);rintro r rfl;refine o_ (h:=H4 16 (h:=AQ 17 (h:=?_)));refine Gu (j:=17) rfl (fun hb11=>?_) (fun hb11=>?_)
    ·have hc11:=bp hb11;refine AQ 18 (h:=AF 19 (h:=?_));refine c_ 20 rfl (EJ 1 rfl (.cons _ _ _ _ _ rfl (LeA.of_eq rfl) (.cons _ _ _ _ _ rfl (AM _) .nil)) (aQ w .any y hsb hps) ?_);rintro r rfl;refine⟨rfl,?_⟩;refine o_ (h:=H4 21 (h:=z_ (h:=?_)));refine AG ?_;exact⟨_,rfl,B4 5 0 rfl rfl rfl (by simp[Ai,Ac,Af,Bi B3,C5,WA,IB,CX,Aq,A7]) (by repeat (first|exact Sub.nil|refine B9 rfl rfl ?_|refine BD ?_|refine BE rfl ?_|refine BF rfl ?_|(apply Sub.of;(focus exact rfl);(focus exact LeA.of_eq (vb (by first|(simp[*];done)|(simp only[*,decide_true,decide_false,Bool.not_true,Bool.not_false,Bool.true_and,Bool.and_true,Bool.false_and,Bool.and_false]))));(focus exact rfl))))⟩
    have hc11:=bp hb11;refine Be 18 (h:=Be 19 (h:=Be 20 (h:=FP 21 (h:=z_ (h:=?_)))));refine AG ?_;exact⟨_,rfl,B4 5 0 rfl rfl rfl (by simp[Ai,Ac,Af,Bi B3,C5,WA,IB,CX,Aq,A7]) (by repeat (first|exact Sub.nil|refine B9 rfl rfl ?_|refine BD ?_|refine BE rfl ?_|refine BF rfl ?_|(apply Sub.of;(focus exact rfl);(focus exact LeA.of_eq (vb (by first|(simp[*];done)|(simp only[*,decide_true,decide_false,Bool.not_true,Bool.not_false,Bool.true_and,Bool.and_true,Bool.false_and,Bool.and_false]))));(focus exact rfl))))⟩
   have hc10:=bp hb10;refine Be 8 (h:=Be 9 (h:=Be 10 (h:=Be 11 (h:=Be 12 (h:=Be 13 (h:=Be 14 (h:=Be 15 (h:=FP 16 (h:=AQ 17 (h:=Be 18 (h:=Be 19 (h:=Be 20 (h:=FP 21 (h:=z_ (h:=?_)))))))))))))));refine AG ?_;exact⟨_,rfl,B4 5 0 rfl rfl rfl (by simp[Ai,Ac,Af,Bi B3,C5,WA,IB,CX,Aq,A7]) (by repeat (first|exact Sub.nil|refine B9 rfl rfl ?_|refine BD ?_|refine BE rfl ?_|refine BF rfl ?_|(apply Sub.of;(focus exact rfl);(focus exact LeA.of_eq (vb (by first|(simp[*];done)|(simp only[*,decide_true,decide_false,Bool.not_true,Bool.not_false,Bool.true_and,Bool.and_true,Bool.false_and,Bool.and_false]))));(focus exact rfl))))⟩
  have hc9:=bp hb9;refine Be 3 (h:=Be 4 (h:=Be 5 (h:=FP 6 (h:=AQ 7 (h:=Be 8 (h:=Be 9 (h:=Be 10 (h:=Be 11 (h:=Be 12 (h:=Be 13 (h:=Be 14 (h:=Be 15 (h:=FP 16 (h:=AQ 17 (h:=Be 18 (h:=Be 19 (h:=Be 20 (h:=FP 21 (h:=z_ (h:=?_))))))))))))))))))));refine AG ?_;exact⟨_,rfl,B4 5 0 rfl rfl rfl (by simp[Ai,Ac,Af,Bi B3,C5,WA,IB,CX,Aq,A7]) (by repeat (first|exact Sub.nil|refine B9 rfl rfl ?_|refine BD ?_|refine BE rfl ?_|refine BF rfl ?_|(apply Sub.of;(focus exact rfl);(focus exact LeA.of_eq (vb (by first|(simp[*];done)|(simp only[*,decide_true,decide_false,Bool.not_true,Bool.not_false,Bool.true_and,Bool.and_true,Bool.false_and,Bool.and_false]))));(focus exact rfl))))⟩
 rintro s rfl;refine AA rfl (fun hb12=>?_) (fun hb12=>?_)
 ·have hc12:=bp hb12;have k6:=Tp.1 hb12;refine w_ (a_ (h:=e_ (A4 (A9 (?_)))));refine Dm (r:= .v (.int .i64 (Dv w).2)) none (h5:=(by rw[hren,if_neg k1,if_neg k2,if_neg k3,if_neg k4,if_neg k5,if_pos k6];exact AM _)) (h6:=⟨rfl,rfl,?_⟩);rw[hren,if_neg k1,if_neg k2,if_neg k3,if_neg k4,if_neg k5,if_pos k6];rfl
 have hc12:=bp hb12;have k6:¬(e2=0∧y≠x∧Al w.s.spc.files y=true∧Gl w y=true):=fun h=>by rw[Tp.2 h]at hb12;cases hb12
 refine AO (q_ (Bo ([(0,WA w cap),(1,IB w cap),(2,Aq f),(3,Aq g)]) 19 (h:=AQ 0 (h:=AQ 1 (h:=BL 2 (h:=AJ 3 (h:=AJ 4 (h:=AJ 5 (h:=AF 6 (h:=AJ 7 (h:=AF 8 (h:=AJ 9 (h:=AF 10 (h:=AJ 11 (h:=AF 12 (h:=AJ 13 (h:=AF 14 (h:=?_))))))))))))))))));refine c_ 15 rfl (AN (hcall) ?_);rintro r rfl;refine o_ (h:=BU 16 (h:=BU 17 (h:=BU 18 (h:=?_))));refine c_ 19 rfl (DN [0,1] rfl (.cons _ _ _ _ _ rfl (AM _) (.cons _ _ _ _ _ rfl (AM _) (.cons _ _ _ _ _ rfl (AM _) (.cons _ _ _ _ _ rfl (AM _) .nil)))) (by decide) (.cons _ _ _ _ _ rfl rfl (.cons _ _ _ _ _ rfl (FU B3 _ _ _) .nil)) (Tj w cap R.1 R.2.1 R.2.2) ?_);rintro r bc tc ⟨rfl,rfl,rfl⟩;refine⟨rfl,_,Gp rfl (Bu w R).1 cap,?_⟩;refine o_ (h:=?_);refine c_ 20 rfl (Fr rfl ?_);refine o_ (h:=z_ (h:=t_ (q_ (?_))));refine BR (fun s=>s=⟨look [(0, .bp 0 0),(5, .bp 4 0),(9, .v (.int .i64 R.2.2)),(144, .v (.bool (decide (R.2.2=0)&&decide (0<(R.2.1.length:Int)))))],⟨[WA (Bu w R).1 cap,IB (Bu w R).1 cap,Aq f,Aq g,A7 x],[]⟩⟩) ?_ ?_
 ·skip
  refine AX (m_ (h:=Ah (h:=m_ (h:=?_))));refine Aw true rfl rfl (fun hb13=>?_) (fun hb13=>?_)
  ·have hc13:=bp hb13;have hch:(Bu w R).1.r.changes=R.2.1:=by rw[Hj hc13]
   refine m_ (h:=k_ (h:=f_ (h:=f_ (h:=l_ (h:=n_ (h:=Co (h:=AY (h:=AT (?_)))))))));refine AG ?_;exact⟨_,rfl,Cq 5 0 (by simp[Ai,Ac,Af,Bi B3,C5,WA,IB,CX,Aq,A7])⟩
  have hc13:=bp hb13;refine A3 (h:=A3 (h:=A3 (h:=A3 (h:=A3 (h:=A3 (h:=A3 (h:=Aj (h:=AT (?_)))))))));refine AG ?_;exact⟨_,rfl,Cq 5 0 (by simp[Ai,Ac,Af,Bi B3,C5,WA,IB,CX,Aq,A7])⟩
 rintro s rfl;refine AA rfl (fun hb14=>?_) (fun hb14=>?_)
 ·have hc14:=bp hb14;have h0:R.2.2=0:=of_decide_eq_true ((Bool.and_eq_true _ _).mp hb14).1;have hfb:FlsB (Es (Bu w R).1 0 3).s.spc.files:=by rw[Hj h0];exact(hok h0).1.b
  have hit:(Bu w R).1.r.items=w.r.items:=by rw[Hj h0]
  have hxa:(Bu w R).1.r.items[0]?=some x0:=by rw[hit];exact hx0
  have hil1:0<(Bu w R).1.r.items.length:=by rw[hit];exact hil
  have hxr:(Es (Bu w R).1 0 3).r.items[1]?=some x1:=by
   show((Bu w R).1.r.items.modify 0 _)[1]?=_;rw[hit,List.getElem?_modify];simp[hx1]
  refine BR (fun s=>s=⟨look [(0, .bp 0 0),(5, .bp 4 0),(9, .v (.int .i64 R.2.2))],⟨[WA (Es (Bu w R).1 0 3) cap,IB (Es (Bu w R).1 0 3) cap,Aq f,Aq g,A7 x],[]⟩⟩) ?_ ?_
  ·skip
   refine AX (m_ (h:=k_ (h:=f_ (h:=f_ (h:=l_ (h:=?_))))));refine A8 rfl (D6 (m:=0) rfl rfl rfl hil1 ?_);refine f_ (h:=?_);refine KX (B1 rfl rfl rfl rfl rfl rfl (Hh B3 (x':={x0 with role:=3}) hxa (by repeat constructor) (List.cons_ne_nil _ _)) (by repeat constructor) ?_);refine AT (?_);refine AG ?_;refine⟨_,rfl,?_⟩;rw[b8,b9 hxa];exact DA 5 0
  rintro s rfl;refine AX (m_ (h:=l_ (h:=?_)));refine A8 rfl (DN [0,1] rfl (.cons _ _ _ _ _ rfl (AM _) (.cons _ _ _ _ _ rfl (AM _) (.cons _ _ _ _ _ rfl (AM _) .nil))) (by decide) (.cons _ _ _ _ _ rfl rfl (.cons _ _ _ _ _ rfl (FU B3 _ _ _) .nil)) (To (Es (Bu w R).1 0 3) cap 1 x x1 hfb hxr) ?_);rintro r bc tc ⟨rfl,rfl,rfl⟩;refine⟨rfl,_,Gp rfl (GF (Es (Bu w R).1 0 3) 1 x) cap,?_⟩;refine e_ (w_ (m_ (h:=a_ (h:=e_ (A4 (?_))))));refine Dm (r:= .v (.int .i64 (Dv w).2)) none (h5:=(by rw[hren,if_neg k1,if_neg k2,if_neg k3,if_neg k4,if_neg k5,if_neg k6,Tq hb14];exact AM _)) (h6:=⟨rfl,rfl,?_⟩);rw[hren,if_neg k1,if_neg k2,if_neg k3,if_neg k4,if_neg k5,if_neg k6,Tq hb14];rfl
 have hc14:=bp hb14;refine AO (w_ (m_ (h:=a_ (h:=e_ (A4 (?_))))));refine Dm (r:= .v (.int .i64 (Dv w).2)) none (h5:=(by rw[hren,if_neg k1,if_neg k2,if_neg k3,if_neg k4,if_neg k5,if_neg k6,Tr hb14];exact AM _)) (h6:=⟨rfl,rfl,?_⟩);rw[hren,if_neg k1,if_neg k2,if_neg k3,if_neg k4,if_neg k5,if_neg k6,Tr hb14];rfl
end
end Go.Proofs.YtobclmbkdhbnpaaGreatDoor
