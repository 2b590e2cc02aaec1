/-
  Part 14 of the proof of WatchTreesP: what the statement's proof uses of the texts in wip/tpl.
-/
import Derived.Test.YtbglbmnhgbgelaaGreatDoorQg13
set_option maxRecDepth 10000
set_option maxHeartbeats 4000000
set_option linter.unusedVariables false
set_option linter.unusedSimpArgs false
namespace Go.Proofs.YtbglbmnhgbgelaaGreatDoor
open Go.RowKit
theorem Vc:∀(l:List Dsc) (k:Nat),EL k l≤k+l.length
 |[],k=>Nat.le_refl _
 |d::l,k=>by
   unfold EL
   split
   ·have:=Vc l (k+1);simp only[List.length_cons];omega
   omega
theorem fR{α:Type}{l:List α}{j:Nat}{x:α}(h:l[j]?=some x):l.drop j=x::l.drop (j+1):=by
 obtain⟨hl,rfl⟩:=Ar.1 h
 exact List.drop_eq_getElem_cons hl
def Vd(p:Prc)(x:AV):List AV:=[.v (.int .i64 p.pid), .v (.int .i64 p.ppid), .v (.int .i64 p.uid), .v (.int .i64 p.euid), .v (.int .i64 p.gid), .v (.int .i64 p.egid), .v (.int .i64 p.auid), .v (.int .i64 p.ses), .v (.int .i64 p.cwd.1), .v (.int .i64 p.cwd.2), .v (.string p.comm), .v (.string p.exe),x, .v (.bool p.audited)]
theorem Ve(p:Prc)(rows:List (List AV))(g:Option Nat)(l:List Dsc)(h:rows=l.map FF):LeA (.agg (Vd p (.sl 4 rows g))) (.agg (Av {p with opens:=l})):=by
 subst h
 unfold Vd Av
 repeat (first|exact LeA.refl _|exact LeA.tok _ _ _|refine LeA.agg ?_|exact LeL.nil|refine LeL.cons ?_ ?_)
def CV(R:Tab×Int):AV:= .tup [.agg (At R.1), .v (.int .i64 R.2)]
def JH(R:Tab×Int×Int):AV:= .tup [.agg (At R.1), .v (.int .i64 R.2.1), .v (.int .i64 R.2.2)]
theorem EN(e:Int):LeA (.tup [.agg Ct, .v (.int .i64 e)]) (CV (DH,e)):=(by repeat (first|exact LeA.refl _|exact LeA.nil _|exact LeL.refl _|refine LeA.agg ?_|refine LeA.tup ?_|exact LeL.nil|refine LeL.cons ?_ ?_|exact LeA.any _))
theorem N2(n e:Int):LeA (.tup [.agg Ct, .v (.int .i64 n), .v (.int .i64 e)]) (JH (DH,n,e)):=(by repeat (first|exact LeA.refl _|exact LeA.nil _|exact LeL.refl _|refine LeA.agg ?_|refine LeA.tup ?_|exact LeL.nil|refine LeL.cons ?_ ?_|exact LeA.any _))
def Oc(R:Syst×Int):AV:= .tup [.agg (Bg R.1), .v (.int .i64 R.2)]
def CC(w:Wrk):AV:= .sl 8 (w.found.map Ak) none
section
theorem Vf(t:Tab)(pid:Int)(a:A9)(flags:Int)(ht:TabB t):AFn Tryz.prog 151 [.agg (At t), .v (.int .i64 pid), .agg (AA a), .v (.int .i64 flags)] (fun r=>r=JH (EW t pid a flags)):=by
 have h8:=Fi ht pid
 have hol:((AU t pid).opens.map FF).length=(AU t pid).opens.length:=List.length_map _
 have hfl:EL 0 (AU t pid).opens≤(AU t pid).opens.length:=by have:=Vc (AU t pid).opens 0;omega
 refine enter Tryz.func151 rfl rfl rfl rfl rfl 0 rfl ?_
 refine w_ (b_ (h:=b_ (h:=AW (h:=a_ (h:=a_ (h:=e_ (w_ (l_ (h:=m_ (h:=?_))))))))))
 refine A4 rfl (AK (Fj t pid ht) ?_)
 rintro r rfl
 refine m_ (h:=x_ (h:=x_ (h:=AW (h:=s_ (h:=a_ (h:=e_ (q_ (w_ (m_ (h:=BA (h:=e_ (?_))))))))))))
 refine A8 rfl (fun hb1=>?_) (fun hb1=>?_)
 ·have hc1:=bp hb1
  refine w_ (AT (h:=s_ (h:=a_ (h:=a_ (h:=e_ (A6 (A7 (?_))))))))
  refine Aj (r:=JH (EW t pid a flags)) none (h5:=?_) (h6:=⟨rfl,rfl,rfl⟩)
  rw[EW,if_pos (by simpa using hc1)]
  exact N2 _ _
 have hc1:=bp hb1
 have hhas:Bz t pid=true:=by simpa using hc1
 refine AG (q_ (w_ (f_ (h:=l_ (h:=n_ (h:=Fu (h:=e_ (?_))))))))
 refine A8 rfl (fun hb2=>?_) (fun hb2=>?_)
 ·have hc2:=bp hb2
  refine w_ (AT (h:=s_ (h:=a_ (h:=a_ (h:=e_ (A6 (A7 (?_))))))))
  refine Aj (r:=JH (EW t pid a flags)) none (h5:=?_) (h6:=⟨rfl,rfl,rfl⟩)
  rw[EW,if_neg (by simp[hhas]),if_pos (by omega)]
  exact N2 _ _
 have hc2:=bp hb2
 refine AG (w_ (a_ (h:=e_ (?_))))
 refine B5 (fun s=>s=⟨look [(3, .v (.int .i64 flags)),(4, .bp 0 0),(6, .bp 1 0),(8, .bp 2 0),(11, .bp 3 0),(13, .v (.int .i64 (EL 0 (AU t pid).opens:Nat)))],⟨[At t,AA a,Ct,Av (AU t pid)],[]⟩⟩) ?_ ?_
 ·skip
  refine Ao (?_)
  refine Ba (fun m s=>∃j:Nat,j≤(AU t pid).opens.length∧m=(AU t pid).opens.length - j∧EL 0 (AU t pid).opens=EL j ((AU t pid).opens.drop j)∧s=⟨look [(3, .v (.int .i64 flags)),(4, .bp 0 0),(6, .bp 1 0),(8, .bp 2 0),(11, .bp 3 0),(13, .v (.int .i64 (j:Int)))],⟨[At t,AA a,Ct,Av (AU t pid)],[]⟩⟩) ((AU t pid).opens.length) ((wk 4 0)) (⟨0,Nat.zero_le _,rfl,rfl,rfl⟩) ?_
  rintro m s ⟨j,hj,rfl,hfd,rfl⟩
  refine q_ (w_ (m_ (h:=f_ (h:=l_ (h:=n_ (h:=BJ (h:=m_ (h:=?_))))))))
  refine Ax true rfl rfl (fun hb3=>?_) (fun hb3=>?_)
  ·have hc3:=bp hb3
   obtain⟨hlt,d,hy,hrow, -⟩:=CW FF hc3
   have hdr:=fR hy
   refine f_ (h:=l_ (h:=m_ (h:=i_ (h:=f_ (h:=l_ (h:=m_ (h:=AQ (h:=Af (h:=e_ (?_))))))))))
   refine A8 rfl (fun hb4=>?_) (fun hb4=>?_)
   ·have hc4:=bp hb4
    have heq:d.fd=(j:Int):=by simpa using hc4
    refine AG (Ao (AP (m_ (h:=B8 (h:=a_ (h:=AO (Ay (?_))))))))
    refine AD ?_
    refine⟨_,_,?_,⟨j+1,by omega,rfl,by rw[hfd,hdr,EL,if_pos heq],rfl⟩,(wk 4 0)⟩
    omega
   have hc4:=bp hb4
   have hend:EL 0 (AU t pid).opens=j:=by rw[hfd,hdr,EL,if_neg (by simpa using hc4)]
   refine BO (Aq (Aq (BQ (?_))))
   refine AD ?_
   refine⟨_,rfl,?_⟩
   rw[hend]
   exact(wk 4 0)
  have hc3:=bp hb3
  have hend:EL 0 (AU t pid).opens=j:=by rw[hfd,Ck FF hj hc3,List.drop_length];rfl
  refine A3 (h:=A3 (h:=A3 (h:=A3 (h:=A3 (h:=A3 (h:=A3 (h:=A3 (h:=Am (h:=e_ (F6 (h:=BO (Aq (Aq (BQ (?_)))))))))))))))
  refine AD ?_
  refine⟨_,rfl,?_⟩
  rw[hend]
  exact(wk 4 0)
 rintro s rfl
 refine w_ (f_ (h:=l_ (h:=m_ (h:=?_))))
 refine A4 rfl (X9 (k:=EL 0 (AU t pid).opens) rfl rfl rfl (by omega) ?_)
 first|refine A4 rfl (E3 rfl rfl rfl (by simp;omega) (by repeat constructor) ?_)|refine A4 rfl (Hv rfl rfl (by simp;omega) (by repeat constructor) ?_)
 refine a_ (h:=e_ (w_ (m_ (h:=m_ (h:=l_ (h:=m_ (h:=AT (h:=Bm (h:=?_)))))))))
 refine A4 rfl (E3 rfl rfl rfl (by simp;omega) (by repeat constructor) ?_)
 refine a_ (h:=e_ (w_ (m_ (h:=f_ (h:=l_ (h:=m_ (h:=?_)))))))
 refine A4 rfl (PG (l:=EL 0 (AU t pid).opens) rfl rfl rfl (by omega) ?_)
 refine A4 rfl (E3 rfl rfl rfl (by simp;omega) (by repeat constructor) ?_)
 refine f_ (h:=s_ (h:=e_ (w_ (l_ (h:=?_)))))
 refine A4 rfl (EC (y:= .agg (Av {AU t pid with opens:=LL (AU t pid).opens (EL 0 (AU t pid).opens) ⟨(EL 0 (AU t pid).opens:Nat),a,flags⟩})) (Ez rfl rfl rfl ⟨rfl,rfl⟩) (Ve _ _ _ _ (by simp[LL,FF];rfl)) ?_)
 refine A4 rfl (AK (KU t {AU t pid with opens:=LL (AU t pid).opens (EL 0 (AU t pid).opens) ⟨(EL 0 (AU t pid).opens:Nat),a,flags⟩} ht (Jo hhas) (by simp[LL];omega)) ?_)
 rintro r rfl
 refine m_ (h:=s_ (h:=a_ (h:=a_ (h:=e_ (A6 (?_))))))
 refine AB ?_
 rw[EW,if_neg (by simp[hhas]),if_neg (by omega)];rfl
theorem fS(a:A9):AFn Tryz.prog 85 [.agg (AA a)] (fun r=>r= .agg (At (LH a))):=by
 refine enter Tryz.func85 rfl rfl rfl rfl rfl 0 rfl ?_
 refine w_ (b_ (h:=AW (h:=e_ (w_ (l_ (h:=?_))))))
 refine A4 rfl (EQ (y:= .agg (Av ⟨1,0,0,0,0,0,4294967295,4294967295,a,⟨#[105,110,105,116]⟩,⟨#[47,105,110,105,116]⟩,[],true⟩)) (Ca ⟨rfl,rfl⟩) ?_)
 refine Bm (h:=AT (h:=s_ (h:=e_ (A6 (?_)))))
 refine AB ?_
 rfl
theorem Vg(n:Int):AFn Tryz.prog 44 [.v (.int .i64 n)] (fun r=>r=Oc (Gd n)):=by
 refine enter Tryz.func44 rfl rfl rfl rfl rfl 0 rfl ?_
 refine w_ (AW (h:=a_ (h:=e_ (w_ (m_ (h:=?_))))))
 refine A4 rfl (AK (Xx n) ?_)
 rintro r rfl
 refine m_ (h:=x_ (h:=x_ (h:=AW (h:=s_ (h:=a_ (h:=e_ (q_ (w_ (m_ (h:=BF (h:=e_ (?_))))))))))))
 refine A8 rfl (fun hb1=>?_) (fun hb1=>?_)
 ·have hc1:=bp hb1
  refine w_ (AT (h:=m_ (h:=s_ (h:=a_ (h:=e_ (A6 (A7 (?_))))))))
  refine Aj (r:=Oc (Gd n)) none (h5:=?_) (h6:=⟨rfl,rfl,rfl⟩)
  rw[Gd,if_pos (by simpa using hc1)]
  exact(by repeat (first|exact LeA.refl _|exact LeA.nil _|exact LeL.refl _|refine LeA.agg ?_|refine LeA.tup ?_|exact LeL.nil|refine LeL.cons ?_ ?_|exact LeA.any _))
 have hc1:=bp hb1
 refine AG (q_ (BH ([(1,As (ER n).1)]) 7 (h:=AJ 0 (h:=Gm 1 (h:=Gm 2 (h:=?_))))))
 refine c_ 3 rfl (AK (fS (0,1)) ?_)
 rintro r rfl
 refine o_ (h:=Gm 4 (h:=?_))
 refine B0 5 rfl (Aw rfl rfl rfl rfl rfl rfl (by repeat constructor) (by repeat constructor) ?_)
 refine o_ (h:=BC 6 (h:=z_ (h:=t_ (A6 (?_)))))
 refine Aj (r:=Oc (Gd n)) none (h5:=?_) (h6:=⟨rfl,rfl,rfl⟩)
 rw[Gd,if_neg (by simpa using hc1)]
 exact(by repeat (first|exact LeA.refl _|exact LeA.nil _|exact LeL.refl _|refine LeA.agg ?_|refine LeA.tup ?_|exact LeL.nil|refine LeL.cons ?_ ?_|exact LeA.any _))
theorem Gg(s:Syst)(hs:SpcB s.spc)(ht:TabB s.tab):AFn Tryz.prog 64 [.agg (Bg s)] (fun r=>r= .agg (Bg s)):=by
 refine enter Tryz.func64 rfl rfl rfl rfl rfl 0 rfl ?_
 refine w_ (b_ (h:=AW (h:=e_ (q_ (BH ([(0,Bg s)]) 7 (h:=AF 0 (h:=?_)))))))
 refine AJ 1 (h:=?_)
 refine AF 3 (h:=?_)
 refine AJ 4 (h:=?_)
 refine c_ 2 rfl (AK (dG s.spc hs) ?_)
 rintro r rfl
 refine o_ (h:=?_)
 refine c_ 5 rfl (AK (V2 s.tab ht) ?_)
 rintro r rfl
 refine o_ (h:=Gm 6 (h:=?_))
 refine B0 7 rfl (Aw rfl rfl rfl rfl rfl rfl (by repeat constructor) (by repeat constructor) ?_)
 refine o_ (h:=z_ (h:=t_ (A6 (?_))))
 refine AB ?_
 rfl
theorem fT(s:Spc)(given:AE)(perm:Int)(f:Fnd)(hs:SpcB s):AFn Tryz.prog 112 [.agg (Ai s), .v (.string given), .v (.int .i64 perm), .agg (Ak f)] (fun r=>r= .agg (Bt (Mu s given perm f))):=by
 refine enter Tryz.func112 rfl rfl rfl rfl rfl 0 rfl ?_
 refine w_ (b_ (h:=b_ (h:=AW (h:=e_ (w_ (f_ (h:=l_ (h:=f_ (h:=l_ (h:=?_))))))))))
 refine A4 rfl (AK (Dk s.files f.file hs.files) ?_)
 rintro r rfl
 refine m_ (h:=x_ (h:=x_ (h:=AW (h:=s_ (h:=a_ (h:=e_ (w_ (m_ (h:=f_ (h:=l_ (h:=f_ (h:=l_ (h:=f_ (h:=l_ (h:=f_ (h:=l_ (h:=f_ (h:=l_ (h:=f_ (h:=l_ (h:=f_ (h:=l_ (h:=f_ (h:=?_))))))))))))))))))))))))
 refine l_ (h:=m_ (h:=AT (h:=s_ (h:=e_ (A6 (?_))))))
 refine AB ?_
 rfl
theorem H3(w:Wrk)(its:AV)(a:A9)(want:Int)(hs:SpcB w.s.spc):AFn Tryz.prog 149 [.fp (Cs w (CC w) its), .agg (AA a), .v (.int .i64 want)] (fun r=>r= .v (.bool (C1 w a want))):=by
 refine enter Tryz.func149 rfl rfl rfl rfl rfl 0 rfl ?_
 refine w_ (b_ (h:=a_ (h:=e_ (q_ (BH ([(0,AA a)]) 14 (h:=AN 0 (h:=B7 1 (h:=AF 2 (h:=AF 3 (h:=AF 4 (h:=AJ 5 (h:=AJ 6 (h:=?_)))))))))))))
 refine Da 7 11 rfl rfl ?_ ?_
 ·refine AK (Dk w.s.spc.files a hs.files) ?_
  rintro r rfl
  refine o_ (h:=?_)
  refine AN 8 (h:=B4 9 (h:=B4 10 (h:=?_)))
  refine c_ 11 rfl (Bx (by repeat constructor) ?_)
  refine o_ (h:=?_)
  refine B0 12 rfl (Aw rfl rfl rfl rfl rfl rfl (by repeat constructor) (by repeat constructor) ?_)
  refine o_ (h:=BC 13 (h:=z_ (h:=t_ (q_ (DT 14 (h:=AJ 0 (h:=AN 1 (h:=B7 2 (h:=AF 3 (h:=AF 4 (h:=AJ 5 (h:=AN 6 (h:=B7 7 (h:=AF 8 (h:=AF 9 (h:=AJ 10 (h:=AN 11 (h:=?_))))))))))))))))))
  refine c_ 12 rfl (AK (V5 (Aa w.s.spc.files a) w.p.euid w.p.egid want) ?_)
  rintro r rfl
  refine o_ (h:=BC 13 (h:=z_ (h:=t_ (A6 (?_)))))
  refine AB ?_
  rfl
 refine Bx (by repeat constructor) ?_
 refine o_ (h:=?_)
 refine c_ 7 rfl (AK (Dk w.s.spc.files a hs.files) ?_)
 rintro r rfl
 refine o_ (h:=AN 8 (h:=B4 9 (h:=B4 10 (h:=?_))))
 refine B0 12 rfl (Aw rfl rfl rfl rfl rfl rfl (by repeat constructor) (by repeat constructor) ?_)
 refine o_ (h:=BC 13 (h:=z_ (h:=t_ (q_ (DT 14 (h:=AJ 0 (h:=AN 1 (h:=B7 2 (h:=AF 3 (h:=AF 4 (h:=AJ 5 (h:=AN 6 (h:=B7 7 (h:=AF 8 (h:=AF 9 (h:=AJ 10 (h:=AN 11 (h:=?_))))))))))))))))))
 refine c_ 12 rfl (AK (V5 (Aa w.s.spc.files a) w.p.euid w.p.egid want) ?_)
 rintro r rfl
 refine o_ (h:=BC 13 (h:=z_ (h:=t_ (A6 (?_)))))
 refine AB ?_
 rfl
theorem Jp(w:Wrk)(its:AV)(i:Nat)(f:Fnd)(hs:SpcB w.s.spc)(hf:w.found[i]?=some f):AFn Tryz.prog 153 [.fp (Cs w (CC w) its), .v (.int .i64 (i:Int))] (fun r=>r= .v (.bool (AX w.s.spc.files f.file))):=by
 have hrow:(w.found.map Ak)[i]?=some (Ak f):=by rw[List.getElem?_map,hf];rfl
 refine enter Tryz.func153 rfl rfl rfl rfl rfl 0 rfl ?_
 refine w_ (a_ (h:=e_ (q_ (DT 16 (h:=AN 0 (h:=B7 1 (h:=AF 2 (h:=AF 3 (h:=AF 4 (h:=AJ 5 (h:=AN 6 (h:=B7 7 (h:=AF 8 (h:=AJ 9 (h:=AN 10 (h:=Di 11 (h:=AF 12 (h:=AJ 13 (h:=?_)))))))))))))))))))
 refine c_ 14 rfl (AK (GO w.s.spc.files f.file hs.files) ?_)
 rintro r rfl
 refine o_ (h:=BC 15 (h:=z_ (h:=t_ (A6 (?_)))))
 refine AB ?_
 rfl
theorem Vh(w:Wrk)(its:AV)(a:A9)(hs:SpcB w.s.spc)(hp:w.s.tab.ps.length≤1000):AFn Tryz.prog 156 [.fp (Cs w (CC w) its), .agg (AA a)] (fun r=>r= .v (.bool (Ff w a))):=by
 refine enter Tryz.func156 rfl rfl rfl rfl rfl 0 rfl ?_
 refine w_ (b_ (h:=a_ (h:=e_ (q_ (q_ (DT 7 (h:=AN 0 (h:=B7 1 (h:=AF 2 (h:=AF 3 (h:=AJ 4 (h:=AJ 5 (h:=?_)))))))))))))
 refine c_ 6 rfl (AK (Sy w.s.spc a hs) ?_)
 rintro r rfl
 refine o_ (h:=z_ (h:=t_ (?_)))
 refine A8 rfl (fun hb1=>?_) (fun hb1=>?_)
 ·have hc1:=bp hb1
  refine w_ (a_ (h:=e_ (A6 (A7 (?_)))))
  refine AB ?_
  first|(exfalso;first|contradiction|omega)|(exact vb (by simp[Ff, *]))
 have hc1:=bp hb1
 refine AG (q_ (w_ (a_ (h:=e_ (Ao (?_))))))
 refine Ba (fun m s=>∃j:Nat,j≤w.s.tab.ps.length∧m=w.s.tab.ps.length - j∧(∀i y,i<j→w.s.tab.ps[i]?=some y→decide (y.cwd=a)=false)∧s=⟨look [(0, .fp (Cs w (CC w) its)),(3, .bp 0 0),(5, .v (.int .i64 (j:Int)))],⟨[AA a],[]⟩⟩) (w.s.tab.ps.length) ((wk 1 0)) (⟨0,Nat.zero_le _,rfl,fun i y hi=>by omega,rfl⟩) ?_
 rintro m s ⟨j,hj,rfl,ha,rfl⟩
 refine q_ (w_ (m_ (h:=m_ (h:=k_ (h:=f_ (h:=f_ (h:=f_ (h:=l_ (h:=n_ (h:=BJ (h:=e_ (?_))))))))))))
 refine A8 rfl (fun hb2=>?_) (fun hb2=>?_)
 ·have hc2:=bp hb2
  obtain⟨hlt,p,hy,hrow, -⟩:=CW Av hc2
  refine AG (q_ (Ao (q_ (DT 12 (h:=AN 0 (h:=B7 1 (h:=AF 2 (h:=AF 3 (h:=AF 4 (h:=AJ 5 (h:=AN 6 (h:=Di 7 (h:=AF 8 (h:=AJ 9 (h:=AJ 10 (h:=?_))))))))))))))))
  refine FL (i:=11) rfl (F1 rfl rfl (by repeat constructor) (by repeat constructor) (fun w=>KC _ _ _ _ w) (by kernel_rfl) ⟨rfl,rfl⟩) ?_
  refine z_ (h:=t_ (?_))
  refine A8 rfl (fun hb3=>?_) (fun hb3=>?_)
  ·have hc3:=bp hb3
   have hany:(w.s.tab.ps.any fun p=>decide (p.cwd=a))=true:=KE hy (decide_eq_true hc3)
   refine w_ (a_ (h:=e_ (A6 (AR (A7 (A7 (AR (A7 (?_)))))))))
   refine AB ?_
   first|(exfalso;first|contradiction|omega)|(exact vb (by simp[Ff, *]))
  have hc3:=bp hb3
  have hne:decide (p.cwd=a)=false:=decide_eq_false hc3
  refine BB (Ay (t_ (AP (m_ (h:=B8 (h:=a_ (h:=AO (?_))))))))
  refine AD ?_
  refine⟨_,_,?_,⟨j+1,by omega,rfl,Dw hy ha hne,rfl⟩,(wk 1 0)⟩
  omega
 have hc2:=bp hb2
 have e:=Ck Av hj hc2
 have hany:(w.s.tab.ps.any fun p=>decide (p.cwd=a))=false:=Ky (by rw[←e];exact ha)
 refine BO (Aq (Aq (BQ (t_ (w_ (a_ (h:=e_ (A6 (?_)))))))))
 refine AB ?_
 first|(exfalso;first|contradiction|omega)|(exact vb (by simp[Ff, *]))
end
theorem fU{α:Type}{sz:Nat}{F:α→List AV}(hF:RowF sz F){l:List α}{j cap:Nat}{x x':α}(h:l.length=j):SetAt (LB sz F (l++[x]) cap) (0+j * sz) (F x') (LB sz F (l++[x']) cap):=by
 have h1:(l++[x])[j]?=some x:=by rw[←h];simp
 have h2:(l++[x]).set j x'=l++[x']:=by rw[←h];simp
 have key:=Uu hF (cap:=cap) (x':=x') h1
 rwa [h2]at key
theorem Vi{is:List Nat}:∀i,i<1→(0::is)[i]?=some i:=by
 intro i hi
 obtain rfl:i=0:=by omega
 rfl
theorem fV{f:Nat→Option AV}{bx:List (List AV)}{tk:List CY}{N:Dim}(i:Nat){row row':List AV}(hi:bx[i]?=some row)(hle:LeL row row'):Weak N ⟨f,⟨bx,tk⟩⟩ ⟨f,⟨bx.set i row',tk⟩⟩:=by
 rintro E a w ⟨G,h1,h2,h3⟩
 exact⟨G,h1.boxLe hi (fun us hu=>hle G w us hu),h2,h3⟩
theorem fW(w:Wrk)(rows:List (List AV))(g:Option Nat)(I:AV):LeL (Cs w (.sl 8 rows g) I) (Cs w (.sl 8 rows none) I):=by
 unfold Cs
 repeat (first|exact LeL.nil|refine LeL.cons (LeA.refl _) ?_|refine LeL.cons (LeA.tok _ _ _) ?_)
theorem BD{n m:Nat}(w:Wrk)(F I:AV):Ab n m (Cs w F I)=(Ac n m F&&Ac n m I):=by
 simp[Cs,Ab,Ac]
def Ef(l:List Fnd):AV:= .sl 8 (l.map Ak) (some 0)
def LS(w:Wrk)(e:Int)(j:Nat):List Itm×List Fnd×Int:=Hj w.s.spc w.p.cwd (Cr w.c) ((w.c.paths.zip (CB w.c)).take j) e
def LK(w:Wrk)(e:Int):List Itm×List Fnd×Int:=Hj w.s.spc w.p.cwd (Cr w.c) (w.c.paths.zip (CB w.c)) e
theorem fX{w:Wrk}{e:Int}{j:Nat}{g:AE×Int}(h:(w.c.paths.zip (CB w.c))[j]?=some g):LS w e (j+1)=FE w.s.spc w.p.cwd (Cr w.c) (LS w e j) g:=by
 unfold LS Hj
 rw[List.take_add_one,h,List.foldl_append]
 rfl
theorem fY{w:Wrk}{e:Int}{j:Nat}(h:(w.c.paths.zip (CB w.c)).length≤j):LS w e j=LK w e:=by
 unfold LS LK
 rw[List.take_of_length_le h]
def WA(w:Wrk)(cap:Nat):List AV:=Cs w (CC w) (.bs 1 0 13 w.r.items.length cap)
def IB(w:Wrk)(cap:Nat):List AV:=LB 13 Bt w.r.items cap
theorem D1{bx:List (List AV)}{a b:List AV}{rest:List (List AV)}(hb:bx=a::b::rest)(w:Wrk)(cap:Nat):Back bx [0,1] [WA w cap,IB w cap] (WA w cap::IB w cap::rest):=by
 subst hb
 have:=My (bx:=a::b::rest) (is:=[0,1]) (bc:=[WA w cap,IB w cap]) (by simp) (by simp) (by simp)
 have e1:DG (DZ [0,1] (a::b::rest).length) (WA w cap)=WA w cap:=rfl
 have e2:DG (DZ [0,1] (a::b::rest).length) (IB w cap)=IB w cap:=Cg B1 _ _ _
 have hb:DA (a::b::rest) (DZ [0,1] (a::b::rest).length) [0,1] [WA w cap,IB w cap]=WA w cap::IB w cap::rest:=by
  unfold DA
  rw[e1]
  unfold DA
  rw[e2]
  simp[DA]
 rw[hb]at this
 exact this
section
theorem Vj(w:Wrk)(e:Int)(hv:SpcV w.s.spc)(hm:w.s.spc.mounts.length≤1000)(hp:w.c.paths.length=(CB w.c).length)(hpl:w.c.paths.length≤1000)(h0:0<w.c.paths.length)(hps:∀p∈w.c.paths,p.size≤100000):
    ACall Tryz.prog 66 [.bp 0 0, .v (.int .i64 e)] [Cs w (.v (.slice none 0 0)) (.v (.slice none 0 0))] (fun r b t=>t=[]∧∃cap,(LK w e).1.length≤cap∧r= .v (.int .i64 (LK w e).2.2)∧b=[Cs w (.sl 8 ((LK w e).2.1.map Ak) none) (.bs 1 0 13 (LK w e).1.length cap),LB 13 Bt (LK w e).1 cap]):=by
 have hsb:=hv.b hm
 have hsn:=hv.n hm
 refine enter Tryz.func66 rfl rfl rfl rfl rfl 2 rfl ?_
 refine w_ (a_ (h:=e_ (w_ (m_ (h:=k_ (h:=f_ (h:=l_ (h:=?_))))))))
 refine A4 rfl (AK (V8 w.c) ?_)
 rintro r rfl
 refine a_ (h:=e_ (?_))
 refine B5 (fun s=>∃cap,(LK w e).1.length≤cap∧s=⟨look [(1, .v (.int .i64 (LK w e).2.2))],⟨[Cs w (.sl 8 ((LK w e).2.1.map Ak) none) (.bs 1 0 13 (LK w e).1.length cap),LB 13 Bt (LK w e).1 cap],[]⟩⟩) ?_ ?_
 ·skip
  refine w_ (a_ (h:=e_ (Ao (?_))))
  refine Kr 0 26 113 8 rfl rfl (by repeat constructor) (by repeat constructor) (by repeat constructor) ?_
  refine Ba (fun m s=>∃(j:Nat) (X:List Itm×List Fnd×Int) (Y:AV) (Z:List (List AV)),j≤w.c.paths.length∧m=w.c.paths.length - j∧LS w e j=X∧X.1.length=j∧X.2.1.length=j∧((Y= .v (.slice none 0 0)∧Z=[]∧X.1=[])∨∃cap,X.1.length≤cap∧Y= .bs 1 0 13 X.1.length cap∧Z=[LB 13 Bt X.1 cap])∧s=⟨look [(0, .bp 0 0),(1, .v (.int .i64 X.2.2)),(5, .sl 1 ((CB w.c).map C5) none),(6, .v (.int .i64 (j:Int)))],⟨Cs w (Ef X.2.1) Y::Z,[(113,8,X.2.1.map Ak)]⟩⟩) (w.c.paths.length) ((wk 1 1)) (⟨0,([],[],e),_,_,Nat.zero_le _,rfl,rfl,rfl,rfl, .inl ⟨rfl,rfl,rfl⟩,rfl⟩) ?_
  rintro m s ⟨j,X,Y,Z,hj,rfl,hX,hl1,hl2,hYZ,rfl⟩
  refine q_ (w_ (m_ (h:=m_ (h:=k_ (h:=f_ (h:=f_ (h:=l_ (h:=n_ (h:=BJ (h:=e_ (?_)))))))))))
  refine A8 rfl (fun hb1=>?_) (fun hb1=>?_)
  ·have hc1:=bp hb1
   obtain⟨hlt,y,hy,hrow, -⟩:=CW D5 hc1
   obtain⟨pj,hpj⟩:∃z,(CB w.c)[j]?=some z:=⟨_,B3 (by omega)⟩
   have hrow2:((CB w.c).map C5)[j]?=some (C5 pj):=by rw[List.getElem?_map,hpj];rfl
   have hz:(w.c.paths.zip (CB w.c))[j]?=some (y,pj):=List.getElem?_zip_eq_some.2 ⟨hy,hpj⟩
   have hk:=fX (e:=e) hz
   rw[hX]at hk
   have hys:=hps y (Au hy)
   refine AG (q_ (Ao (?_)))
   refine B5 (fun s=>∃cap,X.1.length+1≤cap∧s=⟨look [(0, .bp 0 0),(1, .v (.int .i64 X.2.2)),(5, .sl 1 ((CB w.c).map C5) none),(6, .v (.int .i64 (j:Int)))],⟨[Cs w (Ef X.2.1) (.bs 1 0 13 (X.1.length+1) cap),LB 13 Bt (X.1++[Fe y pj]) cap],[(113,8,X.2.1.map Ak)]⟩⟩) ?_ ?_
   ·rcases hYZ with⟨rfl,rfl,hX0⟩|⟨cap,hcp,rfl,rfl⟩
    ·skip
     refine BH ([(0,Cs w (Ef X.2.1) (.v (.slice none 0 0)))]) 24 (h:=AN 0 (h:=AN 1 (h:=B7 2 (h:=AF 3 (h:=AF 4 (h:=AJ 5 (h:=AN 6 (h:=B7 7 (h:=AF 8 (h:=AF 9 (h:=AJ 10 (h:=AN 11 (h:=Di 12 (h:=AJ 13 (h:=AN 14 (h:=AN 15 (h:=Di 16 (h:=AJ 17 (h:=?_)))))))))))))))))))
     refine Bj 18 rfl (fun _ hS=>EC (y:= .agg (Bt (Fe y pj))) (Ca ⟨rfl,rfl⟩) (LeA.refl _) ⟨rfl,rfl⟩) ?_
     refine GM 19 (h:=?_)
     refine c_ 20 rfl (M4 rfl rfl JA (by omega) (by omega) ?_)
     rintro cap2 k bx2 hcp hs
     rw[show CT (.agg (Bt (Fe y pj)))++List.replicate ((cap2 - 1) * 13) AV.any=LB 13 Bt [Fe y pj] cap2 from Uv B1 _ cap2]at hs
     obtain⟨rfl,rfl⟩:k=1∧bx2=[_,_]:=hs.eq
     refine o_ (h:=?_)
     refine B7 21 (h:=AF 22 (h:=AF 23 (h:=?_)))
     refine B0 24 rfl (Aw rfl rfl rfl rfl rfl rfl (by repeat constructor) (by repeat constructor) ?_)
     refine o_ (h:=z_ (h:=?_))
     refine AD ?_
     refine⟨_,⟨cap2,by rw[hX0];exact hcp,rfl⟩,?_⟩
     rw[hX0]
     exact Bc 2 1 (by simp[Ag,Ab,Ac,BZ B1,BD,Ef])
    skip
    refine BH ([(0,Cs w (Ef X.2.1) (.bs 1 0 13 X.1.length cap))]) 24 (h:=AN 0 (h:=AN 1 (h:=B7 2 (h:=AF 3 (h:=AF 4 (h:=AJ 5 (h:=AN 6 (h:=B7 7 (h:=AF 8 (h:=AF 9 (h:=AJ 10 (h:=AN 11 (h:=Di 12 (h:=AJ 13 (h:=AN 14 (h:=AN 15 (h:=Di 16 (h:=AJ 17 (h:=?_)))))))))))))))))))
    refine Bj 18 rfl (fun _ hS=>EC (y:= .agg (Bt (Fe y pj))) (Ca ⟨rfl,rfl⟩) (LeA.refl _) ⟨rfl,rfl⟩) ?_
    refine GM 19 (h:=?_)
    refine c_ 20 rfl (Ks rfl rfl rfl (by rw[Mx B1 hcp];omega) JA (by omega) (by omega) ?_ ?_)
    ·rintro hg row2 bx2 hs hb
     obtain rfl:=R7 B1 hs hg
     obtain rfl:bx2=[_,_]:=hb.one.2
     refine o_ (h:=?_)
     refine B7 21 (h:=AF 22 (h:=AF 23 (h:=?_)))
     refine B0 24 rfl (Aw rfl rfl rfl rfl rfl rfl (by repeat constructor) (by repeat constructor) ?_)
     refine o_ (h:=z_ (h:=?_))
     refine AD ?_
     exact⟨_,⟨cap,hg,rfl⟩,Bc 2 1 (by simp[Ag,Ab,Ac,BZ B1,BD,Ef])⟩
    rintro hg cap3 k bx2 hcp3 hs
    rw[show((LB 13 Bt X.1 cap).drop 0).take (X.1.length * 13)++CT (.agg (Bt (Fe y pj)))++List.replicate ((cap3 - (X.1.length+1)) * 13) AV.any=LB 13 Bt (X.1++[Fe y pj]) cap3 from R6 B1 X.1 _ cap cap3]at hs
    obtain⟨rfl,rfl⟩:k=2∧bx2=[_,_,_]:=hs.eq
    refine o_ (h:=?_)
    refine B7 21 (h:=AF 22 (h:=AF 23 (h:=?_)))
    refine B0 24 rfl (Aw rfl rfl rfl rfl rfl rfl (by repeat constructor) (by repeat constructor) ?_)
    refine o_ (h:=z_ (h:=?_))
    refine AD ?_
    first|exact⟨_,⟨cap,hg,rfl⟩,Bc 2 1 (by simp[Ag,Ab,Ac,BZ B1,BD,Ef])⟩|exact⟨_,⟨cap3,hcp3,rfl⟩,E4 [0,2] Vi (by decide) (.cons _ _ _ _ _ rfl rfl (.cons _ _ _ _ _ rfl (Ge B1 _ _ _) .nil)) (by repeat (first|exact SubK.nil|refine SubK.cons _ _ _ _ rfl (LeA.refl _) ?_))⟩
   rintro s ⟨cap,hcp,rfl⟩
   refine w_ (AW (h:=e_ (?_)))
   refine B5 (fun s=>∃(it:Itm) (F:Fnd) (e2:Int),FE w.s.spc w.p.cwd (Cr w.c) X (y,pj)=(X.1++[it],X.2.1++[F],e2)∧s=⟨look [(0, .bp 0 0),(1, .v (.int .i64 e2)),(5, .sl 1 ((CB w.c).map C5) none),(6, .v (.int .i64 (j:Int))),(7, .bp 2 0)],⟨[Cs w (Ef X.2.1) (.bs 1 0 13 (X.1.length+1) cap),LB 13 Bt (X.1++[it]) cap,Ak F],[(113,8,X.2.1.map Ak)]⟩⟩) ?_ ?_
   ·skip
    refine w_ (m_ (h:=AQ (h:=e_ (?_))))
    refine A8 rfl (fun hb2=>?_) (fun hb2=>?_)
    ·have hc2:=bp hb2
     have he0:X.2.2=0:=by simpa using hc2
     refine q_ (BH ([(0,Cs w (Ef X.2.1) (.bs 1 0 13 (X.1.length+1) cap)),(1,LB 13 Bt (X.1++[Fe y pj]) cap)]) 29 (h:=AN 0 (h:=B7 1 (h:=AF 2 (h:=AF 3 (h:=AJ 4 (h:=AN 5 (h:=B7 6 (h:=AF 7 (h:=AF 8 (h:=AJ 9 (h:=AN 10 (h:=B7 11 (h:=AF 12 (h:=AF 13 (h:=AJ 14 (h:=AN 15 (h:=Di 16 (h:=AJ 17 (h:=AN 18 (h:=B7 19 (h:=AF 20 (h:=AJ 21 (h:=?_))))))))))))))))))))))))
     refine c_ 22 rfl (AK (cL w.c) ?_)
     rintro r rfl
     refine o_ (h:=?_)
     refine c_ 23 rfl (AK (Vb w.s.spc w.p.cwd y (Cr w.c) hsn hv hys) ?_)
     rintro r rfl
     refine o_ (h:=AN 24 (h:=B4 25 (h:=B4 26 (h:=?_))))
     refine B0 27 rfl (Aw rfl rfl rfl rfl rfl rfl (by repeat constructor) (by repeat constructor) ?_)
     refine o_ (h:=BC 28 (h:=z_ (h:=t_ (w_ (m_ (h:=AQ (h:=e_ (?_))))))))
     refine A8 rfl (fun hb3=>?_) (fun hb3=>?_)
     ·have hc3:=bp hb3
      have hf0:(Bh w.s.spc w.p.cwd y (Cr w.c)).2=0:=by simpa using hc3
      refine BH ([(0,Cs w (Ef X.2.1) (.bs 1 0 13 (X.1.length+1) cap)),(1,LB 13 Bt (X.1++[Fe y pj]) cap),(2,Ak (Bh w.s.spc w.p.cwd y (Cr w.c)).1)]) 26 (h:=AN 0 (h:=B7 1 (h:=AF 2 (h:=AF 3 (h:=AJ 4 (h:=AN 5 (h:=AN 6 (h:=B7 7 (h:=AF 8 (h:=AF 9 (h:=AJ 10 (h:=AN 11 (h:=B7 12 (h:=AF 13 (h:=AF 14 (h:=AJ 15 (h:=AN 16 (h:=Di 17 (h:=AJ 18 (h:=AN 19 (h:=AN 20 (h:=Di 21 (h:=AJ 22 (h:=?_))))))))))))))))))))))))
      refine AJ 23 (h:=?_)
      refine c_ 24 rfl (AK (fT w.s.spc y pj (Bh w.s.spc w.p.cwd y (Cr w.c)).1 hsb) ?_)
      rintro r rfl
      refine o_ (h:=?_)
      refine Bj 25 rfl (fun _ hS=>DF (m:=j) rfl rfl rfl (by omega) ⟨rfl,rfl⟩) ?_
      refine B0 26 rfl (Aw rfl rfl rfl rfl rfl rfl (fU B1 hl1) (by repeat constructor) ?_)
      refine o_ (h:=z_ (h:=?_))
      refine AD ?_
      exact⟨_,⟨Mu w.s.spc y pj (Bh w.s.spc w.p.cwd y (Cr w.c)).1,(Bh w.s.spc w.p.cwd y (Cr w.c)).1,(Bh w.s.spc w.p.cwd y (Cr w.c)).2,(by rw[FE,if_pos he0,if_pos hf0,hf0]),rfl⟩,Bc 3 1 (by simp[Ag,Ab,Ac,BZ B1,BD,Ef,Ak])⟩
     have hc3:=bp hb3
     have hf0:¬(Bh w.s.spc w.p.cwd y (Cr w.c)).2=0:=by simpa using hc3
     refine BB (?_)
     refine AD ?_
     first|exact⟨_,⟨Mu w.s.spc y pj (Bh w.s.spc w.p.cwd y (Cr w.c)).1,(Bh w.s.spc w.p.cwd y (Cr w.c)).1,(Bh w.s.spc w.p.cwd y (Cr w.c)).2,(by rw[FE,if_pos he0,if_pos hf0,hf0]),rfl⟩,Bc 3 1 (by simp[Ag,Ab,Ac,BZ B1,BD,Ef,Ak])⟩|exact⟨_,⟨Fe y pj,(Bh w.s.spc w.p.cwd y (Cr w.c)).1,(Bh w.s.spc w.p.cwd y (Cr w.c)).2,(by rw[FE,if_pos he0,if_neg hf0]),rfl⟩,Bc 3 1 (by simp[Ag,Ab,Ac,BZ B1,BD,Ef,Ak])⟩
    have hc2:=bp hb2
    have he0:¬X.2.2=0:=by simpa using hc2
    refine BB (?_)
    refine AD ?_
    first|exact⟨_,⟨Mu w.s.spc y pj (Bh w.s.spc w.p.cwd y (Cr w.c)).1,(Bh w.s.spc w.p.cwd y (Cr w.c)).1,(Bh w.s.spc w.p.cwd y (Cr w.c)).2,(by rw[FE,if_pos he0,if_pos hf0,hf0]),rfl⟩,Bc 3 1 (by simp[Ag,Ab,Ac,BZ B1,BD,Ef,Ak])⟩|exact⟨_,⟨Fe y pj,(Bh w.s.spc w.p.cwd y (Cr w.c)).1,(Bh w.s.spc w.p.cwd y (Cr w.c)).2,(by rw[FE,if_pos he0,if_neg hf0]),rfl⟩,Bc 3 1 (by simp[Ag,Ab,Ac,BZ B1,BD,Ef,Ak])⟩|exact⟨_,⟨Fe y pj,DO,X.2.2,(by rw[FE,if_neg he0]),rfl⟩,Bc 3 1 (by simp[Ag,Ab,Ac,BZ B1,BD,Ef,Ak])⟩
   rintro s ⟨it,F,e2,hlk,rfl⟩
   refine BH ([(0,Cs w (Ef X.2.1) (.bs 1 0 13 (X.1.length+1) cap)),(2,Ak F)]) 10 (h:=AN 0 (h:=AN 1 (h:=B7 2 (h:=AF 3 (h:=AJ 4 (h:=AJ 5 (h:=GM 6 (h:=?_))))))))
   refine c_ 7 rfl (E3 rfl rfl rfl (by simp;omega) (by repeat constructor) ?_)
   refine o_ (h:=B7 8 (h:=AF 9 (h:=?_)))
   refine B0 10 rfl (Aw rfl rfl rfl rfl rfl rfl (by repeat constructor) (by repeat constructor) ?_)
   refine o_ (h:=z_ (h:=Ay (t_ (AP (m_ (h:=B8 (h:=a_ (h:=AO (?_)))))))))
   refine AD ?_
   refine⟨w.c.paths.length - (j+1),_,by omega,⟨j+1,(X.1++[it],X.2.1++[F],e2), .bs 1 0 13 (X.1++[it]).length cap,[LB 13 Bt (X.1++[it]) cap],by omega,rfl,by rw[hk,hlk],by simp;omega,by simp;omega, .inr ⟨cap,by simpa using hcp,rfl,rfl⟩,rfl⟩,?_⟩
   rw[List.length_append]
   unfold Ef
   rw[List.map_append]
   exact Bc 2 1 (by simp[Ag,Ab,Ac,BZ B1,BD])
  have hc1:=bp hb1
  have e3:=Ck D5 hj hc1
  rcases hYZ with⟨_,_,hX0⟩|⟨cap,hcp,rfl,rfl⟩
  ·exfalso
   rw[hX0]at hl1
   simp at hl1
   omega
  have hfin:LK w e=X:=by rw[←hX];exact(fY (by rw[List.length_zip];omega)).symm
  refine BO (Aq (Aq (BQ (?_))))
  refine AD ?_
  refine⟨_,⟨cap,by rw[hfin];exact hcp,rfl⟩,?_⟩
  rw[hfin]
  exact(fV 0 rfl (fW w _ _ _)).trans (Bc 2 0 (by simp[Ag,Ab,Ac,BZ B1,BD]))
 rintro s ⟨cap,hcp,rfl⟩
 refine w_ (m_ (h:=a_ (h:=e_ (A6 (?_)))))
 refine Aj (r:= .v (.int .i64 (LK w e).2.2)) none (h4:=(by simp[Ag,Ab,Ac,BZ B1,BD])) (h5:=(LeA.refl _)) (h6:=⟨rfl,cap,hcp,rfl,rfl⟩)
theorem LT(w:Wrk)(cap:Nat)(f:AZ)(l:List Dj)(e:Int):ACall Tryz.prog 154 [.bp 0 0, .agg (As f), .sl 7 (l.map CK) none, .v (.int .i64 e)] [WA w cap,IB w cap] (fun r b t=>t=[]∧r= .v (.int .i64 e)∧b=[WA (BN w (f,l,e)).1 cap,IB (BN w (f,l,e)).1 cap]):=by
 refine enter Tryz.func154 rfl rfl rfl rfl rfl 2 rfl ?_
 refine w_ (b_ (h:=a_ (h:=e_ (q_ (w_ (m_ (h:=AQ (h:=e_ (?_)))))))))
 refine A8 rfl (fun hb1=>?_) (fun hb1=>?_)
 ·have hc1:=bp hb1
  refine w_ (m_ (h:=l_ (h:=k_ (h:=f_ (h:=f_ (h:=f_ (h:=s_ (h:=e_ (AP (m_ (h:=m_ (h:=k_ (h:=f_ (h:=f_ (h:=s_ (h:=e_ (w_ (m_ (h:=a_ (h:=e_ (A6 (?_))))))))))))))))))))))
  refine Aj (r:= .v (.int .i64 e)) none (h4:=(by simp[Ag,Ab,Ac,BZ B1,IB,CC])) (h5:=(LeA.refl _)) (h6:=⟨rfl,rfl,?_⟩)
  rw[BN,if_pos hc1]
  rfl
 have hc1:=bp hb1
 refine AG (w_ (m_ (h:=a_ (h:=e_ (A6 (?_))))))
 refine Aj (r:= .v (.int .i64 e)) none (h4:=(by simp[Ag,Ab,Ac,BZ B1,BD,WA,IB,CC])) (h5:=(LeA.refl _)) (h6:=⟨rfl,rfl,?_⟩)
 rw[BN,if_neg hc1]
 rfl
theorem RL(w:Wrk)(cap:Nat)(t:Tab)(e:Int):ACall Tryz.prog 152 [.bp 0 0, .agg (At t), .v (.int .i64 e)] [WA w cap,IB w cap] (fun r b tk=>tk=[]∧r= .v (.int .i64 e)∧b=[WA (C2 w (t,e)).1 cap,IB (C2 w (t,e)).1 cap]):=by
 refine enter Tryz.func152 rfl rfl rfl rfl rfl 2 rfl ?_
 refine w_ (b_ (h:=a_ (h:=e_ (q_ (w_ (m_ (h:=AQ (h:=e_ (?_)))))))))
 refine A8 rfl (fun hb1=>?_) (fun hb1=>?_)
 ·have hc1:=bp hb1
  refine AP (m_ (h:=l_ (h:=k_ (h:=f_ (h:=f_ (h:=s_ (h:=e_ (w_ (m_ (h:=a_ (h:=e_ (A6 (?_)))))))))))))
  refine Aj (r:= .v (.int .i64 e)) none (h4:=(by simp[Ag,Ab,Ac,BZ B1,IB,CC])) (h5:=(LeA.refl _)) (h6:=⟨rfl,rfl,?_⟩)
  rw[C2,if_pos hc1]
  rfl
 have hc1:=bp hb1
 refine AG (w_ (m_ (h:=a_ (h:=e_ (A6 (?_))))))
 refine Aj (r:= .v (.int .i64 e)) none (h4:=(by simp[Ag,Ab,Ac,BZ B1,BD,WA,IB,CC])) (h5:=(LeA.refl _)) (h6:=⟨rfl,rfl,?_⟩)
 rw[C2,if_neg hc1]
 rfl
end
section
variable {P:Program}{rs:List ResultVar}{n:Nat}{R:AV→List (List AV)→List CY→Prop}{s:AS}{xs:List AV}{r:AV}
theorem BM(g:Option Nat){tk':List CY}(h1:ResA P s rs xs:=by repeat (first|exact ResA.nil|(apply ResA.tmp;(focus exact rfl))|(apply ResA.cellN;(focus exact inferInstance);(focus exact rfl);(focus exact rfl);(focus exact rfl))|(apply ResA.cell1;(focus exact inferInstance);(focus exact rfl);(focus exact rfl);(focus exact rfl))))(h2:JY s.h.tk g=some tk':=by rfl)(h3:Ac n 1 (DJ g (EO xs))=true:=by rfl)(h4:Ag n 0 (s.h.bx.take n)=true:=by simp[Ag,Ab,Ac,BZ B1,BD,WA,IB,CC,Ak,Ah,AA,At,Ai,As])(h5:LeA (DJ g (EO xs)) r)(h6:R r (s.h.bx.take n) tk'):JZ P rs n R .ret s:=PK g h1 h2 h3 h4 h5 h6
end
theorem CP{f:Nat→Option AV}{bx:List (List AV)}{tk:List (Nat×Nat×List (List AV))}{l:List (Nat×AV)}{N:Dim}(n m:Nat){bx':List (List AV)}{tk':List (Nat×Nat×List (List AV))}(hn:Nat.ble N.ni n=true:=by rfl)(hb:bx.take n=bx':=by rfl)(ht:tk.take m=tk':=by rfl)(hbp:Ag n m bx'=true:=by simp[Ag,Ab,Ac,BZ B1,BD,WA,IB,CC,Ak,Ah,AA,At,Ai,As])(hl:Sub n m f l:=by repeat (first|exact Sub.nil|refine Sub.cons _ _ _ rfl rfl ?_|refine Sub.any _ _ ?_|refine Sub.sl _ _ _ _ _ rfl ?_|refine Sub.slnil _ _ _ rfl ?_)):Weak N ⟨f,⟨bx,tk⟩⟩ ⟨look l,⟨bx',tk'⟩⟩:=Az n m hn hb ht hbp hl
theorem Vk{α:Type}{l:List α}{i:Nat}{x:α}(h:l[i]?=some x)(f:α→α):l.modify i f=l.set i (f x):=by
 apply List.ext_getElem?
 intro k
 rw[List.getElem?_modify,List.getElem?_set]
 obtain⟨hl,rfl⟩:=Ar.1 h
 by_cases e:i=k
 ·subst e
  simp[hl]
 simp[e]
theorem fZ(w:Wrk)(R:DP):(BN w R).2=R.2.2:=by
 unfold BN
 split
 ·rename_i h;exact h.symm
 rfl
theorem Ho(w:Wrk)(R:Tab×Int):(C2 w R).2=R.2:=by
 unfold C2
 split
 ·rename_i h;exact h.symm
 rfl
theorem JJ{w:Wrk}{R:DP}(h:R.2.2=0):(BN w R).1={w with s:=⟨⟨R.1,w.s.spc.mounts⟩,w.s.tab⟩,r:={w.r with changes:=R.2.1}}:=by
 unfold BN
 rw[if_pos h]
theorem Od{w:Wrk}{R:DP}(h:¬R.2.2=0):(BN w R).1=w:=by
 unfold BN
 rw[if_neg h]
theorem Vl{f:AZ}{dir:A9}{name:AE}{n:Nod}(h0:(Dn f dir name n).2.2=0):∃c,(Dn f dir name n).2.1=[c]:=by
 unfold Dn at h0 ⊢
 split at h0
 ·rename_i c;exact absurd h0 c
 rename_i c1
 rw[if_neg c1]
 split at h0
 ·exact absurd h0 (by decide)
 rename_i c2
 rw[if_neg c2]
 split at h0
 ·exact absurd h0 (by decide)
 rename_i c3
 rw[if_neg c3]
 cases e:EE f dir.1 with
 |none=>rw[e]at h0;simp at h0
 |some d=>
   rw[e]at h0
   simp only at h0 ⊢
   split at h0
   ·exact absurd h0 (by decide)
   rename_i c4
   rw[if_neg c4]
   exact⟨_,rfl⟩
theorem g7{w:Wrk}{i:Nat}{n:Nod}(h:(CO w i n).2=0):∃c,(CO w i n).1.r.changes=[c]:=by
 unfold CO at h ⊢
 split at h
 ·rename_i h0
  obtain⟨c,hc⟩:=Vl h0
  rw[if_pos h0,JJ h0]
  exact⟨c,hc⟩
 rename_i h0;exact absurd h h0
theorem g8(w:Wrk)(i:Nat)(n:Nod):(CO w i n).1.s.tab=w.s.tab∧(CO w i n).1.p=w.p∧(CO w i n).1.c=w.c:=by
 unfold CO
 split
 ·rename_i h0
  rw[JJ h0]
  exact⟨rfl,rfl,rfl⟩
 exact⟨rfl,rfl,rfl⟩
section
theorem RM(w:Wrk)(cap i:Nat)(a:A9)(x:Itm)(hs:FlsB w.s.spc.files)(hx:w.r.items[i]?=some x):ACall Tryz.prog 155 [.bp 0 0, .v (.int .i64 (i:Int)), .agg (AA a)] [WA w cap,IB w cap] (fun r b t=>t=[]∧r= .tup []∧b=[WA (GZ w i a) cap,IB (GZ w i a) cap]):=by
 have hil:=(Ar.1 hx).1
 have hst:∀y:Itm,(w.r.items.set i y)[i]?=some y:=fun y=>by rw[List.getElem?_set_self hil]
 have hfin:w.r.items.modify i (Us (Aa w.s.spc.files a) a)=w.r.items.set i {x with role:=2,file:=a,kind:=(Aa w.s.spc.files a).kind,mode:=(Aa w.s.spc.files a).mode,uid:=(Aa w.s.spc.files a).uid,gid:=(Aa w.s.spc.files a).gid}:=by rw[Vk hx];rfl
 refine enter Tryz.func155 rfl rfl rfl rfl rfl 2 rfl ?_
 refine w_ (b_ (h:=e_ (?_)))
 refine B5 (fun s=>s=⟨look [(0, .bp 0 0),(1, .v (.int .i64 (i:Int))),(5, .bp 2 0),(6, .bp 3 0)],⟨[WA w cap,IB w cap,AA a,Ah (Aa w.s.spc.files a)],[]⟩⟩) ?_ ?_
 ·skip
  refine BH ([(0,WA w cap),(1,IB w cap),(2,AA a)]) 14 (h:=AN 0 (h:=B7 1 (h:=AF 2 (h:=AF 3 (h:=AF 4 (h:=AJ 5 (h:=AJ 6 (h:=?_))))))))
  refine Da 7 11 rfl rfl ?_ ?_
  ·refine AK (Dk w.s.spc.files a hs) ?_
   rintro r rfl
   refine o_ (h:=?_)
   refine AN 8 (h:=B4 9 (h:=B4 10 (h:=?_)))
   refine c_ 11 rfl (Bx (by repeat constructor) ?_)
   refine o_ (h:=?_)
   refine B0 12 rfl (Aw rfl rfl rfl rfl rfl rfl (by repeat constructor) (by repeat constructor) ?_)
   refine o_ (h:=BC 13 (h:=z_ (h:=?_)))
   refine AD ?_
   exact⟨_,rfl,CP 4 0⟩
  refine Bx (by repeat constructor) ?_
  refine o_ (h:=?_)
  refine c_ 7 rfl (AK (Dk w.s.spc.files a hs) ?_)
  rintro r rfl
  refine o_ (h:=AN 8 (h:=B4 9 (h:=B4 10 (h:=?_))))
  refine B0 12 rfl (Aw rfl rfl rfl rfl rfl rfl (by repeat constructor) (by repeat constructor) ?_)
  refine o_ (h:=BC 13 (h:=z_ (h:=?_)))
  refine AD ?_
  exact⟨_,rfl,CP 4 0⟩
 rintro s rfl
 refine w_ (m_ (h:=k_ (h:=f_ (h:=f_ (h:=l_ (h:=m_ (h:=?_)))))))
 refine A4 rfl (DF (m:=i) rfl rfl rfl hil ?_)
 refine a_ (h:=e_ (BH ([(0,WA w cap),(2,AA a),(3,Ah (Aa w.s.spc.files a))]) 33 (h:=AN 0 (h:=AN 1 (h:=AN 2 (h:=AN 3 (h:=AN 4 (h:=AN 5 (h:=AJ 6 (h:=AF 7 (h:=AJ 8 (h:=AF 9 (h:=AJ 10 (h:=AF 11 (h:=AJ 12 (h:=AF 13 (h:=AJ 14 (h:=B7 15 (h:=AF 16 (h:=?_))))))))))))))))))))
 refine B0 17 rfl (Aw rfl rfl rfl rfl rfl rfl (JG B1 (x':={x with role:=2}) hx (by repeat constructor) (List.cons_ne_nil _ _)) (by repeat constructor) ?_)
 refine o_ (h:=B7 18 (h:=AF 19 (h:=?_)))
 refine B0 20 rfl (Aw rfl rfl rfl rfl rfl rfl (JG B1 (x':={x with role:=2,file:=a}) (hst _) (by repeat constructor) (List.cons_ne_nil _ _)) (by repeat constructor) ?_)
 refine o_ (h:=B7 21 (h:=AF 22 (h:=?_)))
 refine B0 23 rfl (Aw rfl rfl rfl rfl rfl rfl (JG B1 (x':={x with role:=2,file:=a,kind:=(Aa w.s.spc.files a).kind}) (by rw[List.set_set];exact hst _) (by repeat constructor) (List.cons_ne_nil _ _)) (by repeat constructor) ?_)
 refine o_ (h:=B7 24 (h:=AF 25 (h:=?_)))
 refine B0 26 rfl (Aw rfl rfl rfl rfl rfl rfl (JG B1 (x':={x with role:=2,file:=a,kind:=(Aa w.s.spc.files a).kind,mode:=(Aa w.s.spc.files a).mode}) (by rw[List.set_set,List.set_set];exact hst _) (by repeat constructor) (List.cons_ne_nil _ _)) (by repeat constructor) ?_)
 refine o_ (h:=B7 27 (h:=AF 28 (h:=?_)))
 refine B0 29 rfl (Aw rfl rfl rfl rfl rfl rfl (JG B1 (x':={x with role:=2,file:=a,kind:=(Aa w.s.spc.files a).kind,mode:=(Aa w.s.spc.files a).mode,uid:=(Aa w.s.spc.files a).uid}) (by rw[List.set_set,List.set_set,List.set_set];exact hst _) (by repeat constructor) (List.cons_ne_nil _ _)) (by repeat constructor) ?_)
 refine o_ (h:=B7 30 (h:=AF 31 (h:=?_)))
 refine B0 32 rfl (Aw rfl rfl rfl rfl rfl rfl (JG B1 (x':={x with role:=2,file:=a,kind:=(Aa w.s.spc.files a).kind,mode:=(Aa w.s.spc.files a).mode,uid:=(Aa w.s.spc.files a).uid,gid:=(Aa w.s.spc.files a).gid}) (by rw[List.set_set,List.set_set,List.set_set,List.set_set];exact hst _) (by repeat constructor) (List.cons_ne_nil _ _)) (by repeat constructor) ?_)
 refine o_ (h:=z_ (h:=?_))
 refine Nr (r:= .tup []) none (h4:=(by simp[Ag,Ab,Ac,BZ B1,BD,WA,CC])) (h5:=(LeA.refl _)) (h6:=⟨rfl,rfl,?_⟩)
 rw[List.set_set,List.set_set,List.set_set,List.set_set,List.set_set]
 unfold WA IB GZ
 simp only[hfin,List.length_set]
 rfl
theorem RN(w:Wrk)(cap i:Nat)(n:Nod)(f:Fnd)(x:Itm)(hv:FlsV w.s.spc.files)(hf:w.found[i]?=some f)(hx:w.r.items[i]?=some x)(hn:f.name.size≤100000)(ht:n.target.size≤100000)(hne:n.entries=[]):ACall Tryz.prog 150 [.bp 0 0, .v (.int .i64 (i:Int)), .agg (Ah n)] [WA w cap,IB w cap] (fun r b t=>t=[]∧r= .v (.int .i64 (CO w i n).2)∧b=[WA (CO w i n).1 cap,IB (CO w i n).1 cap]):=by
 have hrow:(w.found.map Ak)[i]?=some (Ak f):=by rw[List.getElem?_map,hf];rfl
 have hfn:B2 w i=f:=by unfold B2;rw[hf];rfl
 have hmk:E8 w i n=Dn w.s.spc.files f.dir f.name (Mv w n):=by unfold E8;rw[hfn]
 have hok:=Qe hv f.dir f.name (Mv w n)
 rw[←hmk]at hok
 have hcall:AFn Tryz.prog 45 [.agg (As w.s.spc.files), .agg (AA f.dir), .v (.string f.name), .agg (Ah (Mv w n))] (fun r=>r=CH (E8 w i n)):=by rw[hmk];exact ZK _ _ _ _ hv hn ht
 refine enter Tryz.func150 rfl rfl rfl rfl rfl 2 rfl ?_
 refine w_ (b_ (h:=a_ (h:=e_ (q_ (BH ([(0,WA w cap),(1,IB w cap)]) 14 (h:=AN 0 (h:=B7 1 (h:=AF 2 (h:=AF 3 (h:=AJ 4 (h:=AN 5 (h:=B7 6 (h:=AF 7 (h:=AF 8 (h:=AJ 9 (h:=AF 10 (h:=?_)))))))))))))))))
 refine B0 11 rfl (Aw rfl rfl rfl rfl rfl rfl (by repeat constructor) (by repeat constructor) ?_)
 refine o_ (h:=AF 12 (h:=?_))
 refine B0 13 rfl (Aw rfl rfl rfl rfl rfl rfl (by repeat constructor) (by repeat constructor) ?_)
 refine o_ (h:=z_ (h:=t_ (q_ (BH ([(0,WA w cap),(1,IB w cap),(2,Ah (Mv w n))]) 28 (h:=AN 0 (h:=AN 1 (h:=B7 2 (h:=AF 3 (h:=AF 4 (h:=AF 5 (h:=AJ 6 (h:=AN 7 (h:=B7 8 (h:=AF 9 (h:=AJ 10 (h:=AN 11 (h:=Di 12 (h:=AF 13 (h:=AJ 14 (h:=AN 15 (h:=B7 16 (h:=AF 17 (h:=AJ 18 (h:=?_))))))))))))))))))))))))
 refine AN 19 (h:=Di 20 (h:=AF 21 (h:=AJ 22 (h:=AJ 23 (h:=?_)))))
 refine c_ 24 rfl (AK (hcall) ?_)
 rintro r rfl
 refine o_ (h:=B4 25 (h:=B4 26 (h:=B4 27 (h:=?_))))
 refine c_ 28 rfl (BV [0,1] rfl (.cons _ _ _ _ _ rfl (LeA.refl _) (.cons _ _ _ _ _ rfl (LeA.refl _) (.cons _ _ _ _ _ rfl (LeA.refl _) (.cons _ _ _ _ _ rfl (LeA.refl _) .nil)))) (by decide) (.cons _ _ _ _ _ rfl rfl (.cons _ _ _ _ _ rfl (Cg B1 _ _ _) .nil)) (LT w cap (E8 w i n).1 (E8 w i n).2.1 (E8 w i n).2.2) ?_)
 rintro r bc tc ⟨rfl,rfl,rfl⟩
 refine⟨rfl,_,D1 rfl (BN w (E8 w i n)).1 cap,?_⟩
 refine o_ (h:=?_)
 refine c_ 29 rfl (FJ rfl ?_)
 refine o_ (h:=z_ (h:=t_ (q_ (w_ (m_ (h:=AQ (h:=e_ (?_))))))))
 refine A8 rfl (fun hb1=>?_) (fun hb1=>?_)
 ·have hc1:=bp hb1
  have h0:(E8 w i n).2.2=0:=hc1
  obtain⟨c,hc⟩:∃c,(E8 w i n).2.1=[c]:=by rw[hmk]at h0 ⊢;exact Vl h0
  have hch:(BN w (E8 w i n)).1.r.changes=[c]:=by rw[JJ h0];exact hc
  have hx1:(BN w (E8 w i n)).1.r.items[i]?=some x:=by rw[JJ h0];exact hx
  have hfb:FlsB (BN w (E8 w i n)).1.s.spc.files:=by rw[JJ h0];exact(hok h0).1.b
  have hrow2:((BN w (E8 w i n)).1.r.changes.map CK)[0]?=some (CK c):=by rw[hch];rfl
  refine AP (m_ (h:=m_ (h:=m_ (h:=k_ (h:=f_ (h:=f_ (h:=l_ (h:=?_))))))))
  refine A4 rfl (CS (n:=0) rfl rfl rfl hrow2 ?_)
  refine f_ (h:=l_ (h:=?_))
  refine A4 rfl (BV [0,1] rfl (.cons _ _ _ _ _ rfl (LeA.refl _) (.cons _ _ _ _ _ rfl (LeA.refl _) (.cons _ _ _ _ _ rfl (LeA.refl _) .nil))) (by decide) (.cons _ _ _ _ _ rfl rfl (.cons _ _ _ _ _ rfl (Cg B1 _ _ _) .nil)) (RM (BN w (E8 w i n)).1 cap i c.2.2.2 x hfb hx1) ?_)
  rintro r bc tc ⟨rfl,rfl,rfl⟩
  refine⟨rfl,_,D1 rfl (GZ (BN w (E8 w i n)).1 i c.2.2.2) cap,?_⟩
  refine e_ (w_ (m_ (h:=a_ (h:=e_ (A6 (?_))))))
  refine BM (r:= .v (.int .i64 (CO w i n).2)) none (h5:=(by rw[CO,if_pos h0];exact LeA.of_eq (vi h0))) (h6:=⟨rfl,rfl,?_⟩)
  rw[CO,if_pos h0,hc]
  rfl
 have hc1:=bp hb1
 have h0:¬(E8 w i n).2.2=0:=hc1
 refine AG (w_ (m_ (h:=a_ (h:=e_ (A6 (?_))))))
 refine BM (r:= .v (.int .i64 (CO w i n).2)) none (h5:=(by rw[CO,if_neg h0];exact LeA.refl _)) (h6:=⟨rfl,rfl,?_⟩)
 rw[CO,if_neg h0,Od h0]
 rfl
theorem Vm(w:Wrk)(cap:Nat)(f:Fnd)(x:Itm)(hv:SpcV w.s.spc)(hm:w.s.spc.mounts.length≤1000)(htb:TabB w.s.tab)(hf:w.found[0]?=some f)(hx:w.r.items[0]?=some x)(hn:f.name.size≤100000):ACall Tryz.prog 114 [.bp 0 0] [WA w cap,IB w cap] (fun r b t=>t=[]∧r= .v (.int .i64 (C8 w).2)∧b=[WA (C8 w).1 cap,IB (C8 w).1 cap]):=by
 have hsb:=hv.b hm
 have hrow:(w.found.map Ak)[0]?=some (Ak f):=by rw[List.getElem?_map,hf];rfl
 have hfn:B2 w 0=f:=by unfold B2;rw[hf];rfl
 refine enter Tryz.func114 rfl rfl rfl rfl rfl 2 rfl ?_
 refine w_ (a_ (h:=e_ (q_ (BH ([(0,WA w cap),(1,IB w cap)]) 15 (h:=AN 0 (h:=B7 1 (h:=AF 2 (h:=AJ 3 (h:=Di 4 (h:=AJ 5 (h:=AN 6 (h:=B7 7 (h:=AF 8 (h:=AF 9 (h:=?_)))))))))))))))
 refine Bj 10 rfl (fun _ hS=>CE (len:=4) (sz:=1) (n:=0) (by kernel_rfl) rfl rfl rfl rfl ⟨rfl,rfl⟩) ?_
 refine AJ 11 (h:=?_)
 refine c_ 12 rfl (Bx (by repeat constructor) ?_)
 refine o_ (h:=?_)
 refine B0 13 rfl (Aw rfl rfl rfl rfl rfl rfl (by repeat constructor) (by repeat constructor) ?_)
 refine o_ (h:=BC 14 (h:=z_ (h:=t_ (?_))))
 refine B5 (fun s=>∃(w2:Wrk) (F2:Fnd),C8 w=G7 w2 F2.file∧TabB w2.s.tab∧s=⟨look [(0, .bp 0 0),(3, .bp 2 0),(4, .v (.int .i64 w2.c.a0))],⟨[WA w2 cap,IB w2 cap,Ak F2],[]⟩⟩) ?_ ?_
 ·skip
  refine w_ (f_ (h:=l_ (h:=e_ (?_))))
  refine A8 rfl (fun hb1=>?_) (fun hb1=>?_)
  ·have hc1:=bp hb1
   have hex:(B2 w 0).ex=true:=by rw[hfn];exact hc1
   refine B5 (fun s=>s=⟨look [(0, .bp 0 0),(3, .bp 2 0),(4, .v (.int .i64 w.c.a0)),(5, .bp 3 0)],⟨[WA w cap,IB w cap,Ak f,Ah (Aa w.s.spc.files f.file)],[]⟩⟩) ?_ ?_
   ·skip
    refine BH ([(0,WA w cap),(1,IB w cap),(2,Ak f)]) 15 (h:=AN 0 (h:=B7 1 (h:=AF 2 (h:=AF 3 (h:=AF 4 (h:=AJ 5 (h:=AF 6 (h:=AJ 7 (h:=?_)))))))))
    refine Da 8 12 rfl rfl ?_ ?_
    ·refine AK (Dk w.s.spc.files f.file hsb.files) ?_
     rintro r rfl
     refine o_ (h:=?_)
     refine AN 9 (h:=B4 10 (h:=B4 11 (h:=?_)))
     refine c_ 12 rfl (Bx (by repeat constructor) ?_)
     refine o_ (h:=?_)
     refine B0 13 rfl (Aw rfl rfl rfl rfl rfl rfl (by repeat constructor) (by repeat constructor) ?_)
     refine o_ (h:=BC 14 (h:=z_ (h:=?_)))
     refine AD ?_
     exact⟨_,rfl,CP 4 0⟩
    refine Bx (by repeat constructor) ?_
    refine o_ (h:=?_)
    refine c_ 8 rfl (AK (Dk w.s.spc.files f.file hsb.files) ?_)
    rintro r rfl
    refine o_ (h:=AN 9 (h:=B4 10 (h:=B4 11 (h:=?_))))
    refine B0 13 rfl (Aw rfl rfl rfl rfl rfl rfl (by repeat constructor) (by repeat constructor) ?_)
    refine o_ (h:=BC 14 (h:=z_ (h:=?_)))
    refine AD ?_
    exact⟨_,rfl,CP 4 0⟩
   rintro s rfl
   refine w_ (a_ (h:=e_ (?_)))
   refine B5 (fun s=>s=⟨look [(0, .bp 0 0),(3, .bp 2 0),(4, .v (.int .i64 w.c.a0)),(5, .bp 3 0),(7, .v (.int .i64 (if C0 w.c.a0 1=true then 4 else 0)))],⟨[WA w cap,IB w cap,Ak f,Ah (Aa w.s.spc.files f.file)],[]⟩⟩) ?_ ?_
   ·skip
    refine w_ (m_ (h:=EP (h:=BF (h:=e_ (?_)))))
    refine A8 rfl (fun hb2=>?_) (fun hb2=>?_)
    ·have hc2:=bp hb2
     have k0:C0 w.c.a0 1=true:=by simpa[C0]using hc2
     refine AP (m_ (h:=B8 (h:=a_ (h:=AO (?_)))))
     refine AD ?_
     refine⟨_,rfl,?_⟩
     (rw[if_pos k0];exact CP 4 0)
    have hc2:=bp hb2
    have k0:¬C0 w.c.a0 1=true:=by simpa[C0]using hc2
    refine BB (?_)
    refine AD ?_
    refine⟨_,rfl,?_⟩
    first|(rw[if_pos k0];exact CP 4 0)|(rw[if_neg k0];exact CP 4 0)
   rintro s rfl
   refine B5 (fun s=>s=⟨look [(0, .bp 0 0),(3, .bp 2 0),(4, .v (.int .i64 w.c.a0)),(5, .bp 3 0),(7, .v (.int .i64 (JF w.c.a0)))],⟨[WA w cap,IB w cap,Ak f,Ah (Aa w.s.spc.files f.file)],[]⟩⟩) ?_ ?_
   ·skip
    refine w_ (m_ (h:=EP (h:=BF (h:=e_ (?_)))))
    refine A8 rfl (fun hb3=>?_) (fun hb3=>?_)
    ·have hc3:=bp hb3
     have k00:C0 w.c.a0 18=true:=by simpa[C0]using hc3
     refine AP (m_ (h:=B8 (h:=a_ (h:=AO (?_)))))
     refine AD ?_
     refine⟨_,rfl,?_⟩
     unfold JF
     (rw[if_pos k00];exact CP 4 0)
    have hc3:=bp hb3
    have k00:¬C0 w.c.a0 18=true:=by simpa[C0]using hc3
    refine BB (?_)
    refine AD ?_
    refine⟨_,rfl,?_⟩
    unfold JF
    first|(rw[if_pos k00];exact CP 4 0)|(rw[if_neg k00,Int.add_zero];exact CP 4 0)
   rintro s rfl
   refine Ao (?_)
   refine B5 (fun s=>s=⟨look [(0, .bp 0 0),(3, .bp 2 0),(4, .v (.int .i64 w.c.a0)),(5, .bp 3 0),(7, .v (.int .i64 (JF w.c.a0))),(48, .v (.bool (C0 w.c.a0 4&&C0 w.c.a0 8)))],⟨[WA w cap,IB w cap,Ak f,Ah (Aa w.s.spc.files f.file)],[]⟩⟩) ?_ ?_
   ·skip
    refine AP (m_ (h:=EP (h:=BF (h:=m_ (h:=?_)))))
    refine Ax true rfl rfl (fun hb4=>?_) (fun hb4=>?_)
    ·have hc4:=bp hb4
     refine m_ (h:=EP (h:=BF (h:=Af (h:=a_ (h:=AO (?_))))))
     refine AD ?_
     exact⟨_,rfl,Az 4 0 rfl rfl rfl (by simp[Ag,Ab,Ac,BZ B1,BD,WA,IB,CC,Ak,Ah]) (by repeat (first|exact Sub.nil|refine Sub.cons _ _ _ rfl rfl ?_|refine Sub.any _ _ ?_|refine Sub.sl _ _ _ _ _ rfl ?_|refine Sub.slnil _ _ _ rfl ?_|(apply Sub.of;(focus exact rfl);(focus exact LeA.of_eq (vb (by simp[C0, *])));(focus exact rfl))))⟩
    have hc4:=bp hb4
    refine A3 (h:=A3 (h:=A3 (h:=Am (h:=a_ (h:=AO (?_))))))
    refine AD ?_
    exact⟨_,rfl,Az 4 0 rfl rfl rfl (by simp[Ag,Ab,Ac,BZ B1,BD,WA,IB,CC,Ak,Ah]) (by repeat (first|exact Sub.nil|refine Sub.cons _ _ _ rfl rfl ?_|refine Sub.any _ _ ?_|refine Sub.sl _ _ _ _ _ rfl ?_|refine Sub.slnil _ _ _ rfl ?_|(apply Sub.of;(focus exact rfl);(focus exact LeA.of_eq (vb (by simp[C0, *])));(focus exact rfl))))⟩
   rintro s rfl
   refine A8 rfl (fun hb5=>?_) (fun hb5=>?_)
   ·have hc5:=bp hb5
    have k1:C0 w.c.a0 4=true∧C0 w.c.a0 8=true:=by simpa using hc5
    refine w_ (a_ (h:=e_ (A6 (AR (A7 (?_))))))
    refine BM (r:= .v (.int .i64 (C8 w).2)) none (h5:=(by rw[C8,if_pos hex,if_pos k1];exact LeA.refl _)) (h6:=⟨rfl,rfl,?_⟩)
    rw[C8,if_pos hex,if_pos k1]
    rfl
   have hc5:=bp hb5
   have k1:¬(C0 w.c.a0 4=true∧C0 w.c.a0 8=true):=by simpa using hc5
   refine w_ (f_ (h:=l_ (h:=AQ (h:=a_ (h:=e_ (?_))))))
   refine A8 rfl (fun hb6=>?_) (fun hb6=>?_)
   ·have hc6:=bp hb6
    have k2:(Aa w.s.spc.files (B2 w 0).file).kind=3:=by rw[hfn];exact hc6
    refine w_ (a_ (h:=e_ (A6 (AR (A7 (?_))))))
    refine BM (r:= .v (.int .i64 (C8 w).2)) none (h5:=(by rw[C8,if_pos hex,if_neg k1,if_pos k2];exact LeA.refl _)) (h6:=⟨rfl,rfl,?_⟩)
    rw[C8,if_pos hex,if_neg k1,if_pos k2]
    rfl
   have hc6:=bp hb6
   have k2:¬(Aa w.s.spc.files (B2 w 0).file).kind=3:=by rw[hfn];exact hc6
   refine B5 (fun s=>s=⟨look [(0, .bp 0 0),(3, .bp 2 0),(4, .v (.int .i64 w.c.a0)),(5, .bp 3 0),(7, .v (.int .i64 (JF w.c.a0))),(61, .v (.bool (decide ((Aa w.s.spc.files f.file).kind=2)&&C0 w.c.a0 22)))],⟨[WA w cap,IB w cap,Ak f,Ah (Aa w.s.spc.files f.file)],[]⟩⟩) ?_ ?_
   ·skip
    refine AP (f_ (h:=l_ (h:=AQ (h:=m_ (h:=?_)))))
    refine Ax true rfl rfl (fun hb7=>?_) (fun hb7=>?_)
    ·have hc7:=bp hb7
     refine m_ (h:=EP (h:=BF (h:=Af (h:=a_ (h:=AO (?_))))))
     refine AD ?_
     exact⟨_,rfl,Az 4 0 rfl rfl rfl (by simp[Ag,Ab,Ac,BZ B1,BD,WA,IB,CC,Ak,Ah]) (by repeat (first|exact Sub.nil|refine Sub.cons _ _ _ rfl rfl ?_|refine Sub.any _ _ ?_|refine Sub.sl _ _ _ _ _ rfl ?_|refine Sub.slnil _ _ _ rfl ?_|(apply Sub.of;(focus exact rfl);(focus exact LeA.of_eq (vb (by simp[C0, *])));(focus exact rfl))))⟩
    have hc7:=bp hb7
    refine A3 (h:=A3 (h:=A3 (h:=Am (h:=a_ (h:=AO (?_))))))
    refine AD ?_
    exact⟨_,rfl,Az 4 0 rfl rfl rfl (by simp[Ag,Ab,Ac,BZ B1,BD,WA,IB,CC,Ak,Ah]) (by repeat (first|exact Sub.nil|refine Sub.cons _ _ _ rfl rfl ?_|refine Sub.any _ _ ?_|refine Sub.sl _ _ _ _ _ rfl ?_|refine Sub.slnil _ _ _ rfl ?_|(apply Sub.of;(focus exact rfl);(focus exact LeA.of_eq (vb (by simp[C0, *])));(focus exact rfl))))⟩
   rintro s rfl
   refine A8 rfl (fun hb8=>?_) (fun hb8=>?_)
   ·have hc8:=bp hb8
    have k3:(Aa w.s.spc.files (B2 w 0).file).kind=2∧C0 w.c.a0 22=true:=by rw[hfn];simpa using hc8
    refine w_ (a_ (h:=e_ (A6 (AR (A7 (?_))))))
    refine BM (r:= .v (.int .i64 (C8 w).2)) none (h5:=(by rw[C8,if_pos hex,if_neg k1,if_neg k2,if_pos k3];exact LeA.refl _)) (h6:=⟨rfl,rfl,?_⟩)
    rw[C8,if_pos hex,if_neg k1,if_neg k2,if_pos k3]
    rfl
   have hc8:=bp hb8
   have k3:¬((Aa w.s.spc.files (B2 w 0).file).kind=2∧C0 w.c.a0 22=true):=by rw[hfn];simpa using hc8
   refine w_ (m_ (h:=f_ (h:=l_ (h:=m_ (h:=?_)))))
   refine A4 rfl (Cf 1 rfl (.cons _ _ _ _ _ rfl (LeA.of_eq rfl) (.cons _ _ _ _ _ rfl (LeA.refl _) (.cons _ _ _ _ _ rfl (LeA.refl _) .nil))) (H3 w .any f.file (JF w.c.a0) hsb) ?_)
   rintro r rfl
   refine⟨rfl,?_⟩
   refine BA (h:=a_ (h:=e_ (?_)))
   refine A8 rfl (fun hb9=>?_) (fun hb9=>?_)
   ·have hc9:=bp hb9
    have k4:C1 w (B2 w 0).file (JF w.c.a0)=false:=by rw[hfn];simpa using hc9
    refine w_ (a_ (h:=e_ (A6 (AR (A7 (?_))))))
    refine BM (r:= .v (.int .i64 (C8 w).2)) none (h5:=(by rw[C8,if_pos hex,if_neg k1,if_neg k2,if_neg k3,if_pos k4];exact LeA.refl _)) (h6:=⟨rfl,rfl,?_⟩)
    rw[C8,if_pos hex,if_neg k1,if_neg k2,if_neg k3,if_pos k4]
    rfl
   have hc9:=bp hb9
   have k4:¬C1 w (B2 w 0).file (JF w.c.a0)=false:=by rw[hfn];simpa using hc9
   refine BB (Ay (?_))
   refine AD ?_
   exact⟨_,⟨w,f,(by rw[C8,if_pos hex,if_neg k1,if_neg k2,if_neg k3,if_neg k4,hfn]),htb,rfl⟩,CP 3 0⟩
  have hc1:=bp hb1
  have hex:¬(B2 w 0).ex=true:=by rw[hfn];simpa using hc1
  refine q_ (Ao (w_ (m_ (h:=EP (h:=AQ (h:=a_ (h:=e_ (?_))))))))
  refine A8 rfl (fun hb10=>?_) (fun hb10=>?_)
  ·have hc10:=bp hb10
   have k1:C0 w.c.a0 4=false:=by simp only[C0];simpa using hc10
   refine w_ (a_ (h:=e_ (A6 (AR (A7 (A7 (?_)))))))
   refine BM (r:= .v (.int .i64 (C8 w).2)) none (h5:=(by rw[C8,if_neg hex,if_pos k1];exact LeA.refl _)) (h6:=⟨rfl,rfl,?_⟩)
   rw[C8,if_neg hex,if_pos k1]
   rfl
  have hc10:=bp hb10
  have k1:¬C0 w.c.a0 4=false:=by simp only[C0];simpa using hc10
  refine w_ (f_ (h:=l_ (h:=a_ (h:=e_ (?_)))))
  refine A8 rfl (fun hb11=>?_) (fun hb11=>?_)
  ·have hc11:=bp hb11
   have k2:(B2 w 0).slash=true:=by rw[hfn];exact hc11
   refine w_ (a_ (h:=e_ (A6 (AR (A7 (A7 (?_)))))))
   refine BM (r:= .v (.int .i64 (C8 w).2)) none (h5:=(by rw[C8,if_neg hex,if_neg k1,if_pos k2];exact LeA.refl _)) (h6:=⟨rfl,rfl,?_⟩)
   rw[C8,if_neg hex,if_neg k1,if_pos k2]
   rfl
  have hc11:=bp hb11
  have k2:¬(B2 w 0).slash=true:=by rw[hfn];simpa using hc11
  refine w_ (m_ (h:=f_ (h:=l_ (h:=?_))))
  refine A4 rfl (Cf 1 rfl (.cons _ _ _ _ _ rfl (LeA.of_eq rfl) (.cons _ _ _ _ _ rfl (LeA.refl _) (.cons _ _ _ _ _ rfl (LeA.refl _) .nil))) (H3 w .any f.dir 2 hsb) ?_)
  rintro r rfl
  refine⟨rfl,?_⟩
  refine BA (h:=a_ (h:=e_ (?_)))
  refine A8 rfl (fun hb12=>?_) (fun hb12=>?_)
  ·have hc12:=bp hb12
   have k3:C1 w (B2 w 0).dir 2=false:=by rw[hfn];simpa using hc12
   refine w_ (a_ (h:=e_ (A6 (AR (A7 (A7 (?_)))))))
   refine BM (r:= .v (.int .i64 (C8 w).2)) none (h5:=(by rw[C8,if_neg hex,if_neg k1,if_neg k2,if_pos k3];exact LeA.refl _)) (h6:=⟨rfl,rfl,?_⟩)
   rw[C8,if_neg hex,if_neg k1,if_neg k2,if_pos k3]
   rfl
  have hc12:=bp hb12
  have k3:¬C1 w (B2 w 0).dir 2=false:=by rw[hfn];simpa using hc12
  refine BB (Ay (t_ (q_ (w_ (m_ (h:=m_ (h:=k_ (h:=f_ (h:=f_ (h:=?_))))))))))
  refine A4 rfl (CE (len:=4) (sz:=1) (n:=1) (by kernel_rfl) rfl rfl rfl rfl ?_)
  refine l_ (h:=?_)
  refine A4 rfl (EQ (y:= .agg (Ah (Ga w.c.a1))) (Ca ⟨rfl,rfl⟩) ?_)
  refine A4 rfl (BV [0,1] rfl (.cons _ _ _ _ _ rfl (LeA.refl _) (.cons _ _ _ _ _ rfl (LeA.refl _) (.cons _ _ _ _ _ rfl (LeA.refl _) .nil))) (by decide) (.cons _ _ _ _ _ rfl rfl (.cons _ _ _ _ _ rfl (Cg B1 _ _ _) .nil)) (RN w cap 0 (Ga w.c.a1) f x hv.files hf hx hn (Nat.zero_le _) rfl) ?_)
  rintro r bc tc ⟨rfl,rfl,rfl⟩
  refine⟨rfl,_,D1 rfl (CO w 0 (Ga w.c.a1)).1 cap,?_⟩
  refine a_ (h:=e_ (w_ (m_ (h:=BF (h:=e_ (?_))))))
  refine A8 rfl (fun hb13=>?_) (fun hb13=>?_)
  ·have hc13:=bp hb13
   have k4:(CO w 0 (Ga w.c.a1)).2≠0:=by simpa using hc13
   refine w_ (m_ (h:=a_ (h:=e_ (A6 (A7 (A7 (?_)))))))
   refine BM (r:= .v (.int .i64 (C8 w).2)) none (h5:=(by rw[C8,if_neg hex,if_neg k1,if_neg k2,if_neg k3,if_pos k4];exact LeA.refl _)) (h6:=⟨rfl,rfl,?_⟩)
   rw[C8,if_neg hex,if_neg k1,if_neg k2,if_neg k3,if_pos k4]
   rfl
  have hc13:=bp hb13
  have k4:(CO w 0 (Ga w.c.a1)).2=0:=by simpa using hc13
  obtain⟨c,hc⟩:=g7 k4
  have hrow2:((CO w 0 (Ga w.c.a1)).1.r.changes.map CK)[0]?=some (CK c):=by rw[hc];rfl
  refine AG (AP (m_ (h:=k_ (h:=f_ (h:=f_ (h:=l_ (h:=?_)))))))
  refine A4 rfl (CS (n:=0) rfl rfl rfl hrow2 ?_)
  refine f_ (h:=l_ (h:=f_ (h:=s_ (h:=AO (?_)))))
  refine AD ?_
  first|exact⟨_,⟨w,f,(by rw[C8,if_pos hex,if_neg k1,if_neg k2,if_neg k3,if_neg k4,hfn]),htb,rfl⟩,CP 3 0⟩|(obtain⟨q1,q2,q3⟩:=g8 w 0 (Ga w.c.a1);exact⟨_,⟨(CO w 0 (Ga w.c.a1)).1,{f with file:=c.2.2.2},(by rw[C8,if_neg hex,if_neg k1,if_neg k2,if_neg k3,if_neg (by simp[k4]),hc];rfl),by rw[q1];exact htb,rfl⟩,by rw[q3];exact CP 3 0⟩)
 rintro s ⟨w2,F2,hop,htb2,rfl⟩
 refine B5 (fun s=>s=⟨look [(0, .bp 0 0),(9, .bp 3 0),(10, .v (.int .i64 (EW w2.s.tab w2.p.pid F2.file w2.c.a0).2.1)),(11, .v (.int .i64 (EW w2.s.tab w2.p.pid F2.file w2.c.a0).2.2))],⟨[WA w2 cap,IB w2 cap,Ak F2,At (EW w2.s.tab w2.p.pid F2.file w2.c.a0).1],[]⟩⟩) ?_ ?_
 ·skip
  refine BH ([(0,WA w2 cap),(1,IB w2 cap),(2,Ak F2)]) 22 (h:=AN 0 (h:=B7 1 (h:=AF 2 (h:=AF 3 (h:=AJ 4 (h:=AN 5 (h:=B7 6 (h:=AF 7 (h:=AF 8 (h:=AJ 9 (h:=AF 10 (h:=AJ 11 (h:=AN 12 (h:=?_))))))))))))))
  refine Da 13 18 rfl rfl ?_ ?_
  ·refine AK (Vf w2.s.tab w2.p.pid F2.file w2.c.a0 htb2) ?_
   rintro r rfl
   refine o_ (h:=?_)
   refine AN 14 (h:=B4 15 (h:=B4 16 (h:=B4 17 (h:=?_))))
   refine c_ 18 rfl (Bx (by repeat constructor) ?_)
   refine o_ (h:=?_)
   refine B0 19 rfl (Aw rfl rfl rfl rfl rfl rfl (by repeat constructor) (by repeat constructor) ?_)
   refine o_ (h:=BC 20 (h:=BC 21 (h:=z_ (h:=?_))))
   refine AD ?_
   exact⟨_,rfl,CP 4 0⟩
  refine Bx (by repeat constructor) ?_
  refine o_ (h:=?_)
  refine c_ 13 rfl (AK (Vf w2.s.tab w2.p.pid F2.file w2.c.a0 htb2) ?_)
  rintro r rfl
  refine o_ (h:=AN 14 (h:=B4 15 (h:=B4 16 (h:=B4 17 (h:=?_)))))
  refine B0 19 rfl (Aw rfl rfl rfl rfl rfl rfl (by repeat constructor) (by repeat constructor) ?_)
  refine o_ (h:=BC 20 (h:=BC 21 (h:=z_ (h:=?_))))
  refine AD ?_
  exact⟨_,rfl,CP 4 0⟩
 rintro s rfl
 refine w_ (m_ (h:=m_ (h:=k_ (h:=f_ (h:=f_ (h:=s_ (h:=e_ (w_ (m_ (h:=l_ (h:=m_ (h:=?_))))))))))))
 refine A4 rfl (BV [0,1] rfl (.cons _ _ _ _ _ rfl (LeA.refl _) (.cons _ _ _ _ _ rfl (LeA.refl _) (.cons _ _ _ _ _ rfl (LeA.refl _) .nil))) (by decide) (.cons _ _ _ _ _ rfl rfl (.cons _ _ _ _ _ rfl (Cg B1 _ _ _) .nil)) (RL (OT w2 (EW w2.s.tab w2.p.pid F2.file w2.c.a0).2.1) cap (EW w2.s.tab w2.p.pid F2.file w2.c.a0).1 (EW w2.s.tab w2.p.pid F2.file w2.c.a0).2.2) ?_)
 rintro r bc tc ⟨rfl,rfl,rfl⟩
 refine⟨rfl,_,D1 rfl (G7 w2 F2.file).1 cap,?_⟩
 refine a_ (h:=e_ (A6 (?_)))
 refine BM (r:= .v (.int .i64 (C8 w).2)) none (h5:=(by rw[hop,G7,Ho];exact LeA.refl _)) (h6:=⟨rfl,rfl,?_⟩)
 rw[hop]
 rfl
end
theorem Vn{e:Int}{y x:A9}{c d:Bool}:(decide (e=0)&& !decide ((y.1,y.2)=(x.1,x.2))&&c&&d)=true↔(e=0∧y≠x∧c=true∧d=true):=by
 have:decide ((y.1,y.2)=(x.1,x.2))=decide (y=x):=rfl
 rw[this]
 simp[and_assoc]
theorem Vo{w:Wrk}{R:DP}{x:A9}(h:(decide (R.2.2=0)&&decide (0<(R.2.1.length:Int)))=true):Gb w R x=(GZ (Fg (BN w R).1 0 3) 1 x,R.2.2):=by
 rw[Bool.and_eq_true]at h
 have h1:=of_decide_eq_true h.1
 unfold Gb
 rw[if_neg (by simp[h1]),if_pos (of_decide_eq_true h.2),h1]
theorem Vp{w:Wrk}{R:DP}{x:A9}(h:(decide (R.2.2=0)&&decide (0<(R.2.1.length:Int)))=false):Gb w R x=((BN w R).1,R.2.2):=by
 unfold Gb
 by_cases h0:R.2.2=0
 ·rw[if_neg (by simp[h0]),if_neg (by simpa[h0]using h),h0]
 rw[if_pos h0,Od h0]
theorem Vq(w:Wrk)(i:Nat)(r:Int)(cap:Nat):WA (Fg w i r) cap=WA w cap:=by
 unfold WA Fg
 simp only[List.length_modify]
 rfl
theorem Vr{w:Wrk}{i:Nat}{x:Itm}(hx:w.r.items[i]?=some x)(r:Int)(cap:Nat):IB (Fg w i r) cap=LB 13 Bt (w.r.items.set i {x with role:=r}) cap:=by
 unfold IB Fg
 rw[Vk hx]
section
theorem Vs(w:Wrk)(cap:Nat)(f g:Fnd)(x0 x1:Itm)(hv:SpcV w.s.spc)(hm:w.s.spc.mounts.length≤1000)(hps:w.s.tab.ps.length≤1000)(hf:w.found[0]?=some f)(hg:w.found[1]?=some g)(hx0:w.r.items[0]?=some x0)(hx1:w.r.items[1]?=some x1)(hn:f.name.size≤100000)(hn2:g.name.size≤100000):ACall Tryz.prog 117 [.bp 0 0] [WA w cap,IB w cap] (fun r b t=>t=[]∧r= .v (.int .i64 (Df w).2)∧b=[WA (Df w).1 cap,IB (Df w).1 cap]):=by
 have hsb:=hv.b hm
 have hrow0:(w.found.map Ak)[0]?=some (Ak f):=by rw[List.getElem?_map,hf];rfl
 have hrow1:(w.found.map Ak)[1]?=some (Ak g):=by rw[List.getElem?_map,hg];rfl
 have hfn:B2 w 0=f:=by unfold B2;rw[hf];rfl
 have hgn:B2 w 1=g:=by unfold B2;rw[hg];rfl
 have hil:0<w.r.items.length:=(Ar.1 hx0).1
 obtain⟨R,hR⟩:∃R,R=EK w.s.spc.files f.dir f.name g.dir g.name:=⟨_,rfl⟩
 have hok:=Qf hv.files f.dir f.name g.dir g.name
 rw[←hR]at hok
 have hcall:AFn Tryz.prog 39 [.agg (As w.s.spc.files), .agg (AA f.dir), .v (.string f.name), .agg (AA g.dir), .v (.string g.name)] (fun r=>r=CH R):=by rw[hR];exact ZW _ _ _ _ _ hv.files hn hn2
 obtain⟨x,hxd⟩:∃x,x=(AM w.s.spc.files f.dir f.name).1:=⟨_,rfl⟩
 obtain⟨y,hyd⟩:∃y,y=(AM w.s.spc.files g.dir g.name).1:=⟨_,rfl⟩
 have hl1:AFn Tryz.prog 38 [.agg (As w.s.spc.files), .agg (AA f.dir), .v (.string f.name)] (fun r=>r= .tup [.agg (AA x), .v (.int .i64 (AM w.s.spc.files f.dir f.name).2)]):=by rw[hxd];exact Gp _ _ _ hsb.files
 have hl2:AFn Tryz.prog 38 [.agg (As w.s.spc.files), .agg (AA g.dir), .v (.string g.name)] (fun r=>r= .tup [.agg (AA y), .v (.int .i64 (AM w.s.spc.files g.dir g.name).2)]):=by rw[hyd];exact Gp _ _ _ hsb.files
 obtain⟨e2,he2⟩:∃e,e=(AM w.s.spc.files g.dir g.name).2:=⟨_,rfl⟩
 rw[←he2]at hl2
 have hren:Df w=if f.ex=false then(w,2)else if f.name=⟨#[]⟩∨g.name=⟨#[]⟩then(w,16)else if g.slash=true∧AX w.s.spc.files f.file=false then(w,20)else if f.dir.1≠g.dir.1 then(w,18)else if C1 w f.dir 2=false∨C1 w g.dir 2=false then(w,13)else if e2=0∧y≠x∧AX w.s.spc.files y=true∧Ff w y=true then(w,16)else Gb w R x:=by
  unfold Df GY
  rw[hfn,hgn,←hxd,←hyd,←he2,←hR]
 clear hxd hyd he2 hR
 refine enter Tryz.func117 rfl rfl rfl rfl rfl 2 rfl ?_
 refine w_ (a_ (h:=e_ (?_)))
 refine B5 (fun s=>s=⟨look [(0, .bp 0 0),(3, .bp 2 0),(4, .bp 3 0)],⟨[WA w cap,IB w cap,Ak f,Ak g],[]⟩⟩) ?_ ?_
 ·skip
  refine BH ([(0,WA w cap)]) 16 (h:=AN 0 (h:=B7 1 (h:=AF 2 (h:=AJ 3 (h:=?_)))))
  refine Bj 4 rfl (fun _ hS=>CS (n:=0) rfl rfl rfl hrow0 ⟨rfl,rfl⟩) ?_
  refine AJ 5 (h:=AN 6 (h:=B7 7 (h:=AF 8 (h:=AJ 9 (h:=?_)))))
  refine Bj 10 rfl (fun _ hS=>CS (n:=1) rfl rfl rfl hrow1 ⟨rfl,rfl⟩) ?_
  refine AJ 11 (h:=?_)
  refine Da 12 13 rfl rfl ?_ ?_
  ·refine Bx (by repeat constructor) ?_
   refine o_ (h:=?_)
   refine c_ 13 rfl (Bx (by repeat constructor) ?_)
   refine o_ (h:=?_)
   refine B0 14 rfl (Aw rfl rfl rfl rfl rfl rfl (by repeat constructor) (by repeat constructor) ?_)
   refine o_ (h:=?_)
   refine B0 15 rfl (Aw rfl rfl rfl rfl rfl rfl (by repeat constructor) (by repeat constructor) ?_)
   refine o_ (h:=z_ (h:=?_))
   refine AD ?_
   exact⟨_,rfl,CP 4 0⟩
  refine Bx (by repeat constructor) ?_
  refine o_ (h:=?_)
  refine c_ 12 rfl (Bx (by repeat constructor) ?_)
  refine o_ (h:=?_)
  refine B0 14 rfl (Aw rfl rfl rfl rfl rfl rfl (by repeat constructor) (by repeat constructor) ?_)
  refine o_ (h:=?_)
  refine B0 15 rfl (Aw rfl rfl rfl rfl rfl rfl (by repeat constructor) (by repeat constructor) ?_)
  refine o_ (h:=z_ (h:=?_))
  refine AD ?_
  first|exact⟨_,rfl,CP 4 0⟩|exact⟨_,rfl,E4 [0,1,3,2] OB (by decide) (.cons _ _ _ _ _ rfl rfl (.cons _ _ _ _ _ rfl (Ge B1 _ _ _) (.cons _ _ _ _ _ rfl rfl (.cons _ _ _ _ _ rfl rfl .nil)))) (by repeat (first|exact SubK.nil|refine SubK.cons _ _ _ _ rfl (LeA.refl _) ?_))⟩
 rintro s rfl
 refine q_ (Ao (w_ (f_ (h:=l_ (h:=BA (h:=a_ (h:=e_ (?_))))))))
 refine A8 rfl (fun hb1=>?_) (fun hb1=>?_)
 ·have hc1:=bp hb1
  have k1:f.ex=false:=by simpa using hc1
  refine w_ (a_ (h:=e_ (A6 (AR (A7 (?_))))))
  refine BM (r:= .v (.int .i64 (Df w).2)) none (h5:=(by rw[hren,if_pos k1];exact LeA.refl _)) (h6:=⟨rfl,rfl,?_⟩)
  rw[hren,if_pos k1]
  rfl
 have hc1:=bp hb1
 have k1:¬f.ex=false:=by simpa using hc1
 refine B5 (fun s=>s=⟨look [(0, .bp 0 0),(3, .bp 2 0),(4, .bp 3 0),(26, .v (.bool (decide (f.name=⟨#[]⟩)||decide (g.name=⟨#[]⟩))))],⟨[WA w cap,IB w cap,Ak f,Ak g],[]⟩⟩) ?_ ?_
 ·skip
  refine AP (f_ (h:=l_ (h:=AQ (h:=m_ (h:=?_)))))
  refine Ax false rfl rfl (fun hb2=>?_) (fun hb2=>?_)
  ·have hc2:=bp hb2
   refine A3 (h:=A3 (h:=A3 (h:=Af (h:=a_ (h:=AO (?_))))))
   refine AD ?_
   exact⟨_,rfl,C4 4 0 (by simp[Ag,Ab,Ac,BZ B1,BD,WA,IB,CC,Ak])⟩
  have hc2:=bp hb2
  refine f_ (h:=l_ (h:=AQ (h:=Am (h:=a_ (h:=AO (?_))))))
  refine AD ?_
  exact⟨_,rfl,C4 4 0 (by simp[Ag,Ab,Ac,BZ B1,BD,WA,IB,CC,Ak])⟩
 rintro s rfl
 refine A8 rfl (fun hb3=>?_) (fun hb3=>?_)
 ·have hc3:=bp hb3
  have k2:f.name=⟨#[]⟩∨g.name=⟨#[]⟩:=by simpa using hc3
  refine w_ (a_ (h:=e_ (A6 (AR (A7 (?_))))))
  refine BM (r:= .v (.int .i64 (Df w).2)) none (h5:=(by rw[hren,if_neg k1,if_pos k2];exact LeA.refl _)) (h6:=⟨rfl,rfl,?_⟩)
  rw[hren,if_neg k1,if_pos k2]
  rfl
 have hc3:=bp hb3
 have k2:¬(f.name=⟨#[]⟩∨g.name=⟨#[]⟩):=by simpa using hc3
 refine B5 (fun s=>s=⟨look [(0, .bp 0 0),(3, .bp 2 0),(4, .bp 3 0),(35, .v (.bool (g.slash&& !AX w.s.spc.files f.file)))],⟨[WA w cap,IB w cap,Ak f,Ak g],[]⟩⟩) ?_ ?_
 ·skip
  refine AP (f_ (h:=l_ (h:=m_ (h:=?_))))
  refine Ax true rfl rfl (fun hb4=>?_) (fun hb4=>?_)
  ·have hc4:=bp hb4
   refine m_ (h:=?_)
   refine B6 (Cf 1 rfl (.cons _ _ _ _ _ rfl (LeA.of_eq rfl) (.cons _ _ _ _ _ rfl (LeA.refl _) .nil)) (Jp w .any 0 f hsb hf) ?_)
   rintro r rfl
   refine⟨rfl,?_⟩
   refine BA (h:=Af (h:=a_ (h:=AO (?_))))
   refine AD ?_
   exact⟨_,rfl,C4 4 0 (by simp[Ag,Ab,Ac,BZ B1,BD,WA,IB,CC,Ak])⟩
  have hc4:=bp hb4
  refine A3 (h:=A3 (h:=A3 (h:=Am (h:=a_ (h:=AO (?_))))))
  refine AD ?_
  exact⟨_,rfl,C4 4 0 (by simp[Ag,Ab,Ac,BZ B1,BD,WA,IB,CC,Ak])⟩
 rintro s rfl
 refine A8 rfl (fun hb5=>?_) (fun hb5=>?_)
 ·have hc5:=bp hb5
  have k3:g.slash=true∧AX w.s.spc.files f.file=false:=by simpa using hc5
  refine w_ (a_ (h:=e_ (A6 (AR (A7 (?_))))))
  refine BM (r:= .v (.int .i64 (Df w).2)) none (h5:=(by rw[hren,if_neg k1,if_neg k2,if_pos k3];exact LeA.refl _)) (h6:=⟨rfl,rfl,?_⟩)
  rw[hren,if_neg k1,if_neg k2,if_pos k3]
  rfl
 have hc5:=bp hb5
 have k3:¬(g.slash=true∧AX w.s.spc.files f.file=false):=by simpa using hc5
 refine w_ (f_ (h:=f_ (h:=l_ (h:=f_ (h:=f_ (h:=l_ (h:=BF (h:=a_ (h:=e_ (?_))))))))))
 refine A8 rfl (fun hb6=>?_) (fun hb6=>?_)
 ·have hc6:=bp hb6
  have k4:f.dir.1≠g.dir.1:=by simpa using hc6
  refine w_ (a_ (h:=e_ (A6 (AR (A7 (?_))))))
  refine BM (r:= .v (.int .i64 (Df w).2)) none (h5:=(by rw[hren,if_neg k1,if_neg k2,if_neg k3,if_pos k4];exact LeA.refl _)) (h6:=⟨rfl,rfl,?_⟩)
  rw[hren,if_neg k1,if_neg k2,if_neg k3,if_pos k4]
  rfl
 have hc6:=bp hb6
 have k4:¬f.dir.1≠g.dir.1:=by simpa using hc6
 refine B5 (fun s=>s=⟨look [(0, .bp 0 0),(3, .bp 2 0),(4, .bp 3 0),(51, .v (.bool (!C1 w f.dir 2|| !C1 w g.dir 2)))],⟨[WA w cap,IB w cap,Ak f,Ak g],[]⟩⟩) ?_ ?_
 ·skip
  refine AP (m_ (h:=f_ (h:=l_ (h:=?_))))
  refine A4 rfl (Cf 1 rfl (.cons _ _ _ _ _ rfl (LeA.of_eq rfl) (.cons _ _ _ _ _ rfl (LeA.refl _) (.cons _ _ _ _ _ rfl (LeA.refl _) .nil))) (H3 w .any f.dir 2 hsb) ?_)
  rintro r rfl
  refine⟨rfl,?_⟩
  refine BA (h:=m_ (h:=?_))
  refine Ax false rfl rfl (fun hb7=>?_) (fun hb7=>?_)
  ·have hc7:=bp hb7
   refine A3 (h:=A3 (h:=A3 (h:=A3 (h:=A3 (h:=Af (h:=a_ (h:=AO (?_))))))))
   refine AD ?_
   exact⟨_,rfl,C4 4 0 (by simp[Ag,Ab,Ac,BZ B1,BD,WA,IB,CC,Ak])⟩
  have hc7:=bp hb7
  refine m_ (h:=f_ (h:=l_ (h:=?_)))
  refine B6 (Cf 1 rfl (.cons _ _ _ _ _ rfl (LeA.of_eq rfl) (.cons _ _ _ _ _ rfl (LeA.refl _) (.cons _ _ _ _ _ rfl (LeA.refl _) .nil))) (H3 w .any g.dir 2 hsb) ?_)
  rintro r rfl
  refine⟨rfl,?_⟩
  refine BA (h:=Am (h:=a_ (h:=AO (?_))))
  refine AD ?_
  exact⟨_,rfl,C4 4 0 (by simp[Ag,Ab,Ac,BZ B1,BD,WA,IB,CC,Ak])⟩
 rintro s rfl
 refine A8 rfl (fun hb8=>?_) (fun hb8=>?_)
 ·have hc8:=bp hb8
  have k5:C1 w f.dir 2=false∨C1 w g.dir 2=false:=by simpa using hc8
  refine w_ (a_ (h:=e_ (A6 (AR (A7 (?_))))))
  refine BM (r:= .v (.int .i64 (Df w).2)) none (h5:=(by rw[hren,if_neg k1,if_neg k2,if_neg k3,if_neg k4,if_pos k5];exact LeA.refl _)) (h6:=⟨rfl,rfl,?_⟩)
  rw[hren,if_neg k1,if_neg k2,if_neg k3,if_neg k4,if_pos k5]
  rfl
 have hc8:=bp hb8
 have k5:¬(C1 w f.dir 2=false∨C1 w g.dir 2=false):=by simpa using hc8
 refine BB (Ay (t_ (?_)))
 refine B5 (fun s=>s=⟨look [(0, .bp 0 0),(3, .bp 2 0),(4, .bp 3 0),(5, .bp 4 0)],⟨[WA w cap,IB w cap,Ak f,Ak g,AA x],[]⟩⟩) ?_ ?_
 ·skip
  refine BH ([(0,WA w cap),(1,IB w cap),(2,Ak f),(3,Ak g)]) 17 (h:=AN 0 (h:=B7 1 (h:=AF 2 (h:=AF 3 (h:=AF 4 (h:=AJ 5 (h:=AF 6 (h:=AJ 7 (h:=AF 8 (h:=AJ 9 (h:=?_)))))))))))
  refine Da 10 14 rfl rfl ?_ ?_
  ·refine AK (hl1) ?_
   rintro r rfl
   refine o_ (h:=?_)
   refine AN 11 (h:=B4 12 (h:=B4 13 (h:=?_)))
   refine c_ 14 rfl (Bx (by repeat constructor) ?_)
   refine o_ (h:=?_)
   refine B0 15 rfl (Aw rfl rfl rfl rfl rfl rfl (by repeat constructor) (by repeat constructor) ?_)
   refine o_ (h:=BC 16 (h:=z_ (h:=?_)))
   refine AD ?_
   exact⟨_,rfl,CP 5 0⟩
  refine Bx (by repeat constructor) ?_
  refine o_ (h:=?_)
  refine c_ 10 rfl (AK (hl1) ?_)
  rintro r rfl
  refine o_ (h:=AN 11 (h:=B4 12 (h:=B4 13 (h:=?_))))
  refine B0 15 rfl (Aw rfl rfl rfl rfl rfl rfl (by repeat constructor) (by repeat constructor) ?_)
  refine o_ (h:=BC 16 (h:=z_ (h:=?_)))
  refine AD ?_
  exact⟨_,rfl,CP 5 0⟩
 rintro s rfl
 refine q_ (?_)
 refine B5 (fun s=>s=⟨look [(0, .bp 0 0),(3, .bp 2 0),(4, .bp 3 0),(5, .bp 4 0),(7, .bp 5 0),(8, .v (.int .i64 e2))],⟨[WA w cap,IB w cap,Ak f,Ak g,AA x,AA y],[]⟩⟩) ?_ ?_
 ·skip
  refine BH ([(0,WA w cap),(1,IB w cap),(2,Ak f),(3,Ak g),(4,AA x)]) 17 (h:=AN 0 (h:=B7 1 (h:=AF 2 (h:=AF 3 (h:=AF 4 (h:=AJ 5 (h:=AF 6 (h:=AJ 7 (h:=AF 8 (h:=AJ 9 (h:=?_)))))))))))
  refine Da 10 14 rfl rfl ?_ ?_
  ·refine AK (hl2) ?_
   rintro r rfl
   refine o_ (h:=?_)
   refine AN 11 (h:=B4 12 (h:=B4 13 (h:=?_)))
   refine c_ 14 rfl (Bx (by repeat constructor) ?_)
   refine o_ (h:=?_)
   refine B0 15 rfl (Aw rfl rfl rfl rfl rfl rfl (by repeat constructor) (by repeat constructor) ?_)
   refine o_ (h:=BC 16 (h:=z_ (h:=?_)))
   refine AD ?_
   exact⟨_,rfl,CP 6 0⟩
  refine Bx (by repeat constructor) ?_
  refine o_ (h:=?_)
  refine c_ 10 rfl (AK (hl2) ?_)
  rintro r rfl
  refine o_ (h:=AN 11 (h:=B4 12 (h:=B4 13 (h:=?_))))
  refine B0 15 rfl (Aw rfl rfl rfl rfl rfl rfl (by repeat constructor) (by repeat constructor) ?_)
  refine o_ (h:=BC 16 (h:=z_ (h:=?_)))
  refine AD ?_
  exact⟨_,rfl,CP 6 0⟩
 rintro s rfl
 refine B5 (fun s=>s=⟨look [(0, .bp 0 0),(3, .bp 2 0),(4, .bp 3 0),(5, .bp 4 0),(113, .v (.bool (decide (e2=0)&& !decide ((y.1,y.2)=(x.1,x.2))&&AX w.s.spc.files y&&Ff w y)))],⟨[WA w cap,IB w cap,Ak f,Ak g,AA x],[]⟩⟩) ?_ ?_
 ·skip
  refine DT 22 (h:=AN 0 (h:=Hz 1 (h:=AN 2 (h:=?_))))
  refine Hu (j:=2) rfl (fun hb9=>?_) (fun hb9=>?_)
  ·have hc9:=bp hb9
   refine AJ 3 (h:=AJ 4 (h:=?_))
   refine FL (i:=5) rfl (F1 rfl rfl (by repeat constructor) (by repeat constructor) (fun w=>Ph _ _ _ _ w) (by kernel_rfl) ⟨rfl,rfl⟩) ?_
   refine Hy 6 (h:=AN 7 (h:=?_))
   refine Hu (j:=7) rfl (fun hb10=>?_) (fun hb10=>?_)
   ·have hc10:=bp hb10
    refine AN 8 (h:=B7 9 (h:=AF 10 (h:=AF 11 (h:=AF 12 (h:=AJ 13 (h:=AJ 14 (h:=?_)))))))
    refine c_ 15 rfl (AK (GO w.s.spc.files y hsb.files) ?_)
    rintro r rfl
    refine o_ (h:=Hy 16 (h:=AN 17 (h:=?_)))
    refine Hu (j:=17) rfl (fun hb11=>?_) (fun hb11=>?_)
    ·have hc11:=bp hb11
     refine AN 18 (h:=AJ 19 (h:=?_))
     refine c_ 20 rfl (Cf 1 rfl (.cons _ _ _ _ _ rfl (LeA.of_eq rfl) (.cons _ _ _ _ _ rfl (LeA.refl _) .nil)) (Vh w .any y hsb hps) ?_)
     rintro r rfl
     refine⟨rfl,?_⟩
     refine o_ (h:=Hy 21 (h:=z_ (h:=?_)))
     refine AD ?_
     exact⟨_,rfl,Az 5 0 rfl rfl rfl (by simp[Ag,Ab,Ac,BZ B1,BD,WA,IB,CC,Ak,AA]) (by repeat (first|exact Sub.nil|refine Sub.cons _ _ _ rfl rfl ?_|refine Sub.any _ _ ?_|refine Sub.sl _ _ _ _ _ rfl ?_|refine Sub.slnil _ _ _ rfl ?_|(apply Sub.of;(focus exact rfl);(focus exact LeA.of_eq (vb (by first|(simp[*];done)|(simp only[*,decide_true,decide_false,Bool.not_true,Bool.not_false,Bool.true_and,Bool.and_true,Bool.false_and,Bool.and_false]))));(focus exact rfl))))⟩
    have hc11:=bp hb11
    refine BX 18 (h:=BX 19 (h:=BX 20 (h:=Ft 21 (h:=z_ (h:=?_)))))
    refine AD ?_
    exact⟨_,rfl,Az 5 0 rfl rfl rfl (by simp[Ag,Ab,Ac,BZ B1,BD,WA,IB,CC,Ak,AA]) (by repeat (first|exact Sub.nil|refine Sub.cons _ _ _ rfl rfl ?_|refine Sub.any _ _ ?_|refine Sub.sl _ _ _ _ _ rfl ?_|refine Sub.slnil _ _ _ rfl ?_|(apply Sub.of;(focus exact rfl);(focus exact LeA.of_eq (vb (by first|(simp[*];done)|(simp only[*,decide_true,decide_false,Bool.not_true,Bool.not_false,Bool.true_and,Bool.and_true,Bool.false_and,Bool.and_false]))));(focus exact rfl))))⟩
   have hc10:=bp hb10
   refine BX 8 (h:=BX 9 (h:=BX 10 (h:=BX 11 (h:=BX 12 (h:=BX 13 (h:=BX 14 (h:=BX 15 (h:=Ft 16 (h:=AN 17 (h:=BX 18 (h:=BX 19 (h:=BX 20 (h:=Ft 21 (h:=z_ (h:=?_)))))))))))))))
   refine AD ?_
   exact⟨_,rfl,Az 5 0 rfl rfl rfl (by simp[Ag,Ab,Ac,BZ B1,BD,WA,IB,CC,Ak,AA]) (by repeat (first|exact Sub.nil|refine Sub.cons _ _ _ rfl rfl ?_|refine Sub.any _ _ ?_|refine Sub.sl _ _ _ _ _ rfl ?_|refine Sub.slnil _ _ _ rfl ?_|(apply Sub.of;(focus exact rfl);(focus exact LeA.of_eq (vb (by first|(simp[*];done)|(simp only[*,decide_true,decide_false,Bool.not_true,Bool.not_false,Bool.true_and,Bool.and_true,Bool.false_and,Bool.and_false]))));(focus exact rfl))))⟩
  have hc9:=bp hb9
  refine BX 3 (h:=BX 4 (h:=BX 5 (h:=Ft 6 (h:=AN 7 (h:=BX 8 (h:=BX 9 (h:=BX 10 (h:=BX 11 (h:=BX 12 (h:=BX 13 (h:=BX 14 (h:=BX 15 (h:=Ft 16 (h:=AN 17 (h:=BX 18 (h:=BX 19 (h:=BX 20 (h:=Ft 21 (h:=z_ (h:=?_))))))))))))))))))))
  refine AD ?_
  exact⟨_,rfl,Az 5 0 rfl rfl rfl (by simp[Ag,Ab,Ac,BZ B1,BD,WA,IB,CC,Ak,AA]) (by repeat (first|exact Sub.nil|refine Sub.cons _ _ _ rfl rfl ?_|refine Sub.any _ _ ?_|refine Sub.sl _ _ _ _ _ rfl ?_|refine Sub.slnil _ _ _ rfl ?_|(apply Sub.of;(focus exact rfl);(focus exact LeA.of_eq (vb (by first|(simp[*];done)|(simp only[*,decide_true,decide_false,Bool.not_true,Bool.not_false,Bool.true_and,Bool.and_true,Bool.false_and,Bool.and_false]))));(focus exact rfl))))⟩
 rintro s rfl
 refine A8 rfl (fun hb12=>?_) (fun hb12=>?_)
 ·have hc12:=bp hb12
  have k6:=Vn.1 hb12
  refine w_ (a_ (h:=e_ (A6 (A7 (?_)))))
  refine BM (r:= .v (.int .i64 (Df w).2)) none (h5:=(by rw[hren,if_neg k1,if_neg k2,if_neg k3,if_neg k4,if_neg k5,if_pos k6];exact LeA.refl _)) (h6:=⟨rfl,rfl,?_⟩)
  rw[hren,if_neg k1,if_neg k2,if_neg k3,if_neg k4,if_neg k5,if_pos k6]
  rfl
 have hc12:=bp hb12
 have k6:¬(e2=0∧y≠x∧AX w.s.spc.files y=true∧Ff w y=true):=fun h=>by rw[Vn.2 h]at hb12;cases hb12
 refine AG (q_ (BH ([(0,WA w cap),(1,IB w cap),(2,Ak f),(3,Ak g)]) 19 (h:=AN 0 (h:=AN 1 (h:=B7 2 (h:=AF 3 (h:=AF 4 (h:=AF 5 (h:=AJ 6 (h:=AF 7 (h:=AJ 8 (h:=AF 9 (h:=AJ 10 (h:=AF 11 (h:=AJ 12 (h:=AF 13 (h:=AJ 14 (h:=?_))))))))))))))))))
 refine c_ 15 rfl (AK (hcall) ?_)
 rintro r rfl
 refine o_ (h:=B4 16 (h:=B4 17 (h:=B4 18 (h:=?_))))
 refine c_ 19 rfl (BV [0,1] rfl (.cons _ _ _ _ _ rfl (LeA.refl _) (.cons _ _ _ _ _ rfl (LeA.refl _) (.cons _ _ _ _ _ rfl (LeA.refl _) (.cons _ _ _ _ _ rfl (LeA.refl _) .nil)))) (by decide) (.cons _ _ _ _ _ rfl rfl (.cons _ _ _ _ _ rfl (Cg B1 _ _ _) .nil)) (LT w cap R.1 R.2.1 R.2.2) ?_)
 rintro r bc tc ⟨rfl,rfl,rfl⟩
 refine⟨rfl,_,D1 rfl (BN w R).1 cap,?_⟩
 refine o_ (h:=?_)
 refine c_ 20 rfl (FJ rfl ?_)
 refine o_ (h:=z_ (h:=t_ (q_ (?_))))
 refine B5 (fun s=>s=⟨look [(0, .bp 0 0),(5, .bp 4 0),(9, .v (.int .i64 R.2.2)),(144, .v (.bool (decide (R.2.2=0)&&decide (0<(R.2.1.length:Int)))))],⟨[WA (BN w R).1 cap,IB (BN w R).1 cap,Ak f,Ak g,AA x],[]⟩⟩) ?_ ?_
 ·skip
  refine AP (m_ (h:=AQ (h:=m_ (h:=?_))))
  refine Ax true rfl rfl (fun hb13=>?_) (fun hb13=>?_)
  ·have hc13:=bp hb13
   have hch:(BN w R).1.r.changes=R.2.1:=by rw[JJ hc13]
   refine m_ (h:=k_ (h:=f_ (h:=f_ (h:=l_ (h:=n_ (h:=CZ (h:=Af (h:=AO (?_)))))))))
   refine AD ?_
   exact⟨_,rfl,C4 5 0 (by simp[Ag,Ab,Ac,BZ B1,BD,WA,IB,CC,Ak,AA])⟩
  have hc13:=bp hb13
  refine A3 (h:=A3 (h:=A3 (h:=A3 (h:=A3 (h:=A3 (h:=A3 (h:=Am (h:=AO (?_)))))))))
  refine AD ?_
  exact⟨_,rfl,C4 5 0 (by simp[Ag,Ab,Ac,BZ B1,BD,WA,IB,CC,Ak,AA])⟩
 rintro s rfl
 refine A8 rfl (fun hb14=>?_) (fun hb14=>?_)
 ·have hc14:=bp hb14
  have h0:R.2.2=0:=of_decide_eq_true ((Bool.and_eq_true _ _).mp hb14).1
  have hfb:FlsB (Fg (BN w R).1 0 3).s.spc.files:=by rw[JJ h0];exact(hok h0).1.b
  have hit:(BN w R).1.r.items=w.r.items:=by rw[JJ h0]
  have hxa:(BN w R).1.r.items[0]?=some x0:=by rw[hit];exact hx0
  have hil1:0<(BN w R).1.r.items.length:=by rw[hit];exact hil
  have hxr:(Fg (BN w R).1 0 3).r.items[1]?=some x1:=by
   show((BN w R).1.r.items.modify 0 _)[1]?=_
   rw[hit,List.getElem?_modify]
   simp[hx1]
  refine B5 (fun s=>s=⟨look [(0, .bp 0 0),(5, .bp 4 0),(9, .v (.int .i64 R.2.2))],⟨[WA (Fg (BN w R).1 0 3) cap,IB (Fg (BN w R).1 0 3) cap,Ak f,Ak g,AA x],[]⟩⟩) ?_ ?_
  ·skip
   refine AP (m_ (h:=k_ (h:=f_ (h:=f_ (h:=l_ (h:=?_))))))
   refine A4 rfl (DF (m:=0) rfl rfl rfl hil1 ?_)
   refine f_ (h:=?_)
   refine K0 (Aw rfl rfl rfl rfl rfl rfl (JG B1 (x':={x0 with role:=3}) hxa (by repeat constructor) (List.cons_ne_nil _ _)) (by repeat constructor) ?_)
   refine AO (?_)
   refine AD ?_
   refine⟨_,rfl,?_⟩
   rw[Vq,Vr hxa]
   exact CP 5 0
  rintro s rfl
  refine AP (m_ (h:=l_ (h:=?_)))
  refine A4 rfl (BV [0,1] rfl (.cons _ _ _ _ _ rfl (LeA.refl _) (.cons _ _ _ _ _ rfl (LeA.refl _) (.cons _ _ _ _ _ rfl (LeA.refl _) .nil))) (by decide) (.cons _ _ _ _ _ rfl rfl (.cons _ _ _ _ _ rfl (Cg B1 _ _ _) .nil)) (RM (Fg (BN w R).1 0 3) cap 1 x x1 hfb hxr) ?_)
  rintro r bc tc ⟨rfl,rfl,rfl⟩
  refine⟨rfl,_,D1 rfl (GZ (Fg (BN w R).1 0 3) 1 x) cap,?_⟩
  refine e_ (w_ (m_ (h:=a_ (h:=e_ (A6 (?_))))))
  refine BM (r:= .v (.int .i64 (Df w).2)) none (h5:=(by rw[hren,if_neg k1,if_neg k2,if_neg k3,if_neg k4,if_neg k5,if_neg k6,Vo hb14];exact LeA.refl _)) (h6:=⟨rfl,rfl,?_⟩)
  rw[hren,if_neg k1,if_neg k2,if_neg k3,if_neg k4,if_neg k5,if_neg k6,Vo hb14]
  rfl
 have hc14:=bp hb14
 refine AG (w_ (m_ (h:=a_ (h:=e_ (A6 (?_))))))
 refine BM (r:= .v (.int .i64 (Df w).2)) none (h5:=(by rw[hren,if_neg k1,if_neg k2,if_neg k3,if_neg k4,if_neg k5,if_neg k6,Vp hb14];exact LeA.refl _)) (h6:=⟨rfl,rfl,?_⟩)
 rw[hren,if_neg k1,if_neg k2,if_neg k3,if_neg k4,if_neg k5,if_neg k6,Vp hb14]
 rfl
end
end Go.Proofs.YtbglbmnhgbgelaaGreatDoor
