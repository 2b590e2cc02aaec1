/-
  Part 14 of the proof of WatchHitsP: what the statement's proof uses of the texts in wip/tpl.
-/
import Derived.Test.YtbglbmnhgbgelaaGreatDoorQd13
set_option maxRecDepth 10000
set_option maxHeartbeats 4000000
set_option linter.unusedVariables false
set_option linter.unusedSimpArgs false
namespace Go.Proofs.YtbglbmnhgbgelaaGreatDoor
open Go.RowKit
theorem Vk:∀(l:List Dsc) (k:Nat),EN k l≤k+l.length
 |[],k=>Nat.le_refl _
 |d::l,k=>by
   unfold EN
   split
   ·have:=Vk l (k+1);simp only[List.length_cons];omega
   omega
theorem fX{α:Type}{l:List α}{j:Nat}{x:α}(h:l[j]?=some x):l.drop j=x::l.drop (j+1):=by
 obtain⟨hl,rfl⟩:=Ar.1 h
 exact List.drop_eq_getElem_cons hl
def Vl(p:Prc)(x:AV):List AV:=[.v (.int .i64 p.pid), .v (.int .i64 p.ppid), .v (.int .i64 p.uid), .v (.int .i64 p.euid), .v (.int .i64 p.gid), .v (.int .i64 p.egid), .v (.int .i64 p.auid), .v (.int .i64 p.ses), .v (.int .i64 p.cwd.1), .v (.int .i64 p.cwd.2), .v (.string p.comm), .v (.string p.exe),x, .v (.bool p.audited)]
theorem Vm(p:Prc)(rows:List (List AV))(g:Option Nat)(l:List Dsc)(h:rows=l.map Ez):LeA (.agg (Vl p (.sl 4 rows g))) (.agg (Av {p with opens:=l})):=by
 subst h
 unfold Vl Av
 repeat (first|exact LeA.refl _|exact LeA.tok _ _ _|refine LeA.agg ?_|exact LeL.nil|refine LeL.cons ?_ ?_)
def CY(R:Tab×Int):AV:= .tup [.agg (As R.1), .v (.int .i64 R.2)]
def JG(R:Tab×Int×Int):AV:= .tup [.agg (As R.1), .v (.int .i64 R.2.1), .v (.int .i64 R.2.2)]
theorem EP(e:Int):LeA (.tup [.agg Cv, .v (.int .i64 e)]) (CY (DH,e)):=(by repeat (first|exact LeA.refl _|exact LeA.nil _|exact LeL.refl _|refine LeA.agg ?_|refine LeA.tup ?_|exact LeL.nil|refine LeL.cons ?_ ?_|exact LeA.any _))
theorem N0(n e:Int):LeA (.tup [.agg Cv, .v (.int .i64 n), .v (.int .i64 e)]) (JG (DH,n,e)):=(by repeat (first|exact LeA.refl _|exact LeA.nil _|exact LeL.refl _|refine LeA.agg ?_|refine LeA.tup ?_|exact LeL.nil|refine LeL.cons ?_ ?_|exact LeA.any _))
def Oc(R:Syst×Int):AV:= .tup [.agg (BZ R.1), .v (.int .i64 R.2)]
def CD(w:Wrk):AV:= .sl 8 (w.found.map Al) none
section
theorem Vn(t:Tab)(pid:Int)(a:A9)(flags:Int)(ht:TabB t):AFn Tryz.prog 151 [.agg (As t), .v (.int .i64 pid), .agg (AA a), .v (.int .i64 flags)] (fun r=>r=JG (EZ t pid a flags)):=by
 have h8:=Fk ht pid
 have hol:((AU t pid).opens.map Ez).length=(AU t pid).opens.length:=List.length_map _
 have hfl:EN 0 (AU t pid).opens≤(AU t pid).opens.length:=by have:=Vk (AU t pid).opens 0;omega
 refine enter Tryz.func151 rfl rfl rfl rfl rfl 0 rfl ?_
 refine w_ (b_ (h:=b_ (h:=AW (h:=a_ (h:=a_ (h:=e_ (w_ (l_ (h:=m_ (h:=?_))))))))))
 refine A6 rfl (AK (Fl t pid ht) ?_)
 rintro r rfl
 refine m_ (h:=x_ (h:=x_ (h:=AW (h:=s_ (h:=a_ (h:=e_ (q_ (w_ (m_ (h:=BC (h:=e_ (?_))))))))))))
 refine A8 rfl (fun hb1=>?_) (fun hb1=>?_)
 ·have hc1:=bp hb1
  refine w_ (AT (h:=s_ (h:=a_ (h:=a_ (h:=e_ (A4 (A7 (?_))))))))
  refine Ai (r:=JG (EZ t pid a flags)) none (h5:=?_) (h6:=⟨rfl,rfl,rfl⟩)
  rw[EZ,if_pos (by simpa using hc1)]
  exact N0 _ _
 have hc1:=bp hb1
 have hhas:C1 t pid=true:=by simpa using hc1
 refine AJ (q_ (w_ (f_ (h:=l_ (h:=n_ (h:=Fu (h:=e_ (?_))))))))
 refine A8 rfl (fun hb2=>?_) (fun hb2=>?_)
 ·have hc2:=bp hb2
  refine w_ (AT (h:=s_ (h:=a_ (h:=a_ (h:=e_ (A4 (A7 (?_))))))))
  refine Ai (r:=JG (EZ t pid a flags)) none (h5:=?_) (h6:=⟨rfl,rfl,rfl⟩)
  rw[EZ,if_neg (by simp[hhas]),if_pos (by omega)]
  exact N0 _ _
 have hc2:=bp hb2
 refine AJ (w_ (a_ (h:=e_ (?_))))
 refine B5 (fun s=>s=⟨look [(3, .v (.int .i64 flags)),(4, .bp 0 0),(6, .bp 1 0),(8, .bp 2 0),(11, .bp 3 0),(13, .v (.int .i64 (EN 0 (AU t pid).opens:Nat)))],⟨[As t,AA a,Cv,Av (AU t pid)],[]⟩⟩) ?_ ?_
 ·skip
  refine Am (?_)
  refine Ba (fun m s=>∃j:Nat,j≤(AU t pid).opens.length∧m=(AU t pid).opens.length - j∧EN 0 (AU t pid).opens=EN j ((AU t pid).opens.drop j)∧s=⟨look [(3, .v (.int .i64 flags)),(4, .bp 0 0),(6, .bp 1 0),(8, .bp 2 0),(11, .bp 3 0),(13, .v (.int .i64 (j:Int)))],⟨[As t,AA a,Cv,Av (AU t pid)],[]⟩⟩) ((AU t pid).opens.length) ((wk 4 0)) (⟨0,Nat.zero_le _,rfl,rfl,rfl⟩) ?_
  rintro m s ⟨j,hj,rfl,hfd,rfl⟩
  refine q_ (w_ (m_ (h:=f_ (h:=l_ (h:=n_ (h:=BG (h:=m_ (h:=?_))))))))
  refine Ay true rfl rfl (fun hb3=>?_) (fun hb3=>?_)
  ·have hc3:=bp hb3
   obtain⟨hlt,d,hy,hrow, -⟩:=CZ Ez hc3
   have hdr:=fX hy
   refine f_ (h:=l_ (h:=m_ (h:=i_ (h:=f_ (h:=l_ (h:=m_ (h:=AQ (h:=Af (h:=e_ (?_))))))))))
   refine A8 rfl (fun hb4=>?_) (fun hb4=>?_)
   ·have hc4:=bp hb4
    have heq:d.fd=(j:Int):=by simpa using hc4
    refine AJ (Am (AP (m_ (h:=B8 (h:=a_ (h:=AO (Ax (?_))))))))
    refine AF ?_
    refine⟨_,_,?_,⟨j+1,by omega,rfl,by rw[hfd,hdr,EN,if_pos heq],rfl⟩,(wk 4 0)⟩
    omega
   have hc4:=bp hb4
   have hend:EN 0 (AU t pid).opens=j:=by rw[hfd,hdr,EN,if_neg (by simpa using hc4)]
   refine BR (Aq (Aq (BS (?_))))
   refine AF ?_
   refine⟨_,rfl,?_⟩
   rw[hend]
   exact(wk 4 0)
  have hc3:=bp hb3
  have hend:EN 0 (AU t pid).opens=j:=by rw[hfd,Ck Ez hj hc3,List.drop_length];rfl
  refine A3 (h:=A3 (h:=A3 (h:=A3 (h:=A3 (h:=A3 (h:=A3 (h:=A3 (h:=Ak (h:=e_ (GL (h:=BR (Aq (Aq (BS (?_)))))))))))))))
  refine AF ?_
  refine⟨_,rfl,?_⟩
  rw[hend]
  exact(wk 4 0)
 rintro s rfl
 refine w_ (f_ (h:=l_ (h:=m_ (h:=?_))))
 refine A6 rfl (XN (k:=EN 0 (AU t pid).opens) rfl rfl rfl (by omega) ?_)
 first|refine A6 rfl (Dz rfl rfl rfl (by simp;omega) (by repeat constructor) ?_)|refine A6 rfl (Hw rfl rfl (by simp;omega) (by repeat constructor) ?_)
 refine a_ (h:=e_ (w_ (m_ (h:=m_ (h:=l_ (h:=m_ (h:=AT (h:=Bk (h:=?_)))))))))
 refine A6 rfl (Dz rfl rfl rfl (by simp;omega) (by repeat constructor) ?_)
 refine a_ (h:=e_ (w_ (m_ (h:=f_ (h:=l_ (h:=m_ (h:=?_)))))))
 refine A6 rfl (PF (l:=EN 0 (AU t pid).opens) rfl rfl rfl (by omega) ?_)
 refine A6 rfl (Dz rfl rfl rfl (by simp;omega) (by repeat constructor) ?_)
 refine f_ (h:=s_ (h:=e_ (w_ (l_ (h:=?_)))))
 refine A6 rfl (En (y:= .agg (Av {AU t pid with opens:=LF (AU t pid).opens (EN 0 (AU t pid).opens) ⟨(EN 0 (AU t pid).opens:Nat),a,flags⟩})) (Fq rfl rfl rfl ⟨rfl,rfl⟩) (Vm _ _ _ _ (by simp[LF,Ez];rfl)) ?_)
 refine A6 rfl (AK (KU t {AU t pid with opens:=LF (AU t pid).opens (EN 0 (AU t pid).opens) ⟨(EN 0 (AU t pid).opens:Nat),a,flags⟩} ht (Jm hhas) (by simp[LF];omega)) ?_)
 rintro r rfl
 refine m_ (h:=s_ (h:=a_ (h:=a_ (h:=e_ (A4 (?_))))))
 refine AB ?_
 rw[EZ,if_neg (by simp[hhas]),if_neg (by omega)];rfl
theorem fY(a:A9):AFn Tryz.prog 85 [.agg (AA a)] (fun r=>r= .agg (As (LD a))):=by
 refine enter Tryz.func85 rfl rfl rfl rfl rfl 0 rfl ?_
 refine w_ (b_ (h:=AW (h:=e_ (w_ (l_ (h:=?_))))))
 refine A6 rfl (ET (y:= .agg (Av ⟨1,0,0,0,0,0,4294967295,4294967295,a,⟨#[105,110,105,116]⟩,⟨#[47,105,110,105,116]⟩,[],true⟩)) (Co ⟨rfl,rfl⟩) ?_)
 refine Bk (h:=AT (h:=s_ (h:=e_ (A4 (?_)))))
 refine AB ?_
 rfl
theorem Vo(n:Int):AFn Tryz.prog 44 [.v (.int .i64 n)] (fun r=>r=Oc (Ga n)):=by
 refine enter Tryz.func44 rfl rfl rfl rfl rfl 0 rfl ?_
 refine w_ (AW (h:=a_ (h:=e_ (w_ (m_ (h:=?_))))))
 refine A6 rfl (AK (Y9 n) ?_)
 rintro r rfl
 refine m_ (h:=x_ (h:=x_ (h:=AW (h:=s_ (h:=a_ (h:=e_ (q_ (w_ (m_ (h:=BK (h:=e_ (?_))))))))))))
 refine A8 rfl (fun hb1=>?_) (fun hb1=>?_)
 ·have hc1:=bp hb1
  refine w_ (AT (h:=m_ (h:=s_ (h:=a_ (h:=e_ (A4 (A7 (?_))))))))
  refine Ai (r:=Oc (Ga n)) none (h5:=?_) (h6:=⟨rfl,rfl,rfl⟩)
  rw[Ga,if_pos (by simpa using hc1)]
  exact(by repeat (first|exact LeA.refl _|exact LeA.nil _|exact LeL.refl _|refine LeA.agg ?_|refine LeA.tup ?_|exact LeL.nil|refine LeL.cons ?_ ?_|exact LeA.any _))
 have hc1:=bp hb1
 refine AJ (q_ (BF ([(1,At (EU n).1)]) 7 (h:=AD 0 (h:=Gk 1 (h:=Gk 2 (h:=?_))))))
 refine c_ 3 rfl (AK (fY (0,1)) ?_)
 rintro r rfl
 refine o_ (h:=Gk 4 (h:=?_))
 refine Az 5 rfl (Aw rfl rfl rfl rfl rfl rfl (by repeat constructor) (by repeat constructor) ?_)
 refine o_ (h:=BB 6 (h:=z_ (h:=t_ (A4 (?_)))))
 refine Ai (r:=Oc (Ga n)) none (h5:=?_) (h6:=⟨rfl,rfl,rfl⟩)
 rw[Ga,if_neg (by simpa using hc1)]
 exact(by repeat (first|exact LeA.refl _|exact LeA.nil _|exact LeL.refl _|refine LeA.agg ?_|refine LeA.tup ?_|exact LeL.nil|refine LeL.cons ?_ ?_|exact LeA.any _))
theorem Ge(s:Syst)(hs:SpcB s.spc)(ht:TabB s.tab):AFn Tryz.prog 64 [.agg (BZ s)] (fun r=>r= .agg (BZ s)):=by
 refine enter Tryz.func64 rfl rfl rfl rfl rfl 0 rfl ?_
 refine w_ (b_ (h:=AW (h:=e_ (q_ (BF ([(0,BZ s)]) 7 (h:=AE 0 (h:=?_)))))))
 refine AD 1 (h:=?_)
 refine AE 3 (h:=?_)
 refine AD 4 (h:=?_)
 refine c_ 2 rfl (AK (dS s.spc hs) ?_)
 rintro r rfl
 refine o_ (h:=?_)
 refine c_ 5 rfl (AK (VA s.tab ht) ?_)
 rintro r rfl
 refine o_ (h:=Gk 6 (h:=?_))
 refine Az 7 rfl (Aw rfl rfl rfl rfl rfl rfl (by repeat constructor) (by repeat constructor) ?_)
 refine o_ (h:=z_ (h:=t_ (A4 (?_))))
 refine AB ?_
 rfl
theorem fZ(s:Spc)(given:AG)(perm:Int)(f:Fnd)(hs:SpcB s):AFn Tryz.prog 112 [.agg (Ah s), .v (.string given), .v (.int .i64 perm), .agg (Al f)] (fun r=>r= .agg (BY (Ms s given perm f))):=by
 refine enter Tryz.func112 rfl rfl rfl rfl rfl 0 rfl ?_
 refine w_ (b_ (h:=b_ (h:=AW (h:=e_ (w_ (f_ (h:=l_ (h:=f_ (h:=l_ (h:=?_))))))))))
 refine A6 rfl (AK (Dn s.files f.file hs.files) ?_)
 rintro r rfl
 refine m_ (h:=x_ (h:=x_ (h:=AW (h:=s_ (h:=a_ (h:=e_ (w_ (m_ (h:=f_ (h:=l_ (h:=f_ (h:=l_ (h:=f_ (h:=l_ (h:=f_ (h:=l_ (h:=f_ (h:=l_ (h:=f_ (h:=l_ (h:=f_ (h:=l_ (h:=f_ (h:=?_))))))))))))))))))))))))
 refine l_ (h:=m_ (h:=AT (h:=s_ (h:=e_ (A4 (?_))))))
 refine AB ?_
 rfl
theorem H0(w:Wrk)(its:AV)(a:A9)(want:Int)(hs:SpcB w.s.spc):AFn Tryz.prog 149 [.fp (Cu w (CD w) its), .agg (AA a), .v (.int .i64 want)] (fun r=>r= .v (.bool (C3 w a want))):=by
 refine enter Tryz.func149 rfl rfl rfl rfl rfl 0 rfl ?_
 refine w_ (b_ (h:=a_ (h:=e_ (q_ (BF ([(0,AA a)]) 14 (h:=AN 0 (h:=B7 1 (h:=AE 2 (h:=AE 3 (h:=AE 4 (h:=AD 5 (h:=AD 6 (h:=?_)))))))))))))
 refine E0 7 11 rfl rfl ?_ ?_
 ·refine AK (Dn w.s.spc.files a hs.files) ?_
  rintro r rfl
  refine o_ (h:=?_)
  refine AN 8 (h:=B6 9 (h:=B6 10 (h:=?_)))
  refine c_ 11 rfl (Bw (by repeat constructor) ?_)
  refine o_ (h:=?_)
  refine Az 12 rfl (Aw rfl rfl rfl rfl rfl rfl (by repeat constructor) (by repeat constructor) ?_)
  refine o_ (h:=BB 13 (h:=z_ (h:=t_ (q_ (DU 14 (h:=AD 0 (h:=AN 1 (h:=B7 2 (h:=AE 3 (h:=AE 4 (h:=AD 5 (h:=AN 6 (h:=B7 7 (h:=AE 8 (h:=AE 9 (h:=AD 10 (h:=AN 11 (h:=?_))))))))))))))))))
  refine c_ 12 rfl (AK (VE (Aa w.s.spc.files a) w.p.euid w.p.egid want) ?_)
  rintro r rfl
  refine o_ (h:=BB 13 (h:=z_ (h:=t_ (A4 (?_)))))
  refine AB ?_
  rfl
 refine Bw (by repeat constructor) ?_
 refine o_ (h:=?_)
 refine c_ 7 rfl (AK (Dn w.s.spc.files a hs.files) ?_)
 rintro r rfl
 refine o_ (h:=AN 8 (h:=B6 9 (h:=B6 10 (h:=?_))))
 refine Az 12 rfl (Aw rfl rfl rfl rfl rfl rfl (by repeat constructor) (by repeat constructor) ?_)
 refine o_ (h:=BB 13 (h:=z_ (h:=t_ (q_ (DU 14 (h:=AD 0 (h:=AN 1 (h:=B7 2 (h:=AE 3 (h:=AE 4 (h:=AD 5 (h:=AN 6 (h:=B7 7 (h:=AE 8 (h:=AE 9 (h:=AD 10 (h:=AN 11 (h:=?_))))))))))))))))))
 refine c_ 12 rfl (AK (VE (Aa w.s.spc.files a) w.p.euid w.p.egid want) ?_)
 rintro r rfl
 refine o_ (h:=BB 13 (h:=z_ (h:=t_ (A4 (?_)))))
 refine AB ?_
 rfl
theorem Jn(w:Wrk)(its:AV)(i:Nat)(f:Fnd)(hs:SpcB w.s.spc)(hf:w.found[i]?=some f):AFn Tryz.prog 153 [.fp (Cu w (CD w) its), .v (.int .i64 (i:Int))] (fun r=>r= .v (.bool (AY w.s.spc.files f.file))):=by
 have hrow:(w.found.map Al)[i]?=some (Al f):=by rw[List.getElem?_map,hf];rfl
 refine enter Tryz.func153 rfl rfl rfl rfl rfl 0 rfl ?_
 refine w_ (a_ (h:=e_ (q_ (DU 16 (h:=AN 0 (h:=B7 1 (h:=AE 2 (h:=AE 3 (h:=AE 4 (h:=AD 5 (h:=AN 6 (h:=B7 7 (h:=AE 8 (h:=AD 9 (h:=AN 10 (h:=Dl 11 (h:=AE 12 (h:=AD 13 (h:=?_)))))))))))))))))))
 refine c_ 14 rfl (AK (Gl w.s.spc.files f.file hs.files) ?_)
 rintro r rfl
 refine o_ (h:=BB 15 (h:=z_ (h:=t_ (A4 (?_)))))
 refine AB ?_
 rfl
theorem Vp(w:Wrk)(its:AV)(a:A9)(hs:SpcB w.s.spc)(hp:w.s.tab.ps.length≤1000):AFn Tryz.prog 156 [.fp (Cu w (CD w) its), .agg (AA a)] (fun r=>r= .v (.bool (Fh w a))):=by
 refine enter Tryz.func156 rfl rfl rfl rfl rfl 0 rfl ?_
 refine w_ (b_ (h:=a_ (h:=e_ (q_ (q_ (DU 7 (h:=AN 0 (h:=B7 1 (h:=AE 2 (h:=AE 3 (h:=AD 4 (h:=AD 5 (h:=?_)))))))))))))
 refine c_ 6 rfl (AK (T3 w.s.spc a hs) ?_)
 rintro r rfl
 refine o_ (h:=z_ (h:=t_ (?_)))
 refine A8 rfl (fun hb1=>?_) (fun hb1=>?_)
 ·have hc1:=bp hb1
  refine w_ (a_ (h:=e_ (A4 (A7 (?_)))))
  refine AB ?_
  first|(exfalso;first|contradiction|omega)|(exact vb (by simp[Fh, *]))
 have hc1:=bp hb1
 refine AJ (q_ (w_ (a_ (h:=e_ (Am (?_))))))
 refine Ba (fun m s=>∃j:Nat,j≤w.s.tab.ps.length∧m=w.s.tab.ps.length - j∧(∀i y,i<j→w.s.tab.ps[i]?=some y→decide (y.cwd=a)=false)∧s=⟨look [(0, .fp (Cu w (CD w) its)),(3, .bp 0 0),(5, .v (.int .i64 (j:Int)))],⟨[AA a],[]⟩⟩) (w.s.tab.ps.length) ((wk 1 0)) (⟨0,Nat.zero_le _,rfl,fun i y hi=>by omega,rfl⟩) ?_
 rintro m s ⟨j,hj,rfl,ha,rfl⟩
 refine q_ (w_ (m_ (h:=m_ (h:=k_ (h:=f_ (h:=f_ (h:=f_ (h:=l_ (h:=n_ (h:=BG (h:=e_ (?_))))))))))))
 refine A8 rfl (fun hb2=>?_) (fun hb2=>?_)
 ·have hc2:=bp hb2
  obtain⟨hlt,p,hy,hrow, -⟩:=CZ Av hc2
  refine AJ (q_ (Am (q_ (DU 12 (h:=AN 0 (h:=B7 1 (h:=AE 2 (h:=AE 3 (h:=AE 4 (h:=AD 5 (h:=AN 6 (h:=Dl 7 (h:=AE 8 (h:=AD 9 (h:=AD 10 (h:=?_))))))))))))))))
  refine EF (i:=11) rfl (ER rfl rfl (by repeat constructor) (by repeat constructor) (fun w=>KC _ _ _ _ w) (by kernel_rfl) ⟨rfl,rfl⟩) ?_
  refine z_ (h:=t_ (?_))
  refine A8 rfl (fun hb3=>?_) (fun hb3=>?_)
  ·have hc3:=bp hb3
   have hany:(w.s.tab.ps.any fun p=>decide (p.cwd=a))=true:=KE hy (decide_eq_true hc3)
   refine w_ (a_ (h:=e_ (A4 (AR (A7 (A7 (AR (A7 (?_)))))))))
   refine AB ?_
   first|(exfalso;first|contradiction|omega)|(exact vb (by simp[Fh, *]))
  have hc3:=bp hb3
  have hne:decide (p.cwd=a)=false:=decide_eq_false hc3
  refine BA (Ax (t_ (AP (m_ (h:=B8 (h:=a_ (h:=AO (?_))))))))
  refine AF ?_
  refine⟨_,_,?_,⟨j+1,by omega,rfl,E1 hy ha hne,rfl⟩,(wk 1 0)⟩
  omega
 have hc2:=bp hb2
 have e:=Ck Av hj hc2
 have hany:(w.s.tab.ps.any fun p=>decide (p.cwd=a))=false:=Kv (by rw[←e];exact ha)
 refine BR (Aq (Aq (BS (t_ (w_ (a_ (h:=e_ (A4 (?_)))))))))
 refine AB ?_
 first|(exfalso;first|contradiction|omega)|(exact vb (by simp[Fh, *]))
end
theorem g7{α:Type}{sz:Nat}{F:α→List AV}(hF:RowF sz F){l:List α}{j cap:Nat}{x x':α}(h:l.length=j):SetAt (LB sz F (l++[x]) cap) (0+j * sz) (F x') (LB sz F (l++[x']) cap):=by
 have h1:(l++[x])[j]?=some x:=by rw[←h];simp
 have h2:(l++[x]).set j x'=l++[x']:=by rw[←h];simp
 have key:=V2 hF (cap:=cap) (x':=x') h1
 rwa [h2]at key
theorem Vq{is:List Nat}:∀i,i<1→(0::is)[i]?=some i:=by
 intro i hi
 obtain rfl:i=0:=by omega
 rfl
theorem g8{f:Nat→Option AV}{bx:List (List AV)}{tk:List Cb}{N:Dim}(i:Nat){row row':List AV}(hi:bx[i]?=some row)(hle:LeL row row'):Weak N ⟨f,⟨bx,tk⟩⟩ ⟨f,⟨bx.set i row',tk⟩⟩:=by
 rintro E a w ⟨G,h1,h2,h3⟩
 exact⟨G,h1.boxLe hi (fun us hu=>hle G w us hu),h2,h3⟩
theorem g9(w:Wrk)(rows:List (List AV))(g:Option Nat)(I:AV):LeL (Cu w (.sl 8 rows g) I) (Cu w (.sl 8 rows none) I):=by
 unfold Cu
 repeat (first|exact LeL.nil|refine LeL.cons (LeA.refl _) ?_|refine LeL.cons (LeA.tok _ _ _) ?_)
theorem BD{n m:Nat}(w:Wrk)(F I:AV):Ab n m (Cu w F I)=(Ac n m F&&Ac n m I):=by
 simp[Cu,Ab,Ac]
def Eh(l:List Fnd):AV:= .sl 8 (l.map Al) (some 0)
def LO(w:Wrk)(e:Int)(j:Nat):List Itm×List Fnd×Int:=Hl w.s.spc w.p.cwd (Cs w.c) ((w.c.paths.zip (C8 w.c)).take j) e
def LK(w:Wrk)(e:Int):List Itm×List Fnd×Int:=Hl w.s.spc w.p.cwd (Cs w.c) (w.c.paths.zip (C8 w.c)) e
theorem gA{w:Wrk}{e:Int}{j:Nat}{g:AG×Int}(h:(w.c.paths.zip (C8 w.c))[j]?=some g):LO w e (j+1)=FF w.s.spc w.p.cwd (Cs w.c) (LO w e j) g:=by
 unfold LO Hl
 rw[List.take_add_one,h,List.foldl_append]
 rfl
theorem gB{w:Wrk}{e:Int}{j:Nat}(h:(w.c.paths.zip (C8 w.c)).length≤j):LO w e j=LK w e:=by
 unfold LO LK
 rw[List.take_of_length_le h]
def WA(w:Wrk)(cap:Nat):List AV:=Cu w (CD w) (.bs 1 0 13 w.r.items.length cap)
def IB(w:Wrk)(cap:Nat):List AV:=LB 13 BY w.r.items cap
theorem D2{bx:List (List AV)}{a b:List AV}{rest:List (List AV)}(hb:bx=a::b::rest)(w:Wrk)(cap:Nat):Back bx [0,1] [WA w cap,IB w cap] (WA w cap::IB w cap::rest):=by
 subst hb
 have:=Mw (bx:=a::b::rest) (is:=[0,1]) (bc:=[WA w cap,IB w cap]) (by simp) (by simp) (by simp)
 have e1:DG (Da [0,1] (a::b::rest).length) (WA w cap)=WA w cap:=rfl
 have e2:DG (Da [0,1] (a::b::rest).length) (IB w cap)=IB w cap:=Ch B0 _ _ _
 have hb:DC (a::b::rest) (Da [0,1] (a::b::rest).length) [0,1] [WA w cap,IB w cap]=WA w cap::IB w cap::rest:=by
  unfold DC
  rw[e1]
  unfold DC
  rw[e2]
  simp[DC]
 rw[hb]at this
 exact this
section
theorem Vr(w:Wrk)(e:Int)(hv:SpcV w.s.spc)(hm:w.s.spc.mounts.length≤1000)(hp:w.c.paths.length=(C8 w.c).length)(hpl:w.c.paths.length≤1000)(h0:0<w.c.paths.length)(hps:∀p∈w.c.paths,p.size≤100000):
    ACall Tryz.prog 66 [.bp 0 0, .v (.int .i64 e)] [Cu w (.v (.slice none 0 0)) (.v (.slice none 0 0))] (fun r b t=>t=[]∧∃cap,(LK w e).1.length≤cap∧r= .v (.int .i64 (LK w e).2.2)∧b=[Cu w (.sl 8 ((LK w e).2.1.map Al) none) (.bs 1 0 13 (LK w e).1.length cap),LB 13 BY (LK w e).1 cap]):=by
 have hsb:=hv.b hm
 have hsn:=hv.n hm
 refine enter Tryz.func66 rfl rfl rfl rfl rfl 2 rfl ?_
 refine w_ (a_ (h:=e_ (w_ (m_ (h:=k_ (h:=f_ (h:=l_ (h:=?_))))))))
 refine A6 rfl (AK (VH w.c) ?_)
 rintro r rfl
 refine a_ (h:=e_ (?_))
 refine B5 (fun s=>∃cap,(LK w e).1.length≤cap∧s=⟨look [(1, .v (.int .i64 (LK w e).2.2))],⟨[Cu w (.sl 8 ((LK w e).2.1.map Al) none) (.bs 1 0 13 (LK w e).1.length cap),LB 13 BY (LK w e).1 cap],[]⟩⟩) ?_ ?_
 ·skip
  refine w_ (a_ (h:=e_ (Am (?_))))
  refine Ko 0 26 113 8 rfl rfl (by repeat constructor) (by repeat constructor) (by repeat constructor) ?_
  refine Ba (fun m s=>∃(j:Nat) (X:List Itm×List Fnd×Int) (Y:AV) (Z:List (List AV)),j≤w.c.paths.length∧m=w.c.paths.length - j∧LO w e j=X∧X.1.length=j∧X.2.1.length=j∧((Y= .v (.slice none 0 0)∧Z=[]∧X.1=[])∨∃cap,X.1.length≤cap∧Y= .bs 1 0 13 X.1.length cap∧Z=[LB 13 BY X.1 cap])∧s=⟨look [(0, .bp 0 0),(1, .v (.int .i64 X.2.2)),(5, .sl 1 ((C8 w.c).map CB) none),(6, .v (.int .i64 (j:Int)))],⟨Cu w (Eh X.2.1) Y::Z,[(113,8,X.2.1.map Al)]⟩⟩) (w.c.paths.length) ((wk 1 1)) (⟨0,([],[],e),_,_,Nat.zero_le _,rfl,rfl,rfl,rfl, .inl ⟨rfl,rfl,rfl⟩,rfl⟩) ?_
  rintro m s ⟨j,X,Y,Z,hj,rfl,hX,hl1,hl2,hYZ,rfl⟩
  refine q_ (w_ (m_ (h:=m_ (h:=k_ (h:=f_ (h:=f_ (h:=l_ (h:=n_ (h:=BG (h:=e_ (?_)))))))))))
  refine A8 rfl (fun hb1=>?_) (fun hb1=>?_)
  ·have hc1:=bp hb1
   obtain⟨hlt,y,hy,hrow, -⟩:=CZ Ct hc1
   obtain⟨pj,hpj⟩:∃z,(C8 w.c)[j]?=some z:=⟨_,B3 (by omega)⟩
   have hrow2:((C8 w.c).map CB)[j]?=some (CB pj):=by rw[List.getElem?_map,hpj];rfl
   have hz:(w.c.paths.zip (C8 w.c))[j]?=some (y,pj):=List.getElem?_zip_eq_some.2 ⟨hy,hpj⟩
   have hk:=gA (e:=e) hz
   rw[hX]at hk
   have hys:=hps y (Au hy)
   refine AJ (q_ (Am (?_)))
   refine B5 (fun s=>∃cap,X.1.length+1≤cap∧s=⟨look [(0, .bp 0 0),(1, .v (.int .i64 X.2.2)),(5, .sl 1 ((C8 w.c).map CB) none),(6, .v (.int .i64 (j:Int)))],⟨[Cu w (Eh X.2.1) (.bs 1 0 13 (X.1.length+1) cap),LB 13 BY (X.1++[Fg y pj]) cap],[(113,8,X.2.1.map Al)]⟩⟩) ?_ ?_
   ·rcases hYZ with⟨rfl,rfl,hX0⟩|⟨cap,hcp,rfl,rfl⟩
    ·skip
     refine BF ([(0,Cu w (Eh X.2.1) (.v (.slice none 0 0)))]) 24 (h:=AN 0 (h:=AN 1 (h:=B7 2 (h:=AE 3 (h:=AE 4 (h:=AD 5 (h:=AN 6 (h:=B7 7 (h:=AE 8 (h:=AE 9 (h:=AD 10 (h:=AN 11 (h:=Dl 12 (h:=AD 13 (h:=AN 14 (h:=AN 15 (h:=Dl 16 (h:=AD 17 (h:=?_)))))))))))))))))))
     refine Bn 18 rfl (fun _ hS=>En (y:= .agg (BY (Fg y pj))) (Co ⟨rfl,rfl⟩) (LeA.refl _) ⟨rfl,rfl⟩) ?_
     refine Hz 19 (h:=?_)
     refine c_ 20 rfl (M1 rfl rfl JB (by omega) (by omega) ?_)
     rintro cap2 k bx2 hcp hs
     rw[show CV (.agg (BY (Fg y pj)))++List.replicate ((cap2 - 1) * 13) AV.any=LB 13 BY [Fg y pj] cap2 from V3 B0 _ cap2]at hs
     obtain⟨rfl,rfl⟩:k=1∧bx2=[_,_]:=hs.eq
     refine o_ (h:=?_)
     refine B7 21 (h:=AE 22 (h:=AE 23 (h:=?_)))
     refine Az 24 rfl (Aw rfl rfl rfl rfl rfl rfl (by repeat constructor) (by repeat constructor) ?_)
     refine o_ (h:=z_ (h:=?_))
     refine AF ?_
     refine⟨_,⟨cap2,by rw[hX0];exact hcp,rfl⟩,?_⟩
     rw[hX0]
     exact Be 2 1 (by simp[Ag,Ab,Ac,Bc B0,BD,Eh])
    skip
    refine BF ([(0,Cu w (Eh X.2.1) (.bs 1 0 13 X.1.length cap))]) 24 (h:=AN 0 (h:=AN 1 (h:=B7 2 (h:=AE 3 (h:=AE 4 (h:=AD 5 (h:=AN 6 (h:=B7 7 (h:=AE 8 (h:=AE 9 (h:=AD 10 (h:=AN 11 (h:=Dl 12 (h:=AD 13 (h:=AN 14 (h:=AN 15 (h:=Dl 16 (h:=AD 17 (h:=?_)))))))))))))))))))
    refine Bn 18 rfl (fun _ hS=>En (y:= .agg (BY (Fg y pj))) (Co ⟨rfl,rfl⟩) (LeA.refl _) ⟨rfl,rfl⟩) ?_
    refine Hz 19 (h:=?_)
    refine c_ 20 rfl (Kq rfl rfl rfl (by rw[Mv B0 hcp];omega) JB (by omega) (by omega) ?_ ?_)
    ·rintro hg row2 bx2 hs hb
     obtain rfl:=R9 B0 hs hg
     obtain rfl:bx2=[_,_]:=hb.one.2
     refine o_ (h:=?_)
     refine B7 21 (h:=AE 22 (h:=AE 23 (h:=?_)))
     refine Az 24 rfl (Aw rfl rfl rfl rfl rfl rfl (by repeat constructor) (by repeat constructor) ?_)
     refine o_ (h:=z_ (h:=?_))
     refine AF ?_
     exact⟨_,⟨cap,hg,rfl⟩,Be 2 1 (by simp[Ag,Ab,Ac,Bc B0,BD,Eh])⟩
    rintro hg cap3 k bx2 hcp3 hs
    rw[show((LB 13 BY X.1 cap).drop 0).take (X.1.length * 13)++CV (.agg (BY (Fg y pj)))++List.replicate ((cap3 - (X.1.length+1)) * 13) AV.any=LB 13 BY (X.1++[Fg y pj]) cap3 from R8 B0 X.1 _ cap cap3]at hs
    obtain⟨rfl,rfl⟩:k=2∧bx2=[_,_,_]:=hs.eq
    refine o_ (h:=?_)
    refine B7 21 (h:=AE 22 (h:=AE 23 (h:=?_)))
    refine Az 24 rfl (Aw rfl rfl rfl rfl rfl rfl (by repeat constructor) (by repeat constructor) ?_)
    refine o_ (h:=z_ (h:=?_))
    refine AF ?_
    first|exact⟨_,⟨cap,hg,rfl⟩,Be 2 1 (by simp[Ag,Ab,Ac,Bc B0,BD,Eh])⟩|exact⟨_,⟨cap3,hcp3,rfl⟩,E7 [0,2] Vq (by decide) (.cons _ _ _ _ _ rfl rfl (.cons _ _ _ _ _ rfl (Gb B0 _ _ _) .nil)) (by repeat (first|exact SubK.nil|refine SubK.cons _ _ _ _ rfl (LeA.refl _) ?_))⟩
   rintro s ⟨cap,hcp,rfl⟩
   refine w_ (AW (h:=e_ (?_)))
   refine B5 (fun s=>∃(it:Itm) (F:Fnd) (e2:Int),FF w.s.spc w.p.cwd (Cs w.c) X (y,pj)=(X.1++[it],X.2.1++[F],e2)∧s=⟨look [(0, .bp 0 0),(1, .v (.int .i64 e2)),(5, .sl 1 ((C8 w.c).map CB) none),(6, .v (.int .i64 (j:Int))),(7, .bp 2 0)],⟨[Cu w (Eh X.2.1) (.bs 1 0 13 (X.1.length+1) cap),LB 13 BY (X.1++[it]) cap,Al F],[(113,8,X.2.1.map Al)]⟩⟩) ?_ ?_
   ·skip
    refine w_ (m_ (h:=AQ (h:=e_ (?_))))
    refine A8 rfl (fun hb2=>?_) (fun hb2=>?_)
    ·have hc2:=bp hb2
     have he0:X.2.2=0:=by simpa using hc2
     refine q_ (BF ([(0,Cu w (Eh X.2.1) (.bs 1 0 13 (X.1.length+1) cap)),(1,LB 13 BY (X.1++[Fg y pj]) cap)]) 29 (h:=AN 0 (h:=B7 1 (h:=AE 2 (h:=AE 3 (h:=AD 4 (h:=AN 5 (h:=B7 6 (h:=AE 7 (h:=AE 8 (h:=AD 9 (h:=AN 10 (h:=B7 11 (h:=AE 12 (h:=AE 13 (h:=AD 14 (h:=AN 15 (h:=Dl 16 (h:=AD 17 (h:=AN 18 (h:=B7 19 (h:=AE 20 (h:=AD 21 (h:=?_))))))))))))))))))))))))
     refine c_ 22 rfl (AK (cW w.c) ?_)
     rintro r rfl
     refine o_ (h:=?_)
     refine c_ 23 rfl (AK (Vj w.s.spc w.p.cwd y (Cs w.c) hsn hv hys) ?_)
     rintro r rfl
     refine o_ (h:=AN 24 (h:=B6 25 (h:=B6 26 (h:=?_))))
     refine Az 27 rfl (Aw rfl rfl rfl rfl rfl rfl (by repeat constructor) (by repeat constructor) ?_)
     refine o_ (h:=BB 28 (h:=z_ (h:=t_ (w_ (m_ (h:=AQ (h:=e_ (?_))))))))
     refine A8 rfl (fun hb3=>?_) (fun hb3=>?_)
     ·have hc3:=bp hb3
      have hf0:(Bi w.s.spc w.p.cwd y (Cs w.c)).2=0:=by simpa using hc3
      refine BF ([(0,Cu w (Eh X.2.1) (.bs 1 0 13 (X.1.length+1) cap)),(1,LB 13 BY (X.1++[Fg y pj]) cap),(2,Al (Bi w.s.spc w.p.cwd y (Cs w.c)).1)]) 26 (h:=AN 0 (h:=B7 1 (h:=AE 2 (h:=AE 3 (h:=AD 4 (h:=AN 5 (h:=AN 6 (h:=B7 7 (h:=AE 8 (h:=AE 9 (h:=AD 10 (h:=AN 11 (h:=B7 12 (h:=AE 13 (h:=AE 14 (h:=AD 15 (h:=AN 16 (h:=Dl 17 (h:=AD 18 (h:=AN 19 (h:=AN 20 (h:=Dl 21 (h:=AD 22 (h:=?_))))))))))))))))))))))))
      refine AD 23 (h:=?_)
      refine c_ 24 rfl (AK (fZ w.s.spc y pj (Bi w.s.spc w.p.cwd y (Cs w.c)).1 hsb) ?_)
      rintro r rfl
      refine o_ (h:=?_)
      refine Bn 25 rfl (fun _ hS=>DF (m:=j) rfl rfl rfl (by omega) ⟨rfl,rfl⟩) ?_
      refine Az 26 rfl (Aw rfl rfl rfl rfl rfl rfl (g7 B0 hl1) (by repeat constructor) ?_)
      refine o_ (h:=z_ (h:=?_))
      refine AF ?_
      exact⟨_,⟨Ms w.s.spc y pj (Bi w.s.spc w.p.cwd y (Cs w.c)).1,(Bi w.s.spc w.p.cwd y (Cs w.c)).1,(Bi w.s.spc w.p.cwd y (Cs w.c)).2,(by rw[FF,if_pos he0,if_pos hf0,hf0]),rfl⟩,Be 3 1 (by simp[Ag,Ab,Ac,Bc B0,BD,Eh,Al])⟩
     have hc3:=bp hb3
     have hf0:¬(Bi w.s.spc w.p.cwd y (Cs w.c)).2=0:=by simpa using hc3
     refine BA (?_)
     refine AF ?_
     first|exact⟨_,⟨Ms w.s.spc y pj (Bi w.s.spc w.p.cwd y (Cs w.c)).1,(Bi w.s.spc w.p.cwd y (Cs w.c)).1,(Bi w.s.spc w.p.cwd y (Cs w.c)).2,(by rw[FF,if_pos he0,if_pos hf0,hf0]),rfl⟩,Be 3 1 (by simp[Ag,Ab,Ac,Bc B0,BD,Eh,Al])⟩|exact⟨_,⟨Fg y pj,(Bi w.s.spc w.p.cwd y (Cs w.c)).1,(Bi w.s.spc w.p.cwd y (Cs w.c)).2,(by rw[FF,if_pos he0,if_neg hf0]),rfl⟩,Be 3 1 (by simp[Ag,Ab,Ac,Bc B0,BD,Eh,Al])⟩
    have hc2:=bp hb2
    have he0:¬X.2.2=0:=by simpa using hc2
    refine BA (?_)
    refine AF ?_
    first|exact⟨_,⟨Ms w.s.spc y pj (Bi w.s.spc w.p.cwd y (Cs w.c)).1,(Bi w.s.spc w.p.cwd y (Cs w.c)).1,(Bi w.s.spc w.p.cwd y (Cs w.c)).2,(by rw[FF,if_pos he0,if_pos hf0,hf0]),rfl⟩,Be 3 1 (by simp[Ag,Ab,Ac,Bc B0,BD,Eh,Al])⟩|exact⟨_,⟨Fg y pj,(Bi w.s.spc w.p.cwd y (Cs w.c)).1,(Bi w.s.spc w.p.cwd y (Cs w.c)).2,(by rw[FF,if_pos he0,if_neg hf0]),rfl⟩,Be 3 1 (by simp[Ag,Ab,Ac,Bc B0,BD,Eh,Al])⟩|exact⟨_,⟨Fg y pj,DO,X.2.2,(by rw[FF,if_neg he0]),rfl⟩,Be 3 1 (by simp[Ag,Ab,Ac,Bc B0,BD,Eh,Al])⟩
   rintro s ⟨it,F,e2,hlk,rfl⟩
   refine BF ([(0,Cu w (Eh X.2.1) (.bs 1 0 13 (X.1.length+1) cap)),(2,Al F)]) 10 (h:=AN 0 (h:=AN 1 (h:=B7 2 (h:=AE 3 (h:=AD 4 (h:=AD 5 (h:=Hz 6 (h:=?_))))))))
   refine c_ 7 rfl (Dz rfl rfl rfl (by simp;omega) (by repeat constructor) ?_)
   refine o_ (h:=B7 8 (h:=AE 9 (h:=?_)))
   refine Az 10 rfl (Aw rfl rfl rfl rfl rfl rfl (by repeat constructor) (by repeat constructor) ?_)
   refine o_ (h:=z_ (h:=Ax (t_ (AP (m_ (h:=B8 (h:=a_ (h:=AO (?_)))))))))
   refine AF ?_
   refine⟨w.c.paths.length - (j+1),_,by omega,⟨j+1,(X.1++[it],X.2.1++[F],e2), .bs 1 0 13 (X.1++[it]).length cap,[LB 13 BY (X.1++[it]) cap],by omega,rfl,by rw[hk,hlk],by simp;omega,by simp;omega, .inr ⟨cap,by simpa using hcp,rfl,rfl⟩,rfl⟩,?_⟩
   rw[List.length_append]
   unfold Eh
   rw[List.map_append]
   exact Be 2 1 (by simp[Ag,Ab,Ac,Bc B0,BD])
  have hc1:=bp hb1
  have e3:=Ck Ct hj hc1
  rcases hYZ with⟨_,_,hX0⟩|⟨cap,hcp,rfl,rfl⟩
  ·exfalso
   rw[hX0]at hl1
   simp at hl1
   omega
  have hfin:LK w e=X:=by rw[←hX];exact(gB (by rw[List.length_zip];omega)).symm
  refine BR (Aq (Aq (BS (?_))))
  refine AF ?_
  refine⟨_,⟨cap,by rw[hfin];exact hcp,rfl⟩,?_⟩
  rw[hfin]
  exact(g8 0 rfl (g9 w _ _ _)).trans (Be 2 0 (by simp[Ag,Ab,Ac,Bc B0,BD]))
 rintro s ⟨cap,hcp,rfl⟩
 refine w_ (m_ (h:=a_ (h:=e_ (A4 (?_)))))
 refine Ai (r:= .v (.int .i64 (LK w e).2.2)) none (h4:=(by simp[Ag,Ab,Ac,Bc B0,BD])) (h5:=(LeA.refl _)) (h6:=⟨rfl,cap,hcp,rfl,rfl⟩)
theorem LP(w:Wrk)(cap:Nat)(f:AZ)(l:List Dm)(e:Int):ACall Tryz.prog 154 [.bp 0 0, .agg (At f), .sl 7 (l.map CN) none, .v (.int .i64 e)] [WA w cap,IB w cap] (fun r b t=>t=[]∧r= .v (.int .i64 e)∧b=[WA (BO w (f,l,e)).1 cap,IB (BO w (f,l,e)).1 cap]):=by
 refine enter Tryz.func154 rfl rfl rfl rfl rfl 2 rfl ?_
 refine w_ (b_ (h:=a_ (h:=e_ (q_ (w_ (m_ (h:=AQ (h:=e_ (?_)))))))))
 refine A8 rfl (fun hb1=>?_) (fun hb1=>?_)
 ·have hc1:=bp hb1
  refine w_ (m_ (h:=l_ (h:=k_ (h:=f_ (h:=f_ (h:=f_ (h:=s_ (h:=e_ (AP (m_ (h:=m_ (h:=k_ (h:=f_ (h:=f_ (h:=s_ (h:=e_ (w_ (m_ (h:=a_ (h:=e_ (A4 (?_))))))))))))))))))))))
  refine Ai (r:= .v (.int .i64 e)) none (h4:=(by simp[Ag,Ab,Ac,Bc B0,IB,CD])) (h5:=(LeA.refl _)) (h6:=⟨rfl,rfl,?_⟩)
  rw[BO,if_pos hc1]
  rfl
 have hc1:=bp hb1
 refine AJ (w_ (m_ (h:=a_ (h:=e_ (A4 (?_))))))
 refine Ai (r:= .v (.int .i64 e)) none (h4:=(by simp[Ag,Ab,Ac,Bc B0,BD,WA,IB,CD])) (h5:=(LeA.refl _)) (h6:=⟨rfl,rfl,?_⟩)
 rw[BO,if_neg hc1]
 rfl
theorem RN(w:Wrk)(cap:Nat)(t:Tab)(e:Int):ACall Tryz.prog 152 [.bp 0 0, .agg (As t), .v (.int .i64 e)] [WA w cap,IB w cap] (fun r b tk=>tk=[]∧r= .v (.int .i64 e)∧b=[WA (C4 w (t,e)).1 cap,IB (C4 w (t,e)).1 cap]):=by
 refine enter Tryz.func152 rfl rfl rfl rfl rfl 2 rfl ?_
 refine w_ (b_ (h:=a_ (h:=e_ (q_ (w_ (m_ (h:=AQ (h:=e_ (?_)))))))))
 refine A8 rfl (fun hb1=>?_) (fun hb1=>?_)
 ·have hc1:=bp hb1
  refine AP (m_ (h:=l_ (h:=k_ (h:=f_ (h:=f_ (h:=s_ (h:=e_ (w_ (m_ (h:=a_ (h:=e_ (A4 (?_)))))))))))))
  refine Ai (r:= .v (.int .i64 e)) none (h4:=(by simp[Ag,Ab,Ac,Bc B0,IB,CD])) (h5:=(LeA.refl _)) (h6:=⟨rfl,rfl,?_⟩)
  rw[C4,if_pos hc1]
  rfl
 have hc1:=bp hb1
 refine AJ (w_ (m_ (h:=a_ (h:=e_ (A4 (?_))))))
 refine Ai (r:= .v (.int .i64 e)) none (h4:=(by simp[Ag,Ab,Ac,Bc B0,BD,WA,IB,CD])) (h5:=(LeA.refl _)) (h6:=⟨rfl,rfl,?_⟩)
 rw[C4,if_neg hc1]
 rfl
end
section
variable {P:Program}{rs:List ResultVar}{n:Nat}{R:AV→List (List AV)→List Cb→Prop}{s:AS}{xs:List AV}{r:AV}
theorem BN(g:Option Nat){tk':List Cb}(h1:ResA P s rs xs:=by repeat (first|exact ResA.nil|(apply ResA.tmp;(focus exact rfl))|(apply ResA.cellN;(focus exact inferInstance);(focus exact rfl);(focus exact rfl);(focus exact rfl))|(apply ResA.cell1;(focus exact inferInstance);(focus exact rfl);(focus exact rfl);(focus exact rfl))))(h2:JW s.h.tk g=some tk':=by rfl)(h3:Ac n 1 (DJ g (EQ xs))=true:=by rfl)(h4:Ag n 0 (s.h.bx.take n)=true:=by simp[Ag,Ab,Ac,Bc B0,BD,WA,IB,CD,Al,Aj,AA,As,Ah,At])(h5:LeA (DJ g (EQ xs)) r)(h6:R r (s.h.bx.take n) tk'):JX P rs n R .ret s:=PJ g h1 h2 h3 h4 h5 h6
end
theorem CS{f:Nat→Option AV}{bx:List (List AV)}{tk:List (Nat×Nat×List (List AV))}{l:List (Nat×AV)}{N:Dim}(n m:Nat){bx':List (List AV)}{tk':List (Nat×Nat×List (List AV))}(hn:Nat.ble N.ni n=true:=by rfl)(hb:bx.take n=bx':=by rfl)(ht:tk.take m=tk':=by rfl)(hbp:Ag n m bx'=true:=by simp[Ag,Ab,Ac,Bc B0,BD,WA,IB,CD,Al,Aj,AA,As,Ah,At])(hl:Sub n m f l:=by repeat (first|exact Sub.nil|refine Sub.cons _ _ _ rfl rfl ?_|refine Sub.any _ _ ?_|refine Sub.sl _ _ _ _ _ rfl ?_|refine Sub.slnil _ _ _ rfl ?_)):Weak N ⟨f,⟨bx,tk⟩⟩ ⟨look l,⟨bx',tk'⟩⟩:=B1 n m hn hb ht hbp hl
theorem Vs{α:Type}{l:List α}{i:Nat}{x:α}(h:l[i]?=some x)(f:α→α):l.modify i f=l.set i (f x):=by
 apply List.ext_getElem?
 intro k
 rw[List.getElem?_modify,List.getElem?_set]
 obtain⟨hl,rfl⟩:=Ar.1 h
 by_cases e:i=k
 ·subst e
  simp[hl]
 simp[e]
theorem gC(w:Wrk)(R:DR):(BO w R).2=R.2.2:=by
 unfold BO
 split
 ·rename_i h;exact h.symm
 rfl
theorem Hq(w:Wrk)(R:Tab×Int):(C4 w R).2=R.2:=by
 unfold C4
 split
 ·rename_i h;exact h.symm
 rfl
theorem JH{w:Wrk}{R:DR}(h:R.2.2=0):(BO w R).1={w with s:=⟨⟨R.1,w.s.spc.mounts⟩,w.s.tab⟩,r:={w.r with changes:=R.2.1}}:=by
 unfold BO
 rw[if_pos h]
theorem Od{w:Wrk}{R:DR}(h:¬R.2.2=0):(BO w R).1=w:=by
 unfold BO
 rw[if_neg h]
theorem Vt{f:AZ}{dir:A9}{name:AG}{n:Nod}(h0:(Dr f dir name n).2.2=0):∃c,(Dr f dir name n).2.1=[c]:=by
 unfold Dr at h0 ⊢
 split at h0
 ·rename_i c;exact absurd h0 c
 rename_i c1
 rw[if_neg c1]
 split at h0
 ·exact absurd h0 (by decide)
 rename_i c2
 rw[if_neg c2]
 split at h0
 ·exact absurd h0 (by decide)
 rename_i c3
 rw[if_neg c3]
 cases e:EG f dir.1 with
 |none=>rw[e]at h0;simp at h0
 |some d=>
   rw[e]at h0
   simp only at h0 ⊢
   split at h0
   ·exact absurd h0 (by decide)
   rename_i c4
   rw[if_neg c4]
   exact⟨_,rfl⟩
theorem gD{w:Wrk}{i:Nat}{n:Nod}(h:(CR w i n).2=0):∃c,(CR w i n).1.r.changes=[c]:=by
 unfold CR at h ⊢
 split at h
 ·rename_i h0
  obtain⟨c,hc⟩:=Vt h0
  rw[if_pos h0,JH h0]
  exact⟨c,hc⟩
 rename_i h0;exact absurd h h0
theorem gE(w:Wrk)(i:Nat)(n:Nod):(CR w i n).1.s.tab=w.s.tab∧(CR w i n).1.p=w.p∧(CR w i n).1.c=w.c:=by
 unfold CR
 split
 ·rename_i h0
  rw[JH h0]
  exact⟨rfl,rfl,rfl⟩
 exact⟨rfl,rfl,rfl⟩
section
theorem RO(w:Wrk)(cap i:Nat)(a:A9)(x:Itm)(hs:FlsB w.s.spc.files)(hx:w.r.items[i]?=some x):ACall Tryz.prog 155 [.bp 0 0, .v (.int .i64 (i:Int)), .agg (AA a)] [WA w cap,IB w cap] (fun r b t=>t=[]∧r= .tup []∧b=[WA (GX w i a) cap,IB (GX w i a) cap]):=by
 have hil:=(Ar.1 hx).1
 have hst:∀y:Itm,(w.r.items.set i y)[i]?=some y:=fun y=>by rw[List.getElem?_set_self hil]
 have hfin:w.r.items.modify i (V0 (Aa w.s.spc.files a) a)=w.r.items.set i {x with role:=2,file:=a,kind:=(Aa w.s.spc.files a).kind,mode:=(Aa w.s.spc.files a).mode,uid:=(Aa w.s.spc.files a).uid,gid:=(Aa w.s.spc.files a).gid}:=by rw[Vs hx];rfl
 refine enter Tryz.func155 rfl rfl rfl rfl rfl 2 rfl ?_
 refine w_ (b_ (h:=e_ (?_)))
 refine B5 (fun s=>s=⟨look [(0, .bp 0 0),(1, .v (.int .i64 (i:Int))),(5, .bp 2 0),(6, .bp 3 0)],⟨[WA w cap,IB w cap,AA a,Aj (Aa w.s.spc.files a)],[]⟩⟩) ?_ ?_
 ·skip
  refine BF ([(0,WA w cap),(1,IB w cap),(2,AA a)]) 14 (h:=AN 0 (h:=B7 1 (h:=AE 2 (h:=AE 3 (h:=AE 4 (h:=AD 5 (h:=AD 6 (h:=?_))))))))
  refine E0 7 11 rfl rfl ?_ ?_
  ·refine AK (Dn w.s.spc.files a hs) ?_
   rintro r rfl
   refine o_ (h:=?_)
   refine AN 8 (h:=B6 9 (h:=B6 10 (h:=?_)))
   refine c_ 11 rfl (Bw (by repeat constructor) ?_)
   refine o_ (h:=?_)
   refine Az 12 rfl (Aw rfl rfl rfl rfl rfl rfl (by repeat constructor) (by repeat constructor) ?_)
   refine o_ (h:=BB 13 (h:=z_ (h:=?_)))
   refine AF ?_
   exact⟨_,rfl,CS 4 0⟩
  refine Bw (by repeat constructor) ?_
  refine o_ (h:=?_)
  refine c_ 7 rfl (AK (Dn w.s.spc.files a hs) ?_)
  rintro r rfl
  refine o_ (h:=AN 8 (h:=B6 9 (h:=B6 10 (h:=?_))))
  refine Az 12 rfl (Aw rfl rfl rfl rfl rfl rfl (by repeat constructor) (by repeat constructor) ?_)
  refine o_ (h:=BB 13 (h:=z_ (h:=?_)))
  refine AF ?_
  exact⟨_,rfl,CS 4 0⟩
 rintro s rfl
 refine w_ (m_ (h:=k_ (h:=f_ (h:=f_ (h:=l_ (h:=m_ (h:=?_)))))))
 refine A6 rfl (DF (m:=i) rfl rfl rfl hil ?_)
 refine a_ (h:=e_ (BF ([(0,WA w cap),(2,AA a),(3,Aj (Aa w.s.spc.files a))]) 33 (h:=AN 0 (h:=AN 1 (h:=AN 2 (h:=AN 3 (h:=AN 4 (h:=AN 5 (h:=AD 6 (h:=AE 7 (h:=AD 8 (h:=AE 9 (h:=AD 10 (h:=AE 11 (h:=AD 12 (h:=AE 13 (h:=AD 14 (h:=B7 15 (h:=AE 16 (h:=?_))))))))))))))))))))
 refine Az 17 rfl (Aw rfl rfl rfl rfl rfl rfl (JF B0 (x':={x with role:=2}) hx (by repeat constructor) (List.cons_ne_nil _ _)) (by repeat constructor) ?_)
 refine o_ (h:=B7 18 (h:=AE 19 (h:=?_)))
 refine Az 20 rfl (Aw rfl rfl rfl rfl rfl rfl (JF B0 (x':={x with role:=2,file:=a}) (hst _) (by repeat constructor) (List.cons_ne_nil _ _)) (by repeat constructor) ?_)
 refine o_ (h:=B7 21 (h:=AE 22 (h:=?_)))
 refine Az 23 rfl (Aw rfl rfl rfl rfl rfl rfl (JF B0 (x':={x with role:=2,file:=a,kind:=(Aa w.s.spc.files a).kind}) (by rw[List.set_set];exact hst _) (by repeat constructor) (List.cons_ne_nil _ _)) (by repeat constructor) ?_)
 refine o_ (h:=B7 24 (h:=AE 25 (h:=?_)))
 refine Az 26 rfl (Aw rfl rfl rfl rfl rfl rfl (JF B0 (x':={x with role:=2,file:=a,kind:=(Aa w.s.spc.files a).kind,mode:=(Aa w.s.spc.files a).mode}) (by rw[List.set_set,List.set_set];exact hst _) (by repeat constructor) (List.cons_ne_nil _ _)) (by repeat constructor) ?_)
 refine o_ (h:=B7 27 (h:=AE 28 (h:=?_)))
 refine Az 29 rfl (Aw rfl rfl rfl rfl rfl rfl (JF B0 (x':={x with role:=2,file:=a,kind:=(Aa w.s.spc.files a).kind,mode:=(Aa w.s.spc.files a).mode,uid:=(Aa w.s.spc.files a).uid}) (by rw[List.set_set,List.set_set,List.set_set];exact hst _) (by repeat constructor) (List.cons_ne_nil _ _)) (by repeat constructor) ?_)
 refine o_ (h:=B7 30 (h:=AE 31 (h:=?_)))
 refine Az 32 rfl (Aw rfl rfl rfl rfl rfl rfl (JF B0 (x':={x with role:=2,file:=a,kind:=(Aa w.s.spc.files a).kind,mode:=(Aa w.s.spc.files a).mode,uid:=(Aa w.s.spc.files a).uid,gid:=(Aa w.s.spc.files a).gid}) (by rw[List.set_set,List.set_set,List.set_set,List.set_set];exact hst _) (by repeat constructor) (List.cons_ne_nil _ _)) (by repeat constructor) ?_)
 refine o_ (h:=z_ (h:=?_))
 refine Nq (r:= .tup []) none (h4:=(by simp[Ag,Ab,Ac,Bc B0,BD,WA,CD])) (h5:=(LeA.refl _)) (h6:=⟨rfl,rfl,?_⟩)
 rw[List.set_set,List.set_set,List.set_set,List.set_set,List.set_set]
 unfold WA IB GX
 simp only[hfin,List.length_set]
 rfl
theorem RP(w:Wrk)(cap i:Nat)(n:Nod)(f:Fnd)(x:Itm)(hv:FlsV w.s.spc.files)(hf:w.found[i]?=some f)(hx:w.r.items[i]?=some x)(hn:f.name.size≤100000)(ht:n.target.size≤100000)(hne:n.entries=[]):ACall Tryz.prog 150 [.bp 0 0, .v (.int .i64 (i:Int)), .agg (Aj n)] [WA w cap,IB w cap] (fun r b t=>t=[]∧r= .v (.int .i64 (CR w i n).2)∧b=[WA (CR w i n).1 cap,IB (CR w i n).1 cap]):=by
 have hrow:(w.found.map Al)[i]?=some (Al f):=by rw[List.getElem?_map,hf];rfl
 have hfn:B2 w i=f:=by unfold B2;rw[hf];rfl
 have hmk:EB w i n=Dr w.s.spc.files f.dir f.name (Mt w n):=by unfold EB;rw[hfn]
 have hok:=Qd hv f.dir f.name (Mt w n)
 rw[←hmk]at hok
 have hcall:AFn Tryz.prog 45 [.agg (At w.s.spc.files), .agg (AA f.dir), .v (.string f.name), .agg (Aj (Mt w n))] (fun r=>r=CK (EB w i n)):=by rw[hmk];exact ZW _ _ _ _ hv hn ht
 refine enter Tryz.func150 rfl rfl rfl rfl rfl 2 rfl ?_
 refine w_ (b_ (h:=a_ (h:=e_ (q_ (BF ([(0,WA w cap),(1,IB w cap)]) 14 (h:=AN 0 (h:=B7 1 (h:=AE 2 (h:=AE 3 (h:=AD 4 (h:=AN 5 (h:=B7 6 (h:=AE 7 (h:=AE 8 (h:=AD 9 (h:=AE 10 (h:=?_)))))))))))))))))
 refine Az 11 rfl (Aw rfl rfl rfl rfl rfl rfl (by repeat constructor) (by repeat constructor) ?_)
 refine o_ (h:=AE 12 (h:=?_))
 refine Az 13 rfl (Aw rfl rfl rfl rfl rfl rfl (by repeat constructor) (by repeat constructor) ?_)
 refine o_ (h:=z_ (h:=t_ (q_ (BF ([(0,WA w cap),(1,IB w cap),(2,Aj (Mt w n))]) 28 (h:=AN 0 (h:=AN 1 (h:=B7 2 (h:=AE 3 (h:=AE 4 (h:=AE 5 (h:=AD 6 (h:=AN 7 (h:=B7 8 (h:=AE 9 (h:=AD 10 (h:=AN 11 (h:=Dl 12 (h:=AE 13 (h:=AD 14 (h:=AN 15 (h:=B7 16 (h:=AE 17 (h:=AD 18 (h:=?_))))))))))))))))))))))))
 refine AN 19 (h:=Dl 20 (h:=AE 21 (h:=AD 22 (h:=AD 23 (h:=?_)))))
 refine c_ 24 rfl (AK (hcall) ?_)
 rintro r rfl
 refine o_ (h:=B6 25 (h:=B6 26 (h:=B6 27 (h:=?_))))
 refine c_ 28 rfl (BW [0,1] rfl (.cons _ _ _ _ _ rfl (LeA.refl _) (.cons _ _ _ _ _ rfl (LeA.refl _) (.cons _ _ _ _ _ rfl (LeA.refl _) (.cons _ _ _ _ _ rfl (LeA.refl _) .nil)))) (by decide) (.cons _ _ _ _ _ rfl rfl (.cons _ _ _ _ _ rfl (Ch B0 _ _ _) .nil)) (LP w cap (EB w i n).1 (EB w i n).2.1 (EB w i n).2.2) ?_)
 rintro r bc tc ⟨rfl,rfl,rfl⟩
 refine⟨rfl,_,D2 rfl (BO w (EB w i n)).1 cap,?_⟩
 refine o_ (h:=?_)
 refine c_ 29 rfl (FJ rfl ?_)
 refine o_ (h:=z_ (h:=t_ (q_ (w_ (m_ (h:=AQ (h:=e_ (?_))))))))
 refine A8 rfl (fun hb1=>?_) (fun hb1=>?_)
 ·have hc1:=bp hb1
  have h0:(EB w i n).2.2=0:=hc1
  obtain⟨c,hc⟩:∃c,(EB w i n).2.1=[c]:=by rw[hmk]at h0 ⊢;exact Vt h0
  have hch:(BO w (EB w i n)).1.r.changes=[c]:=by rw[JH h0];exact hc
  have hx1:(BO w (EB w i n)).1.r.items[i]?=some x:=by rw[JH h0];exact hx
  have hfb:FlsB (BO w (EB w i n)).1.s.spc.files:=by rw[JH h0];exact(hok h0).1.b
  have hrow2:((BO w (EB w i n)).1.r.changes.map CN)[0]?=some (CN c):=by rw[hch];rfl
  refine AP (m_ (h:=m_ (h:=m_ (h:=k_ (h:=f_ (h:=f_ (h:=l_ (h:=?_))))))))
  refine A6 rfl (CF (n:=0) rfl rfl rfl hrow2 ?_)
  refine f_ (h:=l_ (h:=?_))
  refine A6 rfl (BW [0,1] rfl (.cons _ _ _ _ _ rfl (LeA.refl _) (.cons _ _ _ _ _ rfl (LeA.refl _) (.cons _ _ _ _ _ rfl (LeA.refl _) .nil))) (by decide) (.cons _ _ _ _ _ rfl rfl (.cons _ _ _ _ _ rfl (Ch B0 _ _ _) .nil)) (RO (BO w (EB w i n)).1 cap i c.2.2.2 x hfb hx1) ?_)
  rintro r bc tc ⟨rfl,rfl,rfl⟩
  refine⟨rfl,_,D2 rfl (GX (BO w (EB w i n)).1 i c.2.2.2) cap,?_⟩
  refine e_ (w_ (m_ (h:=a_ (h:=e_ (A4 (?_))))))
  refine BN (r:= .v (.int .i64 (CR w i n).2)) none (h5:=(by rw[CR,if_pos h0];exact LeA.of_eq (vi h0))) (h6:=⟨rfl,rfl,?_⟩)
  rw[CR,if_pos h0,hc]
  rfl
 have hc1:=bp hb1
 have h0:¬(EB w i n).2.2=0:=hc1
 refine AJ (w_ (m_ (h:=a_ (h:=e_ (A4 (?_))))))
 refine BN (r:= .v (.int .i64 (CR w i n).2)) none (h5:=(by rw[CR,if_neg h0];exact LeA.refl _)) (h6:=⟨rfl,rfl,?_⟩)
 rw[CR,if_neg h0,Od h0]
 rfl
theorem Vu(w:Wrk)(cap:Nat)(f:Fnd)(x:Itm)(hv:SpcV w.s.spc)(hm:w.s.spc.mounts.length≤1000)(htb:TabB w.s.tab)(hf:w.found[0]?=some f)(hx:w.r.items[0]?=some x)(hn:f.name.size≤100000):ACall Tryz.prog 114 [.bp 0 0] [WA w cap,IB w cap] (fun r b t=>t=[]∧r= .v (.int .i64 (C9 w).2)∧b=[WA (C9 w).1 cap,IB (C9 w).1 cap]):=by
 have hsb:=hv.b hm
 have hrow:(w.found.map Al)[0]?=some (Al f):=by rw[List.getElem?_map,hf];rfl
 have hfn:B2 w 0=f:=by unfold B2;rw[hf];rfl
 refine enter Tryz.func114 rfl rfl rfl rfl rfl 2 rfl ?_
 refine w_ (a_ (h:=e_ (q_ (BF ([(0,WA w cap),(1,IB w cap)]) 15 (h:=AN 0 (h:=B7 1 (h:=AE 2 (h:=AD 3 (h:=Dl 4 (h:=AD 5 (h:=AN 6 (h:=B7 7 (h:=AE 8 (h:=AE 9 (h:=?_)))))))))))))))
 refine Bn 10 rfl (fun _ hS=>CG (len:=4) (sz:=1) (n:=0) (by kernel_rfl) rfl rfl rfl rfl ⟨rfl,rfl⟩) ?_
 refine AD 11 (h:=?_)
 refine c_ 12 rfl (Bw (by repeat constructor) ?_)
 refine o_ (h:=?_)
 refine Az 13 rfl (Aw rfl rfl rfl rfl rfl rfl (by repeat constructor) (by repeat constructor) ?_)
 refine o_ (h:=BB 14 (h:=z_ (h:=t_ (?_))))
 refine B5 (fun s=>∃(w2:Wrk) (F2:Fnd),C9 w=G7 w2 F2.file∧TabB w2.s.tab∧s=⟨look [(0, .bp 0 0),(3, .bp 2 0),(4, .v (.int .i64 w2.c.a0))],⟨[WA w2 cap,IB w2 cap,Al F2],[]⟩⟩) ?_ ?_
 ·skip
  refine w_ (f_ (h:=l_ (h:=e_ (?_))))
  refine A8 rfl (fun hb1=>?_) (fun hb1=>?_)
  ·have hc1:=bp hb1
   have hex:(B2 w 0).ex=true:=by rw[hfn];exact hc1
   refine B5 (fun s=>s=⟨look [(0, .bp 0 0),(3, .bp 2 0),(4, .v (.int .i64 w.c.a0)),(5, .bp 3 0)],⟨[WA w cap,IB w cap,Al f,Aj (Aa w.s.spc.files f.file)],[]⟩⟩) ?_ ?_
   ·skip
    refine BF ([(0,WA w cap),(1,IB w cap),(2,Al f)]) 15 (h:=AN 0 (h:=B7 1 (h:=AE 2 (h:=AE 3 (h:=AE 4 (h:=AD 5 (h:=AE 6 (h:=AD 7 (h:=?_)))))))))
    refine E0 8 12 rfl rfl ?_ ?_
    ·refine AK (Dn w.s.spc.files f.file hsb.files) ?_
     rintro r rfl
     refine o_ (h:=?_)
     refine AN 9 (h:=B6 10 (h:=B6 11 (h:=?_)))
     refine c_ 12 rfl (Bw (by repeat constructor) ?_)
     refine o_ (h:=?_)
     refine Az 13 rfl (Aw rfl rfl rfl rfl rfl rfl (by repeat constructor) (by repeat constructor) ?_)
     refine o_ (h:=BB 14 (h:=z_ (h:=?_)))
     refine AF ?_
     exact⟨_,rfl,CS 4 0⟩
    refine Bw (by repeat constructor) ?_
    refine o_ (h:=?_)
    refine c_ 8 rfl (AK (Dn w.s.spc.files f.file hsb.files) ?_)
    rintro r rfl
    refine o_ (h:=AN 9 (h:=B6 10 (h:=B6 11 (h:=?_))))
    refine Az 13 rfl (Aw rfl rfl rfl rfl rfl rfl (by repeat constructor) (by repeat constructor) ?_)
    refine o_ (h:=BB 14 (h:=z_ (h:=?_)))
    refine AF ?_
    exact⟨_,rfl,CS 4 0⟩
   rintro s rfl
   refine w_ (a_ (h:=e_ (?_)))
   refine B5 (fun s=>s=⟨look [(0, .bp 0 0),(3, .bp 2 0),(4, .v (.int .i64 w.c.a0)),(5, .bp 3 0),(7, .v (.int .i64 (if C2 w.c.a0 1=true then 4 else 0)))],⟨[WA w cap,IB w cap,Al f,Aj (Aa w.s.spc.files f.file)],[]⟩⟩) ?_ ?_
   ·skip
    refine w_ (m_ (h:=ES (h:=BK (h:=e_ (?_)))))
    refine A8 rfl (fun hb2=>?_) (fun hb2=>?_)
    ·have hc2:=bp hb2
     have k0:C2 w.c.a0 1=true:=by simpa[C2]using hc2
     refine AP (m_ (h:=B8 (h:=a_ (h:=AO (?_)))))
     refine AF ?_
     refine⟨_,rfl,?_⟩
     (rw[if_pos k0];exact CS 4 0)
    have hc2:=bp hb2
    have k0:¬C2 w.c.a0 1=true:=by simpa[C2]using hc2
    refine BA (?_)
    refine AF ?_
    refine⟨_,rfl,?_⟩
    first|(rw[if_pos k0];exact CS 4 0)|(rw[if_neg k0];exact CS 4 0)
   rintro s rfl
   refine B5 (fun s=>s=⟨look [(0, .bp 0 0),(3, .bp 2 0),(4, .v (.int .i64 w.c.a0)),(5, .bp 3 0),(7, .v (.int .i64 (JE w.c.a0)))],⟨[WA w cap,IB w cap,Al f,Aj (Aa w.s.spc.files f.file)],[]⟩⟩) ?_ ?_
   ·skip
    refine w_ (m_ (h:=ES (h:=BK (h:=e_ (?_)))))
    refine A8 rfl (fun hb3=>?_) (fun hb3=>?_)
    ·have hc3:=bp hb3
     have k00:C2 w.c.a0 18=true:=by simpa[C2]using hc3
     refine AP (m_ (h:=B8 (h:=a_ (h:=AO (?_)))))
     refine AF ?_
     refine⟨_,rfl,?_⟩
     unfold JE
     (rw[if_pos k00];exact CS 4 0)
    have hc3:=bp hb3
    have k00:¬C2 w.c.a0 18=true:=by simpa[C2]using hc3
    refine BA (?_)
    refine AF ?_
    refine⟨_,rfl,?_⟩
    unfold JE
    first|(rw[if_pos k00];exact CS 4 0)|(rw[if_neg k00,Int.add_zero];exact CS 4 0)
   rintro s rfl
   refine Am (?_)
   refine B5 (fun s=>s=⟨look [(0, .bp 0 0),(3, .bp 2 0),(4, .v (.int .i64 w.c.a0)),(5, .bp 3 0),(7, .v (.int .i64 (JE w.c.a0))),(48, .v (.bool (C2 w.c.a0 4&&C2 w.c.a0 8)))],⟨[WA w cap,IB w cap,Al f,Aj (Aa w.s.spc.files f.file)],[]⟩⟩) ?_ ?_
   ·skip
    refine AP (m_ (h:=ES (h:=BK (h:=m_ (h:=?_)))))
    refine Ay true rfl rfl (fun hb4=>?_) (fun hb4=>?_)
    ·have hc4:=bp hb4
     refine m_ (h:=ES (h:=BK (h:=Af (h:=a_ (h:=AO (?_))))))
     refine AF ?_
     exact⟨_,rfl,B1 4 0 rfl rfl rfl (by simp[Ag,Ab,Ac,Bc B0,BD,WA,IB,CD,Al,Aj]) (by repeat (first|exact Sub.nil|refine Sub.cons _ _ _ rfl rfl ?_|refine Sub.any _ _ ?_|refine Sub.sl _ _ _ _ _ rfl ?_|refine Sub.slnil _ _ _ rfl ?_|(apply Sub.of;(focus exact rfl);(focus exact LeA.of_eq (vb (by simp[C2, *])));(focus exact rfl))))⟩
    have hc4:=bp hb4
    refine A3 (h:=A3 (h:=A3 (h:=Ak (h:=a_ (h:=AO (?_))))))
    refine AF ?_
    exact⟨_,rfl,B1 4 0 rfl rfl rfl (by simp[Ag,Ab,Ac,Bc B0,BD,WA,IB,CD,Al,Aj]) (by repeat (first|exact Sub.nil|refine Sub.cons _ _ _ rfl rfl ?_|refine Sub.any _ _ ?_|refine Sub.sl _ _ _ _ _ rfl ?_|refine Sub.slnil _ _ _ rfl ?_|(apply Sub.of;(focus exact rfl);(focus exact LeA.of_eq (vb (by simp[C2, *])));(focus exact rfl))))⟩
   rintro s rfl
   refine A8 rfl (fun hb5=>?_) (fun hb5=>?_)
   ·have hc5:=bp hb5
    have k1:C2 w.c.a0 4=true∧C2 w.c.a0 8=true:=by simpa using hc5
    refine w_ (a_ (h:=e_ (A4 (AR (A7 (?_))))))
    refine BN (r:= .v (.int .i64 (C9 w).2)) none (h5:=(by rw[C9,if_pos hex,if_pos k1];exact LeA.refl _)) (h6:=⟨rfl,rfl,?_⟩)
    rw[C9,if_pos hex,if_pos k1]
    rfl
   have hc5:=bp hb5
   have k1:¬(C2 w.c.a0 4=true∧C2 w.c.a0 8=true):=by simpa using hc5
   refine w_ (f_ (h:=l_ (h:=AQ (h:=a_ (h:=e_ (?_))))))
   refine A8 rfl (fun hb6=>?_) (fun hb6=>?_)
   ·have hc6:=bp hb6
    have k2:(Aa w.s.spc.files (B2 w 0).file).kind=3:=by rw[hfn];exact hc6
    refine w_ (a_ (h:=e_ (A4 (AR (A7 (?_))))))
    refine BN (r:= .v (.int .i64 (C9 w).2)) none (h5:=(by rw[C9,if_pos hex,if_neg k1,if_pos k2];exact LeA.refl _)) (h6:=⟨rfl,rfl,?_⟩)
    rw[C9,if_pos hex,if_neg k1,if_pos k2]
    rfl
   have hc6:=bp hb6
   have k2:¬(Aa w.s.spc.files (B2 w 0).file).kind=3:=by rw[hfn];exact hc6
   refine B5 (fun s=>s=⟨look [(0, .bp 0 0),(3, .bp 2 0),(4, .v (.int .i64 w.c.a0)),(5, .bp 3 0),(7, .v (.int .i64 (JE w.c.a0))),(61, .v (.bool (decide ((Aa w.s.spc.files f.file).kind=2)&&C2 w.c.a0 22)))],⟨[WA w cap,IB w cap,Al f,Aj (Aa w.s.spc.files f.file)],[]⟩⟩) ?_ ?_
   ·skip
    refine AP (f_ (h:=l_ (h:=AQ (h:=m_ (h:=?_)))))
    refine Ay true rfl rfl (fun hb7=>?_) (fun hb7=>?_)
    ·have hc7:=bp hb7
     refine m_ (h:=ES (h:=BK (h:=Af (h:=a_ (h:=AO (?_))))))
     refine AF ?_
     exact⟨_,rfl,B1 4 0 rfl rfl rfl (by simp[Ag,Ab,Ac,Bc B0,BD,WA,IB,CD,Al,Aj]) (by repeat (first|exact Sub.nil|refine Sub.cons _ _ _ rfl rfl ?_|refine Sub.any _ _ ?_|refine Sub.sl _ _ _ _ _ rfl ?_|refine Sub.slnil _ _ _ rfl ?_|(apply Sub.of;(focus exact rfl);(focus exact LeA.of_eq (vb (by simp[C2, *])));(focus exact rfl))))⟩
    have hc7:=bp hb7
    refine A3 (h:=A3 (h:=A3 (h:=Ak (h:=a_ (h:=AO (?_))))))
    refine AF ?_
    exact⟨_,rfl,B1 4 0 rfl rfl rfl (by simp[Ag,Ab,Ac,Bc B0,BD,WA,IB,CD,Al,Aj]) (by repeat (first|exact Sub.nil|refine Sub.cons _ _ _ rfl rfl ?_|refine Sub.any _ _ ?_|refine Sub.sl _ _ _ _ _ rfl ?_|refine Sub.slnil _ _ _ rfl ?_|(apply Sub.of;(focus exact rfl);(focus exact LeA.of_eq (vb (by simp[C2, *])));(focus exact rfl))))⟩
   rintro s rfl
   refine A8 rfl (fun hb8=>?_) (fun hb8=>?_)
   ·have hc8:=bp hb8
    have k3:(Aa w.s.spc.files (B2 w 0).file).kind=2∧C2 w.c.a0 22=true:=by rw[hfn];simpa using hc8
    refine w_ (a_ (h:=e_ (A4 (AR (A7 (?_))))))
    refine BN (r:= .v (.int .i64 (C9 w).2)) none (h5:=(by rw[C9,if_pos hex,if_neg k1,if_neg k2,if_pos k3];exact LeA.refl _)) (h6:=⟨rfl,rfl,?_⟩)
    rw[C9,if_pos hex,if_neg k1,if_neg k2,if_pos k3]
    rfl
   have hc8:=bp hb8
   have k3:¬((Aa w.s.spc.files (B2 w 0).file).kind=2∧C2 w.c.a0 22=true):=by rw[hfn];simpa using hc8
   refine w_ (m_ (h:=f_ (h:=l_ (h:=m_ (h:=?_)))))
   refine A6 rfl (Cg 1 rfl (.cons _ _ _ _ _ rfl (LeA.of_eq rfl) (.cons _ _ _ _ _ rfl (LeA.refl _) (.cons _ _ _ _ _ rfl (LeA.refl _) .nil))) (H0 w .any f.file (JE w.c.a0) hsb) ?_)
   rintro r rfl
   refine⟨rfl,?_⟩
   refine BC (h:=a_ (h:=e_ (?_)))
   refine A8 rfl (fun hb9=>?_) (fun hb9=>?_)
   ·have hc9:=bp hb9
    have k4:C3 w (B2 w 0).file (JE w.c.a0)=false:=by rw[hfn];simpa using hc9
    refine w_ (a_ (h:=e_ (A4 (AR (A7 (?_))))))
    refine BN (r:= .v (.int .i64 (C9 w).2)) none (h5:=(by rw[C9,if_pos hex,if_neg k1,if_neg k2,if_neg k3,if_pos k4];exact LeA.refl _)) (h6:=⟨rfl,rfl,?_⟩)
    rw[C9,if_pos hex,if_neg k1,if_neg k2,if_neg k3,if_pos k4]
    rfl
   have hc9:=bp hb9
   have k4:¬C3 w (B2 w 0).file (JE w.c.a0)=false:=by rw[hfn];simpa using hc9
   refine BA (Ax (?_))
   refine AF ?_
   exact⟨_,⟨w,f,(by rw[C9,if_pos hex,if_neg k1,if_neg k2,if_neg k3,if_neg k4,hfn]),htb,rfl⟩,CS 3 0⟩
  have hc1:=bp hb1
  have hex:¬(B2 w 0).ex=true:=by rw[hfn];simpa using hc1
  refine q_ (Am (w_ (m_ (h:=ES (h:=AQ (h:=a_ (h:=e_ (?_))))))))
  refine A8 rfl (fun hb10=>?_) (fun hb10=>?_)
  ·have hc10:=bp hb10
   have k1:C2 w.c.a0 4=false:=by simp only[C2];simpa using hc10
   refine w_ (a_ (h:=e_ (A4 (AR (A7 (A7 (?_)))))))
   refine BN (r:= .v (.int .i64 (C9 w).2)) none (h5:=(by rw[C9,if_neg hex,if_pos k1];exact LeA.refl _)) (h6:=⟨rfl,rfl,?_⟩)
   rw[C9,if_neg hex,if_pos k1]
   rfl
  have hc10:=bp hb10
  have k1:¬C2 w.c.a0 4=false:=by simp only[C2];simpa using hc10
  refine w_ (f_ (h:=l_ (h:=a_ (h:=e_ (?_)))))
  refine A8 rfl (fun hb11=>?_) (fun hb11=>?_)
  ·have hc11:=bp hb11
   have k2:(B2 w 0).slash=true:=by rw[hfn];exact hc11
   refine w_ (a_ (h:=e_ (A4 (AR (A7 (A7 (?_)))))))
   refine BN (r:= .v (.int .i64 (C9 w).2)) none (h5:=(by rw[C9,if_neg hex,if_neg k1,if_pos k2];exact LeA.refl _)) (h6:=⟨rfl,rfl,?_⟩)
   rw[C9,if_neg hex,if_neg k1,if_pos k2]
   rfl
  have hc11:=bp hb11
  have k2:¬(B2 w 0).slash=true:=by rw[hfn];simpa using hc11
  refine w_ (m_ (h:=f_ (h:=l_ (h:=?_))))
  refine A6 rfl (Cg 1 rfl (.cons _ _ _ _ _ rfl (LeA.of_eq rfl) (.cons _ _ _ _ _ rfl (LeA.refl _) (.cons _ _ _ _ _ rfl (LeA.refl _) .nil))) (H0 w .any f.dir 2 hsb) ?_)
  rintro r rfl
  refine⟨rfl,?_⟩
  refine BC (h:=a_ (h:=e_ (?_)))
  refine A8 rfl (fun hb12=>?_) (fun hb12=>?_)
  ·have hc12:=bp hb12
   have k3:C3 w (B2 w 0).dir 2=false:=by rw[hfn];simpa using hc12
   refine w_ (a_ (h:=e_ (A4 (AR (A7 (A7 (?_)))))))
   refine BN (r:= .v (.int .i64 (C9 w).2)) none (h5:=(by rw[C9,if_neg hex,if_neg k1,if_neg k2,if_pos k3];exact LeA.refl _)) (h6:=⟨rfl,rfl,?_⟩)
   rw[C9,if_neg hex,if_neg k1,if_neg k2,if_pos k3]
   rfl
  have hc12:=bp hb12
  have k3:¬C3 w (B2 w 0).dir 2=false:=by rw[hfn];simpa using hc12
  refine BA (Ax (t_ (q_ (w_ (m_ (h:=m_ (h:=k_ (h:=f_ (h:=f_ (h:=?_))))))))))
  refine A6 rfl (CG (len:=4) (sz:=1) (n:=1) (by kernel_rfl) rfl rfl rfl rfl ?_)
  refine l_ (h:=?_)
  refine A6 rfl (ET (y:= .agg (Aj (GY w.c.a1))) (Co ⟨rfl,rfl⟩) ?_)
  refine A6 rfl (BW [0,1] rfl (.cons _ _ _ _ _ rfl (LeA.refl _) (.cons _ _ _ _ _ rfl (LeA.refl _) (.cons _ _ _ _ _ rfl (LeA.refl _) .nil))) (by decide) (.cons _ _ _ _ _ rfl rfl (.cons _ _ _ _ _ rfl (Ch B0 _ _ _) .nil)) (RP w cap 0 (GY w.c.a1) f x hv.files hf hx hn (Nat.zero_le _) rfl) ?_)
  rintro r bc tc ⟨rfl,rfl,rfl⟩
  refine⟨rfl,_,D2 rfl (CR w 0 (GY w.c.a1)).1 cap,?_⟩
  refine a_ (h:=e_ (w_ (m_ (h:=BK (h:=e_ (?_))))))
  refine A8 rfl (fun hb13=>?_) (fun hb13=>?_)
  ·have hc13:=bp hb13
   have k4:(CR w 0 (GY w.c.a1)).2≠0:=by simpa using hc13
   refine w_ (m_ (h:=a_ (h:=e_ (A4 (A7 (A7 (?_)))))))
   refine BN (r:= .v (.int .i64 (C9 w).2)) none (h5:=(by rw[C9,if_neg hex,if_neg k1,if_neg k2,if_neg k3,if_pos k4];exact LeA.refl _)) (h6:=⟨rfl,rfl,?_⟩)
   rw[C9,if_neg hex,if_neg k1,if_neg k2,if_neg k3,if_pos k4]
   rfl
  have hc13:=bp hb13
  have k4:(CR w 0 (GY w.c.a1)).2=0:=by simpa using hc13
  obtain⟨c,hc⟩:=gD k4
  have hrow2:((CR w 0 (GY w.c.a1)).1.r.changes.map CN)[0]?=some (CN c):=by rw[hc];rfl
  refine AJ (AP (m_ (h:=k_ (h:=f_ (h:=f_ (h:=l_ (h:=?_)))))))
  refine A6 rfl (CF (n:=0) rfl rfl rfl hrow2 ?_)
  refine f_ (h:=l_ (h:=f_ (h:=s_ (h:=AO (?_)))))
  refine AF ?_
  first|exact⟨_,⟨w,f,(by rw[C9,if_pos hex,if_neg k1,if_neg k2,if_neg k3,if_neg k4,hfn]),htb,rfl⟩,CS 3 0⟩|(obtain⟨q1,q2,q3⟩:=gE w 0 (GY w.c.a1);exact⟨_,⟨(CR w 0 (GY w.c.a1)).1,{f with file:=c.2.2.2},(by rw[C9,if_neg hex,if_neg k1,if_neg k2,if_neg k3,if_neg (by simp[k4]),hc];rfl),by rw[q1];exact htb,rfl⟩,by rw[q3];exact CS 3 0⟩)
 rintro s ⟨w2,F2,hop,htb2,rfl⟩
 refine B5 (fun s=>s=⟨look [(0, .bp 0 0),(9, .bp 3 0),(10, .v (.int .i64 (EZ w2.s.tab w2.p.pid F2.file w2.c.a0).2.1)),(11, .v (.int .i64 (EZ w2.s.tab w2.p.pid F2.file w2.c.a0).2.2))],⟨[WA w2 cap,IB w2 cap,Al F2,As (EZ w2.s.tab w2.p.pid F2.file w2.c.a0).1],[]⟩⟩) ?_ ?_
 ·skip
  refine BF ([(0,WA w2 cap),(1,IB w2 cap),(2,Al F2)]) 22 (h:=AN 0 (h:=B7 1 (h:=AE 2 (h:=AE 3 (h:=AD 4 (h:=AN 5 (h:=B7 6 (h:=AE 7 (h:=AE 8 (h:=AD 9 (h:=AE 10 (h:=AD 11 (h:=AN 12 (h:=?_))))))))))))))
  refine E0 13 18 rfl rfl ?_ ?_
  ·refine AK (Vn w2.s.tab w2.p.pid F2.file w2.c.a0 htb2) ?_
   rintro r rfl
   refine o_ (h:=?_)
   refine AN 14 (h:=B6 15 (h:=B6 16 (h:=B6 17 (h:=?_))))
   refine c_ 18 rfl (Bw (by repeat constructor) ?_)
   refine o_ (h:=?_)
   refine Az 19 rfl (Aw rfl rfl rfl rfl rfl rfl (by repeat constructor) (by repeat constructor) ?_)
   refine o_ (h:=BB 20 (h:=BB 21 (h:=z_ (h:=?_))))
   refine AF ?_
   exact⟨_,rfl,CS 4 0⟩
  refine Bw (by repeat constructor) ?_
  refine o_ (h:=?_)
  refine c_ 13 rfl (AK (Vn w2.s.tab w2.p.pid F2.file w2.c.a0 htb2) ?_)
  rintro r rfl
  refine o_ (h:=AN 14 (h:=B6 15 (h:=B6 16 (h:=B6 17 (h:=?_)))))
  refine Az 19 rfl (Aw rfl rfl rfl rfl rfl rfl (by repeat constructor) (by repeat constructor) ?_)
  refine o_ (h:=BB 20 (h:=BB 21 (h:=z_ (h:=?_))))
  refine AF ?_
  exact⟨_,rfl,CS 4 0⟩
 rintro s rfl
 refine w_ (m_ (h:=m_ (h:=k_ (h:=f_ (h:=f_ (h:=s_ (h:=e_ (w_ (m_ (h:=l_ (h:=m_ (h:=?_))))))))))))
 refine A6 rfl (BW [0,1] rfl (.cons _ _ _ _ _ rfl (LeA.refl _) (.cons _ _ _ _ _ rfl (LeA.refl _) (.cons _ _ _ _ _ rfl (LeA.refl _) .nil))) (by decide) (.cons _ _ _ _ _ rfl rfl (.cons _ _ _ _ _ rfl (Ch B0 _ _ _) .nil)) (RN (OT w2 (EZ w2.s.tab w2.p.pid F2.file w2.c.a0).2.1) cap (EZ w2.s.tab w2.p.pid F2.file w2.c.a0).1 (EZ w2.s.tab w2.p.pid F2.file w2.c.a0).2.2) ?_)
 rintro r bc tc ⟨rfl,rfl,rfl⟩
 refine⟨rfl,_,D2 rfl (G7 w2 F2.file).1 cap,?_⟩
 refine a_ (h:=e_ (A4 (?_)))
 refine BN (r:= .v (.int .i64 (C9 w).2)) none (h5:=(by rw[hop,G7,Hq];exact LeA.refl _)) (h6:=⟨rfl,rfl,?_⟩)
 rw[hop]
 rfl
end
theorem Vv{e:Int}{y x:A9}{c d:Bool}:(decide (e=0)&& !decide ((y.1,y.2)=(x.1,x.2))&&c&&d)=true↔(e=0∧y≠x∧c=true∧d=true):=by
 have:decide ((y.1,y.2)=(x.1,x.2))=decide (y=x):=rfl
 rw[this]
 simp[and_assoc]
theorem Vw{w:Wrk}{R:DR}{x:A9}(h:(decide (R.2.2=0)&&decide (0<(R.2.1.length:Int)))=true):GZ w R x=(GX (Fi (BO w R).1 0 3) 1 x,R.2.2):=by
 rw[Bool.and_eq_true]at h
 have h1:=of_decide_eq_true h.1
 unfold GZ
 rw[if_neg (by simp[h1]),if_pos (of_decide_eq_true h.2),h1]
theorem Vx{w:Wrk}{R:DR}{x:A9}(h:(decide (R.2.2=0)&&decide (0<(R.2.1.length:Int)))=false):GZ w R x=((BO w R).1,R.2.2):=by
 unfold GZ
 by_cases h0:R.2.2=0
 ·rw[if_neg (by simp[h0]),if_neg (by simpa[h0]using h),h0]
 rw[if_pos h0,Od h0]
theorem Vy(w:Wrk)(i:Nat)(r:Int)(cap:Nat):WA (Fi w i r) cap=WA w cap:=by
 unfold WA Fi
 simp only[List.length_modify]
 rfl
theorem Vz{w:Wrk}{i:Nat}{x:Itm}(hx:w.r.items[i]?=some x)(r:Int)(cap:Nat):IB (Fi w i r) cap=LB 13 BY (w.r.items.set i {x with role:=r}) cap:=by
 unfold IB Fi
 rw[Vs hx]
section
theorem W8(w:Wrk)(cap:Nat)(f g:Fnd)(x0 x1:Itm)(hv:SpcV w.s.spc)(hm:w.s.spc.mounts.length≤1000)(hps:w.s.tab.ps.length≤1000)(hf:w.found[0]?=some f)(hg:w.found[1]?=some g)(hx0:w.r.items[0]?=some x0)(hx1:w.r.items[1]?=some x1)(hn:f.name.size≤100000)(hn2:g.name.size≤100000):ACall Tryz.prog 117 [.bp 0 0] [WA w cap,IB w cap] (fun r b t=>t=[]∧r= .v (.int .i64 (Dg w).2)∧b=[WA (Dg w).1 cap,IB (Dg w).1 cap]):=by
 have hsb:=hv.b hm
 have hrow0:(w.found.map Al)[0]?=some (Al f):=by rw[List.getElem?_map,hf];rfl
 have hrow1:(w.found.map Al)[1]?=some (Al g):=by rw[List.getElem?_map,hg];rfl
 have hfn:B2 w 0=f:=by unfold B2;rw[hf];rfl
 have hgn:B2 w 1=g:=by unfold B2;rw[hg];rfl
 have hil:0<w.r.items.length:=(Ar.1 hx0).1
 obtain⟨R,hR⟩:∃R,R=EM w.s.spc.files f.dir f.name g.dir g.name:=⟨_,rfl⟩
 have hok:=Qe hv.files f.dir f.name g.dir g.name
 rw[←hR]at hok
 have hcall:AFn Tryz.prog 39 [.agg (At w.s.spc.files), .agg (AA f.dir), .v (.string f.name), .agg (AA g.dir), .v (.string g.name)] (fun r=>r=CK R):=by rw[hR];exact Zi _ _ _ _ _ hv.files hn hn2
 obtain⟨x,hxd⟩:∃x,x=(AM w.s.spc.files f.dir f.name).1:=⟨_,rfl⟩
 obtain⟨y,hyd⟩:∃y,y=(AM w.s.spc.files g.dir g.name).1:=⟨_,rfl⟩
 have hl1:AFn Tryz.prog 38 [.agg (At w.s.spc.files), .agg (AA f.dir), .v (.string f.name)] (fun r=>r= .tup [.agg (AA x), .v (.int .i64 (AM w.s.spc.files f.dir f.name).2)]):=by rw[hxd];exact Gm _ _ _ hsb.files
 have hl2:AFn Tryz.prog 38 [.agg (At w.s.spc.files), .agg (AA g.dir), .v (.string g.name)] (fun r=>r= .tup [.agg (AA y), .v (.int .i64 (AM w.s.spc.files g.dir g.name).2)]):=by rw[hyd];exact Gm _ _ _ hsb.files
 obtain⟨e2,he2⟩:∃e,e=(AM w.s.spc.files g.dir g.name).2:=⟨_,rfl⟩
 rw[←he2]at hl2
 have hren:Dg w=if f.ex=false then(w,2)else if f.name=⟨#[]⟩∨g.name=⟨#[]⟩then(w,16)else if g.slash=true∧AY w.s.spc.files f.file=false then(w,20)else if f.dir.1≠g.dir.1 then(w,18)else if C3 w f.dir 2=false∨C3 w g.dir 2=false then(w,13)else if e2=0∧y≠x∧AY w.s.spc.files y=true∧Fh w y=true then(w,16)else GZ w R x:=by
  unfold Dg GW
  rw[hfn,hgn,←hxd,←hyd,←he2,←hR]
 clear hxd hyd he2 hR
 refine enter Tryz.func117 rfl rfl rfl rfl rfl 2 rfl ?_
 refine w_ (a_ (h:=e_ (?_)))
 refine B5 (fun s=>s=⟨look [(0, .bp 0 0),(3, .bp 2 0),(4, .bp 3 0)],⟨[WA w cap,IB w cap,Al f,Al g],[]⟩⟩) ?_ ?_
 ·skip
  refine BF ([(0,WA w cap)]) 16 (h:=AN 0 (h:=B7 1 (h:=AE 2 (h:=AD 3 (h:=?_)))))
  refine Bn 4 rfl (fun _ hS=>CF (n:=0) rfl rfl rfl hrow0 ⟨rfl,rfl⟩) ?_
  refine AD 5 (h:=AN 6 (h:=B7 7 (h:=AE 8 (h:=AD 9 (h:=?_)))))
  refine Bn 10 rfl (fun _ hS=>CF (n:=1) rfl rfl rfl hrow1 ⟨rfl,rfl⟩) ?_
  refine AD 11 (h:=?_)
  refine E0 12 13 rfl rfl ?_ ?_
  ·refine Bw (by repeat constructor) ?_
   refine o_ (h:=?_)
   refine c_ 13 rfl (Bw (by repeat constructor) ?_)
   refine o_ (h:=?_)
   refine Az 14 rfl (Aw rfl rfl rfl rfl rfl rfl (by repeat constructor) (by repeat constructor) ?_)
   refine o_ (h:=?_)
   refine Az 15 rfl (Aw rfl rfl rfl rfl rfl rfl (by repeat constructor) (by repeat constructor) ?_)
   refine o_ (h:=z_ (h:=?_))
   refine AF ?_
   exact⟨_,rfl,CS 4 0⟩
  refine Bw (by repeat constructor) ?_
  refine o_ (h:=?_)
  refine c_ 12 rfl (Bw (by repeat constructor) ?_)
  refine o_ (h:=?_)
  refine Az 14 rfl (Aw rfl rfl rfl rfl rfl rfl (by repeat constructor) (by repeat constructor) ?_)
  refine o_ (h:=?_)
  refine Az 15 rfl (Aw rfl rfl rfl rfl rfl rfl (by repeat constructor) (by repeat constructor) ?_)
  refine o_ (h:=z_ (h:=?_))
  refine AF ?_
  first|exact⟨_,rfl,CS 4 0⟩|exact⟨_,rfl,E7 [0,1,3,2] OA (by decide) (.cons _ _ _ _ _ rfl rfl (.cons _ _ _ _ _ rfl (Gb B0 _ _ _) (.cons _ _ _ _ _ rfl rfl (.cons _ _ _ _ _ rfl rfl .nil)))) (by repeat (first|exact SubK.nil|refine SubK.cons _ _ _ _ rfl (LeA.refl _) ?_))⟩
 rintro s rfl
 refine q_ (Am (w_ (f_ (h:=l_ (h:=BC (h:=a_ (h:=e_ (?_))))))))
 refine A8 rfl (fun hb1=>?_) (fun hb1=>?_)
 ·have hc1:=bp hb1
  have k1:f.ex=false:=by simpa using hc1
  refine w_ (a_ (h:=e_ (A4 (AR (A7 (?_))))))
  refine BN (r:= .v (.int .i64 (Dg w).2)) none (h5:=(by rw[hren,if_pos k1];exact LeA.refl _)) (h6:=⟨rfl,rfl,?_⟩)
  rw[hren,if_pos k1]
  rfl
 have hc1:=bp hb1
 have k1:¬f.ex=false:=by simpa using hc1
 refine B5 (fun s=>s=⟨look [(0, .bp 0 0),(3, .bp 2 0),(4, .bp 3 0),(26, .v (.bool (decide (f.name=⟨#[]⟩)||decide (g.name=⟨#[]⟩))))],⟨[WA w cap,IB w cap,Al f,Al g],[]⟩⟩) ?_ ?_
 ·skip
  refine AP (f_ (h:=l_ (h:=AQ (h:=m_ (h:=?_)))))
  refine Ay false rfl rfl (fun hb2=>?_) (fun hb2=>?_)
  ·have hc2:=bp hb2
   refine A3 (h:=A3 (h:=A3 (h:=Af (h:=a_ (h:=AO (?_))))))
   refine AF ?_
   exact⟨_,rfl,C5 4 0 (by simp[Ag,Ab,Ac,Bc B0,BD,WA,IB,CD,Al])⟩
  have hc2:=bp hb2
  refine f_ (h:=l_ (h:=AQ (h:=Ak (h:=a_ (h:=AO (?_))))))
  refine AF ?_
  exact⟨_,rfl,C5 4 0 (by simp[Ag,Ab,Ac,Bc B0,BD,WA,IB,CD,Al])⟩
 rintro s rfl
 refine A8 rfl (fun hb3=>?_) (fun hb3=>?_)
 ·have hc3:=bp hb3
  have k2:f.name=⟨#[]⟩∨g.name=⟨#[]⟩:=by simpa using hc3
  refine w_ (a_ (h:=e_ (A4 (AR (A7 (?_))))))
  refine BN (r:= .v (.int .i64 (Dg w).2)) none (h5:=(by rw[hren,if_neg k1,if_pos k2];exact LeA.refl _)) (h6:=⟨rfl,rfl,?_⟩)
  rw[hren,if_neg k1,if_pos k2]
  rfl
 have hc3:=bp hb3
 have k2:¬(f.name=⟨#[]⟩∨g.name=⟨#[]⟩):=by simpa using hc3
 refine B5 (fun s=>s=⟨look [(0, .bp 0 0),(3, .bp 2 0),(4, .bp 3 0),(35, .v (.bool (g.slash&& !AY w.s.spc.files f.file)))],⟨[WA w cap,IB w cap,Al f,Al g],[]⟩⟩) ?_ ?_
 ·skip
  refine AP (f_ (h:=l_ (h:=m_ (h:=?_))))
  refine Ay true rfl rfl (fun hb4=>?_) (fun hb4=>?_)
  ·have hc4:=bp hb4
   refine m_ (h:=?_)
   refine B4 (Cg 1 rfl (.cons _ _ _ _ _ rfl (LeA.of_eq rfl) (.cons _ _ _ _ _ rfl (LeA.refl _) .nil)) (Jn w .any 0 f hsb hf) ?_)
   rintro r rfl
   refine⟨rfl,?_⟩
   refine BC (h:=Af (h:=a_ (h:=AO (?_))))
   refine AF ?_
   exact⟨_,rfl,C5 4 0 (by simp[Ag,Ab,Ac,Bc B0,BD,WA,IB,CD,Al])⟩
  have hc4:=bp hb4
  refine A3 (h:=A3 (h:=A3 (h:=Ak (h:=a_ (h:=AO (?_))))))
  refine AF ?_
  exact⟨_,rfl,C5 4 0 (by simp[Ag,Ab,Ac,Bc B0,BD,WA,IB,CD,Al])⟩
 rintro s rfl
 refine A8 rfl (fun hb5=>?_) (fun hb5=>?_)
 ·have hc5:=bp hb5
  have k3:g.slash=true∧AY w.s.spc.files f.file=false:=by simpa using hc5
  refine w_ (a_ (h:=e_ (A4 (AR (A7 (?_))))))
  refine BN (r:= .v (.int .i64 (Dg w).2)) none (h5:=(by rw[hren,if_neg k1,if_neg k2,if_pos k3];exact LeA.refl _)) (h6:=⟨rfl,rfl,?_⟩)
  rw[hren,if_neg k1,if_neg k2,if_pos k3]
  rfl
 have hc5:=bp hb5
 have k3:¬(g.slash=true∧AY w.s.spc.files f.file=false):=by simpa using hc5
 refine w_ (f_ (h:=f_ (h:=l_ (h:=f_ (h:=f_ (h:=l_ (h:=BK (h:=a_ (h:=e_ (?_))))))))))
 refine A8 rfl (fun hb6=>?_) (fun hb6=>?_)
 ·have hc6:=bp hb6
  have k4:f.dir.1≠g.dir.1:=by simpa using hc6
  refine w_ (a_ (h:=e_ (A4 (AR (A7 (?_))))))
  refine BN (r:= .v (.int .i64 (Dg w).2)) none (h5:=(by rw[hren,if_neg k1,if_neg k2,if_neg k3,if_pos k4];exact LeA.refl _)) (h6:=⟨rfl,rfl,?_⟩)
  rw[hren,if_neg k1,if_neg k2,if_neg k3,if_pos k4]
  rfl
 have hc6:=bp hb6
 have k4:¬f.dir.1≠g.dir.1:=by simpa using hc6
 refine B5 (fun s=>s=⟨look [(0, .bp 0 0),(3, .bp 2 0),(4, .bp 3 0),(51, .v (.bool (!C3 w f.dir 2|| !C3 w g.dir 2)))],⟨[WA w cap,IB w cap,Al f,Al g],[]⟩⟩) ?_ ?_
 ·skip
  refine AP (m_ (h:=f_ (h:=l_ (h:=?_))))
  refine A6 rfl (Cg 1 rfl (.cons _ _ _ _ _ rfl (LeA.of_eq rfl) (.cons _ _ _ _ _ rfl (LeA.refl _) (.cons _ _ _ _ _ rfl (LeA.refl _) .nil))) (H0 w .any f.dir 2 hsb) ?_)
  rintro r rfl
  refine⟨rfl,?_⟩
  refine BC (h:=m_ (h:=?_))
  refine Ay false rfl rfl (fun hb7=>?_) (fun hb7=>?_)
  ·have hc7:=bp hb7
   refine A3 (h:=A3 (h:=A3 (h:=A3 (h:=A3 (h:=Af (h:=a_ (h:=AO (?_))))))))
   refine AF ?_
   exact⟨_,rfl,C5 4 0 (by simp[Ag,Ab,Ac,Bc B0,BD,WA,IB,CD,Al])⟩
  have hc7:=bp hb7
  refine m_ (h:=f_ (h:=l_ (h:=?_)))
  refine B4 (Cg 1 rfl (.cons _ _ _ _ _ rfl (LeA.of_eq rfl) (.cons _ _ _ _ _ rfl (LeA.refl _) (.cons _ _ _ _ _ rfl (LeA.refl _) .nil))) (H0 w .any g.dir 2 hsb) ?_)
  rintro r rfl
  refine⟨rfl,?_⟩
  refine BC (h:=Ak (h:=a_ (h:=AO (?_))))
  refine AF ?_
  exact⟨_,rfl,C5 4 0 (by simp[Ag,Ab,Ac,Bc B0,BD,WA,IB,CD,Al])⟩
 rintro s rfl
 refine A8 rfl (fun hb8=>?_) (fun hb8=>?_)
 ·have hc8:=bp hb8
  have k5:C3 w f.dir 2=false∨C3 w g.dir 2=false:=by simpa using hc8
  refine w_ (a_ (h:=e_ (A4 (AR (A7 (?_))))))
  refine BN (r:= .v (.int .i64 (Dg w).2)) none (h5:=(by rw[hren,if_neg k1,if_neg k2,if_neg k3,if_neg k4,if_pos k5];exact LeA.refl _)) (h6:=⟨rfl,rfl,?_⟩)
  rw[hren,if_neg k1,if_neg k2,if_neg k3,if_neg k4,if_pos k5]
  rfl
 have hc8:=bp hb8
 have k5:¬(C3 w f.dir 2=false∨C3 w g.dir 2=false):=by simpa using hc8
 refine BA (Ax (t_ (?_)))
 refine B5 (fun s=>s=⟨look [(0, .bp 0 0),(3, .bp 2 0),(4, .bp 3 0),(5, .bp 4 0)],⟨[WA w cap,IB w cap,Al f,Al g,AA x],[]⟩⟩) ?_ ?_
 ·skip
  refine BF ([(0,WA w cap),(1,IB w cap),(2,Al f),(3,Al g)]) 17 (h:=AN 0 (h:=B7 1 (h:=AE 2 (h:=AE 3 (h:=AE 4 (h:=AD 5 (h:=AE 6 (h:=AD 7 (h:=AE 8 (h:=AD 9 (h:=?_)))))))))))
  refine E0 10 14 rfl rfl ?_ ?_
  ·refine AK (hl1) ?_
   rintro r rfl
   refine o_ (h:=?_)
   refine AN 11 (h:=B6 12 (h:=B6 13 (h:=?_)))
   refine c_ 14 rfl (Bw (by repeat constructor) ?_)
   refine o_ (h:=?_)
   refine Az 15 rfl (Aw rfl rfl rfl rfl rfl rfl (by repeat constructor) (by repeat constructor) ?_)
   refine o_ (h:=BB 16 (h:=z_ (h:=?_)))
   refine AF ?_
   exact⟨_,rfl,CS 5 0⟩
  refine Bw (by repeat constructor) ?_
  refine o_ (h:=?_)
  refine c_ 10 rfl (AK (hl1) ?_)
  rintro r rfl
  refine o_ (h:=AN 11 (h:=B6 12 (h:=B6 13 (h:=?_))))
  refine Az 15 rfl (Aw rfl rfl rfl rfl rfl rfl (by repeat constructor) (by repeat constructor) ?_)
  refine o_ (h:=BB 16 (h:=z_ (h:=?_)))
  refine AF ?_
  exact⟨_,rfl,CS 5 0⟩
 rintro s rfl
 refine q_ (?_)
 refine B5 (fun s=>s=⟨look [(0, .bp 0 0),(3, .bp 2 0),(4, .bp 3 0),(5, .bp 4 0),(7, .bp 5 0),(8, .v (.int .i64 e2))],⟨[WA w cap,IB w cap,Al f,Al g,AA x,AA y],[]⟩⟩) ?_ ?_
 ·skip
  refine BF ([(0,WA w cap),(1,IB w cap),(2,Al f),(3,Al g),(4,AA x)]) 17 (h:=AN 0 (h:=B7 1 (h:=AE 2 (h:=AE 3 (h:=AE 4 (h:=AD 5 (h:=AE 6 (h:=AD 7 (h:=AE 8 (h:=AD 9 (h:=?_)))))))))))
  refine E0 10 14 rfl rfl ?_ ?_
  ·refine AK (hl2) ?_
   rintro r rfl
   refine o_ (h:=?_)
   refine AN 11 (h:=B6 12 (h:=B6 13 (h:=?_)))
   refine c_ 14 rfl (Bw (by repeat constructor) ?_)
   refine o_ (h:=?_)
   refine Az 15 rfl (Aw rfl rfl rfl rfl rfl rfl (by repeat constructor) (by repeat constructor) ?_)
   refine o_ (h:=BB 16 (h:=z_ (h:=?_)))
   refine AF ?_
   exact⟨_,rfl,CS 6 0⟩
  refine Bw (by repeat constructor) ?_
  refine o_ (h:=?_)
  refine c_ 10 rfl (AK (hl2) ?_)
  rintro r rfl
  refine o_ (h:=AN 11 (h:=B6 12 (h:=B6 13 (h:=?_))))
  refine Az 15 rfl (Aw rfl rfl rfl rfl rfl rfl (by repeat constructor) (by repeat constructor) ?_)
  refine o_ (h:=BB 16 (h:=z_ (h:=?_)))
  refine AF ?_
  exact⟨_,rfl,CS 6 0⟩
 rintro s rfl
 refine B5 (fun s=>s=⟨look [(0, .bp 0 0),(3, .bp 2 0),(4, .bp 3 0),(5, .bp 4 0),(113, .v (.bool (decide (e2=0)&& !decide ((y.1,y.2)=(x.1,x.2))&&AY w.s.spc.files y&&Fh w y)))],⟨[WA w cap,IB w cap,Al f,Al g,AA x],[]⟩⟩) ?_ ?_
 ·skip
  refine DU 22 (h:=AN 0 (h:=J0 1 (h:=AN 2 (h:=?_))))
  refine H8 (j:=2) rfl (fun hb9=>?_) (fun hb9=>?_)
  ·have hc9:=bp hb9
   refine AD 3 (h:=AD 4 (h:=?_))
   refine EF (i:=5) rfl (ER rfl rfl (by repeat constructor) (by repeat constructor) (fun w=>Pg _ _ _ _ w) (by kernel_rfl) ⟨rfl,rfl⟩) ?_
   refine HQ 6 (h:=AN 7 (h:=?_))
   refine H8 (j:=7) rfl (fun hb10=>?_) (fun hb10=>?_)
   ·have hc10:=bp hb10
    refine AN 8 (h:=B7 9 (h:=AE 10 (h:=AE 11 (h:=AE 12 (h:=AD 13 (h:=AD 14 (h:=?_)))))))
    refine c_ 15 rfl (AK (Gl w.s.spc.files y hsb.files) ?_)
    rintro r rfl
    refine o_ (h:=HQ 16 (h:=AN 17 (h:=?_)))
    refine H8 (j:=17) rfl (fun hb11=>?_) (fun hb11=>?_)
    ·have hc11:=bp hb11
     refine AN 18 (h:=AD 19 (h:=?_))
     refine c_ 20 rfl (Cg 1 rfl (.cons _ _ _ _ _ rfl (LeA.of_eq rfl) (.cons _ _ _ _ _ rfl (LeA.refl _) .nil)) (Vp w .any y hsb hps) ?_)
     rintro r rfl
     refine⟨rfl,?_⟩
     refine o_ (h:=HQ 21 (h:=z_ (h:=?_)))
     refine AF ?_
     exact⟨_,rfl,B1 5 0 rfl rfl rfl (by simp[Ag,Ab,Ac,Bc B0,BD,WA,IB,CD,Al,AA]) (by repeat (first|exact Sub.nil|refine Sub.cons _ _ _ rfl rfl ?_|refine Sub.any _ _ ?_|refine Sub.sl _ _ _ _ _ rfl ?_|refine Sub.slnil _ _ _ rfl ?_|(apply Sub.of;(focus exact rfl);(focus exact LeA.of_eq (vb (by first|(simp[*];done)|(simp only[*,decide_true,decide_false,Bool.not_true,Bool.not_false,Bool.true_and,Bool.and_true,Bool.false_and,Bool.and_false]))));(focus exact rfl))))⟩
    have hc11:=bp hb11
    refine BE 18 (h:=BE 19 (h:=BE 20 (h:=FW 21 (h:=z_ (h:=?_)))))
    refine AF ?_
    exact⟨_,rfl,B1 5 0 rfl rfl rfl (by simp[Ag,Ab,Ac,Bc B0,BD,WA,IB,CD,Al,AA]) (by repeat (first|exact Sub.nil|refine Sub.cons _ _ _ rfl rfl ?_|refine Sub.any _ _ ?_|refine Sub.sl _ _ _ _ _ rfl ?_|refine Sub.slnil _ _ _ rfl ?_|(apply Sub.of;(focus exact rfl);(focus exact LeA.of_eq (vb (by first|(simp[*];done)|(simp only[*,decide_true,decide_false,Bool.not_true,Bool.not_false,Bool.true_and,Bool.and_true,Bool.false_and,Bool.and_false]))));(focus exact rfl))))⟩
   have hc10:=bp hb10
   refine BE 8 (h:=BE 9 (h:=BE 10 (h:=BE 11 (h:=BE 12 (h:=BE 13 (h:=BE 14 (h:=BE 15 (h:=FW 16 (h:=AN 17 (h:=BE 18 (h:=BE 19 (h:=BE 20 (h:=FW 21 (h:=z_ (h:=?_)))))))))))))))
   refine AF ?_
   exact⟨_,rfl,B1 5 0 rfl rfl rfl (by simp[Ag,Ab,Ac,Bc B0,BD,WA,IB,CD,Al,AA]) (by repeat (first|exact Sub.nil|refine Sub.cons _ _ _ rfl rfl ?_|refine Sub.any _ _ ?_|refine Sub.sl _ _ _ _ _ rfl ?_|refine Sub.slnil _ _ _ rfl ?_|(apply Sub.of;(focus exact rfl);(focus exact LeA.of_eq (vb (by first|(simp[*];done)|(simp only[*,decide_true,decide_false,Bool.not_true,Bool.not_false,Bool.true_and,Bool.and_true,Bool.false_and,Bool.and_false]))));(focus exact rfl))))⟩
  have hc9:=bp hb9
  refine BE 3 (h:=BE 4 (h:=BE 5 (h:=FW 6 (h:=AN 7 (h:=BE 8 (h:=BE 9 (h:=BE 10 (h:=BE 11 (h:=BE 12 (h:=BE 13 (h:=BE 14 (h:=BE 15 (h:=FW 16 (h:=AN 17 (h:=BE 18 (h:=BE 19 (h:=BE 20 (h:=FW 21 (h:=z_ (h:=?_))))))))))))))))))))
  refine AF ?_
  exact⟨_,rfl,B1 5 0 rfl rfl rfl (by simp[Ag,Ab,Ac,Bc B0,BD,WA,IB,CD,Al,AA]) (by repeat (first|exact Sub.nil|refine Sub.cons _ _ _ rfl rfl ?_|refine Sub.any _ _ ?_|refine Sub.sl _ _ _ _ _ rfl ?_|refine Sub.slnil _ _ _ rfl ?_|(apply Sub.of;(focus exact rfl);(focus exact LeA.of_eq (vb (by first|(simp[*];done)|(simp only[*,decide_true,decide_false,Bool.not_true,Bool.not_false,Bool.true_and,Bool.and_true,Bool.false_and,Bool.and_false]))));(focus exact rfl))))⟩
 rintro s rfl
 refine A8 rfl (fun hb12=>?_) (fun hb12=>?_)
 ·have hc12:=bp hb12
  have k6:=Vv.1 hb12
  refine w_ (a_ (h:=e_ (A4 (A7 (?_)))))
  refine BN (r:= .v (.int .i64 (Dg w).2)) none (h5:=(by rw[hren,if_neg k1,if_neg k2,if_neg k3,if_neg k4,if_neg k5,if_pos k6];exact LeA.refl _)) (h6:=⟨rfl,rfl,?_⟩)
  rw[hren,if_neg k1,if_neg k2,if_neg k3,if_neg k4,if_neg k5,if_pos k6]
  rfl
 have hc12:=bp hb12
 have k6:¬(e2=0∧y≠x∧AY w.s.spc.files y=true∧Fh w y=true):=fun h=>by rw[Vv.2 h]at hb12;cases hb12
 refine AJ (q_ (BF ([(0,WA w cap),(1,IB w cap),(2,Al f),(3,Al g)]) 19 (h:=AN 0 (h:=AN 1 (h:=B7 2 (h:=AE 3 (h:=AE 4 (h:=AE 5 (h:=AD 6 (h:=AE 7 (h:=AD 8 (h:=AE 9 (h:=AD 10 (h:=AE 11 (h:=AD 12 (h:=AE 13 (h:=AD 14 (h:=?_))))))))))))))))))
 refine c_ 15 rfl (AK (hcall) ?_)
 rintro r rfl
 refine o_ (h:=B6 16 (h:=B6 17 (h:=B6 18 (h:=?_))))
 refine c_ 19 rfl (BW [0,1] rfl (.cons _ _ _ _ _ rfl (LeA.refl _) (.cons _ _ _ _ _ rfl (LeA.refl _) (.cons _ _ _ _ _ rfl (LeA.refl _) (.cons _ _ _ _ _ rfl (LeA.refl _) .nil)))) (by decide) (.cons _ _ _ _ _ rfl rfl (.cons _ _ _ _ _ rfl (Ch B0 _ _ _) .nil)) (LP w cap R.1 R.2.1 R.2.2) ?_)
 rintro r bc tc ⟨rfl,rfl,rfl⟩
 refine⟨rfl,_,D2 rfl (BO w R).1 cap,?_⟩
 refine o_ (h:=?_)
 refine c_ 20 rfl (FJ rfl ?_)
 refine o_ (h:=z_ (h:=t_ (q_ (?_))))
 refine B5 (fun s=>s=⟨look [(0, .bp 0 0),(5, .bp 4 0),(9, .v (.int .i64 R.2.2)),(144, .v (.bool (decide (R.2.2=0)&&decide (0<(R.2.1.length:Int)))))],⟨[WA (BO w R).1 cap,IB (BO w R).1 cap,Al f,Al g,AA x],[]⟩⟩) ?_ ?_
 ·skip
  refine AP (m_ (h:=AQ (h:=m_ (h:=?_))))
  refine Ay true rfl rfl (fun hb13=>?_) (fun hb13=>?_)
  ·have hc13:=bp hb13
   have hch:(BO w R).1.r.changes=R.2.1:=by rw[JH hc13]
   refine m_ (h:=k_ (h:=f_ (h:=f_ (h:=l_ (h:=n_ (h:=CW (h:=Af (h:=AO (?_)))))))))
   refine AF ?_
   exact⟨_,rfl,C5 5 0 (by simp[Ag,Ab,Ac,Bc B0,BD,WA,IB,CD,Al,AA])⟩
  have hc13:=bp hb13
  refine A3 (h:=A3 (h:=A3 (h:=A3 (h:=A3 (h:=A3 (h:=A3 (h:=Ak (h:=AO (?_)))))))))
  refine AF ?_
  exact⟨_,rfl,C5 5 0 (by simp[Ag,Ab,Ac,Bc B0,BD,WA,IB,CD,Al,AA])⟩
 rintro s rfl
 refine A8 rfl (fun hb14=>?_) (fun hb14=>?_)
 ·have hc14:=bp hb14
  have h0:R.2.2=0:=of_decide_eq_true ((Bool.and_eq_true _ _).mp hb14).1
  have hfb:FlsB (Fi (BO w R).1 0 3).s.spc.files:=by rw[JH h0];exact(hok h0).1.b
  have hit:(BO w R).1.r.items=w.r.items:=by rw[JH h0]
  have hxa:(BO w R).1.r.items[0]?=some x0:=by rw[hit];exact hx0
  have hil1:0<(BO w R).1.r.items.length:=by rw[hit];exact hil
  have hxr:(Fi (BO w R).1 0 3).r.items[1]?=some x1:=by
   show((BO w R).1.r.items.modify 0 _)[1]?=_
   rw[hit,List.getElem?_modify]
   simp[hx1]
  refine B5 (fun s=>s=⟨look [(0, .bp 0 0),(5, .bp 4 0),(9, .v (.int .i64 R.2.2))],⟨[WA (Fi (BO w R).1 0 3) cap,IB (Fi (BO w R).1 0 3) cap,Al f,Al g,AA x],[]⟩⟩) ?_ ?_
  ·skip
   refine AP (m_ (h:=k_ (h:=f_ (h:=f_ (h:=l_ (h:=?_))))))
   refine A6 rfl (DF (m:=0) rfl rfl rfl hil1 ?_)
   refine f_ (h:=?_)
   refine K0 (Aw rfl rfl rfl rfl rfl rfl (JF B0 (x':={x0 with role:=3}) hxa (by repeat constructor) (List.cons_ne_nil _ _)) (by repeat constructor) ?_)
   refine AO (?_)
   refine AF ?_
   refine⟨_,rfl,?_⟩
   rw[Vy,Vz hxa]
   exact CS 5 0
  rintro s rfl
  refine AP (m_ (h:=l_ (h:=?_)))
  refine A6 rfl (BW [0,1] rfl (.cons _ _ _ _ _ rfl (LeA.refl _) (.cons _ _ _ _ _ rfl (LeA.refl _) (.cons _ _ _ _ _ rfl (LeA.refl _) .nil))) (by decide) (.cons _ _ _ _ _ rfl rfl (.cons _ _ _ _ _ rfl (Ch B0 _ _ _) .nil)) (RO (Fi (BO w R).1 0 3) cap 1 x x1 hfb hxr) ?_)
  rintro r bc tc ⟨rfl,rfl,rfl⟩
  refine⟨rfl,_,D2 rfl (GX (Fi (BO w R).1 0 3) 1 x) cap,?_⟩
  refine e_ (w_ (m_ (h:=a_ (h:=e_ (A4 (?_))))))
  refine BN (r:= .v (.int .i64 (Dg w).2)) none (h5:=(by rw[hren,if_neg k1,if_neg k2,if_neg k3,if_neg k4,if_neg k5,if_neg k6,Vw hb14];exact LeA.refl _)) (h6:=⟨rfl,rfl,?_⟩)
  rw[hren,if_neg k1,if_neg k2,if_neg k3,if_neg k4,if_neg k5,if_neg k6,Vw hb14]
  rfl
 have hc14:=bp hb14
 refine AJ (w_ (m_ (h:=a_ (h:=e_ (A4 (?_))))))
 refine BN (r:= .v (.int .i64 (Dg w).2)) none (h5:=(by rw[hren,if_neg k1,if_neg k2,if_neg k3,if_neg k4,if_neg k5,if_neg k6,Vx hb14];exact LeA.refl _)) (h6:=⟨rfl,rfl,?_⟩)
 rw[hren,if_neg k1,if_neg k2,if_neg k3,if_neg k4,if_neg k5,if_neg k6,Vx hb14]
 rfl
end
end Go.Proofs.YtbglbmnhgbgelaaGreatDoor
