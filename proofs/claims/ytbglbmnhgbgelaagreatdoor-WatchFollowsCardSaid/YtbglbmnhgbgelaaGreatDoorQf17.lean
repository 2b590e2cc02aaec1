/-
  Part 17 of the proof of WatchFollowsP: what the statement's proof uses of the texts in wip/tpl.
-/
import Derived.Test.YtbglbmnhgbgelaaGreatDoorQf16
open Go.Proofs.Tryz (prog)
set_option maxRecDepth 10000
set_option maxHeartbeats 4000000
set_option linter.unusedVariables false
set_option linter.unusedSimpArgs false
namespace Go.Proofs.YtbglbmnhgbgelaaGreatDoor
open Go.RowKit
theorem Na(a b:AA)(w:World):(binOp .eql 36 (.agg #[.int .i64 a.1, .int .i64 a.2]) (.agg #[.int .i64 b.1, .int .i64 b.2])).run prog w= .ok (.bool (decide (a=b))) w:=LN a.1 a.2 b.1 b.2 w
def SG(R:Wch×Int):AV:= .tup [.agg (DM R.1), .v (.int .i64 R.2)]
def PL(R:Wch×Bool):AV:= .tup [.agg (DM R.1), .v (.bool R.2)]
theorem X8(s:Spc)(k:Int)(p:AD)(F:Fnd×Int)(hF:Bc s (0,0) p (decide (k=2))=F):FS s k p=if(k≠1∧k≠2)∨E5 p.data.toList=false then(Ew,22)else if F.2≠0 then(Ew,F.2)
    else if k=2 then(if F.1.ex=false then(Ew,2)else if AT s.files F.1.file=false then(Ew,20)else(⟨k,(0,0),⟨#[]⟩,F.1.file⟩,0))
    else if F.1.name=⟨#[]⟩then(Ew,22)else(⟨k,F.1.dir,F.1.name,(AB s.files F.1.dir F.1.name).1⟩,0):=by
 unfold FS;rw[hF];by_cases h:k=2
 ·rw[decide_eq_true h]at hF;simp only[if_pos h,hF]
 rw[decide_eq_false h]at hF;simp only[if_neg h,hF]
theorem X9{f:AU}{dir:AA}{name:AD}(h:(AB f dir name).2≠0):(AB f dir name).1=(0,0):=by
 unfold AB at h ⊢;split
 ·rfl
 rename_i n e;rw[e]at h;simp only at h;split at h
 ·rename_i c;rw[if_pos c];split
  ·rfl
  rename_i e2;rw[e2]at h;exact absurd rfl h
 rename_i c;rw[if_neg c]
section
theorem XA(s:AD)(hs:s.size≤60000):AFn prog 51 [.v (.string s)] (fun r=>r= .v (.bool (E5 s.data.toList))):=OG (us:=[.string s]) fun w=>hC s w (by omega)
theorem XB(s:Spc)(a:AA)(hs:SpcB s):AFn prog 60 [.agg (Ao s), .agg (AE a)] (fun r=>r= .v (.bool (Ea s a))):=by
 refine enter Tryz.func60 rfl rfl rfl rfl rfl 0 rfl ?_;refine w_ (b_ (h:=b_ (h:=a_ (h:=e_ (w_ (f_ (h:=l_ (h:=l_ (h:=?_)))))))));refine A6 rfl (AK (Gl s.files a hs.files) ?_);rintro r rfl;refine m_ (h:=?_);refine B5 true rfl rfl (fun hb1=>?_) (fun hb1=>?_)
 ·have hc1:=bp hb1;refine l_ (h:=f_ (h:=l_ (h:=?_)));refine BB (AK (LO s a.1 hs) ?_);rintro r rfl;refine Ag (h:=a_ (h:=e_ (A4 (?_))));refine AJ ?_
  first|(exfalso;first|contradiction|omega)|(exact vb (by simp[Ea, *]))
 have hc1:=bp hb1;refine A3 (h:=A3 (h:=A3 (h:=A3 (h:=Ar (h:=a_ (h:=e_ (A4 (?_))))))));refine AJ ?_
 first|(exfalso;first|contradiction|omega)|(exact vb (by simp[Ea, *]))
theorem XC(s:Spc)(a:AA)(hs:SpcB s):AFn prog 54 [.agg (Ao s), .agg (AE a)] (fun r=>r= .v (.bool (AT s.files a))):=by
 refine enter Tryz.func54 rfl rfl rfl rfl rfl 0 rfl ?_;refine w_ (b_ (h:=b_ (h:=a_ (h:=e_ (w_ (f_ (h:=l_ (h:=l_ (h:=?_)))))))));refine A6 rfl (AK (Hw s.files a hs.files) ?_);rintro r rfl;refine m_ (h:=x_ (h:=x_ (h:=AZ (h:=s_ (h:=a_ (h:=e_ (w_ (m_ (h:=m_ (h:=?_))))))))));refine B5 true rfl rfl (fun hb1=>?_) (fun hb1=>?_)
 ·have hc1:=bp hb1;refine f_ (h:=l_ (h:=AR (h:=Ag (h:=a_ (h:=e_ (A4 (?_)))))));refine AJ ?_
  first|(exfalso;first|contradiction|omega)|(exact vb (by simp[Gk, *]))
 have hc1:=bp hb1;refine A3 (h:=A3 (h:=A3 (h:=Ar (h:=a_ (h:=e_ (A4 (?_)))))));refine AJ ?_
 first|(exfalso;first|contradiction|omega)|(exact vb (by simp[Gk, *]))
theorem XD(s:Spc)(a:AA)(hs:SpcB s):AFn prog 58 [.agg (Ao s), .agg (AE a)] (fun r=>r= .v (.bool (Ea s a))):=by
 refine enter Tryz.func58 rfl rfl rfl rfl rfl 0 rfl ?_;refine w_ (b_ (h:=b_ (h:=a_ (h:=e_ (w_ (l_ (h:=l_ (h:=?_))))))));refine A6 rfl (AK (XC s a hs) ?_);rintro r rfl;refine m_ (h:=?_);refine B5 true rfl rfl (fun hb1=>?_) (fun hb1=>?_)
 ·have hc1:=bp hb1;refine l_ (h:=f_ (h:=l_ (h:=?_)));refine BB (AK (Tl s a.1 hs) ?_);rintro r rfl;refine Ag (h:=a_ (h:=e_ (A4 (?_))));refine AJ ?_
  first|(exfalso;first|contradiction|omega)|(exact vb (by simp[Ea, *]))
 have hc1:=bp hb1;refine A3 (h:=A3 (h:=A3 (h:=A3 (h:=Ar (h:=a_ (h:=e_ (A4 (?_))))))));refine AJ ?_
 first|(exfalso;first|contradiction|omega)|(exact vb (by simp[Ea, *]))
theorem XE(s:Spc)(a:AA)(name:AD)(hs:SpcB s):AFn prog 53 [.agg (Ao s), .agg (AE a), .v (.string name)] (fun r=>r= .agg (AE (AB s.files a name).1)):=by
 refine enter Tryz.func53 rfl rfl rfl rfl rfl 0 rfl ?_;refine w_ (b_ (h:=b_ (h:=AZ (h:=e_ (w_ (f_ (h:=l_ (h:=l_ (h:=m_ (h:=?_))))))))));refine A6 rfl (AK (Rv s.files a name hs.files) ?_);rintro r rfl;refine m_ (h:=x_ (h:=x_ (h:=AZ (h:=s_ (h:=a_ (h:=e_ (q_ (w_ (m_ (h:=BV (h:=e_ (?_))))))))))));refine A8 rfl (fun hb1=>?_) (fun hb1=>?_)
 ·have hc1:=bp hb1;refine w_ (AX (h:=s_ (h:=e_ (A4 (A7 (?_))))));refine AJ ?_;rw[X9 (by simpa using hc1)];rfl
 have hc1:=bp hb1;refine AN (w_ (l_ (h:=s_ (h:=e_ (A4 (?_))))));refine AJ ?_;rfl
theorem SH(w:Wch)(hk:w.kind=1∨w.kind=2):AFn prog 59 [.agg (DM w)] (fun r=>r= .agg (AE (CP w))):=by
 refine enter Tryz.func59 rfl rfl rfl rfl rfl 0 rfl ?_;refine w_ (b_ (h:=AZ (h:=e_ (q_ (w_ (f_ (h:=l_ (h:=AR (h:=e_ (?_))))))))));refine A8 rfl (fun hb1=>?_) (fun hb1=>?_)
 ·have hc1:=bp hb1;refine w_ (f_ (h:=l_ (h:=s_ (h:=e_ (A4 (A7 (?_)))))));refine AJ ?_;rw[CP,if_neg (by omega)];rfl
 have hc1:=bp hb1;refine AN (w_ (f_ (h:=l_ (h:=s_ (h:=e_ (A4 (?_)))))));refine AJ ?_;rw[CP,if_pos (by omega)];rfl
theorem SJ(s:Spc)(k:Int)(p:AD)(hv:SpcV s)(hm:s.mounts.length≤1000)(hp:p.size≤50000):AFn prog 18 [.agg (Ao s), .v (.int .i64 k), .v (.string p)] (fun r=>r=SG (FS s k p)):=by
 have hsb:=hv.b hm;obtain⟨F,hF⟩:∃F,Bc s (0,0) p (decide (k=2))=F:=⟨_,rfl⟩;have hw:=X8 s k p F hF;have hfind:AFn prog 56 [.agg (Ao s), .agg (AE (0,0)), .v (.string p), .v (.bool (decide (k=2)))] (fun r=>r= .tup [.agg (Aq F.1), .v (.int .i64 F.2)]):=by rw[←hF];exact WV s (0,0) p _ (hv.n hm) hv (by omega)
 refine enter Tryz.func18 rfl rfl rfl rfl rfl 0 rfl ?_;refine w_ (b_ (h:=AZ (h:=a_ (h:=e_ (q_ (?_))))));refine BE (fun S=>S=⟨look [(1, .v (.int .i64 k)),(2, .v (.string p)),(3, .bp 0 0),(6, .bp 1 0),(22, .v (.bool ((!decide (k=1)&& !decide (k=2))|| !E5 p.data.toList)))],⟨[Ao s,[.v (.int .i64 0), .v (.int .i64 0), .v (.int .i64 0), .v (.string ⟨#[]⟩), .v (.int .i64 0), .v (.int .i64 0)]],[]⟩⟩) ?_ ?_
 ·skip
  refine AQ (m_ (h:=BV (h:=m_ (h:=?_))));refine B5 true rfl rfl (fun hb1=>?_) (fun hb1=>?_)
  ·have hc1:=bp hb1;refine m_ (h:=BV (h:=Ag (h:=m_ (h:=?_))));refine B5 false rfl rfl (fun hb2=>?_) (fun hb2=>?_)
   ·have hc2:=bp hb2;refine A3 (h:=A3 (h:=A3 (h:=Ag (h:=AP (?_)))));refine AF ?_;exact⟨_,rfl,CM 2 0 rfl⟩
   have hc2:=bp hb2;refine m_ (h:=?_);refine BB (AK (VS p hp) ?_);rintro r rfl;refine BG (h:=Ar (h:=AP (?_)));refine AF ?_;exact⟨_,rfl,CM 2 0 rfl⟩
  have hc1:=bp hb1;refine A3 (h:=A3 (h:=Ar (h:=m_ (h:=m_ (h:=?_)))));refine BB (AK (VS p hp) ?_);rintro r rfl;refine BG (h:=Ar (h:=AP (?_)));refine AF ?_;exact⟨_,rfl,CM 2 0 rfl⟩
 rintro S rfl;refine A8 rfl (fun hb3=>?_) (fun hb3=>?_)
 ·have hc3:=bp hb3;have k1:(k≠1∧k≠2)∨E5 p.data.toList=false:=by simpa using hc3
  refine w_ (AX (h:=s_ (h:=a_ (h:=e_ (A4 (A7 (?_)))))));refine AJ ?_;rw[hw,if_pos k1];rfl
 have hc3:=bp hb3;have k1:¬((k≠1∧k≠2)∨E5 p.data.toList=false):=by simpa using hc3
 refine AN (w_ (l_ (h:=AX (h:=m_ (h:=m_ (h:=AR (h:=?_)))))));refine A6 rfl (AK (hfind) ?_);rintro r rfl;refine m_ (h:=x_ (h:=x_ (h:=AZ (h:=s_ (h:=a_ (h:=e_ (q_ (w_ (m_ (h:=BV (h:=e_ (?_))))))))))));refine A8 rfl (fun hb4=>?_) (fun hb4=>?_)
 ·have hc4:=bp hb4;have k2:F.2≠0:=by simpa using hc4
  refine w_ (AX (h:=m_ (h:=s_ (h:=a_ (h:=e_ (A4 (A7 (?_))))))));refine AJ ?_;rw[hw,if_neg k1,if_pos k2];rfl
 have hc4:=bp hb4;have k2:¬F.2≠0:=by simpa using hc4
 refine AN (q_ (w_ (m_ (h:=AR (h:=e_ (?_))))));refine A8 rfl (fun hb5=>?_) (fun hb5=>?_)
 ·have hc5:=bp hb5;have k3:k=2:=hc5;refine q_ (w_ (f_ (h:=l_ (h:=BG (h:=e_ (?_))))));refine A8 rfl (fun hb6=>?_) (fun hb6=>?_)
  ·have hc6:=bp hb6;have k4:F.1.ex=false:=by simpa using hc6
   refine w_ (AX (h:=s_ (h:=a_ (h:=e_ (A4 (A7 (A7 (?_))))))));refine AJ ?_;rw[hw,if_neg k1,if_neg k2,if_pos k3,if_pos k4];rfl
  have hc6:=bp hb6;have k4:¬F.1.ex=false:=by simpa using hc6
  refine AN (q_ (w_ (f_ (h:=l_ (h:=f_ (h:=l_ (h:=?_)))))));refine A6 rfl (AK (Gl s.files F.1.file hsb.files) ?_);rintro r rfl;refine BG (h:=e_ (?_));refine A8 rfl (fun hb7=>?_) (fun hb7=>?_)
  ·have hc7:=bp hb7;have k5:AT s.files F.1.file=false:=by simpa using hc7
   refine w_ (AX (h:=s_ (h:=a_ (h:=e_ (A4 (A7 (A7 (?_))))))));refine AJ ?_;rw[hw,if_neg k1,if_neg k2,if_pos k3,if_neg k4,if_pos k5];rfl
  have hc7:=bp hb7;have k5:¬AT s.files F.1.file=false:=by simpa using hc7
  refine AN (w_ (m_ (h:=f_ (h:=l_ (h:=AX (h:=s_ (h:=a_ (h:=e_ (A4 (A7 (?_)))))))))));refine AJ ?_;rw[hw,if_neg k1,if_neg k2,if_pos k3,if_neg k4,if_neg k5];rfl
 have hc5:=bp hb5;have k3:¬k=2:=hc5;refine AN (q_ (w_ (f_ (h:=l_ (h:=AR (h:=e_ (?_)))))));refine A8 rfl (fun hb8=>?_) (fun hb8=>?_)
 ·have hc8:=bp hb8;have k6:F.1.name=⟨#[]⟩:=hc8;refine w_ (AX (h:=s_ (h:=a_ (h:=e_ (A4 (A7 (?_)))))));refine AJ ?_;rw[hw,if_neg k1,if_neg k2,if_neg k3,if_pos k6];rfl
 have hc8:=bp hb8;have k6:¬F.1.name=⟨#[]⟩:=hc8;refine AN (w_ (f_ (h:=l_ (h:=f_ (h:=l_ (h:=f_ (h:=l_ (h:=?_))))))));refine A6 rfl (AK (Gm s.files F.1.dir F.1.name hsb.files) ?_);rintro r rfl;refine m_ (h:=x_ (h:=x_ (h:=AZ (h:=s_ (h:=a_ (h:=e_ (w_ (m_ (h:=f_ (h:=l_ (h:=f_ (h:=l_ (h:=l_ (h:=AX (h:=s_ (h:=a_ (h:=e_ (A4 (?_)))))))))))))))))));refine AJ ?_;rw[hw,if_neg k1,if_neg k2,if_neg k3,if_neg k6];rfl
theorem l0(s:Spc)(k:Int)(p:AD)(hv:SpcV s)(hm:s.mounts.length≤1000)(hp:p.size≤50000):AFn prog 17 [.agg (Ao s), .v (.int .i64 k), .v (.string p)] (fun r=>r=SG (FS s k p)):=by
 have hsb:=hv.b hm;obtain⟨F,hF⟩:∃F,Bc s (0,0) p (decide (k=2))=F:=⟨_,rfl⟩;have hw:=X8 s k p F hF;have hfind:AFn prog 52 [.agg (Ao s), .agg (AE (0,0)), .v (.string p), .v (.bool (decide (k=2)))] (fun r=>r= .tup [.agg (Aq F.1), .v (.int .i64 F.2)]):=by rw[←hF];exact iU s (0,0) p _ (hv.n hm) hv (by omega)
 refine enter Tryz.func17 rfl rfl rfl rfl rfl 0 rfl ?_;refine w_ (b_ (h:=AZ (h:=a_ (h:=e_ (q_ (?_))))));refine BE (fun S=>S=⟨look [(1, .v (.int .i64 k)),(2, .v (.string p)),(3, .bp 0 0),(6, .bp 1 0),(20, .v (.bool ((!decide (k=1)&& !decide (k=2))|| !E5 p.data.toList)))],⟨[Ao s,[.v (.int .i64 0), .v (.int .i64 0), .v (.int .i64 0), .v (.string ⟨#[]⟩), .v (.int .i64 0), .v (.int .i64 0)]],[]⟩⟩) ?_ ?_
 ·skip
  refine AQ (m_ (h:=BV (h:=m_ (h:=?_))));refine B5 true rfl rfl (fun hb1=>?_) (fun hb1=>?_)
  ·have hc1:=bp hb1;refine m_ (h:=BV (h:=Ag (h:=m_ (h:=?_))));refine B5 false rfl rfl (fun hb2=>?_) (fun hb2=>?_)
   ·have hc2:=bp hb2;refine A3 (h:=A3 (h:=A3 (h:=Ag (h:=AP (?_)))));refine AF ?_;exact⟨_,rfl,CM 2 0 rfl⟩
   have hc2:=bp hb2;refine m_ (h:=?_);refine BB (AK (XA p (by omega)) ?_);rintro r rfl;refine BG (h:=Ar (h:=AP (?_)));refine AF ?_;exact⟨_,rfl,CM 2 0 rfl⟩
  have hc1:=bp hb1;refine A3 (h:=A3 (h:=Ar (h:=m_ (h:=m_ (h:=?_)))));refine BB (AK (XA p (by omega)) ?_);rintro r rfl;refine BG (h:=Ar (h:=AP (?_)));refine AF ?_;exact⟨_,rfl,CM 2 0 rfl⟩
 rintro S rfl;refine A8 rfl (fun hb3=>?_) (fun hb3=>?_)
 ·have hc3:=bp hb3;have k1:(k≠1∧k≠2)∨E5 p.data.toList=false:=by simpa using hc3
  refine w_ (AX (h:=s_ (h:=a_ (h:=e_ (A4 (A7 (?_)))))));refine AJ ?_;rw[hw,if_pos k1];rfl
 have hc3:=bp hb3;have k1:¬((k≠1∧k≠2)∨E5 p.data.toList=false):=by simpa using hc3
 refine AN (w_ (l_ (h:=AX (h:=m_ (h:=m_ (h:=AR (h:=?_)))))));refine A6 rfl (AK (hfind) ?_);rintro r rfl;refine m_ (h:=x_ (h:=x_ (h:=AZ (h:=s_ (h:=a_ (h:=e_ (q_ (w_ (m_ (h:=BV (h:=e_ (?_))))))))))));refine A8 rfl (fun hb4=>?_) (fun hb4=>?_)
 ·have hc4:=bp hb4;have k2:F.2≠0:=by simpa using hc4
  refine w_ (AX (h:=m_ (h:=s_ (h:=a_ (h:=e_ (A4 (A7 (?_))))))));refine AJ ?_;rw[hw,if_neg k1,if_pos k2];rfl
 have hc4:=bp hb4;have k2:¬F.2≠0:=by simpa using hc4
 refine AN (q_ (w_ (m_ (h:=AR (h:=e_ (?_))))));refine A8 rfl (fun hb5=>?_) (fun hb5=>?_)
 ·have hc5:=bp hb5;have k3:¬k=2:=by omega
  refine q_ (w_ (f_ (h:=l_ (h:=AR (h:=e_ (?_))))));refine A8 rfl (fun hb6=>?_) (fun hb6=>?_)
  ·have hc6:=bp hb6;have k6:F.1.name=⟨#[]⟩:=hc6;refine w_ (AX (h:=s_ (h:=a_ (h:=e_ (A4 (A7 (A7 (?_))))))));refine AJ ?_;rw[hw,if_neg k1,if_neg k2,if_neg k3,if_pos k6];rfl
  have hc6:=bp hb6;have k6:¬F.1.name=⟨#[]⟩:=hc6;refine AN (q_ (BO ([(0,Ao s),(2,Aq F.1)]) 14 (h:=AO 0 (h:=AG 1 (h:=?_)))));refine AM 2 (h:=?_);refine AG 3 (h:=?_);refine AM 4 (h:=?_);refine AM 5 (h:=?_);refine AG 6 (h:=?_);refine AM 7 (h:=?_);refine AG 8 (h:=?_);refine AM 9 (h:=?_);refine c_ 10 rfl (AK (XE s F.1.dir F.1.name hsb) ?_);rintro r rfl;refine o_ (h:=Hb 11 (h:=?_));refine Aj 12 rfl (Af rfl rfl rfl rfl rfl rfl (by repeat constructor) (by repeat constructor) ?_);refine o_ (h:=BK 13 (h:=z_ (h:=t_ (A4 (A7 (?_))))));refine AJ ?_;rw[hw,if_neg k1,if_neg k2,if_neg k3,if_neg k6];rfl
 have hc5:=bp hb5;have k3:k=2:=by simp at k1;omega
 refine AN (q_ (w_ (f_ (h:=l_ (h:=BG (h:=e_ (?_)))))));refine A8 rfl (fun hb7=>?_) (fun hb7=>?_)
 ·have hc7:=bp hb7;have k4:F.1.ex=false:=by simpa using hc7
  refine w_ (AX (h:=s_ (h:=a_ (h:=e_ (A4 (A7 (?_)))))));refine AJ ?_;rw[hw,if_neg k1,if_neg k2,if_pos k3,if_pos k4];rfl
 have hc7:=bp hb7;have k4:¬F.1.ex=false:=by simpa using hc7
 refine AN (q_ (w_ (l_ (h:=f_ (h:=l_ (h:=?_))))));refine A6 rfl (AK (XC s F.1.file hsb) ?_);rintro r rfl;refine BG (h:=e_ (?_));refine A8 rfl (fun hb8=>?_) (fun hb8=>?_)
 ·have hc8:=bp hb8;have k5:AT s.files F.1.file=false:=by simpa using hc8
  refine w_ (AX (h:=s_ (h:=a_ (h:=e_ (A4 (A7 (?_)))))));refine AJ ?_;rw[hw,if_neg k1,if_neg k2,if_pos k3,if_neg k4,if_pos k5];rfl
 have hc8:=bp hb8;have k5:¬AT s.files F.1.file=false:=by simpa using hc8
 refine AN (w_ (m_ (h:=f_ (h:=l_ (h:=AX (h:=s_ (h:=a_ (h:=e_ (A4 (?_))))))))));refine AJ ?_;rw[hw,if_neg k1,if_neg k2,if_pos k3,if_neg k4,if_neg k5];rfl
theorem l3(s:Spc)(w:Wch)(hs:SpcB s)(hn:w.name.size≤100000):AFn prog 26 [.agg (Ao s), .agg (DM w)] (fun r=>r= .v (.bool (Eb s w))):=by
 refine enter Tryz.func26 rfl rfl rfl rfl rfl 0 rfl ?_;refine w_ (b_ (h:=b_ (h:=a_ (h:=e_ (q_ (w_ (f_ (h:=l_ (h:=e_ (Av (w_ (AR (h:=a_ (h:=e_ (?_)))))))))))))));refine A8 rfl (fun hb1=>?_) (fun hb1=>?_)
 ·have hc1:=bp hb1;refine w_ (f_ (h:=l_ (h:=f_ (h:=l_ (h:=f_ (h:=l_ (h:=?_)))))));refine A6 rfl (AK (Gm s.files w.dir w.name hs.files) ?_);rintro r rfl;refine m_ (h:=x_ (h:=x_ (h:=AZ (h:=s_ (h:=a_ (h:=e_ (w_ (l_ (h:=f_ (h:=l_ (h:=?_)))))))))));refine A6 rfl (AK (XB s w.dir hs) ?_);rintro r rfl;refine m_ (h:=?_);refine B5 true rfl rfl (fun hb2=>?_) (fun hb2=>?_)
  ·have hc2:=bp hb2;refine l_ (h:=f_ (h:=l_ (h:=?_)));refine BB (Fq rfl rfl (by repeat constructor) (by repeat constructor) (fun W=>Na (AB s.files w.dir w.name).1 w.file W) (by kernel_rfl) ?_);refine Ag (h:=m_ (h:=?_));refine B5 true rfl rfl (fun hb3=>?_) (fun hb3=>?_)
   ·have hc3:=bp hb3;refine f_ (h:=l_ (h:=?_));refine BB (AK (OV w.name hn) ?_);rintro r rfl;refine Ag (h:=a_ (h:=e_ (A4 (AY (A7 (?_))))));refine AJ ?_
    first|(exfalso;first|contradiction|omega)|(exact vb (by simp[Eb, *]))
   have hc3:=bp hb3;refine A3 (h:=A3 (h:=A3 (h:=Ar (h:=a_ (h:=e_ (A4 (AY (A7 (?_)))))))));refine AJ ?_
   first|(exfalso;first|contradiction|omega)|(exact vb (by simp[Eb, *]))
  have hc2:=bp hb2;refine A3 (h:=A3 (h:=A3 (h:=A3 (h:=Ar (h:=m_ (h:=A3 (h:=A3 (h:=A3 (h:=Ar (h:=a_ (h:=e_ (A4 (AY (A7 (?_)))))))))))))));refine AJ ?_
  first|(exfalso;first|contradiction|omega)|(exact vb (by simp[Eb, *]))
 have hc1:=bp hb1;refine w_ (AR (h:=a_ (h:=e_ (?_))));refine A8 rfl (fun hb4=>?_) (fun hb4=>?_)
 ·have hc4:=bp hb4;refine w_ (l_ (h:=f_ (h:=l_ (h:=?_))));refine A6 rfl (AK (XB s w.file hs) ?_);rintro r rfl;refine m_ (h:=?_);refine B5 true rfl rfl (fun hb5=>?_) (fun hb5=>?_)
  ·have hc5:=bp hb5;refine f_ (h:=l_ (h:=AX (h:=?_)));refine BB (Fq rfl rfl (by repeat constructor) (by repeat constructor) (fun W=>Na w.dir (0,0) W) (by kernel_rfl) ?_);refine Ag (h:=m_ (h:=?_));refine B5 true rfl rfl (fun hb6=>?_) (fun hb6=>?_)
   ·have hc6:=bp hb6;refine f_ (h:=l_ (h:=AR (h:=Ag (h:=a_ (h:=e_ (A4 (AY (A7 (?_)))))))));refine AJ ?_
    first|(exfalso;first|contradiction|omega)|(exact vb (by simp[Eb, *]))
   have hc6:=bp hb6;refine A3 (h:=A3 (h:=A3 (h:=Ar (h:=a_ (h:=e_ (A4 (AY (A7 (?_)))))))));refine AJ ?_
   first|(exfalso;first|contradiction|omega)|(exact vb (by simp[Eb, *]))
  have hc5:=bp hb5;refine A3 (h:=A3 (h:=A3 (h:=A3 (h:=Ar (h:=m_ (h:=A3 (h:=A3 (h:=A3 (h:=Ar (h:=a_ (h:=e_ (A4 (AY (A7 (?_)))))))))))))));refine AJ ?_
  first|(exfalso;first|contradiction|omega)|(exact vb (by simp[Eb, *]))
 have hc4:=bp hb4;refine BM (B8 (t_ (w_ (a_ (h:=e_ (A4 (?_)))))));refine AJ ?_
 first|(exfalso;first|contradiction|omega)|(exact vb (by simp[Eb, *]))
end
def Hn:List AV:=[.v (.int .i64 0), .v (.int .i64 0), .v (.int .i64 0), .v (.string ⟨#[]⟩), .v (.int .i64 0), .v (.int .i64 0)]
theorem XF{α:Type}{l:List α}{j:Nat}{x:α}(h:l[j]?=some x)(p:α→Bool):(l.take (j+1)).any p=((l.take j).any p||p x):=by
 rw[List.take_add_one,h,List.any_append];simp
def Ku(w:Wch)(l:List BW):AA:=l.foldl (fun a c=>if c.1=w.dir∧c.2.1=w.name then c.2.2.2 else a) w.file
theorem XG{w:Wch}{l:List BW}{j:Nat}{c:BW}(h:l[j]?=some c):Ku w (l.take (j+1))=if(decide (c.1=w.dir)&&decide (c.2.1=w.name))=true then c.2.2.2 else Ku w (l.take j):=by
 unfold Ku;rw[List.take_add_one,h,List.foldl_append];simp
def Nb(w:Wch)(l:List BW):AA:=if w.kind=1 then Ku w l else w.file
theorem l4(w:Wch)(l:List BW):Kt w l={w with file:=Nb w l}:=by
 unfold Kt Nb Ku;split<;>rfl
def J8(w:Wch)(g:Int):Bool:=(!decide (w.kind=1)&& !decide (w.kind=2))||(!decide (g=0)&&decide (g=(CP w).1))
def Ho(w:Wch)(l:List BW):Bool:=l.any fun c=>decide (c.2.2.1=CP w)
def Hp(w:Wch)(l:List BW):Bool:=l.any fun c=>decide (c.2.2.2=CP w)
theorem XH{w:Wch}{l:List BW}{j:Nat}{c:BW}(h:l[j]?=some c):Ho w (l.take (j+1))=(Ho w (l.take j)||decide (c.2.2.1=CP w)):=XF h _
theorem XJ{w:Wch}{l:List BW}{j:Nat}{c:BW}(h:l[j]?=some c):Hp w (l.take (j+1))=(Hp w (l.take j)||decide (c.2.2.2=CP w)):=XF h _
theorem l6(w:Wch)(g:Int)(l:List BW):Jc w g l=if(J8 w g||(Ho w l&& !Hp w l))=true then(Ew,false)else({w with file:=Nb w l},true):=by
 rw[←l4];unfold Jc
 have:((w.kind≠1∧w.kind≠2)∨(g≠0∧g=(CP w).1)∨((l.any fun c=>decide (c.2.2.1=CP w))=true∧(l.any fun c=>decide (c.2.2.2=CP w))=false))↔(J8 w g||(Ho w l&& !Hp w l))=true:=by
  unfold J8 Ho Hp;simp[or_assoc]
 by_cases h:(J8 w g||(Ho w l&& !Hp w l))=true
 ·rw[if_pos h,if_pos (this.2 h)]
 rw[if_neg h,if_neg (fun k=>h (this.1 k))]
section
theorem XK(s:Spc)(w:Wch)(hs:SpcB s):AFn prog 24 [.agg (Ao s), .agg (DM w)] (fun r=>r=PL (FA s w)):=by
 refine enter Tryz.func24 rfl rfl rfl rfl rfl 0 rfl ?_;refine w_ (b_ (h:=b_ (h:=AZ (h:=a_ (h:=e_ (q_ (?_)))))));refine BE (fun S=>S=⟨look [(2, .bp 0 0),(3, .bp 1 0),(4, .bp 2 0),(20, .v (.bool ((!decide (w.kind=1)&& !decide (w.kind=2))|| !Ea s (CP w))))],⟨[Ao s,DM w,Hn],[]⟩⟩) ?_ ?_
 ·skip
  refine E4 15 (h:=AG 0 (h:=AM 1 (h:=LJ 2 (h:=AO 3 (h:=?_)))));refine JE (j:=3) rfl (fun hb1=>?_) (fun hb1=>?_)
  ·have hc1:=bp hb1;refine AG 4 (h:=AM 5 (h:=LJ 6 (h:=JL 7 (h:=AO 8 (h:=?_)))));refine JE (j:=8) rfl (fun hb2=>?_) (fun hb2=>?_)
   ·have hc2:=bp hb2;refine Bh 9 (h:=Bh 10 (h:=Bh 11 (h:=Bh 12 (h:=Bh 13 (h:=JL 14 (h:=z_ (h:=?_)))))));refine AF ?_;exact⟨_,rfl,CM 3 0 rfl⟩
   have hc2:=bp hb2;refine AM 9 (h:=AM 10 (h:=?_));refine c_ 11 rfl (AK (SH w (by omega)) ?_);rintro r rfl;refine o_ (h:=?_);refine c_ 12 rfl (AK (XD s (CP w) hs) ?_);rintro r rfl;refine o_ (h:=QG 13 (h:=GK 14 (h:=z_ (h:=?_))));refine AF ?_;exact⟨_,rfl,CM 3 0 rfl⟩
  have hc1:=bp hb1;refine Bh 4 (h:=Bh 5 (h:=Bh 6 (h:=GK 7 (h:=AO 8 (h:=AM 9 (h:=AM 10 (h:=?_)))))));refine c_ 11 rfl (AK (SH w (by omega)) ?_);rintro r rfl;refine o_ (h:=?_);refine c_ 12 rfl (AK (XD s (CP w) hs) ?_);rintro r rfl;refine o_ (h:=QG 13 (h:=GK 14 (h:=z_ (h:=?_))));refine AF ?_;exact⟨_,rfl,CM 3 0 rfl⟩
 rintro S rfl;refine A8 rfl (fun hb3=>?_) (fun hb3=>?_)
 ·have hc3:=bp hb3;have k1:(w.kind≠1∧w.kind≠2)∨Ea s (CP w)=false:=by simpa using hc3
  refine w_ (AX (h:=s_ (h:=a_ (h:=e_ (A4 (A7 (?_)))))));refine AJ ?_;rw[FA,if_pos k1];rfl
 have hc3:=bp hb3;have k1:¬((w.kind≠1∧w.kind≠2)∨Ea s (CP w)=false):=by simpa using hc3
 refine AN (q_ (w_ (f_ (h:=l_ (h:=AR (h:=e_ (?_)))))));refine A8 rfl (fun hb4=>?_) (fun hb4=>?_)
 ·have hc4:=bp hb4;have k2:w.kind=1:=hc4;refine AQ (l_ (h:=f_ (h:=l_ (h:=f_ (h:=l_ (h:=?_))))));refine A6 rfl (AK (XE s w.dir w.name hs) ?_);rintro r rfl;refine f_ (h:=s_ (h:=e_ (w_ (l_ (h:=s_ (h:=a_ (h:=e_ (A4 (?_)))))))));refine AJ ?_;rw[FA,if_neg k1,if_pos k2];rfl
 have hc4:=bp hb4;have k2:¬w.kind=1:=hc4;refine AN (w_ (l_ (h:=s_ (h:=a_ (h:=e_ (A4 (?_)))))));refine AJ ?_;rw[FA,if_neg k1,if_neg k2];rfl
theorem XL(w:Wch)(r:Res)(hl:r.changes.length≤1000):AFn prog 33 [.agg (DM w), .agg (Dz r)] (fun x=>x=PL (Jc w r.gone r.changes)):=by
 rw[l6];refine enter Tryz.func33 rfl rfl rfl rfl rfl 0 rfl ?_;refine w_ (b_ (h:=b_ (h:=AZ (h:=a_ (h:=e_ (q_ (?_)))))));refine BE (fun S=>S=⟨look [(2, .bp 0 0),(3, .bp 1 0),(4, .bp 2 0),(20, .v (.bool (!decide (w.kind=1)&& !decide (w.kind=2))))],⟨[DM w,Dz r,Hn],[]⟩⟩) ?_ ?_
 ·skip
  refine AQ (f_ (h:=l_ (h:=BV (h:=m_ (h:=?_)))));refine B5 true rfl rfl (fun hb1=>?_) (fun hb1=>?_)
  ·have hc1:=bp hb1;refine f_ (h:=l_ (h:=BV (h:=Ag (h:=AP (?_)))));refine AF ?_;exact⟨_,rfl,CM 3 0 rfl⟩
  have hc1:=bp hb1;refine A3 (h:=A3 (h:=A3 (h:=Ar (h:=AP (?_)))));refine AF ?_;exact⟨_,rfl,CM 3 0 rfl⟩
 rintro S rfl;refine A8 rfl (fun hb2=>?_) (fun hb2=>?_)
 ·have hc2:=bp hb2;have k1:(J8 w r.gone||(Ho w r.changes&& !Hp w r.changes))=true:=by simp[J8]at hc2 ⊢;simp[hc2]
  refine w_ (AX (h:=s_ (h:=a_ (h:=e_ (A4 (A7 (?_)))))));refine AJ ?_;rw[if_pos k1];rfl
 have hc2:=bp hb2;have k0:w.kind=1∨w.kind=2:=by simp at hc2;omega
 refine AN (w_ (l_ (h:=?_)));refine A6 rfl (AK (SH w k0) ?_);rintro r rfl;refine AZ (h:=s_ (h:=e_ (q_ (?_))));refine BE (fun S=>S=⟨look [(2, .bp 0 0),(3, .bp 1 0),(4, .bp 2 0),(6, .bp 3 0),(33, .v (.bool (!decide (r.gone=0)&&decide (r.gone=(CP w).1))))],⟨[DM w,Dz r,Hn,AE (CP w)],[]⟩⟩) ?_ ?_
 ·skip
  refine AQ (f_ (h:=l_ (h:=BV (h:=m_ (h:=?_)))));refine B5 true rfl rfl (fun hb3=>?_) (fun hb3=>?_)
  ·have hc3:=bp hb3;refine f_ (h:=l_ (h:=f_ (h:=l_ (h:=AR (h:=Ag (h:=AP (?_)))))));refine AF ?_;exact⟨_,rfl,CM 4 0 rfl⟩
  have hc3:=bp hb3;refine A3 (h:=A3 (h:=A3 (h:=A3 (h:=A3 (h:=Ar (h:=AP (?_)))))));refine AF ?_;exact⟨_,rfl,CM 4 0 rfl⟩
 rintro S rfl;refine A8 rfl (fun hb4=>?_) (fun hb4=>?_)
 ·have hc4:=bp hb4;have k1:(J8 w r.gone||(Ho w r.changes&& !Hp w r.changes))=true:=by unfold J8;rw[hb4];simp
  refine w_ (AX (h:=s_ (h:=a_ (h:=e_ (A4 (A7 (?_)))))));refine AJ ?_;rw[if_pos k1];rfl
 have hc4:=bp hb4;have k1:J8 w r.gone=false:=by unfold J8;rw[hb4];rcases k0 with h|h<;>simp[h]
 refine AN (w_ (a_ (h:=a_ (h:=e_ (q_ (w_ (f_ (h:=l_ (h:=n_ (h:=m_ (h:=e_ (Av (?_)))))))))))));refine Bq (fun m S=>∃j:Nat,j≤r.changes.length∧m=r.changes.length - j∧S=⟨look [(2, .bp 0 0),(3, .bp 1 0),(4, .bp 2 0),(6, .bp 3 0),(7, .v (.bool (Ho w (r.changes.take j)))),(8, .v (.bool (Hp w (r.changes.take j)))),(36, .sl 7 (r.changes.map CY) none),(37, .v (.int .i64 ((r.changes.map CY).length:Int))),(38, .v (.int .i64 (j:Int)))],⟨[DM w,Dz r,Hn,AE (CP w)],[]⟩⟩) (r.changes.length) ((wk 4 0)) (⟨0,BJ _,rfl,rfl⟩) ?_;rintro m S ⟨j,hj,rfl,rfl⟩;refine w_ (BS (h:=e_ (q_ (?_))));refine A8 rfl (fun hb5=>?_) (fun hb5=>?_)
 ·have hc5:=bp hb5;obtain⟨hlt,c,hy,hrow, -⟩:=Cu CY hc5;refine AN (q_ (Av (w_ (i_ (h:=l_ (h:=AZ (h:=s_ (h:=e_ (?_)))))))));refine BE (fun S=>S=⟨look [(2, .bp 0 0),(3, .bp 1 0),(4, .bp 2 0),(6, .bp 3 0),(7, .v (.bool (Ho w (r.changes.take j)||decide (c.2.2.1=CP w)))),(8, .v (.bool (Hp w (r.changes.take j)))),(10, .bp 4 0),(36, .sl 7 (r.changes.map CY) none),(37, .v (.int .i64 ((r.changes.map CY).length:Int))),(38, .v (.int .i64 (j:Int)))],⟨[DM w,Dz r,Hn,AE (CP w),CY c],[]⟩⟩) ?_ ?_
  ·skip
   refine AQ (m_ (h:=m_ (h:=?_)));refine B5 false rfl rfl (fun hb6=>?_) (fun hb6=>?_)
   ·have hc6:=bp hb6;refine A3 (h:=A3 (h:=A3 (h:=A3 (h:=Ag (h:=a_ (h:=AP (?_)))))));refine AF ?_;exact⟨_,rfl,CM 5 0 rfl⟩
   have hc6:=bp hb6;refine f_ (h:=l_ (h:=l_ (h:=?_)));refine BB (Fq rfl rfl (by repeat constructor) (by repeat constructor) (fun W=>Na c.2.2.1 (CP w) W) (by kernel_rfl) ?_);refine Ar (h:=a_ (h:=AP (?_)));refine AF ?_;exact⟨_,rfl,CM 5 0 rfl⟩
  rintro S rfl;refine AQ (m_ (h:=m_ (h:=?_)));refine B5 false rfl rfl (fun hb7=>?_) (fun hb7=>?_)
  ·have hc7:=bp hb7;refine A3 (h:=A3 (h:=A3 (h:=A3 (h:=Ag (h:=a_ (h:=AP (B8 (t_ (AQ (BH (h:=m_ (h:=AP (?_)))))))))))));refine AF ?_;refine⟨_,_,?_,⟨j+1,by omega,rfl,rfl⟩,?_⟩
   ·omega
   rw[XH hy,XJ hy];exact CM 4 0 rfl
  have hc7:=bp hb7;refine f_ (h:=l_ (h:=l_ (h:=?_)));refine BB (Fq rfl rfl (by repeat constructor) (by repeat constructor) (fun W=>Na c.2.2.2 (CP w) W) (by kernel_rfl) ?_);refine Ar (h:=a_ (h:=AP (B8 (t_ (AQ (BH (h:=m_ (h:=AP (?_)))))))));refine AF ?_;refine⟨_,_,?_,⟨j+1,by omega,rfl,rfl⟩,?_⟩
  ·omega
  rw[XH hy,XJ hy];exact CM 4 0 rfl
 have hc5:=bp hb5;have e:=D0 CY hj hc5;subst e;rw[List.take_length];refine BX (Aw (Aw (BY (t_ (q_ (?_))))));refine BE (fun S=>S=⟨look [(2, .bp 0 0),(3, .bp 1 0),(4, .bp 2 0),(61, .v (.bool (Ho w r.changes&& !Hp w r.changes)))],⟨[DM w,Dz r,Hn],[]⟩⟩) ?_ ?_
 ·skip
  refine AQ (m_ (h:=m_ (h:=?_)));refine B5 true rfl rfl (fun hb8=>?_) (fun hb8=>?_)
  ·have hc8:=bp hb8;refine m_ (h:=BG (h:=Ag (h:=AP (?_))));refine AF ?_;exact⟨_,rfl,CM 3 0 rfl⟩
  have hc8:=bp hb8;refine A3 (h:=A3 (h:=Ar (h:=AP (?_))));refine AF ?_;exact⟨_,rfl,CM 3 0 rfl⟩
 rintro S rfl;refine A8 rfl (fun hb9=>?_) (fun hb9=>?_)
 ·have hc9:=bp hb9;refine w_ (AX (h:=s_ (h:=a_ (h:=e_ (A4 (A7 (?_)))))));refine AJ ?_;rw[if_pos (by simp[*])];rfl
 have hc9:=bp hb9;refine AN (q_ (w_ (f_ (h:=l_ (h:=AR (h:=e_ (?_)))))));refine A8 rfl (fun hb10=>?_) (fun hb10=>?_)
 ·have hc10:=bp hb10;have k3:w.kind=1:=hc10;refine w_ (f_ (h:=l_ (h:=n_ (h:=m_ (h:=e_ (Av (?_)))))));refine Bq (fun m S=>∃j:Nat,j≤r.changes.length∧m=r.changes.length - j∧S=⟨look [(2, .bp 0 0),(3, .bp 1 0),(4, .bp 2 0),(67, .sl 7 (r.changes.map CY) none),(68, .v (.int .i64 ((r.changes.map CY).length:Int))),(69, .v (.int .i64 (j:Int)))],⟨[DM {w with file:=Ku w (r.changes.take j)},Dz r,Hn],[]⟩⟩) (r.changes.length) ((wk 3 0)) (⟨0,BJ _,rfl,rfl⟩) ?_;rintro m S ⟨j,hj,rfl,rfl⟩;refine w_ (BS (h:=e_ (q_ (?_))));refine A8 rfl (fun hb11=>?_) (fun hb11=>?_)
  ·have hc11:=bp hb11;obtain⟨hlt,c,hy,hrow, -⟩:=Cu CY hc11;refine AN (q_ (Av (w_ (i_ (h:=l_ (h:=AZ (h:=s_ (h:=e_ (?_)))))))));refine BE (fun S=>S=⟨look [(2, .bp 0 0),(3, .bp 1 0),(4, .bp 2 0),(12, .bp 3 0),(67, .sl 7 (r.changes.map CY) none),(68, .v (.int .i64 ((r.changes.map CY).length:Int))),(69, .v (.int .i64 (j:Int))),(84, .v (.bool (decide (c.1=w.dir)&&decide (c.2.1=w.name))))],⟨[DM {w with file:=Ku w (r.changes.take j)},Dz r,Hn,CY c],[]⟩⟩) ?_ ?_
   ·skip
    refine AQ (f_ (h:=l_ (h:=f_ (h:=l_ (h:=?_)))));refine A6 rfl (Fq rfl rfl (by repeat constructor) (by repeat constructor) (fun W=>Na c.1 w.dir W) (by kernel_rfl) ?_);refine m_ (h:=?_);refine B5 true rfl rfl (fun hb12=>?_) (fun hb12=>?_)
    ·have hc12:=bp hb12;refine f_ (h:=l_ (h:=f_ (h:=l_ (h:=AR (h:=Ag (h:=AP (?_)))))));refine AF ?_;exact⟨_,rfl,CM 4 0 rfl⟩
    have hc12:=bp hb12;refine A3 (h:=A3 (h:=A3 (h:=A3 (h:=A3 (h:=Ar (h:=AP (?_)))))));refine AF ?_;exact⟨_,rfl,CM 4 0 rfl⟩
   rintro S rfl;refine A8 rfl (fun hb13=>?_) (fun hb13=>?_)
   ·have hc13:=bp hb13;refine AQ (f_ (h:=l_ (h:=f_ (h:=s_ (h:=AP (B8 (t_ (AQ (BH (h:=m_ (h:=AP (?_))))))))))));refine AF ?_;refine⟨_,_,?_,⟨j+1,by omega,rfl,rfl⟩,?_⟩
    ·omega
    rw[XG hy]
    (rw[if_pos ‹(decide (c.1=w.dir)&&decide (c.2.1=w.name))=true›];exact Az 3 0 rfl rfl rfl rfl ((by repeat (first|exact Sub.nil|refine B0 rfl rfl ?_|refine B2 ?_|refine B3 rfl ?_|refine B4 rfl ?_))))
   have hc13:=bp hb13;refine BM (B8 (t_ (AQ (BH (h:=m_ (h:=AP (?_)))))));refine AF ?_;refine⟨_,_,?_,⟨j+1,by omega,rfl,rfl⟩,?_⟩
   ·omega
   rw[XG hy]
   first|(rw[if_pos ‹(decide (c.1=w.dir)&&decide (c.2.1=w.name))=true›];exact Az 3 0 rfl rfl rfl rfl ((by repeat (first|exact Sub.nil|refine B0 rfl rfl ?_|refine B2 ?_|refine B3 rfl ?_|refine B4 rfl ?_))))|(rw[if_neg (by simp[*])];exact Az 3 0 rfl rfl rfl rfl ((by repeat (first|exact Sub.nil|refine B0 rfl rfl ?_|refine B2 ?_|refine B3 rfl ?_|refine B4 rfl ?_))))
  have hc11:=bp hb11;have e:=D0 CY hj hc11;subst e;rw[List.take_length];refine BX (Aw (Aw (BY (t_ (w_ (l_ (h:=s_ (h:=a_ (h:=e_ (A4 (?_)))))))))));refine AJ ?_;rw[if_neg (by simp[*]),Nb,if_pos k3];rfl
 have hc10:=bp hb10;have k3:¬w.kind=1:=hc10;refine AN (w_ (l_ (h:=s_ (h:=a_ (h:=e_ (A4 (?_)))))));refine AJ ?_;rw[if_neg (by simp[*]),Nb,if_neg k3];rfl
end
section
theorem l7(l:List Int)(a:Nat)(ha:a≤100000000000):Gg prog 15 l a [] 4 (fun r=>∃s:ByteArray,r= .v (.string s)∧s.size≤60):=by
 refine enter Tryz.func15 rfl rfl rfl rfl rfl 1 rfl ?_;refine w_ (a_ (h:=e_ (w_ (a_ (h:=e_ (q_ (w_ (m_ (h:=Bw (h:=?_))))))))));refine A6 rfl (BZ 0 (hc:=K8 l _ _ (fun z=>decide (1≤z∧z≤3)) (by omega) (by rfl) (by rfl) (by rfl)) (hR:=?_));rintro r a1 ha1 ⟨k1,rfl,p1⟩;refine⟨rfl,_,(by repeat constructor),?_⟩;obtain⟨hz1,hz2⟩:=of_decide_eq_true p1;obtain⟨m,rfl⟩:=Int.eq_ofNat_of_zero_le (show 0≤k1 by omega);refine a_ (h:=e_ (Av (?_)));refine Bq (fun n s=>∃(j a1:Nat) (t:ByteArray),j≤m∧n=j∧a1≤a+1+(m - j)∧t.size≤2 * (m - j)∧s=⟨look [(0, .bp 0 0),(3, .v (.string t)),(4, .v (.int .i64 (j:Int)))],⟨[E1 l a1],[]⟩⟩) (m) ((wk 1 0)) (⟨m,a1,⟨#[]⟩,by omega,rfl,by omega,by rw[Nat.sub_self];exact BA 0,rfl⟩) ?_;rintro n s ⟨j,b1,t,hj,hn,hb1,ht,rfl⟩;subst n;refine q_ (w_ (m_ (h:=Ck (h:=e_ (?_)))));refine A8 rfl (fun hb1=>?_) (fun hb1=>?_)
 ·have hc1:=bp hb1;refine AN (q_ (Av (AQ (m_ (h:=m_ (h:=Bw (h:=?_)))))));refine A6 rfl (BZ 0 (hc:=Le l _ _ (fun s=>decide (s.size≤1)) (by omega) (by rfl) (by rfl) (by rfl)) (hR:=?_));rintro r a2 ha2 ⟨k2,rfl,p2⟩;refine⟨rfl,_,(by repeat constructor),?_⟩;have hw:=of_decide_eq_true p2;refine A6 rfl (FE rfl rfl (by show 1+k2.size≤_;omega) ?_);refine A6 rfl (FE rfl rfl (by have e:=ByteArray.size_append (a:=⟨#[47]⟩) (b:=k2);have:(⟨#[47]⟩:ByteArray).size=1:=rfl;omega) ?_);refine a_ (h:=AP (B8 (t_ (AQ (m_ (h:=OR (h:=a_ (h:=AP (?_)))))))));refine AF ?_;obtain⟨j,rfl⟩:∃i,j=i+1:=⟨j - 1,by omega⟩;refine⟨_,_,?_,⟨j,_,_,by omega,rfl,?_,?_,rfl⟩,Az 1 0 rfl rfl rfl rfl (by repeat (first|exact Sub.nil|refine B0 rfl rfl ?_|(apply Sub.of;(focus exact rfl);(focus exact LeA.of_eq (vi (by omega)));(focus exact rfl))))⟩
  ·omega
  ·omega
  have e:=ByteArray.size_append (a:=⟨#[47]⟩) (b:=k2);have e2:=ByteArray.size_append (a:=t) (b:=⟨#[47]⟩++k2);have:(⟨#[47]⟩:ByteArray).size=1:=rfl;omega
 have hc1:=bp hb1;refine BX (Aw (Aw (BY (t_ (w_ (m_ (h:=a_ (h:=e_ (A4 (?_))))))))));refine Am none (h5:=(A9 _)) (h6:=⟨_,rfl,rfl,b1,by omega,rfl,t,rfl,by omega⟩)
end
def Bare(s:Spc):Prop:=FlsV s.files∧0<s.files.length∧s.mounts=[]
theorem Bare.v{s:Spc}(h:Bare s):SpcV s:=⟨h.1,h.2.1,fun i m hm=>by rw[h.2.2]at hm;cases hm⟩
theorem Bare.m{s:Spc}(h:Bare s):s.mounts.length≤1000:=by rw[h.2.2];exact BJ _
theorem XM{w:Wrk}{R:Cp}(h:Bare w.s.spc)(hR:J2 w.s.spc.files R):Bare (BT w R).1.s.spc:=by
 unfold BT;split
 ·rename_i h0;obtain⟨k1,k2⟩:=hR h0;exact⟨k1,by show 0<R.1.length;rw[k2];exact h.2.1,h.2.2⟩
 exact h
theorem GX:TabB Db:=⟨BJ _,(fun p hp=>by cases hp),by decide,by decide⟩
theorem XN{t:Tab}(ht:TabB t)(pid:Int)(a:AA)(fl:Int):TabB (Et t pid a fl).1:=by
 unfold Et;split
 ·exact GX
 split
 ·exact GX
 rename_i h8;refine⟨by simpa[Fh]using ht.few,fun p hp=>?_,ht.next,ht.nextS⟩;simp only[Fh,List.mem_map]at hp;obtain⟨x,hx,rfl⟩:=hp;split
 ·simp[Ln];omega
 exact ht.opens x hx
theorem SK{w:Wrk}{R:Tab×Int}(h:TabB w.s.tab)(hR:TabB R.1):TabB (C5 w R).1.s.tab:=by
 unfold C5;split
 ·exact hR
 exact h
theorem XO(w:Wrk)(R:Cp):(BT w R).1.s.tab=w.s.tab:=by
 unfold BT;split<;>rfl
theorem PM(w:Wrk)(R:Tab×Int):(C5 w R).1.s.spc=w.s.spc:=by
 unfold C5;split<;>rfl
def FB(s:Syst):Prop:=Bare s.spc∧TabB s.tab
theorem XP{w:Wrk}{i:Nat}{n:Nod}(h:FB w.s):FB (CO w i n).1.s:=by
 unfold CO;split
 ·exact⟨XM h.1 (Ou h.1.1 _ _ _),by show TabB (BT w _).1.s.tab;rw[XO];exact h.2⟩
 exact h
theorem XQ{w:Wrk}(h:FB w.s)(a:AA):FB (Fj w a).1.s:=by
 unfold Fj;exact⟨by rw[PM];exact h.1,SK h.2 (XN h.2 _ _ _)⟩
theorem l8{w:Wrk}(h:FB w.s):FB (CB w).1.s:=by
 unfold CB
 repeat' split
 all_goals first|with_reducible exact XP h|with_reducible exact XQ h _|with_reducible exact XQ (XP h) _|exact h
theorem l9{w:Wrk}{R:Cp}{x:AA}(h:FB w.s)(hR:J2 w.s.spc.files R):FB (G7 w R x).1.s:=by
 have hf:FB (BT w R).1.s:=⟨XM h.1 hR,by rw[XO];exact h.2⟩;unfold G7
 repeat' split
 all_goals first|exact h|exact hf
theorem lA{w:Wrk}(h:FB w.s):FB (Dl w).1.s:=by
 have hf:FlsV w.s.spc.files:=h.1.1;unfold Dl
 repeat' split
 all_goals first|with_reducible exact l9 h (Ov hf _ _ _ _)|exact h
theorem SL{s:Syst}{pid:Int}{c:Cal}(h:FB s)(h6:c.num=6∨c.num=13):FB (Bv s pid c).1:=by
 have ha:FB (BD (Ej s pid c)).1.s:=by
  rcases h6 with h6|h6
  ·rw[BD,if_pos (show(Ej s pid c).c.num=6 from h6)];exact l8 h
  have h13:(Ej s pid c).c.num=13:=h6;rw[BD,if_neg (show¬(Ej s pid c).c.num=6 by omega),if_neg (show¬(Ej s pid c).c.num=8 by omega),if_neg (show¬((Ej s pid c).c.num=10∨(Ej s pid c).c.num=12) by omega),if_pos h13];exact lA h
 unfold Bv
 repeat' split
 all_goals first|exact h|exact ha
theorem PN:FB (H6 1).1:=by
 have h:=Uy (k:=1) (by decide) (by decide)
 have e:(H6 1).1=⟨⟨(En 1).1,[]⟩,Ll (0,1)⟩:=by
  unfold H6;rw[if_neg (by decide)]
 rw[e];exact⟨⟨h.1,h.2,rfl⟩,⟨by decide,by decide,by decide,by decide⟩⟩
def Lx(a:UInt8):AD:=⟨#[47,a]⟩
def J9(a:UInt8):Cal:=⟨6,6,420,0,0,[Lx a],[]⟩
def PO:Cal:=⟨13,0,0,0,0,[Lx 98,Lx 97],[]⟩
def Ly:Syst:=(H6 1).1
def Kv:Syst:=(Bv Ly 1 (J9 97)).1
def Jd:Syst:=(Bv Kv 1 (J9 98)).1
def Lz:Syst:=(Bv Jd 1 PO).1
def M0:Res:=(Bv Jd 1 PO).2
def Je:Wch:=(FS Jd.spc 1 (Lx 97)).1
def Nc:Wch:=(FA Lz.spc Je).1
set_option maxRecDepth 100000 in
theorem lB:(FS Jd.spc 1 (Lx 97)).2=0∧Je.file.2=2∧(FA Lz.spc Je).2=true∧Jc Je M0.gone M0.changes=(Nc,true)∧Nc.file.2=3∧M0.changes.length≤1000∧Je.name.size≤100∧(H6 1).2=0:=by decide+kernel
theorem PP:FB Kv:=SL PN (.inl rfl)
theorem M1:FB Jd:=SL PP (.inl rfl)
theorem XR:FB Lz:=SL M1 (.inr rfl)
theorem lC(s:Spc)(k:Int)(p:AD):(FS s k p).1.name.size≤12:=by
 unfold FS
 repeat' split
 all_goals first|exact BJ 12|exact S6 _ _ _ _
def M2(x:Wch):List Value:=[.int .i64 x.kind, .int .i64 x.dir.1, .int .i64 x.dir.2, .string x.name, .int .i64 x.file.1, .int .i64 x.file.2]
set_option maxRecDepth 10000 in
set_option maxHeartbeats 1000000 in
theorem XS(op:BinOp)(x:Wch)(w:World)(h:op= .eql∨op= .neq):(binOp op 38 (.agg (M2 x).toArray) (.agg (M2 x).toArray)).run prog w= .ok (.bool (decide (op= .eql))) w:=by
 have u3:=Tryz.underlying3;have a3:=Tryz.isAgg3;have z3:=Tryz.sizeOf3;have u9:=Tryz.underlying9;have a9:=Tryz.isAgg9;have z9:=Tryz.sizeOf9;have u5:=Tryz.underlying36;have a5:=Tryz.isAgg36;have z5:=Tryz.sizeOf36;have hS:prog.underlying 38=some (.struct (prog.fieldsOf 38)):=by kernel_rfl
 have hp:prog.stoodInHeld 38=false:=by kernel_rfl
 have hSF:prog.underlying 36=some (.struct (prog.fieldsOf 36)):=by kernel_rfl
 have hpF:prog.stoodInHeld 36=false:=by kernel_rfl
 have eF:∀(d:Nat) (a b:Int) (w:World),(Op.equalIn (d+2) 36 (.agg #[.int .i64 a, .int .i64 b]) (.agg #[.int .i64 a, .int .i64 b])).run prog w= .ok true w:=by
  intro d a b w;rw[run_equalIn_agg w (d+1) 36 _ _ hSF hpF];simp only[Program.fieldsOf,Tryz.underlying36]
  go_simp
 have e:∀w,(Op.equalIn 10000 38 (.agg (M2 x).toArray) (.agg (M2 x).toArray)).run prog w= .ok true w:=by
  intro w;rw[show(10000:Nat)=9999+1 from rfl,run_equalIn_agg w 9999 38 _ _ hS hp];simp only[Program.fieldsOf,Tryz.underlying38,M2]
  go_simp
 rcases h with rfl|rfl
 ·rw[run_eql_struct,e];rfl
 rw[run_neq_struct,e];rfl
theorem PQ(x:Wch):AllV (DM x) (M2 x):=by repeat constructor
theorem lD{ev:Operand→Option AV}{h:AH}{R:AV→AH→Prop}{d:Option Tmp}{ty:TypeId}{pos:String}{af:Array Edge}{gd:Option (Nat×Bool)}{yT:TypeId}{x y:Operand}(z:Wch)(hx:ev x=some (.agg (DM z)))(hy:ev y=some (.agg (DM z)))(hR:R (.v (.bool true)) h):AStep prog ⟨d, .binOp .eql 38 x y yT,ty,pos,af,gd⟩ ev h R:=
 Fq hx hy (PQ z) (PQ z) (fun w=>XS .eql z w (.inl rfl)) (by kernel_rfl) hR
theorem XT{ev:Operand→Option AV}{h:AH}{R:AV→AH→Prop}{d:Option Tmp}{ty:TypeId}{pos:String}{af:Array Edge}{gd:Option (Nat×Bool)}{yT:TypeId}{x y:Operand}(z:Wch)(hx:ev x=some (.agg (DM z)))(hy:ev y=some (.agg (DM z)))(hR:R (.v (.bool false)) h):AStep prog ⟨d, .binOp .neq 38 x y yT,ty,pos,af,gd⟩ ev h R:=
 Fq hx hy (PQ z) (PQ z) (fun w=>XS .neq z w (.inr rfl)) (by kernel_rfl) hR
section
theorem XU:AFn prog 11 [] (fun r=>r= .v (.bool true)):=by
 obtain⟨y1,y2,y3,y4,y5,y6,y7,y8⟩:=lB;have hnew:AFn prog 44 [.v (.int .i64 1)] (fun r=>r= .tup [.agg (Bn Ly), .v (.int .i64 0)]):=(Wa 1).mono fun r hr=>by rw[hr,PH,y8];rfl
 have hr1:AFn prog 35 [.agg (Bn Ly), .v (.int .i64 1), .agg (Dc (J9 97))] (fun r=>r= .tup [.agg (Bn Kv), .agg (Dz (Bv Ly 1 (J9 97)).2)]):=SD _ _ _ PN.1.v PN.1.m PN.2 (by decide) (by decide) (.inl rfl);have hr2:AFn prog 35 [.agg (Bn Kv), .v (.int .i64 1), .agg (Dc (J9 98))] (fun r=>r= .tup [.agg (Bn Jd), .agg (Dz (Bv Kv 1 (J9 98)).2)]):=SD _ _ _ PP.1.v PP.1.m PP.2 (by decide) (by decide) (.inl rfl);have hr3:AFn prog 35 [.agg (Bn Jd), .v (.int .i64 1), .agg (Dc PO)] (fun r=>r= .tup [.agg (Bn Lz), .agg (Dz M0)]):=SD _ _ _ M1.1.v M1.1.m M1.2 (by decide) (by decide) (.inr rfl);have hpl:AFn prog 17 [.agg (Ao Jd.spc), .v (.int .i64 1), .v (.string (Lx 97))] (fun r=>r= .tup [.agg (DM Je), .v (.int .i64 0)]):=(l0 _ _ _ M1.1.v M1.1.m (by decide)).mono fun r hr=>by rw[hr,SG,y1];rfl
 have hfo:AFn prog 24 [.agg (Ao Lz.spc), .agg (DM Je)] (fun r=>r= .tup [.agg (DM Nc), .v (.bool true)]):=(XK _ _ (XR.1.v.b XR.1.m)).mono fun r hr=>by rw[hr,PL,y3];rfl
 have hch:AFn prog 33 [.agg (DM Je), .agg (Dz M0)] (fun r=>r= .tup [.agg (DM Nc), .v (.bool true)]):=(XL _ _ y6).mono fun r hr=>by rw[hr,y4];rfl
 obtain⟨W,hW⟩:∃W,W=Je:=⟨_,rfl⟩;obtain⟨U,hU⟩:∃U,U=Nc:=⟨_,rfl⟩;obtain⟨S0,hS0⟩:∃S,S=Ly:=⟨_,rfl⟩;obtain⟨S1,hS1⟩:∃S,S=Kv:=⟨_,rfl⟩;obtain⟨S2,hS2⟩:∃S,S=Jd:=⟨_,rfl⟩;obtain⟨S3,hS3⟩:∃S,S=Lz:=⟨_,rfl⟩;obtain⟨R1,hR1⟩:∃R,R=(Bv Ly 1 (J9 97)).2:=⟨_,rfl⟩;obtain⟨R2,hR2⟩:∃R,R=(Bv Kv 1 (J9 98)).2:=⟨_,rfl⟩;obtain⟨R3,hR3⟩:∃R,R=M0:=⟨_,rfl⟩;rw[←hS0]at hnew;rw[←hR1,←hS1,←hS0]at hr1;rw[←hR2,←hS2,←hS1]at hr2;rw[←hR3,←hS3,←hS2]at hr3;rw[←hW,←hS2]at hpl;rw[←hU,←hW,←hS3]at hfo;rw[←hU,←hW,←hR3]at hch;rw[←hW]at y2;rw[←hU]at y5;clear hW hU hS0 hS1 hS2 hS3 hR1 hR2 hR3 y1 y3 y4 y6 y7 y8;refine enter Tryz.func11 rfl rfl rfl rfl rfl 0 rfl ?_;refine w_ (a_ (h:=e_ (w_ (?_))));refine A6 rfl (AK (hnew) ?_);rintro r rfl;refine m_ (h:=x_ (h:=x_ (h:=AZ (h:=s_ (h:=a_ (h:=e_ (w_ (l_ (h:=AX (h:=Bw (h:=?_)))))))))));refine A6 rfl (Ex (y:= .agg (Dc (J9 97))) (DD ⟨rfl,rfl⟩) ?_);refine A6 rfl (AK (hr1) ?_);rintro r rfl;refine m_ (h:=x_ (h:=x_ (h:=s_ (h:=e_ (w_ (l_ (h:=AX (h:=Bw (h:=?_)))))))));refine A6 rfl (Ex (y:= .agg (Dc (J9 98))) (DD ⟨rfl,rfl⟩) ?_);refine A6 rfl (AK (hr2) ?_);rintro r rfl;refine m_ (h:=x_ (h:=x_ (h:=s_ (h:=e_ (w_ (f_ (h:=l_ (h:=?_))))))));refine A6 rfl (AK (hpl) ?_);rintro r rfl;refine m_ (h:=x_ (h:=x_ (h:=AZ (h:=s_ (h:=a_ (h:=e_ (w_ (l_ (h:=Bw (h:=?_))))))))));refine A6 rfl (Ex (y:= .agg (Dc PO)) (DD ⟨rfl,rfl⟩) ?_);refine A6 rfl (AK (hr3) ?_);rintro r rfl;refine m_ (h:=x_ (h:=x_ (h:=AZ (h:=AZ (h:=s_ (h:=s_ (h:=e_ (w_ (f_ (h:=l_ (h:=l_ (h:=?_))))))))))));refine A6 rfl (AK (hfo) ?_);rintro r rfl;refine m_ (h:=x_ (h:=x_ (h:=AZ (h:=s_ (h:=a_ (h:=e_ (w_ (l_ (h:=l_ (h:=?_))))))))));refine A6 rfl (AK (hch) ?_);rintro r rfl;refine m_ (h:=x_ (h:=x_ (h:=AZ (h:=s_ (h:=a_ (h:=e_ (w_ (m_ (h:=AR (h:=m_ (h:=?_)))))))))));refine B5 true rfl rfl (fun hb1=>?_) (fun hb1=>?_)
 ·have hc1:=bp hb1;refine f_ (h:=f_ (h:=l_ (h:=AR (h:=Ag (h:=m_ (h:=?_))))));refine B5 true rfl rfl (fun hb2=>?_) (fun hb2=>?_)
  ·have hc2:=bp hb2;refine m_ (h:=Ag (h:=m_ (h:=?_)));refine B5 true rfl rfl (fun hb3=>?_) (fun hb3=>?_)
   ·have hc3:=bp hb3;refine m_ (h:=Ag (h:=m_ (h:=?_)));refine B5 true rfl rfl (fun hb4=>?_) (fun hb4=>?_)
    ·have hc4:=bp hb4;refine l_ (h:=l_ (h:=?_));refine BB (lD U rfl rfl ?_);refine Ag (h:=m_ (h:=?_));refine B5 true rfl rfl (fun hb5=>?_) (fun hb5=>?_)
     ·have hc5:=bp hb5;refine f_ (h:=f_ (h:=l_ (h:=AR (h:=Ag (h:=a_ (h:=e_ (A4 (?_))))))));refine AJ ?_
      first|rfl|(exfalso;first|contradiction|omega)|exact vb (by simp[y5])
     have hc5:=bp hb5;refine A3 (h:=A3 (h:=A3 (h:=A3 (h:=Ar (h:=a_ (h:=e_ (A4 (?_))))))));refine AJ ?_
     first|rfl|(exfalso;first|contradiction|omega)
    have hc4:=bp hb4;refine A3 (h:=A3 (h:=A3 (h:=Ar (h:=m_ (h:=A3 (h:=A3 (h:=A3 (h:=A3 (h:=Ar (h:=a_ (h:=e_ (A4 (?_)))))))))))));refine AJ ?_
    first|rfl|(exfalso;first|contradiction|omega)
   have hc3:=bp hb3;refine A3 (h:=Ar (h:=m_ (h:=A3 (h:=A3 (h:=A3 (h:=Ar (h:=m_ (h:=A3 (h:=A3 (h:=A3 (h:=A3 (h:=Ar (h:=a_ (h:=e_ (A4 (?_))))))))))))))));refine AJ ?_
   first|rfl|(exfalso;first|contradiction|omega)
  have hc2:=bp hb2;refine A3 (h:=Ar (h:=m_ (h:=A3 (h:=Ar (h:=m_ (h:=A3 (h:=A3 (h:=A3 (h:=Ar (h:=m_ (h:=A3 (h:=A3 (h:=A3 (h:=A3 (h:=Ar (h:=a_ (h:=e_ (A4 (?_)))))))))))))))))));refine AJ ?_
  first|rfl|(exfalso;first|contradiction|omega)
 have hc1:=bp hb1;refine A3 (h:=A3 (h:=A3 (h:=A3 (h:=Ar (h:=m_ (h:=A3 (h:=Ar (h:=m_ (h:=A3 (h:=Ar (h:=m_ (h:=A3 (h:=A3 (h:=A3 (h:=Ar (h:=m_ (h:=A3 (h:=A3 (h:=A3 (h:=A3 (h:=Ar (h:=a_ (h:=e_ (?_))))))))))))))))))))))));refine A4 (?_);refine AJ ?_
 first|rfl|(exfalso;first|contradiction|omega)
theorem lE(l:List Int)(a:Nat)(s:Spc)(ha:a≤100000000)(hv:SpcV s)(hm:s.mounts.length≤1000):Gg prog 20 l a [.agg (Ao s)] 60 (fun r=>∃(w:Wch) (b:Bool),r=PL (w,b)∧w.name.size≤100∧(b=true→∃k p,FS s k p=(w,0))∧(b=false→w=Ew)):=by
 refine enter Tryz.func20 rfl rfl rfl rfl rfl 1 rfl ?_;refine w_ (b_ (h:=AZ (h:=a_ (h:=e_ (q_ (w_ (a_ (h:=e_ (Av (?_))))))))));refine Bq (fun n S=>∃(j b:Nat),j≤6∧n=6 - j∧b≤a+10 * j∧S=⟨look [(0, .bp 0 0),(3, .bp 1 0),(4, .bp 2 0),(6, .v (.int .i64 (j:Int)))],⟨[E1 l b,Ao s,Hn],[]⟩⟩) (6) ((wk 3 0)) (⟨0,a,by omega,rfl,by omega,rfl⟩) ?_;rintro n S ⟨j,b0,hj,rfl,hb0,rfl⟩;refine q_ (w_ (m_ (h:=BS (h:=e_ (?_)))));refine A8 rfl (fun hb1=>?_) (fun hb1=>?_)
 ·have hc1:=bp hb1;refine AN (q_ (Av (w_ (m_ (h:=?_)))));refine A6 rfl (BZ 0 (hc:=l7 l _ (by omega)) (hR:=?_));rintro r a1 ha1 ⟨p,rfl,hp⟩;refine⟨rfl,_,(by repeat constructor),?_⟩;refine a_ (h:=e_ (?_));refine BE (fun S=>∃(q:AD) (b:Nat),q.size≤60∧b≤a+10 * j+5∧S=⟨look [(0, .bp 0 0),(3, .bp 1 0),(4, .bp 2 0),(6, .v (.int .i64 (j:Int))),(7, .v (.string q))],⟨[E1 l b,Ao s,Hn],[]⟩⟩) ?_ ?_
  ·skip
   refine w_ (m_ (h:=?_));refine A6 rfl (BZ 0 (hc:=Gn l _ (8) (by omega) (by omega)) (hR:=?_));rintro r a2 ha2 ⟨k2,rfl,p2,q2,o2⟩;refine⟨rfl,_,(by repeat constructor),?_⟩;refine AR (h:=e_ (?_));refine A8 rfl (fun hb2=>?_) (fun hb2=>?_)
   ·have hc2:=bp hb2;refine AQ (a_ (h:=AP (?_)));refine AF ?_
    (have h7:k2=7:=‹k2=7›;exact⟨_,⟨⟨#[47]⟩,_,(by decide),(by omega),rfl⟩,Az 3 0 rfl rfl rfl rfl ((by repeat (first|exact Sub.nil|refine B0 rfl rfl ?_|refine B2 ?_|refine B3 rfl ?_|refine B4 rfl ?_)))⟩)
   have hc2:=bp hb2;refine BM (?_);refine AF ?_
   first|(have h7:k2=7:=‹k2=7›;exact⟨_,⟨⟨#[47]⟩,_,(by decide),(by omega),rfl⟩,Az 3 0 rfl rfl rfl rfl ((by repeat (first|exact Sub.nil|refine B0 rfl rfl ?_|refine B2 ?_|refine B3 rfl ?_|refine B4 rfl ?_)))⟩)|exact⟨_,⟨p,_,hp,(by omega),rfl⟩,Az 3 0 rfl rfl rfl rfl ((by repeat (first|exact Sub.nil|refine B0 rfl rfl ?_|refine B2 ?_|refine B3 rfl ?_|refine B4 rfl ?_)))⟩
  rintro S ⟨q,b,hq,hb,rfl⟩;refine BE (fun S=>∃(k:Int) (b:Nat),b≤a+10 * (j+1)∧S=⟨look [(0, .bp 0 0),(3, .bp 1 0),(4, .bp 2 0),(6, .v (.int .i64 (j:Int))),(8, .bp 3 0),(9, .v (.int .i64 (FS s k q).2))],⟨[E1 l b,Ao s,Hn,DM (FS s k q).1],[]⟩⟩) ?_ ?_
  ·skip
   refine BO ([(1,Ao s)]) 11 (h:=?_);refine AM 0 (h:=?_);refine AO 1 (h:=AO 3 (h:=?_));refine Co 2 8 rfl rfl ?_ ?_
   ·refine BZ 0 (hc:=K7 l _ (1) (2) (by omega) (by omega) (by omega) (by omega)) (hR:=?_);rintro r a3 ha3 ⟨k3,rfl,p3,q3⟩;refine⟨rfl,_,(by repeat constructor),?_⟩;refine o_ (h:=?_);refine Co 4 8 rfl rfl ?_ ?_
    ·refine AK (SJ s _ q hv hm (by omega)) ?_;rintro r rfl;refine o_ (h:=?_);refine AO 5 (h:=Au 6 (h:=Au 7 (h:=?_)));refine c_ 8 rfl (BQ (by repeat constructor) ?_);refine o_ (h:=?_);refine Aj 9 rfl (Af rfl rfl rfl rfl rfl rfl (by repeat constructor) (by repeat constructor) ?_);refine o_ (h:=BK 10 (h:=z_ (h:=?_)));refine AF ?_;exact⟨_,⟨_,_,(by omega),rfl⟩,Az 4 0 rfl rfl rfl rfl ((by repeat (first|exact Sub.nil|refine B0 rfl rfl ?_|refine B2 ?_|refine B3 rfl ?_|refine B4 rfl ?_)))⟩
    refine BQ (by repeat constructor) ?_;refine o_ (h:=?_);refine c_ 4 rfl (AK (SJ s _ q hv hm (by omega)) ?_);rintro r rfl;refine o_ (h:=AO 5 (h:=Au 6 (h:=Au 7 (h:=?_))));refine Aj 9 rfl (Af rfl rfl rfl rfl rfl rfl (by repeat constructor) (by repeat constructor) ?_);refine o_ (h:=BK 10 (h:=z_ (h:=?_)));refine AF ?_;exact⟨_,⟨_,_,(by omega),rfl⟩,Az 4 0 rfl rfl rfl rfl ((by repeat (first|exact Sub.nil|refine B0 rfl rfl ?_|refine B2 ?_|refine B3 rfl ?_|refine B4 rfl ?_)))⟩
   refine BQ (by repeat constructor) ?_;refine o_ (h:=?_);refine c_ 2 rfl (BZ 0 (hc:=K7 l _ (1) (2) (by omega) (by omega) (by omega) (by omega)) (hR:=?_));rintro r a4 ha4 ⟨k4,rfl,p4,q4⟩;refine⟨rfl,_,(by repeat constructor),?_⟩;refine o_ (h:=?_);refine c_ 4 rfl (AK (SJ s _ q hv hm (by omega)) ?_);rintro r rfl;refine o_ (h:=AO 5 (h:=Au 6 (h:=Au 7 (h:=?_))));refine Aj 9 rfl (Af rfl rfl rfl rfl rfl rfl (by repeat constructor) (by repeat constructor) ?_);refine o_ (h:=BK 10 (h:=z_ (h:=?_)));refine AF ?_;exact⟨_,⟨_,_,(by omega),rfl⟩,Az 4 0 rfl rfl rfl rfl ((by repeat (first|exact Sub.nil|refine B0 rfl rfl ?_|refine B2 ?_|refine B3 rfl ?_|refine B4 rfl ?_)))⟩
  rintro S ⟨kk,b1,hb1,rfl⟩;refine w_ (m_ (h:=AR (h:=e_ (?_))));refine A8 rfl (fun hb3=>?_) (fun hb3=>?_)
  ·have hc3:=bp hb3;have h0:(FS s kk q).2=0:=hc3;refine w_ (l_ (h:=s_ (h:=a_ (h:=e_ (A4 (AY (A7 (A7 (AY (A7 (?_)))))))))));refine Am none (h5:=(A9 _)) (h6:=⟨_,rfl,rfl,b1,by omega,rfl,(FS s kk q).1,true,rfl,Nat.le_trans (lC s kk q) (by decide),fun _=>⟨kk,q,Prod.ext rfl h0⟩,fun h=>(by cases h)⟩)
  have hc3:=bp hb3;refine BM (B8 (t_ (AQ (m_ (h:=BH (h:=a_ (h:=AP (?_))))))));refine AF ?_;refine⟨_,_,?_,⟨j+1,_,by omega,rfl,?_,rfl⟩,Az 3 0 rfl rfl rfl rfl ((by repeat (first|exact Sub.nil|refine B0 rfl rfl ?_|refine B2 ?_|refine B3 rfl ?_|refine B4 rfl ?_)))⟩<;>omega
 have hc1:=bp hb1;refine BX (Aw (Aw (BY (t_ (w_ (AX (h:=s_ (h:=a_ (h:=e_ (A4 (?_)))))))))));refine Am none (h5:=(A9 _)) (h6:=⟨_,rfl,rfl,b0,by omega,rfl,Ew,false,rfl,BJ _,fun h=>(by cases h),fun _=>rfl⟩)
end
def FC(ns:List Nod)(i:Int):Option Int:=(ns.find? fun n:Nod=>n.ino==i).map (·.kind)
def Jf(f:AU)(a:AA):Option Int:=match Ec f a.1 with
 |none=>none
 |some d=>FC d.nodes a.2
theorem lF(f:AU)(a:AA):AT f a=decide (Jf f a=some 2):=by
 have key:∀o:Option Nod,(match o with|none=>false|some n=>n.kind==2)=decide (o.map (·.kind)=some 2):=by
  intro o
  cases o with
  |none=>rfl
  |some n=>by_cases h:n.kind=2<;>simp[h]
 unfold AT Jf Bo
 cases Ec f a.1 with
 |none=>rfl
 |some d=>exact key _
theorem PR{j:Int}{g:Nod→Nod}(hi:∀n,(g n).ino=n.ino)(hk:∀n,(g n).kind=n.kind)(i:Int):∀ns:List Nod,FC (CU ns j g) i=FC ns i
 |[]=>rfl
 |n::ns=>by
   have ih:=PR hi hk (j:=j) i ns;unfold FC CU at ih ⊢;rw[List.map_cons,List.find?_cons,List.find?_cons];have e1:(if n.ino=j then g n else n).ino=n.ino:=by split<;>simp[hi]
   have e2:(if n.ino=j then g n else n).kind=n.kind:=by split<;>simp[hk]
   rw[e1]
   cases n.ino==i with
   |true=>simp[e2]
   |false=>exact ih
theorem XV{ns:List Nod}{i j:Int}(h:i≠j):FC (Bu ns j) i=FC ns i:=by
 unfold FC Bu;rw[List.find?_filter]
 congr 2
 funext n
 by_cases e:n.ino=i
 ·subst e;simp[h]
 simp[e]
theorem Kw(ns:List Nod)(p:Int)(name:AD)(ino i:Int):FC (BR ns p name ino) i=FC ns i:=PR (g:=LY name ino) (j:=p) (fun _=>rfl) (fun _=>rfl) i ns
theorem lG(ns:List Nod)(a p:Int)(b:Bool)(i:Int):FC (FZ ns a p b) i=FC ns i:=by
 unfold FZ;split
 ·exact PR (g:=fun n=>{n with parent:=p}) (j:=a) (fun _=>rfl) (fun _=>rfl) i ns
 rfl
theorem lH{ns:List Nod}{i k:Int}(h:FC ns i=some k)(m:Nod):FC (ns++[m]) i=some k:=by
 unfold FC at h ⊢;rw[List.find?_append]
 cases e:ns.find? fun n:Nod=>n.ino==i with
 |none=>rw[e]at h;simp at h
 |some n=>rw[e]at h;simpa using h
theorem XW{f:AU}{q:Nat}{d d':Dvc}(hq:f[q]?=some d){a:AA}{k:Int}(h:Jf f a=some k)(hd:a.1=(q:Int)→FC d.nodes a.2=some k→FC d'.nodes a.2=some k):Jf (f.set q d') a=some k:=by
 unfold Jf at h ⊢;unfold Ec at h ⊢;by_cases c:a.1<0
 ·rw[if_pos c]at h;cases h
 rw[if_neg c]at h ⊢;rw[List.getElem?_set];by_cases e:q=a.1.toNat
 ·subst e;have hl:=(As.1 hq).1;rw[if_pos rfl,if_pos hl];rw[hq]at h;exact hd (by omega) h
 rw[if_neg e];exact h
theorem PS{f:AU}{q:Nat}{g:List Nod→List Nod}{a:AA}{k:Int}(h:Jf f a=some k)(hd:∀ns,a.1=(q:Int)→FC ns a.2=some k→FC (g ns) a.2=some k):Jf (Ez f q g) a=some k:=by
 cases e:f[q]? with
 |none=>
   have:Ez f q g=f:=by
    unfold Ez;apply List.ext_getElem?;intro i;rw[List.getElem?_modify];by_cases c:q=i
    ·subst c;rw[e];rfl
    cases f[i]?<;>simp[c]
   rw[this];exact h
 |some d=>
   rw[FN e];exact XW e h (hd d.nodes)
theorem Nd{f g:AU}{a:AA}(h:AT f a=true)(hk:Jf f a=some 2→Jf g a=some 2):AT g a=true:=by
 rw[lF,decide_eq_true_iff]at h ⊢;exact hk h
theorem XX{f:AU}{dir:AA}{name:AD}{n:Nod}(h0:(DW f dir name n).2.2=0){a:AA}(h:AT f a=true):AT (DW f dir name n).1 a=true:=by
 unfold DW at h0 ⊢;split at h0
 ·rename_i c;exact absurd h0 c
 rename_i c1;rw[if_neg c1];split at h0
 ·exact absurd h0 (by decide)
 rename_i c2;rw[if_neg c2];split at h0
 ·exact absurd h0 (by decide)
 rename_i c3;rw[if_neg c3]
 cases e:Ec f dir.1 with
 |none=>rw[e]at h0;exact absurd h0 (by simp)
 |some d=>
   rw[e]at h0;simp only at h0 ⊢;split at h0
   ·exact absurd h0 (by decide)
   rename_i c4;rw[if_neg c4]
   have hq:f[dir.1.toNat]?=some d:=by
    unfold Ec at e;split at e
    ·cases e
    exact e
   refine Nd h fun hk=>XW hq hk fun _ hk=>lH ?_ _;rw[Kw];exact hk
theorem XY{f:AU}{dir:AA}{name:AD}{b:AA}(h0:(DP f dir name b).2.2=0){a:AA}(h:AT f a=true):AT (DP f dir name b).1 a=true:=by
 revert h0;unfold DP
 repeat' split
 all_goals first|exact fun h0=>absurd h0 (by assumption)|exact fun h0=>absurd h0 (by decide)|skip
 exact fun _=>Nd h fun hk=>PS hk fun ns _ hn=>(Kw ns dir.2 name b.2 a.2).trans hn
theorem XZ{f:AU}{dir:AA}{name:AD}{o:AA}(ho:o.1=dir.1){a:AA}(h:AT f a=true)(hne:a≠o)(h0:0≤dir.1):AT (Ez f dir.1.toNat fun ns=>Bu (BR ns dir.2 name 0) o.2) a=true:=
 Nd h fun hk=>PS hk fun ns ha hn=>by
  rw[XV (fun e=>hne (Prod.ext (by rw[ha,ho];omega) e)),Kw];exact hn
theorem SM{f:AU}{dir:AA}{name:AD}(h:(AB f dir name).2=0):(AB f dir name).1.1=dir.1:=by
 unfold AB at h ⊢;split
 ·rename_i e;rw[e]at h;exact absurd h (by simp)
 rename_i n e;rw[e]at h;simp only at h;split at h
 ·rename_i c;rw[if_pos c];split
  ·rename_i e2;rw[e2]at h;exact absurd h (by simp)
  rfl
 exact absurd h (by decide)
theorem SN{f:AU}{dir:AA}{name:AD}(h:CC f dir name=0):0≤dir.1:=by
 unfold CC Bo Ec at h;by_cases c:dir.1<0
 ·rw[if_pos c]at h;exact absurd h (by simp)
 omega
theorem Xa{f:AU}{dir:AA}{name:AD}(h0:(EG f dir name).2.2=0){a:AA}(h:AT f a=true):AT (EG f dir name).1 a=true:=by
 unfold EG at h0 ⊢;split at h0
 ·rename_i c;exact absurd h0 c
 rename_i c1;rw[if_neg c1];split at h0
 ·rename_i c;exact absurd h0 c
 rename_i c2;rw[if_neg c2];split at h0
 ·exact absurd h0 (by decide)
 rename_i c3;rw[if_neg c3];exact XZ (SM (by omega)) h (fun e=>c3 (by rw[←e];exact h)) (SN (f:=f) (name:=name) (by omega))
theorem Xb{f:AU}{dir:AA}{name:AD}(h0:(Dw f dir name).2.2=0){a:AA}(h:AT f a=true)(hne:a≠(AB f dir name).1):AT (Dw f dir name).1 a=true:=by
 unfold Dw at h0 ⊢;split at h0
 ·rename_i c;exact absurd h0 c
 rename_i c1;rw[if_neg c1];split at h0
 ·rename_i c;exact absurd h0 c
 rename_i c2;rw[if_neg c2];split at h0
 ·exact absurd h0 (by decide)
 rename_i c3;rw[if_neg c3];split at h0
 ·exact absurd h0 (by decide)
 rename_i c4;rw[if_neg c4];exact XZ (SM (by omega)) h hne (SN (f:=f) (name:=name) (by omega))
theorem Xc{f:AU}{b:AA}{m u g:Int}(h0:(DE f b m u g).2=0){a:AA}(h:AT f a=true):AT (DE f b m u g).1 a=true:=by
 unfold DE at h0 ⊢;split at h0
 ·exact absurd h0 (by decide)
 rename_i c1;rw[if_neg c1];split at h0
 ·exact absurd h0 (by decide)
 rename_i c2;rw[if_neg c2];exact Nd h fun hk=>PS hk fun ns _ hn=>(PR (g:=ET m u g) (j:=b.2) (fun _=>rfl) (fun _=>rfl) a.2 ns).trans hn
theorem Xd{f:AU}{src to:AA}{name name2:AD}(h0:(Dg f src name to name2).2.2=0){a:AA}(h:AT f a=true)
    (hne:(AB f to name2).2=0→(AB f to name2).1≠(AB f src name).1→a≠(AB f to name2).1):AT (Dg f src name to name2).1 a=true:=by
 unfold Dg at h0 ⊢;split at h0
 ·rename_i c;exact absurd h0 c
 rename_i c1;rw[if_neg c1];split at h0
 ·rename_i c;exact absurd h0 c
 rename_i c2;rw[if_neg c2];split at h0
 ·exact absurd h0 (by decide)
 rename_i c3;rw[if_neg c3];split at h0
 ·exact absurd h0 (by decide)
 rename_i c4;rw[if_neg c4];split at h0
 ·rename_i c5;rw[if_pos c5];exact h
 rename_i c5;rw[if_neg c5];split at h0
 ·rename_i c;exact absurd h0 c
 rename_i c6;rw[if_neg c6];refine Nd h fun hk=>?_;dsimp only;refine PS hk fun ns ha hn=>?_;rw[lG];unfold Gs;split
 ·rename_i e0;have hd:=SM e0;have hne':=hne e0 fun e=>c5 ⟨e0,e⟩;have hto:=SN (NC (f:=f) (x:=src) (y:=to) (name:=name) (name2:=name2) (by omega)).2;have hk2:a.2≠(AB f to name2).1.2:=fun e=>hne' (Prod.ext (by rw[ha,hd];omega) e);rw[XV hk2,Kw,Kw];exact hn
 rw[Kw,Kw];exact hn
theorem SpcV.keep{s:Spc}(hs:SpcV s){g:AU}(hv:FlsV g)(hl:g.length=s.files.length)(hd:∀a,(Bx s a).isSome=true→AT s.files a=true→AT g a=true):SpcV ⟨g,s.mounts⟩:=by
 refine⟨hv,by show 0<g.length;rw[hl];exact hs.pos,fun i m hm=>?_⟩;have h:=hs.mnt i m hm;refine⟨h.dev1,by rw[hl];exact h.dev2,h.fresh,hd _ ?_ h.dir,h.there,h.free⟩;unfold Bx;rw[Option.isSome_map,List.find?_isSome];exact⟨m,Al hm,by simp⟩
structure SysV(s:Syst)(m:Nat):Prop where
 spc:SpcV s.spc
 few:s.spc.mounts.length≤m
 tab:TabB s.tab
 num:D9 s.tab
theorem SysV.mono{s:Syst}{m n:Nat}(h:SysV s m)(hm:m≤n):SysV s n:=⟨h.spc,Nat.le_trans h.few hm,h.tab,h.num⟩
def E9(w w':Syst):Prop:=∀m,SysV w m→SysV w' (m+1)
theorem M3{t:Tab}(ht:TabB t){p:Prc}(hp:p.opens.length≤8):TabB (Fh t p):=by
 refine⟨by simpa[Fh]using ht.few,fun q hq=>?_,ht.next,ht.nextS⟩;simp only[Fh,List.mem_map]at hq;obtain⟨x,hx,rfl⟩:=hq;split
 ·exact hp
 exact ht.opens x hx
theorem lJ{t:Tab}(ht:TabB t)(pid:Int):TabB (F6 t pid).1:=by
 unfold F6;split
 ·exact GX
 split
 ·exact GX
 rename_i c;refine⟨?_,fun q hq=>?_,?_,ht.nextS⟩
 ·show(t.ps++[_]).length≤16;rw[List.length_append,List.length_singleton];omega
 ·rcases List.mem_append.1 hq with hq|hq
  ·exact ht.opens q hq
  rw[List.mem_singleton]at hq;subst hq;exact G9 ht pid
 have:=ht.next;show t.next+1≤1073741824;omega
theorem Xe{t:Tab}(ht:TabB t)(pid:Int):TabB (Fy t pid).1:=by
 unfold Fy;split
 ·exact GX
 split
 ·exact GX
 refine⟨?_,fun q hq=>?_,ht.next,ht.nextS⟩
 ·show((t.ps.filter _).map _).length≤16;rw[List.length_map];exact Nat.le_trans (List.length_filter_le _ _) ht.few
 have hq:q∈(t.ps.filter fun p=>decide (p.pid≠pid)).map (Fx pid):=hq;rw[List.mem_map]at hq;obtain⟨x,hx,rfl⟩:=hq;have h8:=ht.opens x (List.mem_filter.1 hx).1;unfold Fx;split
 ·exact h8
 exact h8
theorem lK{t:Tab}(ht:TabB t)(pid u:Int):TabB (Fz t pid u).1:=by
 unfold Fz
 repeat' split
 all_goals first|exact GX|exact M3 ht (G9 ht pid)
theorem lL{t:Tab}(ht:TabB t)(pid u:Int):TabB (G0 t pid u).1:=by
 unfold G0
 repeat' split
 all_goals first|exact GX|exact M3 ht (G9 ht pid)
theorem lM{t:Tab}(ht:TabB t)(pid u:Int):TabB (Es t pid u).1:=by
 unfold Es
 repeat' split
 all_goals first|exact GX|skip
 rename_i c;have h:=M3 ht (p:={AW t pid with auid:=u,ses:=t.nextS}) (G9 ht pid);refine⟨h.few,h.opens,h.next,?_⟩;have:=ht.nextS;show t.nextS+1≤1073741824;omega
theorem lN{t:Tab}(ht:TabB t)(pid fd:Int):TabB (Gw t pid fd).1:=by
 unfold Gw
 repeat' split
 all_goals first|exact GX|skip
 exact M3 ht (Nat.le_trans (List.length_filter_le _ _) (G9 ht pid))
theorem lO{t:Tab}(ht:TabB t)(pid:Int)(a:AA):TabB (Hi t pid a).1:=by
 unfold Hi;split
 ·exact GX
 exact M3 ht (G9 ht pid)
theorem lP{t:Tab}(ht:TabB t)(pid:Int)(a b:AD):TabB (Hj t pid a b).1:=by
 unfold Hj;split
 ·exact GX
 exact M3 ht (G9 ht pid)
theorem lQ{t:Tab}(ht:TabB t)(pid target:Int)(b:Bool):TabB (Fi t pid target b).1:=by
 unfold Fi
 repeat' split
 all_goals first|exact GX|exact Xe ht _|exact ht
theorem JA:D9 Db:=⟨Int.le_refl _,Int.le_refl _⟩
theorem lR{t:Tab}(ht:D9 t)(pid:Int):D9 (F6 t pid).1:=by
 unfold F6
 repeat' split
 all_goals first|exact JA|(have h1:=ht.1;have h2:=ht.2;exact⟨by show 0≤t.next+1;omega,h2⟩)
theorem Xf{t:Tab}(ht:D9 t)(pid:Int):D9 (Fy t pid).1:=by
 unfold Fy
 repeat' split
 all_goals first|exact JA|exact ht
theorem lS{t:Tab}(ht:D9 t)(pid u:Int):D9 (Fz t pid u).1:=by
 unfold Fz
 repeat' split
 all_goals first|exact JA|exact ht
theorem lT{t:Tab}(ht:D9 t)(pid u:Int):D9 (G0 t pid u).1:=by
 unfold G0
 repeat' split
 all_goals first|exact JA|exact ht
theorem lU{t:Tab}(ht:D9 t)(pid u:Int):D9 (Es t pid u).1:=by
 unfold Es
 repeat' split
 all_goals first|exact JA|(have h1:=ht.1;have h2:=ht.2;exact⟨h1,by show 0≤t.nextS+1;omega⟩)
theorem lV{t:Tab}(ht:D9 t)(pid fd:Int):D9 (Gw t pid fd).1:=by
 unfold Gw
 repeat' split
 all_goals first|exact JA|exact ht
theorem lW{t:Tab}(ht:D9 t)(pid:Int)(a:AA):D9 (Hi t pid a).1:=by
 unfold Hi
 repeat' split
 all_goals first|exact JA|exact ht
theorem lX{t:Tab}(ht:D9 t)(pid:Int)(a b:AD):D9 (Hj t pid a b).1:=by
 unfold Hj
 repeat' split
 all_goals first|exact JA|exact ht
theorem lY{t:Tab}(ht:D9 t)(pid target:Int)(b:Bool):D9 (Fi t pid target b).1:=by
 unfold Fi
 repeat' split
 all_goals first|exact JA|exact Xf ht _|exact ht
theorem lZ{t:Tab}(ht:D9 t)(pid:Int)(a:AA)(fl:Int):D9 (Et t pid a fl).1:=by
 unfold Et
 repeat' split
 all_goals first|exact JA|exact ht
theorem Xg{w:Wrk}{R:Tab×Int}(h:D9 w.s.tab)(hR:D9 R.1):D9 (C5 w R).1.s.tab:=by
 unfold C5;split
 ·exact hR
 exact h
theorem GY(s:Syst):E9 s s:=fun _ h=>h.mono (Nat.le_succ _)
theorem Jg{w:Wrk}{R:Tab×Int}(hR:∀m,SysV w.s m→TabB R.1∧D9 R.1):E9 w.s (C5 w R).1.s:=by
 intro m h;refine⟨by rw[PM];exact h.spc,by rw[PM];exact Nat.le_trans h.few (Nat.le_succ _),SK h.tab (hR m h).1,Xg h.num (hR m h).2⟩
theorem M4{w:Wrk}{R:Cp}(hO:SpcV w.s.spc→J2 w.s.spc.files R)(hd:R.2.2=0→SpcV w.s.spc→∀a,(Bx w.s.spc a).isSome=true→AT w.s.spc.files a=true→AT R.1 a=true):E9 w.s (BT w R).1.s:=by
 intro m h;unfold BT;split
 ·rename_i h0;obtain⟨k1,k2⟩:=hO h.spc h0;exact⟨h.spc.keep k1 k2 (hd h0 h.spc),Nat.le_trans h.few (Nat.le_succ _),h.tab,h.num⟩
 exact h.mono (Nat.le_succ _)
theorem SO(w:Wrk)(i:Nat)(n:Nod):E9 w.s (CO w i n).1.s:=by
 unfold CO;split
 ·rename_i h0;exact M4 (w:=w) (R:=EV w i n) (fun h=>Ou h.files _ _ _) fun h0 _ a _ ha=>XX h0 ha
 exact GY _
theorem m5(w:Wrk)(i:Nat)(n:Nod):(CO w i n).1.s.spc.mounts=w.s.spc.mounts:=by
 unfold CO;split
 ·show(BT w _).1.s.spc.mounts=_;unfold BT;split<;>rfl
 rfl
theorem Xh{w w':Wrk}(hw:E9 w'.s w.s)(hmnt:w.s.spc.mounts=w'.s.spc.mounts)(a:AA):E9 w'.s (Fj w a).1.s:=by
 intro m h;have h2:=hw m h;have hspc:(Fj w a).1.s.spc=w.s.spc:=PM _ _;refine⟨by rw[hspc];exact h2.spc,by rw[hspc,hmnt];exact Nat.le_trans h.few (Nat.le_succ _),?_,?_⟩
 ·unfold Fj;exact SK (w:=NP w _) h2.tab (XN h2.tab _ _ _)
 unfold Fj;exact Xg (w:=NP w _) h2.num (lZ h2.num _ _ _)
theorem m6(w:Wrk):E9 w.s (CB w).1.s:=by
 unfold CB
 repeat' split
 all_goals first|exact GY _|exact SO w _ _|exact Xh (GY _) rfl _|exact Xh (SO w _ _) (m5 _ _ _) _
theorem m7(w:Wrk):E9 w.s (EK w).1.s:=by
 unfold EK
 repeat' split
 all_goals first|exact GY _|skip
 exact M4 (w:=w) (R:=DP w.s.spc.files _ _ _) (fun h=>RJ h.files _ _ _) fun h0 _ a _ ha=>XY h0 ha
theorem Xi{w:Wrk}{R:Cp}(h:E9 w.s (BT w R).1.s):E9 w.s (Fk w R).1.s:=by
 unfold Fk;split
 ·exact GY _
 exact h
theorem m8(w:Wrk):E9 w.s (Dk w).1.s:=by
 unfold Dk
 repeat' split
 all_goals first|exact GY _|skip
 ·exact Xi (M4 (fun h=>Us h.files _ _) fun h0 _ a _ ha=>Xa h0 ha)
 rename_i c _;refine Xi (M4 (fun h=>Ut h.files _ _) fun h0 _ a hc ha=>Xb h0 ha ?_);rintro rfl;refine c ?_;unfold G5;rw[hc];rfl
theorem m9{w:Wrk}{R:Cp}{x:AA}(h:E9 w.s (BT w R).1.s):E9 w.s (G7 w R x).1.s:=by
 unfold G7
 repeat' split
 all_goals first|exact GY _|exact h
theorem mA(w:Wrk):E9 w.s (Dl w).1.s:=by
 unfold Dl
 repeat' split
 all_goals first|exact GY _|skip
 rename_i c;refine m9 (M4 (fun h=>Ov h.files _ _ _ _) fun h0 _ a hc ha=>Xd h0 ha fun e1 e2 e3=>c ⟨e1,e2,?_,?_⟩)
 ·rw[←e3];exact ha
 rw[←e3];unfold G5;rw[hc];rfl
theorem mB{w:Wrk}(b:AA)(x y z:Int):E9 w.s (H3 w (DE w.s.spc.files b x y z)).1.s:=by
 unfold H3;exact M4 (fun h=>RK h.files _ _ _ _) fun h0 _ a _ ha=>Xc h0 ha
theorem mC(w:Wrk):E9 w.s (EW w).1.s:=by
 unfold EW
 repeat' split
 all_goals first|exact GY _|exact mB _ _ _ _
theorem mD(w:Wrk)(dev:Int)(a:AA):E9 w.s (H4 w (DQ w.s.spc dev a)).1.s:=by
 intro m h;unfold H4;split
 ·rename_i h0;obtain⟨k1,k2⟩:=Uz h.spc dev a h0;refine⟨k1,?_,h.tab,h.num⟩;show(DQ w.s.spc dev a).1.mounts.length≤m+1;rw[k2];have:=h.few;simp only[List.length_append,List.length_singleton];omega
 exact h.mono (Nat.le_succ _)
theorem mE(w:Wrk)(dev:Int):E9 w.s (H5 w (Ef w.s.spc dev)).1.s:=by
 intro m h;unfold H5;split
 ·rename_i h0;obtain⟨k1,k2⟩:=Vy h.spc dev h0;refine⟨k1,?_,h.tab,h.num⟩;show(Ef w.s.spc dev).1.mounts.length≤m+1;rw[k2];exact Nat.le_trans (List.length_filter_le _ _) (Nat.le_trans h.few (Nat.le_succ _))
 exact h.mono (Nat.le_succ _)
theorem mF(w:Wrk):E9 w.s (DG w).1.s:=by
 unfold DG
 repeat' split
 all_goals first|exact GY _|exact mD w _ _|exact Jg (fun m h=>⟨lP h.tab _ _ _,lX h.num _ _ _⟩)|exact Jg (fun m h=>⟨lO h.tab _ _,lW h.num _ _⟩)
theorem mG(w:Wrk):E9 w.s (EX w).1.s:=by
 unfold EX
 repeat' split
 all_goals first|exact GY _|exact SO w _ _
theorem mH(w:Wrk):E9 w.s (Eu w).1.s:=by
 unfold Eu
 repeat' split
 all_goals first|exact GY _|exact mE w _
theorem mJ(w:Wrk):E9 w.s (Ds w).1.s:=by
 unfold Ds
 repeat' split
 all_goals first
  |exact GY _
  |exact mH w
  |exact Jg (w:=Km w _) (R:=((F6 w.s.tab w.p.pid).1,(F6 w.s.tab w.p.pid).2.2)) (fun m h=>⟨lJ h.tab _,lR h.num _⟩)
  |exact Jg (fun m h=>⟨Xe h.tab _,Xf h.num _⟩)
  |exact Jg (fun m h=>⟨lK h.tab _ _,lS h.num _ _⟩)
  |exact Jg (fun m h=>⟨lL h.tab _ _,lT h.num _ _⟩)
  |exact Jg (fun m h=>⟨lM h.tab _ _,lU h.num _ _⟩)
  |exact Jg (fun m h=>⟨lN h.tab _ _,lV h.num _ _⟩)
  |exact Jg (fun m h=>⟨lQ h.tab _ _ _,lY h.num _ _ _⟩)
theorem mK(w:Wrk):E9 w.s (BD w).1.s:=by
 unfold BD
 repeat' split
 all_goals first|exact m6 w|exact m7 w|exact m8 w|exact mA w|exact mC w|exact mF w|exact mG w|exact mJ w
theorem Nf{s:Syst}{m:Nat}(h:SysV s m)(pid:Int)(c:Cal):SysV (Bv s pid c).1 (m+1):=by
 have ha:=mK (Ej s pid c) m h;unfold Bv
 repeat' split
 all_goals first|exact h.mono (Nat.le_succ _)|exact ha
theorem mL(a:AA):TabB (Ll a):=⟨by show(1:Nat)≤16;decide,fun p hp=>by
 simp only[Ll,List.mem_singleton]at hp;subst hp
 exact BJ _,by show(2:Int)≤1073741824;decide,by show(1:Int)≤1073741824;decide⟩
theorem mM(a:AA):D9 (Ll a):=⟨by show(0:Int)≤2;decide,by show(0:Int)≤1;decide⟩
theorem mO{n:Int}(h1:1≤n)(h2:n≤3):SysV (H6 n).1 0:=by
 unfold H6;have h:=Uy h1 h2;split
 ·rename_i c;exfalso;refine c ?_;unfold En;split
  ·omega
  rfl
 exact⟨⟨h.1,h.2,fun i m hm=>by cases hm⟩,BJ _,mL _,mM _⟩
end Go.Proofs.YtbglbmnhgbgelaaGreatDoor
