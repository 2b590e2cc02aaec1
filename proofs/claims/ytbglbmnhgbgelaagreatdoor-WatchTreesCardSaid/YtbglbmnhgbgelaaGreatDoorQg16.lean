/-
  Part 16 of the proof of WatchTreesP: what the statement's proof uses of the texts in wip/tpl.
-/
import Derived.Test.YtbglbmnhgbgelaaGreatDoorQg15
set_option maxRecDepth 10000
set_option maxHeartbeats 4000000
set_option linter.unusedVariables false
set_option linter.unusedSimpArgs false
namespace Go.Proofs.YtbglbmnhgbgelaaGreatDoor
open Go.RowKit
def Cv(t:Tab):Prop:=0≤t.next∧0≤t.nextS
theorem gH{t:Tab}{pid:Int}{j:Nat}{x:Prc}{acc:List Prc}(hy:t.ps[j]?=some x)(ha:((t.ps.take j).filter fun p=>decide (p.pid≠pid)).map (Fa pid)=acc):((t.ps.take (j+1)).filter fun p=>decide (p.pid≠pid)).map (Fa pid)=if x.pid≠pid then acc++[Fa pid x]else acc:=by
 rw[List.take_add_one,hy,List.filter_append,List.map_append,ha]
 by_cases h:x.pid=pid<;>simp[h]
section
theorem RW(n:Int):AFn Tryz.prog 189 [.v (.int .i64 n)] (fun r=>r= .v (.bool (GV n))):=by
 refine enter Tryz.func189 rfl rfl rfl rfl rfl 0 rfl ?_
 refine w_ (a_ (h:=e_ (w_ (m_ (h:=Fu (h:=m_ (h:=?_)))))))
 refine Ax true rfl rfl (fun hb1=>?_) (fun hb1=>?_)
 ·have hc1:=bp hb1
  refine m_ (h:=BJ (h:=Af (h:=a_ (h:=e_ (A6 (?_))))))
  refine AB ?_
  first|(exfalso;first|contradiction|omega)|(exact vb (by simp[GV, *]))
 have hc1:=bp hb1
 refine A3 (h:=A3 (h:=Am (h:=a_ (h:=e_ (A6 (?_))))))
 refine AB ?_
 first|(exfalso;first|contradiction|omega)|(exact vb (by simp[GV, *]))
theorem WD(b:Bool)(x y n:Int):AFn Tryz.prog 190 [.v (.bool b), .v (.int .i64 x), .v (.int .i64 y), .v (.int .i64 n)] (fun r=>r= .tup [.v (.int .i64 (Ds b x y n).1), .v (.int .i64 (Ds b x y n).2.1), .v (.int .i64 (Ds b x y n).2.2)]):=by
 refine enter Tryz.func190 rfl rfl rfl rfl rfl 0 rfl ?_
 refine w_ (a_ (h:=a_ (h:=a_ (h:=e_ (q_ (w_ (m_ (h:=e_ (?_)))))))))
 refine A8 rfl (fun hb1=>?_) (fun hb1=>?_)
 ·have hc1:=bp hb1
  refine w_ (m_ (h:=m_ (h:=a_ (h:=a_ (h:=a_ (h:=e_ (A6 (A7 (?_)))))))))
  refine AB ?_
  first|(exfalso;first|contradiction|omega)|(unfold Ds;simp[*];rfl)
 have hc1:=bp hb1
 refine AG (q_ (w_ (m_ (h:=m_ (h:=AQ (h:=m_ (h:=?_)))))))
 refine Ax false rfl rfl (fun hb2=>?_) (fun hb2=>?_)
 ·have hc2:=bp hb2
  refine A3 (h:=A3 (h:=A3 (h:=Af (h:=e_ (Bf (h:=w_ (m_ (h:=m_ (h:=a_ (h:=a_ (h:=a_ (h:=e_ (A6 (A7 (?_)))))))))))))))
  refine AB ?_
  first|(exfalso;first|contradiction|omega)|(unfold Ds;simp[*];rfl)
 have hc2:=bp hb2
 refine m_ (h:=m_ (h:=AQ (h:=Am (h:=e_ (?_)))))
 refine A8 rfl (fun hb3=>?_) (fun hb3=>?_)
 ·have hc3:=bp hb3
  refine w_ (m_ (h:=m_ (h:=a_ (h:=a_ (h:=a_ (h:=e_ (A6 (A7 (?_)))))))))
  refine AB ?_
  first|(exfalso;first|contradiction|omega)|(unfold Ds;simp[*];rfl)
 have hc3:=bp hb3
 refine AG (w_ (a_ (h:=a_ (h:=a_ (h:=e_ (A6 (?_)))))))
 refine AB ?_
 first|(exfalso;first|contradiction|omega)|(unfold Ds;simp[*];rfl)
theorem gJ(t:Tab)(pid:Int)(a:A9)(ht:TabB t):AFn Tryz.prog 158 [.agg (At t), .v (.int .i64 pid), .agg (AA a)] (fun r=>r=CV (Gy t pid a)):=by
 have h8:=Fi ht pid
 refine enter Tryz.func158 rfl rfl rfl rfl rfl 0 rfl ?_
 refine w_ (b_ (h:=b_ (h:=AW (h:=a_ (h:=e_ (w_ (l_ (h:=m_ (h:=?_)))))))))
 refine A4 rfl (AK (Fj t pid ht) ?_)
 rintro r rfl
 refine m_ (h:=x_ (h:=x_ (h:=AW (h:=s_ (h:=a_ (h:=e_ (q_ (w_ (m_ (h:=BA (h:=e_ (?_))))))))))))
 refine A8 rfl (fun hb1=>?_) (fun hb1=>?_)
 ·have hc1:=bp hb1
  have hno:Bz t pid=false:=by simpa using hc1
  refine w_ (AT (h:=s_ (h:=a_ (h:=e_ (A6 (A7 (?_)))))))
  refine Aj (r:=CV (Gy t pid a)) none (h5:=?_) (h6:=⟨rfl,rfl,rfl⟩)
  rw[Gy,if_pos hno]
  exact EN _
 have hc1:=bp hb1
 have hhas:Bz t pid=true:=by simpa using hc1
 refine AG (w_ (l_ (h:=f_ (h:=s_ (h:=e_ (w_ (l_ (h:=l_ (h:=?_)))))))))
 refine A4 rfl (AK (KU t {AU t pid with cwd:=a} ht (Jo hhas) (by show(AU t pid).opens.length≤1000;omega)) ?_)
 rintro r rfl
 refine s_ (h:=a_ (h:=e_ (A6 (?_))))
 refine AB ?_
 rw[Gy,if_neg (by simp[hhas])];rfl
theorem gK(t:Tab)(pid:Int)(x y:AE)(ht:TabB t):AFn Tryz.prog 157 [.agg (At t), .v (.int .i64 pid), .v (.string x), .v (.string y)] (fun r=>r=CV (Gz t pid x y)):=by
 have h8:=Fi ht pid
 refine enter Tryz.func157 rfl rfl rfl rfl rfl 0 rfl ?_
 refine w_ (b_ (h:=AW (h:=a_ (h:=e_ (w_ (l_ (h:=m_ (h:=?_))))))))
 refine A4 rfl (AK (Fj t pid ht) ?_)
 rintro r rfl
 refine m_ (h:=x_ (h:=x_ (h:=AW (h:=s_ (h:=a_ (h:=e_ (q_ (w_ (m_ (h:=BA (h:=e_ (?_))))))))))))
 refine A8 rfl (fun hb1=>?_) (fun hb1=>?_)
 ·have hc1:=bp hb1
  have hno:Bz t pid=false:=by simpa using hc1
  refine w_ (AT (h:=s_ (h:=a_ (h:=e_ (A6 (A7 (?_)))))))
  refine Aj (r:=CV (Gz t pid x y)) none (h5:=?_) (h6:=⟨rfl,rfl,rfl⟩)
  rw[Gz,if_pos hno]
  exact EN _
 have hc1:=bp hb1
 have hhas:Bz t pid=true:=by simpa using hc1
 refine AG (w_ (m_ (h:=m_ (h:=f_ (h:=s_ (h:=f_ (h:=s_ (h:=e_ (w_ (l_ (h:=l_ (h:=?_))))))))))))
 refine A4 rfl (AK (KU t {AU t pid with exe:=x,comm:=y} ht (Jo hhas) (by show(AU t pid).opens.length≤1000;omega)) ?_)
 rintro r rfl
 refine s_ (h:=a_ (h:=e_ (A6 (?_))))
 refine AB ?_
 rw[Gz,if_neg (by simp[hhas])];rfl
theorem gL(t:Tab)(pid u:Int)(ht:TabB t):AFn Tryz.prog 161 [.agg (At t), .v (.int .i64 pid), .v (.int .i64 u)] (fun r=>r=CV (Fc t pid u)):=by
 have h8:=Fi ht pid
 refine enter Tryz.func161 rfl rfl rfl rfl rfl 0 rfl ?_
 refine w_ (b_ (h:=AW (h:=a_ (h:=e_ (w_ (l_ (h:=m_ (h:=?_))))))))
 refine A4 rfl (AK (Fj t pid ht) ?_)
 rintro r rfl
 refine m_ (h:=x_ (h:=x_ (h:=AW (h:=s_ (h:=a_ (h:=e_ (q_ (w_ (m_ (h:=BA (h:=e_ (?_))))))))))))
 refine A8 rfl (fun hb1=>?_) (fun hb1=>?_)
 ·have hc1:=bp hb1
  have hno:Bz t pid=false:=by simpa using hc1
  refine w_ (AT (h:=s_ (h:=a_ (h:=e_ (A6 (A7 (?_)))))))
  refine Aj (r:=CV (Fc t pid u)) none (h5:=?_) (h6:=⟨rfl,rfl,rfl⟩)
  rw[Fc,if_pos hno]
  exact EN _
 have hc1:=bp hb1
 have hhas:Bz t pid=true:=by simpa using hc1
 refine AG (q_ (w_ (m_ (h:=?_))))
 refine A4 rfl (AK (RW u) ?_)
 rintro r rfl
 refine BA (h:=e_ (?_))
 refine A8 rfl (fun hb2=>?_) (fun hb2=>?_)
 ·have hc2:=bp hb2
  have hid:GV u=false:=by simpa using hc2
  refine w_ (AT (h:=s_ (h:=a_ (h:=e_ (A6 (A7 (?_)))))))
  refine Aj (r:=CV (Fc t pid u)) none (h5:=?_) (h6:=⟨rfl,rfl,rfl⟩)
  rw[Fc,if_neg (by simp[hhas]),if_pos hid]
  exact EN _
 have hc2:=bp hb2
 have hid:¬GV u=false:=by simpa using hc2
 refine AG (w_ (a_ (h:=e_ (w_ (f_ (h:=l_ (h:=AQ (h:=f_ (h:=l_ (h:=f_ (h:=l_ (h:=m_ (h:=?_)))))))))))))
 refine A4 rfl (AK (WD (decide ((AU t pid).euid=0)) (AU t pid).uid (AU t pid).euid u) ?_)
 rintro r rfl
 refine m_ (h:=x_ (h:=x_ (h:=x_ (h:=f_ (h:=s_ (h:=f_ (h:=s_ (h:=a_ (h:=e_ (q_ (w_ (m_ (h:=BF (h:=e_ (?_)))))))))))))))
 refine A8 rfl (fun hb3=>?_) (fun hb3=>?_)
 ·have hc3:=bp hb3
  have hce:(Ds (decide ((AU t pid).euid=0)) (AU t pid).uid (AU t pid).euid u).2.2≠0:=by simpa using hc3
  refine w_ (AT (h:=m_ (h:=s_ (h:=a_ (h:=e_ (A6 (A7 (?_))))))))
  refine Aj (r:=CV (Fc t pid u)) none (h5:=?_) (h6:=⟨rfl,rfl,rfl⟩)
  rw[Fc,if_neg (by simp[hhas]),if_neg hid,if_pos hce]
  exact EN _
 have hc3:=bp hb3
 have hce:¬(Ds (decide ((AU t pid).euid=0)) (AU t pid).uid (AU t pid).euid u).2.2≠0:=by simpa using hc3
 refine AG (w_ (l_ (h:=l_ (h:=?_))))
 refine A4 rfl (AK (KU t {AU t pid with uid:=(Ds (decide ((AU t pid).euid=0)) (AU t pid).uid (AU t pid).euid u).1,euid:=(Ds (decide ((AU t pid).euid=0)) (AU t pid).uid (AU t pid).euid u).2.1} ht (Jo hhas) (by show(AU t pid).opens.length≤1000;omega)) ?_)
 rintro r rfl
 refine s_ (h:=a_ (h:=e_ (A6 (?_))))
 refine AB ?_
 rw[Fc,if_neg (by simp[hhas]),if_neg hid,if_neg hce];rfl
theorem gM(t:Tab)(pid u:Int)(ht:TabB t):AFn Tryz.prog 162 [.agg (At t), .v (.int .i64 pid), .v (.int .i64 u)] (fun r=>r=CV (Fd t pid u)):=by
 have h8:=Fi ht pid
 refine enter Tryz.func162 rfl rfl rfl rfl rfl 0 rfl ?_
 refine w_ (b_ (h:=AW (h:=a_ (h:=e_ (w_ (l_ (h:=m_ (h:=?_))))))))
 refine A4 rfl (AK (Fj t pid ht) ?_)
 rintro r rfl
 refine m_ (h:=x_ (h:=x_ (h:=AW (h:=s_ (h:=a_ (h:=e_ (q_ (w_ (m_ (h:=BA (h:=e_ (?_))))))))))))
 refine A8 rfl (fun hb1=>?_) (fun hb1=>?_)
 ·have hc1:=bp hb1
  have hno:Bz t pid=false:=by simpa using hc1
  refine w_ (AT (h:=s_ (h:=a_ (h:=e_ (A6 (A7 (?_)))))))
  refine Aj (r:=CV (Fd t pid u)) none (h5:=?_) (h6:=⟨rfl,rfl,rfl⟩)
  rw[Fd,if_pos hno]
  exact EN _
 have hc1:=bp hb1
 have hhas:Bz t pid=true:=by simpa using hc1
 refine AG (q_ (w_ (m_ (h:=?_))))
 refine A4 rfl (AK (RW u) ?_)
 rintro r rfl
 refine BA (h:=e_ (?_))
 refine A8 rfl (fun hb2=>?_) (fun hb2=>?_)
 ·have hc2:=bp hb2
  have hid:GV u=false:=by simpa using hc2
  refine w_ (AT (h:=s_ (h:=a_ (h:=e_ (A6 (A7 (?_)))))))
  refine Aj (r:=CV (Fd t pid u)) none (h5:=?_) (h6:=⟨rfl,rfl,rfl⟩)
  rw[Fd,if_neg (by simp[hhas]),if_pos hid]
  exact EN _
 have hc2:=bp hb2
 have hid:¬GV u=false:=by simpa using hc2
 refine AG (w_ (a_ (h:=e_ (w_ (f_ (h:=l_ (h:=AQ (h:=f_ (h:=l_ (h:=f_ (h:=l_ (h:=m_ (h:=?_)))))))))))))
 refine A4 rfl (AK (WD (decide ((AU t pid).euid=0)) (AU t pid).gid (AU t pid).egid u) ?_)
 rintro r rfl
 refine m_ (h:=x_ (h:=x_ (h:=x_ (h:=f_ (h:=s_ (h:=f_ (h:=s_ (h:=a_ (h:=e_ (q_ (w_ (m_ (h:=BF (h:=e_ (?_)))))))))))))))
 refine A8 rfl (fun hb3=>?_) (fun hb3=>?_)
 ·have hc3:=bp hb3
  have hce:(Ds (decide ((AU t pid).euid=0)) (AU t pid).gid (AU t pid).egid u).2.2≠0:=by simpa using hc3
  refine w_ (AT (h:=m_ (h:=s_ (h:=a_ (h:=e_ (A6 (A7 (?_))))))))
  refine Aj (r:=CV (Fd t pid u)) none (h5:=?_) (h6:=⟨rfl,rfl,rfl⟩)
  rw[Fd,if_neg (by simp[hhas]),if_neg hid,if_pos hce]
  exact EN _
 have hc3:=bp hb3
 have hce:¬(Ds (decide ((AU t pid).euid=0)) (AU t pid).gid (AU t pid).egid u).2.2≠0:=by simpa using hc3
 refine AG (w_ (l_ (h:=l_ (h:=?_))))
 refine A4 rfl (AK (KU t {AU t pid with gid:=(Ds (decide ((AU t pid).euid=0)) (AU t pid).gid (AU t pid).egid u).1,egid:=(Ds (decide ((AU t pid).euid=0)) (AU t pid).gid (AU t pid).egid u).2.1} ht (Jo hhas) (by show(AU t pid).opens.length≤1000;omega)) ?_)
 rintro r rfl
 refine s_ (h:=a_ (h:=e_ (A6 (?_))))
 refine AB ?_
 rw[Fd,if_neg (by simp[hhas]),if_neg hid,if_neg hce];rfl
theorem gN(t:Tab)(pid u:Int)(ht:TabB t)(hn:Cv t):AFn Tryz.prog 163 [.agg (At t), .v (.int .i64 pid), .v (.int .i64 u)] (fun r=>r=CV (EV t pid u)):=by
 have h8:=Fi ht pid
 have hn1:=hn.2
 have hn2:=ht.nextS
 obtain⟨tp,htp⟩:∃x,x=FN t {AU t pid with auid:=u,ses:=t.nextS}:=⟨_,rfl⟩
 have e1:tp.nextS=t.nextS:=by rw[htp];rfl
 have hput:Bz t pid=true→AFn Tryz.prog 188 [.agg (At t), .agg (Av {AU t pid with auid:=u,ses:=t.nextS})] (fun r=>r= .agg (At tp)):=fun h=>by rw[htp];exact KU t _ ht (Jo h) (by show(AU t pid).opens.length≤1000;omega)
 refine enter Tryz.func163 rfl rfl rfl rfl rfl 0 rfl ?_
 refine w_ (b_ (h:=AW (h:=a_ (h:=e_ (w_ (l_ (h:=m_ (h:=?_))))))))
 refine A4 rfl (AK (Fj t pid ht) ?_)
 rintro r rfl
 refine m_ (h:=x_ (h:=x_ (h:=AW (h:=s_ (h:=a_ (h:=e_ (q_ (w_ (m_ (h:=BA (h:=e_ (?_))))))))))))
 refine A8 rfl (fun hb1=>?_) (fun hb1=>?_)
 ·have hc1:=bp hb1
  have hno:Bz t pid=false:=by simpa using hc1
  refine w_ (AT (h:=s_ (h:=a_ (h:=e_ (A6 (A7 (?_)))))))
  refine Aj (r:=CV (EV t pid u)) none (h5:=?_) (h6:=⟨rfl,rfl,rfl⟩)
  rw[EV,if_pos hno]
  exact EN _
 have hc1:=bp hb1
 have hhas:Bz t pid=true:=by simpa using hc1
 refine AG (q_ (w_ (m_ (h:=?_))))
 refine A4 rfl (AK (RW u) ?_)
 rintro r rfl
 refine BA (h:=e_ (?_))
 refine A8 rfl (fun hb2=>?_) (fun hb2=>?_)
 ·have hc2:=bp hb2
  have hid:GV u=false:=by simpa using hc2
  refine w_ (AT (h:=s_ (h:=a_ (h:=e_ (A6 (A7 (?_)))))))
  refine Aj (r:=CV (EV t pid u)) none (h5:=?_) (h6:=⟨rfl,rfl,rfl⟩)
  rw[EV,if_neg (by simp[hhas]),if_pos hid]
  exact EN _
 have hc2:=bp hb2
 have hid:¬GV u=false:=by simpa using hc2
 refine AG (q_ (w_ (f_ (h:=l_ (h:=BF (h:=m_ (h:=?_)))))))
 refine Ax true rfl rfl (fun hb3=>?_) (fun hb3=>?_)
 ·have hc3:=bp hb3
  refine f_ (h:=l_ (h:=BF (h:=Af (h:=e_ (?_)))))
  refine A8 rfl (fun hb4=>?_) (fun hb4=>?_)
  ·have hc4:=bp hb4
   refine w_ (AT (h:=s_ (h:=a_ (h:=e_ (A6 (A7 (?_)))))))
   refine Aj (r:=CV (EV t pid u)) none (h5:=?_) (h6:=⟨rfl,rfl,rfl⟩)
   rw[EV,if_neg (by simp[hhas]),if_neg hid,if_pos (by first|assumption|omega)]
   exact EN _
  have hc4:=bp hb4
  refine AG (q_ (w_ (f_ (h:=l_ (h:=AQ (h:=e_ (?_)))))))
  refine A8 rfl (fun hb5=>?_) (fun hb5=>?_)
  ·have hc5:=bp hb5
   have hse:t.nextS=1073741824:=hc5
   refine w_ (AT (h:=s_ (h:=a_ (h:=e_ (A6 (A7 (?_)))))))
   refine Aj (r:=CV (EV t pid u)) none (h5:=?_) (h6:=⟨rfl,rfl,rfl⟩)
   rw[EV,if_neg (by simp[hhas]),if_neg hid,if_neg (by first|assumption|omega),if_pos hse]
   exact EN _
  have hc5:=bp hb5
  have hse:¬t.nextS=1073741824:=hc5
  refine AG (q_ (BH ([(0,At t),(1,Ct)]) 7 (h:=AN 0 (h:=AF 1 (h:=AJ 2 (h:=AF 3 (h:=?_)))))))
  refine B0 4 rfl (Aw rfl rfl rfl rfl rfl rfl (by repeat constructor) (by repeat constructor) ?_)
  refine o_ (h:=AF 5 (h:=?_))
  refine B0 6 rfl (Aw rfl rfl rfl rfl rfl rfl (by repeat constructor) (by repeat constructor) ?_)
  refine o_ (h:=z_ (h:=t_ (w_ (l_ (h:=l_ (h:=?_))))))
  refine A4 rfl (AK (hput hhas) ?_)
  rintro r rfl
  refine AW (h:=s_ (h:=e_ (w_ (f_ (h:=l_ (h:=B8 (h:=f_ (h:=s_ (h:=e_ (w_ (l_ (h:=s_ (h:=a_ (h:=e_ (A6 (?_))))))))))))))))
  refine AB ?_
  rw[EV,if_neg (by simp[hhas]),if_neg hid,if_neg (by first|assumption|omega),if_neg hse,←htp,←e1];exact congrArg (fun n=>AV.tup [.agg [.v (.int .i64 n), .v (.int .i64 (tp.nextS+1)), .sl 14 (tp.ps.map Av) none], .v (.int .i64 0)]) (by rw[htp];rfl)
 have hc3:=bp hb3
 refine A3 (h:=A3 (h:=A3 (h:=Am (h:=e_ (F6 (h:=AG (q_ (w_ (f_ (h:=l_ (h:=AQ (h:=e_ (?_)))))))))))))
 refine A8 rfl (fun hb6=>?_) (fun hb6=>?_)
 ·have hc6:=bp hb6
  have hse:t.nextS=1073741824:=hc6
  refine w_ (AT (h:=s_ (h:=a_ (h:=e_ (A6 (A7 (?_)))))))
  refine Aj (r:=CV (EV t pid u)) none (h5:=?_) (h6:=⟨rfl,rfl,rfl⟩)
  rw[EV,if_neg (by simp[hhas]),if_neg hid,if_neg (by first|assumption|omega),if_pos hse]
  exact EN _
 have hc6:=bp hb6
 have hse:¬t.nextS=1073741824:=hc6
 refine AG (q_ (BH ([(0,At t),(1,Ct)]) 7 (h:=AN 0 (h:=AF 1 (h:=AJ 2 (h:=AF 3 (h:=?_)))))))
 refine B0 4 rfl (Aw rfl rfl rfl rfl rfl rfl (by repeat constructor) (by repeat constructor) ?_)
 refine o_ (h:=AF 5 (h:=?_))
 refine B0 6 rfl (Aw rfl rfl rfl rfl rfl rfl (by repeat constructor) (by repeat constructor) ?_)
 refine o_ (h:=z_ (h:=t_ (w_ (l_ (h:=l_ (h:=?_))))))
 refine A4 rfl (AK (hput hhas) ?_)
 rintro r rfl
 refine AW (h:=s_ (h:=e_ (w_ (f_ (h:=l_ (h:=B8 (h:=f_ (h:=s_ (h:=e_ (w_ (l_ (h:=s_ (h:=a_ (h:=e_ (A6 (?_))))))))))))))))
 refine AB ?_
 rw[EV,if_neg (by simp[hhas]),if_neg hid,if_neg (by first|assumption|omega),if_neg hse,←htp,←e1];exact congrArg (fun n=>AV.tup [.agg [.v (.int .i64 n), .v (.int .i64 (tp.nextS+1)), .sl 14 (tp.ps.map Av) none], .v (.int .i64 0)]) (by rw[htp];rfl)
theorem gO(t:Tab)(pid fd:Int)(ht:TabB t):AFn Tryz.prog 164 [.agg (At t), .v (.int .i64 pid), .v (.int .i64 fd)] (fun r=>r=CV (GW t pid fd)):=by
 have h8:=Fi ht pid
 have hol:((AU t pid).opens.map FF).length=(AU t pid).opens.length:=List.length_map _
 refine enter Tryz.func164 rfl rfl rfl rfl rfl 0 rfl ?_
 refine w_ (b_ (h:=AW (h:=a_ (h:=e_ (w_ (l_ (h:=m_ (h:=?_))))))))
 refine A4 rfl (AK (Fj t pid ht) ?_)
 rintro r rfl
 refine m_ (h:=x_ (h:=x_ (h:=AW (h:=s_ (h:=a_ (h:=e_ (q_ (w_ (m_ (h:=BA (h:=e_ (?_))))))))))))
 refine A8 rfl (fun hb1=>?_) (fun hb1=>?_)
 ·have hc1:=bp hb1
  have hno:Bz t pid=false:=by simpa using hc1
  refine w_ (AT (h:=s_ (h:=a_ (h:=e_ (A6 (A7 (?_)))))))
  refine Aj (r:=CV (GW t pid fd)) none (h5:=?_) (h6:=⟨rfl,rfl,rfl⟩)
  rw[GW,if_pos hno]
  exact EN _
 have hc1:=bp hb1
 have hhas:Bz t pid=true:=by simpa using hc1
 refine AG (w_ (a_ (h:=e_ (q_ (w_ (a_ (h:=e_ (Ao (?_)))))))))
 refine NY 10 243 4 rfl (by repeat constructor) ?_
 refine Ba (fun m s=>∃(j:Nat) (acc:List Dsc),j≤(AU t pid).opens.length∧m=(AU t pid).opens.length - j∧((AU t pid).opens.take j).filter (fun d=>decide (d.fd≠fd))=acc∧acc.length≤j∧s=⟨look [(2, .v (.int .i64 fd)),(3, .bp 0 0),(6, .bp 1 0),(8, .bp 2 0),(10, .sl 4 (acc.map FF) (some 0)),(11, .v (.int .i64 (j:Int)))],⟨[At t,Ct,Av (AU t pid)],[(243,4,acc.map FF)]⟩⟩) ((AU t pid).opens.length) ((wk 3 1)) (⟨0,[],Nat.zero_le _,rfl,rfl,Nat.le_refl _,rfl⟩) ?_
 rintro m s ⟨j,acc,hj,rfl,hacc,hal,rfl⟩
 refine q_ (w_ (m_ (h:=f_ (h:=l_ (h:=n_ (h:=BJ (h:=e_ (?_))))))))
 refine A8 rfl (fun hb2=>?_) (fun hb2=>?_)
 ·have hc2:=bp hb2
  obtain⟨hlt,x,hy,hrow, -⟩:=CW FF hc2
  refine AG (q_ (Ao (w_ (f_ (h:=l_ (h:=m_ (h:=i_ (h:=f_ (h:=l_ (h:=m_ (h:=BF (h:=e_ (?_)))))))))))))
  refine A8 rfl (fun hb3=>?_) (fun hb3=>?_)
  ·have hc3:=bp hb3
   have hne:x.fd≠fd:=by simpa using hc3
   have hk:((AU t pid).opens.take (j+1)).filter (fun d=>decide (d.fd≠fd))=acc++[x]:=by rw[List.take_add_one,hy,List.filter_append,hacc];simp[hne]
   refine AP (m_ (h:=f_ (h:=l_ (h:=m_ (h:=i_ (h:=l_ (h:=Bm (h:=?_))))))))
   refine A4 rfl (E3 rfl rfl rfl (by simp;omega) (by repeat constructor) ?_)
   refine a_ (h:=AO (Ay (t_ (AP (m_ (h:=B8 (h:=a_ (h:=AO (?_)))))))))
   refine AD ?_
   exact⟨(AU t pid).opens.length - (j+1),_,by omega,⟨j+1,acc++[x],by omega,rfl,hk,by simp;omega,rfl⟩,(by rw[List.map_append];exact Az 3 1 rfl rfl rfl rfl ((by repeat (first|exact Sub.nil|refine Sub.cons _ _ _ rfl rfl ?_|refine Sub.any _ _ ?_|refine Sub.sl _ _ _ _ _ rfl ?_|refine Sub.slnil _ _ _ rfl ?_))))⟩
  have hc3:=bp hb3
  have hne:x.fd=fd:=by simpa using hc3
  have hk:((AU t pid).opens.take (j+1)).filter (fun d=>decide (d.fd≠fd))=acc:=by rw[List.take_add_one,hy,List.filter_append,hacc];simp[hne]
  refine BB (Ay (t_ (AP (m_ (h:=B8 (h:=a_ (h:=AO (?_))))))))
  refine AD ?_
  first|exact⟨(AU t pid).opens.length - (j+1),_,by omega,⟨j+1,acc++[x],by omega,rfl,hk,by simp;omega,rfl⟩,(by rw[List.map_append];exact Az 3 1 rfl rfl rfl rfl ((by repeat (first|exact Sub.nil|refine Sub.cons _ _ _ rfl rfl ?_|refine Sub.any _ _ ?_|refine Sub.sl _ _ _ _ _ rfl ?_|refine Sub.slnil _ _ _ rfl ?_))))⟩|exact⟨(AU t pid).opens.length - (j+1),_,by omega,⟨j+1,acc,by omega,rfl,hk,by omega,rfl⟩,Az 3 1 rfl rfl rfl rfl ((by repeat (first|exact Sub.nil|refine Sub.cons _ _ _ rfl rfl ?_|refine Sub.any _ _ ?_|refine Sub.sl _ _ _ _ _ rfl ?_|refine Sub.slnil _ _ _ rfl ?_)))⟩
 have hc2:=bp hb2
 have e:=Ck FF hj hc2
 subst e
 rw[List.take_length]at hacc
 refine BO (Aq (Aq (BQ (t_ (q_ (w_ (m_ (h:=n_ (h:=f_ (h:=l_ (h:=n_ (h:=AQ (h:=e_ (?_))))))))))))))
 refine A8 rfl (fun hb4=>?_) (fun hb4=>?_)
 ·have hc4:=bp hb4
  have hln:(((AU t pid).opens.filter fun d=>decide (d.fd≠fd)).length:Int)=((AU t pid).opens.length:Int):=by rw[hacc];simpa using hc4
  refine w_ (AT (h:=s_ (h:=a_ (h:=e_ (A6 (A7 (?_)))))))
  refine Aj (r:=CV (GW t pid fd)) none (h5:=?_) (h6:=⟨rfl,rfl,rfl⟩)
  rw[GW,if_neg (by simp[hhas]),if_pos hln]
  exact EN _
 have hc4:=bp hb4
 have hln:¬(((AU t pid).opens.filter fun d=>decide (d.fd≠fd)).length:Int)=((AU t pid).opens.length:Int):=by rw[hacc];simpa using hc4
 refine AG (w_ (m_ (h:=f_ (h:=s_ (h:=e_ (w_ (l_ (h:=?_))))))))
 refine A4 rfl (EC (y:= .agg (Av {AU t pid with opens:=(AU t pid).opens.filter fun d=>decide (d.fd≠fd)})) (Ez rfl rfl rfl ⟨rfl,rfl⟩) (Ve _ _ _ _ (by rw[hacc])) ?_)
 refine A4 rfl (AK (KU t {AU t pid with opens:=(AU t pid).opens.filter fun d=>decide (d.fd≠fd)} ht (Jo hhas) (by have:=List.length_filter_le (fun d:Dsc=>decide (d.fd≠fd)) (AU t pid).opens;show((AU t pid).opens.filter _).length≤1000;omega)) ?_)
 rintro r rfl
 refine s_ (h:=a_ (h:=e_ (A6 (?_))))
 refine AB ?_
 rw[GW,if_neg (by simp[hhas]),if_neg hln];rfl
theorem WE(t:Tab)(pid:Int)(ht:TabB t):AFn Tryz.prog 160 [.agg (At t), .v (.int .i64 pid)] (fun r=>r=CV (Fb t pid)):=by
 have hfew:=ht.few
 refine enter Tryz.func160 rfl rfl rfl rfl rfl 0 rfl ?_
 refine w_ (b_ (h:=AW (h:=a_ (h:=e_ (q_ (w_ (l_ (h:=m_ (h:=?_)))))))))
 refine A4 rfl (AK (Fj t pid ht) ?_)
 rintro r rfl
 refine m_ (h:=x_ (h:=x_ (h:=AW (h:=s_ (h:=a_ (h:=e_ (w_ (m_ (h:=BA (h:=e_ (?_)))))))))))
 refine A8 rfl (fun hb1=>?_) (fun hb1=>?_)
 ·have hc1:=bp hb1
  have hno:Bz t pid=false:=by simpa using hc1
  refine w_ (AT (h:=s_ (h:=a_ (h:=e_ (A6 (A7 (?_)))))))
  refine Aj (r:=CV (Fb t pid)) none (h5:=?_) (h6:=⟨rfl,rfl,rfl⟩)
  rw[Fb,if_pos hno]
  exact EN _
 have hc1:=bp hb1
 have hhas:Bz t pid=true:=by simpa using hc1
 refine AG (q_ (w_ (m_ (h:=AQ (h:=e_ (?_))))))
 refine A8 rfl (fun hb2=>?_) (fun hb2=>?_)
 ·have hc2:=bp hb2
  have h1:pid=1:=hc2
  refine w_ (AT (h:=s_ (h:=a_ (h:=e_ (A6 (A7 (?_)))))))
  refine Aj (r:=CV (Fb t pid)) none (h5:=?_) (h6:=⟨rfl,rfl,rfl⟩)
  rw[Fb,if_neg (by simp[hhas]),if_pos h1]
  exact EN _
 have hc2:=bp hb2
 have h1:¬pid=1:=hc2
 refine AG (w_ (f_ (h:=l_ (h:=f_ (h:=l_ (h:=AT (h:=AW (h:=s_ (h:=e_ (q_ (w_ (a_ (h:=e_ (Ao (?_)))))))))))))))
 refine Kr 3 2 61 14 rfl rfl (by repeat constructor) (by repeat constructor) (by repeat constructor) ?_
 refine Ba (fun m s=>∃(j:Nat) (acc:List Prc),j≤t.ps.length∧m=t.ps.length - j∧((t.ps.take j).filter fun p=>decide (p.pid≠pid)).map (Fa pid)=acc∧acc.length≤j∧s=⟨look [(1, .v (.int .i64 pid)),(2, .bp 0 0),(4, .bp 1 0),(8, .bp 3 0),(9, .v (.int .i64 (j:Int)))],⟨[At t,Ct,Av (AU t pid),Cu t (.sl 14 (acc.map Av) (some 0))],[(61,14,acc.map Av)]⟩⟩) (t.ps.length) ((wk 4 1)) (⟨0,[],Nat.zero_le _,rfl,rfl,Nat.le_refl _,rfl⟩) ?_
 rintro m s ⟨j,acc,hj,rfl,hacc,hal,rfl⟩
 refine q_ (w_ (m_ (h:=f_ (h:=l_ (h:=n_ (h:=BJ (h:=e_ (?_))))))))
 refine A8 rfl (fun hb3=>?_) (fun hb3=>?_)
 ·have hc3:=bp hb3
  obtain⟨hlt,x,hy,hrow, -⟩:=CW Av hc3
  have hop:x.opens.length≤1000:=by have:=ht.opens x (Au hy);omega
  have hk:=gH hy hacc
  refine AG (q_ (Ao (w_ (f_ (h:=l_ (h:=m_ (h:=i_ (h:=l_ (h:=?_)))))))))
  refine A4 rfl (AK (Mz x hop) ?_)
  rintro r rfl
  refine AW (h:=s_ (h:=e_ (?_)))
  refine B5 (fun s=>s=⟨look [(1, .v (.int .i64 pid)),(2, .bp 0 0),(4, .bp 1 0),(8, .bp 3 0),(9, .v (.int .i64 (j:Int))),(10, .bp 4 0)],⟨[At t,Ct,Av (AU t pid),Cu t (.sl 14 (acc.map Av) (some 0)),Av (Fa pid x)],[(61,14,acc.map Av)]⟩⟩) ?_ ?_
  ·skip
   refine w_ (f_ (h:=l_ (h:=m_ (h:=AQ (h:=e_ (?_))))))
   refine A8 rfl (fun hb4=>?_) (fun hb4=>?_)
   ·have hc4:=bp hb4
    have hpp:x.ppid=pid:=hc4
    refine AP (f_ (h:=s_ (h:=AO (?_))))
    refine AD ?_
    refine⟨_,rfl,?_⟩
    unfold Fa
    (rw[if_pos hpp];exact Az 5 1 rfl rfl rfl rfl ((by repeat (first|exact Sub.nil|refine Sub.cons _ _ _ rfl rfl ?_|refine Sub.any _ _ ?_|refine Sub.sl _ _ _ _ _ rfl ?_|refine Sub.slnil _ _ _ rfl ?_))))
   have hc4:=bp hb4
   have hpp:¬x.ppid=pid:=hc4
   refine BB (?_)
   refine AD ?_
   refine⟨_,rfl,?_⟩
   unfold Fa
   first|(rw[if_pos hpp];exact Az 5 1 rfl rfl rfl rfl ((by repeat (first|exact Sub.nil|refine Sub.cons _ _ _ rfl rfl ?_|refine Sub.any _ _ ?_|refine Sub.sl _ _ _ _ _ rfl ?_|refine Sub.slnil _ _ _ rfl ?_))))|(rw[if_neg hpp];exact Az 5 1 rfl rfl rfl rfl ((by repeat (first|exact Sub.nil|refine Sub.cons _ _ _ rfl rfl ?_|refine Sub.any _ _ ?_|refine Sub.sl _ _ _ _ _ rfl ?_|refine Sub.slnil _ _ _ rfl ?_))))
  rintro s rfl
  have hop2:(Fa pid x).pid=x.pid:=by unfold Fa;split<;>rfl
  refine w_ (f_ (h:=l_ (h:=m_ (h:=BF (h:=e_ (?_))))))
  refine A8 rfl (fun hb5=>?_) (fun hb5=>?_)
  ·have hc5:=bp hb5
   have hpe:x.pid≠pid:=by rw[←hop2];simpa using hc5
   rw[if_pos hpe]at hk
   refine AP (f_ (h:=l_ (h:=l_ (h:=Bm (h:=?_)))))
   refine A4 rfl (E3 rfl rfl rfl (by simp;omega) (by repeat constructor) ?_)
   refine f_ (h:=s_ (h:=AO (Ay (t_ (AP (m_ (h:=B8 (h:=a_ (h:=AO (?_))))))))))
   refine AD ?_
   exact⟨t.ps.length - (j+1),_,by omega,⟨j+1,acc++[Fa pid x],by omega,rfl,hk,by simp;omega,rfl⟩,(by rw[List.map_append];exact Az 4 1 rfl rfl rfl rfl ((by repeat (first|exact Sub.nil|refine Sub.cons _ _ _ rfl rfl ?_|refine Sub.any _ _ ?_|refine Sub.sl _ _ _ _ _ rfl ?_|refine Sub.slnil _ _ _ rfl ?_))))⟩
  have hc5:=bp hb5
  have hpe:¬x.pid≠pid:=by rw[←hop2];simpa using hc5
  rw[if_neg hpe]at hk
  refine BB (Ay (t_ (AP (m_ (h:=B8 (h:=a_ (h:=AO (?_))))))))
  refine AD ?_
  first|exact⟨t.ps.length - (j+1),_,by omega,⟨j+1,acc++[Fa pid x],by omega,rfl,hk,by simp;omega,rfl⟩,(by rw[List.map_append];exact Az 4 1 rfl rfl rfl rfl ((by repeat (first|exact Sub.nil|refine Sub.cons _ _ _ rfl rfl ?_|refine Sub.any _ _ ?_|refine Sub.sl _ _ _ _ _ rfl ?_|refine Sub.slnil _ _ _ rfl ?_))))⟩|exact⟨t.ps.length - (j+1),_,by omega,⟨j+1,acc,by omega,rfl,hk,by omega,rfl⟩,Az 4 1 rfl rfl rfl rfl ((by repeat (first|exact Sub.nil|refine Sub.cons _ _ _ rfl rfl ?_|refine Sub.any _ _ ?_|refine Sub.sl _ _ _ _ _ rfl ?_|refine Sub.slnil _ _ _ rfl ?_)))⟩
 have hc3:=bp hb3
 have e:=Ck Av hj hc3
 subst e
 rw[List.take_length]at hacc
 refine BO (Aq (Aq (BQ (t_ (w_ (l_ (h:=s_ (h:=a_ (h:=e_ (A6 (?_)))))))))))
 refine Aj (r:=CV (Fb t pid)) none (h5:=?_) (h6:=⟨rfl,rfl,rfl⟩)
 rw[Fb,if_neg (by simp[hhas]),if_neg h1,hacc]
 exact LeA.tup (.cons (LeA.agg (.cons (LeA.refl _) (.cons (LeA.refl _) (.cons (LeA.tok _ _ _) .nil)))) (.cons (LeA.refl _) .nil))
theorem gP(t:Tab)(pid q:Int)(b:Bool)(ht:TabB t):AFn Tryz.prog 166 [.agg (At t), .v (.int .i64 pid), .v (.int .i64 q), .v (.bool b)] (fun r=>r=CV (FO t pid q b)):=by
 refine enter Tryz.func166 rfl rfl rfl rfl rfl 0 rfl ?_
 refine w_ (b_ (h:=AW (h:=a_ (h:=e_ (w_ (l_ (h:=m_ (h:=?_))))))))
 refine A4 rfl (AK (Fj t pid ht) ?_)
 rintro r rfl
 refine m_ (h:=x_ (h:=x_ (h:=AW (h:=s_ (h:=a_ (h:=e_ (q_ (w_ (m_ (h:=BA (h:=e_ (?_))))))))))))
 refine A8 rfl (fun hb1=>?_) (fun hb1=>?_)
 ·have hc1:=bp hb1
  have hno:Bz t pid=false:=by simpa using hc1
  refine w_ (AT (h:=s_ (h:=a_ (h:=e_ (A6 (A7 (?_)))))))
  refine Aj (r:=CV (FO t pid q b)) none (h5:=?_) (h6:=⟨rfl,rfl,rfl⟩)
  rw[FO,if_pos hno]
  exact EN _
 have hc1:=bp hb1
 have hhas:Bz t pid=true:=by simpa using hc1
 refine AG (w_ (l_ (h:=m_ (h:=?_))))
 refine A4 rfl (AK (Fj t q ht) ?_)
 rintro r rfl
 refine m_ (h:=x_ (h:=x_ (h:=AW (h:=s_ (h:=a_ (h:=e_ (q_ (w_ (m_ (h:=BA (h:=e_ (?_))))))))))))
 refine A8 rfl (fun hb2=>?_) (fun hb2=>?_)
 ·have hc2:=bp hb2
  have hno2:Bz t q=false:=by simpa using hc2
  refine w_ (AT (h:=s_ (h:=a_ (h:=e_ (A6 (A7 (?_)))))))
  refine Aj (r:=CV (FO t pid q b)) none (h5:=?_) (h6:=⟨rfl,rfl,rfl⟩)
  rw[FO,if_neg (by simp[hhas]),if_pos hno2]
  exact EN _
 have hc2:=bp hb2
 have hhas2:Bz t q=true:=by simpa using hc2
 refine AG (q_ (?_))
 refine B5 (fun S=>S=⟨look [(2, .v (.int .i64 q)),(3, .v (.bool b)),(4, .bp 0 0),(8, .bp 1 0),(44, .v (.bool (decide (q=1∨(AU t pid).euid≠0∧(AU t pid).euid≠(AU t q).uid))))],⟨[At t,Ct],[]⟩⟩) ?_ ?_
 ·skip
  refine AP (m_ (h:=AQ (h:=m_ (h:=?_))))
  refine Ax false rfl rfl (fun hb3=>?_) (fun hb3=>?_)
  ·have hc3:=bp hb3
   refine A3 (h:=A3 (h:=A3 (h:=A3 (h:=ED (h:=ED (h:=ED (h:=ED (h:=ED (h:=A3 (h:=Af (h:=AO (?_))))))))))))
   refine AD ?_
   exact⟨_,rfl,C4 2 0 rfl⟩
  have hc3:=bp hb3
  refine f_ (h:=l_ (h:=BF (h:=m_ (h:=?_))))
  refine Ax true rfl rfl (fun hb4=>?_) (fun hb4=>?_)
  ·have hc4:=bp hb4
   refine f_ (h:=l_ (h:=f_ (h:=l_ (h:=BF (h:=Af (h:=Am (h:=AO (?_))))))))
   refine AD ?_
   exact⟨_,rfl,C4 2 0 rfl⟩
  have hc4:=bp hb4
  refine A3 (h:=A3 (h:=A3 (h:=A3 (h:=A3 (h:=Am (h:=Am (h:=AO (?_))))))))
  refine AD ?_
  exact⟨_,rfl,C4 2 0 rfl⟩
 rintro S rfl
 refine A8 rfl (fun hb5=>?_) (fun hb5=>?_)
 ·have hc5:=bp hb5
  refine w_ (AT (h:=s_ (h:=a_ (h:=e_ (A6 (A7 (?_)))))))
  refine Aj (r:=CV (FO t pid q b)) none (h5:=?_) (h6:=⟨rfl,rfl,rfl⟩)
  rw[FO,if_neg (by simp[hhas]),if_neg (by simp[hhas2]),if_pos (by first|assumption|simpa using ‹_›)]
  exact EN _
 have hc5:=bp hb5
 refine AG (q_ (w_ (m_ (h:=e_ (?_)))))
 refine A8 rfl (fun hb6=>?_) (fun hb6=>?_)
 ·have hc6:=bp hb6
  have hb:b=true:=hc6
  refine w_ (l_ (h:=m_ (h:=?_)))
  refine A4 rfl (AK (WE t q ht) ?_)
  rintro r rfl
  refine x_ (h:=x_ (h:=s_ (h:=a_ (h:=e_ (A6 (A7 (?_)))))))
  refine AB ?_
  rw[FO,if_neg (by simp[hhas]),if_neg (by simp[hhas2]),if_neg (by first|assumption|simpa using ‹_›),if_pos hb];rfl
 have hc6:=bp hb6
 have hb:¬b=true:=by simpa using hc6
 refine AG (w_ (l_ (h:=?_)))
 refine A4 rfl (AK (V2 t ht) ?_)
 rintro r rfl
 refine s_ (h:=a_ (h:=e_ (A6 (?_))))
 refine AB ?_
 rw[FO,if_neg (by simp[hhas]),if_neg (by simp[hhas2]),if_neg (by first|assumption|simpa using ‹_›),if_neg hb];rfl
theorem gQ(t:Tab)(pid:Int)(ht:TabB t)(hn:Cv t):AFn Tryz.prog 159 [.agg (At t), .v (.int .i64 pid)] (fun r=>r=JH (Ed t pid)):=by
 have hfew:=ht.few
 have hn1:=hn.1
 have hn2:=ht.next
 have hpl:(t.ps.map Av).length=t.ps.length:=List.length_map _
 obtain⟨p,hp⟩:∃p:Prc,p={AU t pid with pid:=t.next,ppid:=pid}:=⟨_,rfl⟩
 have hlen:(t.ps++[p]).length=t.ps.length+1:=by simp
 obtain⟨tF,htF⟩:∃x:Tab,x=⟨t.next+1,t.nextS,t.ps++[p]⟩:=⟨_,rfl⟩
 refine enter Tryz.func159 rfl rfl rfl rfl rfl 0 rfl ?_
 refine w_ (b_ (h:=AW (h:=a_ (h:=a_ (h:=e_ (w_ (l_ (h:=m_ (h:=?_)))))))))
 refine A4 rfl (AK (Fj t pid ht) ?_)
 rintro r rfl
 refine m_ (h:=x_ (h:=x_ (h:=AW (h:=s_ (h:=a_ (h:=e_ (q_ (w_ (m_ (h:=BA (h:=e_ (?_))))))))))))
 refine A8 rfl (fun hb1=>?_) (fun hb1=>?_)
 ·have hc1:=bp hb1
  have hno:Bz t pid=false:=by simpa using hc1
  refine w_ (AT (h:=s_ (h:=a_ (h:=a_ (h:=e_ (A6 (A7 (?_))))))))
  refine Aj (r:=JH (Ed t pid)) none (h5:=?_) (h6:=⟨rfl,rfl,rfl⟩)
  rw[Ed,if_pos hno]
  exact N2 _ _
 have hc1:=bp hb1
 have hhas:Bz t pid=true:=by simpa using hc1
 refine AG (q_ (w_ (f_ (h:=l_ (h:=n_ (h:=Fu (h:=m_ (h:=?_))))))))
 refine Ax false rfl rfl (fun hb2=>?_) (fun hb2=>?_)
 ·have hc2:=bp hb2
  refine A3 (h:=A3 (h:=A3 (h:=Af (h:=e_ (Bf (h:=w_ (AT (h:=s_ (h:=a_ (h:=a_ (h:=e_ (A6 (A7 (?_))))))))))))))
  refine Aj (r:=JH (Ed t pid)) none (h5:=?_) (h6:=⟨rfl,rfl,rfl⟩)
  rw[Ed,if_neg (by simp[hhas]),if_pos (by first|assumption|omega)]
  exact N2 _ _
 have hc2:=bp hb2
 refine f_ (h:=l_ (h:=AQ (h:=Am (h:=e_ (?_)))))
 refine A8 rfl (fun hb3=>?_) (fun hb3=>?_)
 ·have hc3:=bp hb3
  refine w_ (AT (h:=s_ (h:=a_ (h:=a_ (h:=e_ (A6 (A7 (?_))))))))
  refine Aj (r:=JH (Ed t pid)) none (h5:=?_) (h6:=⟨rfl,rfl,rfl⟩)
  rw[Ed,if_neg (by simp[hhas]),if_pos (by first|assumption|omega)]
  exact N2 _ _
 have hc3:=bp hb3
 refine AG (?_)
 refine B5 (fun s=>s=⟨look [(2, .bp 0 0),(4, .bp 1 0),(7, .bp 2 0)],⟨[At t,Ct,Av p],[]⟩⟩) ?_ ?_
 ·skip
  refine AP (f_ (h:=l_ (h:=m_ (h:=f_ (h:=s_ (h:=f_ (h:=s_ (h:=AO (?_)))))))))
  refine AD ?_
  rw[hp]
  exact⟨_,rfl,Az 3 0 rfl rfl rfl rfl ((by repeat (first|exact Sub.nil|refine Sub.cons _ _ _ rfl rfl ?_|refine Sub.any _ _ ?_|refine Sub.sl _ _ _ _ _ rfl ?_|refine Sub.slnil _ _ _ rfl ?_)))⟩
 rintro s rfl
 refine B5 (fun s=>∃cap,t.ps.length≤cap∧s=⟨look [(4, .bp 1 0),(7, .bp 2 0),(9, .bp 3 0)],⟨[At t,Ct,Av p,Cu t (.bs 4 0 14 t.ps.length cap),LB 14 Av t.ps cap],[]⟩⟩) ?_ ?_
 ·skip
  refine AP (l_ (h:=?_))
  refine A4 rfl (BV [] rfl (.cons _ _ _ _ _ rfl (LeA.refl _) .nil) (by decide) .nil (V3 t ht (Jo hhas)) ?_)
  rintro r bc tc ⟨rfl,cap,hcap,rfl,rfl⟩
  refine⟨rfl,_,(V1 (n:=3) rfl t cap:Back _ [] _ [_,_,_,_,_,_,_]),?_⟩
  refine AW (h:=s_ (h:=AO (?_)))
  refine AD ?_
  exact⟨_,⟨cap,hcap,rfl⟩,E4 [0,1,2,7,6] (fun i hi=>absurd hi (Nat.not_lt_zero i)) (by decide) (.cons _ _ _ _ _ rfl rfl (.cons _ _ _ _ _ rfl rfl (.cons _ _ _ _ _ rfl rfl (.cons _ _ _ _ _ rfl rfl (.cons _ _ _ _ _ rfl (Ge DX _ _ _) .nil))))) (by repeat (first|exact SubK.nil|refine SubK.cons _ _ _ _ rfl (LeA.refl _) ?_))⟩
 rintro s ⟨cap,hcp,rfl⟩
 refine w_ (f_ (h:=l_ (h:=B8 (h:=f_ (h:=s_ (h:=e_ (?_)))))))
 refine B5 (fun s=>s=⟨look [(4, .bp 1 0),(7, .bp 2 0),(9, .bp 3 0)],⟨[At t,Ct,Av p,At tF],[]⟩⟩) ?_ ?_
 ·skip
  refine AP (f_ (h:=l_ (h:=l_ (h:=Bm (h:=?_)))))
  refine A4 rfl (Ks rfl rfl rfl (by rw[Mx DX hcp];omega) JA (by omega) (by omega) ?_ ?_)
  ·rintro hg row2 bx2 hs hb
   obtain rfl:=R7 DX hs hg
   obtain rfl:bx2=[_,_,_,_,_]:=hb.one.2
   have hcpx:(t.ps++[p]).length≤cap:=by simpa using hg
   refine f_ (h:=s_ (h:=AO (?_)))
   refine AD ?_
   rw[htF]
   refine⟨_,rfl,?_⟩
   rw[←hlen]
   exact Em 4 1 rfl (congrArg (fun x=>[At t,Ct,Av p,[.v (.int .i64 (t.next+1)), .v (.int .i64 t.nextS),x]]) (KT (l:=t.ps++[p]) DX rfl rfl hcpx)) (.cons _ _ _ _ rfl (LeA.refl _) (.cons _ _ _ _ rfl (LeA.refl _) (.cons _ _ _ _ rfl (LeA.refl _) .nil)))
  rintro hg cap3 k bx2 hcp3 hs
  rw[show((LB 14 Av t.ps cap).drop 0).take (t.ps.length * 14)++CT (.agg (Av p))++List.replicate ((cap3 - (t.ps.length+1)) * 14) AV.any=LB 14 Av (t.ps++[p]) cap3 from R6 DX t.ps p cap cap3]at hs
  obtain⟨rfl,rfl⟩:k=5∧bx2=[_,_,_,_,_,_]:=hs.eq
  have hcpx:(t.ps++[p]).length≤cap3:=by simpa using hcp3
  refine f_ (h:=s_ (h:=AO (?_)))
  refine AD ?_
  rw[htF]
  refine⟨_,rfl,?_⟩
  rw[←hlen]
  exact Em 4 1 rfl (congrArg (fun x=>[At t,Ct,Av p,[.v (.int .i64 (t.next+1)), .v (.int .i64 t.nextS),x]]) (KT (l:=t.ps++[p]) DX rfl rfl hcpx)) (.cons _ _ _ _ rfl (LeA.refl _) (.cons _ _ _ _ rfl (LeA.refl _) (.cons _ _ _ _ rfl (LeA.refl _) .nil)))
 rintro s rfl
 refine q_ (BH ([(0,At t),(2,Av p),(3,At tF)]) 6 (h:=AJ 0 (h:=AF 1 (h:=AJ 2 (h:=?_)))))
 refine B0 3 rfl (Aw rfl rfl rfl rfl rfl rfl (by repeat constructor) (by repeat constructor) ?_)
 refine o_ (h:=BC 4 (h:=BC 5 (h:=z_ (h:=t_ (A6 (?_))))))
 refine AB ?_
 rw[Ed,if_neg (by simp[hhas]),if_neg (by first|assumption|omega),←hp,←htF]
 rw[hp]
 rfl
end
section
theorem Of(w:Wrk)(cap:Nat)(f:Fnd)(hv:SpcV w.s.spc)(hm:w.s.spc.mounts.length≤1000)(htb:TabB w.s.tab)(hf:w.found[0]?=some f):ACall Tryz.prog 119 [.bp 0 0] [WA w cap,IB w cap] (fun r b t=>t=[]∧r= .v (.int .i64 (D9 w).2)∧b=[WA (D9 w).1 cap,IB (D9 w).1 cap]):=by
 have hsb:=hv.b hm
 have hrow0:(w.found.map Ak)[0]?=some (Ak f):=by rw[List.getElem?_map,hf];rfl
 have hfn:B2 w 0=f:=by unfold B2;rw[hf];rfl
 have hre:D9 w=if f.ex=false then(w,2)else if w.c.num=1 then(if AX w.s.spc.files f.file=true∨C1 w f.file 1=false then(w,13)else C2 w (Gz w.s.tab w.p.pid f.path f.name))else if w.c.num=16 then(if AX w.s.spc.files f.file=false then(w,20)else if C1 w f.file 1=false then(w,13)else C2 w (Gy w.s.tab w.p.pid f.file))else if w.c.num=17 then(if AX w.s.spc.files f.file=false then(w,20)else Hl w (DN w.s.spc w.c.a0 f.file))else if AX w.s.spc.files f.file=true then(w,21)else if C1 w f.file 2=false then(w,13)else(w,0):=by
  unfold D9 GY
  rw[hfn]
 obtain⟨T1,hT1⟩:∃T,T=Gz w.s.tab w.p.pid f.path f.name:=⟨_,rfl⟩
 obtain⟨T2,hT2⟩:∃T,T=Gy w.s.tab w.p.pid f.file:=⟨_,rfl⟩
 obtain⟨R,hR⟩:∃R,R=DN w.s.spc w.c.a0 f.file:=⟨_,rfl⟩
 have hexec:AFn Tryz.prog 157 [.agg (At w.s.tab), .v (.int .i64 w.p.pid), .v (.string f.path), .v (.string f.name)] (fun r=>r=CV T1):=by rw[hT1];exact gK _ _ _ _ htb
 have hchd:AFn Tryz.prog 158 [.agg (At w.s.tab), .v (.int .i64 w.p.pid), .agg (AA f.file)] (fun r=>r=CV T2):=by rw[hT2];exact gJ _ _ _ htb
 have hadd:AFn Tryz.prog 49 [.agg (Ai w.s.spc), .v (.int .i64 w.c.a0), .agg (AA f.file)] (fun r=>r=Er R):=by rw[hR];exact Zd _ _ _ hsb
 rw[←hT1,←hT2,←hR]at hre
 clear hT1 hT2 hR
 refine enter Tryz.func119 rfl rfl rfl rfl rfl 2 rfl ?_
 refine w_ (a_ (h:=e_ (w_ (m_ (h:=k_ (h:=f_ (h:=l_ (h:=?_))))))))
 refine A4 rfl (CS (n:=0) rfl rfl rfl hrow0 ?_)
 refine l_ (h:=AW (h:=s_ (h:=e_ (q_ (w_ (f_ (h:=l_ (h:=BA (h:=e_ (?_))))))))))
 refine A8 rfl (fun hb1=>?_) (fun hb1=>?_)
 ·have hc1:=bp hb1
  have k1:f.ex=false:=by simpa using hc1
  refine w_ (a_ (h:=e_ (A6 (A7 (?_)))))
  refine BM (r:= .v (.int .i64 (D9 w).2)) none (h5:=(by rw[hre,if_pos k1];exact LeA.refl _)) (h6:=⟨rfl,rfl,?_⟩)
  rw[hre,if_pos k1]
  rfl
 have hc1:=bp hb1
 have k1:¬f.ex=false:=by simpa using hc1
 refine AG (q_ (w_ (m_ (h:=k_ (h:=f_ (h:=f_ (h:=l_ (h:=e_ (Ao (w_ (AQ (h:=a_ (h:=e_ (?_))))))))))))))
 refine A8 rfl (fun hb2=>?_) (fun hb2=>?_)
 ·have hc2:=bp hb2
  have k2:w.c.num=1:=hc2
  refine q_ (?_)
  refine B5 (fun S=>S=⟨look [(0, .bp 0 0),(3, .bp 2 0),(30, .v (.bool (AX w.s.spc.files f.file|| !C1 w f.file 1)))],⟨[WA w cap,IB w cap,Ak f],[]⟩⟩) ?_ ?_
  ·skip
   refine AP (m_ (h:=?_))
   refine A4 rfl (Cf 1 rfl (.cons _ _ _ _ _ rfl (LeA.of_eq rfl) (.cons _ _ _ _ _ rfl (LeA.refl _) .nil)) (Jp w .any 0 f hsb hf) ?_)
   rintro r rfl
   refine⟨rfl,?_⟩
   refine m_ (h:=?_)
   refine Ax false rfl rfl (fun hb3=>?_) (fun hb3=>?_)
   ·have hc3:=bp hb3
    refine A3 (h:=A3 (h:=A3 (h:=A3 (h:=A3 (h:=Af (h:=AO (?_)))))))
    refine AD ?_
    exact⟨_,rfl,C4 3 0 (by simp[Ag,Ab,Ac,BZ B1,BD,WA,IB,CC,Ak,Ah,AA,At,Ai,As])⟩
   have hc3:=bp hb3
   refine m_ (h:=f_ (h:=l_ (h:=?_)))
   refine B6 (Cf 1 rfl (.cons _ _ _ _ _ rfl (LeA.of_eq rfl) (.cons _ _ _ _ _ rfl (LeA.refl _) (.cons _ _ _ _ _ rfl (LeA.refl _) .nil))) (H3 w .any f.file 1 hsb) ?_)
   rintro r rfl
   refine⟨rfl,?_⟩
   refine BA (h:=Am (h:=AO (?_)))
   refine AD ?_
   exact⟨_,rfl,C4 3 0 (by simp[Ag,Ab,Ac,BZ B1,BD,WA,IB,CC,Ak,Ah,AA,At,Ai,As])⟩
  rintro S rfl
  refine A8 rfl (fun hb4=>?_) (fun hb4=>?_)
  ·have hc4:=bp hb4
   have k5:AX w.s.spc.files f.file=true∨C1 w f.file 1=false:=by simpa using hc4
   refine w_ (a_ (h:=e_ (A6 (A7 (AR (A7 (?_)))))))
   refine BM (r:= .v (.int .i64 (D9 w).2)) none (h5:=(by rw[hre,if_neg k1,if_pos k2,if_pos k5];exact LeA.refl _)) (h6:=⟨rfl,rfl,?_⟩)
   rw[hre,if_neg k1,if_pos k2,if_pos k5]
   rfl
  have hc4:=bp hb4
  have k5:¬(AX w.s.spc.files f.file=true∨C1 w f.file 1=false):=by simpa using hc4
  refine AG (q_ (BH ([(0,WA w cap),(1,IB w cap),(2,Ak f)]) 18 (h:=AN 0 (h:=AN 1 (h:=B7 2 (h:=AF 3 (h:=AF 4 (h:=AJ 5 (h:=AN 6 (h:=B7 7 (h:=AF 8 (h:=AF 9 (h:=AJ 10 (h:=AF 11 (h:=AJ 12 (h:=AF 13 (h:=AJ 14 (h:=?_))))))))))))))))))
  refine c_ 15 rfl (AK (hexec) ?_)
  rintro r rfl
  refine o_ (h:=B4 16 (h:=B4 17 (h:=?_)))
  refine c_ 18 rfl (BV [0,1] rfl (.cons _ _ _ _ _ rfl (LeA.refl _) (.cons _ _ _ _ _ rfl (LeA.refl _) (.cons _ _ _ _ _ rfl (LeA.refl _) .nil))) (by decide) (.cons _ _ _ _ _ rfl rfl (.cons _ _ _ _ _ rfl (Cg B1 _ _ _) .nil)) (RL w cap T1.1 T1.2) ?_)
  rintro r bc tc ⟨rfl,rfl,rfl⟩
  refine⟨rfl,_,D1 rfl ((C2 w T1).1) cap,?_⟩
  refine o_ (h:=?_)
  refine c_ 19 rfl (FJ rfl ?_)
  refine o_ (h:=z_ (h:=t_ (A6 (AR (A7 (?_))))))
  refine BM (r:= .v (.int .i64 (D9 w).2)) none (h5:=(by rw[hre,if_neg k1,if_pos k2,if_neg k5,Ho];exact LeA.refl _)) (h6:=⟨rfl,rfl,?_⟩)
  rw[hre,if_neg k1,if_pos k2,if_neg k5]
  rfl
 have hc2:=bp hb2
 have k2:¬w.c.num=1:=hc2
 refine w_ (AQ (h:=a_ (h:=e_ (?_))))
 refine A8 rfl (fun hb5=>?_) (fun hb5=>?_)
 ·have hc5:=bp hb5
  have k3:w.c.num=16:=hc5
  refine q_ (w_ (m_ (h:=?_)))
  refine A4 rfl (Cf 1 rfl (.cons _ _ _ _ _ rfl (LeA.of_eq rfl) (.cons _ _ _ _ _ rfl (LeA.refl _) .nil)) (Jp w .any 0 f hsb hf) ?_)
  rintro r rfl
  refine⟨rfl,?_⟩
  refine BA (h:=e_ (?_))
  refine A8 rfl (fun hb6=>?_) (fun hb6=>?_)
  ·have hc6:=bp hb6
   have k5:AX w.s.spc.files f.file=false:=by simpa using hc6
   refine w_ (a_ (h:=e_ (A6 (A7 (AR (A7 (?_)))))))
   refine BM (r:= .v (.int .i64 (D9 w).2)) none (h5:=(by rw[hre,if_neg k1,if_neg k2,if_pos k3,if_pos k5];exact LeA.refl _)) (h6:=⟨rfl,rfl,?_⟩)
   rw[hre,if_neg k1,if_neg k2,if_pos k3,if_pos k5]
   rfl
  have hc6:=bp hb6
  have k5:¬AX w.s.spc.files f.file=false:=by simpa using hc6
  refine AG (q_ (w_ (m_ (h:=f_ (h:=l_ (h:=?_))))))
  refine A4 rfl (Cf 1 rfl (.cons _ _ _ _ _ rfl (LeA.of_eq rfl) (.cons _ _ _ _ _ rfl (LeA.refl _) (.cons _ _ _ _ _ rfl (LeA.refl _) .nil))) (H3 w .any f.file 1 hsb) ?_)
  rintro r rfl
  refine⟨rfl,?_⟩
  refine BA (h:=e_ (?_))
  refine A8 rfl (fun hb7=>?_) (fun hb7=>?_)
  ·have hc7:=bp hb7
   have k6:C1 w f.file 1=false:=by simpa using hc7
   refine w_ (a_ (h:=e_ (A6 (A7 (AR (A7 (?_)))))))
   refine BM (r:= .v (.int .i64 (D9 w).2)) none (h5:=(by rw[hre,if_neg k1,if_neg k2,if_pos k3,if_neg k5,if_pos k6];exact LeA.refl _)) (h6:=⟨rfl,rfl,?_⟩)
   rw[hre,if_neg k1,if_neg k2,if_pos k3,if_neg k5,if_pos k6]
   rfl
  have hc7:=bp hb7
  have k6:¬C1 w f.file 1=false:=by simpa using hc7
  refine AG (q_ (BH ([(0,WA w cap),(1,IB w cap),(2,Ak f)]) 16 (h:=AN 0 (h:=AN 1 (h:=B7 2 (h:=AF 3 (h:=AF 4 (h:=AJ 5 (h:=AN 6 (h:=B7 7 (h:=AF 8 (h:=AF 9 (h:=AJ 10 (h:=AF 11 (h:=AJ 12 (h:=?_))))))))))))))))
  refine c_ 13 rfl (AK (hchd) ?_)
  rintro r rfl
  refine o_ (h:=B4 14 (h:=B4 15 (h:=?_)))
  refine c_ 16 rfl (BV [0,1] rfl (.cons _ _ _ _ _ rfl (LeA.refl _) (.cons _ _ _ _ _ rfl (LeA.refl _) (.cons _ _ _ _ _ rfl (LeA.refl _) .nil))) (by decide) (.cons _ _ _ _ _ rfl rfl (.cons _ _ _ _ _ rfl (Cg B1 _ _ _) .nil)) (RL w cap T2.1 T2.2) ?_)
  rintro r bc tc ⟨rfl,rfl,rfl⟩
  refine⟨rfl,_,D1 rfl ((C2 w T2).1) cap,?_⟩
  refine o_ (h:=?_)
  refine c_ 17 rfl (FJ rfl ?_)
  refine o_ (h:=z_ (h:=t_ (A6 (AR (A7 (?_))))))
  refine BM (r:= .v (.int .i64 (D9 w).2)) none (h5:=(by rw[hre,if_neg k1,if_neg k2,if_pos k3,if_neg k5,if_neg k6,Ho];exact LeA.refl _)) (h6:=⟨rfl,rfl,?_⟩)
  rw[hre,if_neg k1,if_neg k2,if_pos k3,if_neg k5,if_neg k6]
  rfl
 have hc5:=bp hb5
 have k3:¬w.c.num=16:=hc5
 refine w_ (AQ (h:=a_ (h:=e_ (?_))))
 refine A8 rfl (fun hb8=>?_) (fun hb8=>?_)
 ·have hc8:=bp hb8
  have k4:w.c.num=17:=hc8
  refine q_ (w_ (m_ (h:=?_)))
  refine A4 rfl (Cf 1 rfl (.cons _ _ _ _ _ rfl (LeA.of_eq rfl) (.cons _ _ _ _ _ rfl (LeA.refl _) .nil)) (Jp w .any 0 f hsb hf) ?_)
  rintro r rfl
  refine⟨rfl,?_⟩
  refine BA (h:=e_ (?_))
  refine A8 rfl (fun hb9=>?_) (fun hb9=>?_)
  ·have hc9:=bp hb9
   have k5:AX w.s.spc.files f.file=false:=by simpa using hc9
   refine w_ (a_ (h:=e_ (A6 (A7 (AR (A7 (?_)))))))
   refine BM (r:= .v (.int .i64 (D9 w).2)) none (h5:=(by rw[hre,if_neg k1,if_neg k2,if_neg k3,if_pos k4,if_pos k5];exact LeA.refl _)) (h6:=⟨rfl,rfl,?_⟩)
   rw[hre,if_neg k1,if_neg k2,if_neg k3,if_pos k4,if_pos k5]
   rfl
  have hc9:=bp hb9
  have k5:¬AX w.s.spc.files f.file=false:=by simpa using hc9
  refine AG (?_)
  refine B5 (fun S=>S=⟨look [(0, .bp 0 0),(4, .bp 3 0),(5, .v (.int .i64 R.2))],⟨[WA w cap,IB w cap,Ak f,Ai R.1],[]⟩⟩) ?_ ?_
  ·skip
   refine BH ([(0,WA w cap),(1,IB w cap),(2,Ak f)]) 20 (h:=AN 0 (h:=B7 1 (h:=AF 2 (h:=AF 3 (h:=AJ 4 (h:=AN 5 (h:=B7 6 (h:=AF 7 (h:=AF 8 (h:=?_))))))))))
   refine Bj 9 rfl (fun _ hS=>CE (len:=4) (sz:=1) (n:=0) (by kernel_rfl) rfl rfl rfl rfl ⟨rfl,rfl⟩) ?_
   refine AJ 10 (h:=AF 11 (h:=AJ 12 (h:=?_)))
   refine Da 13 17 rfl rfl ?_ ?_
   ·refine AK (hadd) ?_
    rintro r rfl
    refine o_ (h:=?_)
    refine AN 14 (h:=B4 15 (h:=B4 16 (h:=?_)))
    refine c_ 17 rfl (Bx (by repeat constructor) ?_)
    refine o_ (h:=?_)
    refine B0 18 rfl (Aw rfl rfl rfl rfl rfl rfl (by repeat constructor) (by repeat constructor) ?_)
    refine o_ (h:=BC 19 (h:=z_ (h:=?_)))
    refine AD ?_
    exact⟨_,rfl,CP 4 0⟩
   refine Bx (by repeat constructor) ?_
   refine o_ (h:=?_)
   refine c_ 13 rfl (AK (hadd) ?_)
   rintro r rfl
   refine o_ (h:=AN 14 (h:=B4 15 (h:=B4 16 (h:=?_))))
   refine B0 18 rfl (Aw rfl rfl rfl rfl rfl rfl (by repeat constructor) (by repeat constructor) ?_)
   refine o_ (h:=BC 19 (h:=z_ (h:=?_)))
   refine AD ?_
   exact⟨_,rfl,CP 4 0⟩
  rintro S rfl
  refine q_ (w_ (m_ (h:=AQ (h:=e_ (?_)))))
  refine A8 rfl (fun hb10=>?_) (fun hb10=>?_)
  ·have hc10:=bp hb10
   have h0:R.2=0:=hc10
   refine AP (m_ (h:=l_ (h:=k_ (h:=f_ (h:=f_ (h:=s_ (h:=e_ (w_ (m_ (h:=a_ (h:=e_ (A6 (AR (A7 (?_)))))))))))))))
   refine BM (r:= .v (.int .i64 (D9 w).2)) none (h5:=(by rw[hre,if_neg k1,if_neg k2,if_neg k3,if_pos k4,if_neg k5,Hl,if_pos h0];exact LeA.of_eq (vi h0))) (h6:=⟨rfl,rfl,?_⟩)
   rw[hre,if_neg k1,if_neg k2,if_neg k3,if_pos k4,if_neg k5,Hl,if_pos h0]
   rfl
  have hc10:=bp hb10
  have h0:¬R.2=0:=hc10
  refine AG (w_ (m_ (h:=a_ (h:=e_ (A6 (AR (A7 (?_))))))))
  refine BM (r:= .v (.int .i64 (D9 w).2)) none (h5:=(by rw[hre,if_neg k1,if_neg k2,if_neg k3,if_pos k4,if_neg k5,Hl,if_neg h0];exact LeA.refl _)) (h6:=⟨rfl,rfl,?_⟩)
  rw[hre,if_neg k1,if_neg k2,if_neg k3,if_pos k4,if_neg k5,Hl,if_neg h0]
  rfl
 have hc8:=bp hb8
 have k4:¬w.c.num=17:=hc8
 refine BB (Ay (t_ (q_ (w_ (m_ (h:=?_))))))
 refine A4 rfl (Cf 1 rfl (.cons _ _ _ _ _ rfl (LeA.of_eq rfl) (.cons _ _ _ _ _ rfl (LeA.refl _) .nil)) (Jp w .any 0 f hsb hf) ?_)
 rintro r rfl
 refine⟨rfl,?_⟩
 refine e_ (?_)
 refine A8 rfl (fun hb11=>?_) (fun hb11=>?_)
 ·have hc11:=bp hb11
  have k5:AX w.s.spc.files f.file=true:=hc11
  refine w_ (a_ (h:=e_ (A6 (A7 (?_)))))
  refine BM (r:= .v (.int .i64 (D9 w).2)) none (h5:=(by rw[hre,if_neg k1,if_neg k2,if_neg k3,if_neg k4,if_pos k5];exact LeA.refl _)) (h6:=⟨rfl,rfl,?_⟩)
  rw[hre,if_neg k1,if_neg k2,if_neg k3,if_neg k4,if_pos k5]
  rfl
 have hc11:=bp hb11
 have k5:¬AX w.s.spc.files f.file=true:=by simpa using hc11
 refine AG (q_ (w_ (m_ (h:=f_ (h:=l_ (h:=?_))))))
 refine A4 rfl (Cf 1 rfl (.cons _ _ _ _ _ rfl (LeA.of_eq rfl) (.cons _ _ _ _ _ rfl (LeA.refl _) (.cons _ _ _ _ _ rfl (LeA.refl _) .nil))) (H3 w .any f.file 2 hsb) ?_)
 rintro r rfl
 refine⟨rfl,?_⟩
 refine BA (h:=e_ (?_))
 refine A8 rfl (fun hb12=>?_) (fun hb12=>?_)
 ·have hc12:=bp hb12
  have k6:C1 w f.file 2=false:=by simpa using hc12
  refine w_ (a_ (h:=e_ (A6 (A7 (?_)))))
  refine BM (r:= .v (.int .i64 (D9 w).2)) none (h5:=(by rw[hre,if_neg k1,if_neg k2,if_neg k3,if_neg k4,if_neg k5,if_pos k6];exact LeA.refl _)) (h6:=⟨rfl,rfl,?_⟩)
  rw[hre,if_neg k1,if_neg k2,if_neg k3,if_neg k4,if_neg k5,if_pos k6]
  rfl
 have hc12:=bp hb12
 have k6:¬C1 w f.file 2=false:=by simpa using hc12
 refine AG (w_ (a_ (h:=e_ (A6 (?_)))))
 refine BM (r:= .v (.int .i64 (D9 w).2)) none (h5:=(by rw[hre,if_neg k1,if_neg k2,if_neg k3,if_neg k4,if_neg k5,if_neg k6];exact LeA.refl _)) (h6:=⟨rfl,rfl,?_⟩)
 rw[hre,if_neg k1,if_neg k2,if_neg k3,if_neg k4,if_neg k5,if_neg k6]
 rfl
theorem WF(w:Wrk)(cap:Nat)(f:Fnd)(x:Itm)(hv:SpcV w.s.spc)(hm:w.s.spc.mounts.length≤1000)(hf:w.found[0]?=some f)(hx:w.r.items[0]?=some x)(hn:f.name.size≤100000)(h9:w.c.num=9→0<w.c.args.length)(hsz:∀p∈w.c.args,p.size≤1000):ACall Tryz.prog 120 [.bp 0 0] [WA w cap,IB w cap] (fun r b t=>t=[]∧r= .v (.int .i64 (EY w).2)∧b=[WA (EY w).1 cap,IB (EY w).1 cap]):=by
 have hsb:=hv.b hm
 have hrow0:(w.found.map Ak)[0]?=some (Ak f):=by rw[List.getElem?_map,hf];rfl
 have hfn:B2 w 0=f:=by unfold B2;rw[hf];rfl
 have hpl:EY w=if f.ex=true then(w,17)else if f.slash=true∧w.c.num=9 then(w,2)else if C1 w f.dir 2=false then(w,13)else if w.c.num=9 then CO w 0 (LN (GX w.c))else CO w 0 (Mw w.c.a0):=by
  unfold EY
  rw[hfn]
 refine enter Tryz.func120 rfl rfl rfl rfl rfl 2 rfl ?_
 refine w_ (a_ (h:=e_ (w_ (m_ (h:=k_ (h:=f_ (h:=l_ (h:=?_))))))))
 refine A4 rfl (CS (n:=0) rfl rfl rfl hrow0 ?_)
 refine l_ (h:=AW (h:=s_ (h:=e_ (q_ (Ao (w_ (f_ (h:=l_ (h:=a_ (h:=e_ (?_)))))))))))
 refine A8 rfl (fun hb1=>?_) (fun hb1=>?_)
 ·have hc1:=bp hb1
  have k1:f.ex=true:=hc1
  refine w_ (a_ (h:=e_ (A6 (AR (A7 (?_))))))
  refine BM (r:= .v (.int .i64 (EY w).2)) none (h5:=(by rw[hpl,if_pos k1];exact LeA.refl _)) (h6:=⟨rfl,rfl,?_⟩)
  rw[hpl,if_pos k1]
  rfl
 have hc1:=bp hb1
 have k1:¬f.ex=true:=by simpa using hc1
 refine B5 (fun S=>S=⟨look [(0, .bp 0 0),(3, .bp 2 0),(13, .v (.bool (f.slash&&decide (w.c.num=9))))],⟨[WA w cap,IB w cap,Ak f],[]⟩⟩) ?_ ?_
 ·skip
  refine AP (f_ (h:=l_ (h:=m_ (h:=?_))))
  refine Ax true rfl rfl (fun hb2=>?_) (fun hb2=>?_)
  ·have hc2:=bp hb2
   refine m_ (h:=k_ (h:=f_ (h:=f_ (h:=l_ (h:=AQ (h:=Af (h:=a_ (h:=AO (?_)))))))))
   refine AD ?_
   exact⟨_,rfl,C4 3 0 (by simp[Ag,Ab,Ac,BZ B1,BD,WA,IB,CC,Ak,Ah,AA,At,Ai,As])⟩
  have hc2:=bp hb2
  refine A3 (h:=A3 (h:=A3 (h:=A3 (h:=A3 (h:=A3 (h:=Am (h:=a_ (h:=AO (?_)))))))))
  refine AD ?_
  exact⟨_,rfl,C4 3 0 (by simp[Ag,Ab,Ac,BZ B1,BD,WA,IB,CC,Ak,Ah,AA,At,Ai,As])⟩
 rintro S rfl
 refine A8 rfl (fun hb3=>?_) (fun hb3=>?_)
 ·have hc3:=bp hb3
  have k2:f.slash=true∧w.c.num=9:=by simpa using hc3
  refine w_ (a_ (h:=e_ (A6 (AR (A7 (?_))))))
  refine BM (r:= .v (.int .i64 (EY w).2)) none (h5:=(by rw[hpl,if_neg k1,if_pos k2];exact LeA.refl _)) (h6:=⟨rfl,rfl,?_⟩)
  rw[hpl,if_neg k1,if_pos k2]
  rfl
 have hc3:=bp hb3
 have k2:¬(f.slash=true∧w.c.num=9):=by simpa using hc3
 refine w_ (m_ (h:=f_ (h:=l_ (h:=?_))))
 refine A4 rfl (Cf 1 rfl (.cons _ _ _ _ _ rfl (LeA.of_eq rfl) (.cons _ _ _ _ _ rfl (LeA.refl _) (.cons _ _ _ _ _ rfl (LeA.refl _) .nil))) (H3 w .any f.dir 2 hsb) ?_)
 rintro r rfl
 refine⟨rfl,?_⟩
 refine BA (h:=a_ (h:=e_ (?_)))
 refine A8 rfl (fun hb4=>?_) (fun hb4=>?_)
 ·have hc4:=bp hb4
  have k3:C1 w f.dir 2=false:=by simpa using hc4
  refine w_ (a_ (h:=e_ (A6 (AR (A7 (?_))))))
  refine BM (r:= .v (.int .i64 (EY w).2)) none (h5:=(by rw[hpl,if_neg k1,if_neg k2,if_pos k3];exact LeA.refl _)) (h6:=⟨rfl,rfl,?_⟩)
  rw[hpl,if_neg k1,if_neg k2,if_pos k3]
  rfl
 have hc4:=bp hb4
 have k3:¬C1 w f.dir 2=false:=by simpa using hc4
 refine BB (Ay (t_ (q_ (w_ (m_ (h:=k_ (h:=f_ (h:=f_ (h:=l_ (h:=AQ (h:=e_ (?_))))))))))))
 refine A8 rfl (fun hb5=>?_) (fun hb5=>?_)
 ·have hc5:=bp hb5
  have k4:w.c.num=9:=hc5
  obtain⟨a0,ha0⟩:∃a,w.c.args[0]?=some a:=⟨_,B3 (h9 hc5)⟩
  have harg:(w.c.args.map D5)[0]?=some (D5 a0):=by rw[List.getElem?_map,ha0];rfl
  have hag:GX w.c=a0:=by unfold GX;rw[List.headD_eq_head?_getD,List.head?_eq_getElem?,ha0];rfl
  have hsa:(LN a0).target.size≤100000:=by have:=hsz a0 (Au ha0);show a0.size≤100000;omega
  refine w_ (m_ (h:=m_ (h:=k_ (h:=f_ (h:=f_ (h:=l_ (h:=?_)))))))
  refine A4 rfl (CS (n:=0) rfl rfl rfl harg ?_)
  refine l_ (h:=?_)
  refine A4 rfl (EQ (y:= .agg (Ah (LN a0))) (Ca ⟨rfl,rfl⟩) ?_)
  refine A4 rfl (BV [0,1] rfl (.cons _ _ _ _ _ rfl (LeA.refl _) (.cons _ _ _ _ _ rfl (LeA.refl _) (.cons _ _ _ _ _ rfl (LeA.refl _) .nil))) (by decide) (.cons _ _ _ _ _ rfl rfl (.cons _ _ _ _ _ rfl (Cg B1 _ _ _) .nil)) (RN w cap 0 (LN a0) f x hv.files hf hx hn hsa rfl) ?_)
  rintro r bc tc ⟨rfl,rfl,rfl⟩
  refine⟨rfl,_,D1 rfl ((CO w 0 (LN a0)).1) cap,?_⟩
  refine a_ (h:=e_ (A6 (A7 (?_))))
  refine BM (r:= .v (.int .i64 (EY w).2)) none (h5:=(by rw[hpl,if_neg k1,if_neg k2,if_neg k3,if_pos k4,hag];exact LeA.refl _)) (h6:=⟨rfl,rfl,?_⟩)
  rw[hpl,if_neg k1,if_neg k2,if_neg k3,if_pos k4,hag]
  rfl
 have hc5:=bp hb5
 have k4:¬w.c.num=9:=hc5
 refine AG (w_ (m_ (h:=m_ (h:=k_ (h:=f_ (h:=f_ (h:=?_)))))))
 refine A4 rfl (CE (len:=4) (sz:=1) (n:=0) (by kernel_rfl) rfl rfl rfl rfl ?_)
 refine l_ (h:=?_)
 refine A4 rfl (EQ (y:= .agg (Ah (Mw w.c.a0))) (Ca ⟨rfl,rfl⟩) ?_)
 refine A4 rfl (BV [0,1] rfl (.cons _ _ _ _ _ rfl (LeA.refl _) (.cons _ _ _ _ _ rfl (LeA.refl _) (.cons _ _ _ _ _ rfl (LeA.refl _) .nil))) (by decide) (.cons _ _ _ _ _ rfl rfl (.cons _ _ _ _ _ rfl (Cg B1 _ _ _) .nil)) (RN w cap 0 (Mw w.c.a0) f x hv.files hf hx hn (Nat.zero_le _) rfl) ?_)
 rintro r bc tc ⟨rfl,rfl,rfl⟩
 refine⟨rfl,_,D1 rfl ((CO w 0 (Mw w.c.a0)).1) cap,?_⟩
 refine a_ (h:=e_ (A6 (?_)))
 refine BM (r:= .v (.int .i64 (EY w).2)) none (h5:=(by rw[hpl,if_neg k1,if_neg k2,if_neg k3,if_neg k4];exact LeA.refl _)) (h6:=⟨rfl,rfl,?_⟩)
 rw[hpl,if_neg k1,if_neg k2,if_neg k3,if_neg k4]
 rfl
end
section
variable {P:Program}{ev:Operand→Option AV}{h:AH}{R:AV→AH→Prop}{d:Option Tmp}{ty:TypeId}{pos:String}{af:Array Edge}{gd:Option (Nat×Bool)}
theorem gR{T:TypeId}{s y:Operand}{T' sz bytes:Nat}[hE:Elm P T T' sz bytes](hs:ev s=some (.v (.slice none 0 0)))(hy:ev y=some (.v (.slice none 0 0)))(hR:R (.v (.slice none 0 0)) h):AStep P ⟨d, .call {callee:= .builtin .append,args:=#[s,y],argTypes:=#[T,T]},ty,pos,af,gd⟩ ev h R:=by
 intro E G w ec hr he
 have k1:=he s (by simp[Op.operands,Call.operands]) _ hs
 have k2:=he y (by simp[Op.operands,Call.operands]) _ hy
 obtain⟨hu,inf,z,hinf,hz,hzs,hsz,hbts,hp⟩:=Ey hE.eq
 simp only[rep]at k1 k2
 have hrun:(Builtin.append_ #[T,T] ty #[.slice none 0 0, .slice none 0 0]).run P w= .ok (.slice none 0 0) w:=by
  simp[Builtin.append_,run_underlying hu,sizeOf,typeInfo,hinf,Builtin.lenOf,Builtin.firstCells,storeCells]
 simp only[execOp,resolve,invoke,builtin,Sem.run_bind,Sem.run_pure,Result.andThen_ok,List.map_toArray,List.map_cons,List.map_nil,k1,k2,hrun]
 exact⟨_,_,G,hR,hr,Ext.refl _ _,by simp only[rep]⟩
end
def WN(w:Wrk):List AV:=Cs w (.v (.slice none 0 0)) (.v (.slice none 0 0))
theorem Hp{a:List AV}{rest:List (List AV)}(w:Wrk):Back (a::rest) [0] [WN w] (WN w::rest):=by
 have:=My (bx:=a::rest) (is:=[0]) (bc:=[WN w]) (by simp) (by simp) (by simp)
 have e1:DG (DZ [0] (a::rest).length) (WN w)=WN w:=rfl
 have hb:DA (a::rest) (DZ [0] (a::rest).length) [0] [WN w]=WN w::rest:=by
  unfold DA
  rw[e1]
  simp[DA]
 rw[hb]at this
 exact this
def CQ(c:Cal):List AV:=[.v (.int .i64 c.a0), .v (.int .i64 c.a1), .v (.int .i64 c.a2), .v (.int .i64 c.a3)]
theorem gS{t:Tab}{dev:Int}(h:∀i y,i<t.ps.length→t.ps[i]?=some y→(decide (y.cwd.1=dev)||y.opens.any fun d=>decide (d.file.1=dev))=false):LO t dev=false:=Ky h
section
theorem KW(w:Wrk)(t:Tab)(e:Int):ACall Tryz.prog 152 [.bp 0 0, .agg (At t), .v (.int .i64 e)] [WN w] (fun r b tk=>tk=[]∧r= .v (.int .i64 e)∧b=[WN (C2 w (t,e)).1]):=by
 refine enter Tryz.func152 rfl rfl rfl rfl rfl 1 rfl ?_
 refine w_ (b_ (h:=a_ (h:=e_ (q_ (w_ (m_ (h:=AQ (h:=e_ (?_)))))))))
 refine A8 rfl (fun hb1=>?_) (fun hb1=>?_)
 ·have hc1:=bp hb1
  refine AP (m_ (h:=l_ (h:=k_ (h:=f_ (h:=f_ (h:=s_ (h:=e_ (w_ (m_ (h:=a_ (h:=e_ (A6 (?_)))))))))))))
  refine Aj (r:= .v (.int .i64 e)) none (h4:=(by simp[Ag,Ab,Ac,BD,WN,CQ,At,Av,Ai])) (h5:=(LeA.refl _)) (h6:=⟨rfl,rfl,?_⟩)
  rw[C2,if_pos hc1]
  rfl
 have hc1:=bp hb1
 refine AG (w_ (m_ (h:=a_ (h:=e_ (A6 (?_))))))
 refine Aj (r:= .v (.int .i64 e)) none (h4:=(by simp[Ag,Ab,Ac,BD,WN,CQ,At,Av,Ai])) (h5:=(LeA.refl _)) (h6:=⟨rfl,rfl,?_⟩)
 rw[C2,if_neg hc1]
 rfl
theorem gT(w:Wrk)(hs:SpcB w.s.spc)(htb:TabB w.s.tab):ACall Tryz.prog 165 [.bp 0 0] [WN w] (fun r b t=>t=[]∧r= .v (.int .i64 (Et w).2)∧b=[WN (Et w).1]):=by
 have hfew:=htb.few
 obtain⟨R,hR⟩:∃R,R=FC w.s.spc w.c.a0:=⟨_,rfl⟩
 have hrem:AFn Tryz.prog 191 [.agg (Ai w.s.spc), .v (.int .i64 w.c.a0)] (fun r=>r=Er R):=by rw[hR];exact Ze _ _ hs
 have hum:Et w=if w.p.euid≠0 then(w,1)else if w.c.a0=0∨Bl w.s.spc w.c.a0=false then(w,22)else if LO w.s.tab w.c.a0=true then(w,16)else Hm w R:=by
  unfold Et
  rw[←hR]
 clear hR
 refine enter Tryz.func165 rfl rfl rfl rfl rfl 1 rfl ?_
 refine w_ (a_ (h:=e_ (w_ (m_ (h:=k_ (h:=f_ (h:=f_ (h:=?_))))))))
 refine A4 rfl (CE (len:=4) (sz:=1) (n:=0) (by kernel_rfl) rfl rfl rfl rfl ?_)
 refine l_ (h:=a_ (h:=e_ (q_ (w_ (m_ (h:=k_ (h:=f_ (h:=f_ (h:=l_ (h:=BF (h:=e_ (?_))))))))))))
 refine A8 rfl (fun hb1=>?_) (fun hb1=>?_)
 ·have hc1:=bp hb1
  have k1:w.p.euid≠0:=by simpa using hc1
  refine w_ (a_ (h:=e_ (A6 (A7 (?_)))))
  refine Aj (r:= .v (.int .i64 (Et w).2)) none (h4:=(by simp[Ag,Ab,Ac,BD,WN,CQ,At,Av,Ai])) (h5:=(by rw[hum,if_pos k1];exact LeA.refl _)) (h6:=⟨rfl,rfl,?_⟩)
  rw[hum,if_pos k1]
  rfl
 have hc1:=bp hb1
 have k1:¬w.p.euid≠0:=by simpa using hc1
 refine AG (q_ (?_))
 refine B5 (fun S=>S=⟨look [(0, .bp 0 0),(3, .v (.int .i64 w.c.a0)),(32, .v (.bool (decide (w.c.a0=0)|| !Bl w.s.spc w.c.a0)))],⟨[WN w],[]⟩⟩) ?_ ?_
 ·skip
  refine AP (m_ (h:=AQ (h:=m_ (h:=?_))))
  refine Ax false rfl rfl (fun hb2=>?_) (fun hb2=>?_)
  ·have hc2:=bp hb2
   refine A3 (h:=A3 (h:=A3 (h:=A3 (h:=A3 (h:=A3 (h:=A3 (h:=A3 (h:=Af (h:=AO (?_))))))))))
   refine AD ?_
   exact⟨_,rfl,C4 1 0 (by simp[Ag,Ab,Ac,BD,WN,CQ,At,Av,Ai])⟩
  have hc2:=bp hb2
  refine m_ (h:=k_ (h:=f_ (h:=f_ (h:=l_ (h:=m_ (h:=?_))))))
  refine B6 (AK (Kw w.s.spc w.c.a0 hs) ?_)
  rintro r rfl
  refine BA (h:=Am (h:=AO (?_)))
  refine AD ?_
  exact⟨_,rfl,C4 1 0 (by simp[Ag,Ab,Ac,BD,WN,CQ,At,Av,Ai])⟩
 rintro S rfl
 refine A8 rfl (fun hb3=>?_) (fun hb3=>?_)
 ·have hc3:=bp hb3
  have k2:w.c.a0=0∨Bl w.s.spc w.c.a0=false:=by simpa using hc3
  refine w_ (a_ (h:=e_ (A6 (A7 (?_)))))
  refine Aj (r:= .v (.int .i64 (Et w).2)) none (h4:=(by simp[Ag,Ab,Ac,BD,WN,CQ,At,Av,Ai])) (h5:=(by rw[hum,if_neg k1,if_pos k2];exact LeA.refl _)) (h6:=⟨rfl,rfl,?_⟩)
  rw[hum,if_neg k1,if_pos k2]
  rfl
 have hc3:=bp hb3
 have k2:¬(w.c.a0=0∨Bl w.s.spc w.c.a0=false):=by simpa using hc3
 refine AG (q_ (w_ (a_ (h:=e_ (Ao (?_))))))
 refine Ba (fun m S=>∃j:Nat,j≤w.s.tab.ps.length∧m=w.s.tab.ps.length - j∧(∀i y,i<j→w.s.tab.ps[i]?=some y→(decide (y.cwd.1=w.c.a0)||y.opens.any fun d=>decide (d.file.1=w.c.a0))=false)∧S=⟨look [(0, .bp 0 0),(3, .v (.int .i64 w.c.a0)),(4, .v (.int .i64 (j:Int)))],⟨[WN w],[]⟩⟩) (w.s.tab.ps.length) (Bc 1 0 (by simp[Ag,Ab,Ac,BD,WN,CQ,At,Av,Ai])) (⟨0,Nat.zero_le _,rfl,fun i y hi=>by omega,rfl⟩) ?_
 rintro m S ⟨j,hj,rfl,ha,rfl⟩
 refine q_ (w_ (m_ (h:=m_ (h:=k_ (h:=f_ (h:=f_ (h:=f_ (h:=l_ (h:=n_ (h:=BJ (h:=e_ (?_))))))))))))
 refine A8 rfl (fun hb4=>?_) (fun hb4=>?_)
 ·have hc4:=bp hb4
  obtain⟨hlt,p,hy,hrow, -⟩:=CW Av hc4
  have hop:=htb.opens p (Au hy)
  have hpl:(p.opens.map FF).length=p.opens.length:=List.length_map _
  refine AG (q_ (Ao (w_ (m_ (h:=k_ (h:=f_ (h:=f_ (h:=f_ (h:=l_ (h:=m_ (h:=i_ (h:=l_ (h:=AW (h:=s_ (h:=e_ (q_ (w_ (f_ (h:=f_ (h:=l_ (h:=m_ (h:=AQ (h:=e_ (?_))))))))))))))))))))))))
  refine A8 rfl (fun hb5=>?_) (fun hb5=>?_)
  ·have hc5:=bp hb5
   have hbz:LO w.s.tab w.c.a0=true:=KE hy (by simp[hc5])
   refine w_ (a_ (h:=e_ (A6 (A7 (AR (A7 (A7 (AR (A7 (?_))))))))))
   refine Aj (r:= .v (.int .i64 (Et w).2)) none (h4:=(by simp[Ag,Ab,Ac,BD,WN,CQ,At,Av,Ai])) (h5:=(by rw[hum,if_neg k1,if_neg k2,if_pos hbz];exact LeA.refl _)) (h6:=⟨rfl,rfl,?_⟩)
   rw[hum,if_neg k1,if_neg k2,if_pos hbz]
   rfl
  have hc5:=bp hb5
  have hcw:¬p.cwd.1=w.c.a0:=hc5
  refine AG (w_ (a_ (h:=e_ (Ao (?_)))))
  refine Ba (fun m S=>∃k:Nat,k≤p.opens.length∧m=p.opens.length - k∧(∀i y,i<k→p.opens[i]?=some y→decide (y.file.1=w.c.a0)=false)∧S=⟨look [(0, .bp 0 0),(3, .v (.int .i64 w.c.a0)),(4, .v (.int .i64 (j:Int))),(5, .bp 1 0),(6, .v (.int .i64 (k:Int)))],⟨[WN w,Av p],[]⟩⟩) (p.opens.length) (Bc 2 0 (by simp[Ag,Ab,Ac,BD,WN,CQ,At,Av,Ai])) (⟨0,Nat.zero_le _,rfl,fun i y hi=>by omega,rfl⟩) ?_
  rintro m S ⟨k,hk2,rfl,hak,rfl⟩
  refine q_ (w_ (m_ (h:=f_ (h:=l_ (h:=n_ (h:=BJ (h:=e_ (?_))))))))
  refine A8 rfl (fun hb6=>?_) (fun hb6=>?_)
  ·have hc6:=bp hb6
   obtain⟨hltk,q,hyk,hrowk, -⟩:=CW FF hc6
   refine AG (q_ (Ao (w_ (f_ (h:=l_ (h:=m_ (h:=i_ (h:=f_ (h:=f_ (h:=l_ (h:=m_ (h:=AQ (h:=e_ (?_))))))))))))))
   refine A8 rfl (fun hb7=>?_) (fun hb7=>?_)
   ·have hc7:=bp hb7
    have hbz:LO w.s.tab w.c.a0=true:=KE hy (by rw[Bool.or_eq_true];exact .inr (KE hyk (decide_eq_true hc7)))
    refine w_ (a_ (h:=e_ (A6 (AR (A7 (A7 (AR (AR (A7 (A7 (AR (A7 (?_)))))))))))))
    refine Aj (r:= .v (.int .i64 (Et w).2)) none (h4:=(by simp[Ag,Ab,Ac,BD,WN,CQ,At,Av,Ai])) (h5:=(by rw[hum,if_neg k1,if_neg k2,if_pos hbz];exact LeA.refl _)) (h6:=⟨rfl,rfl,?_⟩)
    rw[hum,if_neg k1,if_neg k2,if_pos hbz]
    rfl
   have hc7:=bp hb7
   have hqn:decide (q.file.1=w.c.a0)=false:=decide_eq_false hc7
   refine BB (Ay (t_ (AP (m_ (h:=B8 (h:=a_ (h:=AO (?_))))))))
   refine AD ?_
   refine⟨_,_,?_,⟨k+1,by omega,rfl,Dw hyk hak hqn,rfl⟩,Bc 2 0 (by simp[Ag,Ab,Ac,BD,WN,CQ,At,Av,Ai])⟩
   omega
  have hc6:=bp hb6
  have e2:=Ck FF hk2 hc6
  have hno:(p.opens.any fun d=>decide (d.file.1=w.c.a0))=false:=Ky (by rw[←e2];exact hak)
  refine BO (Aq (Aq (BQ (Ay (t_ (AP (m_ (h:=B8 (h:=a_ (h:=AO (?_)))))))))))
  refine AD ?_
  refine⟨_,_,?_,⟨j+1,by omega,rfl,Dw hy ha (by rw[decide_eq_false hcw,hno];rfl),rfl⟩,Bc 1 0 (by simp[Ag,Ab,Ac,BD,WN,CQ,At,Av,Ai])⟩
  omega
 have hc4:=bp hb4
 have e:=Ck Av hj hc4
 have hbz:LO w.s.tab w.c.a0=false:=gS (by rw[←e];exact ha)
 refine BO (Aq (Aq (BQ (t_ (w_ (m_ (h:=k_ (h:=f_ (h:=f_ (h:=l_ (h:=m_ (h:=?_))))))))))))
 refine A4 rfl (AK (hrem) ?_)
 rintro r rfl
 refine m_ (h:=x_ (h:=x_ (h:=AW (h:=s_ (h:=a_ (h:=e_ (q_ (w_ (m_ (h:=AQ (h:=e_ (?_))))))))))))
 refine A8 rfl (fun hb8=>?_) (fun hb8=>?_)
 ·have hc8:=bp hb8
  have h0:R.2=0:=hc8
  refine w_ (m_ (h:=l_ (h:=k_ (h:=f_ (h:=f_ (h:=s_ (h:=e_ (AP (m_ (h:=m_ (h:=k_ (h:=f_ (h:=f_ (h:=s_ (h:=e_ (w_ (m_ (h:=a_ (h:=e_ (A6 (?_)))))))))))))))))))))
  refine Aj (r:= .v (.int .i64 (Et w).2)) none (h4:=(by simp[Ag,Ab,Ac,BD,WN,CQ,At,Av,Ai])) (h5:=(by rw[hum,if_neg k1,if_neg k2,if_neg (by rw[hbz];simp),Hm,if_pos h0];exact LeA.of_eq (vi h0))) (h6:=⟨rfl,rfl,?_⟩)
  rw[hum,if_neg k1,if_neg k2,if_neg (by rw[hbz];simp),Hm,if_pos h0]
  rfl
 have hc8:=bp hb8
 have h0:¬R.2=0:=hc8
 refine AG (w_ (m_ (h:=a_ (h:=e_ (A6 (?_))))))
 refine Aj (r:= .v (.int .i64 (Et w).2)) none (h4:=(by simp[Ag,Ab,Ac,BD,WN,CQ,At,Av,Ai])) (h5:=(by rw[hum,if_neg k1,if_neg k2,if_neg (by rw[hbz];simp),Hm,if_neg h0];exact LeA.refl _)) (h6:=⟨rfl,rfl,?_⟩)
 rw[hum,if_neg k1,if_neg k2,if_neg (by rw[hbz];simp),Hm,if_neg h0]
 rfl
theorem gU(w:Wrk)(hs:SpcB w.s.spc)(htb:TabB w.s.tab)(htn:Cv w.s.tab)(h19:w.c.num=19→0<w.c.args.length):ACall Tryz.prog 121 [.bp 0 0] [WN w] (fun r b t=>t=[]∧r= .v (.int .i64 (Dt w).2)∧b=[WN (Dt w).1]):=by
 obtain⟨F0,hF0⟩:∃F,F=Ed w.s.tab w.p.pid:=⟨_,rfl⟩
 obtain⟨F2,hF2⟩:∃F,F=Fb w.s.tab w.p.pid:=⟨_,rfl⟩
 obtain⟨F3,hF3⟩:∃F,F=Fc w.s.tab w.p.pid w.c.a0:=⟨_,rfl⟩
 obtain⟨F4,hF4⟩:∃F,F=Fd w.s.tab w.p.pid w.c.a0:=⟨_,rfl⟩
 obtain⟨F5,hF5⟩:∃F,F=EV w.s.tab w.p.pid w.c.a0:=⟨_,rfl⟩
 obtain⟨F7,hF7⟩:∃F,F=GW w.s.tab w.p.pid w.c.a0:=⟨_,rfl⟩
 obtain⟨FK,hFK⟩:∃F,F=FO w.s.tab w.p.pid w.c.a0 (!decide (w.c.a1=0)):=⟨_,rfl⟩
 have q0:AFn Tryz.prog 159 [.agg (At w.s.tab), .v (.int .i64 w.p.pid)] (fun r=>r=JH F0):=by rw[hF0];exact gQ _ _ htb htn
 have q2:AFn Tryz.prog 160 [.agg (At w.s.tab), .v (.int .i64 w.p.pid)] (fun r=>r=CV F2):=by rw[hF2];exact WE _ _ htb
 have q3:AFn Tryz.prog 161 [.agg (At w.s.tab), .v (.int .i64 w.p.pid), .v (.int .i64 w.c.a0)] (fun r=>r=CV F3):=by rw[hF3];exact gL _ _ _ htb
 have q4:AFn Tryz.prog 162 [.agg (At w.s.tab), .v (.int .i64 w.p.pid), .v (.int .i64 w.c.a0)] (fun r=>r=CV F4):=by rw[hF4];exact gM _ _ _ htb
 have q5:AFn Tryz.prog 163 [.agg (At w.s.tab), .v (.int .i64 w.p.pid), .v (.int .i64 w.c.a0)] (fun r=>r=CV F5):=by rw[hF5];exact gN _ _ _ htb htn
 have q7:AFn Tryz.prog 164 [.agg (At w.s.tab), .v (.int .i64 w.p.pid), .v (.int .i64 w.c.a0)] (fun r=>r=CV F7):=by rw[hF7];exact gO _ _ _ htb
 have qk:AFn Tryz.prog 166 [.agg (At w.s.tab), .v (.int .i64 w.p.pid), .v (.int .i64 w.c.a0), .v (.bool (!decide (w.c.a1=0)))] (fun r=>r=CV FK):=by rw[hFK];exact gP _ _ _ _ htb
 have hot:Dt w=if w.c.num=0 then C2 (LP w F0.2.1) (F0.1,F0.2.2)else if w.c.num=2 then C2 w F2 else if w.c.num=3 then C2 w F3 else if w.c.num=4 then C2 w F4 else if w.c.num=5 then C2 w F5 else if w.c.num=7 then C2 w F7 else if w.c.num=18 then Et w
     else if w.c.num=19 then(if w.c.a0<0∨65535<w.c.a0∨GX w.c=⟨#[]⟩then(w,22)else if w.c.a0=0 then(w,111)else(w,0))else if w.c.a1<0∨64<w.c.a1 then(w,22)else C2 w FK:=by
  have hb:decide (w.c.a1≠0)= !decide (w.c.a1=0):=by simp
  unfold Dt
  rw[hb,←hF0,←hF2,←hF3,←hF4,←hF5,←hF7,←hFK]
 clear hF0 hF2 hF3 hF4 hF5 hF7 hFK
 refine enter Tryz.func121 rfl rfl rfl rfl rfl 1 rfl ?_
 refine w_ (a_ (h:=e_ (?_)))
 refine B5 (fun S=>S=⟨look [(0, .bp 0 0),(3, .bp 1 0),(4, .v (.int .i64 w.p.pid)),(5, .bp 2 0)],⟨[WN w,At w.s.tab,CQ w.c],[]⟩⟩) ?_ ?_
 ·skip
  refine BH ([(0,WN w)]) 20 (h:=AN 0 (h:=B7 1 (h:=AF 2 (h:=AF 3 (h:=AJ 4 (h:=AN 5 (h:=B7 6 (h:=AF 7 (h:=AF 8 (h:=AJ 9 (h:=AN 10 (h:=B7 11 (h:=AF 12 (h:=AF 13 (h:=AJ 14 (h:=?_))))))))))))))))
  refine Da 15 16 rfl rfl ?_ ?_
  ·refine Bx (by repeat constructor) ?_
   refine o_ (h:=?_)
   refine c_ 16 rfl (Bx (by repeat constructor) ?_)
   refine o_ (h:=?_)
   refine B0 17 rfl (Aw rfl rfl rfl rfl rfl rfl (by repeat constructor) (by repeat constructor) ?_)
   refine o_ (h:=BC 18 (h:=?_))
   refine B0 19 rfl (Aw rfl rfl rfl rfl rfl rfl (by repeat constructor) (by repeat constructor) ?_)
   refine o_ (h:=z_ (h:=?_))
   refine AD ?_
   exact⟨_,rfl,Bc 3 0 (by simp[Ag,Ab,Ac,BD,WN,CQ,At,Av,Ai])⟩
  refine Bx (by repeat constructor) ?_
  refine o_ (h:=?_)
  refine c_ 15 rfl (Bx (by repeat constructor) ?_)
  refine o_ (h:=?_)
  refine B0 17 rfl (Aw rfl rfl rfl rfl rfl rfl (by repeat constructor) (by repeat constructor) ?_)
  refine o_ (h:=BC 18 (h:=?_))
  refine B0 19 rfl (Aw rfl rfl rfl rfl rfl rfl (by repeat constructor) (by repeat constructor) ?_)
  refine o_ (h:=z_ (h:=?_))
  refine AD ?_
  first|exact⟨_,rfl,Bc 3 0 (by simp[Ag,Ab,Ac,BD,WN,CQ,At,Av,Ai])⟩|exact⟨_,rfl,E4 [0,2,1] Vi (by decide) (.cons _ _ _ _ _ rfl rfl (.cons _ _ _ _ _ rfl rfl (.cons _ _ _ _ _ rfl rfl .nil))) (by repeat (first|exact SubK.nil|refine SubK.cons _ _ _ _ rfl (LeA.refl _) ?_))⟩
 rintro S rfl
 refine q_ (w_ (m_ (h:=k_ (h:=f_ (h:=f_ (h:=l_ (h:=e_ (Ao (w_ (AQ (h:=a_ (h:=e_ (?_)))))))))))))
 refine A8 rfl (fun hb1=>?_) (fun hb1=>?_)
 ·have hc1:=bp hb1
  have k0:w.c.num=0:=hc1
  refine w_ (l_ (h:=m_ (h:=?_)))
  refine A4 rfl (AK (q0) ?_)
  rintro r rfl
  refine m_ (h:=x_ (h:=x_ (h:=x_ (h:=AW (h:=s_ (h:=a_ (h:=a_ (h:=e_ (w_ (m_ (h:=m_ (h:=m_ (h:=m_ (h:=k_ (h:=f_ (h:=f_ (h:=s_ (h:=k_ (h:=f_ (h:=f_ (h:=s_ (h:=e_ (w_ (?_))))))))))))))))))))))))
  refine m_ (h:=l_ (h:=m_ (h:=?_)))
  refine A4 rfl (BV [0] rfl (.cons _ _ _ _ _ rfl (LeA.refl _) (.cons _ _ _ _ _ rfl (LeA.refl _) (.cons _ _ _ _ _ rfl (LeA.refl _) .nil))) (by decide) (.cons _ _ _ _ _ rfl rfl .nil) (KW (LP w F0.2.1) F0.1 F0.2.2) ?_)
  rintro r bc tc ⟨rfl,rfl,rfl⟩
  refine⟨rfl,_,Hp ((C2 (LP w F0.2.1) (F0.1,F0.2.2)).1),?_⟩
  refine a_ (h:=e_ (A6 (AR (A7 (?_)))))
  refine Aj (r:= .v (.int .i64 (Dt w).2)) none (h4:=(by simp[Ag,Ab,Ac,BD,WN,CQ,At,Av,Ai])) (h5:=(by rw[hot,if_pos k0,Ho];exact LeA.refl _)) (h6:=⟨rfl,rfl,?_⟩)
  rw[hot,if_pos k0]
  rfl
 have hc1:=bp hb1
 have k0:¬w.c.num=0:=hc1
 refine w_ (AQ (h:=a_ (h:=e_ (?_))))
 refine A8 rfl (fun hb2=>?_) (fun hb2=>?_)
 ·have hc2:=bp hb2
  have k1:w.c.num=2:=hc2
  refine w_ (m_ (h:=l_ (h:=m_ (h:=?_))))
  refine A4 rfl (AK (q2) ?_)
  rintro r rfl
  refine x_ (h:=x_ (h:=?_))
  refine A4 rfl (BV [0] rfl (.cons _ _ _ _ _ rfl (LeA.refl _) (.cons _ _ _ _ _ rfl (LeA.refl _) (.cons _ _ _ _ _ rfl (LeA.refl _) .nil))) (by decide) (.cons _ _ _ _ _ rfl rfl .nil) (KW w F2.1 F2.2) ?_)
  rintro r bc tc ⟨rfl,rfl,rfl⟩
  refine⟨rfl,_,Hp ((C2 w F2).1),?_⟩
  refine a_ (h:=e_ (A6 (AR (A7 (?_)))))
  refine Aj (r:= .v (.int .i64 (Dt w).2)) none (h4:=(by simp[Ag,Ab,Ac,BD,WN,CQ,At,Av,Ai])) (h5:=(by rw[hot,if_neg k0,if_pos k1,Ho];exact LeA.refl _)) (h6:=⟨rfl,rfl,?_⟩)
  rw[hot,if_neg k0,if_pos k1]
  rfl
 have hc2:=bp hb2
 have k1:¬w.c.num=2:=hc2
 refine w_ (AQ (h:=a_ (h:=e_ (?_))))
 refine A8 rfl (fun hb3=>?_) (fun hb3=>?_)
 ·have hc3:=bp hb3
  have k2:w.c.num=3:=hc3
  refine w_ (m_ (h:=l_ (h:=m_ (h:=?_))))
  refine A4 rfl (CE (len:=4) (sz:=1) (n:=0) (by kernel_rfl) rfl rfl rfl rfl ?_)
  refine l_ (h:=?_)
  refine A4 rfl (AK (q3) ?_)
  rintro r rfl
  refine x_ (h:=x_ (h:=?_))
  refine A4 rfl (BV [0] rfl (.cons _ _ _ _ _ rfl (LeA.refl _) (.cons _ _ _ _ _ rfl (LeA.refl _) (.cons _ _ _ _ _ rfl (LeA.refl _) .nil))) (by decide) (.cons _ _ _ _ _ rfl rfl .nil) (KW w F3.1 F3.2) ?_)
  rintro r bc tc ⟨rfl,rfl,rfl⟩
  refine⟨rfl,_,Hp ((C2 w F3).1),?_⟩
  refine a_ (h:=e_ (A6 (AR (A7 (?_)))))
  refine Aj (r:= .v (.int .i64 (Dt w).2)) none (h4:=(by simp[Ag,Ab,Ac,BD,WN,CQ,At,Av,Ai])) (h5:=(by rw[hot,if_neg k0,if_neg k1,if_pos k2,Ho];exact LeA.refl _)) (h6:=⟨rfl,rfl,?_⟩)
  rw[hot,if_neg k0,if_neg k1,if_pos k2]
  rfl
 have hc3:=bp hb3
 have k2:¬w.c.num=3:=hc3
 refine w_ (AQ (h:=a_ (h:=e_ (?_))))
 refine A8 rfl (fun hb4=>?_) (fun hb4=>?_)
 ·have hc4:=bp hb4
  have k3:w.c.num=4:=hc4
  refine w_ (m_ (h:=l_ (h:=m_ (h:=?_))))
  refine A4 rfl (CE (len:=4) (sz:=1) (n:=0) (by kernel_rfl) rfl rfl rfl rfl ?_)
  refine l_ (h:=?_)
  refine A4 rfl (AK (q4) ?_)
  rintro r rfl
  refine x_ (h:=x_ (h:=?_))
  refine A4 rfl (BV [0] rfl (.cons _ _ _ _ _ rfl (LeA.refl _) (.cons _ _ _ _ _ rfl (LeA.refl _) (.cons _ _ _ _ _ rfl (LeA.refl _) .nil))) (by decide) (.cons _ _ _ _ _ rfl rfl .nil) (KW w F4.1 F4.2) ?_)
  rintro r bc tc ⟨rfl,rfl,rfl⟩
  refine⟨rfl,_,Hp ((C2 w F4).1),?_⟩
  refine a_ (h:=e_ (A6 (AR (A7 (?_)))))
  refine Aj (r:= .v (.int .i64 (Dt w).2)) none (h4:=(by simp[Ag,Ab,Ac,BD,WN,CQ,At,Av,Ai])) (h5:=(by rw[hot,if_neg k0,if_neg k1,if_neg k2,if_pos k3,Ho];exact LeA.refl _)) (h6:=⟨rfl,rfl,?_⟩)
  rw[hot,if_neg k0,if_neg k1,if_neg k2,if_pos k3]
  rfl
 have hc4:=bp hb4
 have k3:¬w.c.num=4:=hc4
 refine w_ (AQ (h:=a_ (h:=e_ (?_))))
 refine A8 rfl (fun hb5=>?_) (fun hb5=>?_)
 ·have hc5:=bp hb5
  have k4:w.c.num=5:=hc5
  refine w_ (m_ (h:=l_ (h:=m_ (h:=?_))))
  refine A4 rfl (CE (len:=4) (sz:=1) (n:=0) (by kernel_rfl) rfl rfl rfl rfl ?_)
  refine l_ (h:=?_)
  refine A4 rfl (AK (q5) ?_)
  rintro r rfl
  refine x_ (h:=x_ (h:=?_))
  refine A4 rfl (BV [0] rfl (.cons _ _ _ _ _ rfl (LeA.refl _) (.cons _ _ _ _ _ rfl (LeA.refl _) (.cons _ _ _ _ _ rfl (LeA.refl _) .nil))) (by decide) (.cons _ _ _ _ _ rfl rfl .nil) (KW w F5.1 F5.2) ?_)
  rintro r bc tc ⟨rfl,rfl,rfl⟩
  refine⟨rfl,_,Hp ((C2 w F5).1),?_⟩
  refine a_ (h:=e_ (A6 (AR (A7 (?_)))))
  refine Aj (r:= .v (.int .i64 (Dt w).2)) none (h4:=(by simp[Ag,Ab,Ac,BD,WN,CQ,At,Av,Ai])) (h5:=(by rw[hot,if_neg k0,if_neg k1,if_neg k2,if_neg k3,if_pos k4,Ho];exact LeA.refl _)) (h6:=⟨rfl,rfl,?_⟩)
  rw[hot,if_neg k0,if_neg k1,if_neg k2,if_neg k3,if_pos k4]
  rfl
 have hc5:=bp hb5
 have k4:¬w.c.num=5:=hc5
 refine w_ (AQ (h:=a_ (h:=e_ (?_))))
 refine A8 rfl (fun hb6=>?_) (fun hb6=>?_)
 ·have hc6:=bp hb6
  have k5:w.c.num=7:=hc6
  refine w_ (m_ (h:=l_ (h:=m_ (h:=?_))))
  refine A4 rfl (CE (len:=4) (sz:=1) (n:=0) (by kernel_rfl) rfl rfl rfl rfl ?_)
  refine l_ (h:=?_)
  refine A4 rfl (AK (q7) ?_)
  rintro r rfl
  refine x_ (h:=x_ (h:=?_))
  refine A4 rfl (BV [0] rfl (.cons _ _ _ _ _ rfl (LeA.refl _) (.cons _ _ _ _ _ rfl (LeA.refl _) (.cons _ _ _ _ _ rfl (LeA.refl _) .nil))) (by decide) (.cons _ _ _ _ _ rfl rfl .nil) (KW w F7.1 F7.2) ?_)
  rintro r bc tc ⟨rfl,rfl,rfl⟩
  refine⟨rfl,_,Hp ((C2 w F7).1),?_⟩
  refine a_ (h:=e_ (A6 (AR (A7 (?_)))))
  refine Aj (r:= .v (.int .i64 (Dt w).2)) none (h4:=(by simp[Ag,Ab,Ac,BD,WN,CQ,At,Av,Ai])) (h5:=(by rw[hot,if_neg k0,if_neg k1,if_neg k2,if_neg k3,if_neg k4,if_pos k5,Ho];exact LeA.refl _)) (h6:=⟨rfl,rfl,?_⟩)
  rw[hot,if_neg k0,if_neg k1,if_neg k2,if_neg k3,if_neg k4,if_pos k5]
  rfl
 have hc6:=bp hb6
 have k5:¬w.c.num=7:=hc6
 refine w_ (AQ (h:=a_ (h:=e_ (?_))))
 refine A8 rfl (fun hb7=>?_) (fun hb7=>?_)
 ·have hc7:=bp hb7
  have k6:w.c.num=18:=hc7
  refine w_ (m_ (h:=?_))
  refine A4 rfl (BV [0] rfl (.cons _ _ _ _ _ rfl (LeA.refl _) .nil) (by decide) (.cons _ _ _ _ _ rfl rfl .nil) (gT w hs htb) ?_)
  rintro r bc tc ⟨rfl,rfl,rfl⟩
  refine⟨rfl,_,Hp ((Et w).1),?_⟩
  refine a_ (h:=e_ (A6 (AR (A7 (?_)))))
  refine Aj (r:= .v (.int .i64 (Dt w).2)) none (h4:=(by simp[Ag,Ab,Ac,BD,WN,CQ,At,Av,Ai])) (h5:=(by rw[hot,if_neg k0,if_neg k1,if_neg k2,if_neg k3,if_neg k4,if_neg k5,if_pos k6];exact LeA.refl _)) (h6:=⟨rfl,rfl,?_⟩)
  rw[hot,if_neg k0,if_neg k1,if_neg k2,if_neg k3,if_neg k4,if_neg k5,if_pos k6]
  rfl
 have hc7:=bp hb7
 have k6:¬w.c.num=18:=hc7
 refine w_ (AQ (h:=a_ (h:=e_ (?_))))
 refine A8 rfl (fun hb8=>?_) (fun hb8=>?_)
 ·have hc8:=bp hb8
  have k7:w.c.num=19:=hc8
  obtain⟨a0,ha0⟩:∃a,w.c.args[0]?=some a:=⟨_,B3 (h19 hc8)⟩
  have harg:(w.c.args.map D5)[0]?=some (D5 a0):=by rw[List.getElem?_map,ha0];rfl
  have hag:GX w.c=a0:=by unfold GX;rw[List.headD_eq_head?_getD,List.head?_eq_getElem?,ha0];rfl
  refine q_ (?_)
  refine B5 (fun S=>∃b:Bool,(b=true↔(w.c.a0<0∨65535<w.c.a0∨a0=⟨#[]⟩))∧S=⟨look [(0, .bp 0 0),(3, .bp 1 0),(4, .v (.int .i64 w.p.pid)),(5, .bp 2 0),(128, .v (.bool b))],⟨[WN w,At w.s.tab,CQ w.c],[]⟩⟩) ?_ ?_
  ·skip
   refine AP (?_)
   refine A4 rfl (CE (len:=4) (sz:=1) (n:=0) (by kernel_rfl) rfl rfl rfl rfl ?_)
   refine l_ (h:=BJ (h:=m_ (h:=?_)))
   refine Ax false rfl rfl (fun hb9=>?_) (fun hb9=>?_)
   ·have hc9:=bp hb9
    refine A3 (h:=A3 (h:=A3 (h:=Af (h:=m_ (h:=A3 (h:=A3 (h:=A3 (h:=A3 (h:=A3 (h:=A3 (h:=A3 (h:=A3 (h:=Af (h:=AO (?_)))))))))))))))
    refine AD ?_
    refine⟨_,⟨_,?_,rfl⟩,Bc 3 0 (by simp[Ag,Ab,Ac,BD,WN,CQ,At,Av,Ai])⟩
    (simp[*];done)
   have hc9:=bp hb9
   refine B6 (CE (len:=4) (sz:=1) (n:=0) (by kernel_rfl) rfl rfl rfl rfl ?_)
   refine l_ (h:=CZ (h:=Am (h:=m_ (h:=?_))))
   refine Ax false rfl rfl (fun hb10=>?_) (fun hb10=>?_)
   ·have hc10:=bp hb10
    refine A3 (h:=A3 (h:=A3 (h:=A3 (h:=A3 (h:=A3 (h:=A3 (h:=A3 (h:=Af (h:=AO (?_))))))))))
    refine AD ?_
    refine⟨_,⟨_,?_,rfl⟩,Bc 3 0 (by simp[Ag,Ab,Ac,BD,WN,CQ,At,Av,Ai])⟩
    (simp[*];done)
   have hc10:=bp hb10
   refine m_ (h:=k_ (h:=f_ (h:=f_ (h:=l_ (h:=?_)))))
   refine B6 (CS (n:=0) rfl rfl rfl harg ?_)
   refine l_ (h:=AQ (h:=Am (h:=AO (?_))))
   refine AD ?_
   refine⟨_,⟨_,?_,rfl⟩,Bc 3 0 (by simp[Ag,Ab,Ac,BD,WN,CQ,At,Av,Ai])⟩
   (simp[*];done)
  rintro S ⟨b20,hb20,rfl⟩
  refine A8 rfl (fun hb11=>?_) (fun hb11=>?_)
  ·have hc11:=bp hb11
   refine w_ (a_ (h:=e_ (A6 (A7 (AR (A7 (?_)))))))
   refine Aj (r:= .v (.int .i64 (Dt w).2)) none (h4:=(by simp[Ag,Ab,Ac,BD,WN,CQ,At,Av,Ai])) (h5:=(by rw[hot,if_neg k0,if_neg k1,if_neg k2,if_neg k3,if_neg k4,if_neg k5,if_neg k6,if_pos k7,if_pos (by rw[hag];exact hb20.1 ‹_›)];exact LeA.refl _)) (h6:=⟨rfl,rfl,?_⟩)
   rw[hot,if_neg k0,if_neg k1,if_neg k2,if_neg k3,if_neg k4,if_neg k5,if_neg k6,if_pos k7,if_pos (by rw[hag];exact hb20.1 ‹_›)]
   rfl
  have hc11:=bp hb11
  refine AG (q_ (w_ (?_)))
  refine A4 rfl (CE (len:=4) (sz:=1) (n:=0) (by kernel_rfl) rfl rfl rfl rfl ?_)
  refine l_ (h:=AQ (h:=e_ (?_)))
  refine A8 rfl (fun hb12=>?_) (fun hb12=>?_)
  ·have hc12:=bp hb12
   have k9:w.c.a0=0:=hc12
   refine w_ (a_ (h:=e_ (A6 (A7 (AR (A7 (?_)))))))
   refine Aj (r:= .v (.int .i64 (Dt w).2)) none (h4:=(by simp[Ag,Ab,Ac,BD,WN,CQ,At,Av,Ai])) (h5:=(by rw[hot,if_neg k0,if_neg k1,if_neg k2,if_neg k3,if_neg k4,if_neg k5,if_neg k6,if_pos k7,if_neg (by rw[hag];exact fun q=>absurd (hb20.2 q) (by simp[*])),if_pos k9];exact LeA.refl _)) (h6:=⟨rfl,rfl,?_⟩)
   rw[hot,if_neg k0,if_neg k1,if_neg k2,if_neg k3,if_neg k4,if_neg k5,if_neg k6,if_pos k7,if_neg (by rw[hag];exact fun q=>absurd (hb20.2 q) (by simp[*])),if_pos k9]
   rfl
  have hc12:=bp hb12
  have k9:¬w.c.a0=0:=hc12
  refine AG (w_ (a_ (h:=e_ (A6 (AR (A7 (?_)))))))
  refine Aj (r:= .v (.int .i64 (Dt w).2)) none (h4:=(by simp[Ag,Ab,Ac,BD,WN,CQ,At,Av,Ai])) (h5:=(by rw[hot,if_neg k0,if_neg k1,if_neg k2,if_neg k3,if_neg k4,if_neg k5,if_neg k6,if_pos k7,if_neg (by rw[hag];exact fun q=>absurd (hb20.2 q) (by simp[*])),if_neg k9];exact LeA.refl _)) (h6:=⟨rfl,rfl,?_⟩)
  rw[hot,if_neg k0,if_neg k1,if_neg k2,if_neg k3,if_neg k4,if_neg k5,if_neg k6,if_pos k7,if_neg (by rw[hag];exact fun q=>absurd (hb20.2 q) (by simp[*])),if_neg k9]
  rfl
 have hc8:=bp hb8
 have k7:¬w.c.num=19:=hc8
 refine BB (Ay (t_ (q_ (?_))))
 refine B5 (fun S=>∃b:Bool,(b=true↔(w.c.a1<0∨64<w.c.a1))∧S=⟨look [(0, .bp 0 0),(3, .bp 1 0),(4, .v (.int .i64 w.p.pid)),(5, .bp 2 0),(139, .v (.bool b))],⟨[WN w,At w.s.tab,CQ w.c],[]⟩⟩) ?_ ?_
 ·skip
  refine AP (?_)
  refine A4 rfl (CE (len:=4) (sz:=1) (n:=1) (by kernel_rfl) rfl rfl rfl rfl ?_)
  refine l_ (h:=BJ (h:=m_ (h:=?_)))
  refine Ax false rfl rfl (fun hb13=>?_) (fun hb13=>?_)
  ·have hc13:=bp hb13
   refine A3 (h:=A3 (h:=A3 (h:=Af (h:=AO (?_)))))
   refine AD ?_
   refine⟨_,⟨_,?_,rfl⟩,Bc 3 0 (by simp[Ag,Ab,Ac,BD,WN,CQ,At,Av,Ai])⟩
   (simp[*];done)
  have hc13:=bp hb13
  refine B6 (CE (len:=4) (sz:=1) (n:=1) (by kernel_rfl) rfl rfl rfl rfl ?_)
  refine l_ (h:=CZ (h:=Am (h:=AO (?_))))
  refine AD ?_
  refine⟨_,⟨_,?_,rfl⟩,Bc 3 0 (by simp[Ag,Ab,Ac,BD,WN,CQ,At,Av,Ai])⟩
  (simp[*];done)
 rintro S ⟨b25,hb25,rfl⟩
 refine A8 rfl (fun hb14=>?_) (fun hb14=>?_)
 ·have hc14:=bp hb14
  refine w_ (a_ (h:=e_ (A6 (A7 (?_)))))
  refine Aj (r:= .v (.int .i64 (Dt w).2)) none (h4:=(by simp[Ag,Ab,Ac,BD,WN,CQ,At,Av,Ai])) (h5:=(by rw[hot,if_neg k0,if_neg k1,if_neg k2,if_neg k3,if_neg k4,if_neg k5,if_neg k6,if_neg k7,if_pos (hb25.1 ‹_›)];exact LeA.refl _)) (h6:=⟨rfl,rfl,?_⟩)
  rw[hot,if_neg k0,if_neg k1,if_neg k2,if_neg k3,if_neg k4,if_neg k5,if_neg k6,if_neg k7,if_pos (hb25.1 ‹_›)]
  rfl
 have hc14:=bp hb14
 refine AG (w_ (m_ (h:=l_ (h:=m_ (h:=?_)))))
 refine A4 rfl (CE (len:=4) (sz:=1) (n:=0) (by kernel_rfl) rfl rfl rfl rfl ?_)
 refine l_ (h:=?_)
 refine A4 rfl (CE (len:=4) (sz:=1) (n:=1) (by kernel_rfl) rfl rfl rfl rfl ?_)
 refine l_ (h:=BF (h:=?_))
 refine A4 rfl (AK (qk) ?_)
 rintro r rfl
 refine x_ (h:=x_ (h:=?_))
 refine A4 rfl (BV [0] rfl (.cons _ _ _ _ _ rfl (LeA.refl _) (.cons _ _ _ _ _ rfl (LeA.refl _) (.cons _ _ _ _ _ rfl (LeA.refl _) .nil))) (by decide) (.cons _ _ _ _ _ rfl rfl .nil) (KW w FK.1 FK.2) ?_)
 rintro r bc tc ⟨rfl,rfl,rfl⟩
 refine⟨rfl,_,Hp ((C2 w FK).1),?_⟩
 refine a_ (h:=e_ (A6 (?_)))
 refine Aj (r:= .v (.int .i64 (Dt w).2)) none (h4:=(by simp[Ag,Ab,Ac,BD,WN,CQ,At,Av,Ai])) (h5:=(by rw[hot,if_neg k0,if_neg k1,if_neg k2,if_neg k3,if_neg k4,if_neg k5,if_neg k6,if_neg k7,if_neg (fun q=>absurd (hb25.2 q) (by simp[*])),Ho];exact LeA.refl _)) (h6:=⟨rfl,rfl,?_⟩)
 rw[hot,if_neg k0,if_neg k1,if_neg k2,if_neg k3,if_neg k4,if_neg k5,if_neg k6,if_neg k7,if_neg (fun q=>absurd (hb25.2 q) (by simp[*]))]
 rfl
theorem gV(w:Wrk)(e:Int)(hp:w.c.paths=[]):ACall Tryz.prog 66 [.bp 0 0, .v (.int .i64 e)] [WN w] (fun r b t=>t=[]∧r= .v (.int .i64 e)∧b=[WN w]):=by
 have hpl:w.c.paths.length=0:=by rw[hp];rfl
 refine enter Tryz.func66 rfl rfl rfl rfl rfl 1 rfl ?_
 refine w_ (a_ (h:=e_ (w_ (m_ (h:=k_ (h:=f_ (h:=l_ (h:=?_))))))))
 refine A4 rfl (AK (V8 w.c) ?_)
 rintro r rfl
 refine a_ (h:=e_ (q_ (w_ (a_ (h:=e_ (Ao (?_)))))))
 refine Ba (fun m S=>S=⟨look [(0, .bp 0 0),(1, .v (.int .i64 e)),(5, .sl 1 ((CB w.c).map C5) none),(6, .v (.int .i64 0))],⟨[WN w],[]⟩⟩) (0) (Bc 1 0 (by simp[Ag,Ab,Ac,BD,WN,CQ,At,Av,Ai])) (rfl) ?_
 rintro m S rfl
 refine q_ (w_ (m_ (h:=m_ (h:=k_ (h:=f_ (h:=f_ (h:=l_ (h:=n_ (h:=BJ (h:=e_ (?_)))))))))))
 refine A8 rfl (fun hb1=>?_) (fun hb1=>?_)
 ·have hc1:=bp hb1
  exfalso
  have h3:=hc1
  rw[List.length_map,hpl]at h3
  omega
 have hc1:=bp hb1
 refine BO (Aq (Aq (BQ (t_ (w_ (m_ (h:=a_ (h:=e_ (A6 (?_))))))))))
 refine Aj (r:= .v (.int .i64 e)) none (h4:=(by simp[Ag,Ab,Ac,BD,WN,CQ,At,Av,Ai])) (h5:=(LeA.refl _)) (h6:=⟨rfl,rfl,rfl⟩)
theorem gW(w:Wrk)(hs:SpcB w.s.spc)(htb:TabB w.s.tab)(htn:Cv w.s.tab)(h19:w.c.num=19→0<w.c.args.length)(hq:w.c.num≠1∧w.c.num≠6∧w.c.num≠8∧w.c.num≠9∧w.c.num≠10∧w.c.num≠11∧w.c.num≠12∧w.c.num≠13∧w.c.num≠14∧w.c.num≠15∧w.c.num≠16∧w.c.num≠17∧w.c.num≠21):ACall Tryz.prog 68 [.bp 0 0] [WN w] (fun r b t=>t=[]∧r= .v (.int .i64 (B9 w).2)∧b=[WN (B9 w).1]):=by
 have hact:B9 w=Dt w:=by
  unfold B9
  rw[if_neg (by omega),if_neg (by omega),if_neg (by omega),if_neg (by omega),if_neg (by omega),if_neg (by omega),if_neg (by omega)]
 refine enter Tryz.func68 rfl rfl rfl rfl rfl 1 rfl ?_
 refine w_ (a_ (h:=e_ (q_ (w_ (m_ (h:=k_ (h:=f_ (h:=f_ (h:=l_ (h:=e_ (Ao (w_ (AQ (h:=a_ (h:=e_ (?_))))))))))))))))
 refine A8 rfl (fun hb1=>?_) (fun hb1=>?_)
 ·have hc1:=bp hb1
  exfalso;first|contradiction|omega
 have hc1:=bp hb1
 refine w_ (AQ (h:=a_ (h:=e_ (?_))))
 refine A8 rfl (fun hb2=>?_) (fun hb2=>?_)
 ·have hc2:=bp hb2
  exfalso;first|contradiction|omega
 have hc2:=bp hb2
 refine q_ (w_ (AQ (h:=a_ (h:=e_ (?_)))))
 refine A8 rfl (fun hb3=>?_) (fun hb3=>?_)
 ·have hc3:=bp hb3
  exfalso;first|contradiction|omega
 have hc3:=bp hb3
 refine AP (AQ (h:=a_ (h:=e_ (?_))))
 refine A8 rfl (fun hb4=>?_) (fun hb4=>?_)
 ·have hc4:=bp hb4
  exfalso;first|contradiction|omega
 have hc4:=bp hb4
 refine w_ (AQ (h:=a_ (h:=e_ (?_))))
 refine A8 rfl (fun hb5=>?_) (fun hb5=>?_)
 ·have hc5:=bp hb5
  exfalso;first|contradiction|omega
 have hc5:=bp hb5
 refine q_ (w_ (AQ (h:=a_ (h:=e_ (?_)))))
 refine A8 rfl (fun hb6=>?_) (fun hb6=>?_)
 ·have hc6:=bp hb6
  exfalso;first|contradiction|omega
 have hc6:=bp hb6
 refine AP (AQ (h:=a_ (h:=e_ (?_))))
 refine A8 rfl (fun hb7=>?_) (fun hb7=>?_)
 ·have hc7:=bp hb7
  exfalso;first|contradiction|omega
 have hc7:=bp hb7
 refine q_ (w_ (AQ (h:=a_ (h:=e_ (?_)))))
 refine A8 rfl (fun hb8=>?_) (fun hb8=>?_)
 ·have hc8:=bp hb8
  exfalso;first|contradiction|omega
 have hc8:=bp hb8
 refine w_ (AQ (h:=a_ (h:=e_ (?_))))
 refine A8 rfl (fun hb9=>?_) (fun hb9=>?_)
 ·have hc9:=bp hb9
  exfalso;first|contradiction|omega
 have hc9:=bp hb9
 refine w_ (AQ (h:=a_ (h:=e_ (?_))))
 refine A8 rfl (fun hb10=>?_) (fun hb10=>?_)
 ·have hc10:=bp hb10
  exfalso;first|contradiction|omega
 have hc10:=bp hb10
 refine AP (AQ (h:=a_ (h:=e_ (?_))))
 refine A8 rfl (fun hb11=>?_) (fun hb11=>?_)
 ·have hc11:=bp hb11
  exfalso;first|contradiction|omega
 have hc11:=bp hb11
 refine q_ (w_ (AQ (h:=a_ (h:=e_ (?_)))))
 refine A8 rfl (fun hb12=>?_) (fun hb12=>?_)
 ·have hc12:=bp hb12
  exfalso;first|contradiction|omega
 have hc12:=bp hb12
 refine AP (AQ (h:=a_ (h:=e_ (?_))))
 refine A8 rfl (fun hb13=>?_) (fun hb13=>?_)
 ·have hc13:=bp hb13
  exfalso;first|contradiction|omega
 have hc13:=bp hb13
 refine BB (Ay (t_ (w_ (m_ (h:=?_)))))
 refine A4 rfl (BV [0] rfl (.cons _ _ _ _ _ rfl (LeA.refl _) .nil) (by decide) (.cons _ _ _ _ _ rfl rfl .nil) (gU w hs htb htn h19) ?_)
 rintro r bc tc ⟨rfl,rfl,rfl⟩
 refine⟨rfl,_,Hp ((Dt w).1),?_⟩
 refine a_ (h:=e_ (A6 (?_)))
 refine Aj (r:= .v (.int .i64 (B9 w).2)) none (h4:=(by simp[Ag,Ab,Ac,BD,WN,CQ,At,Av,Ai])) (h5:=(by rw[hact];exact LeA.refl _)) (h6:=⟨rfl,rfl,?_⟩)
 rw[hact]
 rfl
end
end Go.Proofs.YtbglbmnhgbgelaaGreatDoor
