/-
  Part 16 of the proof of RulesExecutedP: what the statement's proof uses of the texts in wip/tpl.
-/
import Derived.Test.YtbgnigjfkbmceaaGreatDoorQc15
open Go.Proofs.Tryz (prog)
set_option maxRecDepth 10000
set_option maxHeartbeats 4000000
set_option linter.unusedVariables false
set_option linter.unusedSimpArgs false
namespace Go.Proofs.YtbgnigjfkbmceaaGreatDoor
open Go.RowKit
def Cu(t:Tab):Prop:=0≤t.next∧0≤t.nextS
theorem dV{t:Tab}{pid:Int}{j:Nat}{x:Prc}{acc:List Prc}(hy:t.ps[j]?=some x)(ha:((t.ps.take j).filter fun p=>decide (p.pid≠pid)).map (Fs pid)=acc):((t.ps.take (j+1)).filter fun p=>decide (p.pid≠pid)).map (Fs pid)=if x.pid≠pid then acc++[Fs pid x]else acc:=by
 rw[List.take_add_one,hy,List.filter_append,List.map_append,ha];by_cases h:x.pid=pid<;>simp[h]
section
theorem Qv(n:Int):AFn prog 251 [.v (.int .i64 n)] (fun r=>r= .v (.bool (Gm n))):=by
 refine enter Tryz.func251 rfl rfl rfl rfl rfl 0 rfl ?_;refine w_ (a_ (h:=e_ (w_ (m_ (h:=Cw (h:=m_ (h:=?_)))))));refine AW true rfl rfl (fun hb1=>?_) (fun hb1=>?_)
 ·have hc1:=bp hb1;refine m_ (h:=BB (h:=AF (h:=a_ (h:=e_ (A4 (?_))))));refine A9 ?_
  first|(exfalso;first|contradiction|omega)|(exact vb (by simp[Gm, *]))
 have hc1:=bp hb1;refine A3 (h:=A3 (h:=AM (h:=a_ (h:=e_ (A4 (?_))))));refine A9 ?_
 first|(exfalso;first|contradiction|omega)|(exact vb (by simp[Gm, *]))
theorem VX(b:Bool)(x y n:Int):AFn prog 252 [.v (.bool b), .v (.int .i64 x), .v (.int .i64 y), .v (.int .i64 n)] (fun r=>r= .tup [.v (.int .i64 (Ds b x y n).1), .v (.int .i64 (Ds b x y n).2.1), .v (.int .i64 (Ds b x y n).2.2)]):=by
 refine enter Tryz.func252 rfl rfl rfl rfl rfl 0 rfl ?_;refine w_ (a_ (h:=a_ (h:=a_ (h:=e_ (q_ (w_ (m_ (h:=e_ (?_)))))))));refine A8 rfl (fun hb1=>?_) (fun hb1=>?_)
 ·have hc1:=bp hb1;refine w_ (m_ (h:=m_ (h:=a_ (h:=a_ (h:=a_ (h:=e_ (A4 (A6 (?_)))))))));refine A9 ?_
  first|(exfalso;first|contradiction|omega)|(unfold Ds;simp[*];rfl)
 have hc1:=bp hb1;refine AB (q_ (w_ (m_ (h:=m_ (h:=AD (h:=m_ (h:=?_)))))));refine AW false rfl rfl (fun hb2=>?_) (fun hb2=>?_)
 ·have hc2:=bp hb2;refine A3 (h:=A3 (h:=A3 (h:=AF (h:=e_ (B8 (h:=w_ (m_ (h:=m_ (h:=a_ (h:=a_ (h:=a_ (h:=e_ (A4 (A6 (?_)))))))))))))));refine A9 ?_
  first|(exfalso;first|contradiction|omega)|(unfold Ds;simp[*];rfl)
 have hc2:=bp hb2;refine m_ (h:=m_ (h:=AD (h:=AM (h:=e_ (?_)))));refine A8 rfl (fun hb3=>?_) (fun hb3=>?_)
 ·have hc3:=bp hb3;refine w_ (m_ (h:=m_ (h:=a_ (h:=a_ (h:=a_ (h:=e_ (A4 (A6 (?_)))))))));refine A9 ?_
  first|(exfalso;first|contradiction|omega)|(unfold Ds;simp[*];rfl)
 have hc3:=bp hb3;refine AB (w_ (a_ (h:=a_ (h:=a_ (h:=e_ (A4 (?_)))))));refine A9 ?_
 first|(exfalso;first|contradiction|omega)|(unfold Ds;simp[*];rfl)
theorem dW(t:Tab)(pid:Int)(a:AQ)(ht:TabB t):AFn prog 206 [.agg (As t), .v (.int .i64 pid), .agg (AN a)] (fun r=>r=CU (HB t pid a)):=by
 have h8:=G0 ht pid;refine enter Tryz.func206 rfl rfl rfl rfl rfl 0 rfl ?_;refine w_ (b_ (h:=b_ (h:=Al (h:=a_ (h:=e_ (w_ (l_ (h:=m_ (h:=?_)))))))));refine A7 rfl (AG (GM t pid ht) ?_);rintro r rfl;refine m_ (h:=x_ (h:=x_ (h:=Al (h:=s_ (h:=a_ (h:=e_ (q_ (w_ (m_ (h:=B9 (h:=e_ (?_))))))))))));refine A8 rfl (fun hb1=>?_) (fun hb1=>?_)
 ·have hc1:=bp hb1;have hno:C7 t pid=false:=by simpa using hc1
  refine w_ (Ak (h:=s_ (h:=a_ (h:=e_ (A4 (A6 (?_)))))));refine Ai (r:=CU (HB t pid a)) none (h5:=?_) (h6:=⟨rfl,rfl,rfl⟩);rw[HB,if_pos hno];exact EQ _
 have hc1:=bp hb1;have hhas:C7 t pid=true:=by simpa using hc1
 refine AB (w_ (l_ (h:=f_ (h:=s_ (h:=e_ (w_ (l_ (h:=l_ (h:=?_)))))))));refine A7 rfl (AG (KP t {AY t pid with cwd:=a} ht (Jq hhas) (by show(AY t pid).opens.length≤1000;omega)) ?_);rintro r rfl;refine s_ (h:=a_ (h:=e_ (A4 (?_))));refine A9 ?_;rw[HB,if_neg (by simp[hhas])];rfl
theorem dX(t:Tab)(pid:Int)(x y:AT)(ht:TabB t):AFn prog 205 [.agg (As t), .v (.int .i64 pid), .v (.string x), .v (.string y)] (fun r=>r=CU (HC t pid x y)):=by
 have h8:=G0 ht pid;refine enter Tryz.func205 rfl rfl rfl rfl rfl 0 rfl ?_;refine w_ (b_ (h:=Al (h:=a_ (h:=e_ (w_ (l_ (h:=m_ (h:=?_))))))));refine A7 rfl (AG (GM t pid ht) ?_);rintro r rfl;refine m_ (h:=x_ (h:=x_ (h:=Al (h:=s_ (h:=a_ (h:=e_ (q_ (w_ (m_ (h:=B9 (h:=e_ (?_))))))))))));refine A8 rfl (fun hb1=>?_) (fun hb1=>?_)
 ·have hc1:=bp hb1;have hno:C7 t pid=false:=by simpa using hc1
  refine w_ (Ak (h:=s_ (h:=a_ (h:=e_ (A4 (A6 (?_)))))));refine Ai (r:=CU (HC t pid x y)) none (h5:=?_) (h6:=⟨rfl,rfl,rfl⟩);rw[HC,if_pos hno];exact EQ _
 have hc1:=bp hb1;have hhas:C7 t pid=true:=by simpa using hc1
 refine AB (w_ (m_ (h:=m_ (h:=f_ (h:=s_ (h:=f_ (h:=s_ (h:=e_ (w_ (l_ (h:=l_ (h:=?_))))))))))));refine A7 rfl (AG (KP t {AY t pid with exe:=x,comm:=y} ht (Jq hhas) (by show(AY t pid).opens.length≤1000;omega)) ?_);rintro r rfl;refine s_ (h:=a_ (h:=e_ (A4 (?_))));refine A9 ?_;rw[HC,if_neg (by simp[hhas])];rfl
theorem dY(t:Tab)(pid u:Int)(ht:TabB t):AFn prog 209 [.agg (As t), .v (.int .i64 pid), .v (.int .i64 u)] (fun r=>r=CU (Fu t pid u)):=by
 have h8:=G0 ht pid;refine enter Tryz.func209 rfl rfl rfl rfl rfl 0 rfl ?_;refine w_ (b_ (h:=Al (h:=a_ (h:=e_ (w_ (l_ (h:=m_ (h:=?_))))))));refine A7 rfl (AG (GM t pid ht) ?_);rintro r rfl;refine m_ (h:=x_ (h:=x_ (h:=Al (h:=s_ (h:=a_ (h:=e_ (q_ (w_ (m_ (h:=B9 (h:=e_ (?_))))))))))));refine A8 rfl (fun hb1=>?_) (fun hb1=>?_)
 ·have hc1:=bp hb1;have hno:C7 t pid=false:=by simpa using hc1
  refine w_ (Ak (h:=s_ (h:=a_ (h:=e_ (A4 (A6 (?_)))))));refine Ai (r:=CU (Fu t pid u)) none (h5:=?_) (h6:=⟨rfl,rfl,rfl⟩);rw[Fu,if_pos hno];exact EQ _
 have hc1:=bp hb1;have hhas:C7 t pid=true:=by simpa using hc1
 refine AB (q_ (w_ (m_ (h:=?_))));refine A7 rfl (AG (Qv u) ?_);rintro r rfl;refine B9 (h:=e_ (?_));refine A8 rfl (fun hb2=>?_) (fun hb2=>?_)
 ·have hc2:=bp hb2;have hid:Gm u=false:=by simpa using hc2
  refine w_ (Ak (h:=s_ (h:=a_ (h:=e_ (A4 (A6 (?_)))))));refine Ai (r:=CU (Fu t pid u)) none (h5:=?_) (h6:=⟨rfl,rfl,rfl⟩);rw[Fu,if_neg (by simp[hhas]),if_pos hid];exact EQ _
 have hc2:=bp hb2;have hid:¬Gm u=false:=by simpa using hc2
 refine AB (w_ (a_ (h:=e_ (w_ (f_ (h:=l_ (h:=AD (h:=f_ (h:=l_ (h:=f_ (h:=l_ (h:=m_ (h:=?_)))))))))))));refine A7 rfl (AG (VX (decide ((AY t pid).euid=0)) (AY t pid).uid (AY t pid).euid u) ?_);rintro r rfl;refine m_ (h:=x_ (h:=x_ (h:=x_ (h:=f_ (h:=s_ (h:=f_ (h:=s_ (h:=a_ (h:=e_ (q_ (w_ (m_ (h:=Ap (h:=e_ (?_)))))))))))))));refine A8 rfl (fun hb3=>?_) (fun hb3=>?_)
 ·have hc3:=bp hb3;have hce:(Ds (decide ((AY t pid).euid=0)) (AY t pid).uid (AY t pid).euid u).2.2≠0:=by simpa using hc3
  refine w_ (Ak (h:=m_ (h:=s_ (h:=a_ (h:=e_ (A4 (A6 (?_))))))));refine Ai (r:=CU (Fu t pid u)) none (h5:=?_) (h6:=⟨rfl,rfl,rfl⟩);rw[Fu,if_neg (by simp[hhas]),if_neg hid,if_pos hce];exact EQ _
 have hc3:=bp hb3;have hce:¬(Ds (decide ((AY t pid).euid=0)) (AY t pid).uid (AY t pid).euid u).2.2≠0:=by simpa using hc3
 refine AB (w_ (l_ (h:=l_ (h:=?_))));refine A7 rfl (AG (KP t {AY t pid with uid:=(Ds (decide ((AY t pid).euid=0)) (AY t pid).uid (AY t pid).euid u).1,euid:=(Ds (decide ((AY t pid).euid=0)) (AY t pid).uid (AY t pid).euid u).2.1} ht (Jq hhas) (by show(AY t pid).opens.length≤1000;omega)) ?_);rintro r rfl;refine s_ (h:=a_ (h:=e_ (A4 (?_))));refine A9 ?_;rw[Fu,if_neg (by simp[hhas]),if_neg hid,if_neg hce];rfl
theorem dZ(t:Tab)(pid u:Int)(ht:TabB t):AFn prog 210 [.agg (As t), .v (.int .i64 pid), .v (.int .i64 u)] (fun r=>r=CU (Fv t pid u)):=by
 have h8:=G0 ht pid;refine enter Tryz.func210 rfl rfl rfl rfl rfl 0 rfl ?_;refine w_ (b_ (h:=Al (h:=a_ (h:=e_ (w_ (l_ (h:=m_ (h:=?_))))))));refine A7 rfl (AG (GM t pid ht) ?_);rintro r rfl;refine m_ (h:=x_ (h:=x_ (h:=Al (h:=s_ (h:=a_ (h:=e_ (q_ (w_ (m_ (h:=B9 (h:=e_ (?_))))))))))));refine A8 rfl (fun hb1=>?_) (fun hb1=>?_)
 ·have hc1:=bp hb1;have hno:C7 t pid=false:=by simpa using hc1
  refine w_ (Ak (h:=s_ (h:=a_ (h:=e_ (A4 (A6 (?_)))))));refine Ai (r:=CU (Fv t pid u)) none (h5:=?_) (h6:=⟨rfl,rfl,rfl⟩);rw[Fv,if_pos hno];exact EQ _
 have hc1:=bp hb1;have hhas:C7 t pid=true:=by simpa using hc1
 refine AB (q_ (w_ (m_ (h:=?_))));refine A7 rfl (AG (Qv u) ?_);rintro r rfl;refine B9 (h:=e_ (?_));refine A8 rfl (fun hb2=>?_) (fun hb2=>?_)
 ·have hc2:=bp hb2;have hid:Gm u=false:=by simpa using hc2
  refine w_ (Ak (h:=s_ (h:=a_ (h:=e_ (A4 (A6 (?_)))))));refine Ai (r:=CU (Fv t pid u)) none (h5:=?_) (h6:=⟨rfl,rfl,rfl⟩);rw[Fv,if_neg (by simp[hhas]),if_pos hid];exact EQ _
 have hc2:=bp hb2;have hid:¬Gm u=false:=by simpa using hc2
 refine AB (w_ (a_ (h:=e_ (w_ (f_ (h:=l_ (h:=AD (h:=f_ (h:=l_ (h:=f_ (h:=l_ (h:=m_ (h:=?_)))))))))))));refine A7 rfl (AG (VX (decide ((AY t pid).euid=0)) (AY t pid).gid (AY t pid).egid u) ?_);rintro r rfl;refine m_ (h:=x_ (h:=x_ (h:=x_ (h:=f_ (h:=s_ (h:=f_ (h:=s_ (h:=a_ (h:=e_ (q_ (w_ (m_ (h:=Ap (h:=e_ (?_)))))))))))))));refine A8 rfl (fun hb3=>?_) (fun hb3=>?_)
 ·have hc3:=bp hb3;have hce:(Ds (decide ((AY t pid).euid=0)) (AY t pid).gid (AY t pid).egid u).2.2≠0:=by simpa using hc3
  refine w_ (Ak (h:=m_ (h:=s_ (h:=a_ (h:=e_ (A4 (A6 (?_))))))));refine Ai (r:=CU (Fv t pid u)) none (h5:=?_) (h6:=⟨rfl,rfl,rfl⟩);rw[Fv,if_neg (by simp[hhas]),if_neg hid,if_pos hce];exact EQ _
 have hc3:=bp hb3;have hce:¬(Ds (decide ((AY t pid).euid=0)) (AY t pid).gid (AY t pid).egid u).2.2≠0:=by simpa using hc3
 refine AB (w_ (l_ (h:=l_ (h:=?_))));refine A7 rfl (AG (KP t {AY t pid with gid:=(Ds (decide ((AY t pid).euid=0)) (AY t pid).gid (AY t pid).egid u).1,egid:=(Ds (decide ((AY t pid).euid=0)) (AY t pid).gid (AY t pid).egid u).2.1} ht (Jq hhas) (by show(AY t pid).opens.length≤1000;omega)) ?_);rintro r rfl;refine s_ (h:=a_ (h:=e_ (A4 (?_))));refine A9 ?_;rw[Fv,if_neg (by simp[hhas]),if_neg hid,if_neg hce];rfl
theorem eA(t:Tab)(pid u:Int)(ht:TabB t)(hn:Cu t):AFn prog 211 [.agg (As t), .v (.int .i64 pid), .v (.int .i64 u)] (fun r=>r=CU (Ea t pid u)):=by
 have h8:=G0 ht pid;have hn1:=hn.2;have hn2:=ht.nextS;obtain⟨tp,htp⟩:∃x,x=Ff t {AY t pid with auid:=u,ses:=t.nextS}:=⟨_,rfl⟩;have e1:tp.nextS=t.nextS:=by rw[htp];rfl
 have hput:C7 t pid=true→AFn prog 250 [.agg (As t), .agg (Aq {AY t pid with auid:=u,ses:=t.nextS})] (fun r=>r= .agg (As tp)):=fun h=>by rw[htp];exact KP t _ ht (Jq h) (by show(AY t pid).opens.length≤1000;omega)
 refine enter Tryz.func211 rfl rfl rfl rfl rfl 0 rfl ?_;refine w_ (b_ (h:=Al (h:=a_ (h:=e_ (w_ (l_ (h:=m_ (h:=?_))))))));refine A7 rfl (AG (GM t pid ht) ?_);rintro r rfl;refine m_ (h:=x_ (h:=x_ (h:=Al (h:=s_ (h:=a_ (h:=e_ (q_ (w_ (m_ (h:=B9 (h:=e_ (?_))))))))))));refine A8 rfl (fun hb1=>?_) (fun hb1=>?_)
 ·have hc1:=bp hb1;have hno:C7 t pid=false:=by simpa using hc1
  refine w_ (Ak (h:=s_ (h:=a_ (h:=e_ (A4 (A6 (?_)))))));refine Ai (r:=CU (Ea t pid u)) none (h5:=?_) (h6:=⟨rfl,rfl,rfl⟩);rw[Ea,if_pos hno];exact EQ _
 have hc1:=bp hb1;have hhas:C7 t pid=true:=by simpa using hc1
 refine AB (q_ (w_ (m_ (h:=?_))));refine A7 rfl (AG (Qv u) ?_);rintro r rfl;refine B9 (h:=e_ (?_));refine A8 rfl (fun hb2=>?_) (fun hb2=>?_)
 ·have hc2:=bp hb2;have hid:Gm u=false:=by simpa using hc2
  refine w_ (Ak (h:=s_ (h:=a_ (h:=e_ (A4 (A6 (?_)))))));refine Ai (r:=CU (Ea t pid u)) none (h5:=?_) (h6:=⟨rfl,rfl,rfl⟩);rw[Ea,if_neg (by simp[hhas]),if_pos hid];exact EQ _
 have hc2:=bp hb2;have hid:¬Gm u=false:=by simpa using hc2
 refine AB (q_ (w_ (f_ (h:=l_ (h:=Ap (h:=m_ (h:=?_)))))));refine AW true rfl rfl (fun hb3=>?_) (fun hb3=>?_)
 ·have hc3:=bp hb3;refine f_ (h:=l_ (h:=Ap (h:=AF (h:=e_ (?_)))));refine A8 rfl (fun hb4=>?_) (fun hb4=>?_)
  ·have hc4:=bp hb4;refine w_ (Ak (h:=s_ (h:=a_ (h:=e_ (A4 (A6 (?_)))))));refine Ai (r:=CU (Ea t pid u)) none (h5:=?_) (h6:=⟨rfl,rfl,rfl⟩);rw[Ea,if_neg (by simp[hhas]),if_neg hid,if_pos (by first|assumption|omega)];exact EQ _
  have hc4:=bp hb4;refine AB (q_ (w_ (f_ (h:=l_ (h:=AD (h:=e_ (?_)))))));refine A8 rfl (fun hb5=>?_) (fun hb5=>?_)
  ·have hc5:=bp hb5;have hse:t.nextS=1073741824:=hc5;refine w_ (Ak (h:=s_ (h:=a_ (h:=e_ (A4 (A6 (?_)))))));refine Ai (r:=CU (Ea t pid u)) none (h5:=?_) (h6:=⟨rfl,rfl,rfl⟩);rw[Ea,if_neg (by simp[hhas]),if_neg hid,if_neg (by first|assumption|omega),if_pos hse];exact EQ _
  have hc5:=bp hb5;have hse:¬t.nextS=1073741824:=hc5;refine AB (q_ (Bf ([(0,As t),(1,CX)]) 7 (h:=AU 0 (h:=AO 1 (h:=AJ 2 (h:=AO 3 (h:=?_)))))));refine BH 4 rfl (BC rfl rfl rfl rfl rfl rfl (by repeat constructor) (by repeat constructor) ?_);refine o_ (h:=AO 5 (h:=?_));refine BH 6 rfl (BC rfl rfl rfl rfl rfl rfl (by repeat constructor) (by repeat constructor) ?_);refine o_ (h:=z_ (h:=t_ (w_ (l_ (h:=l_ (h:=?_))))));refine A7 rfl (AG (hput hhas) ?_);rintro r rfl;refine Al (h:=s_ (h:=e_ (w_ (f_ (h:=l_ (h:=BD (h:=f_ (h:=s_ (h:=e_ (w_ (l_ (h:=s_ (h:=a_ (h:=e_ (A4 (?_))))))))))))))));refine A9 ?_;rw[Ea,if_neg (by simp[hhas]),if_neg hid,if_neg (by first|assumption|omega),if_neg hse,←htp,←e1];exact congrArg (fun n=>AV.tup [.agg [.v (.int .i64 n), .v (.int .i64 (tp.nextS+1)), .sl 14 (tp.ps.map Aq) none], .v (.int .i64 0)]) (by rw[htp];rfl)
 have hc3:=bp hb3;refine A3 (h:=A3 (h:=A3 (h:=AM (h:=e_ (Bp (h:=AB (q_ (w_ (f_ (h:=l_ (h:=AD (h:=e_ (?_)))))))))))));refine A8 rfl (fun hb6=>?_) (fun hb6=>?_)
 ·have hc6:=bp hb6;have hse:t.nextS=1073741824:=hc6;refine w_ (Ak (h:=s_ (h:=a_ (h:=e_ (A4 (A6 (?_)))))));refine Ai (r:=CU (Ea t pid u)) none (h5:=?_) (h6:=⟨rfl,rfl,rfl⟩);rw[Ea,if_neg (by simp[hhas]),if_neg hid,if_neg (by first|assumption|omega),if_pos hse];exact EQ _
 have hc6:=bp hb6;have hse:¬t.nextS=1073741824:=hc6;refine AB (q_ (Bf ([(0,As t),(1,CX)]) 7 (h:=AU 0 (h:=AO 1 (h:=AJ 2 (h:=AO 3 (h:=?_)))))));refine BH 4 rfl (BC rfl rfl rfl rfl rfl rfl (by repeat constructor) (by repeat constructor) ?_);refine o_ (h:=AO 5 (h:=?_));refine BH 6 rfl (BC rfl rfl rfl rfl rfl rfl (by repeat constructor) (by repeat constructor) ?_);refine o_ (h:=z_ (h:=t_ (w_ (l_ (h:=l_ (h:=?_))))));refine A7 rfl (AG (hput hhas) ?_);rintro r rfl;refine Al (h:=s_ (h:=e_ (w_ (f_ (h:=l_ (h:=BD (h:=f_ (h:=s_ (h:=e_ (w_ (l_ (h:=s_ (h:=a_ (h:=e_ (A4 (?_))))))))))))))));refine A9 ?_;rw[Ea,if_neg (by simp[hhas]),if_neg hid,if_neg (by first|assumption|omega),if_neg hse,←htp,←e1];exact congrArg (fun n=>AV.tup [.agg [.v (.int .i64 n), .v (.int .i64 (tp.nextS+1)), .sl 14 (tp.ps.map Aq) none], .v (.int .i64 0)]) (by rw[htp];rfl)
theorem eB(t:Tab)(pid fd:Int)(ht:TabB t):AFn prog 212 [.agg (As t), .v (.int .i64 pid), .v (.int .i64 fd)] (fun r=>r=CU (Gp t pid fd)):=by
 have h8:=G0 ht pid;have hol:((AY t pid).opens.map Eu).length=(AY t pid).opens.length:=List.length_map _;refine enter Tryz.func212 rfl rfl rfl rfl rfl 0 rfl ?_;refine w_ (b_ (h:=Al (h:=a_ (h:=e_ (w_ (l_ (h:=m_ (h:=?_))))))));refine A7 rfl (AG (GM t pid ht) ?_);rintro r rfl;refine m_ (h:=x_ (h:=x_ (h:=Al (h:=s_ (h:=a_ (h:=e_ (q_ (w_ (m_ (h:=B9 (h:=e_ (?_))))))))))));refine A8 rfl (fun hb1=>?_) (fun hb1=>?_)
 ·have hc1:=bp hb1;have hno:C7 t pid=false:=by simpa using hc1
  refine w_ (Ak (h:=s_ (h:=a_ (h:=e_ (A4 (A6 (?_)))))));refine Ai (r:=CU (Gp t pid fd)) none (h5:=?_) (h6:=⟨rfl,rfl,rfl⟩);rw[Gp,if_pos hno];exact EQ _
 have hc1:=bp hb1;have hhas:C7 t pid=true:=by simpa using hc1
 refine AB (w_ (a_ (h:=e_ (q_ (w_ (a_ (h:=e_ (Ag (?_)))))))));refine Jv 10 291 4 rfl (by repeat constructor) ?_;refine Be (fun m s=>∃(j:Nat) (acc:List Dsc),j≤(AY t pid).opens.length∧m=(AY t pid).opens.length - j∧((AY t pid).opens.take j).filter (fun d=>decide (d.fd≠fd))=acc∧acc.length≤j∧s=⟨look [(2, .v (.int .i64 fd)),(3, .bp 0 0),(6, .bp 1 0),(8, .bp 2 0),(10, .sl 4 (acc.map Eu) (some 0)),(11, .v (.int .i64 (j:Int)))],⟨[As t,CX,Aq (AY t pid)],[(291,4,acc.map Eu)]⟩⟩) ((AY t pid).opens.length) ((wk 3 1)) (⟨0,[],BV _,rfl,rfl,BN _,rfl⟩) ?_;rintro m s ⟨j,acc,hj,rfl,hacc,hal,rfl⟩;refine q_ (w_ (m_ (h:=f_ (h:=l_ (h:=n_ (h:=BB (h:=e_ (?_))))))));refine A8 rfl (fun hb2=>?_) (fun hb2=>?_)
 ·have hc2:=bp hb2;obtain⟨hlt,x,hy,hrow, -⟩:=C1 Eu hc2;refine AB (q_ (Ag (w_ (f_ (h:=l_ (h:=m_ (h:=i_ (h:=f_ (h:=l_ (h:=m_ (h:=Ap (h:=e_ (?_)))))))))))));refine A8 rfl (fun hb3=>?_) (fun hb3=>?_)
  ·have hc3:=bp hb3;have hne:x.fd≠fd:=by simpa using hc3
   have hk:((AY t pid).opens.take (j+1)).filter (fun d=>decide (d.fd≠fd))=acc++[x]:=by rw[List.take_add_one,hy,List.filter_append,hacc];simp[hne]
   refine AR (m_ (h:=f_ (h:=l_ (h:=m_ (h:=i_ (h:=l_ (h:=Bd (h:=?_))))))))
   first|refine A7 rfl (Dx rfl rfl rfl (by simp;omega) (by repeat constructor) ?_)|refine A7 rfl (Dy rfl rfl (by simp;omega) (by repeat constructor) ?_)
   refine a_ (h:=AP (Ah (t_ (AR (m_ (h:=BD (h:=a_ (h:=AP (?_)))))))));refine AE ?_
   first|exact⟨(AY t pid).opens.length - (j+1),_,by omega,⟨j+1,acc++[x],by omega,rfl,hk,by simp;omega,rfl⟩,(by rw[List.map_append];exact Av 3 1 rfl rfl rfl rfl ((by repeat (first|exact Sub.nil|refine Ax rfl rfl ?_|refine B1 ?_|refine B2 rfl ?_|refine B3 rfl ?_))))⟩|exact⟨(AY t pid).opens.length - (j+1),_,by omega,⟨j+1,acc,by omega,rfl,hk,by omega,rfl⟩,Av 3 1 rfl rfl rfl rfl ((by repeat (first|exact Sub.nil|refine Ax rfl rfl ?_|refine B1 ?_|refine B2 rfl ?_|refine B3 rfl ?_)))⟩
  have hc3:=bp hb3;have hne:x.fd=fd:=by simpa using hc3
  have hk:((AY t pid).opens.take (j+1)).filter (fun d=>decide (d.fd≠fd))=acc:=by rw[List.take_add_one,hy,List.filter_append,hacc];simp[hne]
  refine Au (Ah (t_ (AR (m_ (h:=BD (h:=a_ (h:=AP (?_))))))));refine AE ?_
  first|exact⟨(AY t pid).opens.length - (j+1),_,by omega,⟨j+1,acc++[x],by omega,rfl,hk,by simp;omega,rfl⟩,(by rw[List.map_append];exact Av 3 1 rfl rfl rfl rfl ((by repeat (first|exact Sub.nil|refine Ax rfl rfl ?_|refine B1 ?_|refine B2 rfl ?_|refine B3 rfl ?_))))⟩|exact⟨(AY t pid).opens.length - (j+1),_,by omega,⟨j+1,acc,by omega,rfl,hk,by omega,rfl⟩,Av 3 1 rfl rfl rfl rfl ((by repeat (first|exact Sub.nil|refine Ax rfl rfl ?_|refine B1 ?_|refine B2 rfl ?_|refine B3 rfl ?_)))⟩
 have hc2:=bp hb2;have e:=CA Eu hj hc2;subst e;rw[List.take_length]at hacc;refine BT (Ao (Ao (BU (t_ (q_ (w_ (m_ (h:=n_ (h:=f_ (h:=l_ (h:=n_ (h:=AD (h:=e_ (?_))))))))))))));refine A8 rfl (fun hb4=>?_) (fun hb4=>?_)
 ·have hc4:=bp hb4;have hln:(((AY t pid).opens.filter fun d=>decide (d.fd≠fd)).length:Int)=((AY t pid).opens.length:Int):=by rw[hacc];simpa using hc4
  refine w_ (Ak (h:=s_ (h:=a_ (h:=e_ (A4 (A6 (?_)))))));refine Ai (r:=CU (Gp t pid fd)) none (h5:=?_) (h6:=⟨rfl,rfl,rfl⟩);rw[Gp,if_neg (by simp[hhas]),if_pos hln];exact EQ _
 have hc4:=bp hb4;have hln:¬(((AY t pid).opens.filter fun d=>decide (d.fd≠fd)).length:Int)=((AY t pid).opens.length:Int):=by rw[hacc];simpa using hc4
 refine AB (w_ (m_ (h:=f_ (h:=s_ (h:=e_ (w_ (l_ (h:=?_))))))));refine A7 rfl (FH (y:= .agg (Aq {AY t pid with opens:=(AY t pid).opens.filter fun d=>decide (d.fd≠fd)})) (GV rfl rfl rfl ⟨rfl,rfl⟩) (Uz _ _ _ _ (by rw[hacc])) ?_);refine A7 rfl (AG (KP t {AY t pid with opens:=(AY t pid).opens.filter fun d=>decide (d.fd≠fd)} ht (Jq hhas) (by have:=List.length_filter_le (fun d:Dsc=>decide (d.fd≠fd)) (AY t pid).opens;show((AY t pid).opens.filter _).length≤1000;omega)) ?_);rintro r rfl;refine s_ (h:=a_ (h:=e_ (A4 (?_))));refine A9 ?_;rw[Gp,if_neg (by simp[hhas]),if_neg hln];rfl
theorem VY(t:Tab)(pid:Int)(ht:TabB t):AFn prog 208 [.agg (As t), .v (.int .i64 pid)] (fun r=>r=CU (Ft t pid)):=by
 have hfew:=ht.few;refine enter Tryz.func208 rfl rfl rfl rfl rfl 0 rfl ?_;refine w_ (b_ (h:=Al (h:=a_ (h:=e_ (q_ (w_ (l_ (h:=m_ (h:=?_)))))))));refine A7 rfl (AG (GM t pid ht) ?_);rintro r rfl;refine m_ (h:=x_ (h:=x_ (h:=Al (h:=s_ (h:=a_ (h:=e_ (w_ (m_ (h:=B9 (h:=e_ (?_)))))))))));refine A8 rfl (fun hb1=>?_) (fun hb1=>?_)
 ·have hc1:=bp hb1;have hno:C7 t pid=false:=by simpa using hc1
  refine w_ (Ak (h:=s_ (h:=a_ (h:=e_ (A4 (A6 (?_)))))));refine Ai (r:=CU (Ft t pid)) none (h5:=?_) (h6:=⟨rfl,rfl,rfl⟩);rw[Ft,if_pos hno];exact EQ _
 have hc1:=bp hb1;have hhas:C7 t pid=true:=by simpa using hc1
 refine AB (q_ (w_ (m_ (h:=AD (h:=e_ (?_))))));refine A8 rfl (fun hb2=>?_) (fun hb2=>?_)
 ·have hc2:=bp hb2;have h1:pid=1:=hc2;refine w_ (Ak (h:=s_ (h:=a_ (h:=e_ (A4 (A6 (?_)))))));refine Ai (r:=CU (Ft t pid)) none (h5:=?_) (h6:=⟨rfl,rfl,rfl⟩);rw[Ft,if_neg (by simp[hhas]),if_pos h1];exact EQ _
 have hc2:=bp hb2;have h1:¬pid=1:=hc2;refine AB (w_ (f_ (h:=l_ (h:=f_ (h:=l_ (h:=Ak (h:=Al (h:=s_ (h:=e_ (q_ (w_ (a_ (h:=e_ (Ag (?_)))))))))))))));refine K4 3 2 29 14 rfl rfl (by repeat constructor) (by repeat constructor) (by repeat constructor) ?_;refine Be (fun m s=>∃(j:Nat) (acc:List Prc),j≤t.ps.length∧m=t.ps.length - j∧((t.ps.take j).filter fun p=>decide (p.pid≠pid)).map (Fs pid)=acc∧acc.length≤j∧s=⟨look [(1, .v (.int .i64 pid)),(2, .bp 0 0),(4, .bp 1 0),(8, .bp 3 0),(9, .v (.int .i64 (j:Int)))],⟨[As t,CX,Aq (AY t pid),Ct t (.sl 14 (acc.map Aq) (some 0))],[(29,14,acc.map Aq)]⟩⟩) (t.ps.length) ((wk 4 1)) (⟨0,[],BV _,rfl,rfl,BN _,rfl⟩) ?_;rintro m s ⟨j,acc,hj,rfl,hacc,hal,rfl⟩;refine q_ (w_ (m_ (h:=f_ (h:=l_ (h:=n_ (h:=BB (h:=e_ (?_))))))));refine A8 rfl (fun hb3=>?_) (fun hb3=>?_)
 ·have hc3:=bp hb3;obtain⟨hlt,x,hy,hrow, -⟩:=C1 Aq hc3;have hop:x.opens.length≤1000:=by have:=ht.opens x (Aw hy);omega
  have hk:=dV hy hacc;refine AB (q_ (Ag (w_ (f_ (h:=l_ (h:=m_ (h:=i_ (h:=l_ (h:=?_)))))))));refine A7 rfl (AG (MR x hop) ?_);rintro r rfl;refine Al (h:=s_ (h:=e_ (?_)));refine BR (fun s=>s=⟨look [(1, .v (.int .i64 pid)),(2, .bp 0 0),(4, .bp 1 0),(8, .bp 3 0),(9, .v (.int .i64 (j:Int))),(10, .bp 4 0)],⟨[As t,CX,Aq (AY t pid),Ct t (.sl 14 (acc.map Aq) (some 0)),Aq (Fs pid x)],[(29,14,acc.map Aq)]⟩⟩) ?_ ?_
  ·skip
   refine w_ (f_ (h:=l_ (h:=m_ (h:=AD (h:=e_ (?_))))));refine A8 rfl (fun hb4=>?_) (fun hb4=>?_)
   ·have hc4:=bp hb4;have hpp:x.ppid=pid:=hc4;refine AR (f_ (h:=s_ (h:=AP (?_))));refine AE ?_;refine⟨_,rfl,?_⟩;unfold Fs
    first|(rw[if_pos hpp];exact Av 5 1 rfl rfl rfl rfl ((by repeat (first|exact Sub.nil|refine Ax rfl rfl ?_|refine B1 ?_|refine B2 rfl ?_|refine B3 rfl ?_))))|(rw[if_neg hpp];exact Av 5 1 rfl rfl rfl rfl ((by repeat (first|exact Sub.nil|refine Ax rfl rfl ?_|refine B1 ?_|refine B2 rfl ?_|refine B3 rfl ?_))))
   have hc4:=bp hb4;have hpp:¬x.ppid=pid:=hc4;refine Au (?_);refine AE ?_;refine⟨_,rfl,?_⟩;unfold Fs
   first|(rw[if_pos hpp];exact Av 5 1 rfl rfl rfl rfl ((by repeat (first|exact Sub.nil|refine Ax rfl rfl ?_|refine B1 ?_|refine B2 rfl ?_|refine B3 rfl ?_))))|(rw[if_neg hpp];exact Av 5 1 rfl rfl rfl rfl ((by repeat (first|exact Sub.nil|refine Ax rfl rfl ?_|refine B1 ?_|refine B2 rfl ?_|refine B3 rfl ?_))))
  rintro s rfl;have hop2:(Fs pid x).pid=x.pid:=by unfold Fs;split<;>rfl
  refine w_ (f_ (h:=l_ (h:=m_ (h:=Ap (h:=e_ (?_))))));refine A8 rfl (fun hb5=>?_) (fun hb5=>?_)
  ·have hc5:=bp hb5;have hpe:x.pid≠pid:=by rw[←hop2];simpa using hc5
   rw[if_pos hpe]at hk;refine AR (f_ (h:=l_ (h:=l_ (h:=Bd (h:=?_)))))
   first|refine A7 rfl (Dx rfl rfl rfl (by simp;omega) (by repeat constructor) ?_)|refine A7 rfl (Dy rfl rfl (by simp;omega) (by repeat constructor) ?_)
   refine f_ (h:=s_ (h:=AP (Ah (t_ (AR (m_ (h:=BD (h:=a_ (h:=AP (?_))))))))));refine AE ?_
   first|exact⟨t.ps.length - (j+1),_,by omega,⟨j+1,acc++[Fs pid x],by omega,rfl,hk,by simp;omega,rfl⟩,(by rw[List.map_append];exact Av 4 1 rfl rfl rfl rfl ((by repeat (first|exact Sub.nil|refine Ax rfl rfl ?_|refine B1 ?_|refine B2 rfl ?_|refine B3 rfl ?_))))⟩|exact⟨t.ps.length - (j+1),_,by omega,⟨j+1,acc,by omega,rfl,hk,by omega,rfl⟩,Av 4 1 rfl rfl rfl rfl ((by repeat (first|exact Sub.nil|refine Ax rfl rfl ?_|refine B1 ?_|refine B2 rfl ?_|refine B3 rfl ?_)))⟩
  have hc5:=bp hb5;have hpe:¬x.pid≠pid:=by rw[←hop2];simpa using hc5
  rw[if_neg hpe]at hk;refine Au (Ah (t_ (AR (m_ (h:=BD (h:=a_ (h:=AP (?_))))))));refine AE ?_
  first|exact⟨t.ps.length - (j+1),_,by omega,⟨j+1,acc++[Fs pid x],by omega,rfl,hk,by simp;omega,rfl⟩,(by rw[List.map_append];exact Av 4 1 rfl rfl rfl rfl ((by repeat (first|exact Sub.nil|refine Ax rfl rfl ?_|refine B1 ?_|refine B2 rfl ?_|refine B3 rfl ?_))))⟩|exact⟨t.ps.length - (j+1),_,by omega,⟨j+1,acc,by omega,rfl,hk,by omega,rfl⟩,Av 4 1 rfl rfl rfl rfl ((by repeat (first|exact Sub.nil|refine Ax rfl rfl ?_|refine B1 ?_|refine B2 rfl ?_|refine B3 rfl ?_)))⟩
 have hc3:=bp hb3;have e:=CA Aq hj hc3;subst e;rw[List.take_length]at hacc;refine BT (Ao (Ao (BU (t_ (w_ (l_ (h:=s_ (h:=a_ (h:=e_ (A4 (?_)))))))))));refine Ai (r:=CU (Ft t pid)) none (h5:=?_) (h6:=⟨rfl,rfl,rfl⟩);rw[Ft,if_neg (by simp[hhas]),if_neg h1,hacc];exact LeA.tup (.cons (LeA.agg (.cons (AA _) (.cons (AA _) (.cons (LeA.tok _ _ _) .nil)))) (.cons (AA _) .nil))
theorem eC(t:Tab)(pid q:Int)(b:Bool)(ht:TabB t):AFn prog 214 [.agg (As t), .v (.int .i64 pid), .v (.int .i64 q), .v (.bool b)] (fun r=>r=CU (Fg t pid q b)):=by
 refine enter Tryz.func214 rfl rfl rfl rfl rfl 0 rfl ?_;refine w_ (b_ (h:=Al (h:=a_ (h:=e_ (w_ (l_ (h:=m_ (h:=?_))))))));refine A7 rfl (AG (GM t pid ht) ?_);rintro r rfl;refine m_ (h:=x_ (h:=x_ (h:=Al (h:=s_ (h:=a_ (h:=e_ (q_ (w_ (m_ (h:=B9 (h:=e_ (?_))))))))))));refine A8 rfl (fun hb1=>?_) (fun hb1=>?_)
 ·have hc1:=bp hb1;have hno:C7 t pid=false:=by simpa using hc1
  refine w_ (Ak (h:=s_ (h:=a_ (h:=e_ (A4 (A6 (?_)))))));refine Ai (r:=CU (Fg t pid q b)) none (h5:=?_) (h6:=⟨rfl,rfl,rfl⟩);rw[Fg,if_pos hno];exact EQ _
 have hc1:=bp hb1;have hhas:C7 t pid=true:=by simpa using hc1
 refine AB (w_ (l_ (h:=m_ (h:=?_))));refine A7 rfl (AG (GM t q ht) ?_);rintro r rfl;refine m_ (h:=x_ (h:=x_ (h:=Al (h:=s_ (h:=a_ (h:=e_ (q_ (w_ (m_ (h:=B9 (h:=e_ (?_))))))))))));refine A8 rfl (fun hb2=>?_) (fun hb2=>?_)
 ·have hc2:=bp hb2;have hno2:C7 t q=false:=by simpa using hc2
  refine w_ (Ak (h:=s_ (h:=a_ (h:=e_ (A4 (A6 (?_)))))));refine Ai (r:=CU (Fg t pid q b)) none (h5:=?_) (h6:=⟨rfl,rfl,rfl⟩);rw[Fg,if_neg (by simp[hhas]),if_pos hno2];exact EQ _
 have hc2:=bp hb2;have hhas2:C7 t q=true:=by simpa using hc2
 refine AB (q_ (?_));refine BR (fun S=>S=⟨look [(2, .v (.int .i64 q)),(3, .v (.bool b)),(4, .bp 0 0),(8, .bp 1 0),(44, .v (.bool (decide (q=1∨(AY t pid).euid≠0∧(AY t pid).euid≠(AY t q).uid))))],⟨[As t,CX],[]⟩⟩) ?_ ?_
 ·skip
  refine AR (m_ (h:=AD (h:=m_ (h:=?_))));refine AW false rfl rfl (fun hb3=>?_) (fun hb3=>?_)
  ·have hc3:=bp hb3;refine A3 (h:=A3 (h:=A3 (h:=A3 (h:=AX (h:=AX (h:=AX (h:=AX (h:=AX (h:=A3 (h:=AF (h:=AP (?_))))))))))));refine AE ?_;exact⟨_,rfl,CG 2 0 rfl⟩
  have hc3:=bp hb3;refine f_ (h:=l_ (h:=Ap (h:=m_ (h:=?_))));refine AW true rfl rfl (fun hb4=>?_) (fun hb4=>?_)
  ·have hc4:=bp hb4;refine f_ (h:=l_ (h:=f_ (h:=l_ (h:=Ap (h:=AF (h:=AM (h:=AP (?_))))))));refine AE ?_;exact⟨_,rfl,CG 2 0 rfl⟩
  have hc4:=bp hb4;refine A3 (h:=A3 (h:=A3 (h:=A3 (h:=A3 (h:=AM (h:=AM (h:=AP (?_))))))));refine AE ?_;exact⟨_,rfl,CG 2 0 rfl⟩
 rintro S rfl;refine A8 rfl (fun hb5=>?_) (fun hb5=>?_)
 ·have hc5:=bp hb5;refine w_ (Ak (h:=s_ (h:=a_ (h:=e_ (A4 (A6 (?_)))))));refine Ai (r:=CU (Fg t pid q b)) none (h5:=?_) (h6:=⟨rfl,rfl,rfl⟩);rw[Fg,if_neg (by simp[hhas]),if_neg (by simp[hhas2]),if_pos (by first|assumption|simpa using ‹_›)];exact EQ _
 have hc5:=bp hb5;refine AB (q_ (w_ (m_ (h:=e_ (?_)))));refine A8 rfl (fun hb6=>?_) (fun hb6=>?_)
 ·have hc6:=bp hb6;have hb:b=true:=hc6;refine w_ (l_ (h:=m_ (h:=?_)));refine A7 rfl (AG (VY t q ht) ?_);rintro r rfl;refine x_ (h:=x_ (h:=s_ (h:=a_ (h:=e_ (A4 (A6 (?_)))))));refine A9 ?_;rw[Fg,if_neg (by simp[hhas]),if_neg (by simp[hhas2]),if_neg (by first|assumption|simpa using ‹_›),if_pos hb];rfl
 have hc6:=bp hb6;have hb:¬b=true:=by simpa using hc6
 refine AB (w_ (l_ (h:=?_)));refine A7 rfl (AG (Ue t ht) ?_);rintro r rfl;refine s_ (h:=a_ (h:=e_ (A4 (?_))));refine A9 ?_;rw[Fg,if_neg (by simp[hhas]),if_neg (by simp[hhas2]),if_neg (by first|assumption|simpa using ‹_›),if_neg hb];rfl
theorem eD(t:Tab)(pid:Int)(ht:TabB t)(hn:Cu t):AFn prog 207 [.agg (As t), .v (.int .i64 pid)] (fun r=>r=JL (Er t pid)):=by
 have hfew:=ht.few;have hn1:=hn.1;have hn2:=ht.next;have hpl:(t.ps.map Aq).length=t.ps.length:=List.length_map _;obtain⟨p,hp⟩:∃p:Prc,p={AY t pid with pid:=t.next,ppid:=pid}:=⟨_,rfl⟩;have hlen:(t.ps++[p]).length=t.ps.length+1:=by simp
 obtain⟨tF,htF⟩:∃x:Tab,x=⟨t.next+1,t.nextS,t.ps++[p]⟩:=⟨_,rfl⟩;refine enter Tryz.func207 rfl rfl rfl rfl rfl 0 rfl ?_;refine w_ (b_ (h:=Al (h:=a_ (h:=a_ (h:=e_ (w_ (l_ (h:=m_ (h:=?_)))))))));refine A7 rfl (AG (GM t pid ht) ?_);rintro r rfl;refine m_ (h:=x_ (h:=x_ (h:=Al (h:=s_ (h:=a_ (h:=e_ (q_ (w_ (m_ (h:=B9 (h:=e_ (?_))))))))))));refine A8 rfl (fun hb1=>?_) (fun hb1=>?_)
 ·have hc1:=bp hb1;have hno:C7 t pid=false:=by simpa using hc1
  refine w_ (Ak (h:=s_ (h:=a_ (h:=a_ (h:=e_ (A4 (A6 (?_))))))));refine Ai (r:=JL (Er t pid)) none (h5:=?_) (h6:=⟨rfl,rfl,rfl⟩);rw[Er,if_pos hno];exact MU _ _
 have hc1:=bp hb1;have hhas:C7 t pid=true:=by simpa using hc1
 refine AB (q_ (w_ (f_ (h:=l_ (h:=n_ (h:=Cw (h:=m_ (h:=?_))))))));refine AW false rfl rfl (fun hb2=>?_) (fun hb2=>?_)
 ·have hc2:=bp hb2;refine A3 (h:=A3 (h:=A3 (h:=AF (h:=e_ (B8 (h:=w_ (Ak (h:=s_ (h:=a_ (h:=a_ (h:=e_ (A4 (A6 (?_))))))))))))));refine Ai (r:=JL (Er t pid)) none (h5:=?_) (h6:=⟨rfl,rfl,rfl⟩);rw[Er,if_neg (by simp[hhas]),if_pos (by first|assumption|omega)];exact MU _ _
 have hc2:=bp hb2;refine f_ (h:=l_ (h:=AD (h:=AM (h:=e_ (?_)))));refine A8 rfl (fun hb3=>?_) (fun hb3=>?_)
 ·have hc3:=bp hb3;refine w_ (Ak (h:=s_ (h:=a_ (h:=a_ (h:=e_ (A4 (A6 (?_))))))));refine Ai (r:=JL (Er t pid)) none (h5:=?_) (h6:=⟨rfl,rfl,rfl⟩);rw[Er,if_neg (by simp[hhas]),if_pos (by first|assumption|omega)];exact MU _ _
 have hc3:=bp hb3;refine AB (?_);refine BR (fun s=>s=⟨look [(2, .bp 0 0),(4, .bp 1 0),(7, .bp 2 0)],⟨[As t,CX,Aq p],[]⟩⟩) ?_ ?_
 ·skip
  refine AR (f_ (h:=l_ (h:=m_ (h:=f_ (h:=s_ (h:=f_ (h:=s_ (h:=AP (?_)))))))));refine AE ?_;rw[hp];exact⟨_,rfl,Av 3 0 rfl rfl rfl rfl ((by repeat (first|exact Sub.nil|refine Ax rfl rfl ?_|refine B1 ?_|refine B2 rfl ?_|refine B3 rfl ?_)))⟩
 rintro s rfl;refine BR (fun s=>∃cap,t.ps.length≤cap∧s=⟨look [(4, .bp 1 0),(7, .bp 2 0),(9, .bp 3 0)],⟨[As t,CX,Aq p,Ct t (.bs 4 0 14 t.ps.length cap),LB 14 Aq t.ps cap],[]⟩⟩) ?_ ?_
 ·skip
  refine AR (l_ (h:=?_));refine A7 rfl (Bk [] rfl (.cons _ _ _ _ _ rfl (AA _) .nil) (by decide) .nil (Uf t ht (Jq hhas)) ?_);rintro r bc tc ⟨rfl,cap,hcap,rfl,rfl⟩;refine⟨rfl,_,(Ud (n:=3) rfl t cap:Back _ [] _ [_,_,_,_,_,_,_]),?_⟩;refine Al (h:=s_ (h:=AP (?_)));refine AE ?_;exact⟨_,⟨cap,hcap,rfl⟩,DQ [0,1,2,7,6] (fun i hi=>absurd hi (Nat.not_lt_zero i)) (by decide) (.cons _ _ _ _ _ rfl rfl (.cons _ _ _ _ _ rfl rfl (.cons _ _ _ _ _ rfl rfl (.cons _ _ _ _ _ rfl rfl (.cons _ _ _ _ _ rfl (Fh D6 _ _ _) .nil))))) (by repeat (first|exact SubK.nil|refine SubK.cons _ _ _ _ rfl (AA _) ?_))⟩
 rintro s ⟨cap,hcp,rfl⟩;refine w_ (f_ (h:=l_ (h:=BD (h:=f_ (h:=s_ (h:=e_ (?_)))))));refine BR (fun s=>s=⟨look [(4, .bp 1 0),(7, .bp 2 0),(9, .bp 3 0)],⟨[As t,CX,Aq p,As tF],[]⟩⟩) ?_ ?_
 ·skip
  refine AR (f_ (h:=l_ (h:=l_ (h:=Bd (h:=?_)))));refine A7 rfl (Kh rfl rfl rfl (by rw[OD D6 hcp];omega) JD (by omega) (by omega) ?_ ?_)
  ·rintro hg row2 bx2 hs hb;obtain rfl:=Qc D6 hs hg;obtain rfl:bx2=[_,_,_,_,_]:=hb.one.2;have hcpx:(t.ps++[p]).length≤cap:=by simpa using hg
   refine f_ (h:=s_ (h:=AP (?_)));refine AE ?_;rw[htF];refine⟨_,rfl,?_⟩;rw[←hlen]
   first|exact ET 4 1 rfl (congrArg (fun x=>[As t,CX,Aq p,[.v (.int .i64 (t.next+1)), .v (.int .i64 t.nextS),x]]) (KO (l:=t.ps++[p]) D6 rfl rfl hcpx)) (.cons _ _ _ _ rfl (AA _) (.cons _ _ _ _ rfl (AA _) (.cons _ _ _ _ rfl (AA _) .nil)))|exact(DQ [0,1,2,3,5] (rows:=[As t,CX,Aq p,[.v (.int .i64 (t.next+1)), .v (.int .i64 t.nextS), .bs 4 0 14 (t.ps++[p]).length cap3],LB 14 Aq (t.ps++[p]) cap3]) (l:=[(4, .bp 1 0),(7, .bp 2 0),(9, .bp 3 0)]) (fun i hi=>absurd hi (Nat.not_lt_zero i)) (by decide) (.cons _ _ _ _ _ rfl rfl (.cons _ _ _ _ _ rfl rfl (.cons _ _ _ _ _ rfl rfl (.cons _ _ _ _ _ rfl rfl (.cons _ _ _ _ _ rfl (Fh D6 _ _ _) .nil))))) (by repeat (first|exact SubK.nil|refine SubK.cons _ _ _ _ rfl (AA _) ?_))).trans (ET 4 1 rfl (congrArg (fun x=>[As t,CX,Aq p,[.v (.int .i64 (t.next+1)), .v (.int .i64 t.nextS),x]]) (KO (l:=t.ps++[p]) D6 rfl rfl hcpx)) (.cons _ _ _ _ rfl (AA _) (.cons _ _ _ _ rfl (AA _) (.cons _ _ _ _ rfl (AA _) .nil))))
  rintro hg cap3 k bx2 hcp3 hs;rw[show((LB 14 Aq t.ps cap).drop 0).take (t.ps.length * 14)++CQ (.agg (Aq p))++List.replicate ((cap3 - (t.ps.length+1)) * 14) AV.any=LB 14 Aq (t.ps++[p]) cap3 from Qb D6 t.ps p cap cap3]at hs;obtain⟨rfl,rfl⟩:k=5∧bx2=[_,_,_,_,_,_]:=hs.eq;have hcpx:(t.ps++[p]).length≤cap3:=by simpa using hcp3
  refine f_ (h:=s_ (h:=AP (?_)));refine AE ?_;rw[htF];refine⟨_,rfl,?_⟩;rw[←hlen]
  first|exact ET 4 1 rfl (congrArg (fun x=>[As t,CX,Aq p,[.v (.int .i64 (t.next+1)), .v (.int .i64 t.nextS),x]]) (KO (l:=t.ps++[p]) D6 rfl rfl hcpx)) (.cons _ _ _ _ rfl (AA _) (.cons _ _ _ _ rfl (AA _) (.cons _ _ _ _ rfl (AA _) .nil)))|exact(DQ [0,1,2,3,5] (rows:=[As t,CX,Aq p,[.v (.int .i64 (t.next+1)), .v (.int .i64 t.nextS), .bs 4 0 14 (t.ps++[p]).length cap3],LB 14 Aq (t.ps++[p]) cap3]) (l:=[(4, .bp 1 0),(7, .bp 2 0),(9, .bp 3 0)]) (fun i hi=>absurd hi (Nat.not_lt_zero i)) (by decide) (.cons _ _ _ _ _ rfl rfl (.cons _ _ _ _ _ rfl rfl (.cons _ _ _ _ _ rfl rfl (.cons _ _ _ _ _ rfl rfl (.cons _ _ _ _ _ rfl (Fh D6 _ _ _) .nil))))) (by repeat (first|exact SubK.nil|refine SubK.cons _ _ _ _ rfl (AA _) ?_))).trans (ET 4 1 rfl (congrArg (fun x=>[As t,CX,Aq p,[.v (.int .i64 (t.next+1)), .v (.int .i64 t.nextS),x]]) (KO (l:=t.ps++[p]) D6 rfl rfl hcpx)) (.cons _ _ _ _ rfl (AA _) (.cons _ _ _ _ rfl (AA _) (.cons _ _ _ _ rfl (AA _) .nil))))
 rintro s rfl;refine q_ (Bf ([(0,As t),(2,Aq p),(3,As tF)]) 6 (h:=AJ 0 (h:=AO 1 (h:=AJ 2 (h:=?_)))));refine BH 3 rfl (BC rfl rfl rfl rfl rfl rfl (by repeat constructor) (by repeat constructor) ?_);refine o_ (h:=BO 4 (h:=BO 5 (h:=z_ (h:=t_ (A4 (?_))))));refine A9 ?_;rw[Er,if_neg (by simp[hhas]),if_neg (by first|assumption|omega),←hp,←htF];rw[hp];rfl
end
section
theorem OR(w:Wrk)(cap:Nat)(f:Fnd)(hv:SpcV w.s.spc)(hm:w.s.spc.mounts.length≤1000)(htb:TabB w.s.tab)(hf:w.found[0]?=some f):ACall prog 150 [.bp 0 0] [WA w cap,IB w cap] (fun r b t=>t=[]∧r= .v (.int .i64 (D5 w).2)∧b=[WA (D5 w).1 cap,IB (D5 w).1 cap]):=by
 have hsb:=hv.b hm;have hrow0:(w.found.map Ar)[0]?=some (Ar f):=by rw[List.getElem?_map,hf];rfl
 have hfn:B7 w 0=f:=by unfold B7;rw[hf];rfl
 have hre:D5 w=if f.ex=false then(w,2)else if w.c.num=1 then(if Ay w.s.spc.files f.file=true∨C5 w f.file 1=false then(w,13)else C6 w (HC w.s.tab w.p.pid f.path f.name))else if w.c.num=16 then(if Ay w.s.spc.files f.file=false then(w,20)else if C5 w f.file 1=false then(w,13)else C6 w (HB w.s.tab w.p.pid f.file))else if w.c.num=17 then(if Ay w.s.spc.files f.file=false then(w,20)else Hs w (DO w.s.spc w.c.a0 f.file))else if Ay w.s.spc.files f.file=true then(w,21)else if C5 w f.file 2=false then(w,13)else(w,0):=by
  unfold D5 Gr;rw[hfn]
 obtain⟨T1,hT1⟩:∃T,T=HC w.s.tab w.p.pid f.path f.name:=⟨_,rfl⟩;obtain⟨T2,hT2⟩:∃T,T=HB w.s.tab w.p.pid f.file:=⟨_,rfl⟩;obtain⟨R,hR⟩:∃R,R=DO w.s.spc w.c.a0 f.file:=⟨_,rfl⟩;have hexec:AFn prog 205 [.agg (As w.s.tab), .v (.int .i64 w.p.pid), .v (.string f.path), .v (.string f.name)] (fun r=>r=CU T1):=by rw[hT1];exact dX _ _ _ _ htb
 have hchd:AFn prog 206 [.agg (As w.s.tab), .v (.int .i64 w.p.pid), .agg (AN f.file)] (fun r=>r=CU T2):=by rw[hT2];exact dW _ _ _ htb
 have hadd:AFn prog 76 [.agg (BK w.s.spc), .v (.int .i64 w.c.a0), .agg (AN f.file)] (fun r=>r=FB R):=by rw[hR];exact Z3 _ _ _ hsb
 rw[←hT1,←hT2,←hR]at hre;clear hT1 hT2 hR;refine enter Tryz.func150 rfl rfl rfl rfl rfl 2 rfl ?_;refine w_ (a_ (h:=e_ (w_ (m_ (h:=k_ (h:=f_ (h:=l_ (h:=?_))))))));refine A7 rfl (Cl (n:=0) rfl rfl rfl hrow0 ?_);refine l_ (h:=Al (h:=s_ (h:=e_ (q_ (w_ (f_ (h:=l_ (h:=B9 (h:=e_ (?_))))))))));refine A8 rfl (fun hb1=>?_) (fun hb1=>?_)
 ·have hc1:=bp hb1;have k1:f.ex=false:=by simpa using hc1
  refine w_ (a_ (h:=e_ (A4 (A6 (?_)))));refine BZ (r:= .v (.int .i64 (D5 w).2)) none (h5:=(by rw[hre,if_pos k1];exact AA _)) (h6:=⟨rfl,rfl,?_⟩);rw[hre,if_pos k1];rfl
 have hc1:=bp hb1;have k1:¬f.ex=false:=by simpa using hc1
 refine AB (q_ (w_ (m_ (h:=k_ (h:=f_ (h:=f_ (h:=l_ (h:=e_ (Ag (w_ (AD (h:=a_ (h:=e_ (?_))))))))))))));refine A8 rfl (fun hb2=>?_) (fun hb2=>?_)
 ·have hc2:=bp hb2;have k2:w.c.num=1:=hc2;refine q_ (?_);refine BR (fun S=>S=⟨look [(0, .bp 0 0),(3, .bp 2 0),(30, .v (.bool (Ay w.s.spc.files f.file|| !C5 w f.file 1)))],⟨[WA w cap,IB w cap,Ar f],[]⟩⟩) ?_ ?_
  ·skip
   refine AR (m_ (h:=?_));refine A7 rfl (D3 1 rfl (.cons _ _ _ _ _ rfl (LeA.of_eq rfl) (.cons _ _ _ _ _ rfl (AA _) .nil)) (Js w .any 0 f hsb hf) ?_);rintro r rfl;refine⟨rfl,?_⟩;refine m_ (h:=?_);refine AW false rfl rfl (fun hb3=>?_) (fun hb3=>?_)
   ·have hc3:=bp hb3;refine A3 (h:=A3 (h:=A3 (h:=A3 (h:=A3 (h:=AF (h:=AP (?_)))))));refine AE ?_;exact⟨_,rfl,CG 3 0 (by simp[Af,Ac,Aa,Bm BA,BM,WA,IB,CH,Ar,Am,AN,As,BK,B0])⟩
   have hc3:=bp hb3;refine m_ (h:=f_ (h:=l_ (h:=?_)));refine B4 (D3 1 rfl (.cons _ _ _ _ _ rfl (LeA.of_eq rfl) (.cons _ _ _ _ _ rfl (AA _) (.cons _ _ _ _ _ rfl (AA _) .nil))) (HL w .any f.file 1 hsb) ?_);rintro r rfl;refine⟨rfl,?_⟩;refine B9 (h:=AM (h:=AP (?_)));refine AE ?_;exact⟨_,rfl,CG 3 0 (by simp[Af,Ac,Aa,Bm BA,BM,WA,IB,CH,Ar,Am,AN,As,BK,B0])⟩
  rintro S rfl;refine A8 rfl (fun hb4=>?_) (fun hb4=>?_)
  ·have hc4:=bp hb4;have k5:Ay w.s.spc.files f.file=true∨C5 w f.file 1=false:=by simpa using hc4
   refine w_ (a_ (h:=e_ (A4 (A6 (AK (A6 (?_)))))));refine BZ (r:= .v (.int .i64 (D5 w).2)) none (h5:=(by rw[hre,if_neg k1,if_pos k2,if_pos k5];exact AA _)) (h6:=⟨rfl,rfl,?_⟩);rw[hre,if_neg k1,if_pos k2,if_pos k5];rfl
  have hc4:=bp hb4;have k5:¬(Ay w.s.spc.files f.file=true∨C5 w f.file 1=false):=by simpa using hc4
  refine AB (q_ (Bf ([(0,WA w cap),(1,IB w cap),(2,Ar f)]) 18 (h:=AU 0 (h:=AU 1 (h:=BS 2 (h:=AO 3 (h:=AO 4 (h:=AJ 5 (h:=AU 6 (h:=BS 7 (h:=AO 8 (h:=AO 9 (h:=AJ 10 (h:=AO 11 (h:=AJ 12 (h:=AO 13 (h:=AJ 14 (h:=?_))))))))))))))))));refine c_ 15 rfl (AG (hexec) ?_);rintro r rfl;refine o_ (h:=BX 16 (h:=BX 17 (h:=?_)));refine c_ 18 rfl (Bk [0,1] rfl (.cons _ _ _ _ _ rfl (AA _) (.cons _ _ _ _ _ rfl (AA _) (.cons _ _ _ _ _ rfl (AA _) .nil))) (by decide) (.cons _ _ _ _ _ rfl rfl (.cons _ _ _ _ _ rfl (Cy BA _ _ _) .nil)) (Qm w cap T1.1 T1.2) ?_);rintro r bc tc ⟨rfl,rfl,rfl⟩;refine⟨rfl,_,DD rfl ((C6 w T1).1) cap,?_⟩;refine o_ (h:=?_);refine c_ 19 rfl (FY rfl ?_);refine o_ (h:=z_ (h:=t_ (A4 (AK (A6 (?_))))));refine BZ (r:= .v (.int .i64 (D5 w).2)) none (h5:=(by rw[hre,if_neg k1,if_pos k2,if_neg k5,Hu];exact AA _)) (h6:=⟨rfl,rfl,?_⟩);rw[hre,if_neg k1,if_pos k2,if_neg k5];rfl
 have hc2:=bp hb2;have k2:¬w.c.num=1:=hc2;refine w_ (AD (h:=a_ (h:=e_ (?_))));refine A8 rfl (fun hb5=>?_) (fun hb5=>?_)
 ·have hc5:=bp hb5;have k3:w.c.num=16:=hc5;refine q_ (w_ (m_ (h:=?_)));refine A7 rfl (D3 1 rfl (.cons _ _ _ _ _ rfl (LeA.of_eq rfl) (.cons _ _ _ _ _ rfl (AA _) .nil)) (Js w .any 0 f hsb hf) ?_);rintro r rfl;refine⟨rfl,?_⟩;refine B9 (h:=e_ (?_));refine A8 rfl (fun hb6=>?_) (fun hb6=>?_)
  ·have hc6:=bp hb6;have k5:Ay w.s.spc.files f.file=false:=by simpa using hc6
   refine w_ (a_ (h:=e_ (A4 (A6 (AK (A6 (?_)))))));refine BZ (r:= .v (.int .i64 (D5 w).2)) none (h5:=(by rw[hre,if_neg k1,if_neg k2,if_pos k3,if_pos k5];exact AA _)) (h6:=⟨rfl,rfl,?_⟩);rw[hre,if_neg k1,if_neg k2,if_pos k3,if_pos k5];rfl
  have hc6:=bp hb6;have k5:¬Ay w.s.spc.files f.file=false:=by simpa using hc6
  refine AB (q_ (w_ (m_ (h:=f_ (h:=l_ (h:=?_))))));refine A7 rfl (D3 1 rfl (.cons _ _ _ _ _ rfl (LeA.of_eq rfl) (.cons _ _ _ _ _ rfl (AA _) (.cons _ _ _ _ _ rfl (AA _) .nil))) (HL w .any f.file 1 hsb) ?_);rintro r rfl;refine⟨rfl,?_⟩;refine B9 (h:=e_ (?_));refine A8 rfl (fun hb7=>?_) (fun hb7=>?_)
  ·have hc7:=bp hb7;have k6:C5 w f.file 1=false:=by simpa using hc7
   refine w_ (a_ (h:=e_ (A4 (A6 (AK (A6 (?_)))))));refine BZ (r:= .v (.int .i64 (D5 w).2)) none (h5:=(by rw[hre,if_neg k1,if_neg k2,if_pos k3,if_neg k5,if_pos k6];exact AA _)) (h6:=⟨rfl,rfl,?_⟩);rw[hre,if_neg k1,if_neg k2,if_pos k3,if_neg k5,if_pos k6];rfl
  have hc7:=bp hb7;have k6:¬C5 w f.file 1=false:=by simpa using hc7
  refine AB (q_ (Bf ([(0,WA w cap),(1,IB w cap),(2,Ar f)]) 16 (h:=AU 0 (h:=AU 1 (h:=BS 2 (h:=AO 3 (h:=AO 4 (h:=AJ 5 (h:=AU 6 (h:=BS 7 (h:=AO 8 (h:=AO 9 (h:=AJ 10 (h:=AO 11 (h:=AJ 12 (h:=?_))))))))))))))));refine c_ 13 rfl (AG (hchd) ?_);rintro r rfl;refine o_ (h:=BX 14 (h:=BX 15 (h:=?_)));refine c_ 16 rfl (Bk [0,1] rfl (.cons _ _ _ _ _ rfl (AA _) (.cons _ _ _ _ _ rfl (AA _) (.cons _ _ _ _ _ rfl (AA _) .nil))) (by decide) (.cons _ _ _ _ _ rfl rfl (.cons _ _ _ _ _ rfl (Cy BA _ _ _) .nil)) (Qm w cap T2.1 T2.2) ?_);rintro r bc tc ⟨rfl,rfl,rfl⟩;refine⟨rfl,_,DD rfl ((C6 w T2).1) cap,?_⟩;refine o_ (h:=?_);refine c_ 17 rfl (FY rfl ?_);refine o_ (h:=z_ (h:=t_ (A4 (AK (A6 (?_))))));refine BZ (r:= .v (.int .i64 (D5 w).2)) none (h5:=(by rw[hre,if_neg k1,if_neg k2,if_pos k3,if_neg k5,if_neg k6,Hu];exact AA _)) (h6:=⟨rfl,rfl,?_⟩);rw[hre,if_neg k1,if_neg k2,if_pos k3,if_neg k5,if_neg k6];rfl
 have hc5:=bp hb5;have k3:¬w.c.num=16:=hc5;refine w_ (AD (h:=a_ (h:=e_ (?_))));refine A8 rfl (fun hb8=>?_) (fun hb8=>?_)
 ·have hc8:=bp hb8;have k4:w.c.num=17:=hc8;refine q_ (w_ (m_ (h:=?_)));refine A7 rfl (D3 1 rfl (.cons _ _ _ _ _ rfl (LeA.of_eq rfl) (.cons _ _ _ _ _ rfl (AA _) .nil)) (Js w .any 0 f hsb hf) ?_);rintro r rfl;refine⟨rfl,?_⟩;refine B9 (h:=e_ (?_));refine A8 rfl (fun hb9=>?_) (fun hb9=>?_)
  ·have hc9:=bp hb9;have k5:Ay w.s.spc.files f.file=false:=by simpa using hc9
   refine w_ (a_ (h:=e_ (A4 (A6 (AK (A6 (?_)))))));refine BZ (r:= .v (.int .i64 (D5 w).2)) none (h5:=(by rw[hre,if_neg k1,if_neg k2,if_neg k3,if_pos k4,if_pos k5];exact AA _)) (h6:=⟨rfl,rfl,?_⟩);rw[hre,if_neg k1,if_neg k2,if_neg k3,if_pos k4,if_pos k5];rfl
  have hc9:=bp hb9;have k5:¬Ay w.s.spc.files f.file=false:=by simpa using hc9
  refine AB (?_);refine BR (fun S=>S=⟨look [(0, .bp 0 0),(4, .bp 3 0),(5, .v (.int .i64 R.2))],⟨[WA w cap,IB w cap,Ar f,BK R.1],[]⟩⟩) ?_ ?_
  ·skip
   refine Bf ([(0,WA w cap),(1,IB w cap),(2,Ar f)]) 20 (h:=AU 0 (h:=BS 1 (h:=AO 2 (h:=AO 3 (h:=AJ 4 (h:=AU 5 (h:=BS 6 (h:=AO 7 (h:=AO 8 (h:=?_))))))))));refine BF 9 rfl (fun _ hS=>BW (len:=4) (sz:=1) (n:=0) (by kernel_rfl) rfl rfl rfl rfl ⟨rfl,rfl⟩) ?_;refine AJ 10 (h:=AO 11 (h:=AJ 12 (h:=?_)));refine F6 13 17 rfl rfl ?_ ?_
   ·refine AG (hadd) ?_;rintro r rfl;refine o_ (h:=?_);refine AU 14 (h:=BX 15 (h:=BX 16 (h:=?_)));refine c_ 17 rfl (CV (by repeat constructor) ?_);refine o_ (h:=?_);refine BH 18 rfl (BC rfl rfl rfl rfl rfl rfl (by repeat constructor) (by repeat constructor) ?_);refine o_ (h:=BO 19 (h:=z_ (h:=?_)));refine AE ?_;exact⟨_,rfl,C8 4 0⟩
   refine CV (by repeat constructor) ?_;refine o_ (h:=?_);refine c_ 13 rfl (AG (hadd) ?_);rintro r rfl;refine o_ (h:=AU 14 (h:=BX 15 (h:=BX 16 (h:=?_))));refine BH 18 rfl (BC rfl rfl rfl rfl rfl rfl (by repeat constructor) (by repeat constructor) ?_);refine o_ (h:=BO 19 (h:=z_ (h:=?_)));refine AE ?_;exact⟨_,rfl,C8 4 0⟩
  rintro S rfl;refine q_ (w_ (m_ (h:=AD (h:=e_ (?_)))));refine A8 rfl (fun hb10=>?_) (fun hb10=>?_)
  ·have hc10:=bp hb10;have h0:R.2=0:=hc10;refine AR (m_ (h:=l_ (h:=k_ (h:=f_ (h:=f_ (h:=s_ (h:=e_ (w_ (m_ (h:=a_ (h:=e_ (A4 (AK (A6 (?_)))))))))))))));refine BZ (r:= .v (.int .i64 (D5 w).2)) none (h5:=(by rw[hre,if_neg k1,if_neg k2,if_neg k3,if_pos k4,if_neg k5,Hs,if_pos h0];exact LeA.of_eq (vi h0))) (h6:=⟨rfl,rfl,?_⟩);rw[hre,if_neg k1,if_neg k2,if_neg k3,if_pos k4,if_neg k5,Hs,if_pos h0];rfl
  have hc10:=bp hb10;have h0:¬R.2=0:=hc10;refine AB (w_ (m_ (h:=a_ (h:=e_ (A4 (AK (A6 (?_))))))));refine BZ (r:= .v (.int .i64 (D5 w).2)) none (h5:=(by rw[hre,if_neg k1,if_neg k2,if_neg k3,if_pos k4,if_neg k5,Hs,if_neg h0];exact AA _)) (h6:=⟨rfl,rfl,?_⟩);rw[hre,if_neg k1,if_neg k2,if_neg k3,if_pos k4,if_neg k5,Hs,if_neg h0];rfl
 have hc8:=bp hb8;have k4:¬w.c.num=17:=hc8;refine Au (Ah (t_ (q_ (w_ (m_ (h:=?_))))));refine A7 rfl (D3 1 rfl (.cons _ _ _ _ _ rfl (LeA.of_eq rfl) (.cons _ _ _ _ _ rfl (AA _) .nil)) (Js w .any 0 f hsb hf) ?_);rintro r rfl;refine⟨rfl,?_⟩;refine e_ (?_);refine A8 rfl (fun hb11=>?_) (fun hb11=>?_)
 ·have hc11:=bp hb11;have k5:Ay w.s.spc.files f.file=true:=hc11;refine w_ (a_ (h:=e_ (A4 (A6 (?_)))));refine BZ (r:= .v (.int .i64 (D5 w).2)) none (h5:=(by rw[hre,if_neg k1,if_neg k2,if_neg k3,if_neg k4,if_pos k5];exact AA _)) (h6:=⟨rfl,rfl,?_⟩);rw[hre,if_neg k1,if_neg k2,if_neg k3,if_neg k4,if_pos k5];rfl
 have hc11:=bp hb11;have k5:¬Ay w.s.spc.files f.file=true:=by simpa using hc11
 refine AB (q_ (w_ (m_ (h:=f_ (h:=l_ (h:=?_))))));refine A7 rfl (D3 1 rfl (.cons _ _ _ _ _ rfl (LeA.of_eq rfl) (.cons _ _ _ _ _ rfl (AA _) (.cons _ _ _ _ _ rfl (AA _) .nil))) (HL w .any f.file 2 hsb) ?_);rintro r rfl;refine⟨rfl,?_⟩;refine B9 (h:=e_ (?_));refine A8 rfl (fun hb12=>?_) (fun hb12=>?_)
 ·have hc12:=bp hb12;have k6:C5 w f.file 2=false:=by simpa using hc12
  refine w_ (a_ (h:=e_ (A4 (A6 (?_)))));refine BZ (r:= .v (.int .i64 (D5 w).2)) none (h5:=(by rw[hre,if_neg k1,if_neg k2,if_neg k3,if_neg k4,if_neg k5,if_pos k6];exact AA _)) (h6:=⟨rfl,rfl,?_⟩);rw[hre,if_neg k1,if_neg k2,if_neg k3,if_neg k4,if_neg k5,if_pos k6];rfl
 have hc12:=bp hb12;have k6:¬C5 w f.file 2=false:=by simpa using hc12
 refine AB (w_ (a_ (h:=e_ (A4 (?_)))));refine BZ (r:= .v (.int .i64 (D5 w).2)) none (h5:=(by rw[hre,if_neg k1,if_neg k2,if_neg k3,if_neg k4,if_neg k5,if_neg k6];exact AA _)) (h6:=⟨rfl,rfl,?_⟩);rw[hre,if_neg k1,if_neg k2,if_neg k3,if_neg k4,if_neg k5,if_neg k6];rfl
theorem VZ(w:Wrk)(cap:Nat)(f:Fnd)(x:Itm)(hv:SpcV w.s.spc)(hm:w.s.spc.mounts.length≤1000)(hf:w.found[0]?=some f)(hx:w.r.items[0]?=some x)(hn:f.name.size≤100000)(h9:w.c.num=9→0<w.c.args.length)(hsz:∀p∈w.c.args,p.size≤1000):ACall prog 151 [.bp 0 0] [WA w cap,IB w cap] (fun r b t=>t=[]∧r= .v (.int .i64 (Ee w).2)∧b=[WA (Ee w).1 cap,IB (Ee w).1 cap]):=by
 have hsb:=hv.b hm;have hrow0:(w.found.map Ar)[0]?=some (Ar f):=by rw[List.getElem?_map,hf];rfl
 have hfn:B7 w 0=f:=by unfold B7;rw[hf];rfl
 have hpl:Ee w=if f.ex=true then(w,17)else if f.slash=true∧w.c.num=9 then(w,2)else if C5 w f.dir 2=false then(w,13)else if w.c.num=9 then CT w 0 (L7 (Gq w.c))else CT w 0 (MP w.c.a0):=by
  unfold Ee;rw[hfn]
 refine enter Tryz.func151 rfl rfl rfl rfl rfl 2 rfl ?_;refine w_ (a_ (h:=e_ (w_ (m_ (h:=k_ (h:=f_ (h:=l_ (h:=?_))))))));refine A7 rfl (Cl (n:=0) rfl rfl rfl hrow0 ?_);refine l_ (h:=Al (h:=s_ (h:=e_ (q_ (Ag (w_ (f_ (h:=l_ (h:=a_ (h:=e_ (?_)))))))))));refine A8 rfl (fun hb1=>?_) (fun hb1=>?_)
 ·have hc1:=bp hb1;have k1:f.ex=true:=hc1;refine w_ (a_ (h:=e_ (A4 (AK (A6 (?_))))));refine BZ (r:= .v (.int .i64 (Ee w).2)) none (h5:=(by rw[hpl,if_pos k1];exact AA _)) (h6:=⟨rfl,rfl,?_⟩);rw[hpl,if_pos k1];rfl
 have hc1:=bp hb1;have k1:¬f.ex=true:=by simpa using hc1
 refine BR (fun S=>S=⟨look [(0, .bp 0 0),(3, .bp 2 0),(13, .v (.bool (f.slash&&decide (w.c.num=9))))],⟨[WA w cap,IB w cap,Ar f],[]⟩⟩) ?_ ?_
 ·skip
  refine AR (f_ (h:=l_ (h:=m_ (h:=?_))));refine AW true rfl rfl (fun hb2=>?_) (fun hb2=>?_)
  ·have hc2:=bp hb2;refine m_ (h:=k_ (h:=f_ (h:=f_ (h:=l_ (h:=AD (h:=AF (h:=a_ (h:=AP (?_)))))))));refine AE ?_;exact⟨_,rfl,CG 3 0 (by simp[Af,Ac,Aa,Bm BA,BM,WA,IB,CH,Ar,Am,AN,As,BK,B0])⟩
  have hc2:=bp hb2;refine A3 (h:=A3 (h:=A3 (h:=A3 (h:=A3 (h:=A3 (h:=AM (h:=a_ (h:=AP (?_)))))))));refine AE ?_;exact⟨_,rfl,CG 3 0 (by simp[Af,Ac,Aa,Bm BA,BM,WA,IB,CH,Ar,Am,AN,As,BK,B0])⟩
 rintro S rfl;refine A8 rfl (fun hb3=>?_) (fun hb3=>?_)
 ·have hc3:=bp hb3;have k2:f.slash=true∧w.c.num=9:=by simpa using hc3
  refine w_ (a_ (h:=e_ (A4 (AK (A6 (?_))))));refine BZ (r:= .v (.int .i64 (Ee w).2)) none (h5:=(by rw[hpl,if_neg k1,if_pos k2];exact AA _)) (h6:=⟨rfl,rfl,?_⟩);rw[hpl,if_neg k1,if_pos k2];rfl
 have hc3:=bp hb3;have k2:¬(f.slash=true∧w.c.num=9):=by simpa using hc3
 refine w_ (m_ (h:=f_ (h:=l_ (h:=?_))));refine A7 rfl (D3 1 rfl (.cons _ _ _ _ _ rfl (LeA.of_eq rfl) (.cons _ _ _ _ _ rfl (AA _) (.cons _ _ _ _ _ rfl (AA _) .nil))) (HL w .any f.dir 2 hsb) ?_);rintro r rfl;refine⟨rfl,?_⟩;refine B9 (h:=a_ (h:=e_ (?_)));refine A8 rfl (fun hb4=>?_) (fun hb4=>?_)
 ·have hc4:=bp hb4;have k3:C5 w f.dir 2=false:=by simpa using hc4
  refine w_ (a_ (h:=e_ (A4 (AK (A6 (?_))))));refine BZ (r:= .v (.int .i64 (Ee w).2)) none (h5:=(by rw[hpl,if_neg k1,if_neg k2,if_pos k3];exact AA _)) (h6:=⟨rfl,rfl,?_⟩);rw[hpl,if_neg k1,if_neg k2,if_pos k3];rfl
 have hc4:=bp hb4;have k3:¬C5 w f.dir 2=false:=by simpa using hc4
 refine Au (Ah (t_ (q_ (w_ (m_ (h:=k_ (h:=f_ (h:=f_ (h:=l_ (h:=AD (h:=e_ (?_))))))))))));refine A8 rfl (fun hb5=>?_) (fun hb5=>?_)
 ·have hc5:=bp hb5;have k4:w.c.num=9:=hc5;obtain⟨a0,ha0⟩:∃a,w.c.args[0]?=some a:=⟨_,BJ (h9 hc5)⟩;have harg:(w.c.args.map Cj)[0]?=some (Cj a0):=by rw[List.getElem?_map,ha0];rfl
  have hag:Gq w.c=a0:=by unfold Gq;rw[List.headD_eq_head?_getD,List.head?_eq_getElem?,ha0];rfl
  have hsa:(L7 a0).target.size≤100000:=by have:=hsz a0 (Aw ha0);show a0.size≤100000;omega
  refine w_ (m_ (h:=m_ (h:=k_ (h:=f_ (h:=f_ (h:=l_ (h:=?_)))))));refine A7 rfl (Cl (n:=0) rfl rfl rfl harg ?_);refine l_ (h:=?_);refine A7 rfl (FJ (y:= .agg (Am (L7 a0))) (D8 ⟨rfl,rfl⟩) ?_);refine A7 rfl (Bk [0,1] rfl (.cons _ _ _ _ _ rfl (AA _) (.cons _ _ _ _ _ rfl (AA _) (.cons _ _ _ _ _ rfl (AA _) .nil))) (by decide) (.cons _ _ _ _ _ rfl rfl (.cons _ _ _ _ _ rfl (Cy BA _ _ _) .nil)) (Qo w cap 0 (L7 a0) f x hv.files hf hx hn hsa rfl) ?_);rintro r bc tc ⟨rfl,rfl,rfl⟩;refine⟨rfl,_,DD rfl ((CT w 0 (L7 a0)).1) cap,?_⟩;refine a_ (h:=e_ (A4 (A6 (?_))));refine BZ (r:= .v (.int .i64 (Ee w).2)) none (h5:=(by rw[hpl,if_neg k1,if_neg k2,if_neg k3,if_pos k4,hag];exact AA _)) (h6:=⟨rfl,rfl,?_⟩);rw[hpl,if_neg k1,if_neg k2,if_neg k3,if_pos k4,hag];rfl
 have hc5:=bp hb5;have k4:¬w.c.num=9:=hc5;refine AB (w_ (m_ (h:=m_ (h:=k_ (h:=f_ (h:=f_ (h:=?_)))))));refine A7 rfl (BW (len:=4) (sz:=1) (n:=0) (by kernel_rfl) rfl rfl rfl rfl ?_);refine l_ (h:=?_);refine A7 rfl (FJ (y:= .agg (Am (MP w.c.a0))) (D8 ⟨rfl,rfl⟩) ?_);refine A7 rfl (Bk [0,1] rfl (.cons _ _ _ _ _ rfl (AA _) (.cons _ _ _ _ _ rfl (AA _) (.cons _ _ _ _ _ rfl (AA _) .nil))) (by decide) (.cons _ _ _ _ _ rfl rfl (.cons _ _ _ _ _ rfl (Cy BA _ _ _) .nil)) (Qo w cap 0 (MP w.c.a0) f x hv.files hf hx hn (BV _) rfl) ?_);rintro r bc tc ⟨rfl,rfl,rfl⟩;refine⟨rfl,_,DD rfl ((CT w 0 (MP w.c.a0)).1) cap,?_⟩;refine a_ (h:=e_ (A4 (?_)));refine BZ (r:= .v (.int .i64 (Ee w).2)) none (h5:=(by rw[hpl,if_neg k1,if_neg k2,if_neg k3,if_neg k4];exact AA _)) (h6:=⟨rfl,rfl,?_⟩);rw[hpl,if_neg k1,if_neg k2,if_neg k3,if_neg k4];rfl
end
section
variable {P:Program}{ev:Operand→Option AV}{h:AH}{R:AV→AH→Prop}{d:Option Tmp}{ty:TypeId}{pos:String}{af:Array Edge}{gd:Option (Nat×Bool)}
theorem eE{T:TypeId}{s y:Operand}{T' sz bytes:Nat}[hE:Elm P T T' sz bytes](hs:ev s=some (.v (.slice none 0 0)))(hy:ev y=some (.v (.slice none 0 0)))(hR:R (.v (.slice none 0 0)) h):AStep P ⟨d, .call {callee:= .builtin .append,args:=#[s,y],argTypes:=#[T,T]},ty,pos,af,gd⟩ ev h R:=by
 intro E G w ec hr he;have k1:=he s (by simp[Op.operands,Call.operands]) _ hs;have k2:=he y (by simp[Op.operands,Call.operands]) _ hy;obtain⟨hu,inf,z,hinf,hz,hzs,hsz,hbts,hp⟩:=FG hE.eq;simp only[rep]at k1 k2
 have hrun:(Builtin.append_ #[T,T] ty #[.slice none 0 0, .slice none 0 0]).run P w= .ok (.slice none 0 0) w:=by
  simp[Builtin.append_,run_underlying hu,sizeOf,typeInfo,hinf,Builtin.lenOf,Builtin.firstCells,storeCells]
 simp only[execOp,resolve,invoke,builtin,Sem.run_bind,Sem.run_pure,Result.andThen_ok,List.map_toArray,List.map_cons,List.map_nil,k1,k2,hrun];exact⟨_,_,G,hR,hr,Ext.refl _ _,by simp only[rep]⟩
end
def WN(w:Wrk):List AV:=Cx w (.v (.slice none 0 0)) (.v (.slice none 0 0))
theorem Hy{a:List AV}{rest:List (List AV)}(w:Wrk):Back (a::rest) [0] [WN w] (WN w::rest):=by
 have:=MQ (bx:=a::rest) (is:=[0]) (bc:=[WN w]) (by simp) (by simp) (by simp);have e1:DF (Db [0] (a::rest).length) (WN w)=WN w:=rfl
 have hb:D7 (a::rest) (Db [0] (a::rest).length) [0] [WN w]=WN w::rest:=by
  unfold D7;rw[e1];simp[D7]
 rw[hb]at this;exact this
def CN(c:Cal):List AV:=[.v (.int .i64 c.a0), .v (.int .i64 c.a1), .v (.int .i64 c.a2), .v (.int .i64 c.a3)]
theorem eF{t:Tab}{dev:Int}(h:∀i y,i<t.ps.length→t.ps[i]?=some y→(decide (y.cwd.1=dev)||y.opens.any fun d=>decide (d.file.1=dev))=false):L8 t dev=false:=Kn h
section
theorem KT(w:Wrk)(t:Tab)(e:Int):ACall prog 200 [.bp 0 0, .agg (As t), .v (.int .i64 e)] [WN w] (fun r b tk=>tk=[]∧r= .v (.int .i64 e)∧b=[WN (C6 w (t,e)).1]):=by
 refine enter Tryz.func200 rfl rfl rfl rfl rfl 1 rfl ?_;refine w_ (b_ (h:=a_ (h:=e_ (q_ (w_ (m_ (h:=AD (h:=e_ (?_)))))))));refine A8 rfl (fun hb1=>?_) (fun hb1=>?_)
 ·have hc1:=bp hb1;refine AR (m_ (h:=l_ (h:=k_ (h:=f_ (h:=f_ (h:=s_ (h:=e_ (w_ (m_ (h:=a_ (h:=e_ (A4 (?_)))))))))))));refine Ai (r:= .v (.int .i64 e)) none (h4:=(by simp[Af,Ac,Aa,BM,WN,CN,As,Aq,BK])) (h5:=(AA _)) (h6:=⟨rfl,rfl,?_⟩);rw[C6,if_pos hc1];rfl
 have hc1:=bp hb1;refine AB (w_ (m_ (h:=a_ (h:=e_ (A4 (?_))))));refine Ai (r:= .v (.int .i64 e)) none (h4:=(by simp[Af,Ac,Aa,BM,WN,CN,As,Aq,BK])) (h5:=(AA _)) (h6:=⟨rfl,rfl,?_⟩);rw[C6,if_neg hc1];rfl
theorem eG(w:Wrk)(hs:SpcB w.s.spc)(htb:TabB w.s.tab):ACall prog 213 [.bp 0 0] [WN w] (fun r b t=>t=[]∧r= .v (.int .i64 (FE w).2)∧b=[WN (FE w).1]):=by
 have hfew:=htb.few;obtain⟨R,hR⟩:∃R,R=FS w.s.spc w.c.a0:=⟨_,rfl⟩;have hrem:AFn prog 253 [.agg (BK w.s.spc), .v (.int .i64 w.c.a0)] (fun r=>r=FB R):=by rw[hR];exact Z4 _ _ hs
 have hum:FE w=if w.p.euid≠0 then(w,1)else if w.c.a0=0∨Co w.s.spc w.c.a0=false then(w,22)else if L8 w.s.tab w.c.a0=true then(w,16)else Ht w R:=by
  unfold FE;rw[←hR]
 clear hR;refine enter Tryz.func213 rfl rfl rfl rfl rfl 1 rfl ?_;refine w_ (a_ (h:=e_ (w_ (m_ (h:=k_ (h:=f_ (h:=f_ (h:=?_))))))));refine A7 rfl (BW (len:=4) (sz:=1) (n:=0) (by kernel_rfl) rfl rfl rfl rfl ?_);refine l_ (h:=a_ (h:=e_ (q_ (w_ (m_ (h:=k_ (h:=f_ (h:=f_ (h:=l_ (h:=Ap (h:=e_ (?_))))))))))));refine A8 rfl (fun hb1=>?_) (fun hb1=>?_)
 ·have hc1:=bp hb1;have k1:w.p.euid≠0:=by simpa using hc1
  refine w_ (a_ (h:=e_ (A4 (A6 (?_)))));refine Ai (r:= .v (.int .i64 (FE w).2)) none (h4:=(by simp[Af,Ac,Aa,BM,WN,CN,As,Aq,BK])) (h5:=(by rw[hum,if_pos k1];exact AA _)) (h6:=⟨rfl,rfl,?_⟩);rw[hum,if_pos k1];rfl
 have hc1:=bp hb1;have k1:¬w.p.euid≠0:=by simpa using hc1
 refine AB (q_ (?_));refine BR (fun S=>S=⟨look [(0, .bp 0 0),(3, .v (.int .i64 w.c.a0)),(32, .v (.bool (decide (w.c.a0=0)|| !Co w.s.spc w.c.a0)))],⟨[WN w],[]⟩⟩) ?_ ?_
 ·skip
  refine AR (m_ (h:=AD (h:=m_ (h:=?_))));refine AW false rfl rfl (fun hb2=>?_) (fun hb2=>?_)
  ·have hc2:=bp hb2;refine A3 (h:=A3 (h:=A3 (h:=A3 (h:=A3 (h:=A3 (h:=A3 (h:=A3 (h:=AF (h:=AP (?_))))))))));refine AE ?_;exact⟨_,rfl,CG 1 0 (by simp[Af,Ac,Aa,BM,WN,CN,As,Aq,BK])⟩
  have hc2:=bp hb2;refine m_ (h:=k_ (h:=f_ (h:=f_ (h:=l_ (h:=m_ (h:=?_))))));refine B4 (AG (Ln w.s.spc w.c.a0 hs) ?_);rintro r rfl;refine B9 (h:=AM (h:=AP (?_)));refine AE ?_;exact⟨_,rfl,CG 1 0 (by simp[Af,Ac,Aa,BM,WN,CN,As,Aq,BK])⟩
 rintro S rfl;refine A8 rfl (fun hb3=>?_) (fun hb3=>?_)
 ·have hc3:=bp hb3;have k2:w.c.a0=0∨Co w.s.spc w.c.a0=false:=by simpa using hc3
  refine w_ (a_ (h:=e_ (A4 (A6 (?_)))));refine Ai (r:= .v (.int .i64 (FE w).2)) none (h4:=(by simp[Af,Ac,Aa,BM,WN,CN,As,Aq,BK])) (h5:=(by rw[hum,if_neg k1,if_pos k2];exact AA _)) (h6:=⟨rfl,rfl,?_⟩);rw[hum,if_neg k1,if_pos k2];rfl
 have hc3:=bp hb3;have k2:¬(w.c.a0=0∨Co w.s.spc w.c.a0=false):=by simpa using hc3
 refine AB (q_ (w_ (a_ (h:=e_ (Ag (?_))))));refine Be (fun m S=>∃j:Nat,j≤w.s.tab.ps.length∧m=w.s.tab.ps.length - j∧(∀i y,i<j→w.s.tab.ps[i]?=some y→(decide (y.cwd.1=w.c.a0)||y.opens.any fun d=>decide (d.file.1=w.c.a0))=false)∧S=⟨look [(0, .bp 0 0),(3, .v (.int .i64 w.c.a0)),(4, .v (.int .i64 (j:Int)))],⟨[WN w],[]⟩⟩) (w.s.tab.ps.length) (Bb 1 0 (by simp[Af,Ac,Aa,BM,WN,CN,As,Aq,BK])) (⟨0,BV _,rfl,fun i y hi=>by omega,rfl⟩) ?_;rintro m S ⟨j,hj,rfl,ha,rfl⟩;refine q_ (w_ (m_ (h:=m_ (h:=k_ (h:=f_ (h:=f_ (h:=f_ (h:=l_ (h:=n_ (h:=BB (h:=e_ (?_))))))))))));refine A8 rfl (fun hb4=>?_) (fun hb4=>?_)
 ·have hc4:=bp hb4;obtain⟨hlt,p,hy,hrow, -⟩:=C1 Aq hc4;have hop:=htb.opens p (Aw hy);have hpl:(p.opens.map Eu).length=p.opens.length:=List.length_map _;refine AB (q_ (Ag (w_ (m_ (h:=k_ (h:=f_ (h:=f_ (h:=f_ (h:=l_ (h:=m_ (h:=i_ (h:=l_ (h:=Al (h:=s_ (h:=e_ (q_ (w_ (f_ (h:=f_ (h:=l_ (h:=m_ (h:=AD (h:=e_ (?_))))))))))))))))))))))));refine A8 rfl (fun hb5=>?_) (fun hb5=>?_)
  ·have hc5:=bp hb5;have hbz:L8 w.s.tab w.c.a0=true:=KC hy (by simp[hc5]);refine w_ (a_ (h:=e_ (A4 (A6 (AK (A6 (A6 (AK (A6 (?_))))))))));refine Ai (r:= .v (.int .i64 (FE w).2)) none (h4:=(by simp[Af,Ac,Aa,BM,WN,CN,As,Aq,BK])) (h5:=(by rw[hum,if_neg k1,if_neg k2,if_pos hbz];exact AA _)) (h6:=⟨rfl,rfl,?_⟩);rw[hum,if_neg k1,if_neg k2,if_pos hbz];rfl
  have hc5:=bp hb5;have hcw:¬p.cwd.1=w.c.a0:=hc5;refine AB (w_ (a_ (h:=e_ (Ag (?_)))));refine Be (fun m S=>∃k:Nat,k≤p.opens.length∧m=p.opens.length - k∧(∀i y,i<k→p.opens[i]?=some y→decide (y.file.1=w.c.a0)=false)∧S=⟨look [(0, .bp 0 0),(3, .v (.int .i64 w.c.a0)),(4, .v (.int .i64 (j:Int))),(5, .bp 1 0),(6, .v (.int .i64 (k:Int)))],⟨[WN w,Aq p],[]⟩⟩) (p.opens.length) (Bb 2 0 (by simp[Af,Ac,Aa,BM,WN,CN,As,Aq,BK])) (⟨0,BV _,rfl,fun i y hi=>by omega,rfl⟩) ?_;rintro m S ⟨k,hk2,rfl,hak,rfl⟩;refine q_ (w_ (m_ (h:=f_ (h:=l_ (h:=n_ (h:=BB (h:=e_ (?_))))))));refine A8 rfl (fun hb6=>?_) (fun hb6=>?_)
  ·have hc6:=bp hb6;obtain⟨hltk,q,hyk,hrowk, -⟩:=C1 Eu hc6;refine AB (q_ (Ag (w_ (f_ (h:=l_ (h:=m_ (h:=i_ (h:=f_ (h:=f_ (h:=l_ (h:=m_ (h:=AD (h:=e_ (?_))))))))))))));refine A8 rfl (fun hb7=>?_) (fun hb7=>?_)
   ·have hc7:=bp hb7;have hbz:L8 w.s.tab w.c.a0=true:=KC hy (by rw[Bool.or_eq_true];exact .inr (KC hyk (decide_eq_true hc7)));refine w_ (a_ (h:=e_ (A4 (AK (A6 (A6 (AK (AK (A6 (A6 (AK (A6 (?_)))))))))))));refine Ai (r:= .v (.int .i64 (FE w).2)) none (h4:=(by simp[Af,Ac,Aa,BM,WN,CN,As,Aq,BK])) (h5:=(by rw[hum,if_neg k1,if_neg k2,if_pos hbz];exact AA _)) (h6:=⟨rfl,rfl,?_⟩);rw[hum,if_neg k1,if_neg k2,if_pos hbz];rfl
   have hc7:=bp hb7;have hqn:decide (q.file.1=w.c.a0)=false:=decide_eq_false hc7;refine Au (Ah (t_ (AR (m_ (h:=BD (h:=a_ (h:=AP (?_))))))));refine AE ?_;refine⟨_,_,?_,⟨k+1,by omega,rfl,F8 hyk hak hqn,rfl⟩,Bb 2 0 (by simp[Af,Ac,Aa,BM,WN,CN,As,Aq,BK])⟩;omega
  have hc6:=bp hb6;have e2:=CA Eu hk2 hc6;have hno:(p.opens.any fun d=>decide (d.file.1=w.c.a0))=false:=Kn (by rw[←e2];exact hak);refine BT (Ao (Ao (BU (Ah (t_ (AR (m_ (h:=BD (h:=a_ (h:=AP (?_)))))))))));refine AE ?_;refine⟨_,_,?_,⟨j+1,by omega,rfl,F8 hy ha (by rw[decide_eq_false hcw,hno];rfl),rfl⟩,Bb 1 0 (by simp[Af,Ac,Aa,BM,WN,CN,As,Aq,BK])⟩;omega
 have hc4:=bp hb4;have e:=CA Aq hj hc4;have hbz:L8 w.s.tab w.c.a0=false:=eF (by rw[←e];exact ha);refine BT (Ao (Ao (BU (t_ (w_ (m_ (h:=k_ (h:=f_ (h:=f_ (h:=l_ (h:=m_ (h:=?_))))))))))));refine A7 rfl (AG (hrem) ?_);rintro r rfl;refine m_ (h:=x_ (h:=x_ (h:=Al (h:=s_ (h:=a_ (h:=e_ (q_ (w_ (m_ (h:=AD (h:=e_ (?_))))))))))));refine A8 rfl (fun hb8=>?_) (fun hb8=>?_)
 ·have hc8:=bp hb8;have h0:R.2=0:=hc8;refine w_ (m_ (h:=l_ (h:=k_ (h:=f_ (h:=f_ (h:=s_ (h:=e_ (AR (m_ (h:=m_ (h:=k_ (h:=f_ (h:=f_ (h:=s_ (h:=e_ (w_ (m_ (h:=a_ (h:=e_ (A4 (?_)))))))))))))))))))));refine Ai (r:= .v (.int .i64 (FE w).2)) none (h4:=(by simp[Af,Ac,Aa,BM,WN,CN,As,Aq,BK])) (h5:=(by rw[hum,if_neg k1,if_neg k2,if_neg (by rw[hbz];simp),Ht,if_pos h0];exact LeA.of_eq (vi h0))) (h6:=⟨rfl,rfl,?_⟩);rw[hum,if_neg k1,if_neg k2,if_neg (by rw[hbz];simp),Ht,if_pos h0];rfl
 have hc8:=bp hb8;have h0:¬R.2=0:=hc8;refine AB (w_ (m_ (h:=a_ (h:=e_ (A4 (?_))))));refine Ai (r:= .v (.int .i64 (FE w).2)) none (h4:=(by simp[Af,Ac,Aa,BM,WN,CN,As,Aq,BK])) (h5:=(by rw[hum,if_neg k1,if_neg k2,if_neg (by rw[hbz];simp),Ht,if_neg h0];exact AA _)) (h6:=⟨rfl,rfl,?_⟩);rw[hum,if_neg k1,if_neg k2,if_neg (by rw[hbz];simp),Ht,if_neg h0];rfl
theorem eH(w:Wrk)(hs:SpcB w.s.spc)(htb:TabB w.s.tab)(htn:Cu w.s.tab)(h19:w.c.num=19→0<w.c.args.length):ACall prog 152 [.bp 0 0] [WN w] (fun r b t=>t=[]∧r= .v (.int .i64 (Dt w).2)∧b=[WN (Dt w).1]):=by
 obtain⟨F0,hF0⟩:∃F,F=Er w.s.tab w.p.pid:=⟨_,rfl⟩;obtain⟨F2,hF2⟩:∃F,F=Ft w.s.tab w.p.pid:=⟨_,rfl⟩;obtain⟨F3,hF3⟩:∃F,F=Fu w.s.tab w.p.pid w.c.a0:=⟨_,rfl⟩;obtain⟨F4,hF4⟩:∃F,F=Fv w.s.tab w.p.pid w.c.a0:=⟨_,rfl⟩;obtain⟨F5,hF5⟩:∃F,F=Ea w.s.tab w.p.pid w.c.a0:=⟨_,rfl⟩;obtain⟨F7,hF7⟩:∃F,F=Gp w.s.tab w.p.pid w.c.a0:=⟨_,rfl⟩;obtain⟨FK,hFK⟩:∃F,F=Fg w.s.tab w.p.pid w.c.a0 (!decide (w.c.a1=0)):=⟨_,rfl⟩;have q0:AFn prog 207 [.agg (As w.s.tab), .v (.int .i64 w.p.pid)] (fun r=>r=JL F0):=by rw[hF0];exact eD _ _ htb htn
 have q2:AFn prog 208 [.agg (As w.s.tab), .v (.int .i64 w.p.pid)] (fun r=>r=CU F2):=by rw[hF2];exact VY _ _ htb
 have q3:AFn prog 209 [.agg (As w.s.tab), .v (.int .i64 w.p.pid), .v (.int .i64 w.c.a0)] (fun r=>r=CU F3):=by rw[hF3];exact dY _ _ _ htb
 have q4:AFn prog 210 [.agg (As w.s.tab), .v (.int .i64 w.p.pid), .v (.int .i64 w.c.a0)] (fun r=>r=CU F4):=by rw[hF4];exact dZ _ _ _ htb
 have q5:AFn prog 211 [.agg (As w.s.tab), .v (.int .i64 w.p.pid), .v (.int .i64 w.c.a0)] (fun r=>r=CU F5):=by rw[hF5];exact eA _ _ _ htb htn
 have q7:AFn prog 212 [.agg (As w.s.tab), .v (.int .i64 w.p.pid), .v (.int .i64 w.c.a0)] (fun r=>r=CU F7):=by rw[hF7];exact eB _ _ _ htb
 have qk:AFn prog 214 [.agg (As w.s.tab), .v (.int .i64 w.p.pid), .v (.int .i64 w.c.a0), .v (.bool (!decide (w.c.a1=0)))] (fun r=>r=CU FK):=by rw[hFK];exact eC _ _ _ _ htb
 have hot:Dt w=if w.c.num=0 then C6 (L9 w F0.2.1) (F0.1,F0.2.2)else if w.c.num=2 then C6 w F2 else if w.c.num=3 then C6 w F3 else if w.c.num=4 then C6 w F4 else if w.c.num=5 then C6 w F5 else if w.c.num=7 then C6 w F7 else if w.c.num=18 then FE w
     else if w.c.num=19 then(if w.c.a0<0∨65535<w.c.a0∨Gq w.c=⟨#[]⟩then(w,22)else if w.c.a0=0 then(w,111)else(w,0))else if w.c.a1<0∨64<w.c.a1 then(w,22)else C6 w FK:=by
  have hb:decide (w.c.a1≠0)= !decide (w.c.a1=0):=by simp
  unfold Dt;rw[hb,←hF0,←hF2,←hF3,←hF4,←hF5,←hF7,←hFK]
 clear hF0 hF2 hF3 hF4 hF5 hF7 hFK;refine enter Tryz.func152 rfl rfl rfl rfl rfl 1 rfl ?_;refine w_ (a_ (h:=e_ (?_)));refine BR (fun S=>S=⟨look [(0, .bp 0 0),(3, .bp 1 0),(4, .v (.int .i64 w.p.pid)),(5, .bp 2 0)],⟨[WN w,As w.s.tab,CN w.c],[]⟩⟩) ?_ ?_
 ·skip
  refine Bf ([(0,WN w)]) 20 (h:=AU 0 (h:=BS 1 (h:=AO 2 (h:=AO 3 (h:=AJ 4 (h:=AU 5 (h:=BS 6 (h:=AO 7 (h:=AO 8 (h:=AJ 9 (h:=AU 10 (h:=BS 11 (h:=AO 12 (h:=AO 13 (h:=AJ 14 (h:=?_))))))))))))))));refine F6 15 16 rfl rfl ?_ ?_
  ·refine CV (by repeat constructor) ?_;refine o_ (h:=?_);refine c_ 16 rfl (CV (by repeat constructor) ?_);refine o_ (h:=?_);refine BH 17 rfl (BC rfl rfl rfl rfl rfl rfl (by repeat constructor) (by repeat constructor) ?_);refine o_ (h:=BO 18 (h:=?_));refine BH 19 rfl (BC rfl rfl rfl rfl rfl rfl (by repeat constructor) (by repeat constructor) ?_);refine o_ (h:=z_ (h:=?_));refine AE ?_
   first|exact⟨_,rfl,Bb 3 0 (by simp[Af,Ac,Aa,BM,WN,CN,As,Aq,BK])⟩|exact⟨_,rfl,DQ [0,2,1] OF (by decide) (.cons _ _ _ _ _ rfl rfl (.cons _ _ _ _ _ rfl rfl (.cons _ _ _ _ _ rfl rfl .nil))) (by repeat (first|exact SubK.nil|refine SubK.cons _ _ _ _ rfl (AA _) ?_))⟩
  refine CV (by repeat constructor) ?_;refine o_ (h:=?_);refine c_ 15 rfl (CV (by repeat constructor) ?_);refine o_ (h:=?_);refine BH 17 rfl (BC rfl rfl rfl rfl rfl rfl (by repeat constructor) (by repeat constructor) ?_);refine o_ (h:=BO 18 (h:=?_));refine BH 19 rfl (BC rfl rfl rfl rfl rfl rfl (by repeat constructor) (by repeat constructor) ?_);refine o_ (h:=z_ (h:=?_));refine AE ?_
  first|exact⟨_,rfl,Bb 3 0 (by simp[Af,Ac,Aa,BM,WN,CN,As,Aq,BK])⟩|exact⟨_,rfl,DQ [0,2,1] OF (by decide) (.cons _ _ _ _ _ rfl rfl (.cons _ _ _ _ _ rfl rfl (.cons _ _ _ _ _ rfl rfl .nil))) (by repeat (first|exact SubK.nil|refine SubK.cons _ _ _ _ rfl (AA _) ?_))⟩
 rintro S rfl;refine q_ (w_ (m_ (h:=k_ (h:=f_ (h:=f_ (h:=l_ (h:=e_ (Ag (w_ (AD (h:=a_ (h:=e_ (?_)))))))))))));refine A8 rfl (fun hb1=>?_) (fun hb1=>?_)
 ·have hc1:=bp hb1;have k0:w.c.num=0:=hc1;refine w_ (l_ (h:=m_ (h:=?_)));refine A7 rfl (AG (q0) ?_);rintro r rfl;refine m_ (h:=x_ (h:=x_ (h:=x_ (h:=Al (h:=s_ (h:=a_ (h:=a_ (h:=e_ (w_ (m_ (h:=m_ (h:=m_ (h:=m_ (h:=k_ (h:=f_ (h:=f_ (h:=s_ (h:=k_ (h:=f_ (h:=f_ (h:=s_ (h:=e_ (w_ (?_))))))))))))))))))))))));refine m_ (h:=l_ (h:=m_ (h:=?_)));refine A7 rfl (Bk [0] rfl (.cons _ _ _ _ _ rfl (AA _) (.cons _ _ _ _ _ rfl (AA _) (.cons _ _ _ _ _ rfl (AA _) .nil))) (by decide) (.cons _ _ _ _ _ rfl rfl .nil) (KT (L9 w F0.2.1) F0.1 F0.2.2) ?_);rintro r bc tc ⟨rfl,rfl,rfl⟩;refine⟨rfl,_,Hy ((C6 (L9 w F0.2.1) (F0.1,F0.2.2)).1),?_⟩;refine a_ (h:=e_ (A4 (AK (A6 (?_)))));refine Ai (r:= .v (.int .i64 (Dt w).2)) none (h4:=(by simp[Af,Ac,Aa,BM,WN,CN,As,Aq,BK])) (h5:=(by rw[hot,if_pos k0,Hu];exact AA _)) (h6:=⟨rfl,rfl,?_⟩);rw[hot,if_pos k0];rfl
 have hc1:=bp hb1;have k0:¬w.c.num=0:=hc1;refine w_ (AD (h:=a_ (h:=e_ (?_))));refine A8 rfl (fun hb2=>?_) (fun hb2=>?_)
 ·have hc2:=bp hb2;have k1:w.c.num=2:=hc2;refine w_ (m_ (h:=l_ (h:=m_ (h:=?_))));refine A7 rfl (AG (q2) ?_);rintro r rfl;refine x_ (h:=x_ (h:=?_));refine A7 rfl (Bk [0] rfl (.cons _ _ _ _ _ rfl (AA _) (.cons _ _ _ _ _ rfl (AA _) (.cons _ _ _ _ _ rfl (AA _) .nil))) (by decide) (.cons _ _ _ _ _ rfl rfl .nil) (KT w F2.1 F2.2) ?_);rintro r bc tc ⟨rfl,rfl,rfl⟩;refine⟨rfl,_,Hy ((C6 w F2).1),?_⟩;refine a_ (h:=e_ (A4 (AK (A6 (?_)))));refine Ai (r:= .v (.int .i64 (Dt w).2)) none (h4:=(by simp[Af,Ac,Aa,BM,WN,CN,As,Aq,BK])) (h5:=(by rw[hot,if_neg k0,if_pos k1,Hu];exact AA _)) (h6:=⟨rfl,rfl,?_⟩);rw[hot,if_neg k0,if_pos k1];rfl
 have hc2:=bp hb2;have k1:¬w.c.num=2:=hc2;refine w_ (AD (h:=a_ (h:=e_ (?_))));refine A8 rfl (fun hb3=>?_) (fun hb3=>?_)
 ·have hc3:=bp hb3;have k2:w.c.num=3:=hc3;refine w_ (m_ (h:=l_ (h:=m_ (h:=?_))));refine A7 rfl (BW (len:=4) (sz:=1) (n:=0) (by kernel_rfl) rfl rfl rfl rfl ?_);refine l_ (h:=?_);refine A7 rfl (AG (q3) ?_);rintro r rfl;refine x_ (h:=x_ (h:=?_));refine A7 rfl (Bk [0] rfl (.cons _ _ _ _ _ rfl (AA _) (.cons _ _ _ _ _ rfl (AA _) (.cons _ _ _ _ _ rfl (AA _) .nil))) (by decide) (.cons _ _ _ _ _ rfl rfl .nil) (KT w F3.1 F3.2) ?_);rintro r bc tc ⟨rfl,rfl,rfl⟩;refine⟨rfl,_,Hy ((C6 w F3).1),?_⟩;refine a_ (h:=e_ (A4 (AK (A6 (?_)))));refine Ai (r:= .v (.int .i64 (Dt w).2)) none (h4:=(by simp[Af,Ac,Aa,BM,WN,CN,As,Aq,BK])) (h5:=(by rw[hot,if_neg k0,if_neg k1,if_pos k2,Hu];exact AA _)) (h6:=⟨rfl,rfl,?_⟩);rw[hot,if_neg k0,if_neg k1,if_pos k2];rfl
 have hc3:=bp hb3;have k2:¬w.c.num=3:=hc3;refine w_ (AD (h:=a_ (h:=e_ (?_))));refine A8 rfl (fun hb4=>?_) (fun hb4=>?_)
 ·have hc4:=bp hb4;have k3:w.c.num=4:=hc4;refine w_ (m_ (h:=l_ (h:=m_ (h:=?_))));refine A7 rfl (BW (len:=4) (sz:=1) (n:=0) (by kernel_rfl) rfl rfl rfl rfl ?_);refine l_ (h:=?_);refine A7 rfl (AG (q4) ?_);rintro r rfl;refine x_ (h:=x_ (h:=?_));refine A7 rfl (Bk [0] rfl (.cons _ _ _ _ _ rfl (AA _) (.cons _ _ _ _ _ rfl (AA _) (.cons _ _ _ _ _ rfl (AA _) .nil))) (by decide) (.cons _ _ _ _ _ rfl rfl .nil) (KT w F4.1 F4.2) ?_);rintro r bc tc ⟨rfl,rfl,rfl⟩;refine⟨rfl,_,Hy ((C6 w F4).1),?_⟩;refine a_ (h:=e_ (A4 (AK (A6 (?_)))));refine Ai (r:= .v (.int .i64 (Dt w).2)) none (h4:=(by simp[Af,Ac,Aa,BM,WN,CN,As,Aq,BK])) (h5:=(by rw[hot,if_neg k0,if_neg k1,if_neg k2,if_pos k3,Hu];exact AA _)) (h6:=⟨rfl,rfl,?_⟩);rw[hot,if_neg k0,if_neg k1,if_neg k2,if_pos k3];rfl
 have hc4:=bp hb4;have k3:¬w.c.num=4:=hc4;refine w_ (AD (h:=a_ (h:=e_ (?_))));refine A8 rfl (fun hb5=>?_) (fun hb5=>?_)
 ·have hc5:=bp hb5;have k4:w.c.num=5:=hc5;refine w_ (m_ (h:=l_ (h:=m_ (h:=?_))));refine A7 rfl (BW (len:=4) (sz:=1) (n:=0) (by kernel_rfl) rfl rfl rfl rfl ?_);refine l_ (h:=?_);refine A7 rfl (AG (q5) ?_);rintro r rfl;refine x_ (h:=x_ (h:=?_));refine A7 rfl (Bk [0] rfl (.cons _ _ _ _ _ rfl (AA _) (.cons _ _ _ _ _ rfl (AA _) (.cons _ _ _ _ _ rfl (AA _) .nil))) (by decide) (.cons _ _ _ _ _ rfl rfl .nil) (KT w F5.1 F5.2) ?_);rintro r bc tc ⟨rfl,rfl,rfl⟩;refine⟨rfl,_,Hy ((C6 w F5).1),?_⟩;refine a_ (h:=e_ (A4 (AK (A6 (?_)))));refine Ai (r:= .v (.int .i64 (Dt w).2)) none (h4:=(by simp[Af,Ac,Aa,BM,WN,CN,As,Aq,BK])) (h5:=(by rw[hot,if_neg k0,if_neg k1,if_neg k2,if_neg k3,if_pos k4,Hu];exact AA _)) (h6:=⟨rfl,rfl,?_⟩);rw[hot,if_neg k0,if_neg k1,if_neg k2,if_neg k3,if_pos k4];rfl
 have hc5:=bp hb5;have k4:¬w.c.num=5:=hc5;refine w_ (AD (h:=a_ (h:=e_ (?_))));refine A8 rfl (fun hb6=>?_) (fun hb6=>?_)
 ·have hc6:=bp hb6;have k5:w.c.num=7:=hc6;refine w_ (m_ (h:=l_ (h:=m_ (h:=?_))));refine A7 rfl (BW (len:=4) (sz:=1) (n:=0) (by kernel_rfl) rfl rfl rfl rfl ?_);refine l_ (h:=?_);refine A7 rfl (AG (q7) ?_);rintro r rfl;refine x_ (h:=x_ (h:=?_));refine A7 rfl (Bk [0] rfl (.cons _ _ _ _ _ rfl (AA _) (.cons _ _ _ _ _ rfl (AA _) (.cons _ _ _ _ _ rfl (AA _) .nil))) (by decide) (.cons _ _ _ _ _ rfl rfl .nil) (KT w F7.1 F7.2) ?_);rintro r bc tc ⟨rfl,rfl,rfl⟩;refine⟨rfl,_,Hy ((C6 w F7).1),?_⟩;refine a_ (h:=e_ (A4 (AK (A6 (?_)))));refine Ai (r:= .v (.int .i64 (Dt w).2)) none (h4:=(by simp[Af,Ac,Aa,BM,WN,CN,As,Aq,BK])) (h5:=(by rw[hot,if_neg k0,if_neg k1,if_neg k2,if_neg k3,if_neg k4,if_pos k5,Hu];exact AA _)) (h6:=⟨rfl,rfl,?_⟩);rw[hot,if_neg k0,if_neg k1,if_neg k2,if_neg k3,if_neg k4,if_pos k5];rfl
 have hc6:=bp hb6;have k5:¬w.c.num=7:=hc6;refine w_ (AD (h:=a_ (h:=e_ (?_))));refine A8 rfl (fun hb7=>?_) (fun hb7=>?_)
 ·have hc7:=bp hb7;have k6:w.c.num=18:=hc7;refine w_ (m_ (h:=?_));refine A7 rfl (Bk [0] rfl (.cons _ _ _ _ _ rfl (AA _) .nil) (by decide) (.cons _ _ _ _ _ rfl rfl .nil) (eG w hs htb) ?_);rintro r bc tc ⟨rfl,rfl,rfl⟩;refine⟨rfl,_,Hy ((FE w).1),?_⟩;refine a_ (h:=e_ (A4 (AK (A6 (?_)))));refine Ai (r:= .v (.int .i64 (Dt w).2)) none (h4:=(by simp[Af,Ac,Aa,BM,WN,CN,As,Aq,BK])) (h5:=(by rw[hot,if_neg k0,if_neg k1,if_neg k2,if_neg k3,if_neg k4,if_neg k5,if_pos k6];exact AA _)) (h6:=⟨rfl,rfl,?_⟩);rw[hot,if_neg k0,if_neg k1,if_neg k2,if_neg k3,if_neg k4,if_neg k5,if_pos k6];rfl
 have hc7:=bp hb7;have k6:¬w.c.num=18:=hc7;refine w_ (AD (h:=a_ (h:=e_ (?_))));refine A8 rfl (fun hb8=>?_) (fun hb8=>?_)
 ·have hc8:=bp hb8;have k7:w.c.num=19:=hc8;obtain⟨a0,ha0⟩:∃a,w.c.args[0]?=some a:=⟨_,BJ (h19 hc8)⟩;have harg:(w.c.args.map Cj)[0]?=some (Cj a0):=by rw[List.getElem?_map,ha0];rfl
  have hag:Gq w.c=a0:=by unfold Gq;rw[List.headD_eq_head?_getD,List.head?_eq_getElem?,ha0];rfl
  refine q_ (?_);refine BR (fun S=>∃b:Bool,(b=true↔(w.c.a0<0∨65535<w.c.a0∨a0=⟨#[]⟩))∧S=⟨look [(0, .bp 0 0),(3, .bp 1 0),(4, .v (.int .i64 w.p.pid)),(5, .bp 2 0),(128, .v (.bool b))],⟨[WN w,As w.s.tab,CN w.c],[]⟩⟩) ?_ ?_
  ·skip
   refine AR (?_);refine A7 rfl (BW (len:=4) (sz:=1) (n:=0) (by kernel_rfl) rfl rfl rfl rfl ?_);refine l_ (h:=BB (h:=m_ (h:=?_)));refine AW false rfl rfl (fun hb9=>?_) (fun hb9=>?_)
   ·have hc9:=bp hb9;refine A3 (h:=A3 (h:=A3 (h:=AF (h:=m_ (h:=A3 (h:=A3 (h:=A3 (h:=A3 (h:=A3 (h:=A3 (h:=A3 (h:=A3 (h:=AF (h:=AP (?_)))))))))))))));refine AE ?_;refine⟨_,⟨_,?_,rfl⟩,Bb 3 0 (by simp[Af,Ac,Aa,BM,WN,CN,As,Aq,BK])⟩
    first|(simp[*];done)|(simp;omega)
   have hc9:=bp hb9;refine B4 (BW (len:=4) (sz:=1) (n:=0) (by kernel_rfl) rfl rfl rfl rfl ?_);refine l_ (h:=Bl (h:=AM (h:=m_ (h:=?_))));refine AW false rfl rfl (fun hb10=>?_) (fun hb10=>?_)
   ·have hc10:=bp hb10;refine A3 (h:=A3 (h:=A3 (h:=A3 (h:=A3 (h:=A3 (h:=A3 (h:=A3 (h:=AF (h:=AP (?_))))))))));refine AE ?_;refine⟨_,⟨_,?_,rfl⟩,Bb 3 0 (by simp[Af,Ac,Aa,BM,WN,CN,As,Aq,BK])⟩
    first|(simp[*];done)|(simp;omega)
   have hc10:=bp hb10;refine m_ (h:=k_ (h:=f_ (h:=f_ (h:=l_ (h:=?_)))));refine B4 (Cl (n:=0) rfl rfl rfl harg ?_);refine l_ (h:=AD (h:=AM (h:=AP (?_))));refine AE ?_;refine⟨_,⟨_,?_,rfl⟩,Bb 3 0 (by simp[Af,Ac,Aa,BM,WN,CN,As,Aq,BK])⟩
   first|(simp[*];done)|(simp;omega)
  rintro S ⟨b20,hb20,rfl⟩;refine A8 rfl (fun hb11=>?_) (fun hb11=>?_)
  ·have hc11:=bp hb11;refine w_ (a_ (h:=e_ (A4 (A6 (AK (A6 (?_)))))));refine Ai (r:= .v (.int .i64 (Dt w).2)) none (h4:=(by simp[Af,Ac,Aa,BM,WN,CN,As,Aq,BK])) (h5:=(by rw[hot,if_neg k0,if_neg k1,if_neg k2,if_neg k3,if_neg k4,if_neg k5,if_neg k6,if_pos k7,if_pos (by rw[hag];exact hb20.1 ‹_›)];exact AA _)) (h6:=⟨rfl,rfl,?_⟩);rw[hot,if_neg k0,if_neg k1,if_neg k2,if_neg k3,if_neg k4,if_neg k5,if_neg k6,if_pos k7,if_pos (by rw[hag];exact hb20.1 ‹_›)];rfl
  have hc11:=bp hb11;refine AB (q_ (w_ (?_)));refine A7 rfl (BW (len:=4) (sz:=1) (n:=0) (by kernel_rfl) rfl rfl rfl rfl ?_);refine l_ (h:=AD (h:=e_ (?_)));refine A8 rfl (fun hb12=>?_) (fun hb12=>?_)
  ·have hc12:=bp hb12;have k9:w.c.a0=0:=hc12;refine w_ (a_ (h:=e_ (A4 (A6 (AK (A6 (?_)))))));refine Ai (r:= .v (.int .i64 (Dt w).2)) none (h4:=(by simp[Af,Ac,Aa,BM,WN,CN,As,Aq,BK])) (h5:=(by rw[hot,if_neg k0,if_neg k1,if_neg k2,if_neg k3,if_neg k4,if_neg k5,if_neg k6,if_pos k7,if_neg (by rw[hag];exact fun q=>absurd (hb20.2 q) (by simp[*])),if_pos k9];exact AA _)) (h6:=⟨rfl,rfl,?_⟩);rw[hot,if_neg k0,if_neg k1,if_neg k2,if_neg k3,if_neg k4,if_neg k5,if_neg k6,if_pos k7,if_neg (by rw[hag];exact fun q=>absurd (hb20.2 q) (by simp[*])),if_pos k9];rfl
  have hc12:=bp hb12;have k9:¬w.c.a0=0:=hc12;refine AB (w_ (a_ (h:=e_ (A4 (AK (A6 (?_)))))));refine Ai (r:= .v (.int .i64 (Dt w).2)) none (h4:=(by simp[Af,Ac,Aa,BM,WN,CN,As,Aq,BK])) (h5:=(by rw[hot,if_neg k0,if_neg k1,if_neg k2,if_neg k3,if_neg k4,if_neg k5,if_neg k6,if_pos k7,if_neg (by rw[hag];exact fun q=>absurd (hb20.2 q) (by simp[*])),if_neg k9];exact AA _)) (h6:=⟨rfl,rfl,?_⟩);rw[hot,if_neg k0,if_neg k1,if_neg k2,if_neg k3,if_neg k4,if_neg k5,if_neg k6,if_pos k7,if_neg (by rw[hag];exact fun q=>absurd (hb20.2 q) (by simp[*])),if_neg k9];rfl
 have hc8:=bp hb8;have k7:¬w.c.num=19:=hc8;refine Au (Ah (t_ (q_ (?_))));refine BR (fun S=>∃b:Bool,(b=true↔(w.c.a1<0∨64<w.c.a1))∧S=⟨look [(0, .bp 0 0),(3, .bp 1 0),(4, .v (.int .i64 w.p.pid)),(5, .bp 2 0),(139, .v (.bool b))],⟨[WN w,As w.s.tab,CN w.c],[]⟩⟩) ?_ ?_
 ·skip
  refine AR (?_);refine A7 rfl (BW (len:=4) (sz:=1) (n:=1) (by kernel_rfl) rfl rfl rfl rfl ?_);refine l_ (h:=BB (h:=m_ (h:=?_)));refine AW false rfl rfl (fun hb13=>?_) (fun hb13=>?_)
  ·have hc13:=bp hb13;refine A3 (h:=A3 (h:=A3 (h:=AF (h:=AP (?_)))));refine AE ?_;refine⟨_,⟨_,?_,rfl⟩,Bb 3 0 (by simp[Af,Ac,Aa,BM,WN,CN,As,Aq,BK])⟩
   first|(simp[*];done)|(simp;omega)
  have hc13:=bp hb13;refine B4 (BW (len:=4) (sz:=1) (n:=1) (by kernel_rfl) rfl rfl rfl rfl ?_);refine l_ (h:=Bl (h:=AM (h:=AP (?_))));refine AE ?_;refine⟨_,⟨_,?_,rfl⟩,Bb 3 0 (by simp[Af,Ac,Aa,BM,WN,CN,As,Aq,BK])⟩
  first|(simp[*];done)|(simp;omega)
 rintro S ⟨b25,hb25,rfl⟩;refine A8 rfl (fun hb14=>?_) (fun hb14=>?_)
 ·have hc14:=bp hb14;refine w_ (a_ (h:=e_ (A4 (A6 (?_)))));refine Ai (r:= .v (.int .i64 (Dt w).2)) none (h4:=(by simp[Af,Ac,Aa,BM,WN,CN,As,Aq,BK])) (h5:=(by rw[hot,if_neg k0,if_neg k1,if_neg k2,if_neg k3,if_neg k4,if_neg k5,if_neg k6,if_neg k7,if_pos (hb25.1 ‹_›)];exact AA _)) (h6:=⟨rfl,rfl,?_⟩);rw[hot,if_neg k0,if_neg k1,if_neg k2,if_neg k3,if_neg k4,if_neg k5,if_neg k6,if_neg k7,if_pos (hb25.1 ‹_›)];rfl
 have hc14:=bp hb14;refine AB (w_ (m_ (h:=l_ (h:=m_ (h:=?_)))));refine A7 rfl (BW (len:=4) (sz:=1) (n:=0) (by kernel_rfl) rfl rfl rfl rfl ?_);refine l_ (h:=?_);refine A7 rfl (BW (len:=4) (sz:=1) (n:=1) (by kernel_rfl) rfl rfl rfl rfl ?_);refine l_ (h:=Ap (h:=?_));refine A7 rfl (AG (qk) ?_);rintro r rfl;refine x_ (h:=x_ (h:=?_));refine A7 rfl (Bk [0] rfl (.cons _ _ _ _ _ rfl (AA _) (.cons _ _ _ _ _ rfl (AA _) (.cons _ _ _ _ _ rfl (AA _) .nil))) (by decide) (.cons _ _ _ _ _ rfl rfl .nil) (KT w FK.1 FK.2) ?_);rintro r bc tc ⟨rfl,rfl,rfl⟩;refine⟨rfl,_,Hy ((C6 w FK).1),?_⟩;refine a_ (h:=e_ (A4 (?_)));refine Ai (r:= .v (.int .i64 (Dt w).2)) none (h4:=(by simp[Af,Ac,Aa,BM,WN,CN,As,Aq,BK])) (h5:=(by rw[hot,if_neg k0,if_neg k1,if_neg k2,if_neg k3,if_neg k4,if_neg k5,if_neg k6,if_neg k7,if_neg (fun q=>absurd (hb25.2 q) (by simp[*])),Hu];exact AA _)) (h6:=⟨rfl,rfl,?_⟩);rw[hot,if_neg k0,if_neg k1,if_neg k2,if_neg k3,if_neg k4,if_neg k5,if_neg k6,if_neg k7,if_neg (fun q=>absurd (hb25.2 q) (by simp[*]))];rfl
theorem eJ(w:Wrk)(e:Int)(hp:w.c.paths=[]):ACall prog 96 [.bp 0 0, .v (.int .i64 e)] [WN w] (fun r b t=>t=[]∧r= .v (.int .i64 e)∧b=[WN w]):=by
 have hpl:w.c.paths.length=0:=by rw[hp];rfl
 refine enter Tryz.func96 rfl rfl rfl rfl rfl 1 rfl ?_;refine w_ (a_ (h:=e_ (w_ (m_ (h:=k_ (h:=f_ (h:=l_ (h:=?_))))))));refine A7 rfl (AG (Ul w.c) ?_);rintro r rfl;refine a_ (h:=e_ (q_ (w_ (a_ (h:=e_ (Ag (?_)))))));refine Be (fun m S=>S=⟨look [(0, .bp 0 0),(1, .v (.int .i64 e)),(5, .sl 1 ((Ce w.c).map C9) none),(6, .v (.int .i64 0))],⟨[WN w],[]⟩⟩) (0) (Bb 1 0 (by simp[Af,Ac,Aa,BM,WN,CN,As,Aq,BK])) (rfl) ?_;rintro m S rfl;refine q_ (w_ (m_ (h:=m_ (h:=k_ (h:=f_ (h:=f_ (h:=l_ (h:=n_ (h:=BB (h:=e_ (?_)))))))))));refine A8 rfl (fun hb1=>?_) (fun hb1=>?_)
 ·have hc1:=bp hb1;exfalso;have h3:=hc1;rw[List.length_map,hpl]at h3;omega
 have hc1:=bp hb1;refine BT (Ao (Ao (BU (t_ (w_ (m_ (h:=a_ (h:=e_ (A4 (?_))))))))));refine Ai (r:= .v (.int .i64 e)) none (h4:=(by simp[Af,Ac,Aa,BM,WN,CN,As,Aq,BK])) (h5:=(AA _)) (h6:=⟨rfl,rfl,rfl⟩)
theorem eK(w:Wrk)(hs:SpcB w.s.spc)(htb:TabB w.s.tab)(htn:Cu w.s.tab)(h19:w.c.num=19→0<w.c.args.length)(hq:w.c.num≠1∧w.c.num≠6∧w.c.num≠8∧w.c.num≠9∧w.c.num≠10∧w.c.num≠11∧w.c.num≠12∧w.c.num≠13∧w.c.num≠14∧w.c.num≠15∧w.c.num≠16∧w.c.num≠17∧w.c.num≠21):ACall prog 98 [.bp 0 0] [WN w] (fun r b t=>t=[]∧r= .v (.int .i64 (BY w).2)∧b=[WN (BY w).1]):=by
 have hact:BY w=Dt w:=by
  unfold BY;rw[if_neg (by omega),if_neg (by omega),if_neg (by omega),if_neg (by omega),if_neg (by omega),if_neg (by omega),if_neg (by omega)]
 refine enter Tryz.func98 rfl rfl rfl rfl rfl 1 rfl ?_;refine w_ (a_ (h:=e_ (q_ (w_ (m_ (h:=k_ (h:=f_ (h:=f_ (h:=l_ (h:=e_ (Ag (w_ (AD (h:=a_ (h:=e_ (?_))))))))))))))));refine A8 rfl (fun hb1=>?_) (fun hb1=>?_)
 ·have hc1:=bp hb1;exfalso;first|contradiction|omega
 have hc1:=bp hb1;refine w_ (AD (h:=a_ (h:=e_ (?_))));refine A8 rfl (fun hb2=>?_) (fun hb2=>?_)
 ·have hc2:=bp hb2;exfalso;first|contradiction|omega
 have hc2:=bp hb2;refine q_ (w_ (AD (h:=a_ (h:=e_ (?_)))));refine A8 rfl (fun hb3=>?_) (fun hb3=>?_)
 ·have hc3:=bp hb3;exfalso;first|contradiction|omega
 have hc3:=bp hb3;refine AR (AD (h:=a_ (h:=e_ (?_))));refine A8 rfl (fun hb4=>?_) (fun hb4=>?_)
 ·have hc4:=bp hb4;exfalso;first|contradiction|omega
 have hc4:=bp hb4;refine w_ (AD (h:=a_ (h:=e_ (?_))));refine A8 rfl (fun hb5=>?_) (fun hb5=>?_)
 ·have hc5:=bp hb5;exfalso;first|contradiction|omega
 have hc5:=bp hb5;refine q_ (w_ (AD (h:=a_ (h:=e_ (?_)))));refine A8 rfl (fun hb6=>?_) (fun hb6=>?_)
 ·have hc6:=bp hb6;exfalso;first|contradiction|omega
 have hc6:=bp hb6;refine AR (AD (h:=a_ (h:=e_ (?_))));refine A8 rfl (fun hb7=>?_) (fun hb7=>?_)
 ·have hc7:=bp hb7;exfalso;first|contradiction|omega
 have hc7:=bp hb7;refine q_ (w_ (AD (h:=a_ (h:=e_ (?_)))));refine A8 rfl (fun hb8=>?_) (fun hb8=>?_)
 ·have hc8:=bp hb8;exfalso;first|contradiction|omega
 have hc8:=bp hb8;refine w_ (AD (h:=a_ (h:=e_ (?_))));refine A8 rfl (fun hb9=>?_) (fun hb9=>?_)
 ·have hc9:=bp hb9;exfalso;first|contradiction|omega
 have hc9:=bp hb9;refine w_ (AD (h:=a_ (h:=e_ (?_))));refine A8 rfl (fun hb10=>?_) (fun hb10=>?_)
 ·have hc10:=bp hb10;exfalso;first|contradiction|omega
 have hc10:=bp hb10;refine AR (AD (h:=a_ (h:=e_ (?_))));refine A8 rfl (fun hb11=>?_) (fun hb11=>?_)
 ·have hc11:=bp hb11;exfalso;first|contradiction|omega
 have hc11:=bp hb11;refine q_ (w_ (AD (h:=a_ (h:=e_ (?_)))));refine A8 rfl (fun hb12=>?_) (fun hb12=>?_)
 ·have hc12:=bp hb12;exfalso;first|contradiction|omega
 have hc12:=bp hb12;refine AR (AD (h:=a_ (h:=e_ (?_))));refine A8 rfl (fun hb13=>?_) (fun hb13=>?_)
 ·have hc13:=bp hb13;exfalso;first|contradiction|omega
 have hc13:=bp hb13;refine Au (Ah (t_ (w_ (m_ (h:=?_)))));refine A7 rfl (Bk [0] rfl (.cons _ _ _ _ _ rfl (AA _) .nil) (by decide) (.cons _ _ _ _ _ rfl rfl .nil) (eH w hs htb htn h19) ?_);rintro r bc tc ⟨rfl,rfl,rfl⟩;refine⟨rfl,_,Hy ((Dt w).1),?_⟩;refine a_ (h:=e_ (A4 (?_)));refine Ai (r:= .v (.int .i64 (BY w).2)) none (h4:=(by simp[Af,Ac,Aa,BM,WN,CN,As,Aq,BK])) (h5:=(by rw[hact];exact AA _)) (h6:=⟨rfl,rfl,?_⟩);rw[hact];rfl
end
end Go.Proofs.YtbgnigjfkbmceaaGreatDoor
