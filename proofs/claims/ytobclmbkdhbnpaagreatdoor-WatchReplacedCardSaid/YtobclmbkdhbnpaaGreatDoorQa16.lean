/-
  Part 16 of the proof of WatchReplacedP: what the statement's proof uses of the texts in wip/tpl.
-/
import Derived.Test.YtobclmbkdhbnpaaGreatDoorQa15
open Go.Proofs.Tryz (prog)
set_option maxRecDepth 10000
set_option maxHeartbeats 4000000
set_option linter.unusedVariables false
set_option linter.unusedSimpArgs false
namespace Go.Proofs.YtobclmbkdhbnpaaGreatDoor
open Go.RowKit
theorem Vd{e:Int}{y x:A9}{c d:Bool}:(decide (e=0)&& !decide ((y.1,y.2)=(x.1,x.2))&&c&&d)=true↔(e=0∧y≠x∧c=true∧d=true):=by
 have:decide ((y.1,y.2)=(x.1,x.2))=decide (y=x):=rfl;rw[this];simp[and_assoc]
theorem Ve{w:Wrk}{R:Dl}{x:A9}(h:(decide (R.2.2=0)&&decide (0<(R.2.1.length:Int)))=true):H7 w R x=(H6 (FW (C5 w R).1 0 3) 1 x,R.2.2):=by
 rw[Bool.and_eq_true]at h;have h1:=of_decide_eq_true h.1;unfold H7;rw[if_neg (by simp[h1]),if_pos (of_decide_eq_true h.2),h1]
theorem Vf{w:Wrk}{R:Dl}{x:A9}(h:(decide (R.2.2=0)&&decide (0<(R.2.1.length:Int)))=false):H7 w R x=((C5 w R).1,R.2.2):=by
 unfold H7;by_cases h0:R.2.2=0
 ·rw[if_neg (by simp[h0]),if_neg (by simpa[h0]using h),h0]
 rw[if_pos h0,VZ h0]
theorem gX(w:Wrk)(i:Nat)(r:Int)(cap:Nat):WA (FW w i r) cap=WA w cap:=by
 unfold WA FW;simp only[List.length_modify];rfl
theorem gY{w:Wrk}{i:Nat}{x:Itm}(hx:w.r.items[i]?=some x)(r:Int)(cap:Nat):IB (FW w i r) cap=LB 13 CE (w.r.items.set i {x with role:=r}) cap:=by
 unfold IB FW;rw[VY hx]
section
theorem gZ(w:Wrk)(cap:Nat)(f g:Fnd)(x0 x1:Itm)(hv:SpcV w.s.spc)(hm:w.s.spc.mounts.length≤1000)(hps:w.s.tab.ps.length≤1000)(hf:w.found[0]?=some f)(hg:w.found[1]?=some g)(hx0:w.r.items[0]?=some x0)(hx1:w.r.items[1]?=some x1)(hn:f.name.size≤100000)(hn2:g.name.size≤100000):ACall prog 102 [.bp 0 0] [WA w cap,IB w cap] (fun r b t=>t=[]∧r= .v (.int .i64 (EH w).2)∧b=[WA (EH w).1 cap,IB (EH w).1 cap]):=by
 have hsb:=hv.b hm;have hrow0:(w.found.map Ax)[0]?=some (Ax f):=by rw[List.getElem?_map,hf];rfl
 have hrow1:(w.found.map Ax)[1]?=some (Ax g):=by rw[List.getElem?_map,hg];rfl
 have hfn:Ay w 0=f:=by unfold Ay;rw[hf];rfl
 have hgn:Ay w 1=g:=by unfold Ay;rw[hg];rfl
 have hil:0<w.r.items.length:=(Ai.1 hx0).1;obtain⟨R,hR⟩:∃R,R=CG w.s.spc.files f.dir f.name g.dir g.name:=⟨_,rfl⟩;have hok:=GU hv.files f.dir f.name g.dir g.name;rw[←hR]at hok;have hcall:AFn prog 12 [.agg (Al w.s.spc.files), .agg (AB f.dir), .v (.string f.name), .agg (AB g.dir), .v (.string g.name)] (fun r=>r=CV R):=by rw[hR];exact QM _ _ _ _ _ hv.files hn hn2
 obtain⟨x,hxd⟩:∃x,x=(AD w.s.spc.files f.dir f.name).1:=⟨_,rfl⟩;obtain⟨y,hyd⟩:∃y,y=(AD w.s.spc.files g.dir g.name).1:=⟨_,rfl⟩;have hl1:AFn prog 10 [.agg (Al w.s.spc.files), .agg (AB f.dir), .v (.string f.name)] (fun r=>r= .tup [.agg (AB x), .v (.int .i64 (AD w.s.spc.files f.dir f.name).2)]):=by rw[hxd];exact GO _ _ _ hsb.files
 have hl2:AFn prog 10 [.agg (Al w.s.spc.files), .agg (AB g.dir), .v (.string g.name)] (fun r=>r= .tup [.agg (AB y), .v (.int .i64 (AD w.s.spc.files g.dir g.name).2)]):=by rw[hyd];exact GO _ _ _ hsb.files
 obtain⟨e2,he2⟩:∃e,e=(AD w.s.spc.files g.dir g.name).2:=⟨_,rfl⟩;rw[←he2]at hl2
 have hren:EH w=if f.ex=false then(w,2)else if f.name=⟨#[]⟩∨g.name=⟨#[]⟩then(w,16)else if g.slash=true∧Ag w.s.spc.files f.file=false then(w,20)else if f.dir.1≠g.dir.1 then(w,18)else if Dg w f.dir 2=false∨Dg w g.dir 2=false then(w,13)else if e2=0∧y≠x∧Ag w.s.spc.files y=true∧Hz w y=true then(w,16)else H7 w R x:=by
  unfold EH Hy;rw[hfn,hgn,←hxd,←hyd,←he2,←hR]
 clear hxd hyd he2 hR;refine enter Tryz.func102 rfl rfl rfl rfl rfl 2 rfl ?_;refine w_ (a_ (h:=e_ (?_)));refine BY (fun s=>s=⟨look [(0, .bp 0 0),(3, .bp 2 0),(4, .bp 3 0)],⟨[WA w cap,IB w cap,Ax f,Ax g],[]⟩⟩) ?_ ?_
 ·skip
  refine Bi ([(0,WA w cap)]) 16 (h:=AP 0 (h:=BW 1 (h:=AQ 2 (h:=AF 3 (h:=?_)))));refine B4 4 rfl (fun _ hS=>CM (n:=0) rfl rfl rfl hrow0 ⟨rfl,rfl⟩) ?_;refine AF 5 (h:=AP 6 (h:=BW 7 (h:=AQ 8 (h:=AF 9 (h:=?_)))));refine B4 10 rfl (fun _ hS=>CM (n:=1) rfl rfl rfl hrow1 ⟨rfl,rfl⟩) ?_;refine AF 11 (h:=?_);refine Es 12 13 rfl rfl ?_ ?_
  ·refine CW (by repeat constructor) ?_;refine o_ (h:=?_);refine c_ 13 rfl (CW (by repeat constructor) ?_);refine o_ (h:=?_);refine B8 14 rfl (B3 rfl rfl rfl rfl rfl rfl (by repeat constructor) (by repeat constructor) ?_);refine o_ (h:=?_);refine B8 15 rfl (B3 rfl rfl rfl rfl rfl rfl (by repeat constructor) (by repeat constructor) ?_);refine o_ (h:=z_ (h:=?_));refine AJ ?_
   first|exact⟨_,rfl,DZ 4 0⟩|exact⟨_,rfl,EU [0,1,3,2] M8 (by decide) (.cons _ _ _ _ _ rfl rfl (.cons _ _ _ _ _ rfl (H9 BL _ _ _) (.cons _ _ _ _ _ rfl rfl (.cons _ _ _ _ _ rfl rfl .nil)))) (by repeat (first|exact SubK.nil|refine SubK.cons _ _ _ _ rfl (AM _) ?_))⟩
  refine CW (by repeat constructor) ?_;refine o_ (h:=?_);refine c_ 12 rfl (CW (by repeat constructor) ?_);refine o_ (h:=?_);refine B8 14 rfl (B3 rfl rfl rfl rfl rfl rfl (by repeat constructor) (by repeat constructor) ?_);refine o_ (h:=?_);refine B8 15 rfl (B3 rfl rfl rfl rfl rfl rfl (by repeat constructor) (by repeat constructor) ?_);refine o_ (h:=z_ (h:=?_));refine AJ ?_
  first|exact⟨_,rfl,DZ 4 0⟩|exact⟨_,rfl,EU [0,1,3,2] M8 (by decide) (.cons _ _ _ _ _ rfl rfl (.cons _ _ _ _ _ rfl (H9 BL _ _ _) (.cons _ _ _ _ _ rfl rfl (.cons _ _ _ _ _ rfl rfl .nil)))) (by repeat (first|exact SubK.nil|refine SubK.cons _ _ _ _ rfl (AM _) ?_))⟩
 rintro s rfl;refine q_ (Ao (w_ (f_ (h:=l_ (h:=BZ (h:=a_ (h:=e_ (?_))))))));refine A8 rfl (fun hb1=>?_) (fun hb1=>?_)
 ·have hc1:=bp hb1;have k1:f.ex=false:=by simpa using hc1
  refine w_ (a_ (h:=e_ (A6 (AR (A4 (?_))))));refine EA (r:= .v (.int .i64 (EH w).2)) none (h5:=(by rw[hren,if_pos k1];exact AM _)) (h6:=⟨rfl,rfl,?_⟩);rw[hren,if_pos k1];rfl
 have hc1:=bp hb1;have k1:¬f.ex=false:=by simpa using hc1
 refine BY (fun s=>s=⟨look [(0, .bp 0 0),(3, .bp 2 0),(4, .bp 3 0),(26, .v (.bool (decide (f.name=⟨#[]⟩)||decide (g.name=⟨#[]⟩))))],⟨[WA w cap,IB w cap,Ax f,Ax g],[]⟩⟩) ?_ ?_
 ·skip
  refine AX (f_ (h:=l_ (h:=Ac (h:=m_ (h:=?_)))));refine As false rfl rfl (fun hb2=>?_) (fun hb2=>?_)
  ·have hc2:=bp hb2;refine A3 (h:=A3 (h:=A3 (h:=AU (h:=a_ (h:=AW (?_))))));refine AJ ?_;exact⟨_,rfl,Cw 4 0 (by simp[At,Aq,Ap,Bt BL,CL,WA,IB,Ct,Ax])⟩
  have hc2:=bp hb2;refine f_ (h:=l_ (h:=Ac (h:=Ah (h:=a_ (h:=AW (?_))))));refine AJ ?_;exact⟨_,rfl,Cw 4 0 (by simp[At,Aq,Ap,Bt BL,CL,WA,IB,Ct,Ax])⟩
 rintro s rfl;refine A8 rfl (fun hb3=>?_) (fun hb3=>?_)
 ·have hc3:=bp hb3;have k2:f.name=⟨#[]⟩∨g.name=⟨#[]⟩:=by simpa using hc3
  refine w_ (a_ (h:=e_ (A6 (AR (A4 (?_))))));refine EA (r:= .v (.int .i64 (EH w).2)) none (h5:=(by rw[hren,if_neg k1,if_pos k2];exact AM _)) (h6:=⟨rfl,rfl,?_⟩);rw[hren,if_neg k1,if_pos k2];rfl
 have hc3:=bp hb3;have k2:¬(f.name=⟨#[]⟩∨g.name=⟨#[]⟩):=by simpa using hc3
 refine BY (fun s=>s=⟨look [(0, .bp 0 0),(3, .bp 2 0),(4, .bp 3 0),(35, .v (.bool (g.slash&& !Ag w.s.spc.files f.file)))],⟨[WA w cap,IB w cap,Ax f,Ax g],[]⟩⟩) ?_ ?_
 ·skip
  refine AX (f_ (h:=l_ (h:=m_ (h:=?_))));refine As true rfl rfl (fun hb4=>?_) (fun hb4=>?_)
  ·have hc4:=bp hb4;refine m_ (h:=?_);refine Aw (ET 1 rfl (.cons _ _ _ _ _ rfl (LeA.of_eq rfl) (.cons _ _ _ _ _ rfl (AM _) .nil)) (gK w .any 0 f hsb hf) ?_);rintro r rfl;refine⟨rfl,?_⟩;refine BZ (h:=AU (h:=a_ (h:=AW (?_))));refine AJ ?_;exact⟨_,rfl,Cw 4 0 (by simp[At,Aq,Ap,Bt BL,CL,WA,IB,Ct,Ax])⟩
  have hc4:=bp hb4;refine A3 (h:=A3 (h:=A3 (h:=Ah (h:=a_ (h:=AW (?_))))));refine AJ ?_;exact⟨_,rfl,Cw 4 0 (by simp[At,Aq,Ap,Bt BL,CL,WA,IB,Ct,Ax])⟩
 rintro s rfl;refine A8 rfl (fun hb5=>?_) (fun hb5=>?_)
 ·have hc5:=bp hb5;have k3:g.slash=true∧Ag w.s.spc.files f.file=false:=by simpa using hc5
  refine w_ (a_ (h:=e_ (A6 (AR (A4 (?_))))));refine EA (r:= .v (.int .i64 (EH w).2)) none (h5:=(by rw[hren,if_neg k1,if_neg k2,if_pos k3];exact AM _)) (h6:=⟨rfl,rfl,?_⟩);rw[hren,if_neg k1,if_neg k2,if_pos k3];rfl
 have hc5:=bp hb5;have k3:¬(g.slash=true∧Ag w.s.spc.files f.file=false):=by simpa using hc5
 refine w_ (f_ (h:=f_ (h:=l_ (h:=f_ (h:=f_ (h:=l_ (h:=BX (h:=a_ (h:=e_ (?_))))))))));refine A8 rfl (fun hb6=>?_) (fun hb6=>?_)
 ·have hc6:=bp hb6;have k4:f.dir.1≠g.dir.1:=by simpa using hc6
  refine w_ (a_ (h:=e_ (A6 (AR (A4 (?_))))));refine EA (r:= .v (.int .i64 (EH w).2)) none (h5:=(by rw[hren,if_neg k1,if_neg k2,if_neg k3,if_pos k4];exact AM _)) (h6:=⟨rfl,rfl,?_⟩);rw[hren,if_neg k1,if_neg k2,if_neg k3,if_pos k4];rfl
 have hc6:=bp hb6;have k4:¬f.dir.1≠g.dir.1:=by simpa using hc6
 refine BY (fun s=>s=⟨look [(0, .bp 0 0),(3, .bp 2 0),(4, .bp 3 0),(51, .v (.bool (!Dg w f.dir 2|| !Dg w g.dir 2)))],⟨[WA w cap,IB w cap,Ax f,Ax g],[]⟩⟩) ?_ ?_
 ·skip
  refine AX (m_ (h:=f_ (h:=l_ (h:=?_))));refine A7 rfl (ET 1 rfl (.cons _ _ _ _ _ rfl (LeA.of_eq rfl) (.cons _ _ _ _ _ rfl (AM _) (.cons _ _ _ _ _ rfl (AM _) .nil))) (Ob w .any f.dir 2 hsb) ?_);rintro r rfl;refine⟨rfl,?_⟩;refine BZ (h:=m_ (h:=?_));refine As false rfl rfl (fun hb7=>?_) (fun hb7=>?_)
  ·have hc7:=bp hb7;refine A3 (h:=A3 (h:=A3 (h:=A3 (h:=A3 (h:=AU (h:=a_ (h:=AW (?_))))))));refine AJ ?_;exact⟨_,rfl,Cw 4 0 (by simp[At,Aq,Ap,Bt BL,CL,WA,IB,Ct,Ax])⟩
  have hc7:=bp hb7;refine m_ (h:=f_ (h:=l_ (h:=?_)));refine Aw (ET 1 rfl (.cons _ _ _ _ _ rfl (LeA.of_eq rfl) (.cons _ _ _ _ _ rfl (AM _) (.cons _ _ _ _ _ rfl (AM _) .nil))) (Ob w .any g.dir 2 hsb) ?_);rintro r rfl;refine⟨rfl,?_⟩;refine BZ (h:=Ah (h:=a_ (h:=AW (?_))));refine AJ ?_;exact⟨_,rfl,Cw 4 0 (by simp[At,Aq,Ap,Bt BL,CL,WA,IB,Ct,Ax])⟩
 rintro s rfl;refine A8 rfl (fun hb8=>?_) (fun hb8=>?_)
 ·have hc8:=bp hb8;have k5:Dg w f.dir 2=false∨Dg w g.dir 2=false:=by simpa using hc8
  refine w_ (a_ (h:=e_ (A6 (AR (A4 (?_))))));refine EA (r:= .v (.int .i64 (EH w).2)) none (h5:=(by rw[hren,if_neg k1,if_neg k2,if_neg k3,if_neg k4,if_pos k5];exact AM _)) (h6:=⟨rfl,rfl,?_⟩);rw[hren,if_neg k1,if_neg k2,if_neg k3,if_neg k4,if_pos k5];rfl
 have hc8:=bp hb8;have k5:¬(Dg w f.dir 2=false∨Dg w g.dir 2=false):=by simpa using hc8
 refine BA (Au (t_ (?_)));refine BY (fun s=>s=⟨look [(0, .bp 0 0),(3, .bp 2 0),(4, .bp 3 0),(5, .bp 4 0)],⟨[WA w cap,IB w cap,Ax f,Ax g,AB x],[]⟩⟩) ?_ ?_
 ·skip
  refine Bi ([(0,WA w cap),(1,IB w cap),(2,Ax f),(3,Ax g)]) 17 (h:=AP 0 (h:=BW 1 (h:=AQ 2 (h:=AQ 3 (h:=AQ 4 (h:=AF 5 (h:=AQ 6 (h:=AF 7 (h:=AQ 8 (h:=AF 9 (h:=?_)))))))))));refine Es 10 14 rfl rfl ?_ ?_
  ·refine AK (hl1) ?_;rintro r rfl;refine o_ (h:=?_);refine AP 11 (h:=BK 12 (h:=BK 13 (h:=?_)));refine c_ 14 rfl (CW (by repeat constructor) ?_);refine o_ (h:=?_);refine B8 15 rfl (B3 rfl rfl rfl rfl rfl rfl (by repeat constructor) (by repeat constructor) ?_);refine o_ (h:=BN 16 (h:=z_ (h:=?_)));refine AJ ?_;exact⟨_,rfl,DZ 5 0⟩
  refine CW (by repeat constructor) ?_;refine o_ (h:=?_);refine c_ 10 rfl (AK (hl1) ?_);rintro r rfl;refine o_ (h:=AP 11 (h:=BK 12 (h:=BK 13 (h:=?_))));refine B8 15 rfl (B3 rfl rfl rfl rfl rfl rfl (by repeat constructor) (by repeat constructor) ?_);refine o_ (h:=BN 16 (h:=z_ (h:=?_)));refine AJ ?_;exact⟨_,rfl,DZ 5 0⟩
 rintro s rfl;refine q_ (?_);refine BY (fun s=>s=⟨look [(0, .bp 0 0),(3, .bp 2 0),(4, .bp 3 0),(5, .bp 4 0),(7, .bp 5 0),(8, .v (.int .i64 e2))],⟨[WA w cap,IB w cap,Ax f,Ax g,AB x,AB y],[]⟩⟩) ?_ ?_
 ·skip
  refine Bi ([(0,WA w cap),(1,IB w cap),(2,Ax f),(3,Ax g),(4,AB x)]) 17 (h:=AP 0 (h:=BW 1 (h:=AQ 2 (h:=AQ 3 (h:=AQ 4 (h:=AF 5 (h:=AQ 6 (h:=AF 7 (h:=AQ 8 (h:=AF 9 (h:=?_)))))))))));refine Es 10 14 rfl rfl ?_ ?_
  ·refine AK (hl2) ?_;rintro r rfl;refine o_ (h:=?_);refine AP 11 (h:=BK 12 (h:=BK 13 (h:=?_)));refine c_ 14 rfl (CW (by repeat constructor) ?_);refine o_ (h:=?_);refine B8 15 rfl (B3 rfl rfl rfl rfl rfl rfl (by repeat constructor) (by repeat constructor) ?_);refine o_ (h:=BN 16 (h:=z_ (h:=?_)));refine AJ ?_;exact⟨_,rfl,DZ 6 0⟩
  refine CW (by repeat constructor) ?_;refine o_ (h:=?_);refine c_ 10 rfl (AK (hl2) ?_);rintro r rfl;refine o_ (h:=AP 11 (h:=BK 12 (h:=BK 13 (h:=?_))));refine B8 15 rfl (B3 rfl rfl rfl rfl rfl rfl (by repeat constructor) (by repeat constructor) ?_);refine o_ (h:=BN 16 (h:=z_ (h:=?_)));refine AJ ?_;exact⟨_,rfl,DZ 6 0⟩
 rintro s rfl;refine BY (fun s=>s=⟨look [(0, .bp 0 0),(3, .bp 2 0),(4, .bp 3 0),(5, .bp 4 0),(113, .v (.bool (decide (e2=0)&& !decide ((y.1,y.2)=(x.1,x.2))&&Ag w.s.spc.files y&&Hz w y)))],⟨[WA w cap,IB w cap,Ax f,Ax g,AB x],[]⟩⟩) ?_ ?_
 ·skip
  refine Dk 22 (h:=AP 0 (h:=GL 1 (h:=AP 2 (h:=?_))));refine Da (j:=2) rfl (fun hb9=>?_) (fun hb9=>?_)
  ·have hc9:=bp hb9;refine AF 3 (h:=AF 4 (h:=?_));refine F1 (i:=5) rfl (Er rfl rfl (by repeat constructor) (by repeat constructor) (fun w=>PX _ _ _ _ w) (by kernel_rfl) ⟨rfl,rfl⟩) ?_;refine CQ 6 (h:=AP 7 (h:=?_));refine Da (j:=7) rfl (fun hb10=>?_) (fun hb10=>?_)
   ·have hc10:=bp hb10;refine AP 8 (h:=BW 9 (h:=AQ 10 (h:=AQ 11 (h:=AQ 12 (h:=AF 13 (h:=AF 14 (h:=?_)))))));refine c_ 15 rfl (AK (Fi w.s.spc.files y hsb.files) ?_);rintro r rfl;refine o_ (h:=CQ 16 (h:=AP 17 (h:=?_)));refine Da (j:=17) rfl (fun hb11=>?_) (fun hb11=>?_)
    ·have hc11:=bp hb11;refine AP 18 (h:=AF 19 (h:=?_));refine c_ 20 rfl (ET 1 rfl (.cons _ _ _ _ _ rfl (LeA.of_eq rfl) (.cons _ _ _ _ _ rfl (AM _) .nil)) (gL w .any y hsb hps) ?_);rintro r rfl;refine⟨rfl,?_⟩;refine o_ (h:=CQ 21 (h:=z_ (h:=?_)));refine AJ ?_;exact⟨_,rfl,B7 5 0 rfl rfl rfl (by simp[At,Aq,Ap,Bt BL,CL,WA,IB,Ct,Ax,AB]) (by repeat (first|exact Sub.nil|refine B9 rfl rfl ?_|refine BC ?_|refine BD rfl ?_|refine BE rfl ?_|(apply Sub.of;(focus exact rfl);(focus exact LeA.of_eq (vb (by first|(simp[*];done)|(simp only[*,decide_true,decide_false,Bool.not_true,Bool.not_false,Bool.true_and,Bool.and_true,Bool.false_and,Bool.and_false]))));(focus exact rfl))))⟩
    have hc11:=bp hb11;refine AG 18 (h:=AG 19 (h:=AG 20 (h:=CR 21 (h:=z_ (h:=?_)))));refine AJ ?_;exact⟨_,rfl,B7 5 0 rfl rfl rfl (by simp[At,Aq,Ap,Bt BL,CL,WA,IB,Ct,Ax,AB]) (by repeat (first|exact Sub.nil|refine B9 rfl rfl ?_|refine BC ?_|refine BD rfl ?_|refine BE rfl ?_|(apply Sub.of;(focus exact rfl);(focus exact LeA.of_eq (vb (by first|(simp[*];done)|(simp only[*,decide_true,decide_false,Bool.not_true,Bool.not_false,Bool.true_and,Bool.and_true,Bool.false_and,Bool.and_false]))));(focus exact rfl))))⟩
   have hc10:=bp hb10;refine AG 8 (h:=AG 9 (h:=AG 10 (h:=AG 11 (h:=AG 12 (h:=AG 13 (h:=AG 14 (h:=AG 15 (h:=CR 16 (h:=AP 17 (h:=AG 18 (h:=AG 19 (h:=AG 20 (h:=CR 21 (h:=z_ (h:=?_)))))))))))))));refine AJ ?_;exact⟨_,rfl,B7 5 0 rfl rfl rfl (by simp[At,Aq,Ap,Bt BL,CL,WA,IB,Ct,Ax,AB]) (by repeat (first|exact Sub.nil|refine B9 rfl rfl ?_|refine BC ?_|refine BD rfl ?_|refine BE rfl ?_|(apply Sub.of;(focus exact rfl);(focus exact LeA.of_eq (vb (by first|(simp[*];done)|(simp only[*,decide_true,decide_false,Bool.not_true,Bool.not_false,Bool.true_and,Bool.and_true,Bool.false_and,Bool.and_false]))));(focus exact rfl))))⟩
  have hc9:=bp hb9;refine AG 3 (h:=AG 4 (h:=AG 5 (h:=CR 6 (h:=AP 7 (h:=AG 8 (h:=AG 9 (h:=AG 10 (h:=AG 11 (h:=AG 12 (h:=AG 13 (h:=AG 14 (h:=AG 15 (h:=CR 16 (h:=AP 17 (h:=AG 18 (h:=AG 19 (h:=AG 20 (h:=CR 21 (h:=z_ (h:=?_))))))))))))))))))));refine AJ ?_;exact⟨_,rfl,B7 5 0 rfl rfl rfl (by simp[At,Aq,Ap,Bt BL,CL,WA,IB,Ct,Ax,AB]) (by repeat (first|exact Sub.nil|refine B9 rfl rfl ?_|refine BC ?_|refine BD rfl ?_|refine BE rfl ?_|(apply Sub.of;(focus exact rfl);(focus exact LeA.of_eq (vb (by first|(simp[*];done)|(simp only[*,decide_true,decide_false,Bool.not_true,Bool.not_false,Bool.true_and,Bool.and_true,Bool.false_and,Bool.and_false]))));(focus exact rfl))))⟩
 rintro s rfl;refine A8 rfl (fun hb12=>?_) (fun hb12=>?_)
 ·have hc12:=bp hb12;have k6:=Vd.1 hb12;refine w_ (a_ (h:=e_ (A6 (A4 (?_)))));refine EA (r:= .v (.int .i64 (EH w).2)) none (h5:=(by rw[hren,if_neg k1,if_neg k2,if_neg k3,if_neg k4,if_neg k5,if_pos k6];exact AM _)) (h6:=⟨rfl,rfl,?_⟩);rw[hren,if_neg k1,if_neg k2,if_neg k3,if_neg k4,if_neg k5,if_pos k6];rfl
 have hc12:=bp hb12;have k6:¬(e2=0∧y≠x∧Ag w.s.spc.files y=true∧Hz w y=true):=fun h=>by rw[Vd.2 h]at hb12;cases hb12
 refine AN (q_ (Bi ([(0,WA w cap),(1,IB w cap),(2,Ax f),(3,Ax g)]) 19 (h:=AP 0 (h:=AP 1 (h:=BW 2 (h:=AQ 3 (h:=AQ 4 (h:=AQ 5 (h:=AF 6 (h:=AQ 7 (h:=AF 8 (h:=AQ 9 (h:=AF 10 (h:=AQ 11 (h:=AF 12 (h:=AQ 13 (h:=AF 14 (h:=?_))))))))))))))))));refine c_ 15 rfl (AK (hcall) ?_);rintro r rfl;refine o_ (h:=BK 16 (h:=BK 17 (h:=BK 18 (h:=?_))));refine c_ 19 rfl (DJ [0,1] rfl (.cons _ _ _ _ _ rfl (AM _) (.cons _ _ _ _ _ rfl (AM _) (.cons _ _ _ _ _ rfl (AM _) (.cons _ _ _ _ _ rfl (AM _) .nil)))) (by decide) (.cons _ _ _ _ _ rfl rfl (.cons _ _ _ _ _ rfl (GG BL _ _ _) .nil)) (VX w cap R.1 R.2.1 R.2.2) ?_);rintro r bc tc ⟨rfl,rfl,rfl⟩;refine⟨rfl,_,J2 rfl (C5 w R).1 cap,?_⟩;refine o_ (h:=?_);refine c_ 20 rfl (Gl rfl ?_);refine o_ (h:=z_ (h:=t_ (q_ (?_))));refine BY (fun s=>s=⟨look [(0, .bp 0 0),(5, .bp 4 0),(9, .v (.int .i64 R.2.2)),(144, .v (.bool (decide (R.2.2=0)&&decide (0<(R.2.1.length:Int)))))],⟨[WA (C5 w R).1 cap,IB (C5 w R).1 cap,Ax f,Ax g,AB x],[]⟩⟩) ?_ ?_
 ·skip
  refine AX (m_ (h:=Ac (h:=m_ (h:=?_))));refine As true rfl rfl (fun hb13=>?_) (fun hb13=>?_)
  ·have hc13:=bp hb13;have hch:(C5 w R).1.r.changes=R.2.1:=by rw[Je hc13]
   refine m_ (h:=k_ (h:=f_ (h:=f_ (h:=l_ (h:=n_ (h:=CS (h:=AU (h:=AW (?_)))))))));refine AJ ?_;exact⟨_,rfl,Cw 5 0 (by simp[At,Aq,Ap,Bt BL,CL,WA,IB,Ct,Ax,AB])⟩
  have hc13:=bp hb13;refine A3 (h:=A3 (h:=A3 (h:=A3 (h:=A3 (h:=A3 (h:=A3 (h:=Ah (h:=AW (?_)))))))));refine AJ ?_;exact⟨_,rfl,Cw 5 0 (by simp[At,Aq,Ap,Bt BL,CL,WA,IB,Ct,Ax,AB])⟩
 rintro s rfl;refine A8 rfl (fun hb14=>?_) (fun hb14=>?_)
 ·have hc14:=bp hb14;have h0:R.2.2=0:=of_decide_eq_true ((Bool.and_eq_true _ _).mp hb14).1;have hfb:FlsB (FW (C5 w R).1 0 3).s.spc.files:=by rw[Je h0];exact(hok h0).1.b
  have hit:(C5 w R).1.r.items=w.r.items:=by rw[Je h0]
  have hxa:(C5 w R).1.r.items[0]?=some x0:=by rw[hit];exact hx0
  have hil1:0<(C5 w R).1.r.items.length:=by rw[hit];exact hil
  have hxr:(FW (C5 w R).1 0 3).r.items[1]?=some x1:=by
   show((C5 w R).1.r.items.modify 0 _)[1]?=_;rw[hit,List.getElem?_modify];simp[hx1]
  refine BY (fun s=>s=⟨look [(0, .bp 0 0),(5, .bp 4 0),(9, .v (.int .i64 R.2.2))],⟨[WA (FW (C5 w R).1 0 3) cap,IB (FW (C5 w R).1 0 3) cap,Ax f,Ax g,AB x],[]⟩⟩) ?_ ?_
  ·skip
   refine AX (m_ (h:=k_ (h:=f_ (h:=f_ (h:=l_ (h:=?_))))));refine A7 rfl (DG (m:=0) rfl rfl rfl hil1 ?_);refine f_ (h:=?_);refine Ld (B3 rfl rfl rfl rfl rfl rfl (Jc BL (x':={x0 with role:=3}) hxa (by repeat constructor) (List.cons_ne_nil _ _)) (by repeat constructor) ?_);refine AW (?_);refine AJ ?_;refine⟨_,rfl,?_⟩;rw[gX,gY hxa];exact DZ 5 0
  rintro s rfl;refine AX (m_ (h:=l_ (h:=?_)));refine A7 rfl (DJ [0,1] rfl (.cons _ _ _ _ _ rfl (AM _) (.cons _ _ _ _ _ rfl (AM _) (.cons _ _ _ _ _ rfl (AM _) .nil))) (by decide) (.cons _ _ _ _ _ rfl rfl (.cons _ _ _ _ _ rfl (GG BL _ _ _) .nil)) (Vc (FW (C5 w R).1 0 3) cap 1 x x1 hfb hxr) ?_);rintro r bc tc ⟨rfl,rfl,rfl⟩;refine⟨rfl,_,J2 rfl (H6 (FW (C5 w R).1 0 3) 1 x) cap,?_⟩;refine e_ (w_ (m_ (h:=a_ (h:=e_ (A6 (?_))))));refine EA (r:= .v (.int .i64 (EH w).2)) none (h5:=(by rw[hren,if_neg k1,if_neg k2,if_neg k3,if_neg k4,if_neg k5,if_neg k6,Ve hb14];exact AM _)) (h6:=⟨rfl,rfl,?_⟩);rw[hren,if_neg k1,if_neg k2,if_neg k3,if_neg k4,if_neg k5,if_neg k6,Ve hb14];rfl
 have hc14:=bp hb14;refine AN (w_ (m_ (h:=a_ (h:=e_ (A6 (?_))))));refine EA (r:= .v (.int .i64 (EH w).2)) none (h5:=(by rw[hren,if_neg k1,if_neg k2,if_neg k3,if_neg k4,if_neg k5,if_neg k6,Vf hb14];exact AM _)) (h6:=⟨rfl,rfl,?_⟩);rw[hren,if_neg k1,if_neg k2,if_neg k3,if_neg k4,if_neg k5,if_neg k6,Vf hb14];rfl
end
theorem hC{s:Spc}{fl:Bool}{p:AE}{ps:List AE}{a:A9}{lk:Nat}{τ:Lk}(h:Bv s fl p ps a lk= .inr τ):τ.name.size≤12:=by
 unfold Bv at h;split at h
 ·cases h
 split at h
 ·cases h
 rename_i h2
 repeat' split at h
 all_goals first|(cases h;done)|(injection h with h;subst h;first|exact BJ 12|exact Nat.le_of_not_lt h2)
theorem hG{s:Spc}{fl:Bool}:∀(k:Nat) (σ:Lk),σ.name.size≤12→(De s fl k σ).2.name.size≤12:=by
 intro k
 induction k with
 |zero=>intro σ h;exact h
 |succ k ih=>
   intro σ h;unfold De
   cases σ.ps with
   |nil=>exact h
   |cons p ps=>
     simp only
     cases hs:Bv s fl p ps σ.file σ.links with
     |inl e=>exact BJ 12
     |inr τ=>exact ih _ (hC hs)
theorem RQ(s:Spc)(st:A9)(p:AE)(fl:Bool):(Bb s st p fl).1.name.size≤12:=by
 unfold Bb;generalize (if Ck p=true then D9 s else st)=d
 repeat' split
 all_goals first|exact BJ 12|exact hG _ _ (BJ 12)
theorem hH{s:Spc}{cwd:A9}{fl:Bool}{X:List Itm×List Fnd×Int}{g:AE×Int}(h:∀f∈X.2.1,f.name.size≤12):(∀f∈(EP s cwd fl X g).2.1,f.name.size≤12)∧(EP s cwd fl X g).1.length=X.1.length+1∧(EP s cwd fl X g).2.1.length=X.2.1.length+1:=by
 unfold EP;split
 ·split
  ·refine⟨fun f hf=>?_,by simp,by simp⟩;rcases List.mem_append.1 hf with hf|hf
   ·exact h f hf
   rw[List.mem_singleton.1 hf];exact RQ _ _ _ _
  refine⟨fun f hf=>?_,by simp,by simp⟩;rcases List.mem_append.1 hf with hf|hf
  ·exact h f hf
  rw[List.mem_singleton.1 hf];exact RQ _ _ _ _
 refine⟨fun f hf=>?_,by simp,by simp⟩;rcases List.mem_append.1 hf with hf|hf
 ·exact h f hf
 rw[List.mem_singleton.1 hf];exact BJ 12
theorem hZ(s:Spc)(cwd:A9)(fl:Bool)(e:Int):∀(l:List (AE×Int)),(∀f∈(Hw s cwd fl l e).2.1,f.name.size≤12)∧(Hw s cwd fl l e).1.length=l.length∧(Hw s cwd fl l e).2.1.length=l.length:=by
 have key:∀(l:List (AE×Int)) (X:List Itm×List Fnd×Int),(∀f∈X.2.1,f.name.size≤12)→(∀f∈(l.foldl (EP s cwd fl) X).2.1,f.name.size≤12)∧(l.foldl (EP s cwd fl) X).1.length=X.1.length+l.length∧(l.foldl (EP s cwd fl) X).2.1.length=X.2.1.length+l.length:=by
  intro l
  induction l with
  |nil=>intro X h;exact⟨h,rfl,rfl⟩
  |cons g l ih=>
    intro X h;obtain⟨h1,h2,h3⟩:=hH (s:=s) (cwd:=cwd) (fl:=fl) (g:=g) h;obtain⟨k1,k2,k3⟩:=ih _ h1;rw[List.foldl_cons];refine⟨k1,?_,?_⟩
    ·rw[k2,h2,List.length_cons];omega
    rw[k3,h3,List.length_cons];omega
 intro l;have:=key l ([],[],e) (fun f hf=>by cases hf);refine⟨this.1,by rw[Hw,this.2.1];simp,by rw[Hw,this.2.2];simp⟩
theorem i4{c:Cal}(h:Bn c=0):(c.paths.length:Int)=(Dx c.num).2.2.1∧(Dx c.num).2.2.2.1≤(c.args.length:Int)∧(c.args.length:Int)≤(Dx c.num).2.2.2.2∧(∀p∈c.paths,p.size≤128)∧∀p∈c.args,p.size≤64:=by
 unfold Bn at h;split at h
 ·exact absurd h (by decide)
 split at h
 ·exact absurd h (by decide)
 split at h
 ·exact absurd h (by decide)
 rename_i h3;split at h
 ·exact absurd h (by decide)
 rename_i h4;split at h
 ·exact absurd h (by decide)
 rename_i h5;refine⟨by omega,by omega,by omega,fun p hp=>?_,fun p hp=>?_⟩
 ·refine Nat.le_of_not_lt fun hl=>h4 (List.any_eq_true.2 ⟨p,hp,decide_eq_true hl⟩)
 refine Nat.le_of_not_lt fun hl=>h5 (List.any_eq_true.2 ⟨p,hp,decide_eq_true hl⟩)
theorem i5{c0 c1 c2 c3 c4 c5:List AV}(w:Wrk)(rows:List (List AV))(n cap:Nat)(L:List Itm):Back [c0,c1,c2,c3,c4,c5] [5] [D0 w (.sl 8 rows none) (.bs 1 0 13 n cap),LB 13 CE L cap] [c0,c1,c2,c3,c4,D0 w (.sl 8 rows none) (.bs 6 0 13 n cap),LB 13 CE L cap]:=by
 have:=RF (bx:=[c0,c1,c2,c3,c4,c5]) (is:=[5]) (bc:=[D0 w (.sl 8 rows none) (.bs 1 0 13 n cap),LB 13 CE L cap]) (by simp) (by simp) (by simp);have e2:DH (E0 [5] [c0,c1,c2,c3,c4,c5].length) (LB 13 CE L cap)=LB 13 CE L cap:=GG BL _ _ _
 have hb:Dh [c0,c1,c2,c3,c4,c5] (E0 [5] [c0,c1,c2,c3,c4,c5].length) [5] [D0 w (.sl 8 rows none) (.bs 1 0 13 n cap),LB 13 CE L cap]=[c0,c1,c2,c3,c4,D0 w (.sl 8 rows none) (.bs 6 0 13 n cap),LB 13 CE L cap]:=by
  unfold Dh;unfold Dh;rw[List.map_cons,e2];rfl
 rw[hb]at this;exact this
theorem i6(s:Syst)(pid:Int)(c:Cal):(∀f∈(F9 s pid c).found,f.name.size≤12)∧(F9 s pid c).found.length=(c.paths.zip (Ce c)).length∧(F9 s pid c).r.items.length=(c.paths.zip (Ce c)).length:=by
 obtain⟨h1,h2,h3⟩:=hZ s.spc (Az s.tab pid).cwd (Cf c) (DN (Az s.tab pid) c) (c.paths.zip (Ce c));exact⟨h1,h3,h2⟩
section
theorem i7(w:Wrk)(F I:AV)(h9:w.c.num=9→0<w.c.args.length)(hsz:∀p∈w.c.args,p.size≤1000):AFn prog 63 [.fp (D0 w F I)] (fun r=>r= .v (.int .i64 (DN w.p w.c))):=by
 have hol:(w.p.opens.map Jb).length=w.p.opens.length:=List.length_map _;refine enter Tryz.func63 rfl rfl rfl rfl rfl 0 rfl ?_;refine w_ (a_ (h:=e_ (w_ (m_ (h:=k_ (h:=f_ (h:=f_ (h:=l_ (h:=Af (h:=s_ (h:=e_ (q_ (w_ (m_ (h:=k_ (h:=f_ (h:=f_ (h:=l_ (h:=e_ (Ao (w_ (Ac (h:=a_ (h:=?_))))))))))))))))))))))));refine e_ (?_);refine A8 rfl (fun hb1=>?_) (fun hb1=>?_)
 ·have hc1:=bp hb1;refine q_ (w_ (?_));refine A7 rfl (ER (len:=4) (sz:=1) (n:=0) (by kernel_rfl) rfl rfl rfl rfl ?_);refine l_ (h:=BO (h:=m_ (h:=?_)));refine As false rfl rfl (fun hb2=>?_) (fun hb2=>?_)
  ·have hc2:=bp hb2;refine A3 (h:=A3 (h:=A3 (h:=AU (h:=m_ (h:=A3 (h:=A3 (h:=A3 (h:=A3 (h:=AU (h:=m_ (h:=A3 (h:=A3 (h:=A3 (h:=A3 (h:=AU (h:=e_ (BQ (h:=w_ (a_ (h:=e_ (A6 (A4 (AR (?_))))))))))))))))))))))));refine A4 (?_);refine AA ?_
   first|(exfalso;first|contradiction|omega)|(exact vi (by simp[DN, *]))
  have hc2:=bp hb2;refine Aw (ER (len:=4) (sz:=1) (n:=0) (by kernel_rfl) rfl rfl rfl rfl ?_);refine l_ (h:=CS (h:=Ah (h:=m_ (h:=?_))));refine As false rfl rfl (fun hb3=>?_) (fun hb3=>?_)
  ·have hc3:=bp hb3;refine A3 (h:=A3 (h:=A3 (h:=A3 (h:=AU (h:=m_ (h:=A3 (h:=A3 (h:=A3 (h:=A3 (h:=AU (h:=e_ (BQ (h:=w_ (a_ (h:=e_ (A6 (A4 (AR (A4 (?_))))))))))))))))))));refine AA ?_
   first|(exfalso;first|contradiction|omega)|(exact vi (by simp[DN, *]))
  have hc3:=bp hb3;refine Aw (ER (len:=4) (sz:=1) (n:=0) (by kernel_rfl) rfl rfl rfl rfl ?_);refine l_ (h:=EL (h:=Ac (h:=Ah (h:=m_ (h:=?_)))));refine As false rfl rfl (fun hb4=>?_) (fun hb4=>?_)
  ·have hc4:=bp hb4;refine A3 (h:=A3 (h:=A3 (h:=A3 (h:=AU (h:=e_ (BQ (h:=w_ (a_ (h:=e_ (A6 (A4 (AR (A4 (?_))))))))))))));refine AA ?_
   first|(exfalso;first|contradiction|omega)|(exact vi (by simp[DN, *]))
  have hc4:=bp hb4;refine Aw (ER (len:=4) (sz:=1) (n:=1) (by kernel_rfl) rfl rfl rfl rfl ?_);refine l_ (h:=?_);refine Aw (AK (RH w.c.a1) ?_);rintro r rfl;refine BZ (h:=Ah (h:=e_ (?_)));refine A8 rfl (fun hb5=>?_) (fun hb5=>?_)
  ·have hc5:=bp hb5;refine w_ (a_ (h:=e_ (A6 (A4 (AR (A4 (?_)))))));refine AA ?_
   first|(exfalso;first|contradiction|omega)|(exact vi (by simp[DN, *]))
  have hc5:=bp hb5;refine AN (w_ (m_ (h:=k_ (h:=f_ (h:=f_ (h:=l_ (h:=n_ (h:=G6 (h:=e_ (?_))))))))));refine A8 rfl (fun hb6=>?_) (fun hb6=>?_)
  ·have hc6:=bp hb6;have h8:8≤(w.p.opens.length:Int):=by rw[List.length_map]at hc6;exact hc6
   refine w_ (a_ (h:=e_ (A6 (AR (A4 (?_))))));refine AA ?_
   first|(exfalso;first|contradiction|omega)|(exact vi (by simp[DN, *]))
  have hc6:=bp hb6;have h8:¬8≤(w.p.opens.length:Int):=by rw[List.length_map]at hc6;exact hc6
  refine BA (Au (t_ (w_ (a_ (h:=e_ (A6 (?_)))))));refine AA ?_
  first|(exfalso;first|contradiction|omega)|(exact vi (by simp[DN, *]))
 have hc1:=bp hb1;refine w_ (Ac (h:=a_ (h:=e_ (?_))));refine A8 rfl (fun hb7=>?_) (fun hb7=>?_)
 ·have hc7:=bp hb7;obtain⟨a0,ha0⟩:∃a,w.c.args[0]?=some a:=⟨_,BM (h9 hc7)⟩;have harg:(w.c.args.map FY)[0]?=some (FY a0):=by rw[List.getElem?_map,ha0];rfl
  have hag:L8 w.c=a0:=by unfold L8;rw[List.headD_eq_head?_getD,List.head?_eq_getElem?,ha0];rfl
  have hsa:=hsz a0 (Aj ha0);refine q_ (w_ (m_ (h:=k_ (h:=f_ (h:=f_ (h:=l_ (h:=?_)))))));refine A7 rfl (CM (n:=0) rfl rfl rfl harg ?_);refine l_ (h:=Ac (h:=e_ (?_)));refine A8 rfl (fun hb8=>?_) (fun hb8=>?_)
  ·have hc8:=bp hb8;refine w_ (a_ (h:=e_ (A6 (A4 (AR (A4 (?_)))))));refine AA ?_
   first|(exfalso;first|contradiction|omega)|(exact vi (by simp[DN, *]))
  have hc8:=bp hb8;refine AN (w_ (a_ (h:=e_ (Ao (?_)))));refine Bm (fun m s=>∃j:Nat,j≤a0.size∧m=a0.size - j∧(∀(i:Nat) (h:i<a0.data.toList.length),i<j→a0.data.toList[i]≠0)∧s=⟨look [(0, .fp (D0 w F I)),(4, .v (.int .i64 (j:Int)))],⟨[],[]⟩⟩) (a0.size) ((wk 0 0)) (⟨0,BJ _,rfl,fun i h1 h2=>by omega,rfl⟩) ?_;rintro m s ⟨j,hj,rfl,hz,rfl⟩;refine q_ (w_ (m_ (h:=m_ (h:=k_ (h:=f_ (h:=f_ (h:=l_ (h:=?_))))))));refine A7 rfl (CM (n:=0) rfl rfl rfl harg ?_);refine l_ (h:=n_ (h:=BO (h:=e_ (?_))));refine A8 rfl (fun hb9=>?_) (fun hb9=>?_)
  ·have hc9:=bp hb9;have hlt:j<a0.size:=by omega
   refine AN (q_ (Ao (w_ (m_ (h:=k_ (h:=f_ (h:=f_ (h:=l_ (h:=?_)))))))));refine A7 rfl (CM (n:=0) rfl rfl rfl harg ?_);refine l_ (h:=m_ (h:=?_));refine A7 rfl (Hk (n:=j) Tryz.underlying9 rfl rfl rfl hlt ?_);refine Ac (h:=e_ (?_));refine A8 rfl (fun hb10=>?_) (fun hb10=>?_)
   ·have hc10:=bp hb10
    have hany:(a0.data.toList.any fun b=>decide (b=0))=true:=by
     rw[List.any_eq_true];refine⟨a0.data.toList[j]'(by simpa using hlt),List.getElem_mem _,?_⟩;have h00:a0[j].toNat=0:=by have:=hc10;omega
     simp;exact UInt8.toNat_inj.1 h00
    refine w_ (a_ (h:=e_ (A6 (AR (A4 (A4 (AR (AR (A4 (?_))))))))));refine AA ?_
    first|(exfalso;first|contradiction|omega)|(exact vi (by simp[DN, *]))
   have hc10:=bp hb10
   have hne:a0.data.toList[j]'(by simpa using hlt)≠0:=by
    intro e;have h00:¬a0[j].toNat=0:=by have:=hc10;omega
    simp at e;exact h00 (congrArg UInt8.toNat e)
   refine BA (Au (t_ (AX (m_ (h:=B2 (h:=a_ (h:=AW (?_))))))));refine AJ ?_
   refine⟨_,_,?_,⟨j+1,by omega,rfl,(fun i h1 h2=>by
    by_cases e:i=j
    ·subst e;exact hne
    exact hz i h1 (by omega)),rfl⟩,(wk 0 0)⟩
   omega
  have hc9:=bp hb9
  have hany:(a0.data.toList.any fun b=>decide (b=0))=false:=by
   rw[List.any_eq_false];intro b hb;obtain⟨i,hi,rfl⟩:=List.mem_iff_getElem.1 hb;have:=hz i hi (by have hl:=Lib.size_eq a0;omega)
   simpa using this
  refine BU (Am (Am (BV (Au (t_ (w_ (a_ (h:=e_ (A6 (?_))))))))));refine AA ?_
  first|(exfalso;first|contradiction|omega)|(exact vi (by simp[DN, *]))
 have hc7:=bp hb7;refine q_ (w_ (Ac (h:=a_ (h:=e_ (?_)))));refine A8 rfl (fun hb11=>?_) (fun hb11=>?_)
 ·have hc11:=bp hb11;refine AN (BQ (h:=w_ (?_)));refine A7 rfl (ER (len:=4) (sz:=1) (n:=0) (by kernel_rfl) rfl rfl rfl rfl ?_);refine l_ (h:=?_);refine A7 rfl (AK (RH w.c.a0) ?_);rintro r rfl;refine BZ (h:=e_ (?_));refine A8 rfl (fun hb12=>?_) (fun hb12=>?_)
  ·have hc12:=bp hb12;refine w_ (a_ (h:=e_ (A6 (AR (A4 (?_))))));refine AA ?_
   first|(exfalso;first|contradiction|omega)|(exact vi (by simp[DN, *]))
  have hc12:=bp hb12;refine BA (Au (t_ (w_ (a_ (h:=e_ (A6 (?_)))))));refine AA ?_
  first|(exfalso;first|contradiction|omega)|(exact vi (by simp[DN, *]))
 have hc11:=bp hb11;refine AX (Ac (h:=a_ (h:=e_ (?_))));refine A8 rfl (fun hb13=>?_) (fun hb13=>?_)
 ·have hc13:=bp hb13;refine w_ (?_);refine A7 rfl (ER (len:=4) (sz:=1) (n:=0) (by kernel_rfl) rfl rfl rfl rfl ?_);refine l_ (h:=?_);refine A7 rfl (AK (RH w.c.a0) ?_);rintro r rfl;refine BZ (h:=e_ (?_));refine A8 rfl (fun hb14=>?_) (fun hb14=>?_)
  ·have hc14:=bp hb14;refine w_ (a_ (h:=e_ (A6 (AR (A4 (?_))))));refine AA ?_
   first|(exfalso;first|contradiction|omega)|(exact vi (by simp[DN, *]))
  have hc14:=bp hb14;refine BA (Au (t_ (w_ (a_ (h:=e_ (A6 (?_)))))));refine AA ?_
  first|(exfalso;first|contradiction|omega)|(exact vi (by simp[DN, *]))
 have hc13:=bp hb13;refine w_ (Ac (h:=a_ (h:=e_ (?_))));refine A8 rfl (fun hb15=>?_) (fun hb15=>?_)
 ·have hc15:=bp hb15;refine w_ (?_);refine A7 rfl (ER (len:=4) (sz:=1) (n:=0) (by kernel_rfl) rfl rfl rfl rfl ?_);refine l_ (h:=BO (h:=m_ (h:=?_)));refine As false rfl rfl (fun hb16=>?_) (fun hb16=>?_)
  ·have hc16:=bp hb16;refine A3 (h:=A3 (h:=A3 (h:=AU (h:=m_ (h:=A3 (h:=A3 (h:=A3 (h:=AU (h:=m_ (h:=A3 (h:=A3 (h:=A3 (h:=AU (h:=e_ (BQ (h:=w_ (a_ (h:=e_ (A6 (AR (A4 (?_))))))))))))))))))))));refine AA ?_
   first|(exfalso;first|contradiction|omega)|(exact vi (by simp[DN, *]))
  have hc16:=bp hb16;refine Aw (ER (len:=4) (sz:=1) (n:=0) (by kernel_rfl) rfl rfl rfl rfl ?_);refine l_ (h:=CS (h:=Ah (h:=m_ (h:=?_))));refine As false rfl rfl (fun hb17=>?_) (fun hb17=>?_)
  ·have hc17:=bp hb17;refine A3 (h:=A3 (h:=A3 (h:=AU (h:=m_ (h:=A3 (h:=A3 (h:=A3 (h:=AU (h:=e_ (BQ (h:=w_ (a_ (h:=e_ (A6 (AR (A4 (?_)))))))))))))))));refine AA ?_
   first|(exfalso;first|contradiction|omega)|(exact vi (by simp[DN, *]))
  have hc17:=bp hb17;refine Aw (ER (len:=4) (sz:=1) (n:=1) (by kernel_rfl) rfl rfl rfl rfl ?_);refine l_ (h:=BO (h:=Ah (h:=m_ (h:=?_))));refine As false rfl rfl (fun hb18=>?_) (fun hb18=>?_)
  ·have hc18:=bp hb18;refine A3 (h:=A3 (h:=A3 (h:=AU (h:=e_ (BQ (h:=w_ (a_ (h:=e_ (A6 (AR (A4 (?_))))))))))));refine AA ?_
   first|(exfalso;first|contradiction|omega)|(exact vi (by simp[DN, *]))
  have hc18:=bp hb18;refine Aw (ER (len:=4) (sz:=1) (n:=1) (by kernel_rfl) rfl rfl rfl rfl ?_);refine l_ (h:=CS (h:=Ah (h:=e_ (?_))));refine A8 rfl (fun hb19=>?_) (fun hb19=>?_)
  ·have hc19:=bp hb19;refine w_ (a_ (h:=e_ (A6 (AR (A4 (?_))))));refine AA ?_
   first|(exfalso;first|contradiction|omega)|(exact vi (by simp[DN, *]))
  have hc19:=bp hb19;refine BA (Au (t_ (w_ (a_ (h:=e_ (A6 (?_)))))));refine AA ?_
  first|(exfalso;first|contradiction|omega)|(exact vi (by simp[DN, *]))
 have hc15:=bp hb15;refine w_ (Ac (h:=a_ (h:=e_ (?_))));refine A8 rfl (fun hb20=>?_) (fun hb20=>?_)
 ·have hc20:=bp hb20;refine w_ (m_ (h:=k_ (h:=f_ (h:=f_ (h:=l_ (h:=BX (h:=e_ (?_))))))));refine A8 rfl (fun hb21=>?_) (fun hb21=>?_)
  ·have hc21:=bp hb21;refine w_ (a_ (h:=e_ (A6 (AR (A4 (?_))))));refine AA ?_
   first|(exfalso;first|contradiction|omega)|(exact vi (by simp[DN, *]))
  have hc21:=bp hb21;refine BA (Au (t_ (w_ (a_ (h:=e_ (A6 (?_)))))));refine AA ?_
  first|(exfalso;first|contradiction|omega)|(exact vi (by simp[DN, *]))
 have hc20:=bp hb20;refine w_ (Ac (h:=a_ (h:=e_ (?_))));refine A8 rfl (fun hb22=>?_) (fun hb22=>?_)
 ·have hc22:=bp hb22;refine w_ (?_);refine A7 rfl (ER (len:=4) (sz:=1) (n:=0) (by kernel_rfl) rfl rfl rfl rfl ?_);refine l_ (h:=BO (h:=e_ (?_)));refine A8 rfl (fun hb23=>?_) (fun hb23=>?_)
  ·have hc23:=bp hb23;refine w_ (a_ (h:=e_ (A6 (AR (A4 (?_))))));refine AA ?_
   first|(exfalso;first|contradiction|omega)|(exact vi (by simp[DN, *]))
  have hc23:=bp hb23;refine BA (Au (t_ (w_ (a_ (h:=e_ (A6 (?_)))))));refine AA ?_
  first|(exfalso;first|contradiction|omega)|(exact vi (by simp[DN, *]))
 have hc22:=bp hb22;refine BA (Au (t_ (w_ (a_ (h:=e_ (A6 (?_)))))));refine AA ?_
 first|(exfalso;first|contradiction|omega)|(exact vi (by simp[DN, *]))
end
def HG(n:Int):Int:=IntKind.i64.wrap (0 - n)
def Ec(s:Syst)(pid:Int)(c:Cal):Syst×Res:=
 if E5 s.tab pid=false then(s,{Fr with exit:= -4})else if Bn c≠0 then(s,{Fr with exit:= -22})
 else if(GF s (Az s.tab pid) c).2.2≠0 then(s,{Fr with exit:=HG (GF s (Az s.tab pid) c).2.2,items:=(GF s (Az s.tab pid) c).1})
 else if(DT (F9 s pid c)).2≠0 then(s,{Fr with exit:=HG (DT (F9 s pid c)).2,items:=(GF s (Az s.tab pid) c).1})
 else((DT (F9 s pid c)).1.s,(DT (F9 s pid c)).1.r)
def Vg(R:Syst×Res):AV:= .tup [.agg (Cs R.1), .agg (FA R.2)]
theorem i8{α:Type}{sz:Nat}{F:α→List AV}(hF:RowF sz F)(l:List α)(cap0 cap:Nat):((LB sz F l cap0).drop 0).take (l.length * sz)++List.replicate ((cap - l.length) * sz) .any=LB sz F l cap:=by
 unfold LB;have h:=Sm (cap:=cap0) (KH hF l);rw[List.length_map]at h;rw[h];unfold CJ;rw[List.length_map]
def LD:List AV:=[.v (.slice none 0 0), .v (.slice none 0 0), .v (.int .i64 0), .v (.int .i64 0), .v (.slice none 0 0)]
def LE:List AV:=[.v (.int .i64 0), .v (.int .i64 0), .v (.int .i64 0), .v (.slice none 0 0), .v (.slice none 0 0)]
def KK(r:Res)(I:AV):List AV:=[.v (.int .i64 r.exit), .v (.int .i64 r.child), .v (.int .i64 r.gone),I, .sl 7 (r.changes.map CN) none]
def HQ(s:Syst)(pid:Int)(c:Cal):Wrk:=⟨s,Az s.tab pid,c,[],Fr⟩
theorem i9(s:Syst)(pid:Int)(c:Cal):LeA (.agg (Cs s++(Bl (Az s.tab pid)++(EQ c++[.v (.slice none 0 0), .v (.int .i64 0), .v (.int .i64 0), .v (.int .i64 0), .v (.slice none 0 0), .v (.slice none 0 0)])))) (.agg (D0 (HQ s pid c) (.v (.slice none 0 0)) (.v (.slice none 0 0)))):=by
 refine LeA.agg ?_
 repeat (first|exact LeL.nil|refine LeL.cons (AM _) ?_|refine LeL.cons (LeA.nil _) ?_)
theorem RR(w:Wrk)(R:Dl):(C5 w R).1.r.items.length=w.r.items.length:=by
 unfold C5;split<;>rfl
theorem iA(w:Wrk)(R:Tab×Int):(Dy w R).1.r.items.length=w.r.items.length:=by
 unfold Dy;split<;>rfl
theorem Vh(w:Wrk)(i:Nat)(a:A9):(H6 w i a).r.items.length=w.r.items.length:=List.length_modify ..
theorem iB(w:Wrk)(i:Nat)(r:Int):(FW w i r).r.items.length=w.r.items.length:=List.length_modify ..
theorem Vi(w:Wrk)(i:Nat)(n:Nod):(Cr w i n).1.r.items.length=w.r.items.length:=by
 unfold Cr;split
 ·rw[Vh,RR]
 rfl
theorem Vj(w:Wrk)(a:A9):(J0 w a).1.r.items.length=w.r.items.length:=by
 unfold J0;rw[iA];rfl
theorem iC(w:Wrk):(CK w).1.r.items.length=w.r.items.length:=by
 unfold CK
 repeat' split
 all_goals first|rfl|exact Vi _ _ _|exact Vj _ _|exact(Vj _ _).trans (Vi _ _ _)
theorem iD(w:Wrk)(R:Dl)(x:A9):(H7 w R x).1.r.items.length=w.r.items.length:=by
 unfold H7
 repeat' split
 all_goals first|rfl|exact RR _ _|exact(Vh _ _ _).trans ((iB _ _ _).trans (RR _ _))
theorem iE(w:Wrk):(EH w).1.r.items.length=w.r.items.length:=by
 unfold EH
 repeat' split
 all_goals first|rfl|exact iD _ _ _
theorem iF{w:Wrk}(h:w.c.num=6∨w.c.num=13):(DT w).1.r.items.length=w.r.items.length:=by
 rcases h with h|h
 ·rw[DT,if_pos h];exact iC w
 rw[DT,if_neg (show¬w.c.num=6 by omega),if_neg (show¬w.c.num=8 by omega),if_neg (show¬(w.c.num=10∨w.c.num=12) by omega),if_pos h];exact iE w
section
variable {P:Program}{ev:Operand→Option AV}{h:AH}{R:AV→AH→Prop}{d:Option Tmp}{ty:TypeId}{pos:String}{af:Array Edge}{gd:Option (Nat×Bool)}
theorem iG{T:TypeId}{x:Operand}{a:Int}(hx:ev x=some (.v (.int .i64 a)))(hR:R (.v (.int .i64 (HG a))) h):AStep P ⟨d, .unOp .neg T x,ty,pos,af,gd⟩ ev h R:=
 Cv (fun _ G w ec _ he=>⟨.int .i64 (HG a),by
  have h1:=he x (by simp[Op.operands]) _ hx;simp only[rep]at h1
  simp[execOp,h1,Op.unary,Op.intArith,HG],by simp only[rep]⟩) hR
end
section
theorem iH(w:Wrk)(cap:Nat)(hv:SpcV w.s.spc)(hm:w.s.spc.mounts.length≤1000)(htb:TabB w.s.tab)(hnm:∀f∈w.found,f.name.size≤12)(h6:(w.c.num=6∧1≤w.found.length∧1≤w.r.items.length)∨(w.c.num=13∧2≤w.found.length∧2≤w.r.items.length)):ACall prog 64 [.bp 0 0] [WA w cap,IB w cap] (fun r b t=>t=[]∧r= .v (.int .i64 (DT w).2)∧b=[WA (DT w).1 cap,IB (DT w).1 cap]):=by
 have hps:w.s.tab.ps.length≤1000:=by have:=htb.few;omega
 refine enter Tryz.func64 rfl rfl rfl rfl rfl 2 rfl ?_;refine w_ (a_ (h:=e_ (q_ (w_ (m_ (h:=k_ (h:=f_ (h:=f_ (h:=l_ (h:=e_ (Ao (w_ (Ac (h:=a_ (h:=e_ (?_))))))))))))))));refine A8 rfl (fun hb1=>?_) (fun hb1=>?_)
 ·have hc1:=bp hb1;obtain⟨f,hf⟩:∃f,w.found[0]?=some f:=⟨_,BM (by omega)⟩;obtain⟨x,hx⟩:∃x,w.r.items[0]?=some x:=⟨_,BM (by omega)⟩;have hact:DT w=CK w:=by rw[DT,if_pos hc1]
  refine w_ (m_ (h:=?_));refine A7 rfl (DJ [0,1] rfl (.cons _ _ _ _ _ rfl (AM _) .nil) (by decide) (.cons _ _ _ _ _ rfl rfl (.cons _ _ _ _ _ rfl (GG BL _ _ _) .nil)) (gW w cap f x hv hm htb hf hx (by have:=hnm f (Aj hf);omega)) ?_);rintro r bc tc ⟨rfl,rfl,rfl⟩;refine⟨rfl,_,J2 rfl (CK w).1 cap,?_⟩;refine a_ (h:=e_ (A6 (AR (A4 (?_)))));refine EA (r:= .v (.int .i64 (DT w).2)) none (h5:=(by rw[hact];exact AM _)) (h6:=⟨rfl,rfl,?_⟩);rw[hact];rfl
 have hc1:=bp hb1;refine w_ (Ac (h:=a_ (h:=e_ (?_))));refine A8 rfl (fun hb2=>?_) (fun hb2=>?_)
 ·have hc2:=bp hb2;exfalso;first|contradiction|omega
 have hc2:=bp hb2;refine q_ (w_ (Ac (h:=a_ (h:=e_ (?_)))));refine A8 rfl (fun hb3=>?_) (fun hb3=>?_)
 ·have hc3:=bp hb3;exfalso;first|contradiction|omega
 have hc3:=bp hb3;refine AX (Ac (h:=a_ (h:=e_ (?_))));refine A8 rfl (fun hb4=>?_) (fun hb4=>?_)
 ·have hc4:=bp hb4;exfalso;first|contradiction|omega
 have hc4:=bp hb4;refine w_ (Ac (h:=a_ (h:=e_ (?_))));refine A8 rfl (fun hb5=>?_) (fun hb5=>?_)
 ·have hc5:=bp hb5;obtain⟨f,hf⟩:∃f,w.found[0]?=some f:=⟨_,BM (by omega)⟩;obtain⟨g,hg⟩:∃f,w.found[1]?=some f:=⟨_,BM (by omega)⟩;obtain⟨x,hx⟩:∃x,w.r.items[0]?=some x:=⟨_,BM (by omega)⟩;obtain⟨x1,hx1⟩:∃x,w.r.items[1]?=some x:=⟨_,BM (by omega)⟩;have hact:DT w=EH w:=by rw[DT,if_neg (show¬w.c.num=6 by omega),if_neg (show¬w.c.num=8 by omega),if_neg (show¬(w.c.num=10∨w.c.num=12) by omega),if_pos hc5]
  refine w_ (m_ (h:=?_));refine A7 rfl (DJ [0,1] rfl (.cons _ _ _ _ _ rfl (AM _) .nil) (by decide) (.cons _ _ _ _ _ rfl rfl (.cons _ _ _ _ _ rfl (GG BL _ _ _) .nil)) (gZ w cap f g x x1 hv hm hps hf hg hx hx1 (by have:=hnm f (Aj hf);omega) (by have:=hnm g (Aj hg);omega)) ?_);rintro r bc tc ⟨rfl,rfl,rfl⟩;refine⟨rfl,_,J2 rfl (EH w).1 cap,?_⟩;refine a_ (h:=e_ (A6 (AR (A4 (?_)))));refine EA (r:= .v (.int .i64 (DT w).2)) none (h5:=(by rw[hact];exact AM _)) (h6:=⟨rfl,rfl,?_⟩);rw[hact];rfl
 have hc5:=bp hb5;exfalso;first|contradiction|omega
theorem RS(s:Syst)(pid:Int)(c:Cal)(hv:SpcV s.spc)(hm:s.spc.mounts.length≤1000)(ht:TabB s.tab)(hcp:c.paths.length≤1000)(hca:c.args.length≤1000)(h6:c.num=6∨c.num=13):AFn prog 30 [.agg (Cs s), .v (.int .i64 pid), .agg (EQ c)] (fun r=>r=Vg (Ec s pid c)):=by
 have hsb:=hv.b hm;obtain⟨W1,hW1⟩:∃W,W=F9 s pid c:=⟨_,rfl⟩;have hwf:=i6 s pid c;rw[←hW1]at hwf;have hWs:W1.s=s:=by rw[hW1];rfl
 have hWc:W1.c=c:=by rw[hW1];rfl
 refine enter Tryz.func30 rfl rfl rfl rfl rfl 0 rfl ?_;refine w_ (b_ (h:=b_ (h:=Af (h:=Af (h:=e_ (w_ (f_ (h:=l_ (h:=m_ (h:=?_))))))))));refine A7 rfl (AK (V2 s.tab pid ht) ?_);rintro r rfl;refine m_ (h:=x_ (h:=x_ (h:=Af (h:=s_ (h:=a_ (h:=e_ (q_ (w_ (m_ (h:=BZ (h:=e_ (?_))))))))))));refine A8 rfl (fun hb1=>?_) (fun hb1=>?_)
 ·have hc1:=bp hb1;have hno:E5 s.tab pid=false:=by simpa using hc1
  refine w_ (l_ (h:=?_));refine A7 rfl (AK (Oa s hsb ht) ?_);rintro r rfl;refine A7 rfl (FJ (y:= .agg (FA {Fr with exit:= -4})) (DK ⟨rfl,rfl⟩) ?_);refine s_ (h:=s_ (h:=e_ (A6 (A4 (?_)))));refine AA ?_;rw[Ec,if_pos hno];rfl
 have hc1:=bp hb1;have hno:¬E5 s.tab pid=false:=by simpa using hc1
 refine AN (q_ (w_ (l_ (h:=?_))));refine A7 rfl (AK (dV c hcp hca) ?_);rintro r rfl;refine BX (h:=e_ (?_));refine A8 rfl (fun hb2=>?_) (fun hb2=>?_)
 ·have hc2:=bp hb2;have hck:Bn c≠0:=by simpa using hc2
  refine w_ (l_ (h:=?_));refine A7 rfl (AK (Oa s hsb ht) ?_);rintro r rfl;refine A7 rfl (FJ (y:= .agg (FA {Fr with exit:= -22})) (DK ⟨rfl,rfl⟩) ?_);refine s_ (h:=s_ (h:=e_ (A6 (A4 (?_)))));refine AA ?_;rw[Ec,if_neg hno,if_pos hck];rfl
 have hc2:=bp hb2;have hck:Bn c=0:=by simpa using hc2
 obtain⟨hk1,hk2,hk3,hk4,hk5⟩:=i4 hck;have hargs:∀p∈(HQ s pid c).c.args,p.size≤1000:=fun p hp=>by have:=hk5 p hp;omega
 have hpaths:∀p∈(HQ s pid c).c.paths,p.size≤100000:=fun p hp=>by have:=hk4 p hp;omega
 have hpn:(c.num=6∧c.paths.length=1∧(Ce c).length=1)∨(c.num=13∧c.paths.length=2∧(Ce c).length=2):=by
  rcases h6 with h|h
  ·refine .inl ⟨h,?_,?_⟩
   ·rw[h]at hk1;have:(Dx 6).2.2.1=1:=rfl;omega
   simp[Ce,h]
  refine .inr ⟨h,?_,?_⟩
  ·rw[h]at hk1;have:(Dx 13).2.2.1=2:=rfl;omega
  simp[Ce,h]
 have hpp:(HQ s pid c).c.paths.length=(Ce (HQ s pid c).c).length:=by show c.paths.length=(Ce c).length;omega
 have hp0:0<(HQ s pid c).c.paths.length:=by show 0<c.paths.length;omega
 have hzl:(c.paths.zip (Ce c)).length=c.paths.length:=by rw[List.length_zip];omega
 have hil0:0<W1.r.items.length:=by rw[hwf.2.2,hzl];omega
 refine AN (q_ (Bi ([(0,Cs s),(1,EQ c),(4,Bl (Az s.tab pid))]) 7 (h:=?_)))
 first|refine AF 0 (h:=?_)|refine B4 0 rfl (fun _ hS=>Cp (row:=Cs s) rfl (kb hS rfl) (B6 rfl) rfl ⟨rfl,rfl⟩) ?_|refine B4 0 rfl (fun _ hS=>Cp (row:=EQ c) rfl (kb hS rfl) (B6 rfl) rfl ⟨rfl,rfl⟩) ?_|refine B4 0 rfl (fun _ hS=>Cp (row:=Bl (Az s.tab pid)) rfl (kb hS rfl) (B6 rfl) rfl ⟨rfl,rfl⟩) ?_
 first|refine AF 2 (h:=?_)|refine B4 2 rfl (fun _ hS=>Cp (row:=Cs s) rfl (kb hS rfl) (B6 rfl) rfl ⟨rfl,rfl⟩) ?_|refine B4 2 rfl (fun _ hS=>Cp (row:=EQ c) rfl (kb hS rfl) (B6 rfl) rfl ⟨rfl,rfl⟩) ?_|refine B4 2 rfl (fun _ hS=>Cp (row:=Bl (Az s.tab pid)) rfl (kb hS rfl) (B6 rfl) rfl ⟨rfl,rfl⟩) ?_
 first|refine AF 3 (h:=?_)|refine B4 3 rfl (fun _ hS=>Cp (row:=Cs s) rfl (kb hS rfl) (B6 rfl) rfl ⟨rfl,rfl⟩) ?_|refine B4 3 rfl (fun _ hS=>Cp (row:=EQ c) rfl (kb hS rfl) (B6 rfl) rfl ⟨rfl,rfl⟩) ?_|refine B4 3 rfl (fun _ hS=>Cp (row:=Bl (Az s.tab pid)) rfl (kb hS rfl) (B6 rfl) rfl ⟨rfl,rfl⟩) ?_
 refine c_ 1 rfl (AK (Oa s hsb ht) ?_);rintro r rfl;refine o_ (h:=?_);refine B4 4 rfl (fun _ hS=>F0 (y:= .agg (D0 (HQ s pid c) (.v (.slice none 0 0)) (.v (.slice none 0 0)))) (DK ⟨rfl,rfl⟩) (i9 s pid c) ⟨rfl,rfl⟩) ?_
 first|refine c_ 5 rfl (PF rfl rfl (by repeat constructor) ?_)|refine c_ 5 rfl (PD rfl rfl (by repeat constructor) ?_)
 refine o_ (h:=BN 6 (h:=z_ (h:=t_ (?_))));refine BY (fun S=>∃cap,W1.r.items.length≤cap∧S=⟨look [(3, .bp 2 0),(6, .bp 3 0),(7, .bp 4 0),(10, .bp 0 0),(11, .v (.int .i64 (GF s (Az s.tab pid) c).2.2))],⟨[WA W1 cap,IB W1 cap,Cs s,LD,LE],[]⟩⟩) ?_ ?_
 ·skip
  refine AX (m_ (h:=m_ (h:=?_)));refine A7 rfl (ET 1 rfl (.cons _ _ _ _ _ rfl (LeA.of_eq rfl) .nil) (i7 (HQ s pid c) (.v (.slice none 0 0)) (.v (.slice none 0 0)) (fun h=>by have:c.num=9:=h;omega) hargs) ?_);rintro r rfl;refine⟨rfl,?_⟩;refine A7 rfl (DJ [5] rfl (.cons _ _ _ _ _ rfl (AM _) (.cons _ _ _ _ _ rfl (AM _) .nil)) (by decide) (.cons _ _ _ _ _ rfl rfl .nil) (gR (HQ s pid c) (DN (Az s.tab pid) c) hv hm hpp (by show c.paths.length≤1000;omega) hp0 hpaths) ?_);rintro r bc tc ⟨rfl,cap,hcap,rfl,rfl⟩;refine⟨rfl,_,i5 (HQ s pid c) _ _ cap _,?_⟩;refine a_ (h:=AW (?_));refine AJ ?_;rw[hW1];exact⟨_,⟨cap,hcap,rfl⟩,EU [5,6,0,2,3] (fun i hi=>absurd hi (Nat.not_lt_zero i)) (by decide) (.cons _ _ _ _ _ rfl rfl (.cons _ _ _ _ _ rfl (H9 BL _ _ _) (.cons _ _ _ _ _ rfl rfl (.cons _ _ _ _ _ rfl rfl (.cons _ _ _ _ _ rfl rfl .nil))))) (by repeat (first|exact SubK.nil|refine SubK.cons _ _ _ _ rfl (AM _) ?_))⟩
 rintro S ⟨cap,hcap,rfl⟩;refine w_ (m_ (h:=k_ (h:=f_ (h:=f_ (h:=l_ (h:=?_))))));refine A7 rfl (Na rfl rfl (SrcA.bs 1 0 _ cap _ rfl (by rw[show IB W1 cap=LB 13 CE W1.r.items cap from rfl,RC BL hcap];omega)) hil0 (by rw[hwf.2.2,hzl];omega) ?_);rintro cap2 k bx2 hcp2 hs;rw[show((IB W1 cap).drop 0).take (W1.r.items.length * 13)++List.replicate ((cap2 - W1.r.items.length) * 13) AV.any=LB 13 CE W1.r.items cap2 from i8 BL _ cap cap2]at hs;obtain⟨rfl,rfl⟩:k=5∧bx2=[_,_,_,_,_,_]:=hs.eq;refine a_ (h:=e_ (?_));refine BY (fun S=>∃(W2:Wrk) (E2:Int),((¬(GF s (Az s.tab pid) c).2.2=0∧E2=(GF s (Az s.tab pid) c).2.2)∨((GF s (Az s.tab pid) c).2.2=0∧W2=(DT W1).1∧E2=(DT W1).2))∧S=⟨look [(3, .bp 2 0),(6, .bp 3 0),(7, .bp 4 0),(10, .bp 0 0),(11, .v (.int .i64 E2)),(12, .bs 5 0 13 W1.r.items.length cap2)],⟨[WA W2 cap,IB W2 cap,Cs s,LD,LE,LB 13 CE W1.r.items cap2],[]⟩⟩) ?_ ?_
 ·skip
  refine w_ (m_ (h:=Ac (h:=e_ (?_))));refine A8 rfl (fun hb3=>?_) (fun hb3=>?_)
  ·have hc3:=bp hb3;have he1:(GF s (Az s.tab pid) c).2.2=0:=by simpa using hc3
   refine AX (m_ (h:=?_));refine A7 rfl (DJ [0,1] rfl (.cons _ _ _ _ _ rfl (AM _) .nil) (by decide) (.cons _ _ _ _ _ rfl rfl (.cons _ _ _ _ _ rfl (GG BL _ _ _) .nil)) (iH W1 cap (by rw[hWs];exact hv) (by rw[hWs];exact hm) (by rw[hWs];exact ht) hwf.1 (by rw[hWc,hwf.2.1,hwf.2.2,hzl];omega)) ?_);rintro r bc tc ⟨rfl,rfl,rfl⟩;refine⟨rfl,_,J2 rfl (DT W1).1 cap,?_⟩;refine a_ (h:=AW (?_));refine AJ ?_
   first|exact⟨_,⟨(DT W1).1,(DT W1).2, .inr ⟨he1,rfl,rfl⟩,rfl⟩,B7 6 0 rfl rfl rfl (by simp[At,Aq,Ap,Bt BL,CL,WA,IB,Ct,Cs,LD,LE]) ((by repeat (first|exact Sub.nil|refine B9 rfl rfl ?_|refine BC ?_|refine BD rfl ?_|refine BE rfl ?_)))⟩|exact⟨_,⟨W1,_, .inl ⟨he1,rfl⟩,rfl⟩,B7 6 0 rfl rfl rfl (by simp[At,Aq,Ap,Bt BL,CL,WA,IB,Ct,Cs,LD,LE]) ((by repeat (first|exact Sub.nil|refine B9 rfl rfl ?_|refine BC ?_|refine BD rfl ?_|refine BE rfl ?_)))⟩
  have hc3:=bp hb3;have he1:¬(GF s (Az s.tab pid) c).2.2=0:=by simpa using hc3
  refine BA (?_);refine AJ ?_
  first|exact⟨_,⟨(DT W1).1,(DT W1).2, .inr ⟨he1,rfl,rfl⟩,rfl⟩,B7 6 0 rfl rfl rfl (by simp[At,Aq,Ap,Bt BL,CL,WA,IB,Ct,Cs,LD,LE]) ((by repeat (first|exact Sub.nil|refine B9 rfl rfl ?_|refine BC ?_|refine BD rfl ?_|refine BE rfl ?_)))⟩|exact⟨_,⟨W1,_, .inl ⟨he1,rfl⟩,rfl⟩,B7 6 0 rfl rfl rfl (by simp[At,Aq,Ap,Bt BL,CL,WA,IB,Ct,Cs,LD,LE]) ((by repeat (first|exact Sub.nil|refine B9 rfl rfl ?_|refine BC ?_|refine BD rfl ?_|refine BE rfl ?_)))⟩
 rintro S ⟨W2,E2,hQ,rfl⟩;refine q_ (w_ (m_ (h:=BX (h:=e_ (?_)))));refine A8 rfl (fun hb4=>?_) (fun hb4=>?_)
 ·have hc4:=bp hb4;have he2:E2≠0:=by simpa using hc4
  have hrun:Ec s pid c=(s,{Fr with exit:=HG E2,items:=W1.r.items}):=by
   rw[Ec,if_neg hno,if_neg (by simp[hck])];rcases hQ with⟨q1,q2⟩|⟨q1,q2,q3⟩
   ·rw[if_pos q1,←q2,hW1];rfl
   rw[if_neg (by simp[q1]),←hW1,←q3,if_pos he2,hW1];rfl
  refine BY (fun S=>S=⟨look [(6, .bp 0 0),(7, .bp 1 0)],⟨[Cs s,KK {Fr with exit:=HG E2} (.sl 13 (W1.r.items.map CE) none)],[]⟩⟩) ?_ ?_
  ·skip
   refine AX (l_ (h:=?_));refine A7 rfl (AK (Oa s hsb ht) ?_);rintro r rfl;refine m_ (h:=?_);refine A7 rfl (iG rfl ?_);refine m_ (h:=?_);refine A7 rfl (FJ (y:= .agg (KK {Fr with exit:=HG E2} (.bs 5 0 13 W1.r.items.length cap2))) (DK ⟨rfl,rfl⟩) ?_);refine s_ (h:=s_ (h:=AW (?_)));refine AJ ?_;refine⟨_,rfl,(EU [3,4,5] (rows:=[Cs s,KK {Fr with exit:=HG E2} (.bs 2 0 13 W1.r.items.length cap2),LB 13 CE W1.r.items cap2]) (l:=[(6, .bp 0 0),(7, .bp 1 0)]) (fun i hi=>absurd hi (Nat.not_lt_zero i)) (by decide) (.cons _ _ _ _ _ rfl rfl (.cons _ _ _ _ _ rfl rfl (.cons _ _ _ _ _ rfl (H9 BL _ _ _) .nil))) (by repeat (first|exact SubK.nil|refine SubK.cons _ _ _ _ rfl (AM _) ?_))).trans (F3 2 1 rfl (congrArg (fun x=>[Cs s,KK {Fr with exit:=HG E2} x]) (RE BL rfl rfl hcp2)) (.cons _ _ _ _ rfl (AM _) (.cons _ _ _ _ rfl (AM _) .nil)))⟩
  rintro S rfl;refine A6 (A4 (?_));refine B0 (r:=Vg (Ec s pid c)) none (h5:=(by rw[hrun];exact(by repeat (first|exact AM _|exact LeA.nil _|exact LeL.refl _|refine LeA.agg ?_|refine LeA.tup ?_|exact LeL.nil|refine LeL.cons ?_ ?_|exact LeA.any _)))) (h6:=⟨rfl,rfl,rfl⟩)
 have hc4:=bp hb4;have he2:E2=0:=by simpa using hc4
 have hlen2:W2.r.items.length≤cap:=by
  rcases hQ with⟨q1,q2⟩|⟨q1,q2,q3⟩
  ·exact absurd (q2.symm.trans he2) q1
  rw[q2,iF (by rw[hWc];exact h6)];exact hcap
 have hrun:Ec s pid c=(W2.s,W2.r):=by
  rcases hQ with⟨q1,q2⟩|⟨q1,q2,q3⟩
  ·exact absurd (q2.symm.trans he2) q1
  rw[Ec,if_neg hno,if_neg (by simp[hck]),if_neg (by simp[q1]),←hW1,←q3,if_neg (by simp[he2]),q2]
 refine AN (?_);refine BY (fun S=>S=⟨look [(6, .bp 0 0),(7, .bp 1 0)],⟨[Cs W2.s,KK W2.r (.sl 13 (W2.r.items.map CE) none)],[]⟩⟩) ?_ ?_
 ·skip
  refine Bi ([(0,WA W2 cap)]) 10 (h:=AP 0 (h:=BW 1 (h:=AQ 2 (h:=AF 3 (h:=AP 4 (h:=BW 5 (h:=AQ 6 (h:=AF 7 (h:=?_)))))))));refine B8 8 rfl (B3 rfl rfl rfl rfl rfl rfl (by repeat constructor) (by repeat constructor) ?_);refine o_ (h:=?_);refine B8 9 rfl (B3 rfl rfl rfl rfl rfl rfl (by repeat constructor) (by repeat constructor) ?_);refine o_ (h:=z_ (h:=?_));refine AJ ?_;refine⟨_,rfl,(EU [3,4,1] (rows:=[Cs W2.s,KK W2.r (.bs 2 0 13 W2.r.items.length cap),LB 13 CE W2.r.items cap]) (l:=[(6, .bp 0 0),(7, .bp 1 0)]) (fun i hi=>absurd hi (Nat.not_lt_zero i)) (by decide) (.cons _ _ _ _ _ rfl rfl (.cons _ _ _ _ _ rfl rfl (.cons _ _ _ _ _ rfl (H9 BL _ _ _) .nil))) (by repeat (first|exact SubK.nil|refine SubK.cons _ _ _ _ rfl (AM _) ?_))).trans (F3 2 1 rfl (congrArg (fun x=>[Cs W2.s,KK W2.r x]) (RE BL rfl rfl hlen2)) (.cons _ _ _ _ rfl (AM _) (.cons _ _ _ _ rfl (AM _) .nil)))⟩
 rintro S rfl;refine A6 (?_);refine AA ?_;rw[hrun];rfl
end
structure Wch where
 kind:Int
 dir:A9
 name:AE
 file:A9
deriving DecidableEq
def FB:Wch:=⟨0,(0,0),⟨#[]⟩,(0,0)⟩
def DO(w:Wch):List AV:=[.v (.int .i64 w.kind), .v (.int .i64 w.dir.1), .v (.int .i64 w.dir.2), .v (.string w.name), .v (.int .i64 w.file.1), .v (.int .i64 w.file.2)]
def FC(s:Spc)(a:A9):Bool:=Ag s.files a&&C4 s a.1
def Em(s:Spc)(k:Int)(p:AE):Wch×Int:=
 if(k≠1∧k≠2)∨Dp p.data.toList=false then(FB,22)
 else if(Bb s (0,0) p (decide (k=2))).2≠0 then(FB,(Bb s (0,0) p (decide (k=2))).2)
 else if k=2 then
  (if(Bb s (0,0) p true).1.ex=false then(FB,2)else if Ag s.files (Bb s (0,0) p true).1.file=false then(FB,20)
  else(⟨k,(0,0),⟨#[]⟩,(Bb s (0,0) p true).1.file⟩,0))
 else if(Bb s (0,0) p false).1.name=⟨#[]⟩then(FB,22)
 else(⟨k,(Bb s (0,0) p false).1.dir,(Bb s (0,0) p false).1.name,(AD s.files (Bb s (0,0) p false).1.dir (Bb s (0,0) p false).1.name).1⟩,0)
def KL(s:Spc)(w:Wch):Bool:=
 if w.kind=1 then FC s w.dir&&decide ((AD s.files w.dir w.name).1=w.file)&&D4 w.name
 else if w.kind=2 then FC s w.file&&decide (w.dir=(0,0))&&decide (w.name=⟨#[]⟩)else false
def Mm(s:Spc)(a b:A9):Bool:=decide (a∈BT s (Bd s.files) b)
def D2(s:Spc)(w:Wch)(dir:A9)(name:AE)(file:A9):Bool:=
 if w.kind=1 then(decide (w.file≠(0,0))&&decide (file=w.file))||(decide (name≠⟨#[]⟩)&&decide (dir=w.dir)&&decide (name=w.name))
 else if w.kind=2 then Mm s w.file dir||Mm s w.file file else false
def D3(w:Wch):A9:=if w.kind=2 then w.file else w.dir
def Fv(s:Spc)(w:Wch):Wch×Bool:=
 if(w.kind≠1∧w.kind≠2)∨FC s (D3 w)=false then(FB,false)
 else if w.kind=1 then({w with file:=(AD s.files w.dir w.name).1},true)else(w,true)
def RT(w:Wch)(l:List Bp):Wch:=if w.kind=1 then{w with file:=l.foldl (fun a c=>if c.1=w.dir∧c.2.1=w.name then c.2.2.2 else a) w.file}else w
def Oc(w:Wch)(gone:Int)(l:List Bp):Wch×Bool:=
 if(w.kind≠1∧w.kind≠2)∨(gone≠0∧gone=(D3 w).1)∨((l.any fun c=>decide (c.2.2.1=D3 w))=true∧(l.any fun c=>decide (c.2.2.2=D3 w))=false)then(FB,false)
 else(RT w l,true)
theorem iJ{s:Spc}{fl:Bool}{p:AE}{ps:List AE}{a:A9}{lk:Nat}{τ:Lk}(h:Bv s fl p ps a lk= .inr τ)(hn:τ.name≠⟨#[]⟩):τ.dir=a∧Ag s.files a=true:=by
 unfold Bv at h;split at h
 ·cases h
 rename_i c
 repeat' split at h
 all_goals first|(cases h;done)|(injection h with h;subst h;first|exact absurd rfl hn|exact⟨rfl,by simpa using c⟩)
section
variable {s:Spc}(hv:SpcV s)
include hv
theorem RU:Ag s.files (0,1)=true:=R5 hv (Int.le_refl 0) (by have:=hv.pos;omega)
theorem Vk{a:A9}(h:ED s a=true):FC s a=true:=by
 have h2:=L3 ((Mi hv a).1 h).1.1;unfold FC;rw[h2.1,h2.2];rfl
theorem iK{fl:Bool}:∀(k:Nat) (σ:Lk),(Ag s.files σ.file=true→ED s σ.file=true)→(σ.name≠⟨#[]⟩→ED s σ.dir=true)→(De s fl k σ).1=0→(De s fl k σ).2.name≠⟨#[]⟩→ED s (De s fl k σ).2.dir=true:=by
 intro k
 induction k with
 |zero=>intro σ _ h _ hn;exact h hn
 |succ k ih=>
   intro σ h1 h2;unfold De
   cases σ.ps with
   |nil=>exact fun _=>h2
   |cons p ps=>
     simp only
     cases hs:Bv s fl p ps σ.file σ.links with
     |inl e=>exact fun c=>absurd c (VC hs)
     |inr τ=>exact ih τ (VB hv (RU hv) h1 hs) fun hn=>by obtain⟨e1,e2⟩:=iJ hs hn;rw[e1];exact h1 e2
theorem iL{k:Int}{p:AE}(h:(Em s k p).2=0):KL s (Em s k p).1=true:=by
 unfold Em at h ⊢;split at h
 ·exact absurd h (by decide)
 rename_i c1;rw[if_neg c1];have hr:ED s (D9 s)=true:=Mj hv (RJ hv (RU hv));split at h
 ·rename_i c2;exact absurd h c2
 rename_i c2;rw[if_neg c2]
 have hfnd:∀fl,(Bb s (0,0) p fl).2=0→∃σ,(De s (fl||BF p) (EE σ) σ).1=0∧(Ag s.files σ.file=true→ED s σ.file=true)∧(σ.name≠⟨#[]⟩→ED s σ.dir=true)∧(Bb s (0,0) p fl).1=Fq s (BF p) (De s (fl||BF p) (EE σ) σ).2:=by
  intro fl h0;unfold Bb at h0 ⊢
  have hst:Ag s.files (if Ck p=true then D9 s else(0,0))=true→ED s (if Ck p=true then D9 s else(0,0))=true:=by
   split
   ·exact fun _=>hr
   intro h;rw[RK hv]at h;cases h
  generalize (if Ck p=true then D9 s else(0,0))=d at h0 hst ⊢
  repeat' split at h0
  all_goals first|(exact absurd h0 (by decide);done)|(rename_i c;exact absurd h0 c;done)|skip
  rename_i d1 d2 d3 d4 d5;refine⟨FV (Cd p) d,by have:=d4;unfold Df at this;simpa using this,hst,fun hn=>absurd rfl hn,?_⟩;rw[if_neg d1,if_neg d2,if_neg d3,if_neg d4,if_neg d5];rfl
 split at h
 ·rename_i c3;rw[if_pos c3];split at h
  ·exact absurd h (by decide)
  rename_i c4;rw[if_neg c4];split at h
  ·exact absurd h (by decide)
  rename_i c5;rw[if_neg c5];have c5:Ag s.files (Bb s (0,0) p true).1.file=true:=by simpa using c5
  have c2:(Bb s (0,0) p true).2=0:=by
   have:=c2;rw[decide_eq_true c3]at this
   simpa using this
  obtain⟨σ,h1,h2,h3,h4⟩:=hfnd true c2
  have hv2:ED s (Bb s (0,0) p true).1.file=true:=by
   rw[h4]at c5 ⊢;exact eK hv (RU hv) _ σ h2 h1 c5
  unfold KL;simp only;rw[if_neg (by omega),if_pos c3,Vk hv hv2];rfl
 rename_i c3;rw[if_neg c3];split at h
 ·exact absurd h (by decide)
 rename_i c4;rw[if_neg c4]
 have hk:k=1:=by
  simp only[not_or,not_and,Decidable.not_not]at c1;exact Decidable.byContradiction fun hk=>c3 (c1.1 hk)
 have c2:(Bb s (0,0) p false).2=0:=by
  have:=c2;rw[decide_eq_false c3]at this
  simpa using this
 obtain⟨σ,h1,h2,h3,h4⟩:=hfnd false c2
 have hv2:ED s (Bb s (0,0) p false).1.dir=true:=by
  rw[h4]at c4 ⊢;exact iK hv _ σ h2 h3 h1 c4
 have hnm:D4 (Bb s (0,0) p false).1.name=true:=by
  obtain⟨τ,ht,he⟩:=eS hv (st:=(0,0)) (p:=p) (fl:=false) (x:=(Bb s (0,0) p false).1) (Prod.ext rfl c2);rw[he]at c4 ⊢;rcases ht with ht|ht
  ·exact absurd ht.1 c4
  exact ht.1
 unfold KL;simp only;rw[if_pos hk,Vk hv hv2,hnm];simp
end
theorem KM(a b:A9)(w:World):(binOp .eql 33 (.agg #[.int .i64 a.1, .int .i64 a.2]) (.agg #[.int .i64 b.1, .int .i64 b.2])).run prog w= .ok (.bool (decide (a=b))) w:=Ke a.1 a.2 b.1 b.2 w
theorem iM(a b:A9)(w:World):(binOp .neq 33 (.agg #[.int .i64 a.1, .int .i64 a.2]) (.agg #[.int .i64 b.1, .int .i64 b.2])).run prog w= .ok (.bool (!decide (a=b))) w:=PX a.1 a.2 b.1 b.2 w
def RV(R:Wch×Int):AV:= .tup [.agg (DO R.1), .v (.int .i64 R.2)]
def Od(R:Wch×Bool):AV:= .tup [.agg (DO R.1), .v (.bool R.2)]
theorem Vl(s:Spc)(k:Int)(p:AE)(F:Fnd×Int)(hF:Bb s (0,0) p (decide (k=2))=F):Em s k p=if(k≠1∧k≠2)∨Dp p.data.toList=false then(FB,22)else if F.2≠0 then(FB,F.2)
    else if k=2 then(if F.1.ex=false then(FB,2)else if Ag s.files F.1.file=false then(FB,20)else(⟨k,(0,0),⟨#[]⟩,F.1.file⟩,0))
    else if F.1.name=⟨#[]⟩then(FB,22)else(⟨k,F.1.dir,F.1.name,(AD s.files F.1.dir F.1.name).1⟩,0):=by
 unfold Em;rw[hF];by_cases h:k=2
 ·rw[decide_eq_true h]at hF;simp only[if_pos h,hF]
 rw[decide_eq_false h]at hF;simp only[if_neg h,hF]
theorem iN{f:AT}{dir:A9}{name:AE}(h:(AD f dir name).2≠0):(AD f dir name).1=(0,0):=by
 unfold AD at h ⊢;split
 ·rfl
 rename_i n e;rw[e]at h;simp only at h;split at h
 ·rename_i c;rw[if_pos c];split
  ·rfl
  rename_i e2;rw[e2]at h;exact absurd rfl h
 rename_i c;rw[if_neg c]
section
theorem Vm(s:AE)(hs:s.size≤60000):AFn prog 52 [.v (.string s)] (fun r=>r= .v (.bool (Dp s.data.toList))):=NP (us:=[.string s]) fun w=>fC s w (by omega)
theorem RW(s:Spc)(a:A9)(hs:SpcB s):AFn prog 47 [.agg (Ar s), .agg (AB a)] (fun r=>r= .v (.bool (Ag s.files a))):=by
 refine enter Tryz.func47 rfl rfl rfl rfl rfl 0 rfl ?_;refine w_ (b_ (h:=b_ (h:=a_ (h:=e_ (w_ (f_ (h:=l_ (h:=l_ (h:=?_)))))))));refine A7 rfl (AK (Gw s.files a hs.files) ?_);rintro r rfl;refine m_ (h:=x_ (h:=x_ (h:=Af (h:=s_ (h:=a_ (h:=e_ (w_ (m_ (h:=m_ (h:=?_))))))))));refine As true rfl rfl (fun hb1=>?_) (fun hb1=>?_)
 ·have hc1:=bp hb1;refine f_ (h:=l_ (h:=Ac (h:=AU (h:=a_ (h:=e_ (A6 (?_)))))));refine AA ?_
  first|(exfalso;first|contradiction|omega)|(exact vb (by simp[G7, *]))
 have hc1:=bp hb1;refine A3 (h:=A3 (h:=A3 (h:=Ah (h:=a_ (h:=e_ (A6 (?_)))))));refine AA ?_
 first|(exfalso;first|contradiction|omega)|(exact vb (by simp[G7, *]))
theorem Vn(s:Spc)(a:A9)(hs:SpcB s):AFn prog 44 [.agg (Ar s), .agg (AB a)] (fun r=>r= .v (.bool (FC s a))):=by
 refine enter Tryz.func44 rfl rfl rfl rfl rfl 0 rfl ?_;refine w_ (b_ (h:=b_ (h:=a_ (h:=e_ (w_ (l_ (h:=l_ (h:=?_))))))));refine A7 rfl (AK (RW s a hs) ?_);rintro r rfl;refine m_ (h:=?_);refine As true rfl rfl (fun hb1=>?_) (fun hb1=>?_)
 ·have hc1:=bp hb1;refine l_ (h:=f_ (h:=l_ (h:=?_)));refine Aw (AK (Sh s a.1 hs) ?_);rintro r rfl;refine AU (h:=a_ (h:=e_ (A6 (?_))));refine AA ?_
  first|(exfalso;first|contradiction|omega)|(exact vb (by simp[FC, *]))
 have hc1:=bp hb1;refine A3 (h:=A3 (h:=A3 (h:=A3 (h:=Ah (h:=a_ (h:=e_ (A6 (?_))))))));refine AA ?_
 first|(exfalso;first|contradiction|omega)|(exact vb (by simp[FC, *]))
theorem Vo(s:Spc)(a:A9)(name:AE)(hs:SpcB s):AFn prog 46 [.agg (Ar s), .agg (AB a), .v (.string name)] (fun r=>r= .agg (AB (AD s.files a name).1)):=by
 refine enter Tryz.func46 rfl rfl rfl rfl rfl 0 rfl ?_;refine w_ (b_ (h:=b_ (h:=Af (h:=e_ (w_ (f_ (h:=l_ (h:=l_ (h:=m_ (h:=?_))))))))));refine A7 rfl (AK (RM s.files a name hs.files) ?_);rintro r rfl;refine m_ (h:=x_ (h:=x_ (h:=Af (h:=s_ (h:=a_ (h:=e_ (q_ (w_ (m_ (h:=BX (h:=e_ (?_))))))))))));refine A8 rfl (fun hb1=>?_) (fun hb1=>?_)
 ·have hc1:=bp hb1;refine w_ (Aa (h:=s_ (h:=e_ (A6 (A4 (?_))))));refine AA ?_;rw[iN (by simpa using hc1)];rfl
 have hc1:=bp hb1;refine AN (w_ (l_ (h:=s_ (h:=e_ (A6 (?_))))));refine AA ?_;rfl
theorem RX(w:Wch)(hk:w.kind=1∨w.kind=2):AFn prog 45 [.agg (DO w)] (fun r=>r= .agg (AB (D3 w))):=by
 refine enter Tryz.func45 rfl rfl rfl rfl rfl 0 rfl ?_;refine w_ (b_ (h:=Af (h:=e_ (q_ (w_ (f_ (h:=l_ (h:=Ac (h:=e_ (?_))))))))));refine A8 rfl (fun hb1=>?_) (fun hb1=>?_)
 ·have hc1:=bp hb1;refine w_ (f_ (h:=l_ (h:=s_ (h:=e_ (A6 (A4 (?_)))))));refine AA ?_;rw[D3,if_neg (by omega)];rfl
 have hc1:=bp hb1;refine AN (w_ (f_ (h:=l_ (h:=s_ (h:=e_ (A6 (?_)))))));refine AA ?_;rw[D3,if_pos (by omega)];rfl
theorem RY(s:Spc)(k:Int)(p:AE)(hv:SpcV s)(hm:s.mounts.length≤1000)(hp:p.size≤50000):AFn prog 27 [.agg (Ar s), .v (.int .i64 k), .v (.string p)] (fun r=>r=RV (Em s k p)):=by
 have hsb:=hv.b hm;obtain⟨F,hF⟩:∃F,Bb s (0,0) p (decide (k=2))=F:=⟨_,rfl⟩;have hw:=Vl s k p F hF;have hfind:AFn prog 58 [.agg (Ar s), .agg (AB (0,0)), .v (.string p), .v (.bool (decide (k=2)))] (fun r=>r= .tup [.agg (Ax F.1), .v (.int .i64 F.2)]):=by rw[←hF];exact VR s (0,0) p _ (hv.n hm) hv (by omega)
 refine enter Tryz.func27 rfl rfl rfl rfl rfl 0 rfl ?_;refine w_ (b_ (h:=Af (h:=a_ (h:=e_ (q_ (?_))))));refine BY (fun S=>S=⟨look [(1, .v (.int .i64 k)),(2, .v (.string p)),(3, .bp 0 0),(6, .bp 1 0),(22, .v (.bool ((!decide (k=1)&& !decide (k=2))|| !Dp p.data.toList)))],⟨[Ar s,[.v (.int .i64 0), .v (.int .i64 0), .v (.int .i64 0), .v (.string ⟨#[]⟩), .v (.int .i64 0), .v (.int .i64 0)]],[]⟩⟩) ?_ ?_
 ·skip
  refine AX (m_ (h:=BX (h:=m_ (h:=?_))));refine As true rfl rfl (fun hb1=>?_) (fun hb1=>?_)
  ·have hc1:=bp hb1;refine m_ (h:=BX (h:=AU (h:=m_ (h:=?_))));refine As false rfl rfl (fun hb2=>?_) (fun hb2=>?_)
   ·have hc2:=bp hb2;refine A3 (h:=A3 (h:=A3 (h:=AU (h:=AW (?_)))));refine AJ ?_;exact⟨_,rfl,Cw 2 0 rfl⟩
   have hc2:=bp hb2;refine m_ (h:=?_);refine Aw (AK (Uh p hp) ?_);rintro r rfl;refine BZ (h:=Ah (h:=AW (?_)));refine AJ ?_;exact⟨_,rfl,Cw 2 0 rfl⟩
  have hc1:=bp hb1;refine A3 (h:=A3 (h:=Ah (h:=m_ (h:=m_ (h:=?_)))));refine Aw (AK (Uh p hp) ?_);rintro r rfl;refine BZ (h:=Ah (h:=AW (?_)));refine AJ ?_;exact⟨_,rfl,Cw 2 0 rfl⟩
 rintro S rfl;refine A8 rfl (fun hb3=>?_) (fun hb3=>?_)
 ·have hc3:=bp hb3;have k1:(k≠1∧k≠2)∨Dp p.data.toList=false:=by simpa using hc3
  refine w_ (Aa (h:=s_ (h:=a_ (h:=e_ (A6 (A4 (?_)))))));refine AA ?_;rw[hw,if_pos k1];rfl
 have hc3:=bp hb3;have k1:¬((k≠1∧k≠2)∨Dp p.data.toList=false):=by simpa using hc3
 refine AN (w_ (l_ (h:=Aa (h:=m_ (h:=m_ (h:=Ac (h:=?_)))))));refine A7 rfl (AK (hfind) ?_);rintro r rfl;refine m_ (h:=x_ (h:=x_ (h:=Af (h:=s_ (h:=a_ (h:=e_ (q_ (w_ (m_ (h:=BX (h:=e_ (?_))))))))))));refine A8 rfl (fun hb4=>?_) (fun hb4=>?_)
 ·have hc4:=bp hb4;have k2:F.2≠0:=by simpa using hc4
  refine w_ (Aa (h:=m_ (h:=s_ (h:=a_ (h:=e_ (A6 (A4 (?_))))))));refine AA ?_;rw[hw,if_neg k1,if_pos k2];rfl
 have hc4:=bp hb4;have k2:¬F.2≠0:=by simpa using hc4
 refine AN (q_ (w_ (m_ (h:=Ac (h:=e_ (?_))))));refine A8 rfl (fun hb5=>?_) (fun hb5=>?_)
 ·have hc5:=bp hb5;have k3:k=2:=hc5;refine q_ (w_ (f_ (h:=l_ (h:=BZ (h:=e_ (?_))))));refine A8 rfl (fun hb6=>?_) (fun hb6=>?_)
  ·have hc6:=bp hb6;have k4:F.1.ex=false:=by simpa using hc6
   refine w_ (Aa (h:=s_ (h:=a_ (h:=e_ (A6 (A4 (A4 (?_))))))));refine AA ?_;rw[hw,if_neg k1,if_neg k2,if_pos k3,if_pos k4];rfl
  have hc6:=bp hb6;have k4:¬F.1.ex=false:=by simpa using hc6
  refine AN (q_ (w_ (f_ (h:=l_ (h:=f_ (h:=l_ (h:=?_)))))));refine A7 rfl (AK (Fi s.files F.1.file hsb.files) ?_);rintro r rfl;refine BZ (h:=e_ (?_));refine A8 rfl (fun hb7=>?_) (fun hb7=>?_)
  ·have hc7:=bp hb7;have k5:Ag s.files F.1.file=false:=by simpa using hc7
   refine w_ (Aa (h:=s_ (h:=a_ (h:=e_ (A6 (A4 (A4 (?_))))))));refine AA ?_;rw[hw,if_neg k1,if_neg k2,if_pos k3,if_neg k4,if_pos k5];rfl
  have hc7:=bp hb7;have k5:¬Ag s.files F.1.file=false:=by simpa using hc7
  refine AN (w_ (m_ (h:=f_ (h:=l_ (h:=Aa (h:=s_ (h:=a_ (h:=e_ (A6 (A4 (?_)))))))))));refine AA ?_;rw[hw,if_neg k1,if_neg k2,if_pos k3,if_neg k4,if_neg k5];rfl
 have hc5:=bp hb5;have k3:¬k=2:=hc5;refine AN (q_ (w_ (f_ (h:=l_ (h:=Ac (h:=e_ (?_)))))));refine A8 rfl (fun hb8=>?_) (fun hb8=>?_)
 ·have hc8:=bp hb8;have k6:F.1.name=⟨#[]⟩:=hc8;refine w_ (Aa (h:=s_ (h:=a_ (h:=e_ (A6 (A4 (?_)))))));refine AA ?_;rw[hw,if_neg k1,if_neg k2,if_neg k3,if_pos k6];rfl
 have hc8:=bp hb8;have k6:¬F.1.name=⟨#[]⟩:=hc8;refine AN (w_ (f_ (h:=l_ (h:=f_ (h:=l_ (h:=f_ (h:=l_ (h:=?_))))))));refine A7 rfl (AK (GO s.files F.1.dir F.1.name hsb.files) ?_);rintro r rfl;refine m_ (h:=x_ (h:=x_ (h:=Af (h:=s_ (h:=a_ (h:=e_ (w_ (m_ (h:=f_ (h:=l_ (h:=f_ (h:=l_ (h:=l_ (h:=Aa (h:=s_ (h:=a_ (h:=e_ (A6 (?_)))))))))))))))))));refine AA ?_;rw[hw,if_neg k1,if_neg k2,if_neg k3,if_neg k6];rfl
theorem iO(s:Spc)(k:Int)(p:AE)(hv:SpcV s)(hm:s.mounts.length≤1000)(hp:p.size≤50000):AFn prog 20 [.agg (Ar s), .v (.int .i64 k), .v (.string p)] (fun r=>r=RV (Em s k p)):=by
 have hsb:=hv.b hm;obtain⟨F,hF⟩:∃F,Bb s (0,0) p (decide (k=2))=F:=⟨_,rfl⟩;have hw:=Vl s k p F hF;have hfind:AFn prog 53 [.agg (Ar s), .agg (AB (0,0)), .v (.string p), .v (.bool (decide (k=2)))] (fun r=>r= .tup [.agg (Ax F.1), .v (.int .i64 F.2)]):=by rw[←hF];exact gD s (0,0) p _ (hv.n hm) hv (by omega)
 refine enter Tryz.func20 rfl rfl rfl rfl rfl 0 rfl ?_;refine w_ (b_ (h:=Af (h:=a_ (h:=e_ (q_ (?_))))));refine BY (fun S=>S=⟨look [(1, .v (.int .i64 k)),(2, .v (.string p)),(3, .bp 0 0),(6, .bp 1 0),(20, .v (.bool ((!decide (k=1)&& !decide (k=2))|| !Dp p.data.toList)))],⟨[Ar s,[.v (.int .i64 0), .v (.int .i64 0), .v (.int .i64 0), .v (.string ⟨#[]⟩), .v (.int .i64 0), .v (.int .i64 0)]],[]⟩⟩) ?_ ?_
 ·skip
  refine AX (m_ (h:=BX (h:=m_ (h:=?_))));refine As true rfl rfl (fun hb1=>?_) (fun hb1=>?_)
  ·have hc1:=bp hb1;refine m_ (h:=BX (h:=AU (h:=m_ (h:=?_))));refine As false rfl rfl (fun hb2=>?_) (fun hb2=>?_)
   ·have hc2:=bp hb2;refine A3 (h:=A3 (h:=A3 (h:=AU (h:=AW (?_)))));refine AJ ?_;exact⟨_,rfl,Cw 2 0 rfl⟩
   have hc2:=bp hb2;refine m_ (h:=?_);refine Aw (AK (Vm p (by omega)) ?_);rintro r rfl;refine BZ (h:=Ah (h:=AW (?_)));refine AJ ?_;exact⟨_,rfl,Cw 2 0 rfl⟩
  have hc1:=bp hb1;refine A3 (h:=A3 (h:=Ah (h:=m_ (h:=m_ (h:=?_)))));refine Aw (AK (Vm p (by omega)) ?_);rintro r rfl;refine BZ (h:=Ah (h:=AW (?_)));refine AJ ?_;exact⟨_,rfl,Cw 2 0 rfl⟩
 rintro S rfl;refine A8 rfl (fun hb3=>?_) (fun hb3=>?_)
 ·have hc3:=bp hb3;have k1:(k≠1∧k≠2)∨Dp p.data.toList=false:=by simpa using hc3
  refine w_ (Aa (h:=s_ (h:=a_ (h:=e_ (A6 (A4 (?_)))))));refine AA ?_;rw[hw,if_pos k1];rfl
 have hc3:=bp hb3;have k1:¬((k≠1∧k≠2)∨Dp p.data.toList=false):=by simpa using hc3
 refine AN (w_ (l_ (h:=Aa (h:=m_ (h:=m_ (h:=Ac (h:=?_)))))));refine A7 rfl (AK (hfind) ?_);rintro r rfl;refine m_ (h:=x_ (h:=x_ (h:=Af (h:=s_ (h:=a_ (h:=e_ (q_ (w_ (m_ (h:=BX (h:=e_ (?_))))))))))));refine A8 rfl (fun hb4=>?_) (fun hb4=>?_)
 ·have hc4:=bp hb4;have k2:F.2≠0:=by simpa using hc4
  refine w_ (Aa (h:=m_ (h:=s_ (h:=a_ (h:=e_ (A6 (A4 (?_))))))));refine AA ?_;rw[hw,if_neg k1,if_pos k2];rfl
 have hc4:=bp hb4;have k2:¬F.2≠0:=by simpa using hc4
 refine AN (q_ (w_ (m_ (h:=Ac (h:=e_ (?_))))));refine A8 rfl (fun hb5=>?_) (fun hb5=>?_)
 ·have hc5:=bp hb5;have k3:¬k=2:=by omega
  refine q_ (w_ (f_ (h:=l_ (h:=Ac (h:=e_ (?_))))));refine A8 rfl (fun hb6=>?_) (fun hb6=>?_)
  ·have hc6:=bp hb6;have k6:F.1.name=⟨#[]⟩:=hc6;refine w_ (Aa (h:=s_ (h:=a_ (h:=e_ (A6 (A4 (A4 (?_))))))));refine AA ?_;rw[hw,if_neg k1,if_neg k2,if_neg k3,if_pos k6];rfl
  have hc6:=bp hb6;have k6:¬F.1.name=⟨#[]⟩:=hc6;refine AN (q_ (Bi ([(0,Ar s),(2,Ax F.1)]) 14 (h:=AP 0 (h:=AQ 1 (h:=?_)))))
  first|refine AF 2 (h:=?_)|refine B4 2 rfl (fun _ hS=>Cp (row:=Ar s) rfl (kb hS rfl) (B6 rfl) rfl ⟨rfl,rfl⟩) ?_
  refine AQ 3 (h:=?_)
  first|refine AF 4 (h:=?_)|refine B4 4 rfl (fun _ hS=>Cp (row:=Ar s) rfl (kb hS rfl) (B6 rfl) rfl ⟨rfl,rfl⟩) ?_
  first|refine AF 5 (h:=?_)|refine B4 5 rfl (fun _ hS=>Cp (row:=Ar s) rfl (kb hS rfl) (B6 rfl) rfl ⟨rfl,rfl⟩) ?_
  refine AQ 6 (h:=?_)
  first|refine AF 7 (h:=?_)|refine B4 7 rfl (fun _ hS=>Cp (row:=Ar s) rfl (kb hS rfl) (B6 rfl) rfl ⟨rfl,rfl⟩) ?_
  refine AQ 8 (h:=?_)
  first|refine AF 9 (h:=?_)|refine B4 9 rfl (fun _ hS=>Cp (row:=Ar s) rfl (kb hS rfl) (B6 rfl) rfl ⟨rfl,rfl⟩) ?_
  refine c_ 10 rfl (AK (Vo s F.1.dir F.1.name hsb) ?_);rintro r rfl;refine o_ (h:=Fh 11 (h:=?_));refine B8 12 rfl (B3 rfl rfl rfl rfl rfl rfl (by repeat constructor) (by repeat constructor) ?_);refine o_ (h:=BN 13 (h:=z_ (h:=t_ (A6 (A4 (?_))))));refine AA ?_;rw[hw,if_neg k1,if_neg k2,if_neg k3,if_neg k6];rfl
 have hc5:=bp hb5;have k3:k=2:=by simp at k1;omega
 refine AN (q_ (w_ (f_ (h:=l_ (h:=BZ (h:=e_ (?_)))))));refine A8 rfl (fun hb7=>?_) (fun hb7=>?_)
 ·have hc7:=bp hb7;have k4:F.1.ex=false:=by simpa using hc7
  refine w_ (Aa (h:=s_ (h:=a_ (h:=e_ (A6 (A4 (?_)))))));refine AA ?_;rw[hw,if_neg k1,if_neg k2,if_pos k3,if_pos k4];rfl
 have hc7:=bp hb7;have k4:¬F.1.ex=false:=by simpa using hc7
 refine AN (q_ (w_ (l_ (h:=f_ (h:=l_ (h:=?_))))));refine A7 rfl (AK (RW s F.1.file hsb) ?_);rintro r rfl;refine BZ (h:=e_ (?_));refine A8 rfl (fun hb8=>?_) (fun hb8=>?_)
 ·have hc8:=bp hb8;have k5:Ag s.files F.1.file=false:=by simpa using hc8
  refine w_ (Aa (h:=s_ (h:=a_ (h:=e_ (A6 (A4 (?_)))))));refine AA ?_;rw[hw,if_neg k1,if_neg k2,if_pos k3,if_neg k4,if_pos k5];rfl
 have hc8:=bp hb8;have k5:¬Ag s.files F.1.file=false:=by simpa using hc8
 refine AN (w_ (m_ (h:=f_ (h:=l_ (h:=Aa (h:=s_ (h:=a_ (h:=e_ (A6 (?_))))))))));refine AA ?_;rw[hw,if_neg k1,if_neg k2,if_pos k3,if_neg k4,if_neg k5];rfl
end
def Ge:List AV:=[.v (.int .i64 0), .v (.int .i64 0), .v (.int .i64 0), .v (.string ⟨#[]⟩), .v (.int .i64 0), .v (.int .i64 0)]
theorem Vp{α:Type}{l:List α}{j:Nat}{x:α}(h:l[j]?=some x)(p:α→Bool):(l.take (j+1)).any p=((l.take j).any p||p x):=by
 rw[List.take_add_one,h,List.any_append];simp
def KN(w:Wch)(l:List Bp):A9:=l.foldl (fun a c=>if c.1=w.dir∧c.2.1=w.name then c.2.2.2 else a) w.file
theorem Vq{w:Wch}{l:List Bp}{j:Nat}{c:Bp}(h:l[j]?=some c):KN w (l.take (j+1))=if(decide (c.1=w.dir)&&decide (c.2.1=w.name))=true then c.2.2.2 else KN w (l.take j):=by
 unfold KN;rw[List.take_add_one,h,List.foldl_append];simp
def Mn(w:Wch)(l:List Bp):A9:=if w.kind=1 then KN w l else w.file
theorem iP(w:Wch)(l:List Bp):RT w l={w with file:=Mn w l}:=by
 unfold RT Mn KN;split<;>rfl
def HU(w:Wch)(g:Int):Bool:=(!decide (w.kind=1)&& !decide (w.kind=2))||(!decide (g=0)&&decide (g=(D3 w).1))
def Gf(w:Wch)(l:List Bp):Bool:=l.any fun c=>decide (c.2.2.1=D3 w)
def Gg(w:Wch)(l:List Bp):Bool:=l.any fun c=>decide (c.2.2.2=D3 w)
theorem Vr{w:Wch}{l:List Bp}{j:Nat}{c:Bp}(h:l[j]?=some c):Gf w (l.take (j+1))=(Gf w (l.take j)||decide (c.2.2.1=D3 w)):=Vp h _
theorem Vs{w:Wch}{l:List Bp}{j:Nat}{c:Bp}(h:l[j]?=some c):Gg w (l.take (j+1))=(Gg w (l.take j)||decide (c.2.2.2=D3 w)):=Vp h _
theorem iQ(w:Wch)(g:Int)(l:List Bp):Oc w g l=if(HU w g||(Gf w l&& !Gg w l))=true then(FB,false)else({w with file:=Mn w l},true):=by
 rw[←iP];unfold Oc
 have:((w.kind≠1∧w.kind≠2)∨(g≠0∧g=(D3 w).1)∨((l.any fun c=>decide (c.2.2.1=D3 w))=true∧(l.any fun c=>decide (c.2.2.2=D3 w))=false))↔(HU w g||(Gf w l&& !Gg w l))=true:=by
  unfold HU Gf Gg;simp[or_assoc]
 by_cases h:(HU w g||(Gf w l&& !Gg w l))=true
 ·rw[if_pos h,if_pos (this.2 h)]
 rw[if_neg h,if_neg (fun k=>h (this.1 k))]
section
theorem Vt(s:Spc)(w:Wch)(hs:SpcB s):AFn prog 14 [.agg (Ar s), .agg (DO w)] (fun r=>r=Od (Fv s w)):=by
 refine enter Tryz.func14 rfl rfl rfl rfl rfl 0 rfl ?_;refine w_ (b_ (h:=b_ (h:=Af (h:=a_ (h:=e_ (q_ (?_)))))));refine BY (fun S=>S=⟨look [(2, .bp 0 0),(3, .bp 1 0),(4, .bp 2 0),(20, .v (.bool ((!decide (w.kind=1)&& !decide (w.kind=2))|| !FC s (D3 w))))],⟨[Ar s,DO w,Ge],[]⟩⟩) ?_ ?_
 ·skip
  refine Dk 15 (h:=AQ 0 (h:=AF 1 (h:=JG 2 (h:=AP 3 (h:=?_)))));refine Da (j:=3) rfl (fun hb1=>?_) (fun hb1=>?_)
  ·have hc1:=bp hb1;refine AQ 4 (h:=AF 5 (h:=JG 6 (h:=CQ 7 (h:=AP 8 (h:=?_)))));refine Da (j:=8) rfl (fun hb2=>?_) (fun hb2=>?_)
   ·have hc2:=bp hb2;refine AG 9 (h:=AG 10 (h:=AG 11 (h:=AG 12 (h:=AG 13 (h:=CQ 14 (h:=z_ (h:=?_)))))));refine AJ ?_;exact⟨_,rfl,Cw 3 0 rfl⟩
   have hc2:=bp hb2;refine AF 9 (h:=AF 10 (h:=?_));refine c_ 11 rfl (AK (RX w (by omega)) ?_);rintro r rfl;refine o_ (h:=?_);refine c_ 12 rfl (AK (Vn s (D3 w) hs) ?_);rintro r rfl;refine o_ (h:=Gt 13 (h:=CR 14 (h:=z_ (h:=?_))));refine AJ ?_;exact⟨_,rfl,Cw 3 0 rfl⟩
  have hc1:=bp hb1;refine AG 4 (h:=AG 5 (h:=AG 6 (h:=CR 7 (h:=AP 8 (h:=AF 9 (h:=AF 10 (h:=?_)))))));refine c_ 11 rfl (AK (RX w (by omega)) ?_);rintro r rfl;refine o_ (h:=?_);refine c_ 12 rfl (AK (Vn s (D3 w) hs) ?_);rintro r rfl;refine o_ (h:=Gt 13 (h:=CR 14 (h:=z_ (h:=?_))));refine AJ ?_;exact⟨_,rfl,Cw 3 0 rfl⟩
 rintro S rfl;refine A8 rfl (fun hb3=>?_) (fun hb3=>?_)
 ·have hc3:=bp hb3;have k1:(w.kind≠1∧w.kind≠2)∨FC s (D3 w)=false:=by simpa using hc3
  refine w_ (Aa (h:=s_ (h:=a_ (h:=e_ (A6 (A4 (?_)))))));refine AA ?_;rw[Fv,if_pos k1];rfl
 have hc3:=bp hb3;have k1:¬((w.kind≠1∧w.kind≠2)∨FC s (D3 w)=false):=by simpa using hc3
 refine AN (q_ (w_ (f_ (h:=l_ (h:=Ac (h:=e_ (?_)))))));refine A8 rfl (fun hb4=>?_) (fun hb4=>?_)
 ·have hc4:=bp hb4;have k2:w.kind=1:=hc4;refine AX (l_ (h:=f_ (h:=l_ (h:=f_ (h:=l_ (h:=?_))))));refine A7 rfl (AK (Vo s w.dir w.name hs) ?_);rintro r rfl;refine f_ (h:=s_ (h:=e_ (w_ (l_ (h:=s_ (h:=a_ (h:=e_ (A6 (?_)))))))));refine AA ?_;rw[Fv,if_neg k1,if_pos k2];rfl
 have hc4:=bp hb4;have k2:¬w.kind=1:=hc4;refine AN (w_ (l_ (h:=s_ (h:=a_ (h:=e_ (A6 (?_)))))));refine AA ?_;rw[Fv,if_neg k1,if_neg k2];rfl
theorem iR(w:Wch)(r:Res)(hl:r.changes.length≤1000):AFn prog 31 [.agg (DO w), .agg (FA r)] (fun x=>x=Od (Oc w r.gone r.changes)):=by
 rw[iQ];refine enter Tryz.func31 rfl rfl rfl rfl rfl 0 rfl ?_;refine w_ (b_ (h:=b_ (h:=Af (h:=a_ (h:=e_ (q_ (?_)))))));refine BY (fun S=>S=⟨look [(2, .bp 0 0),(3, .bp 1 0),(4, .bp 2 0),(20, .v (.bool (!decide (w.kind=1)&& !decide (w.kind=2))))],⟨[DO w,FA r,Ge],[]⟩⟩) ?_ ?_
 ·skip
  refine AX (f_ (h:=l_ (h:=BX (h:=m_ (h:=?_)))));refine As true rfl rfl (fun hb1=>?_) (fun hb1=>?_)
  ·have hc1:=bp hb1;refine f_ (h:=l_ (h:=BX (h:=AU (h:=AW (?_)))));refine AJ ?_;exact⟨_,rfl,Cw 3 0 rfl⟩
  have hc1:=bp hb1;refine A3 (h:=A3 (h:=A3 (h:=Ah (h:=AW (?_)))));refine AJ ?_;exact⟨_,rfl,Cw 3 0 rfl⟩
 rintro S rfl;refine A8 rfl (fun hb2=>?_) (fun hb2=>?_)
 ·have hc2:=bp hb2;have k1:(HU w r.gone||(Gf w r.changes&& !Gg w r.changes))=true:=by simp[HU]at hc2 ⊢;simp[hc2]
  refine w_ (Aa (h:=s_ (h:=a_ (h:=e_ (A6 (A4 (?_)))))));refine AA ?_;rw[if_pos k1];rfl
 have hc2:=bp hb2;have k0:w.kind=1∨w.kind=2:=by simp at hc2;omega
 refine AN (w_ (l_ (h:=?_)));refine A7 rfl (AK (RX w k0) ?_);rintro r rfl;refine Af (h:=s_ (h:=e_ (q_ (?_))));refine BY (fun S=>S=⟨look [(2, .bp 0 0),(3, .bp 1 0),(4, .bp 2 0),(6, .bp 3 0),(33, .v (.bool (!decide (r.gone=0)&&decide (r.gone=(D3 w).1))))],⟨[DO w,FA r,Ge,AB (D3 w)],[]⟩⟩) ?_ ?_
 ·skip
  refine AX (f_ (h:=l_ (h:=BX (h:=m_ (h:=?_)))));refine As true rfl rfl (fun hb3=>?_) (fun hb3=>?_)
  ·have hc3:=bp hb3;refine f_ (h:=l_ (h:=f_ (h:=l_ (h:=Ac (h:=AU (h:=AW (?_)))))));refine AJ ?_;exact⟨_,rfl,Cw 4 0 rfl⟩
  have hc3:=bp hb3;refine A3 (h:=A3 (h:=A3 (h:=A3 (h:=A3 (h:=Ah (h:=AW (?_)))))));refine AJ ?_;exact⟨_,rfl,Cw 4 0 rfl⟩
 rintro S rfl;refine A8 rfl (fun hb4=>?_) (fun hb4=>?_)
 ·have hc4:=bp hb4;have k1:(HU w r.gone||(Gf w r.changes&& !Gg w r.changes))=true:=by unfold HU;rw[hb4];simp
  refine w_ (Aa (h:=s_ (h:=a_ (h:=e_ (A6 (A4 (?_)))))));refine AA ?_;rw[if_pos k1];rfl
 have hc4:=bp hb4;have k1:HU w r.gone=false:=by unfold HU;rw[hb4];rcases k0 with h|h<;>simp[h]
 refine AN (w_ (a_ (h:=a_ (h:=e_ (q_ (w_ (f_ (h:=l_ (h:=n_ (h:=m_ (h:=e_ (Ao (?_)))))))))))));refine Bm (fun m S=>∃j:Nat,j≤r.changes.length∧m=r.changes.length - j∧S=⟨look [(2, .bp 0 0),(3, .bp 1 0),(4, .bp 2 0),(6, .bp 3 0),(7, .v (.bool (Gf w (r.changes.take j)))),(8, .v (.bool (Gg w (r.changes.take j)))),(36, .sl 7 (r.changes.map CN) none),(37, .v (.int .i64 ((r.changes.map CN).length:Int))),(38, .v (.int .i64 (j:Int)))],⟨[DO w,FA r,Ge,AB (D3 w)],[]⟩⟩) (r.changes.length) ((wk 4 0)) (⟨0,BJ _,rfl,rfl⟩) ?_;rintro m S ⟨j,hj,rfl,rfl⟩;refine w_ (BO (h:=e_ (q_ (?_))));refine A8 rfl (fun hb5=>?_) (fun hb5=>?_)
 ·have hc5:=bp hb5;obtain⟨hlt,c,hy,hrow, -⟩:=CF CN hc5;refine AN (q_ (Ao (w_ (i_ (h:=l_ (h:=Af (h:=s_ (h:=e_ (?_)))))))));refine BY (fun S=>S=⟨look [(2, .bp 0 0),(3, .bp 1 0),(4, .bp 2 0),(6, .bp 3 0),(7, .v (.bool (Gf w (r.changes.take j)||decide (c.2.2.1=D3 w)))),(8, .v (.bool (Gg w (r.changes.take j)))),(10, .bp 4 0),(36, .sl 7 (r.changes.map CN) none),(37, .v (.int .i64 ((r.changes.map CN).length:Int))),(38, .v (.int .i64 (j:Int)))],⟨[DO w,FA r,Ge,AB (D3 w),CN c],[]⟩⟩) ?_ ?_
  ·skip
   refine AX (m_ (h:=m_ (h:=?_)));refine As false rfl rfl (fun hb6=>?_) (fun hb6=>?_)
   ·have hc6:=bp hb6;refine A3 (h:=A3 (h:=A3 (h:=A3 (h:=AU (h:=a_ (h:=AW (?_)))))));refine AJ ?_;exact⟨_,rfl,Cw 5 0 rfl⟩
   have hc6:=bp hb6;refine f_ (h:=l_ (h:=l_ (h:=?_)));refine Aw (Er rfl rfl (by repeat constructor) (by repeat constructor) (fun W=>KM c.2.2.1 (D3 w) W) (by kernel_rfl) ?_);refine Ah (h:=a_ (h:=AW (?_)));refine AJ ?_;exact⟨_,rfl,Cw 5 0 rfl⟩
  rintro S rfl;refine AX (m_ (h:=m_ (h:=?_)));refine As false rfl rfl (fun hb7=>?_) (fun hb7=>?_)
  ·have hc7:=bp hb7;refine A3 (h:=A3 (h:=A3 (h:=A3 (h:=AU (h:=a_ (h:=AW (Au (t_ (AX (B2 (h:=m_ (h:=AW (?_)))))))))))));refine AJ ?_;refine⟨_,_,?_,⟨j+1,by omega,rfl,rfl⟩,?_⟩
   ·omega
   rw[Vr hy,Vs hy];exact Cw 4 0 rfl
  have hc7:=bp hb7;refine f_ (h:=l_ (h:=l_ (h:=?_)));refine Aw (Er rfl rfl (by repeat constructor) (by repeat constructor) (fun W=>KM c.2.2.2 (D3 w) W) (by kernel_rfl) ?_);refine Ah (h:=a_ (h:=AW (Au (t_ (AX (B2 (h:=m_ (h:=AW (?_)))))))));refine AJ ?_;refine⟨_,_,?_,⟨j+1,by omega,rfl,rfl⟩,?_⟩
  ·omega
  rw[Vr hy,Vs hy];exact Cw 4 0 rfl
 have hc5:=bp hb5;have e:=Cx CN hj hc5;subst e;rw[List.take_length];refine BU (Am (Am (BV (t_ (q_ (?_))))));refine BY (fun S=>S=⟨look [(2, .bp 0 0),(3, .bp 1 0),(4, .bp 2 0),(61, .v (.bool (Gf w r.changes&& !Gg w r.changes)))],⟨[DO w,FA r,Ge],[]⟩⟩) ?_ ?_
 ·skip
  refine AX (m_ (h:=m_ (h:=?_)));refine As true rfl rfl (fun hb8=>?_) (fun hb8=>?_)
  ·have hc8:=bp hb8;refine m_ (h:=BZ (h:=AU (h:=AW (?_))));refine AJ ?_;exact⟨_,rfl,Cw 3 0 rfl⟩
  have hc8:=bp hb8;refine A3 (h:=A3 (h:=Ah (h:=AW (?_))));refine AJ ?_;exact⟨_,rfl,Cw 3 0 rfl⟩
 rintro S rfl;refine A8 rfl (fun hb9=>?_) (fun hb9=>?_)
 ·have hc9:=bp hb9;refine w_ (Aa (h:=s_ (h:=a_ (h:=e_ (A6 (A4 (?_)))))));refine AA ?_;rw[if_pos (by simp[*])];rfl
 have hc9:=bp hb9;refine AN (q_ (w_ (f_ (h:=l_ (h:=Ac (h:=e_ (?_)))))));refine A8 rfl (fun hb10=>?_) (fun hb10=>?_)
 ·have hc10:=bp hb10;have k3:w.kind=1:=hc10;refine w_ (f_ (h:=l_ (h:=n_ (h:=m_ (h:=e_ (Ao (?_)))))));refine Bm (fun m S=>∃j:Nat,j≤r.changes.length∧m=r.changes.length - j∧S=⟨look [(2, .bp 0 0),(3, .bp 1 0),(4, .bp 2 0),(67, .sl 7 (r.changes.map CN) none),(68, .v (.int .i64 ((r.changes.map CN).length:Int))),(69, .v (.int .i64 (j:Int)))],⟨[DO {w with file:=KN w (r.changes.take j)},FA r,Ge],[]⟩⟩) (r.changes.length) ((wk 3 0)) (⟨0,BJ _,rfl,rfl⟩) ?_;rintro m S ⟨j,hj,rfl,rfl⟩;refine w_ (BO (h:=e_ (q_ (?_))));refine A8 rfl (fun hb11=>?_) (fun hb11=>?_)
  ·have hc11:=bp hb11;obtain⟨hlt,c,hy,hrow, -⟩:=CF CN hc11;refine AN (q_ (Ao (w_ (i_ (h:=l_ (h:=Af (h:=s_ (h:=e_ (?_)))))))));refine BY (fun S=>S=⟨look [(2, .bp 0 0),(3, .bp 1 0),(4, .bp 2 0),(12, .bp 3 0),(67, .sl 7 (r.changes.map CN) none),(68, .v (.int .i64 ((r.changes.map CN).length:Int))),(69, .v (.int .i64 (j:Int))),(84, .v (.bool (decide (c.1=w.dir)&&decide (c.2.1=w.name))))],⟨[DO {w with file:=KN w (r.changes.take j)},FA r,Ge,CN c],[]⟩⟩) ?_ ?_
   ·skip
    refine AX (f_ (h:=l_ (h:=f_ (h:=l_ (h:=?_)))));refine A7 rfl (Er rfl rfl (by repeat constructor) (by repeat constructor) (fun W=>KM c.1 w.dir W) (by kernel_rfl) ?_);refine m_ (h:=?_);refine As true rfl rfl (fun hb12=>?_) (fun hb12=>?_)
    ·have hc12:=bp hb12;refine f_ (h:=l_ (h:=f_ (h:=l_ (h:=Ac (h:=AU (h:=AW (?_)))))));refine AJ ?_;exact⟨_,rfl,Cw 4 0 rfl⟩
    have hc12:=bp hb12;refine A3 (h:=A3 (h:=A3 (h:=A3 (h:=A3 (h:=Ah (h:=AW (?_)))))));refine AJ ?_;exact⟨_,rfl,Cw 4 0 rfl⟩
   rintro S rfl;refine A8 rfl (fun hb13=>?_) (fun hb13=>?_)
   ·have hc13:=bp hb13;refine AX (f_ (h:=l_ (h:=f_ (h:=s_ (h:=AW (Au (t_ (AX (B2 (h:=m_ (h:=AW (?_))))))))))));refine AJ ?_;refine⟨_,_,?_,⟨j+1,by omega,rfl,rfl⟩,?_⟩
    ·omega
    rw[Vq hy]
    first|(rw[if_pos ‹(decide (c.1=w.dir)&&decide (c.2.1=w.name))=true›];exact B7 3 0 rfl rfl rfl rfl ((by repeat (first|exact Sub.nil|refine B9 rfl rfl ?_|refine BC ?_|refine BD rfl ?_|refine BE rfl ?_))))|(rw[if_neg (by simp[*])];exact B7 3 0 rfl rfl rfl rfl ((by repeat (first|exact Sub.nil|refine B9 rfl rfl ?_|refine BC ?_|refine BD rfl ?_|refine BE rfl ?_))))
   have hc13:=bp hb13;refine BA (Au (t_ (AX (B2 (h:=m_ (h:=AW (?_)))))));refine AJ ?_;refine⟨_,_,?_,⟨j+1,by omega,rfl,rfl⟩,?_⟩
   ·omega
   rw[Vq hy]
   first|(rw[if_pos ‹(decide (c.1=w.dir)&&decide (c.2.1=w.name))=true›];exact B7 3 0 rfl rfl rfl rfl ((by repeat (first|exact Sub.nil|refine B9 rfl rfl ?_|refine BC ?_|refine BD rfl ?_|refine BE rfl ?_))))|(rw[if_neg (by simp[*])];exact B7 3 0 rfl rfl rfl rfl ((by repeat (first|exact Sub.nil|refine B9 rfl rfl ?_|refine BC ?_|refine BD rfl ?_|refine BE rfl ?_))))
  have hc11:=bp hb11;have e:=Cx CN hj hc11;subst e;rw[List.take_length];refine BU (Am (Am (BV (t_ (w_ (l_ (h:=s_ (h:=a_ (h:=e_ (A6 (?_)))))))))));refine AA ?_;rw[if_neg (by simp[*]),Mn,if_pos k3];rfl
 have hc10:=bp hb10;have k3:¬w.kind=1:=hc10;refine AN (w_ (l_ (h:=s_ (h:=a_ (h:=e_ (A6 (?_)))))));refine AA ?_;rw[if_neg (by simp[*]),Mn,if_neg k3];rfl
end
end Go.Proofs.YtobclmbkdhbnpaaGreatDoor
