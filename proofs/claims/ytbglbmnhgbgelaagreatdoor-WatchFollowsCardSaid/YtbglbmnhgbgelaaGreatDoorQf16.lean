/-
  Part 16 of the proof of WatchFollowsP: what the statement's proof uses of the texts in wip/tpl.
-/
import Derived.Test.YtbglbmnhgbgelaaGreatDoorQf15
open Go.Proofs.Tryz (prog)
set_option maxRecDepth 10000
set_option maxHeartbeats 4000000
set_option linter.unusedVariables false
set_option linter.unusedSimpArgs false
namespace Go.Proofs.YtbglbmnhgbgelaaGreatDoor
open Go.RowKit
section
theorem PK(w:Wrk)(cap:Nat)(f:Fnd)(hv:SpcV w.s.spc)(hm:w.s.spc.mounts.length≤1000)(htb:TabB w.s.tab)(hf:w.found[0]?=some f):ACall prog 119 [.bp 0 0] [WA w cap,IB w cap] (fun r b t=>t=[]∧r= .v (.int .i64 (DG w).2)∧b=[WA (DG w).1 cap,IB (DG w).1 cap]):=by
 have hsb:=hv.b hm;have hrow0:(w.found.map Aq)[0]?=some (Aq f):=by rw[List.getElem?_map,hf];rfl
 have hfn:B7 w 0=f:=by unfold B7;rw[hf];rfl
 have hre:DG w=if f.ex=false then(w,2)else if w.c.num=1 then(if AT w.s.spc.files f.file=true∨CA w f.file 1=false then(w,13)else C5 w (Hj w.s.tab w.p.pid f.path f.name))else if w.c.num=16 then(if AT w.s.spc.files f.file=false then(w,20)else if CA w f.file 1=false then(w,13)else C5 w (Hi w.s.tab w.p.pid f.file))else if w.c.num=17 then(if AT w.s.spc.files f.file=false then(w,20)else H4 w (DQ w.s.spc w.c.a0 f.file))else if AT w.s.spc.files f.file=true then(w,21)else if CA w f.file 2=false then(w,13)else(w,0):=by
  unfold DG Gy;rw[hfn]
 obtain⟨T1,hT1⟩:∃T,T=Hj w.s.tab w.p.pid f.path f.name:=⟨_,rfl⟩;obtain⟨T2,hT2⟩:∃T,T=Hi w.s.tab w.p.pid f.file:=⟨_,rfl⟩;obtain⟨R,hR⟩:∃R,R=DQ w.s.spc w.c.a0 f.file:=⟨_,rfl⟩;have hexec:AFn prog 157 [.agg (Ax w.s.tab), .v (.int .i64 w.p.pid), .v (.string f.path), .v (.string f.name)] (fun r=>r=Cg T1):=by rw[hT1];exact jH _ _ _ _ htb
 have hchd:AFn prog 158 [.agg (Ax w.s.tab), .v (.int .i64 w.p.pid), .agg (AE f.file)] (fun r=>r=Cg T2):=by rw[hT2];exact jG _ _ _ htb
 have hadd:AFn prog 49 [.agg (Ao w.s.spc), .v (.int .i64 w.c.a0), .agg (AE f.file)] (fun r=>r=FO R):=by rw[hR];exact cB _ _ _ hsb
 rw[←hT1,←hT2,←hR]at hre;clear hT1 hT2 hR;refine enter Tryz.func119 rfl rfl rfl rfl rfl 2 rfl ?_;refine w_ (a_ (h:=e_ (w_ (m_ (h:=k_ (h:=f_ (h:=l_ (h:=?_))))))));refine A6 rfl (Ci (n:=0) rfl rfl rfl hrow0 ?_);refine l_ (h:=AZ (h:=s_ (h:=e_ (q_ (w_ (f_ (h:=l_ (h:=BG (h:=e_ (?_))))))))));refine A8 rfl (fun hb1=>?_) (fun hb1=>?_)
 ·have hc1:=bp hb1;have k1:f.ex=false:=by simpa using hc1
  refine w_ (a_ (h:=e_ (A4 (A7 (?_)))));refine BU (r:= .v (.int .i64 (DG w).2)) none (h5:=(by rw[hre,if_pos k1];exact A9 _)) (h6:=⟨rfl,rfl,?_⟩);rw[hre,if_pos k1];rfl
 have hc1:=bp hb1;have k1:¬f.ex=false:=by simpa using hc1
 refine AN (q_ (w_ (m_ (h:=k_ (h:=f_ (h:=f_ (h:=l_ (h:=e_ (Av (w_ (AR (h:=a_ (h:=e_ (?_))))))))))))));refine A8 rfl (fun hb2=>?_) (fun hb2=>?_)
 ·have hc2:=bp hb2;have k2:w.c.num=1:=hc2;refine q_ (?_);refine BE (fun S=>S=⟨look [(0, .bp 0 0),(3, .bp 2 0),(30, .v (.bool (AT w.s.spc.files f.file|| !CA w f.file 1)))],⟨[WA w cap,IB w cap,Aq f],[]⟩⟩) ?_ ?_
  ·skip
   refine AQ (m_ (h:=?_));refine A6 rfl (Cn 1 rfl (.cons _ _ _ _ _ rfl (LeA.of_eq rfl) (.cons _ _ _ _ _ rfl (A9 _) .nil)) (KE w .any 0 f hsb hf) ?_);rintro r rfl;refine⟨rfl,?_⟩;refine m_ (h:=?_);refine B5 false rfl rfl (fun hb3=>?_) (fun hb3=>?_)
   ·have hc3:=bp hb3;refine A3 (h:=A3 (h:=A3 (h:=A3 (h:=A3 (h:=Ag (h:=AP (?_)))))));refine AF ?_;exact⟨_,rfl,CM 3 0 (by simp[Ai,Ac,Ab,Bj B6,BL,WA,IB,CN,Aq,Ak,AE,Ax,Ao,Ay])⟩
   have hc3:=bp hb3;refine m_ (h:=f_ (h:=l_ (h:=?_)));refine BB (Cn 1 rfl (.cons _ _ _ _ _ rfl (LeA.of_eq rfl) (.cons _ _ _ _ _ rfl (A9 _) (.cons _ _ _ _ _ rfl (A9 _) .nil))) (Hl w .any f.file 1 hsb) ?_);rintro r rfl;refine⟨rfl,?_⟩;refine BG (h:=Ar (h:=AP (?_)));refine AF ?_;exact⟨_,rfl,CM 3 0 (by simp[Ai,Ac,Ab,Bj B6,BL,WA,IB,CN,Aq,Ak,AE,Ax,Ao,Ay])⟩
  rintro S rfl;refine A8 rfl (fun hb4=>?_) (fun hb4=>?_)
  ·have hc4:=bp hb4;have k5:AT w.s.spc.files f.file=true∨CA w f.file 1=false:=by simpa using hc4
   refine w_ (a_ (h:=e_ (A4 (A7 (AY (A7 (?_)))))));refine BU (r:= .v (.int .i64 (DG w).2)) none (h5:=(by rw[hre,if_neg k1,if_pos k2,if_pos k5];exact A9 _)) (h6:=⟨rfl,rfl,?_⟩);rw[hre,if_neg k1,if_pos k2,if_pos k5];rfl
  have hc4:=bp hb4;have k5:¬(AT w.s.spc.files f.file=true∨CA w f.file 1=false):=by simpa using hc4
  refine AN (q_ (BO ([(0,WA w cap),(1,IB w cap),(2,Aq f)]) 18 (h:=AO 0 (h:=AO 1 (h:=BC 2 (h:=AG 3 (h:=AG 4 (h:=AM 5 (h:=AO 6 (h:=BC 7 (h:=AG 8 (h:=AG 9 (h:=AM 10 (h:=AG 11 (h:=AM 12 (h:=AG 13 (h:=AM 14 (h:=?_))))))))))))))))));refine c_ 15 rfl (AK (hexec) ?_);rintro r rfl;refine o_ (h:=Au 16 (h:=Au 17 (h:=?_)));refine c_ 18 rfl (Bf [0,1] rfl (.cons _ _ _ _ _ rfl (A9 _) (.cons _ _ _ _ _ rfl (A9 _) (.cons _ _ _ _ _ rfl (A9 _) .nil))) (by decide) (.cons _ _ _ _ _ rfl rfl (.cons _ _ _ _ _ rfl (Cr B6 _ _ _) .nil)) (Rz w cap T1.1 T1.2) ?_);rintro r bc tc ⟨rfl,rfl,rfl⟩;refine⟨rfl,_,DH rfl ((C5 w T1).1) cap,?_⟩;refine o_ (h:=?_);refine c_ 19 rfl (Fe rfl ?_);refine o_ (h:=z_ (h:=t_ (A4 (AY (A7 (?_))))));refine BU (r:= .v (.int .i64 (DG w).2)) none (h5:=(by rw[hre,if_neg k1,if_pos k2,if_neg k5,J6];exact A9 _)) (h6:=⟨rfl,rfl,?_⟩);rw[hre,if_neg k1,if_pos k2,if_neg k5];rfl
 have hc2:=bp hb2;have k2:¬w.c.num=1:=hc2;refine w_ (AR (h:=a_ (h:=e_ (?_))));refine A8 rfl (fun hb5=>?_) (fun hb5=>?_)
 ·have hc5:=bp hb5;have k3:w.c.num=16:=hc5;refine q_ (w_ (m_ (h:=?_)));refine A6 rfl (Cn 1 rfl (.cons _ _ _ _ _ rfl (LeA.of_eq rfl) (.cons _ _ _ _ _ rfl (A9 _) .nil)) (KE w .any 0 f hsb hf) ?_);rintro r rfl;refine⟨rfl,?_⟩;refine BG (h:=e_ (?_));refine A8 rfl (fun hb6=>?_) (fun hb6=>?_)
  ·have hc6:=bp hb6;have k5:AT w.s.spc.files f.file=false:=by simpa using hc6
   refine w_ (a_ (h:=e_ (A4 (A7 (AY (A7 (?_)))))));refine BU (r:= .v (.int .i64 (DG w).2)) none (h5:=(by rw[hre,if_neg k1,if_neg k2,if_pos k3,if_pos k5];exact A9 _)) (h6:=⟨rfl,rfl,?_⟩);rw[hre,if_neg k1,if_neg k2,if_pos k3,if_pos k5];rfl
  have hc6:=bp hb6;have k5:¬AT w.s.spc.files f.file=false:=by simpa using hc6
  refine AN (q_ (w_ (m_ (h:=f_ (h:=l_ (h:=?_))))));refine A6 rfl (Cn 1 rfl (.cons _ _ _ _ _ rfl (LeA.of_eq rfl) (.cons _ _ _ _ _ rfl (A9 _) (.cons _ _ _ _ _ rfl (A9 _) .nil))) (Hl w .any f.file 1 hsb) ?_);rintro r rfl;refine⟨rfl,?_⟩;refine BG (h:=e_ (?_));refine A8 rfl (fun hb7=>?_) (fun hb7=>?_)
  ·have hc7:=bp hb7;have k6:CA w f.file 1=false:=by simpa using hc7
   refine w_ (a_ (h:=e_ (A4 (A7 (AY (A7 (?_)))))));refine BU (r:= .v (.int .i64 (DG w).2)) none (h5:=(by rw[hre,if_neg k1,if_neg k2,if_pos k3,if_neg k5,if_pos k6];exact A9 _)) (h6:=⟨rfl,rfl,?_⟩);rw[hre,if_neg k1,if_neg k2,if_pos k3,if_neg k5,if_pos k6];rfl
  have hc7:=bp hb7;have k6:¬CA w f.file 1=false:=by simpa using hc7
  refine AN (q_ (BO ([(0,WA w cap),(1,IB w cap),(2,Aq f)]) 16 (h:=AO 0 (h:=AO 1 (h:=BC 2 (h:=AG 3 (h:=AG 4 (h:=AM 5 (h:=AO 6 (h:=BC 7 (h:=AG 8 (h:=AG 9 (h:=AM 10 (h:=AG 11 (h:=AM 12 (h:=?_))))))))))))))));refine c_ 13 rfl (AK (hchd) ?_);rintro r rfl;refine o_ (h:=Au 14 (h:=Au 15 (h:=?_)));refine c_ 16 rfl (Bf [0,1] rfl (.cons _ _ _ _ _ rfl (A9 _) (.cons _ _ _ _ _ rfl (A9 _) (.cons _ _ _ _ _ rfl (A9 _) .nil))) (by decide) (.cons _ _ _ _ _ rfl rfl (.cons _ _ _ _ _ rfl (Cr B6 _ _ _) .nil)) (Rz w cap T2.1 T2.2) ?_);rintro r bc tc ⟨rfl,rfl,rfl⟩;refine⟨rfl,_,DH rfl ((C5 w T2).1) cap,?_⟩;refine o_ (h:=?_);refine c_ 17 rfl (Fe rfl ?_);refine o_ (h:=z_ (h:=t_ (A4 (AY (A7 (?_))))));refine BU (r:= .v (.int .i64 (DG w).2)) none (h5:=(by rw[hre,if_neg k1,if_neg k2,if_pos k3,if_neg k5,if_neg k6,J6];exact A9 _)) (h6:=⟨rfl,rfl,?_⟩);rw[hre,if_neg k1,if_neg k2,if_pos k3,if_neg k5,if_neg k6];rfl
 have hc5:=bp hb5;have k3:¬w.c.num=16:=hc5;refine w_ (AR (h:=a_ (h:=e_ (?_))));refine A8 rfl (fun hb8=>?_) (fun hb8=>?_)
 ·have hc8:=bp hb8;have k4:w.c.num=17:=hc8;refine q_ (w_ (m_ (h:=?_)));refine A6 rfl (Cn 1 rfl (.cons _ _ _ _ _ rfl (LeA.of_eq rfl) (.cons _ _ _ _ _ rfl (A9 _) .nil)) (KE w .any 0 f hsb hf) ?_);rintro r rfl;refine⟨rfl,?_⟩;refine BG (h:=e_ (?_));refine A8 rfl (fun hb9=>?_) (fun hb9=>?_)
  ·have hc9:=bp hb9;have k5:AT w.s.spc.files f.file=false:=by simpa using hc9
   refine w_ (a_ (h:=e_ (A4 (A7 (AY (A7 (?_)))))));refine BU (r:= .v (.int .i64 (DG w).2)) none (h5:=(by rw[hre,if_neg k1,if_neg k2,if_neg k3,if_pos k4,if_pos k5];exact A9 _)) (h6:=⟨rfl,rfl,?_⟩);rw[hre,if_neg k1,if_neg k2,if_neg k3,if_pos k4,if_pos k5];rfl
  have hc9:=bp hb9;have k5:¬AT w.s.spc.files f.file=false:=by simpa using hc9
  refine AN (?_);refine BE (fun S=>S=⟨look [(0, .bp 0 0),(4, .bp 3 0),(5, .v (.int .i64 R.2))],⟨[WA w cap,IB w cap,Aq f,Ao R.1],[]⟩⟩) ?_ ?_
  ·skip
   refine BO ([(0,WA w cap),(1,IB w cap),(2,Aq f)]) 20 (h:=AO 0 (h:=BC 1 (h:=AG 2 (h:=AG 3 (h:=AM 4 (h:=AO 5 (h:=BC 6 (h:=AG 7 (h:=AG 8 (h:=?_))))))))));refine Bz 9 rfl (fun _ hS=>CR (len:=4) (sz:=1) (n:=0) (by kernel_rfl) rfl rfl rfl rfl ⟨rfl,rfl⟩) ?_;refine AM 10 (h:=AG 11 (h:=AM 12 (h:=?_)));refine Co 13 17 rfl rfl ?_ ?_
   ·refine AK (hadd) ?_;rintro r rfl;refine o_ (h:=?_);refine AO 14 (h:=Au 15 (h:=Au 16 (h:=?_)));refine c_ 17 rfl (BQ (by repeat constructor) ?_);refine o_ (h:=?_);refine Aj 18 rfl (Af rfl rfl rfl rfl rfl rfl (by repeat constructor) (by repeat constructor) ?_);refine o_ (h:=BK 19 (h:=z_ (h:=?_)));refine AF ?_;exact⟨_,rfl,Cc 4 0⟩
   refine BQ (by repeat constructor) ?_;refine o_ (h:=?_);refine c_ 13 rfl (AK (hadd) ?_);rintro r rfl;refine o_ (h:=AO 14 (h:=Au 15 (h:=Au 16 (h:=?_))));refine Aj 18 rfl (Af rfl rfl rfl rfl rfl rfl (by repeat constructor) (by repeat constructor) ?_);refine o_ (h:=BK 19 (h:=z_ (h:=?_)));refine AF ?_;exact⟨_,rfl,Cc 4 0⟩
  rintro S rfl;refine q_ (w_ (m_ (h:=AR (h:=e_ (?_)))));refine A8 rfl (fun hb10=>?_) (fun hb10=>?_)
  ·have hc10:=bp hb10;have h0:R.2=0:=hc10;refine AQ (m_ (h:=l_ (h:=k_ (h:=f_ (h:=f_ (h:=s_ (h:=e_ (w_ (m_ (h:=a_ (h:=e_ (A4 (AY (A7 (?_)))))))))))))));refine BU (r:= .v (.int .i64 (DG w).2)) none (h5:=(by rw[hre,if_neg k1,if_neg k2,if_neg k3,if_pos k4,if_neg k5,H4,if_pos h0];exact LeA.of_eq (vi h0))) (h6:=⟨rfl,rfl,?_⟩);rw[hre,if_neg k1,if_neg k2,if_neg k3,if_pos k4,if_neg k5,H4,if_pos h0];rfl
  have hc10:=bp hb10;have h0:¬R.2=0:=hc10;refine AN (w_ (m_ (h:=a_ (h:=e_ (A4 (AY (A7 (?_))))))));refine BU (r:= .v (.int .i64 (DG w).2)) none (h5:=(by rw[hre,if_neg k1,if_neg k2,if_neg k3,if_pos k4,if_neg k5,H4,if_neg h0];exact A9 _)) (h6:=⟨rfl,rfl,?_⟩);rw[hre,if_neg k1,if_neg k2,if_neg k3,if_pos k4,if_neg k5,H4,if_neg h0];rfl
 have hc8:=bp hb8;have k4:¬w.c.num=17:=hc8;refine BM (B8 (t_ (q_ (w_ (m_ (h:=?_))))));refine A6 rfl (Cn 1 rfl (.cons _ _ _ _ _ rfl (LeA.of_eq rfl) (.cons _ _ _ _ _ rfl (A9 _) .nil)) (KE w .any 0 f hsb hf) ?_);rintro r rfl;refine⟨rfl,?_⟩;refine e_ (?_);refine A8 rfl (fun hb11=>?_) (fun hb11=>?_)
 ·have hc11:=bp hb11;have k5:AT w.s.spc.files f.file=true:=hc11;refine w_ (a_ (h:=e_ (A4 (A7 (?_)))));refine BU (r:= .v (.int .i64 (DG w).2)) none (h5:=(by rw[hre,if_neg k1,if_neg k2,if_neg k3,if_neg k4,if_pos k5];exact A9 _)) (h6:=⟨rfl,rfl,?_⟩);rw[hre,if_neg k1,if_neg k2,if_neg k3,if_neg k4,if_pos k5];rfl
 have hc11:=bp hb11;have k5:¬AT w.s.spc.files f.file=true:=by simpa using hc11
 refine AN (q_ (w_ (m_ (h:=f_ (h:=l_ (h:=?_))))));refine A6 rfl (Cn 1 rfl (.cons _ _ _ _ _ rfl (LeA.of_eq rfl) (.cons _ _ _ _ _ rfl (A9 _) (.cons _ _ _ _ _ rfl (A9 _) .nil))) (Hl w .any f.file 2 hsb) ?_);rintro r rfl;refine⟨rfl,?_⟩;refine BG (h:=e_ (?_));refine A8 rfl (fun hb12=>?_) (fun hb12=>?_)
 ·have hc12:=bp hb12;have k6:CA w f.file 2=false:=by simpa using hc12
  refine w_ (a_ (h:=e_ (A4 (A7 (?_)))));refine BU (r:= .v (.int .i64 (DG w).2)) none (h5:=(by rw[hre,if_neg k1,if_neg k2,if_neg k3,if_neg k4,if_neg k5,if_pos k6];exact A9 _)) (h6:=⟨rfl,rfl,?_⟩);rw[hre,if_neg k1,if_neg k2,if_neg k3,if_neg k4,if_neg k5,if_pos k6];rfl
 have hc12:=bp hb12;have k6:¬CA w f.file 2=false:=by simpa using hc12
 refine AN (w_ (a_ (h:=e_ (A4 (?_)))));refine BU (r:= .v (.int .i64 (DG w).2)) none (h5:=(by rw[hre,if_neg k1,if_neg k2,if_neg k3,if_neg k4,if_neg k5,if_neg k6];exact A9 _)) (h6:=⟨rfl,rfl,?_⟩);rw[hre,if_neg k1,if_neg k2,if_neg k3,if_neg k4,if_neg k5,if_neg k6];rfl
theorem X3(w:Wrk)(cap:Nat)(f:Fnd)(x:Itm)(hv:SpcV w.s.spc)(hm:w.s.spc.mounts.length≤1000)(hf:w.found[0]?=some f)(hx:w.r.items[0]?=some x)(hn:f.name.size≤100000)(h9:w.c.num=9→0<w.c.args.length)(hsz:∀p∈w.c.args,p.size≤1000):ACall prog 120 [.bp 0 0] [WA w cap,IB w cap] (fun r b t=>t=[]∧r= .v (.int .i64 (EX w).2)∧b=[WA (EX w).1 cap,IB (EX w).1 cap]):=by
 have hsb:=hv.b hm;have hrow0:(w.found.map Aq)[0]?=some (Aq f):=by rw[List.getElem?_map,hf];rfl
 have hfn:B7 w 0=f:=by unfold B7;rw[hf];rfl
 have hpl:EX w=if f.ex=true then(w,17)else if f.slash=true∧w.c.num=9 then(w,2)else if CA w f.dir 2=false then(w,13)else if w.c.num=9 then CO w 0 (Lp (Gx w.c))else CO w 0 (NQ w.c.a0):=by
  unfold EX;rw[hfn]
 refine enter Tryz.func120 rfl rfl rfl rfl rfl 2 rfl ?_;refine w_ (a_ (h:=e_ (w_ (m_ (h:=k_ (h:=f_ (h:=l_ (h:=?_))))))));refine A6 rfl (Ci (n:=0) rfl rfl rfl hrow0 ?_);refine l_ (h:=AZ (h:=s_ (h:=e_ (q_ (Av (w_ (f_ (h:=l_ (h:=a_ (h:=e_ (?_)))))))))));refine A8 rfl (fun hb1=>?_) (fun hb1=>?_)
 ·have hc1:=bp hb1;have k1:f.ex=true:=hc1;refine w_ (a_ (h:=e_ (A4 (AY (A7 (?_))))));refine BU (r:= .v (.int .i64 (EX w).2)) none (h5:=(by rw[hpl,if_pos k1];exact A9 _)) (h6:=⟨rfl,rfl,?_⟩);rw[hpl,if_pos k1];rfl
 have hc1:=bp hb1;have k1:¬f.ex=true:=by simpa using hc1
 refine BE (fun S=>S=⟨look [(0, .bp 0 0),(3, .bp 2 0),(13, .v (.bool (f.slash&&decide (w.c.num=9))))],⟨[WA w cap,IB w cap,Aq f],[]⟩⟩) ?_ ?_
 ·skip
  refine AQ (f_ (h:=l_ (h:=m_ (h:=?_))));refine B5 true rfl rfl (fun hb2=>?_) (fun hb2=>?_)
  ·have hc2:=bp hb2;refine m_ (h:=k_ (h:=f_ (h:=f_ (h:=l_ (h:=AR (h:=Ag (h:=a_ (h:=AP (?_)))))))));refine AF ?_;exact⟨_,rfl,CM 3 0 (by simp[Ai,Ac,Ab,Bj B6,BL,WA,IB,CN,Aq,Ak,AE,Ax,Ao,Ay])⟩
  have hc2:=bp hb2;refine A3 (h:=A3 (h:=A3 (h:=A3 (h:=A3 (h:=A3 (h:=Ar (h:=a_ (h:=AP (?_)))))))));refine AF ?_;exact⟨_,rfl,CM 3 0 (by simp[Ai,Ac,Ab,Bj B6,BL,WA,IB,CN,Aq,Ak,AE,Ax,Ao,Ay])⟩
 rintro S rfl;refine A8 rfl (fun hb3=>?_) (fun hb3=>?_)
 ·have hc3:=bp hb3;have k2:f.slash=true∧w.c.num=9:=by simpa using hc3
  refine w_ (a_ (h:=e_ (A4 (AY (A7 (?_))))));refine BU (r:= .v (.int .i64 (EX w).2)) none (h5:=(by rw[hpl,if_neg k1,if_pos k2];exact A9 _)) (h6:=⟨rfl,rfl,?_⟩);rw[hpl,if_neg k1,if_pos k2];rfl
 have hc3:=bp hb3;have k2:¬(f.slash=true∧w.c.num=9):=by simpa using hc3
 refine w_ (m_ (h:=f_ (h:=l_ (h:=?_))));refine A6 rfl (Cn 1 rfl (.cons _ _ _ _ _ rfl (LeA.of_eq rfl) (.cons _ _ _ _ _ rfl (A9 _) (.cons _ _ _ _ _ rfl (A9 _) .nil))) (Hl w .any f.dir 2 hsb) ?_);rintro r rfl;refine⟨rfl,?_⟩;refine BG (h:=a_ (h:=e_ (?_)));refine A8 rfl (fun hb4=>?_) (fun hb4=>?_)
 ·have hc4:=bp hb4;have k3:CA w f.dir 2=false:=by simpa using hc4
  refine w_ (a_ (h:=e_ (A4 (AY (A7 (?_))))));refine BU (r:= .v (.int .i64 (EX w).2)) none (h5:=(by rw[hpl,if_neg k1,if_neg k2,if_pos k3];exact A9 _)) (h6:=⟨rfl,rfl,?_⟩);rw[hpl,if_neg k1,if_neg k2,if_pos k3];rfl
 have hc4:=bp hb4;have k3:¬CA w f.dir 2=false:=by simpa using hc4
 refine BM (B8 (t_ (q_ (w_ (m_ (h:=k_ (h:=f_ (h:=f_ (h:=l_ (h:=AR (h:=e_ (?_))))))))))));refine A8 rfl (fun hb5=>?_) (fun hb5=>?_)
 ·have hc5:=bp hb5;have k4:w.c.num=9:=hc5;obtain⟨a0,ha0⟩:∃a,w.c.args[0]?=some a:=⟨_,B9 (h9 hc5)⟩;have harg:(w.c.args.map DL)[0]?=some (DL a0):=by rw[List.getElem?_map,ha0];rfl
  have hag:Gx w.c=a0:=by unfold Gx;rw[List.headD_eq_head?_getD,List.head?_eq_getElem?,ha0];rfl
  have hsa:(Lp a0).target.size≤100000:=by have:=hsz a0 (Al ha0);show a0.size≤100000;omega
  refine w_ (m_ (h:=m_ (h:=k_ (h:=f_ (h:=f_ (h:=l_ (h:=?_)))))));refine A6 rfl (Ci (n:=0) rfl rfl rfl harg ?_);refine l_ (h:=?_);refine A6 rfl (Ex (y:= .agg (Ak (Lp a0))) (DD ⟨rfl,rfl⟩) ?_);refine A6 rfl (Bf [0,1] rfl (.cons _ _ _ _ _ rfl (A9 _) (.cons _ _ _ _ _ rfl (A9 _) (.cons _ _ _ _ _ rfl (A9 _) .nil))) (by decide) (.cons _ _ _ _ _ rfl rfl (.cons _ _ _ _ _ rfl (Cr B6 _ _ _) .nil)) (S5 w cap 0 (Lp a0) f x hv.files hf hx hn hsa rfl) ?_);rintro r bc tc ⟨rfl,rfl,rfl⟩;refine⟨rfl,_,DH rfl ((CO w 0 (Lp a0)).1) cap,?_⟩;refine a_ (h:=e_ (A4 (A7 (?_))));refine BU (r:= .v (.int .i64 (EX w).2)) none (h5:=(by rw[hpl,if_neg k1,if_neg k2,if_neg k3,if_pos k4,hag];exact A9 _)) (h6:=⟨rfl,rfl,?_⟩);rw[hpl,if_neg k1,if_neg k2,if_neg k3,if_pos k4,hag];rfl
 have hc5:=bp hb5;have k4:¬w.c.num=9:=hc5;refine AN (w_ (m_ (h:=m_ (h:=k_ (h:=f_ (h:=f_ (h:=?_)))))));refine A6 rfl (CR (len:=4) (sz:=1) (n:=0) (by kernel_rfl) rfl rfl rfl rfl ?_);refine l_ (h:=?_);refine A6 rfl (Ex (y:= .agg (Ak (NQ w.c.a0))) (DD ⟨rfl,rfl⟩) ?_);refine A6 rfl (Bf [0,1] rfl (.cons _ _ _ _ _ rfl (A9 _) (.cons _ _ _ _ _ rfl (A9 _) (.cons _ _ _ _ _ rfl (A9 _) .nil))) (by decide) (.cons _ _ _ _ _ rfl rfl (.cons _ _ _ _ _ rfl (Cr B6 _ _ _) .nil)) (S5 w cap 0 (NQ w.c.a0) f x hv.files hf hx hn (BJ _) rfl) ?_);rintro r bc tc ⟨rfl,rfl,rfl⟩;refine⟨rfl,_,DH rfl ((CO w 0 (NQ w.c.a0)).1) cap,?_⟩;refine a_ (h:=e_ (A4 (?_)));refine BU (r:= .v (.int .i64 (EX w).2)) none (h5:=(by rw[hpl,if_neg k1,if_neg k2,if_neg k3,if_neg k4];exact A9 _)) (h6:=⟨rfl,rfl,?_⟩);rw[hpl,if_neg k1,if_neg k2,if_neg k3,if_neg k4];rfl
end
section
variable {P:Program}{ev:Operand→Option AV}{h:AH}{R:AV→AH→Prop}{d:Option Tmp}{ty:TypeId}{pos:String}{af:Array Edge}{gd:Option (Nat×Bool)}
theorem jP{T:TypeId}{s y:Operand}{T' sz bytes:Nat}[hE:Elm P T T' sz bytes](hs:ev s=some (.v (.slice none 0 0)))(hy:ev y=some (.v (.slice none 0 0)))(hR:R (.v (.slice none 0 0)) h):AStep P ⟨d, .call {callee:= .builtin .append,args:=#[s,y],argTypes:=#[T,T]},ty,pos,af,gd⟩ ev h R:=by
 intro E G w ec hr he;have k1:=he s (by simp[Op.operands,Call.operands]) _ hs;have k2:=he y (by simp[Op.operands,Call.operands]) _ hy;obtain⟨hu,inf,z,hinf,hz,hzs,hsz,hbts,hp⟩:=FU hE.eq;simp only[rep]at k1 k2
 have hrun:(Builtin.append_ #[T,T] ty #[.slice none 0 0, .slice none 0 0]).run P w= .ok (.slice none 0 0) w:=by
  simp[Builtin.append_,run_underlying hu,sizeOf,typeInfo,hinf,Builtin.lenOf,Builtin.firstCells,storeCells]
 simp only[execOp,resolve,invoke,builtin,Sem.run_bind,Sem.run_pure,Result.andThen_ok,List.map_toArray,List.map_cons,List.map_nil,k1,k2,hrun];exact⟨_,_,G,hR,hr,Ext.refl _ _,by simp only[rep]⟩
end
def WN(w:Wrk):List AV:=D6 w (.v (.slice none 0 0)) (.v (.slice none 0 0))
theorem J7{a:List AV}{rest:List (List AV)}(w:Wrk):Back (a::rest) [0] [WN w] (WN w::rest):=by
 have:=NT (bx:=a::rest) (is:=[0]) (bc:=[WN w]) (by simp) (by simp) (by simp);have e1:Da (Du [0] (a::rest).length) (WN w)=WN w:=rfl
 have hb:DS (a::rest) (Du [0] (a::rest).length) [0] [WN w]=WN w::rest:=by
  unfold DS;rw[e1];simp[DS]
 rw[hb]at this;exact this
def Cd(c:Cal):List AV:=[.v (.int .i64 c.a0), .v (.int .i64 c.a1), .v (.int .i64 c.a2), .v (.int .i64 c.a3)]
theorem jQ{t:Tab}{dev:Int}(h:∀i y,i<t.ps.length→t.ps[i]?=some y→(decide (y.cwd.1=dev)||y.opens.any fun d=>decide (d.file.1=dev))=false):Lq t dev=false:=LQ h
section
theorem Ks(w:Wrk)(t:Tab)(e:Int):ACall prog 152 [.bp 0 0, .agg (Ax t), .v (.int .i64 e)] [WN w] (fun r b tk=>tk=[]∧r= .v (.int .i64 e)∧b=[WN (C5 w (t,e)).1]):=by
 refine enter Tryz.func152 rfl rfl rfl rfl rfl 1 rfl ?_;refine w_ (b_ (h:=a_ (h:=e_ (q_ (w_ (m_ (h:=AR (h:=e_ (?_)))))))));refine A8 rfl (fun hb1=>?_) (fun hb1=>?_)
 ·have hc1:=bp hb1;refine AQ (m_ (h:=l_ (h:=k_ (h:=f_ (h:=f_ (h:=s_ (h:=e_ (w_ (m_ (h:=a_ (h:=e_ (A4 (?_)))))))))))));refine Am (r:= .v (.int .i64 e)) none (h4:=(by simp[Ai,Ac,Ab,BL,WN,Cd,Ax,B1,Ao])) (h5:=(A9 _)) (h6:=⟨rfl,rfl,?_⟩);rw[C5,if_pos hc1];rfl
 have hc1:=bp hb1;refine AN (w_ (m_ (h:=a_ (h:=e_ (A4 (?_))))));refine Am (r:= .v (.int .i64 e)) none (h4:=(by simp[Ai,Ac,Ab,BL,WN,Cd,Ax,B1,Ao])) (h5:=(A9 _)) (h6:=⟨rfl,rfl,?_⟩);rw[C5,if_neg hc1];rfl
theorem jR(w:Wrk)(hs:SpcB w.s.spc)(htb:TabB w.s.tab):ACall prog 165 [.bp 0 0] [WN w] (fun r b t=>t=[]∧r= .v (.int .i64 (Eu w).2)∧b=[WN (Eu w).1]):=by
 have hfew:=htb.few;obtain⟨R,hR⟩:∃R,R=Ef w.s.spc w.c.a0:=⟨_,rfl⟩;have hrem:AFn prog 191 [.agg (Ao w.s.spc), .v (.int .i64 w.c.a0)] (fun r=>r=FO R):=by rw[hR];exact cC _ _ hs
 have hum:Eu w=if w.p.euid≠0 then(w,1)else if w.c.a0=0∨Bm w.s.spc w.c.a0=false then(w,22)else if Lq w.s.tab w.c.a0=true then(w,16)else H5 w R:=by
  unfold Eu;rw[←hR]
 clear hR;refine enter Tryz.func165 rfl rfl rfl rfl rfl 1 rfl ?_;refine w_ (a_ (h:=e_ (w_ (m_ (h:=k_ (h:=f_ (h:=f_ (h:=?_))))))));refine A6 rfl (CR (len:=4) (sz:=1) (n:=0) (by kernel_rfl) rfl rfl rfl rfl ?_);refine l_ (h:=a_ (h:=e_ (q_ (w_ (m_ (h:=k_ (h:=f_ (h:=f_ (h:=l_ (h:=BV (h:=e_ (?_))))))))))));refine A8 rfl (fun hb1=>?_) (fun hb1=>?_)
 ·have hc1:=bp hb1;have k1:w.p.euid≠0:=by simpa using hc1
  refine w_ (a_ (h:=e_ (A4 (A7 (?_)))));refine Am (r:= .v (.int .i64 (Eu w).2)) none (h4:=(by simp[Ai,Ac,Ab,BL,WN,Cd,Ax,B1,Ao])) (h5:=(by rw[hum,if_pos k1];exact A9 _)) (h6:=⟨rfl,rfl,?_⟩);rw[hum,if_pos k1];rfl
 have hc1:=bp hb1;have k1:¬w.p.euid≠0:=by simpa using hc1
 refine AN (q_ (?_));refine BE (fun S=>S=⟨look [(0, .bp 0 0),(3, .v (.int .i64 w.c.a0)),(32, .v (.bool (decide (w.c.a0=0)|| !Bm w.s.spc w.c.a0)))],⟨[WN w],[]⟩⟩) ?_ ?_
 ·skip
  refine AQ (m_ (h:=AR (h:=m_ (h:=?_))));refine B5 false rfl rfl (fun hb2=>?_) (fun hb2=>?_)
  ·have hc2:=bp hb2;refine A3 (h:=A3 (h:=A3 (h:=A3 (h:=A3 (h:=A3 (h:=A3 (h:=A3 (h:=Ag (h:=AP (?_))))))))));refine AF ?_;exact⟨_,rfl,CM 1 0 (by simp[Ai,Ac,Ab,BL,WN,Cd,Ax,B1,Ao])⟩
  have hc2:=bp hb2;refine m_ (h:=k_ (h:=f_ (h:=f_ (h:=l_ (h:=m_ (h:=?_))))));refine BB (AK (LO w.s.spc w.c.a0 hs) ?_);rintro r rfl;refine BG (h:=Ar (h:=AP (?_)));refine AF ?_;exact⟨_,rfl,CM 1 0 (by simp[Ai,Ac,Ab,BL,WN,Cd,Ax,B1,Ao])⟩
 rintro S rfl;refine A8 rfl (fun hb3=>?_) (fun hb3=>?_)
 ·have hc3:=bp hb3;have k2:w.c.a0=0∨Bm w.s.spc w.c.a0=false:=by simpa using hc3
  refine w_ (a_ (h:=e_ (A4 (A7 (?_)))));refine Am (r:= .v (.int .i64 (Eu w).2)) none (h4:=(by simp[Ai,Ac,Ab,BL,WN,Cd,Ax,B1,Ao])) (h5:=(by rw[hum,if_neg k1,if_pos k2];exact A9 _)) (h6:=⟨rfl,rfl,?_⟩);rw[hum,if_neg k1,if_pos k2];rfl
 have hc3:=bp hb3;have k2:¬(w.c.a0=0∨Bm w.s.spc w.c.a0=false):=by simpa using hc3
 refine AN (q_ (w_ (a_ (h:=e_ (Av (?_))))));refine Bq (fun m S=>∃j:Nat,j≤w.s.tab.ps.length∧m=w.s.tab.ps.length - j∧(∀i y,i<j→w.s.tab.ps[i]?=some y→(decide (y.cwd.1=w.c.a0)||y.opens.any fun d=>decide (d.file.1=w.c.a0))=false)∧S=⟨look [(0, .bp 0 0),(3, .v (.int .i64 w.c.a0)),(4, .v (.int .i64 (j:Int)))],⟨[WN w],[]⟩⟩) (w.s.tab.ps.length) (Bl 1 0 (by simp[Ai,Ac,Ab,BL,WN,Cd,Ax,B1,Ao])) (⟨0,BJ _,rfl,fun i y hi=>by omega,rfl⟩) ?_;rintro m S ⟨j,hj,rfl,ha,rfl⟩;refine q_ (w_ (m_ (h:=m_ (h:=k_ (h:=f_ (h:=f_ (h:=f_ (h:=l_ (h:=n_ (h:=BS (h:=e_ (?_))))))))))));refine A8 rfl (fun hb4=>?_) (fun hb4=>?_)
 ·have hc4:=bp hb4;obtain⟨hlt,p,hy,hrow, -⟩:=Cu B1 hc4;have hop:=htb.opens p (Al hy);have hpl:(p.opens.map Fc).length=p.opens.length:=List.length_map _;refine AN (q_ (Av (w_ (m_ (h:=k_ (h:=f_ (h:=f_ (h:=f_ (h:=l_ (h:=m_ (h:=i_ (h:=l_ (h:=AZ (h:=s_ (h:=e_ (q_ (w_ (f_ (h:=f_ (h:=l_ (h:=m_ (h:=AR (h:=e_ (?_))))))))))))))))))))))));refine A8 rfl (fun hb5=>?_) (fun hb5=>?_)
  ·have hc5:=bp hb5;have hbz:Lq w.s.tab w.c.a0=true:=KZ hy (by simp[hc5]);refine w_ (a_ (h:=e_ (A4 (A7 (AY (A7 (A7 (AY (A7 (?_))))))))));refine Am (r:= .v (.int .i64 (Eu w).2)) none (h4:=(by simp[Ai,Ac,Ab,BL,WN,Cd,Ax,B1,Ao])) (h5:=(by rw[hum,if_neg k1,if_neg k2,if_pos hbz];exact A9 _)) (h6:=⟨rfl,rfl,?_⟩);rw[hum,if_neg k1,if_neg k2,if_pos hbz];rfl
  have hc5:=bp hb5;have hcw:¬p.cwd.1=w.c.a0:=hc5;refine AN (w_ (a_ (h:=e_ (Av (?_)))));refine Bq (fun m S=>∃k:Nat,k≤p.opens.length∧m=p.opens.length - k∧(∀i y,i<k→p.opens[i]?=some y→decide (y.file.1=w.c.a0)=false)∧S=⟨look [(0, .bp 0 0),(3, .v (.int .i64 w.c.a0)),(4, .v (.int .i64 (j:Int))),(5, .bp 1 0),(6, .v (.int .i64 (k:Int)))],⟨[WN w,B1 p],[]⟩⟩) (p.opens.length) (Bl 2 0 (by simp[Ai,Ac,Ab,BL,WN,Cd,Ax,B1,Ao])) (⟨0,BJ _,rfl,fun i y hi=>by omega,rfl⟩) ?_;rintro m S ⟨k,hk2,rfl,hak,rfl⟩;refine q_ (w_ (m_ (h:=f_ (h:=l_ (h:=n_ (h:=BS (h:=e_ (?_))))))));refine A8 rfl (fun hb6=>?_) (fun hb6=>?_)
  ·have hc6:=bp hb6;obtain⟨hltk,q,hyk,hrowk, -⟩:=Cu Fc hc6;refine AN (q_ (Av (w_ (f_ (h:=l_ (h:=m_ (h:=i_ (h:=f_ (h:=f_ (h:=l_ (h:=m_ (h:=AR (h:=e_ (?_))))))))))))));refine A8 rfl (fun hb7=>?_) (fun hb7=>?_)
   ·have hc7:=bp hb7;have hbz:Lq w.s.tab w.c.a0=true:=KZ hy (by rw[Bool.or_eq_true];exact .inr (KZ hyk (decide_eq_true hc7)));refine w_ (a_ (h:=e_ (A4 (AY (A7 (A7 (AY (AY (A7 (A7 (AY (A7 (?_)))))))))))));refine Am (r:= .v (.int .i64 (Eu w).2)) none (h4:=(by simp[Ai,Ac,Ab,BL,WN,Cd,Ax,B1,Ao])) (h5:=(by rw[hum,if_neg k1,if_neg k2,if_pos hbz];exact A9 _)) (h6:=⟨rfl,rfl,?_⟩);rw[hum,if_neg k1,if_neg k2,if_pos hbz];rfl
   have hc7:=bp hb7;have hqn:decide (q.file.1=w.c.a0)=false:=decide_eq_false hc7;refine BM (B8 (t_ (AQ (m_ (h:=BH (h:=a_ (h:=AP (?_))))))));refine AF ?_;refine⟨_,_,?_,⟨k+1,by omega,rfl,EP hyk hak hqn,rfl⟩,Bl 2 0 (by simp[Ai,Ac,Ab,BL,WN,Cd,Ax,B1,Ao])⟩;omega
  have hc6:=bp hb6;have e2:=D0 Fc hk2 hc6;have hno:(p.opens.any fun d=>decide (d.file.1=w.c.a0))=false:=LQ (by rw[←e2];exact hak);refine BX (Aw (Aw (BY (B8 (t_ (AQ (m_ (h:=BH (h:=a_ (h:=AP (?_)))))))))));refine AF ?_;refine⟨_,_,?_,⟨j+1,by omega,rfl,EP hy ha (by rw[decide_eq_false hcw,hno];rfl),rfl⟩,Bl 1 0 (by simp[Ai,Ac,Ab,BL,WN,Cd,Ax,B1,Ao])⟩;omega
 have hc4:=bp hb4;have e:=D0 B1 hj hc4;have hbz:Lq w.s.tab w.c.a0=false:=jQ (by rw[←e];exact ha);refine BX (Aw (Aw (BY (t_ (w_ (m_ (h:=k_ (h:=f_ (h:=f_ (h:=l_ (h:=m_ (h:=?_))))))))))));refine A6 rfl (AK (hrem) ?_);rintro r rfl;refine m_ (h:=x_ (h:=x_ (h:=AZ (h:=s_ (h:=a_ (h:=e_ (q_ (w_ (m_ (h:=AR (h:=e_ (?_))))))))))));refine A8 rfl (fun hb8=>?_) (fun hb8=>?_)
 ·have hc8:=bp hb8;have h0:R.2=0:=hc8;refine w_ (m_ (h:=l_ (h:=k_ (h:=f_ (h:=f_ (h:=s_ (h:=e_ (AQ (m_ (h:=m_ (h:=k_ (h:=f_ (h:=f_ (h:=s_ (h:=e_ (w_ (m_ (h:=a_ (h:=e_ (A4 (?_)))))))))))))))))))));refine Am (r:= .v (.int .i64 (Eu w).2)) none (h4:=(by simp[Ai,Ac,Ab,BL,WN,Cd,Ax,B1,Ao])) (h5:=(by rw[hum,if_neg k1,if_neg k2,if_neg (by rw[hbz];simp),H5,if_pos h0];exact LeA.of_eq (vi h0))) (h6:=⟨rfl,rfl,?_⟩);rw[hum,if_neg k1,if_neg k2,if_neg (by rw[hbz];simp),H5,if_pos h0];rfl
 have hc8:=bp hb8;have h0:¬R.2=0:=hc8;refine AN (w_ (m_ (h:=a_ (h:=e_ (A4 (?_))))));refine Am (r:= .v (.int .i64 (Eu w).2)) none (h4:=(by simp[Ai,Ac,Ab,BL,WN,Cd,Ax,B1,Ao])) (h5:=(by rw[hum,if_neg k1,if_neg k2,if_neg (by rw[hbz];simp),H5,if_neg h0];exact A9 _)) (h6:=⟨rfl,rfl,?_⟩);rw[hum,if_neg k1,if_neg k2,if_neg (by rw[hbz];simp),H5,if_neg h0];rfl
theorem jS(w:Wrk)(hs:SpcB w.s.spc)(htb:TabB w.s.tab)(htn:D9 w.s.tab)(h19:w.c.num=19→0<w.c.args.length):ACall prog 121 [.bp 0 0] [WN w] (fun r b t=>t=[]∧r= .v (.int .i64 (Ds w).2)∧b=[WN (Ds w).1]):=by
 obtain⟨F0,hF0⟩:∃F,F=F6 w.s.tab w.p.pid:=⟨_,rfl⟩;obtain⟨F2,hF2⟩:∃F,F=Fy w.s.tab w.p.pid:=⟨_,rfl⟩;obtain⟨F3,hF3⟩:∃F,F=Fz w.s.tab w.p.pid w.c.a0:=⟨_,rfl⟩;obtain⟨F4,hF4⟩:∃F,F=G0 w.s.tab w.p.pid w.c.a0:=⟨_,rfl⟩;obtain⟨F5,hF5⟩:∃F,F=Es w.s.tab w.p.pid w.c.a0:=⟨_,rfl⟩;obtain⟨F7,hF7⟩:∃F,F=Gw w.s.tab w.p.pid w.c.a0:=⟨_,rfl⟩;obtain⟨FK,hFK⟩:∃F,F=Fi w.s.tab w.p.pid w.c.a0 (!decide (w.c.a1=0)):=⟨_,rfl⟩;have q0:AFn prog 159 [.agg (Ax w.s.tab), .v (.int .i64 w.p.pid)] (fun r=>r=Ja F0):=by rw[hF0];exact jO _ _ htb htn
 have q2:AFn prog 160 [.agg (Ax w.s.tab), .v (.int .i64 w.p.pid)] (fun r=>r=Cg F2):=by rw[hF2];exact X0 _ _ htb
 have q3:AFn prog 161 [.agg (Ax w.s.tab), .v (.int .i64 w.p.pid), .v (.int .i64 w.c.a0)] (fun r=>r=Cg F3):=by rw[hF3];exact jJ _ _ _ htb
 have q4:AFn prog 162 [.agg (Ax w.s.tab), .v (.int .i64 w.p.pid), .v (.int .i64 w.c.a0)] (fun r=>r=Cg F4):=by rw[hF4];exact jK _ _ _ htb
 have q5:AFn prog 163 [.agg (Ax w.s.tab), .v (.int .i64 w.p.pid), .v (.int .i64 w.c.a0)] (fun r=>r=Cg F5):=by rw[hF5];exact jL _ _ _ htb htn
 have q7:AFn prog 164 [.agg (Ax w.s.tab), .v (.int .i64 w.p.pid), .v (.int .i64 w.c.a0)] (fun r=>r=Cg F7):=by rw[hF7];exact jM _ _ _ htb
 have qk:AFn prog 166 [.agg (Ax w.s.tab), .v (.int .i64 w.p.pid), .v (.int .i64 w.c.a0), .v (.bool (!decide (w.c.a1=0)))] (fun r=>r=Cg FK):=by rw[hFK];exact jN _ _ _ _ htb
 have hot:Ds w=if w.c.num=0 then C5 (Km w F0.2.1) (F0.1,F0.2.2)else if w.c.num=2 then C5 w F2 else if w.c.num=3 then C5 w F3 else if w.c.num=4 then C5 w F4 else if w.c.num=5 then C5 w F5 else if w.c.num=7 then C5 w F7 else if w.c.num=18 then Eu w
     else if w.c.num=19 then(if w.c.a0<0∨65535<w.c.a0∨Gx w.c=⟨#[]⟩then(w,22)else if w.c.a0=0 then(w,111)else(w,0))else if w.c.a1<0∨64<w.c.a1 then(w,22)else C5 w FK:=by
  have hb:decide (w.c.a1≠0)= !decide (w.c.a1=0):=by simp
  unfold Ds;rw[hb,←hF0,←hF2,←hF3,←hF4,←hF5,←hF7,←hFK]
 clear hF0 hF2 hF3 hF4 hF5 hF7 hFK;refine enter Tryz.func121 rfl rfl rfl rfl rfl 1 rfl ?_;refine w_ (a_ (h:=e_ (?_)));refine BE (fun S=>S=⟨look [(0, .bp 0 0),(3, .bp 1 0),(4, .v (.int .i64 w.p.pid)),(5, .bp 2 0)],⟨[WN w,Ax w.s.tab,Cd w.c],[]⟩⟩) ?_ ?_
 ·skip
  refine BO ([(0,WN w)]) 20 (h:=AO 0 (h:=BC 1 (h:=AG 2 (h:=AG 3 (h:=AM 4 (h:=AO 5 (h:=BC 6 (h:=AG 7 (h:=AG 8 (h:=AM 9 (h:=AO 10 (h:=BC 11 (h:=AG 12 (h:=AG 13 (h:=AM 14 (h:=?_))))))))))))))));refine Co 15 16 rfl rfl ?_ ?_
  ·refine BQ (by repeat constructor) ?_;refine o_ (h:=?_);refine c_ 16 rfl (BQ (by repeat constructor) ?_);refine o_ (h:=?_);refine Aj 17 rfl (Af rfl rfl rfl rfl rfl rfl (by repeat constructor) (by repeat constructor) ?_);refine o_ (h:=BK 18 (h:=?_));refine Aj 19 rfl (Af rfl rfl rfl rfl rfl rfl (by repeat constructor) (by repeat constructor) ?_);refine o_ (h:=z_ (h:=?_));refine AF ?_;exact⟨_,rfl,Bl 3 0 (by simp[Ai,Ac,Ab,BL,WN,Cd,Ax,B1,Ao])⟩
  refine BQ (by repeat constructor) ?_;refine o_ (h:=?_);refine c_ 15 rfl (BQ (by repeat constructor) ?_);refine o_ (h:=?_);refine Aj 17 rfl (Af rfl rfl rfl rfl rfl rfl (by repeat constructor) (by repeat constructor) ?_);refine o_ (h:=BK 18 (h:=?_));refine Aj 19 rfl (Af rfl rfl rfl rfl rfl rfl (by repeat constructor) (by repeat constructor) ?_);refine o_ (h:=z_ (h:=?_));refine AF ?_
  first|exact⟨_,rfl,Bl 3 0 (by simp[Ai,Ac,Ab,BL,WN,Cd,Ax,B1,Ao])⟩|exact⟨_,rfl,EB [0,2,1] Wd (by decide) (.cons _ _ _ _ _ rfl rfl (.cons _ _ _ _ _ rfl rfl (.cons _ _ _ _ _ rfl rfl .nil))) (by repeat (first|exact SubK.nil|refine SubK.cons _ _ _ _ rfl (A9 _) ?_))⟩
 rintro S rfl;refine q_ (w_ (m_ (h:=k_ (h:=f_ (h:=f_ (h:=l_ (h:=e_ (Av (w_ (AR (h:=a_ (h:=e_ (?_)))))))))))));refine A8 rfl (fun hb1=>?_) (fun hb1=>?_)
 ·have hc1:=bp hb1;have k0:w.c.num=0:=hc1;refine w_ (l_ (h:=m_ (h:=?_)));refine A6 rfl (AK (q0) ?_);rintro r rfl;refine m_ (h:=x_ (h:=x_ (h:=x_ (h:=AZ (h:=s_ (h:=a_ (h:=a_ (h:=e_ (w_ (m_ (h:=m_ (h:=m_ (h:=m_ (h:=k_ (h:=f_ (h:=f_ (h:=s_ (h:=k_ (h:=f_ (h:=f_ (h:=s_ (h:=e_ (w_ (?_))))))))))))))))))))))));refine m_ (h:=l_ (h:=m_ (h:=?_)));refine A6 rfl (Bf [0] rfl (.cons _ _ _ _ _ rfl (A9 _) (.cons _ _ _ _ _ rfl (A9 _) (.cons _ _ _ _ _ rfl (A9 _) .nil))) (by decide) (.cons _ _ _ _ _ rfl rfl .nil) (Ks (Km w F0.2.1) F0.1 F0.2.2) ?_);rintro r bc tc ⟨rfl,rfl,rfl⟩;refine⟨rfl,_,J7 ((C5 (Km w F0.2.1) (F0.1,F0.2.2)).1),?_⟩;refine a_ (h:=e_ (A4 (AY (A7 (?_)))));refine Am (r:= .v (.int .i64 (Ds w).2)) none (h4:=(by simp[Ai,Ac,Ab,BL,WN,Cd,Ax,B1,Ao])) (h5:=(by rw[hot,if_pos k0,J6];exact A9 _)) (h6:=⟨rfl,rfl,?_⟩);rw[hot,if_pos k0];rfl
 have hc1:=bp hb1;have k0:¬w.c.num=0:=hc1;refine w_ (AR (h:=a_ (h:=e_ (?_))));refine A8 rfl (fun hb2=>?_) (fun hb2=>?_)
 ·have hc2:=bp hb2;have k1:w.c.num=2:=hc2;refine w_ (m_ (h:=l_ (h:=m_ (h:=?_))));refine A6 rfl (AK (q2) ?_);rintro r rfl;refine x_ (h:=x_ (h:=?_));refine A6 rfl (Bf [0] rfl (.cons _ _ _ _ _ rfl (A9 _) (.cons _ _ _ _ _ rfl (A9 _) (.cons _ _ _ _ _ rfl (A9 _) .nil))) (by decide) (.cons _ _ _ _ _ rfl rfl .nil) (Ks w F2.1 F2.2) ?_);rintro r bc tc ⟨rfl,rfl,rfl⟩;refine⟨rfl,_,J7 ((C5 w F2).1),?_⟩;refine a_ (h:=e_ (A4 (AY (A7 (?_)))));refine Am (r:= .v (.int .i64 (Ds w).2)) none (h4:=(by simp[Ai,Ac,Ab,BL,WN,Cd,Ax,B1,Ao])) (h5:=(by rw[hot,if_neg k0,if_pos k1,J6];exact A9 _)) (h6:=⟨rfl,rfl,?_⟩);rw[hot,if_neg k0,if_pos k1];rfl
 have hc2:=bp hb2;have k1:¬w.c.num=2:=hc2;refine w_ (AR (h:=a_ (h:=e_ (?_))));refine A8 rfl (fun hb3=>?_) (fun hb3=>?_)
 ·have hc3:=bp hb3;have k2:w.c.num=3:=hc3;refine w_ (m_ (h:=l_ (h:=m_ (h:=?_))));refine A6 rfl (CR (len:=4) (sz:=1) (n:=0) (by kernel_rfl) rfl rfl rfl rfl ?_);refine l_ (h:=?_);refine A6 rfl (AK (q3) ?_);rintro r rfl;refine x_ (h:=x_ (h:=?_));refine A6 rfl (Bf [0] rfl (.cons _ _ _ _ _ rfl (A9 _) (.cons _ _ _ _ _ rfl (A9 _) (.cons _ _ _ _ _ rfl (A9 _) .nil))) (by decide) (.cons _ _ _ _ _ rfl rfl .nil) (Ks w F3.1 F3.2) ?_);rintro r bc tc ⟨rfl,rfl,rfl⟩;refine⟨rfl,_,J7 ((C5 w F3).1),?_⟩;refine a_ (h:=e_ (A4 (AY (A7 (?_)))));refine Am (r:= .v (.int .i64 (Ds w).2)) none (h4:=(by simp[Ai,Ac,Ab,BL,WN,Cd,Ax,B1,Ao])) (h5:=(by rw[hot,if_neg k0,if_neg k1,if_pos k2,J6];exact A9 _)) (h6:=⟨rfl,rfl,?_⟩);rw[hot,if_neg k0,if_neg k1,if_pos k2];rfl
 have hc3:=bp hb3;have k2:¬w.c.num=3:=hc3;refine w_ (AR (h:=a_ (h:=e_ (?_))));refine A8 rfl (fun hb4=>?_) (fun hb4=>?_)
 ·have hc4:=bp hb4;have k3:w.c.num=4:=hc4;refine w_ (m_ (h:=l_ (h:=m_ (h:=?_))));refine A6 rfl (CR (len:=4) (sz:=1) (n:=0) (by kernel_rfl) rfl rfl rfl rfl ?_);refine l_ (h:=?_);refine A6 rfl (AK (q4) ?_);rintro r rfl;refine x_ (h:=x_ (h:=?_));refine A6 rfl (Bf [0] rfl (.cons _ _ _ _ _ rfl (A9 _) (.cons _ _ _ _ _ rfl (A9 _) (.cons _ _ _ _ _ rfl (A9 _) .nil))) (by decide) (.cons _ _ _ _ _ rfl rfl .nil) (Ks w F4.1 F4.2) ?_);rintro r bc tc ⟨rfl,rfl,rfl⟩;refine⟨rfl,_,J7 ((C5 w F4).1),?_⟩;refine a_ (h:=e_ (A4 (AY (A7 (?_)))));refine Am (r:= .v (.int .i64 (Ds w).2)) none (h4:=(by simp[Ai,Ac,Ab,BL,WN,Cd,Ax,B1,Ao])) (h5:=(by rw[hot,if_neg k0,if_neg k1,if_neg k2,if_pos k3,J6];exact A9 _)) (h6:=⟨rfl,rfl,?_⟩);rw[hot,if_neg k0,if_neg k1,if_neg k2,if_pos k3];rfl
 have hc4:=bp hb4;have k3:¬w.c.num=4:=hc4;refine w_ (AR (h:=a_ (h:=e_ (?_))));refine A8 rfl (fun hb5=>?_) (fun hb5=>?_)
 ·have hc5:=bp hb5;have k4:w.c.num=5:=hc5;refine w_ (m_ (h:=l_ (h:=m_ (h:=?_))));refine A6 rfl (CR (len:=4) (sz:=1) (n:=0) (by kernel_rfl) rfl rfl rfl rfl ?_);refine l_ (h:=?_);refine A6 rfl (AK (q5) ?_);rintro r rfl;refine x_ (h:=x_ (h:=?_));refine A6 rfl (Bf [0] rfl (.cons _ _ _ _ _ rfl (A9 _) (.cons _ _ _ _ _ rfl (A9 _) (.cons _ _ _ _ _ rfl (A9 _) .nil))) (by decide) (.cons _ _ _ _ _ rfl rfl .nil) (Ks w F5.1 F5.2) ?_);rintro r bc tc ⟨rfl,rfl,rfl⟩;refine⟨rfl,_,J7 ((C5 w F5).1),?_⟩;refine a_ (h:=e_ (A4 (AY (A7 (?_)))));refine Am (r:= .v (.int .i64 (Ds w).2)) none (h4:=(by simp[Ai,Ac,Ab,BL,WN,Cd,Ax,B1,Ao])) (h5:=(by rw[hot,if_neg k0,if_neg k1,if_neg k2,if_neg k3,if_pos k4,J6];exact A9 _)) (h6:=⟨rfl,rfl,?_⟩);rw[hot,if_neg k0,if_neg k1,if_neg k2,if_neg k3,if_pos k4];rfl
 have hc5:=bp hb5;have k4:¬w.c.num=5:=hc5;refine w_ (AR (h:=a_ (h:=e_ (?_))));refine A8 rfl (fun hb6=>?_) (fun hb6=>?_)
 ·have hc6:=bp hb6;have k5:w.c.num=7:=hc6;refine w_ (m_ (h:=l_ (h:=m_ (h:=?_))));refine A6 rfl (CR (len:=4) (sz:=1) (n:=0) (by kernel_rfl) rfl rfl rfl rfl ?_);refine l_ (h:=?_);refine A6 rfl (AK (q7) ?_);rintro r rfl;refine x_ (h:=x_ (h:=?_));refine A6 rfl (Bf [0] rfl (.cons _ _ _ _ _ rfl (A9 _) (.cons _ _ _ _ _ rfl (A9 _) (.cons _ _ _ _ _ rfl (A9 _) .nil))) (by decide) (.cons _ _ _ _ _ rfl rfl .nil) (Ks w F7.1 F7.2) ?_);rintro r bc tc ⟨rfl,rfl,rfl⟩;refine⟨rfl,_,J7 ((C5 w F7).1),?_⟩;refine a_ (h:=e_ (A4 (AY (A7 (?_)))));refine Am (r:= .v (.int .i64 (Ds w).2)) none (h4:=(by simp[Ai,Ac,Ab,BL,WN,Cd,Ax,B1,Ao])) (h5:=(by rw[hot,if_neg k0,if_neg k1,if_neg k2,if_neg k3,if_neg k4,if_pos k5,J6];exact A9 _)) (h6:=⟨rfl,rfl,?_⟩);rw[hot,if_neg k0,if_neg k1,if_neg k2,if_neg k3,if_neg k4,if_pos k5];rfl
 have hc6:=bp hb6;have k5:¬w.c.num=7:=hc6;refine w_ (AR (h:=a_ (h:=e_ (?_))));refine A8 rfl (fun hb7=>?_) (fun hb7=>?_)
 ·have hc7:=bp hb7;have k6:w.c.num=18:=hc7;refine w_ (m_ (h:=?_));refine A6 rfl (Bf [0] rfl (.cons _ _ _ _ _ rfl (A9 _) .nil) (by decide) (.cons _ _ _ _ _ rfl rfl .nil) (jR w hs htb) ?_);rintro r bc tc ⟨rfl,rfl,rfl⟩;refine⟨rfl,_,J7 ((Eu w).1),?_⟩;refine a_ (h:=e_ (A4 (AY (A7 (?_)))));refine Am (r:= .v (.int .i64 (Ds w).2)) none (h4:=(by simp[Ai,Ac,Ab,BL,WN,Cd,Ax,B1,Ao])) (h5:=(by rw[hot,if_neg k0,if_neg k1,if_neg k2,if_neg k3,if_neg k4,if_neg k5,if_pos k6];exact A9 _)) (h6:=⟨rfl,rfl,?_⟩);rw[hot,if_neg k0,if_neg k1,if_neg k2,if_neg k3,if_neg k4,if_neg k5,if_pos k6];rfl
 have hc7:=bp hb7;have k6:¬w.c.num=18:=hc7;refine w_ (AR (h:=a_ (h:=e_ (?_))));refine A8 rfl (fun hb8=>?_) (fun hb8=>?_)
 ·have hc8:=bp hb8;have k7:w.c.num=19:=hc8;obtain⟨a0,ha0⟩:∃a,w.c.args[0]?=some a:=⟨_,B9 (h19 hc8)⟩;have harg:(w.c.args.map DL)[0]?=some (DL a0):=by rw[List.getElem?_map,ha0];rfl
  have hag:Gx w.c=a0:=by unfold Gx;rw[List.headD_eq_head?_getD,List.head?_eq_getElem?,ha0];rfl
  refine q_ (?_);refine BE (fun S=>∃b:Bool,(b=true↔(w.c.a0<0∨65535<w.c.a0∨a0=⟨#[]⟩))∧S=⟨look [(0, .bp 0 0),(3, .bp 1 0),(4, .v (.int .i64 w.p.pid)),(5, .bp 2 0),(128, .v (.bool b))],⟨[WN w,Ax w.s.tab,Cd w.c],[]⟩⟩) ?_ ?_
  ·skip
   refine AQ (?_);refine A6 rfl (CR (len:=4) (sz:=1) (n:=0) (by kernel_rfl) rfl rfl rfl rfl ?_);refine l_ (h:=BS (h:=m_ (h:=?_)));refine B5 false rfl rfl (fun hb9=>?_) (fun hb9=>?_)
   ·have hc9:=bp hb9;refine A3 (h:=A3 (h:=A3 (h:=Ag (h:=m_ (h:=A3 (h:=A3 (h:=A3 (h:=A3 (h:=A3 (h:=A3 (h:=A3 (h:=A3 (h:=Ag (h:=AP (?_)))))))))))))));refine AF ?_;refine⟨_,⟨_,?_,rfl⟩,Bl 3 0 (by simp[Ai,Ac,Ab,BL,WN,Cd,Ax,B1,Ao])⟩
    (simp[*];done)
   have hc9:=bp hb9;refine BB (CR (len:=4) (sz:=1) (n:=0) (by kernel_rfl) rfl rfl rfl rfl ?_);refine l_ (h:=Ck (h:=Ar (h:=m_ (h:=?_))));refine B5 false rfl rfl (fun hb10=>?_) (fun hb10=>?_)
   ·have hc10:=bp hb10;refine A3 (h:=A3 (h:=A3 (h:=A3 (h:=A3 (h:=A3 (h:=A3 (h:=A3 (h:=Ag (h:=AP (?_))))))))));refine AF ?_;refine⟨_,⟨_,?_,rfl⟩,Bl 3 0 (by simp[Ai,Ac,Ab,BL,WN,Cd,Ax,B1,Ao])⟩
    (simp[*];done)
   have hc10:=bp hb10;refine m_ (h:=k_ (h:=f_ (h:=f_ (h:=l_ (h:=?_)))));refine BB (Ci (n:=0) rfl rfl rfl harg ?_);refine l_ (h:=AR (h:=Ar (h:=AP (?_))));refine AF ?_;refine⟨_,⟨_,?_,rfl⟩,Bl 3 0 (by simp[Ai,Ac,Ab,BL,WN,Cd,Ax,B1,Ao])⟩
   (simp[*];done)
  rintro S ⟨b20,hb20,rfl⟩;refine A8 rfl (fun hb11=>?_) (fun hb11=>?_)
  ·have hc11:=bp hb11;refine w_ (a_ (h:=e_ (A4 (A7 (AY (A7 (?_)))))));refine Am (r:= .v (.int .i64 (Ds w).2)) none (h4:=(by simp[Ai,Ac,Ab,BL,WN,Cd,Ax,B1,Ao])) (h5:=(by rw[hot,if_neg k0,if_neg k1,if_neg k2,if_neg k3,if_neg k4,if_neg k5,if_neg k6,if_pos k7,if_pos (by rw[hag];exact hb20.1 ‹_›)];exact A9 _)) (h6:=⟨rfl,rfl,?_⟩);rw[hot,if_neg k0,if_neg k1,if_neg k2,if_neg k3,if_neg k4,if_neg k5,if_neg k6,if_pos k7,if_pos (by rw[hag];exact hb20.1 ‹_›)];rfl
  have hc11:=bp hb11;refine AN (q_ (w_ (?_)));refine A6 rfl (CR (len:=4) (sz:=1) (n:=0) (by kernel_rfl) rfl rfl rfl rfl ?_);refine l_ (h:=AR (h:=e_ (?_)));refine A8 rfl (fun hb12=>?_) (fun hb12=>?_)
  ·have hc12:=bp hb12;have k9:w.c.a0=0:=hc12;refine w_ (a_ (h:=e_ (A4 (A7 (AY (A7 (?_)))))));refine Am (r:= .v (.int .i64 (Ds w).2)) none (h4:=(by simp[Ai,Ac,Ab,BL,WN,Cd,Ax,B1,Ao])) (h5:=(by rw[hot,if_neg k0,if_neg k1,if_neg k2,if_neg k3,if_neg k4,if_neg k5,if_neg k6,if_pos k7,if_neg (by rw[hag];exact fun q=>absurd (hb20.2 q) (by simp[*])),if_pos k9];exact A9 _)) (h6:=⟨rfl,rfl,?_⟩);rw[hot,if_neg k0,if_neg k1,if_neg k2,if_neg k3,if_neg k4,if_neg k5,if_neg k6,if_pos k7,if_neg (by rw[hag];exact fun q=>absurd (hb20.2 q) (by simp[*])),if_pos k9];rfl
  have hc12:=bp hb12;have k9:¬w.c.a0=0:=hc12;refine AN (w_ (a_ (h:=e_ (A4 (AY (A7 (?_)))))));refine Am (r:= .v (.int .i64 (Ds w).2)) none (h4:=(by simp[Ai,Ac,Ab,BL,WN,Cd,Ax,B1,Ao])) (h5:=(by rw[hot,if_neg k0,if_neg k1,if_neg k2,if_neg k3,if_neg k4,if_neg k5,if_neg k6,if_pos k7,if_neg (by rw[hag];exact fun q=>absurd (hb20.2 q) (by simp[*])),if_neg k9];exact A9 _)) (h6:=⟨rfl,rfl,?_⟩);rw[hot,if_neg k0,if_neg k1,if_neg k2,if_neg k3,if_neg k4,if_neg k5,if_neg k6,if_pos k7,if_neg (by rw[hag];exact fun q=>absurd (hb20.2 q) (by simp[*])),if_neg k9];rfl
 have hc8:=bp hb8;have k7:¬w.c.num=19:=hc8;refine BM (B8 (t_ (q_ (?_))));refine BE (fun S=>∃b:Bool,(b=true↔(w.c.a1<0∨64<w.c.a1))∧S=⟨look [(0, .bp 0 0),(3, .bp 1 0),(4, .v (.int .i64 w.p.pid)),(5, .bp 2 0),(139, .v (.bool b))],⟨[WN w,Ax w.s.tab,Cd w.c],[]⟩⟩) ?_ ?_
 ·skip
  refine AQ (?_);refine A6 rfl (CR (len:=4) (sz:=1) (n:=1) (by kernel_rfl) rfl rfl rfl rfl ?_);refine l_ (h:=BS (h:=m_ (h:=?_)));refine B5 false rfl rfl (fun hb13=>?_) (fun hb13=>?_)
  ·have hc13:=bp hb13;refine A3 (h:=A3 (h:=A3 (h:=Ag (h:=AP (?_)))));refine AF ?_;refine⟨_,⟨_,?_,rfl⟩,Bl 3 0 (by simp[Ai,Ac,Ab,BL,WN,Cd,Ax,B1,Ao])⟩
   (simp[*];done)
  have hc13:=bp hb13;refine BB (CR (len:=4) (sz:=1) (n:=1) (by kernel_rfl) rfl rfl rfl rfl ?_);refine l_ (h:=Ck (h:=Ar (h:=AP (?_))));refine AF ?_;refine⟨_,⟨_,?_,rfl⟩,Bl 3 0 (by simp[Ai,Ac,Ab,BL,WN,Cd,Ax,B1,Ao])⟩
  (simp[*];done)
 rintro S ⟨b25,hb25,rfl⟩;refine A8 rfl (fun hb14=>?_) (fun hb14=>?_)
 ·have hc14:=bp hb14;refine w_ (a_ (h:=e_ (A4 (A7 (?_)))));refine Am (r:= .v (.int .i64 (Ds w).2)) none (h4:=(by simp[Ai,Ac,Ab,BL,WN,Cd,Ax,B1,Ao])) (h5:=(by rw[hot,if_neg k0,if_neg k1,if_neg k2,if_neg k3,if_neg k4,if_neg k5,if_neg k6,if_neg k7,if_pos (hb25.1 ‹_›)];exact A9 _)) (h6:=⟨rfl,rfl,?_⟩);rw[hot,if_neg k0,if_neg k1,if_neg k2,if_neg k3,if_neg k4,if_neg k5,if_neg k6,if_neg k7,if_pos (hb25.1 ‹_›)];rfl
 have hc14:=bp hb14;refine AN (w_ (m_ (h:=l_ (h:=m_ (h:=?_)))));refine A6 rfl (CR (len:=4) (sz:=1) (n:=0) (by kernel_rfl) rfl rfl rfl rfl ?_);refine l_ (h:=?_);refine A6 rfl (CR (len:=4) (sz:=1) (n:=1) (by kernel_rfl) rfl rfl rfl rfl ?_);refine l_ (h:=BV (h:=?_));refine A6 rfl (AK (qk) ?_);rintro r rfl;refine x_ (h:=x_ (h:=?_));refine A6 rfl (Bf [0] rfl (.cons _ _ _ _ _ rfl (A9 _) (.cons _ _ _ _ _ rfl (A9 _) (.cons _ _ _ _ _ rfl (A9 _) .nil))) (by decide) (.cons _ _ _ _ _ rfl rfl .nil) (Ks w FK.1 FK.2) ?_);rintro r bc tc ⟨rfl,rfl,rfl⟩;refine⟨rfl,_,J7 ((C5 w FK).1),?_⟩;refine a_ (h:=e_ (A4 (?_)));refine Am (r:= .v (.int .i64 (Ds w).2)) none (h4:=(by simp[Ai,Ac,Ab,BL,WN,Cd,Ax,B1,Ao])) (h5:=(by rw[hot,if_neg k0,if_neg k1,if_neg k2,if_neg k3,if_neg k4,if_neg k5,if_neg k6,if_neg k7,if_neg (fun q=>absurd (hb25.2 q) (by simp[*])),J6];exact A9 _)) (h6:=⟨rfl,rfl,?_⟩);rw[hot,if_neg k0,if_neg k1,if_neg k2,if_neg k3,if_neg k4,if_neg k5,if_neg k6,if_neg k7,if_neg (fun q=>absurd (hb25.2 q) (by simp[*]))];rfl
theorem jT(w:Wrk)(e:Int)(hp:w.c.paths=[]):ACall prog 66 [.bp 0 0, .v (.int .i64 e)] [WN w] (fun r b t=>t=[]∧r= .v (.int .i64 e)∧b=[WN w]):=by
 have hpl:w.c.paths.length=0:=by rw[hp];rfl
 refine enter Tryz.func66 rfl rfl rfl rfl rfl 1 rfl ?_;refine w_ (a_ (h:=e_ (w_ (m_ (h:=k_ (h:=f_ (h:=l_ (h:=?_))))))));refine A6 rfl (AK (Vo w.c) ?_);rintro r rfl;refine a_ (h:=e_ (q_ (w_ (a_ (h:=e_ (Av (?_)))))));refine Bq (fun m S=>S=⟨look [(0, .bp 0 0),(1, .v (.int .i64 e)),(5, .sl 1 ((CK w.c).map CF) none),(6, .v (.int .i64 0))],⟨[WN w],[]⟩⟩) (0) (Bl 1 0 (by simp[Ai,Ac,Ab,BL,WN,Cd,Ax,B1,Ao])) (rfl) ?_;rintro m S rfl;refine q_ (w_ (m_ (h:=m_ (h:=k_ (h:=f_ (h:=f_ (h:=l_ (h:=n_ (h:=BS (h:=e_ (?_)))))))))));refine A8 rfl (fun hb1=>?_) (fun hb1=>?_)
 ·have hc1:=bp hb1;exfalso;have h3:=hc1;rw[List.length_map,hpl]at h3;omega
 have hc1:=bp hb1;refine BX (Aw (Aw (BY (t_ (w_ (m_ (h:=a_ (h:=e_ (A4 (?_))))))))));refine Am (r:= .v (.int .i64 e)) none (h4:=(by simp[Ai,Ac,Ab,BL,WN,Cd,Ax,B1,Ao])) (h5:=(A9 _)) (h6:=⟨rfl,rfl,rfl⟩)
theorem jU(w:Wrk)(hs:SpcB w.s.spc)(htb:TabB w.s.tab)(htn:D9 w.s.tab)(h19:w.c.num=19→0<w.c.args.length)(hq:w.c.num≠1∧w.c.num≠6∧w.c.num≠8∧w.c.num≠9∧w.c.num≠10∧w.c.num≠11∧w.c.num≠12∧w.c.num≠13∧w.c.num≠14∧w.c.num≠15∧w.c.num≠16∧w.c.num≠17∧w.c.num≠21):ACall prog 68 [.bp 0 0] [WN w] (fun r b t=>t=[]∧r= .v (.int .i64 (BD w).2)∧b=[WN (BD w).1]):=by
 have hact:BD w=Ds w:=by
  unfold BD;rw[if_neg (by omega),if_neg (by omega),if_neg (by omega),if_neg (by omega),if_neg (by omega),if_neg (by omega),if_neg (by omega)]
 refine enter Tryz.func68 rfl rfl rfl rfl rfl 1 rfl ?_;refine w_ (a_ (h:=e_ (q_ (w_ (m_ (h:=k_ (h:=f_ (h:=f_ (h:=l_ (h:=e_ (Av (w_ (AR (h:=a_ (h:=e_ (?_))))))))))))))));refine A8 rfl (fun hb1=>?_) (fun hb1=>?_)
 ·have hc1:=bp hb1;exfalso;first|contradiction|omega
 have hc1:=bp hb1;refine w_ (AR (h:=a_ (h:=e_ (?_))));refine A8 rfl (fun hb2=>?_) (fun hb2=>?_)
 ·have hc2:=bp hb2;exfalso;first|contradiction|omega
 have hc2:=bp hb2;refine q_ (w_ (AR (h:=a_ (h:=e_ (?_)))));refine A8 rfl (fun hb3=>?_) (fun hb3=>?_)
 ·have hc3:=bp hb3;exfalso;first|contradiction|omega
 have hc3:=bp hb3;refine AQ (AR (h:=a_ (h:=e_ (?_))));refine A8 rfl (fun hb4=>?_) (fun hb4=>?_)
 ·have hc4:=bp hb4;exfalso;first|contradiction|omega
 have hc4:=bp hb4;refine w_ (AR (h:=a_ (h:=e_ (?_))));refine A8 rfl (fun hb5=>?_) (fun hb5=>?_)
 ·have hc5:=bp hb5;exfalso;first|contradiction|omega
 have hc5:=bp hb5;refine q_ (w_ (AR (h:=a_ (h:=e_ (?_)))));refine A8 rfl (fun hb6=>?_) (fun hb6=>?_)
 ·have hc6:=bp hb6;exfalso;first|contradiction|omega
 have hc6:=bp hb6;refine AQ (AR (h:=a_ (h:=e_ (?_))));refine A8 rfl (fun hb7=>?_) (fun hb7=>?_)
 ·have hc7:=bp hb7;exfalso;first|contradiction|omega
 have hc7:=bp hb7;refine q_ (w_ (AR (h:=a_ (h:=e_ (?_)))));refine A8 rfl (fun hb8=>?_) (fun hb8=>?_)
 ·have hc8:=bp hb8;exfalso;first|contradiction|omega
 have hc8:=bp hb8;refine w_ (AR (h:=a_ (h:=e_ (?_))));refine A8 rfl (fun hb9=>?_) (fun hb9=>?_)
 ·have hc9:=bp hb9;exfalso;first|contradiction|omega
 have hc9:=bp hb9;refine w_ (AR (h:=a_ (h:=e_ (?_))));refine A8 rfl (fun hb10=>?_) (fun hb10=>?_)
 ·have hc10:=bp hb10;exfalso;first|contradiction|omega
 have hc10:=bp hb10;refine AQ (AR (h:=a_ (h:=e_ (?_))));refine A8 rfl (fun hb11=>?_) (fun hb11=>?_)
 ·have hc11:=bp hb11;exfalso;first|contradiction|omega
 have hc11:=bp hb11;refine q_ (w_ (AR (h:=a_ (h:=e_ (?_)))));refine A8 rfl (fun hb12=>?_) (fun hb12=>?_)
 ·have hc12:=bp hb12;exfalso;first|contradiction|omega
 have hc12:=bp hb12;refine AQ (AR (h:=a_ (h:=e_ (?_))));refine A8 rfl (fun hb13=>?_) (fun hb13=>?_)
 ·have hc13:=bp hb13;exfalso;first|contradiction|omega
 have hc13:=bp hb13;refine BM (B8 (t_ (w_ (m_ (h:=?_)))));refine A6 rfl (Bf [0] rfl (.cons _ _ _ _ _ rfl (A9 _) .nil) (by decide) (.cons _ _ _ _ _ rfl rfl .nil) (jS w hs htb htn h19) ?_);rintro r bc tc ⟨rfl,rfl,rfl⟩;refine⟨rfl,_,J7 ((Ds w).1),?_⟩;refine a_ (h:=e_ (A4 (?_)));refine Am (r:= .v (.int .i64 (BD w).2)) none (h4:=(by simp[Ai,Ac,Ab,BL,WN,Cd,Ax,B1,Ao])) (h5:=(by rw[hact];exact A9 _)) (h6:=⟨rfl,rfl,?_⟩);rw[hact];rfl
end
theorem jV(w:Wrk):(EK w).1.r.items.length=w.r.items.length:=by
 unfold EK
 repeat' split
 all_goals first|rfl|exact(SA _ _ _).trans (Lw _ _)
theorem jW(w:Wrk)(R:Cp):(Fk w R).1.r.items.length=w.r.items.length:=by
 unfold Fk;split
 ·rfl
 exact(Ws _ _ _).trans (Lw _ _)
theorem jX(w:Wrk):(Dk w).1.r.items.length=w.r.items.length:=by
 unfold Dk
 repeat' split
 all_goals first|rfl|exact jW _ _
theorem jY(w:Wrk):(EW w).1.r.items.length=w.r.items.length:=by
 unfold EW H3
 repeat' split
 all_goals first|rfl|exact Lw _ _
theorem jZ(w:Wrk)(R:Spc×Int):(H4 w R).1.r.items.length=w.r.items.length:=by
 unfold H4;split<;>rfl
theorem kA(w:Wrk):(DG w).1.r.items.length=w.r.items.length:=by
 unfold DG
 repeat' split
 all_goals first|rfl|exact PJ _ _|exact jZ _ _
theorem kC(w:Wrk):(EX w).1.r.items.length=w.r.items.length:=by
 unfold EX
 repeat' split
 all_goals first|rfl|exact SB _ _ _
theorem kF(w:Wrk)(R:Spc×Int):(H5 w R).1.r.items.length=w.r.items.length:=by
 unfold H5;split<;>rfl
theorem kH(w:Wrk):(Eu w).1.r.items.length=w.r.items.length:=by
 unfold Eu
 repeat' split
 all_goals first|rfl|exact kF _ _
theorem kJ(w:Wrk):(Ds w).1.r.items.length=w.r.items.length:=by
 unfold Ds
 repeat' split
 all_goals first|rfl|exact kH _|exact PJ _ _|exact PJ (Km w _) _
theorem X4(w:Wrk):(BD w).1.r.items.length=w.r.items.length:=by
 unfold BD
 repeat' split
 all_goals first|exact Wu _|exact jV _|exact jX _|exact Wv _|exact jY _|exact kA _|exact kC _|exact kJ _
theorem X5{n:Int}(h:0<(Br n).2.2.1):(n=1∨n=6∨n=8∨n=9∨n=10∨n=11∨n=12∨n=13∨n=14∨n=15∨n=16∨n=17∨n=21)∧((n=8∨n=13)→(Br n).2.2.1=2)∧(¬(n=8∨n=13)→(Br n).2.2.1=1):=by
 unfold Br at h ⊢;split at h
 ·exact absurd h (by decide)
 rename_i c;rw[if_neg c];obtain⟨m,rfl⟩:=Int.eq_ofNat_of_zero_le (show 0≤n by omega);have hm:m<22:=by omega
 have k1:∀m,m<22→0<((EU[m]?).getD (⟨#[]⟩,0,0,0,0)).2.2.1→m∈[1,6,8,9,10,11,12,13,14,15,16,17,21]:=by decide
 have k2:∀m,m<22→m∈[8,13]→((EU[m]?).getD (⟨#[]⟩,0,0,0,0)).2.2.1=2:=by decide
 have k3:∀m,m<22→0<((EU[m]?).getD (⟨#[]⟩,0,0,0,0)).2.2.1→m∉[8,13]→((EU[m]?).getD (⟨#[]⟩,0,0,0,0)).2.2.1=1:=by decide
 have k1:=k1 m hm h;have k2:=k2 m hm;have k3:=k3 m hm h;simp only[List.mem_cons,List.not_mem_nil,or_false]at k1 k2 k3;exact⟨by omega,fun q=>k2 (by omega),fun q=>k3 (by omega)⟩
theorem X6{n:Int}(h:(Br n).2.2.1=0):n≠1∧n≠6∧n≠8∧n≠9∧n≠10∧n≠11∧n≠12∧n≠13∧n≠14∧n≠15∧n≠16∧n≠17∧n≠21:=by
 refine⟨?_,?_,?_,?_,?_,?_,?_,?_,?_,?_,?_,?_,?_⟩<;>(rintro rfl;revert h;decide)
theorem kK(n:Int):0<(Br n).2.2.1∨(Br n).2.2.1=0:=by
 unfold Br;split
 ·exact .inr rfl
 rename_i c;obtain⟨m,rfl⟩:=Int.eq_ofNat_of_zero_le (show 0≤n by omega);have hm:m<22:=by omega
 have key:∀m,m<22→0<((EU[m]?).getD (⟨#[]⟩,0,0,0,0)).2.2.1∨((EU[m]?).getD (⟨#[]⟩,0,0,0,0)).2.2.1=0:=by decide
 exact key m hm
theorem kM{c:Cal}(h:0<(Br c.num).2.2.1):((CK c).length:Int)=(Br c.num).2.2.1:=by
 obtain⟨k1,k2,k3⟩:=X5 h;by_cases c2:c.num=8∨c.num=13
 ·rw[k2 c2];rcases c2 with q|q<;>simp[CK,q]
 rw[k3 c2];rcases k1 with q|q|q|q|q|q|q|q|q|q|q|q|q<;>first|(exfalso;omega)|simp[CK,q]
theorem kO{c0 c1 c2 c3 c4 c5:List AV}(w:Wrk):Back [c0,c1,c2,c3,c4,c5] [5] [WN w] [c0,c1,c2,c3,c4,WN w]:=by
 have:=NT (bx:=[c0,c1,c2,c3,c4,c5]) (is:=[5]) (bc:=[WN w]) (by simp) (by simp) (by simp)
 have hb:DS [c0,c1,c2,c3,c4,c5] (Du [5] [c0,c1,c2,c3,c4,c5].length) [5] [WN w]=[c0,c1,c2,c3,c4,WN w]:=by
  unfold DS;unfold DS;rfl
 rw[hb]at this;exact this
section
theorem kQ(w:Wrk)(cap:Nat)(hv:SpcV w.s.spc)(hm:w.s.spc.mounts.length≤1000)(htb:TabB w.s.tab)(hnm:∀f∈w.found,f.name.size≤12)(h1:1≤w.found.length)(h1i:1≤w.r.items.length)(h2:w.c.num=8∨w.c.num=13→2≤w.found.length∧2≤w.r.items.length)(hin:w.c.num=1∨w.c.num=6∨w.c.num=8∨w.c.num=9∨w.c.num=10∨w.c.num=11∨w.c.num=12∨w.c.num=13∨w.c.num=14∨w.c.num=15∨w.c.num=16∨w.c.num=17∨w.c.num=21)(h9:w.c.num=9→0<w.c.args.length)(hsz:∀p∈w.c.args,p.size≤1000):ACall prog 68 [.bp 0 0] [WA w cap,IB w cap] (fun r b t=>t=[]∧r= .v (.int .i64 (BD w).2)∧b=[WA (BD w).1 cap,IB (BD w).1 cap]):=by
 have hps:w.s.tab.ps.length≤1000:=by have:=htb.few;omega
 refine enter Tryz.func68 rfl rfl rfl rfl rfl 2 rfl ?_;refine w_ (a_ (h:=e_ (q_ (w_ (m_ (h:=k_ (h:=f_ (h:=f_ (h:=l_ (h:=e_ (Av (w_ (AR (h:=a_ (h:=e_ (?_))))))))))))))));refine A8 rfl (fun hb1=>?_) (fun hb1=>?_)
 ·have hc1:=bp hb1;obtain⟨f,hf⟩:∃f,w.found[0]?=some f:=⟨_,B9 (by omega)⟩;obtain⟨x,hx⟩:∃x,w.r.items[0]?=some x:=⟨_,B9 (by omega)⟩;have hact:BD w=CB w:=by simp[BD,hc1]
  refine w_ (m_ (h:=?_));refine A6 rfl (Bf [0,1] rfl (.cons _ _ _ _ _ rfl (A9 _) .nil) (by decide) (.cons _ _ _ _ _ rfl rfl (.cons _ _ _ _ _ rfl (Cr B6 _ _ _) .nil)) (Wh w cap f x hv hm htb hf hx (by have:=hnm f (Al hf);omega)) ?_);rintro r bc tc ⟨rfl,rfl,rfl⟩;refine⟨rfl,_,DH rfl ((CB w).1) cap,?_⟩;refine a_ (h:=e_ (A4 (AY (A7 (?_)))));refine BU (r:= .v (.int .i64 (BD w).2)) none (h5:=(by rw[hact];exact A9 _)) (h6:=⟨rfl,rfl,?_⟩);rw[hact];rfl
 have hc1:=bp hb1;refine w_ (AR (h:=a_ (h:=e_ (?_))));refine A8 rfl (fun hb2=>?_) (fun hb2=>?_)
 ·have hc2:=bp hb2;obtain⟨f,hf⟩:∃f,w.found[0]?=some f:=⟨_,B9 (by omega)⟩;obtain⟨x,hx⟩:∃x,w.r.items[0]?=some x:=⟨_,B9 (by omega)⟩;obtain⟨g,hg⟩:∃f,w.found[1]?=some f:=⟨_,B9 (h2 (by omega)).1⟩;obtain⟨x1,hx1⟩:∃x,w.r.items[1]?=some x:=⟨_,B9 (h2 (by omega)).2⟩;have hact:BD w=EK w:=by simp[BD,hc2]
  refine w_ (m_ (h:=?_));refine A6 rfl (Bf [0,1] rfl (.cons _ _ _ _ _ rfl (A9 _) .nil) (by decide) (.cons _ _ _ _ _ rfl rfl (.cons _ _ _ _ _ rfl (Cr B6 _ _ _) .nil)) (jE w cap f g x1 hv hm hf hg hx1 (by have:=hnm g (Al hg);omega)) ?_);rintro r bc tc ⟨rfl,rfl,rfl⟩;refine⟨rfl,_,DH rfl ((EK w).1) cap,?_⟩;refine a_ (h:=e_ (A4 (AY (A7 (?_)))));refine BU (r:= .v (.int .i64 (BD w).2)) none (h5:=(by rw[hact];exact A9 _)) (h6:=⟨rfl,rfl,?_⟩);rw[hact];rfl
 have hc2:=bp hb2;refine q_ (w_ (AR (h:=a_ (h:=e_ (?_)))));refine A8 rfl (fun hb3=>?_) (fun hb3=>?_)
 ·have hc3:=bp hb3;obtain⟨f,hf⟩:∃f,w.found[0]?=some f:=⟨_,B9 (by omega)⟩;obtain⟨x,hx⟩:∃x,w.r.items[0]?=some x:=⟨_,B9 (by omega)⟩;have hact:BD w=Dk w:=by simp[BD,hc3]
  refine AN (C2 (h:=w_ (m_ (h:=?_))));refine A6 rfl (Bf [0,1] rfl (.cons _ _ _ _ _ rfl (A9 _) .nil) (by decide) (.cons _ _ _ _ _ rfl rfl (.cons _ _ _ _ _ rfl (Cr B6 _ _ _) .nil)) (Wx w cap f x hv hm hps hf hx (by have:=hnm f (Al hf);omega)) ?_);rintro r bc tc ⟨rfl,rfl,rfl⟩;refine⟨rfl,_,DH rfl ((Dk w).1) cap,?_⟩;refine a_ (h:=e_ (A4 (AY (A7 (?_)))));refine BU (r:= .v (.int .i64 (BD w).2)) none (h5:=(by rw[hact];exact A9 _)) (h6:=⟨rfl,rfl,?_⟩);rw[hact];rfl
 have hc3:=bp hb3;refine AQ (AR (h:=a_ (h:=e_ (?_))));refine A8 rfl (fun hb4=>?_) (fun hb4=>?_)
 ·have hc4:=bp hb4;obtain⟨f,hf⟩:∃f,w.found[0]?=some f:=⟨_,B9 (by omega)⟩;obtain⟨x,hx⟩:∃x,w.r.items[0]?=some x:=⟨_,B9 (by omega)⟩;have hact:BD w=Dk w:=by simp[BD,hc4]
  refine w_ (m_ (h:=?_));refine A6 rfl (Bf [0,1] rfl (.cons _ _ _ _ _ rfl (A9 _) .nil) (by decide) (.cons _ _ _ _ _ rfl rfl (.cons _ _ _ _ _ rfl (Cr B6 _ _ _) .nil)) (Wx w cap f x hv hm hps hf hx (by have:=hnm f (Al hf);omega)) ?_);rintro r bc tc ⟨rfl,rfl,rfl⟩;refine⟨rfl,_,DH rfl ((Dk w).1) cap,?_⟩;refine a_ (h:=e_ (A4 (AY (A7 (?_)))));refine BU (r:= .v (.int .i64 (BD w).2)) none (h5:=(by rw[hact];exact A9 _)) (h6:=⟨rfl,rfl,?_⟩);rw[hact];rfl
 have hc4:=bp hb4;refine w_ (AR (h:=a_ (h:=e_ (?_))));refine A8 rfl (fun hb5=>?_) (fun hb5=>?_)
 ·have hc5:=bp hb5;obtain⟨f,hf⟩:∃f,w.found[0]?=some f:=⟨_,B9 (by omega)⟩;obtain⟨x,hx⟩:∃x,w.r.items[0]?=some x:=⟨_,B9 (by omega)⟩;obtain⟨g,hg⟩:∃f,w.found[1]?=some f:=⟨_,B9 (h2 (by omega)).1⟩;obtain⟨x1,hx1⟩:∃x,w.r.items[1]?=some x:=⟨_,B9 (h2 (by omega)).2⟩;have hact:BD w=Dl w:=by simp[BD,hc5]
  refine w_ (m_ (h:=?_));refine A6 rfl (Bf [0,1] rfl (.cons _ _ _ _ _ rfl (A9 _) .nil) (by decide) (.cons _ _ _ _ _ rfl rfl (.cons _ _ _ _ _ rfl (Cr B6 _ _ _) .nil)) (Wo w cap f g x x1 hv hm hps hf hg hx hx1 (by have:=hnm f (Al hf);omega) (by have:=hnm g (Al hg);omega)) ?_);rintro r bc tc ⟨rfl,rfl,rfl⟩;refine⟨rfl,_,DH rfl ((Dl w).1) cap,?_⟩;refine a_ (h:=e_ (A4 (AY (A7 (?_)))));refine BU (r:= .v (.int .i64 (BD w).2)) none (h5:=(by rw[hact];exact A9 _)) (h6:=⟨rfl,rfl,?_⟩);rw[hact];rfl
 have hc5:=bp hb5;refine q_ (w_ (AR (h:=a_ (h:=e_ (?_)))));refine A8 rfl (fun hb6=>?_) (fun hb6=>?_)
 ·have hc6:=bp hb6;obtain⟨f,hf⟩:∃f,w.found[0]?=some f:=⟨_,B9 (by omega)⟩;obtain⟨x,hx⟩:∃x,w.r.items[0]?=some x:=⟨_,B9 (by omega)⟩;have hact:BD w=EW w:=by simp[BD,hc6]
  refine AN (C2 (h:=w_ (m_ (h:=?_))));refine A6 rfl (Bf [0,1] rfl (.cons _ _ _ _ _ rfl (A9 _) .nil) (by decide) (.cons _ _ _ _ _ rfl rfl (.cons _ _ _ _ _ rfl (Cr B6 _ _ _) .nil)) (Wy w cap f hv hm hf) ?_);rintro r bc tc ⟨rfl,rfl,rfl⟩;refine⟨rfl,_,DH rfl ((EW w).1) cap,?_⟩;refine a_ (h:=e_ (A4 (AY (A7 (?_)))));refine BU (r:= .v (.int .i64 (BD w).2)) none (h5:=(by rw[hact];exact A9 _)) (h6:=⟨rfl,rfl,?_⟩);rw[hact];rfl
 have hc6:=bp hb6;refine AQ (AR (h:=a_ (h:=e_ (?_))));refine A8 rfl (fun hb7=>?_) (fun hb7=>?_)
 ·have hc7:=bp hb7;obtain⟨f,hf⟩:∃f,w.found[0]?=some f:=⟨_,B9 (by omega)⟩;obtain⟨x,hx⟩:∃x,w.r.items[0]?=some x:=⟨_,B9 (by omega)⟩;have hact:BD w=EW w:=by simp[BD,hc7]
  refine w_ (m_ (h:=?_));refine A6 rfl (Bf [0,1] rfl (.cons _ _ _ _ _ rfl (A9 _) .nil) (by decide) (.cons _ _ _ _ _ rfl rfl (.cons _ _ _ _ _ rfl (Cr B6 _ _ _) .nil)) (Wy w cap f hv hm hf) ?_);rintro r bc tc ⟨rfl,rfl,rfl⟩;refine⟨rfl,_,DH rfl ((EW w).1) cap,?_⟩;refine a_ (h:=e_ (A4 (AY (A7 (?_)))));refine BU (r:= .v (.int .i64 (BD w).2)) none (h5:=(by rw[hact];exact A9 _)) (h6:=⟨rfl,rfl,?_⟩);rw[hact];rfl
 have hc7:=bp hb7;refine q_ (w_ (AR (h:=a_ (h:=e_ (?_)))));refine A8 rfl (fun hb8=>?_) (fun hb8=>?_)
 ·have hc8:=bp hb8;obtain⟨f,hf⟩:∃f,w.found[0]?=some f:=⟨_,B9 (by omega)⟩;obtain⟨x,hx⟩:∃x,w.r.items[0]?=some x:=⟨_,B9 (by omega)⟩;have hact:BD w=DG w:=by simp[BD,hc8]
  refine AN (C2 (h:=w_ (m_ (h:=?_))));refine A6 rfl (Bf [0,1] rfl (.cons _ _ _ _ _ rfl (A9 _) .nil) (by decide) (.cons _ _ _ _ _ rfl rfl (.cons _ _ _ _ _ rfl (Cr B6 _ _ _) .nil)) (PK w cap f hv hm htb hf) ?_);rintro r bc tc ⟨rfl,rfl,rfl⟩;refine⟨rfl,_,DH rfl ((DG w).1) cap,?_⟩;refine a_ (h:=e_ (A4 (AY (A7 (?_)))));refine BU (r:= .v (.int .i64 (BD w).2)) none (h5:=(by rw[hact];exact A9 _)) (h6:=⟨rfl,rfl,?_⟩);rw[hact];rfl
 have hc8:=bp hb8;refine w_ (AR (h:=a_ (h:=e_ (?_))));refine A8 rfl (fun hb9=>?_) (fun hb9=>?_)
 ·have hc9:=bp hb9;obtain⟨f,hf⟩:∃f,w.found[0]?=some f:=⟨_,B9 (by omega)⟩;obtain⟨x,hx⟩:∃x,w.r.items[0]?=some x:=⟨_,B9 (by omega)⟩;have hact:BD w=DG w:=by simp[BD,hc9]
  refine AN (C2 (h:=w_ (m_ (h:=?_))));refine A6 rfl (Bf [0,1] rfl (.cons _ _ _ _ _ rfl (A9 _) .nil) (by decide) (.cons _ _ _ _ _ rfl rfl (.cons _ _ _ _ _ rfl (Cr B6 _ _ _) .nil)) (PK w cap f hv hm htb hf) ?_);rintro r bc tc ⟨rfl,rfl,rfl⟩;refine⟨rfl,_,DH rfl ((DG w).1) cap,?_⟩;refine a_ (h:=e_ (A4 (AY (A7 (?_)))));refine BU (r:= .v (.int .i64 (BD w).2)) none (h5:=(by rw[hact];exact A9 _)) (h6:=⟨rfl,rfl,?_⟩);rw[hact];rfl
 have hc9:=bp hb9;refine w_ (AR (h:=a_ (h:=e_ (?_))));refine A8 rfl (fun hb10=>?_) (fun hb10=>?_)
 ·have hc10:=bp hb10;obtain⟨f,hf⟩:∃f,w.found[0]?=some f:=⟨_,B9 (by omega)⟩;obtain⟨x,hx⟩:∃x,w.r.items[0]?=some x:=⟨_,B9 (by omega)⟩;have hact:BD w=DG w:=by simp[BD,hc10]
  refine AN (C2 (h:=w_ (m_ (h:=?_))));refine A6 rfl (Bf [0,1] rfl (.cons _ _ _ _ _ rfl (A9 _) .nil) (by decide) (.cons _ _ _ _ _ rfl rfl (.cons _ _ _ _ _ rfl (Cr B6 _ _ _) .nil)) (PK w cap f hv hm htb hf) ?_);rintro r bc tc ⟨rfl,rfl,rfl⟩;refine⟨rfl,_,DH rfl ((DG w).1) cap,?_⟩;refine a_ (h:=e_ (A4 (AY (A7 (?_)))));refine BU (r:= .v (.int .i64 (BD w).2)) none (h5:=(by rw[hact];exact A9 _)) (h6:=⟨rfl,rfl,?_⟩);rw[hact];rfl
 have hc10:=bp hb10;refine AQ (AR (h:=a_ (h:=e_ (?_))));refine A8 rfl (fun hb11=>?_) (fun hb11=>?_)
 ·have hc11:=bp hb11;obtain⟨f,hf⟩:∃f,w.found[0]?=some f:=⟨_,B9 (by omega)⟩;obtain⟨x,hx⟩:∃x,w.r.items[0]?=some x:=⟨_,B9 (by omega)⟩;have hact:BD w=DG w:=by simp[BD,hc11]
  refine w_ (m_ (h:=?_));refine A6 rfl (Bf [0,1] rfl (.cons _ _ _ _ _ rfl (A9 _) .nil) (by decide) (.cons _ _ _ _ _ rfl rfl (.cons _ _ _ _ _ rfl (Cr B6 _ _ _) .nil)) (PK w cap f hv hm htb hf) ?_);rintro r bc tc ⟨rfl,rfl,rfl⟩;refine⟨rfl,_,DH rfl ((DG w).1) cap,?_⟩;refine a_ (h:=e_ (A4 (AY (A7 (?_)))));refine BU (r:= .v (.int .i64 (BD w).2)) none (h5:=(by rw[hact];exact A9 _)) (h6:=⟨rfl,rfl,?_⟩);rw[hact];rfl
 have hc11:=bp hb11;refine q_ (w_ (AR (h:=a_ (h:=e_ (?_)))));refine A8 rfl (fun hb12=>?_) (fun hb12=>?_)
 ·have hc12:=bp hb12;obtain⟨f,hf⟩:∃f,w.found[0]?=some f:=⟨_,B9 (by omega)⟩;obtain⟨x,hx⟩:∃x,w.r.items[0]?=some x:=⟨_,B9 (by omega)⟩;have hact:BD w=EX w:=by simp[BD,hc12]
  refine AN (C2 (h:=w_ (m_ (h:=?_))));refine A6 rfl (Bf [0,1] rfl (.cons _ _ _ _ _ rfl (A9 _) .nil) (by decide) (.cons _ _ _ _ _ rfl rfl (.cons _ _ _ _ _ rfl (Cr B6 _ _ _) .nil)) (X3 w cap f x hv hm hf hx (by have:=hnm f (Al hf);omega) h9 hsz) ?_);rintro r bc tc ⟨rfl,rfl,rfl⟩;refine⟨rfl,_,DH rfl ((EX w).1) cap,?_⟩;refine a_ (h:=e_ (A4 (AY (A7 (?_)))));refine BU (r:= .v (.int .i64 (BD w).2)) none (h5:=(by rw[hact];exact A9 _)) (h6:=⟨rfl,rfl,?_⟩);rw[hact];rfl
 have hc12:=bp hb12;refine AQ (AR (h:=a_ (h:=e_ (?_))));refine A8 rfl (fun hb13=>?_) (fun hb13=>?_)
 ·have hc13:=bp hb13;obtain⟨f,hf⟩:∃f,w.found[0]?=some f:=⟨_,B9 (by omega)⟩;obtain⟨x,hx⟩:∃x,w.r.items[0]?=some x:=⟨_,B9 (by omega)⟩;have hact:BD w=EX w:=by simp[BD,hc13]
  refine w_ (m_ (h:=?_));refine A6 rfl (Bf [0,1] rfl (.cons _ _ _ _ _ rfl (A9 _) .nil) (by decide) (.cons _ _ _ _ _ rfl rfl (.cons _ _ _ _ _ rfl (Cr B6 _ _ _) .nil)) (X3 w cap f x hv hm hf hx (by have:=hnm f (Al hf);omega) h9 hsz) ?_);rintro r bc tc ⟨rfl,rfl,rfl⟩;refine⟨rfl,_,DH rfl ((EX w).1) cap,?_⟩;refine a_ (h:=e_ (A4 (AY (A7 (?_)))));refine BU (r:= .v (.int .i64 (BD w).2)) none (h5:=(by rw[hact];exact A9 _)) (h6:=⟨rfl,rfl,?_⟩);rw[hact];rfl
 have hc13:=bp hb13;exfalso;first|contradiction|omega
theorem kT(s:Syst)(pid:Int)(c:Cal)(hv:SpcV s.spc)(hm:s.spc.mounts.length≤1000)(ht:TabB s.tab)(hcp:c.paths.length≤1000)(hca:c.args.length≤1000)(h6:0<(Br c.num).2.2.1):AFn prog 35 [.agg (Bn s), .v (.int .i64 pid), .agg (Dc c)] (fun r=>r=Jb (Bv s pid c)):=by
 have hsb:=hv.b hm;obtain⟨W1,hW1⟩:∃W,W=Ej s pid c:=⟨_,rfl⟩;have hwf:=Wq s pid c;rw[←hW1]at hwf;have hWs:W1.s=s:=by rw[hW1];rfl
 have hWc:W1.c=c:=by rw[hW1];rfl
 refine enter Tryz.func35 rfl rfl rfl rfl rfl 0 rfl ?_;refine w_ (b_ (h:=b_ (h:=AZ (h:=AZ (h:=e_ (w_ (f_ (h:=l_ (h:=m_ (h:=?_))))))))));refine A6 rfl (AK (GA s.tab pid ht) ?_);rintro r rfl;refine m_ (h:=x_ (h:=x_ (h:=AZ (h:=s_ (h:=a_ (h:=e_ (q_ (w_ (m_ (h:=BG (h:=e_ (?_))))))))))));refine A8 rfl (fun hb1=>?_) (fun hb1=>?_)
 ·have hc1:=bp hb1;have hno:C8 s.tab pid=false:=by simpa using hc1
  refine w_ (l_ (h:=?_));refine A6 rfl (AK (H9 s hsb ht) ?_);rintro r rfl;refine A6 rfl (Ex (y:= .agg (Dz {Dr with exit:= -4})) (DD ⟨rfl,rfl⟩) ?_);refine s_ (h:=s_ (h:=e_ (A4 (A7 (?_)))));refine AJ ?_;rw[Bv,if_pos hno];rfl
 have hc1:=bp hb1;have hno:¬C8 s.tab pid=false:=by simpa using hc1
 refine AN (q_ (w_ (l_ (h:=?_))));refine A6 rfl (AK (Rn c hcp hca) ?_);rintro r rfl;refine BV (h:=e_ (?_));refine A8 rfl (fun hb2=>?_) (fun hb2=>?_)
 ·have hc2:=bp hb2;have hck:Bi c≠0:=by simpa using hc2
  refine w_ (l_ (h:=?_));refine A6 rfl (AK (H9 s hsb ht) ?_);rintro r rfl;refine A6 rfl (Ex (y:= .agg (Dz {Dr with exit:= -22})) (DD ⟨rfl,rfl⟩) ?_);refine s_ (h:=s_ (h:=e_ (A4 (A7 (?_)))));refine AJ ?_;rw[Bv,if_neg hno,if_pos hck];rfl
 have hc2:=bp hb2;have hck:Bi c=0:=by simpa using hc2
 obtain⟨hk1,hk2,hk3,hk4,hk5⟩:=S7 hck;have hargs:∀p∈(CW s pid c).c.args,p.size≤1000:=fun p hp=>by have:=hk5 p hp;omega
 have hpaths:∀p∈(CW s pid c).c.paths,p.size≤100000:=fun p hp=>by have:=hk4 p hp;omega
 obtain⟨hp1,hp2,hp3⟩:=X5 h6;have hp4:=kM h6;have h9:c.num=9→0<c.args.length:=fun q=>by rw[q]at hk2;have:(Br 9).2.2.2.1=1:=rfl;omega
 have hpp:(CW s pid c).c.paths.length=(CK (CW s pid c).c).length:=by show c.paths.length=(CK c).length;omega
 have hp0:0<(CW s pid c).c.paths.length:=by show 0<c.paths.length;omega
 have hzl:(c.paths.zip (CK c)).length=c.paths.length:=by rw[List.length_zip];omega
 have hil0:0<W1.r.items.length:=by rw[hwf.2.2,hzl];omega
 refine AN (q_ (BO ([(0,Bn s),(1,Dc c),(4,B1 (AW s.tab pid))]) 7 (h:=?_)));refine AM 0 (h:=?_);refine AM 2 (h:=?_);refine AM 3 (h:=?_);refine c_ 1 rfl (AK (H9 s hsb ht) ?_);rintro r rfl;refine o_ (h:=?_);refine Bz 4 rfl (fun _ hS=>FF (y:= .agg (D6 (CW s pid c) (.v (.slice none 0 0)) (.v (.slice none 0 0)))) (DD ⟨rfl,rfl⟩) (S9 s pid c) ⟨rfl,rfl⟩) ?_;refine c_ 5 rfl (MQ rfl rfl (by repeat constructor) ?_);refine o_ (h:=BK 6 (h:=z_ (h:=t_ (?_))));refine BE (fun S=>∃cap,W1.r.items.length≤cap∧S=⟨look [(3, .bp 2 0),(6, .bp 3 0),(7, .bp 4 0),(10, .bp 0 0),(11, .v (.int .i64 (EL s (AW s.tab pid) c).2.2))],⟨[WA W1 cap,IB W1 cap,Bn s,FR,Fl],[]⟩⟩) ?_ ?_
 ·skip
  refine AQ (m_ (h:=m_ (h:=?_)));refine A6 rfl (Cn 1 rfl (.cons _ _ _ _ _ rfl (LeA.of_eq rfl) .nil) (S8 (CW s pid c) (.v (.slice none 0 0)) (.v (.slice none 0 0)) h9 hargs) ?_);rintro r rfl;refine⟨rfl,?_⟩;refine A6 rfl (Bf [5] rfl (.cons _ _ _ _ _ rfl (A9 _) (.cons _ _ _ _ _ rfl (A9 _) .nil)) (by decide) (.cons _ _ _ _ _ rfl rfl .nil) (We (CW s pid c) (Cl (AW s.tab pid) c) hv hm hpp (by show c.paths.length≤1000;omega) hp0 hpaths) ?_);rintro r bc tc ⟨rfl,cap,hcap,rfl,rfl⟩;refine⟨rfl,_,Wp (CW s pid c) _ _ cap _,?_⟩;refine a_ (h:=AP (?_));refine AF ?_;rw[hW1];exact⟨_,⟨cap,hcap,rfl⟩,EB [5,6,0,2,3] (fun i hi=>absurd hi (Nat.not_lt_zero i)) (by decide) (.cons _ _ _ _ _ rfl rfl (.cons _ _ _ _ _ rfl (H7 B6 _ _ _) (.cons _ _ _ _ _ rfl rfl (.cons _ _ _ _ _ rfl rfl (.cons _ _ _ _ _ rfl rfl .nil))))) (by repeat (first|exact SubK.nil|refine SubK.cons _ _ _ _ rfl (A9 _) ?_))⟩
 rintro S ⟨cap,hcap,rfl⟩;refine w_ (m_ (h:=k_ (h:=f_ (h:=f_ (h:=l_ (h:=?_))))));refine A6 rfl (MX rfl rfl (SrcA.bs 1 0 _ cap _ rfl (by rw[show IB W1 cap=LB 13 CL W1.r.items cap from rfl,NR B6 hcap];omega)) hil0 (by rw[hwf.2.2,hzl];omega) ?_);rintro cap2 k bx2 hcp2 hs;rw[show((IB W1 cap).drop 0).take (W1.r.items.length * 13)++List.replicate ((cap2 - W1.r.items.length) * 13) AV.any=LB 13 CL W1.r.items cap2 from Wr B6 _ cap cap2]at hs;obtain⟨rfl,rfl⟩:k=5∧bx2=[_,_,_,_,_,_]:=hs.eq;refine a_ (h:=e_ (?_));refine BE (fun S=>∃(W2:Wrk) (E2:Int),((¬(EL s (AW s.tab pid) c).2.2=0∧E2=(EL s (AW s.tab pid) c).2.2)∨((EL s (AW s.tab pid) c).2.2=0∧W2=(BD W1).1∧E2=(BD W1).2))∧S=⟨look [(3, .bp 2 0),(6, .bp 3 0),(7, .bp 4 0),(10, .bp 0 0),(11, .v (.int .i64 E2)),(12, .bs 5 0 13 W1.r.items.length cap2)],⟨[WA W2 cap,IB W2 cap,Bn s,FR,Fl,LB 13 CL W1.r.items cap2],[]⟩⟩) ?_ ?_
 ·skip
  refine w_ (m_ (h:=AR (h:=e_ (?_))));refine A8 rfl (fun hb3=>?_) (fun hb3=>?_)
  ·have hc3:=bp hb3;have he1:(EL s (AW s.tab pid) c).2.2=0:=by simpa using hc3
   refine AQ (m_ (h:=?_));refine A6 rfl (Bf [0,1] rfl (.cons _ _ _ _ _ rfl (A9 _) .nil) (by decide) (.cons _ _ _ _ _ rfl rfl (.cons _ _ _ _ _ rfl (Cr B6 _ _ _) .nil)) (kQ W1 cap (by rw[hWs];exact hv) (by rw[hWs];exact hm) (by rw[hWs];exact ht) hwf.1 (by rw[hwf.2.1,hzl];omega) (by rw[hwf.2.2,hzl];omega) (by rw[hWc,hwf.2.1,hwf.2.2,hzl];omega) (by rw[hWc];exact hp1) (by rw[hWc];exact h9) (by rw[hWc];exact hargs)) ?_);rintro r bc tc ⟨rfl,rfl,rfl⟩;refine⟨rfl,_,DH rfl (BD W1).1 cap,?_⟩;refine a_ (h:=AP (?_));refine AF ?_;exact⟨_,⟨(BD W1).1,(BD W1).2, .inr ⟨he1,rfl,rfl⟩,rfl⟩,Az 6 0 rfl rfl rfl (by simp[Ai,Ac,Ab,Bj B6,BL,WA,IB,CN,Bn,FR,Fl]) ((by repeat (first|exact Sub.nil|refine B0 rfl rfl ?_|refine B2 ?_|refine B3 rfl ?_|refine B4 rfl ?_)))⟩
  have hc3:=bp hb3;have he1:¬(EL s (AW s.tab pid) c).2.2=0:=by simpa using hc3
  refine BM (?_);refine AF ?_
  first|exact⟨_,⟨(BD W1).1,(BD W1).2, .inr ⟨he1,rfl,rfl⟩,rfl⟩,Az 6 0 rfl rfl rfl (by simp[Ai,Ac,Ab,Bj B6,BL,WA,IB,CN,Bn,FR,Fl]) ((by repeat (first|exact Sub.nil|refine B0 rfl rfl ?_|refine B2 ?_|refine B3 rfl ?_|refine B4 rfl ?_)))⟩|exact⟨_,⟨W1,_, .inl ⟨he1,rfl⟩,rfl⟩,Az 6 0 rfl rfl rfl (by simp[Ai,Ac,Ab,Bj B6,BL,WA,IB,CN,Bn,FR,Fl]) ((by repeat (first|exact Sub.nil|refine B0 rfl rfl ?_|refine B2 ?_|refine B3 rfl ?_|refine B4 rfl ?_)))⟩
 rintro S ⟨W2,E2,hQ,rfl⟩;refine q_ (w_ (m_ (h:=BV (h:=e_ (?_)))));refine A8 rfl (fun hb4=>?_) (fun hb4=>?_)
 ·have hc4:=bp hb4;have he2:E2≠0:=by simpa using hc4
  have hrun:Bv s pid c=(s,{Dr with exit:=FQ E2,items:=W1.r.items}):=by
   rw[Bv,if_neg hno,if_neg (by simp[hck])];rcases hQ with⟨q1,q2⟩|⟨q1,q2,q3⟩
   ·rw[if_pos q1,←q2,hW1];rfl
   rw[if_neg (by simp[q1]),←hW1,←q3,if_pos he2,hW1];rfl
  refine BE (fun S=>S=⟨look [(6, .bp 0 0),(7, .bp 1 0)],⟨[Bn s,GC {Dr with exit:=FQ E2} (.sl 13 (W1.r.items.map CL) none)],[]⟩⟩) ?_ ?_
  ·skip
   refine AQ (l_ (h:=?_));refine A6 rfl (AK (H9 s hsb ht) ?_);rintro r rfl;refine m_ (h:=?_);refine A6 rfl (SC rfl ?_);refine m_ (h:=?_);refine A6 rfl (Ex (y:= .agg (GC {Dr with exit:=FQ E2} (.bs 5 0 13 W1.r.items.length cap2))) (DD ⟨rfl,rfl⟩) ?_);refine s_ (h:=s_ (h:=AP (?_)));refine AF ?_;refine⟨_,rfl,(EB [3,4,5] (rows:=[Bn s,GC {Dr with exit:=FQ E2} (.bs 2 0 13 W1.r.items.length cap2),LB 13 CL W1.r.items cap2]) (l:=[(6, .bp 0 0),(7, .bp 1 0)]) (fun i hi=>absurd hi (Nat.not_lt_zero i)) (by decide) (.cons _ _ _ _ _ rfl rfl (.cons _ _ _ _ _ rfl rfl (.cons _ _ _ _ _ rfl (H7 B6 _ _ _) .nil))) (by repeat (first|exact SubK.nil|refine SubK.cons _ _ _ _ rfl (A9 _) ?_))).trans (FJ 2 1 rfl (congrArg (fun x=>[Bn s,GC {Dr with exit:=FQ E2} x]) (Ko B6 rfl rfl hcp2)) (.cons _ _ _ _ rfl (A9 _) (.cons _ _ _ _ rfl (A9 _) .nil)))⟩
  rintro S rfl;refine A4 (A7 (?_));refine Am (r:=Jb (Bv s pid c)) none (h5:=(by rw[hrun];exact(by repeat (first|exact A9 _|exact LeA.nil _|exact LeL.refl _|refine LeA.agg ?_|refine LeA.tup ?_|exact LeL.nil|refine LeL.cons ?_ ?_|exact LeA.any _)))) (h6:=⟨rfl,rfl,rfl⟩)
 have hc4:=bp hb4;have he2:E2=0:=by simpa using hc4
 have hlen2:W2.r.items.length≤cap:=by
  rcases hQ with⟨q1,q2⟩|⟨q1,q2,q3⟩
  ·exact absurd (q2.symm.trans he2) q1
  rw[q2,X4];exact hcap
 have hrun:Bv s pid c=(W2.s,W2.r):=by
  rcases hQ with⟨q1,q2⟩|⟨q1,q2,q3⟩
  ·exact absurd (q2.symm.trans he2) q1
  rw[Bv,if_neg hno,if_neg (by simp[hck]),if_neg (by simp[q1]),←hW1,←q3,if_neg (by simp[he2]),q2]
 refine AN (?_);refine BE (fun S=>S=⟨look [(6, .bp 0 0),(7, .bp 1 0)],⟨[Bn W2.s,GC W2.r (.sl 13 (W2.r.items.map CL) none)],[]⟩⟩) ?_ ?_
 ·skip
  refine BO ([(0,WA W2 cap)]) 10 (h:=AO 0 (h:=BC 1 (h:=AG 2 (h:=AM 3 (h:=AO 4 (h:=BC 5 (h:=AG 6 (h:=AM 7 (h:=?_)))))))));refine Aj 8 rfl (Af rfl rfl rfl rfl rfl rfl (by repeat constructor) (by repeat constructor) ?_);refine o_ (h:=?_);refine Aj 9 rfl (Af rfl rfl rfl rfl rfl rfl (by repeat constructor) (by repeat constructor) ?_);refine o_ (h:=z_ (h:=?_));refine AF ?_;refine⟨_,rfl,(EB [3,4,1] (rows:=[Bn W2.s,GC W2.r (.bs 2 0 13 W2.r.items.length cap),LB 13 CL W2.r.items cap]) (l:=[(6, .bp 0 0),(7, .bp 1 0)]) (fun i hi=>absurd hi (Nat.not_lt_zero i)) (by decide) (.cons _ _ _ _ _ rfl rfl (.cons _ _ _ _ _ rfl rfl (.cons _ _ _ _ _ rfl (H7 B6 _ _ _) .nil))) (by repeat (first|exact SubK.nil|refine SubK.cons _ _ _ _ rfl (A9 _) ?_))).trans (FJ 2 1 rfl (congrArg (fun x=>[Bn W2.s,GC W2.r x]) (Ko B6 rfl rfl hlen2)) (.cons _ _ _ _ rfl (A9 _) (.cons _ _ _ _ rfl (A9 _) .nil)))⟩
 rintro S rfl;refine A4 (?_);refine AJ ?_;rw[hrun];rfl
theorem kU{s:Syst}{p:Prc}{c:Cal}(h:c.paths=[]):EL s p c=([],[],Cl p c):=by
 unfold EL J5;rw[h];rfl
theorem kV(s:Syst)(pid:Int)(c:Cal)(hv:SpcV s.spc)(hm:s.spc.mounts.length≤1000)(ht:TabB s.tab)(htn:D9 s.tab)(hcp:c.paths.length≤1000)(hca:c.args.length≤1000)(h6:(Br c.num).2.2.1=0):AFn prog 35 [.agg (Bn s), .v (.int .i64 pid), .agg (Dc c)] (fun r=>r=Jb (Bv s pid c)):=by
 have hsb:=hv.b hm;have hwl:Ej s pid c=⟨s,AW s.tab pid,c,(EL s (AW s.tab pid) c).2.1,{Dr with items:=(EL s (AW s.tab pid) c).1}⟩:=rfl;refine enter Tryz.func35 rfl rfl rfl rfl rfl 0 rfl ?_;refine w_ (b_ (h:=b_ (h:=AZ (h:=AZ (h:=e_ (w_ (f_ (h:=l_ (h:=m_ (h:=?_))))))))));refine A6 rfl (AK (GA s.tab pid ht) ?_);rintro r rfl;refine m_ (h:=x_ (h:=x_ (h:=AZ (h:=s_ (h:=a_ (h:=e_ (q_ (w_ (m_ (h:=BG (h:=e_ (?_))))))))))));refine A8 rfl (fun hb1=>?_) (fun hb1=>?_)
 ·have hc1:=bp hb1;have hno:C8 s.tab pid=false:=by simpa using hc1
  refine w_ (l_ (h:=?_));refine A6 rfl (AK (H9 s hsb ht) ?_);rintro r rfl;refine A6 rfl (Ex (y:= .agg (Dz {Dr with exit:= -4})) (DD ⟨rfl,rfl⟩) ?_);refine s_ (h:=s_ (h:=e_ (A4 (A7 (?_)))));refine AJ ?_;rw[Bv,if_pos hno];rfl
 have hc1:=bp hb1;have hno:¬C8 s.tab pid=false:=by simpa using hc1
 refine AN (q_ (w_ (l_ (h:=?_))));refine A6 rfl (AK (Rn c hcp hca) ?_);rintro r rfl;refine BV (h:=e_ (?_));refine A8 rfl (fun hb2=>?_) (fun hb2=>?_)
 ·have hc2:=bp hb2;have hck:Bi c≠0:=by simpa using hc2
  refine w_ (l_ (h:=?_));refine A6 rfl (AK (H9 s hsb ht) ?_);rintro r rfl;refine A6 rfl (Ex (y:= .agg (Dz {Dr with exit:= -22})) (DD ⟨rfl,rfl⟩) ?_);refine s_ (h:=s_ (h:=e_ (A4 (A7 (?_)))));refine AJ ?_;rw[Bv,if_neg hno,if_pos hck];rfl
 have hc2:=bp hb2;have hck:Bi c=0:=by simpa using hc2
 obtain⟨hk1,hk2,hk3,hk4,hk5⟩:=S7 hck;have hargs:∀p∈(CW s pid c).c.args,p.size≤1000:=fun p hp=>by have:=hk5 p hp;omega
 have hp0:c.paths=[]:=by rw[h6]at hk1;exact List.length_eq_zero_iff.1 (by omega)
 have hpz:(CW s pid c).c.paths=[]:=hp0;have h9:(CW s pid c).c.num=9→0<(CW s pid c).c.args.length:=fun q=>absurd q (X6 h6).2.2.2.1;have h19:(CW s pid c).c.num=19→0<(CW s pid c).c.args.length:=fun q=>by have q2:c.num=19:=q;rw[q2]at hk2;have:(Br 19).2.2.2.1=1:=rfl;show 0<c.args.length;omega
 have hlok:=kU (s:=s) (p:=AW s.tab pid) hp0;have hwk:Ej s pid c=CW s pid c:=by rw[hwl,hlok];rfl
 refine AN (q_ (BO ([(0,Bn s),(1,Dc c),(4,B1 (AW s.tab pid))]) 7 (h:=?_)));refine AM 0 (h:=?_);refine AM 2 (h:=?_);refine AM 3 (h:=?_);refine c_ 1 rfl (AK (H9 s hsb ht) ?_);rintro r rfl;refine o_ (h:=?_);refine Bz 4 rfl (fun _ hS=>FF (y:= .agg (D6 (CW s pid c) (.v (.slice none 0 0)) (.v (.slice none 0 0)))) (DD ⟨rfl,rfl⟩) (S9 s pid c) ⟨rfl,rfl⟩) ?_;refine c_ 5 rfl (MQ rfl rfl (by repeat constructor) ?_);refine o_ (h:=BK 6 (h:=z_ (h:=t_ (?_))));refine BE (fun S=>S=⟨look [(3, .bp 2 0),(6, .bp 3 0),(7, .bp 4 0),(10, .bp 0 0),(11, .v (.int .i64 (Cl (AW s.tab pid) c)))],⟨[WN (CW s pid c),Dc c,Bn s,FR,Fl],[]⟩⟩) ?_ ?_
 ·skip
  refine AQ (m_ (h:=m_ (h:=?_)));refine A6 rfl (Cn 1 rfl (.cons _ _ _ _ _ rfl (LeA.of_eq rfl) .nil) (S8 (CW s pid c) (.v (.slice none 0 0)) (.v (.slice none 0 0)) h9 hargs) ?_);rintro r rfl;refine⟨rfl,?_⟩;refine A6 rfl (Bf [5] rfl (.cons _ _ _ _ _ rfl (A9 _) (.cons _ _ _ _ _ rfl (A9 _) .nil)) (by decide) (.cons _ _ _ _ _ rfl rfl .nil) (jT (CW s pid c) (Cl (AW s.tab pid) c) hpz) ?_);rintro r bc tc ⟨rfl,rfl,rfl⟩;refine⟨rfl,_,kO (CW s pid c),?_⟩;refine a_ (h:=AP (?_));refine AF ?_;exact⟨_,rfl,EB [5,1,0,2,3] (fun i hi=>absurd hi (Nat.not_lt_zero i)) (by decide) (.cons _ _ _ _ _ rfl rfl (.cons _ _ _ _ _ rfl rfl (.cons _ _ _ _ _ rfl rfl (.cons _ _ _ _ _ rfl rfl (.cons _ _ _ _ _ rfl rfl .nil))))) (by repeat (first|exact SubK.nil|refine SubK.cons _ _ _ _ rfl (A9 _) ?_))⟩
 rintro S rfl;refine w_ (m_ (h:=k_ (h:=f_ (h:=f_ (h:=l_ (h:=?_))))));refine A6 rfl (jP rfl rfl ?_);refine a_ (h:=e_ (?_));refine BE (fun S=>∃(W2:Wrk) (E2:Int),((¬Cl (AW s.tab pid) c=0∧E2=Cl (AW s.tab pid) c)∨(Cl (AW s.tab pid) c=0∧W2=(BD (CW s pid c)).1∧E2=(BD (CW s pid c)).2))∧S=⟨look [(3, .bp 2 0),(6, .bp 3 0),(7, .bp 4 0),(10, .bp 0 0),(11, .v (.int .i64 E2)),(12, .v (.slice none 0 0))],⟨[WN W2,Dc c,Bn s,FR,Fl],[]⟩⟩) ?_ ?_
 ·skip
  refine w_ (m_ (h:=AR (h:=e_ (?_))));refine A8 rfl (fun hb3=>?_) (fun hb3=>?_)
  ·have hc3:=bp hb3;have he1:Cl (AW s.tab pid) c=0:=by simpa using hc3
   refine AQ (m_ (h:=?_));refine A6 rfl (Bf [0] rfl (.cons _ _ _ _ _ rfl (A9 _) .nil) (by decide) (.cons _ _ _ _ _ rfl rfl .nil) (jU (CW s pid c) hsb ht htn h19 (X6 h6)) ?_);rintro r bc tc ⟨rfl,rfl,rfl⟩;refine⟨rfl,_,J7 ((BD (CW s pid c)).1),?_⟩;refine a_ (h:=AP (?_));refine AF ?_;exact⟨_,⟨(BD (CW s pid c)).1,(BD (CW s pid c)).2, .inr ⟨he1,rfl,rfl⟩,rfl⟩,Az 5 0 rfl rfl rfl (by simp[Ai,Ac,Ab,BL,WN,Bn,FR,Fl,Dc]) ((by repeat (first|exact Sub.nil|refine B0 rfl rfl ?_|refine B2 ?_|refine B3 rfl ?_|refine B4 rfl ?_)))⟩
  have hc3:=bp hb3;have he1:¬Cl (AW s.tab pid) c=0:=by simpa using hc3
  refine BM (?_);refine AF ?_
  first|exact⟨_,⟨(BD (CW s pid c)).1,(BD (CW s pid c)).2, .inr ⟨he1,rfl,rfl⟩,rfl⟩,Az 5 0 rfl rfl rfl (by simp[Ai,Ac,Ab,BL,WN,Bn,FR,Fl,Dc]) ((by repeat (first|exact Sub.nil|refine B0 rfl rfl ?_|refine B2 ?_|refine B3 rfl ?_|refine B4 rfl ?_)))⟩|exact⟨_,⟨CW s pid c,_, .inl ⟨he1,rfl⟩,rfl⟩,Az 5 0 rfl rfl rfl (by simp[Ai,Ac,Ab,BL,WN,Bn,FR,Fl,Dc]) ((by repeat (first|exact Sub.nil|refine B0 rfl rfl ?_|refine B2 ?_|refine B3 rfl ?_|refine B4 rfl ?_)))⟩
 rintro S ⟨W2,E2,hQ,rfl⟩;refine q_ (w_ (m_ (h:=BV (h:=e_ (?_)))));refine A8 rfl (fun hb4=>?_) (fun hb4=>?_)
 ·have hc4:=bp hb4;have he2:E2≠0:=by simpa using hc4
  have hrun:Bv s pid c=(s,{Dr with exit:=FQ E2}):=by
   rw[Bv,if_neg hno,if_neg (by simp[hck]),hlok];rcases hQ with⟨q1,q2⟩|⟨q1,q2,q3⟩
   ·rw[if_pos q1,←q2];rfl
   rw[if_neg (by simp[q1]),hwk,←q3,if_pos he2];rfl
  refine w_ (l_ (h:=?_));refine A6 rfl (AK (H9 s hsb ht) ?_);rintro r rfl;refine m_ (h:=?_);refine A6 rfl (SC rfl ?_);refine m_ (h:=?_);refine A6 rfl (Ex (y:= .agg (Dz {Dr with exit:=FQ E2})) (DD ⟨rfl,rfl⟩) ?_);refine s_ (h:=s_ (h:=e_ (A4 (A7 (?_)))));refine Am (r:=Jb (Bv s pid c)) none (h5:=(by rw[hrun];exact(by repeat (first|exact A9 _|exact LeA.nil _|exact LeL.refl _|refine LeA.agg ?_|refine LeA.tup ?_|exact LeL.nil|refine LeL.cons ?_ ?_|exact LeA.any _)))) (h6:=⟨rfl,rfl,rfl⟩)
 have hc4:=bp hb4;have he2:E2=0:=by simpa using hc4
 have hrun:Bv s pid c=(W2.s,W2.r)∧W2.r.items=[]:=by
  rcases hQ with⟨q1,q2⟩|⟨q1,q2,q3⟩
  ·exact absurd (q2.symm.trans he2) q1
  refine⟨?_,?_⟩
  ·rw[Bv,if_neg hno,if_neg (by simp[hck]),hlok,if_neg (by simp[q1]),hwk,←q3,if_neg (by simp[he2]),q2]
  refine List.length_eq_zero_iff.1 ?_;rw[q2,X4];rfl
 refine AN (q_ (BO ([(0,WN W2)]) 10 (h:=AO 0 (h:=BC 1 (h:=AG 2 (h:=AM 3 (h:=AO 4 (h:=BC 5 (h:=AG 6 (h:=AM 7 (h:=?_)))))))))));refine Aj 8 rfl (Af rfl rfl rfl rfl rfl rfl (by repeat constructor) (by repeat constructor) ?_);refine o_ (h:=?_);refine Aj 9 rfl (Af rfl rfl rfl rfl rfl rfl (by repeat constructor) (by repeat constructor) ?_);refine o_ (h:=z_ (h:=t_ (A4 (?_))));refine Am (r:=Jb (Bv s pid c)) none (h5:=?_) (h6:=⟨rfl,rfl,rfl⟩);rw[hrun.1,Jb,Dz,hrun.2];exact(by repeat (first|exact A9 _|exact LeA.nil _|exact LeL.refl _|refine LeA.agg ?_|refine LeA.tup ?_|exact LeL.nil|refine LeL.cons ?_ ?_|exact LeA.any _))
theorem E8(s:Syst)(pid:Int)(c:Cal)(hv:SpcV s.spc)(hm:s.spc.mounts.length≤1000)(ht:TabB s.tab)(htn:D9 s.tab)(hcp:c.paths.length≤1000)(hca:c.args.length≤1000):AFn prog 35 [.agg (Bn s), .v (.int .i64 pid), .agg (Dc c)] (fun r=>r=Jb (Bv s pid c)):=by
 rcases kK c.num with h|h
 ·exact kT s pid c hv hm ht hcp hca h
 exact kV s pid c hv hm ht htn hcp hca h
end
structure Wch where
 kind:Int
 dir:AA
 name:AD
 file:AA
deriving DecidableEq
def Ew:Wch:=⟨0,(0,0),⟨#[]⟩,(0,0)⟩
def DM(w:Wch):List AV:=[.v (.int .i64 w.kind), .v (.int .i64 w.dir.1), .v (.int .i64 w.dir.2), .v (.string w.name), .v (.int .i64 w.file.1), .v (.int .i64 w.file.2)]
def Ea(s:Spc)(a:AA):Bool:=AT s.files a&&Bm s a.1
def FS(s:Spc)(k:Int)(p:AD):Wch×Int:=
 if(k≠1∧k≠2)∨E5 p.data.toList=false then(Ew,22)
 else if(Bc s (0,0) p (decide (k=2))).2≠0 then(Ew,(Bc s (0,0) p (decide (k=2))).2)
 else if k=2 then
  (if(Bc s (0,0) p true).1.ex=false then(Ew,2)else if AT s.files (Bc s (0,0) p true).1.file=false then(Ew,20)
  else(⟨k,(0,0),⟨#[]⟩,(Bc s (0,0) p true).1.file⟩,0))
 else if(Bc s (0,0) p false).1.name=⟨#[]⟩then(Ew,22)
 else(⟨k,(Bc s (0,0) p false).1.dir,(Bc s (0,0) p false).1.name,(AB s.files (Bc s (0,0) p false).1.dir (Bc s (0,0) p false).1.name).1⟩,0)
def Eb(s:Spc)(w:Wch):Bool:=
 if w.kind=1 then Ea s w.dir&&decide ((AB s.files w.dir w.name).1=w.file)&&DT w.name
 else if w.kind=2 then Ea s w.file&&decide (w.dir=(0,0))&&decide (w.name=⟨#[]⟩)else false
def CP(w:Wch):AA:=if w.kind=2 then w.file else w.dir
def FA(s:Spc)(w:Wch):Wch×Bool:=
 if(w.kind≠1∧w.kind≠2)∨Ea s (CP w)=false then(Ew,false)
 else if w.kind=1 then({w with file:=(AB s.files w.dir w.name).1},true)else(w,true)
def Kt(w:Wch)(l:List BW):Wch:=if w.kind=1 then{w with file:=l.foldl (fun a c=>if c.1=w.dir∧c.2.1=w.name then c.2.2.2 else a) w.file}else w
def Jc(w:Wch)(gone:Int)(l:List BW):Wch×Bool:=
 if(w.kind≠1∧w.kind≠2)∨(gone≠0∧gone=(CP w).1)∨((l.any fun c=>decide (c.2.2.1=CP w))=true∧(l.any fun c=>decide (c.2.2.2=CP w))=false)then(Ew,false)
 else(Kt w l,true)
theorem kX{s:Spc}{fl:Bool}{p:AD}{ps:List AD}{a:AA}{lk:Nat}{τ:Lk}(h:By s fl p ps a lk= .inr τ)(hn:τ.name≠⟨#[]⟩):τ.dir=a∧AT s.files a=true:=by
 unfold By at h;split at h
 ·cases h
 rename_i c
 repeat' split at h
 all_goals first|(cases h;done)|(injection h with h;subst h;first|exact absurd rfl hn|exact⟨rfl,by simpa using c⟩)
section
variable {s:Spc}(hv:SpcV s)
include hv
theorem SF:AT s.files (0,1)=true:=Re hv (Int.le_refl 0) (by have:=hv.pos;omega)
theorem X7{a:AA}(h:Eg s a=true):Ea s a=true:=by
 have h2:=Li ((NV hv a).1 h).1.1;unfold Ea;rw[h2.1,h2.2];rfl
theorem kY{fl:Bool}:∀(k:Nat) (σ:Lk),(AT s.files σ.file=true→Eg s σ.file=true)→(σ.name≠⟨#[]⟩→Eg s σ.dir=true)→(Dx s fl k σ).1=0→(Dx s fl k σ).2.name≠⟨#[]⟩→Eg s (Dx s fl k σ).2.dir=true:=by
 intro k
 induction k with
 |zero=>intro σ _ h _ hn;exact h hn
 |succ k ih=>
   intro σ h1 h2;unfold Dx
   cases σ.ps with
   |nil=>exact fun _=>h2
   |cons p ps=>
     simp only
     cases hs:By s fl p ps σ.file σ.links with
     |inl e=>exact fun c=>absurd c (WF hs)
     |inr τ=>exact ih τ (WE hv (SF hv) h1 hs) fun hn=>by obtain⟨e1,e2⟩:=kX hs hn;rw[e1];exact h1 e2
theorem kZ{k:Int}{p:AD}(h:(FS s k p).2=0):Eb s (FS s k p).1=true:=by
 unfold FS at h ⊢;split at h
 ·exact absurd h (by decide)
 rename_i c1;rw[if_neg c1];have hr:Eg s (DY s)=true:=NW hv (Rs hv (SF hv));split at h
 ·rename_i c2;exact absurd h c2
 rename_i c2;rw[if_neg c2]
 have hfnd:∀fl,(Bc s (0,0) p fl).2=0→∃σ,(Dx s (fl||BN p) (Eh σ) σ).1=0∧(AT s.files σ.file=true→Eg s σ.file=true)∧(σ.name≠⟨#[]⟩→Eg s σ.dir=true)∧(Bc s (0,0) p fl).1=GT s (BN p) (Dx s (fl||BN p) (Eh σ) σ).2:=by
  intro fl h0;unfold Bc at h0 ⊢
  have hst:AT s.files (if Cx p=true then DY s else(0,0))=true→Eg s (if Cx p=true then DY s else(0,0))=true:=by
   split
   ·exact fun _=>hr
   intro h;rw[Rt hv]at h;cases h
  generalize (if Cx p=true then DY s else(0,0))=d at h0 hst ⊢
  repeat' split at h0
  all_goals first|(exact absurd h0 (by decide);done)|(rename_i c;exact absurd h0 c;done)|skip
  rename_i d1 d2 d3 d4 d5;refine⟨Fw (Cq p) d,by have:=d4;unfold Dy at this;simpa using this,hst,fun hn=>absurd rfl hn,?_⟩;rw[if_neg d1,if_neg d2,if_neg d3,if_neg d4,if_neg d5];rfl
 split at h
 ·rename_i c3;rw[if_pos c3];split at h
  ·exact absurd h (by decide)
  rename_i c4;rw[if_neg c4];split at h
  ·exact absurd h (by decide)
  rename_i c5;rw[if_neg c5];have c5:AT s.files (Bc s (0,0) p true).1.file=true:=by simpa using c5
  have c2:(Bc s (0,0) p true).2=0:=by
   have:=c2;rw[decide_eq_true c3]at this
   simpa using this
  obtain⟨σ,h1,h2,h3,h4⟩:=hfnd true c2
  have hv2:Eg s (Bc s (0,0) p true).1.file=true:=by
   rw[h4]at c5 ⊢;exact gF hv (SF hv) _ σ h2 h1 c5
  unfold Eb;simp only;rw[if_neg (by omega),if_pos c3,X7 hv hv2];rfl
 rename_i c3;rw[if_neg c3];split at h
 ·exact absurd h (by decide)
 rename_i c4;rw[if_neg c4]
 have hk:k=1:=by
  simp only[not_or,not_and,Decidable.not_not]at c1;exact Decidable.byContradiction fun hk=>c3 (c1.1 hk)
 have c2:(Bc s (0,0) p false).2=0:=by
  have:=c2;rw[decide_eq_false c3]at this
  simpa using this
 obtain⟨σ,h1,h2,h3,h4⟩:=hfnd false c2
 have hv2:Eg s (Bc s (0,0) p false).1.dir=true:=by
  rw[h4]at c4 ⊢;exact kY hv _ σ h2 h3 h1 c4
 have hnm:DT (Bc s (0,0) p false).1.name=true:=by
  obtain⟨τ,ht,he⟩:=gN hv (st:=(0,0)) (p:=p) (fl:=false) (x:=(Bc s (0,0) p false).1) (Prod.ext rfl c2);rw[he]at c4 ⊢;rcases ht with ht|ht
  ·exact absurd ht.1 c4
  exact ht.1
 unfold Eb;simp only;rw[if_pos hk,X7 hv hv2,hnm];simp
end
end Go.Proofs.YtbglbmnhgbgelaaGreatDoor
