/-
  Part 17 of the proof of FilterSilentP: what the statement's proof uses of the texts in wip/tpl.
-/
import Derived.Test.YtbgnigjfkbmceaaGreatDoorQe16
open Go.Proofs.Tryz (prog)
set_option maxRecDepth 10000
set_option maxHeartbeats 4000000
set_option linter.unusedVariables false
set_option linter.unusedSimpArgs false
namespace Go.Proofs.YtbgnigjfkbmceaaGreatDoor
open Go.RowKit
section
theorem Rf(w:Wrk)(cap:Nat)(f:Fnd)(hv:SpcV w.s.spc)(hm:w.s.spc.mounts.length≤1000)(htb:TabB w.s.tab)(hf:w.found[0]?=some f):ACall prog 150 [.bp 0 0] [WA w cap,IB w cap] (fun r b t=>t=[]∧r= .v (.int .i64 (Dv w).2)∧b=[WA (Dv w).1 cap,IB (Dv w).1 cap]):=by
 have hsb:=hv.b hm;have hrow0:(w.found.map Ah)[0]?=some (Ah f):=by rw[List.getElem?_map,hf];rfl
 have hfn:As w 0=f:=by unfold As;rw[hf];rfl
 have hre:Dv w=if f.ex=false then(w,2)else if w.c.num=1 then(if Af w.s.spc.files f.file=true∨CA w f.file 1=false then(w,13)else CB w (Ku w.s.tab w.p.pid f.path f.name))else if w.c.num=16 then(if Af w.s.spc.files f.file=false then(w,20)else if CA w f.file 1=false then(w,13)else CB w (Kt w.s.tab w.p.pid f.file))else if w.c.num=17 then(if Af w.s.spc.files f.file=false then(w,20)else LN w (EN w.s.spc w.c.a0 f.file))else if Af w.s.spc.files f.file=true then(w,21)else if CA w f.file 2=false then(w,13)else(w,0):=by
  unfold Dv KT;rw[hfn]
 obtain⟨T1,hT1⟩:∃T,T=Ku w.s.tab w.p.pid f.path f.name:=⟨_,rfl⟩;obtain⟨T2,hT2⟩:∃T,T=Kt w.s.tab w.p.pid f.file:=⟨_,rfl⟩;obtain⟨R,hR⟩:∃R,R=EN w.s.spc w.c.a0 f.file:=⟨_,rfl⟩;have hexec:AFn prog 205 [.agg (Ai w.s.tab), .v (.int .i64 w.p.pid), .v (.string f.path), .v (.string f.name)] (fun r=>r=Cr T1):=by rw[hT1];exact oV _ _ _ _ htb
 have hchd:AFn prog 206 [.agg (Ai w.s.tab), .v (.int .i64 w.p.pid), .agg (AA f.file)] (fun r=>r=Cr T2):=by rw[hT2];exact oU _ _ _ htb
 have hadd:AFn prog 76 [.agg (AY w.s.spc), .v (.int .i64 w.c.a0), .agg (AA f.file)] (fun r=>r=H3 R):=by rw[hR];exact gV _ _ _ hsb
 rw[←hT1,←hT2,←hR]at hre;clear hT1 hT2 hR;refine enter Tryz.func150 rfl rfl rfl rfl rfl 2 rfl ?_;refine EX (h:=k_ (h:=Aa (h:=?_)));refine A3 rfl (D7 (n:=0) rfl rfl rfl hrow0 ?_);refine JH (h:=Fe (h:=DA (h:=?_)));refine A4 rfl (fun hb1 hc1=>?_) (fun hb1 hc1=>?_)
 ·have k1:f.ex=false:=by simpa using hc1
  refine BL (h:=?_);refine BS (r:= .v (.int .i64 (Dv w).2)) none (h5:=(by rw[hre,if_pos k1];exact A7 _)) (h6:=⟨rfl,rfl,?_⟩);rw[hre,if_pos k1];rfl
 have k1:¬f.ex=false:=by simpa using hc1
 refine Ds (h:=Dg (h:=e_ (BK (Ar (h:=?_)))));refine A4 rfl (fun hb2 hc2=>?_) (fun hb2 hc2=>?_)
 ·have k2:w.c.num=1:=hc2;refine q_ (?_);refine B9 (fun S=>S=⟨look [(0, .bp 0 0),(3, .bp 2 0),(30, .v (.bool (Af w.s.spc.files f.file|| !CA w f.file 1)))],⟨[WA w cap,IB w cap,Ah f],[]⟩⟩) ?_ ?_
  ·skip
   refine Bt (h:=?_);refine A3 rfl (Dm 1 rfl (.cons _ _ _ _ _ rfl (LeA.of_eq rfl) (.cons _ _ _ _ _ rfl (A7 _) .nil)) (Md w .any 0 f hsb hf) ?_);rintro r rfl;refine⟨rfl,?_⟩;refine m_ (h:=?_);refine AJ false rfl rfl (fun hb3 hc3=>?_) (fun hb3 hc3=>?_)
   ·refine B7 (h:=J2 (h:=?_));exact⟨_,rfl,CD 3 0 (by simp[AW,AQ,AP,Bm B1,BC,WA,IB,Cl,Ah,AZ,AA,Ai,AY,Al])⟩
   refine m_ (h:=Aa (h:=?_));refine Aq (Dm 1 rfl (.cons _ _ _ _ _ rfl (LeA.of_eq rfl) (.cons _ _ _ _ _ rfl (A7 _) (.cons _ _ _ _ _ rfl (A7 _) .nil))) (Kx w .any f.file 1 hsb) ?_);rintro r rfl;refine⟨rfl,?_⟩;refine DP (h:=Fi (h:=?_));exact⟨_,rfl,CD 3 0 (by simp[AW,AQ,AP,Bm B1,BC,WA,IB,Cl,Ah,AZ,AA,Ai,AY,Al])⟩
  rintro S rfl;refine A4 rfl (fun hb4 hc4=>?_) (fun hb4 hc4=>?_)
  ·have k5:Af w.s.spc.files f.file=true∨CA w f.file 1=false:=by simpa using hc4
   refine BL (h:=D1 (h:=?_));refine BS (r:= .v (.int .i64 (Dv w).2)) none (h5:=(by rw[hre,if_neg k1,if_pos k2,if_pos k5];exact A7 _)) (h6:=⟨rfl,rfl,?_⟩);rw[hre,if_neg k1,if_pos k2,if_pos k5];rfl
  have k5:¬(Af w.s.spc.files f.file=true∨CA w f.file 1=false):=by simpa using hc4
  refine AF (q_ (BO ([(0,WA w cap),(1,IB w cap),(2,Ah f)]) 18 (h:=AG 0 (h:=AG 1 (h:=BJ 2 (h:=AD 3 (h:=AD 4 (h:=A9 5 (h:=AG 6 (h:=BJ 7 (h:=AD 8 (h:=AD 9 (h:=A9 10 (h:=AD 11 (h:=A9 12 (h:=AD 13 (h:=A9 14 (h:=?_))))))))))))))))));refine c_ 15 rfl (A8 (hexec) ?_);rintro r rfl;refine o_ (h:=BF 16 (h:=BF 17 (h:=?_)));refine c_ 18 rfl (Bg [0,1] rfl (.cons _ _ _ _ _ rfl (A7 _) (.cons _ _ _ _ _ rfl (A7 _) (.cons _ _ _ _ _ rfl (A7 _) .nil))) (by decide) (.cons _ _ _ _ _ rfl rfl (.cons _ _ _ _ _ rfl (Db B1 _ _ _) .nil)) (U5 w cap T1.1 T1.2) ?_);rintro r bc tc ⟨rfl,rfl,rfl⟩;refine⟨rfl,_,E3 rfl ((CB w T1).1) cap,?_⟩;refine o_ (h:=?_);refine c_ 19 rfl (Hr rfl ?_);refine GJ (h:=t_ (B5 (D1 (h:=?_))));refine BS (r:= .v (.int .i64 (Dv w).2)) none (h5:=(by rw[hre,if_neg k1,if_pos k2,if_neg k5,LP];exact A7 _)) (h6:=⟨rfl,rfl,?_⟩);rw[hre,if_neg k1,if_pos k2,if_neg k5];rfl
 have k2:¬w.c.num=1:=hc2;refine Ar (h:=?_);refine A4 rfl (fun hb5 hc5=>?_) (fun hb5 hc5=>?_)
 ·have k3:w.c.num=16:=hc5;refine Bk (h:=?_);refine A3 rfl (Dm 1 rfl (.cons _ _ _ _ _ rfl (LeA.of_eq rfl) (.cons _ _ _ _ _ rfl (A7 _) .nil)) (Md w .any 0 f hsb hf) ?_);rintro r rfl;refine⟨rfl,?_⟩;refine DA (h:=?_);refine A4 rfl (fun hb6 hc6=>?_) (fun hb6 hc6=>?_)
  ·have k5:Af w.s.spc.files f.file=false:=by simpa using hc6
   refine BL (h:=D1 (h:=?_));refine BS (r:= .v (.int .i64 (Dv w).2)) none (h5:=(by rw[hre,if_neg k1,if_neg k2,if_pos k3,if_pos k5];exact A7 _)) (h6:=⟨rfl,rfl,?_⟩);rw[hre,if_neg k1,if_neg k2,if_pos k3,if_pos k5];rfl
  have k5:¬Af w.s.spc.files f.file=false:=by simpa using hc6
  refine Ds (h:=Aa (h:=?_));refine A3 rfl (Dm 1 rfl (.cons _ _ _ _ _ rfl (LeA.of_eq rfl) (.cons _ _ _ _ _ rfl (A7 _) (.cons _ _ _ _ _ rfl (A7 _) .nil))) (Kx w .any f.file 1 hsb) ?_);rintro r rfl;refine⟨rfl,?_⟩;refine DA (h:=?_);refine A4 rfl (fun hb7 hc7=>?_) (fun hb7 hc7=>?_)
  ·have k6:CA w f.file 1=false:=by simpa using hc7
   refine BL (h:=D1 (h:=?_));refine BS (r:= .v (.int .i64 (Dv w).2)) none (h5:=(by rw[hre,if_neg k1,if_neg k2,if_pos k3,if_neg k5,if_pos k6];exact A7 _)) (h6:=⟨rfl,rfl,?_⟩);rw[hre,if_neg k1,if_neg k2,if_pos k3,if_neg k5,if_pos k6];rfl
  have k6:¬CA w f.file 1=false:=by simpa using hc7
  refine AF (q_ (BO ([(0,WA w cap),(1,IB w cap),(2,Ah f)]) 16 (h:=AG 0 (h:=AG 1 (h:=BJ 2 (h:=AD 3 (h:=AD 4 (h:=A9 5 (h:=AG 6 (h:=BJ 7 (h:=AD 8 (h:=AD 9 (h:=A9 10 (h:=AD 11 (h:=A9 12 (h:=?_))))))))))))))));refine c_ 13 rfl (A8 (hchd) ?_);rintro r rfl;refine o_ (h:=BF 14 (h:=BF 15 (h:=?_)));refine c_ 16 rfl (Bg [0,1] rfl (.cons _ _ _ _ _ rfl (A7 _) (.cons _ _ _ _ _ rfl (A7 _) (.cons _ _ _ _ _ rfl (A7 _) .nil))) (by decide) (.cons _ _ _ _ _ rfl rfl (.cons _ _ _ _ _ rfl (Db B1 _ _ _) .nil)) (U5 w cap T2.1 T2.2) ?_);rintro r bc tc ⟨rfl,rfl,rfl⟩;refine⟨rfl,_,E3 rfl ((CB w T2).1) cap,?_⟩;refine o_ (h:=?_);refine c_ 17 rfl (Hr rfl ?_);refine GJ (h:=t_ (B5 (D1 (h:=?_))));refine BS (r:= .v (.int .i64 (Dv w).2)) none (h5:=(by rw[hre,if_neg k1,if_neg k2,if_pos k3,if_neg k5,if_neg k6,LP];exact A7 _)) (h6:=⟨rfl,rfl,?_⟩);rw[hre,if_neg k1,if_neg k2,if_pos k3,if_neg k5,if_neg k6];rfl
 have k3:¬w.c.num=16:=hc5;refine Ar (h:=?_);refine A4 rfl (fun hb8 hc8=>?_) (fun hb8 hc8=>?_)
 ·have k4:w.c.num=17:=hc8;refine Bk (h:=?_);refine A3 rfl (Dm 1 rfl (.cons _ _ _ _ _ rfl (LeA.of_eq rfl) (.cons _ _ _ _ _ rfl (A7 _) .nil)) (Md w .any 0 f hsb hf) ?_);rintro r rfl;refine⟨rfl,?_⟩;refine DA (h:=?_);refine A4 rfl (fun hb9 hc9=>?_) (fun hb9 hc9=>?_)
  ·have k5:Af w.s.spc.files f.file=false:=by simpa using hc9
   refine BL (h:=D1 (h:=?_));refine BS (r:= .v (.int .i64 (Dv w).2)) none (h5:=(by rw[hre,if_neg k1,if_neg k2,if_neg k3,if_pos k4,if_pos k5];exact A7 _)) (h6:=⟨rfl,rfl,?_⟩);rw[hre,if_neg k1,if_neg k2,if_neg k3,if_pos k4,if_pos k5];rfl
  have k5:¬Af w.s.spc.files f.file=false:=by simpa using hc9
  refine AF (?_);refine B9 (fun S=>S=⟨look [(0, .bp 0 0),(4, .bp 3 0),(5, .v (.int .i64 R.2))],⟨[WA w cap,IB w cap,Ah f,AY R.1],[]⟩⟩) ?_ ?_
  ·skip
   refine BO ([(0,WA w cap),(1,IB w cap),(2,Ah f)]) 20 (h:=AG 0 (h:=BJ 1 (h:=AD 2 (h:=AD 3 (h:=A9 4 (h:=AG 5 (h:=BJ 6 (h:=AD 7 (h:=AD 8 (h:=?_))))))))));refine By 9 rfl (fun _ hS=>Bw (len:=4) (sz:=1) (n:=0) (by kernel_rfl) rfl rfl rfl rfl ⟨rfl,rfl⟩) ?_;refine A9 10 (h:=AD 11 (h:=A9 12 (h:=?_)));refine Fb 13 17 rfl rfl ?_ ?_
   ·refine A8 (hadd) ?_;rintro r rfl;refine o_ (h:=?_);refine AG 14 (h:=BF 15 (h:=BF 16 (h:=?_)));refine c_ 17 rfl (CR (by repeat constructor) ?_);refine o_ (h:=?_);refine B6 18 (h:=BB 19 (h:=z_ (h:=?_)));refine AT ?_;exact⟨_,rfl,Cm 4 0⟩
   refine CR (by repeat constructor) ?_;refine o_ (h:=?_);refine c_ 13 rfl (A8 (hadd) ?_);rintro r rfl;refine o_ (h:=AG 14 (h:=BF 15 (h:=BF 16 (h:=?_))));refine B6 18 (h:=BB 19 (h:=z_ (h:=?_)));refine AT ?_;exact⟨_,rfl,Cm 4 0⟩
  rintro S rfl;refine Bk (h:=BN (h:=?_));refine A4 rfl (fun hb10 hc10=>?_) (fun hb10 hc10=>?_)
  ·have h0:R.2=0:=hc10;refine Bt (h:=l_ (h:=Gx (h:=Ct (h:=AX (h:=BA (h:=?_))))));refine BS (r:= .v (.int .i64 (Dv w).2)) none (h5:=(by rw[hre,if_neg k1,if_neg k2,if_neg k3,if_pos k4,if_neg k5,LN,if_pos h0];exact LeA.of_eq (vi h0))) (h6:=⟨rfl,rfl,?_⟩);rw[hre,if_neg k1,if_neg k2,if_neg k3,if_pos k4,if_neg k5,LN,if_pos h0];rfl
  have h0:¬R.2=0:=hc10;refine AF (AX (h:=BA (h:=?_)));refine BS (r:= .v (.int .i64 (Dv w).2)) none (h5:=(by rw[hre,if_neg k1,if_neg k2,if_neg k3,if_pos k4,if_neg k5,LN,if_neg h0];exact A7 _)) (h6:=⟨rfl,rfl,?_⟩);rw[hre,if_neg k1,if_neg k2,if_neg k3,if_pos k4,if_neg k5,LN,if_neg h0];rfl
 have k4:¬w.c.num=17:=hc8;refine BD (BE (t_ (Bk (h:=?_))));refine A3 rfl (Dm 1 rfl (.cons _ _ _ _ _ rfl (LeA.of_eq rfl) (.cons _ _ _ _ _ rfl (A7 _) .nil)) (Md w .any 0 f hsb hf) ?_);rintro r rfl;refine⟨rfl,?_⟩;refine e_ (?_);refine A4 rfl (fun hb11 hc11=>?_) (fun hb11 hc11=>?_)
 ·have k5:Af w.s.spc.files f.file=true:=hc11;refine BL (h:=?_);refine BS (r:= .v (.int .i64 (Dv w).2)) none (h5:=(by rw[hre,if_neg k1,if_neg k2,if_neg k3,if_neg k4,if_pos k5];exact A7 _)) (h6:=⟨rfl,rfl,?_⟩);rw[hre,if_neg k1,if_neg k2,if_neg k3,if_neg k4,if_pos k5];rfl
 have k5:¬Af w.s.spc.files f.file=true:=by simpa using hc11
 refine Ds (h:=Aa (h:=?_));refine A3 rfl (Dm 1 rfl (.cons _ _ _ _ _ rfl (LeA.of_eq rfl) (.cons _ _ _ _ _ rfl (A7 _) (.cons _ _ _ _ _ rfl (A7 _) .nil))) (Kx w .any f.file 2 hsb) ?_);rintro r rfl;refine⟨rfl,?_⟩;refine DA (h:=?_);refine A4 rfl (fun hb12 hc12=>?_) (fun hb12 hc12=>?_)
 ·have k6:CA w f.file 2=false:=by simpa using hc12
  refine BL (h:=?_);refine BS (r:= .v (.int .i64 (Dv w).2)) none (h5:=(by rw[hre,if_neg k1,if_neg k2,if_neg k3,if_neg k4,if_neg k5,if_pos k6];exact A7 _)) (h6:=⟨rfl,rfl,?_⟩);rw[hre,if_neg k1,if_neg k2,if_neg k3,if_neg k4,if_neg k5,if_pos k6];rfl
 have k6:¬CA w f.file 2=false:=by simpa using hc12
 refine AF (Jo (h:=?_));refine BS (r:= .v (.int .i64 (Dv w).2)) none (h5:=(by rw[hre,if_neg k1,if_neg k2,if_neg k3,if_neg k4,if_neg k5,if_neg k6];exact A7 _)) (h6:=⟨rfl,rfl,?_⟩);rw[hre,if_neg k1,if_neg k2,if_neg k3,if_neg k4,if_neg k5,if_neg k6];rfl
theorem ZF(w:Wrk)(cap:Nat)(f:Fnd)(x:Itm)(hv:SpcV w.s.spc)(hm:w.s.spc.mounts.length≤1000)(hf:w.found[0]?=some f)(hx:w.r.items[0]?=some x)(hn:f.name.size≤100000)(h9:w.c.num=9→0<w.c.args.length)(hsz:∀p∈w.c.args,p.size≤1000):ACall prog 151 [.bp 0 0] [WA w cap,IB w cap] (fun r b t=>t=[]∧r= .v (.int .i64 (GC w).2)∧b=[WA (GC w).1 cap,IB (GC w).1 cap]):=by
 have hsb:=hv.b hm;have hrow0:(w.found.map Ah)[0]?=some (Ah f):=by rw[List.getElem?_map,hf];rfl
 have hfn:As w 0=f:=by unfold As;rw[hf];rfl
 have hpl:GC w=if f.ex=true then(w,17)else if f.slash=true∧w.c.num=9 then(w,2)else if CA w f.dir 2=false then(w,13)else if w.c.num=9 then Cw w 0 (O7 (KS w.c))else Cw w 0 (PO w.c.a0):=by
  unfold GC;rw[hfn]
 refine enter Tryz.func151 rfl rfl rfl rfl rfl 2 rfl ?_;refine EX (h:=k_ (h:=Aa (h:=?_)));refine A3 rfl (D7 (n:=0) rfl rfl rfl hrow0 ?_);refine JH (h:=q_ (BK (B0 (h:=B4 (h:=?_)))));refine A4 rfl (fun hb1 hc1=>?_) (fun hb1 hc1=>?_)
 ·have k1:f.ex=true:=hc1;refine Bh (h:=?_);refine BS (r:= .v (.int .i64 (GC w).2)) none (h5:=(by rw[hpl,if_pos k1];exact A7 _)) (h6:=⟨rfl,rfl,?_⟩);rw[hpl,if_pos k1];rfl
 have k1:¬f.ex=true:=by simpa using hc1
 refine B9 (fun S=>S=⟨look [(0, .bp 0 0),(3, .bp 2 0),(13, .v (.bool (f.slash&&decide (w.c.num=9))))],⟨[WA w cap,IB w cap,Ah f],[]⟩⟩) ?_ ?_
 ·skip
  refine Aw (Fx (h:=?_));refine AJ true rfl rfl (fun hb2 hc2=>?_) (fun hb2 hc2=>?_)
  ·refine m_ (h:=Dg (h:=EG (h:=CZ (h:=Ch (h:=?_)))));exact⟨_,rfl,CD 3 0 (by simp[AW,AQ,AP,Bm B1,BC,WA,IB,Cl,Ah,AZ,AA,Ai,AY,Al])⟩
  refine BT (h:=HU (h:=Ch (h:=?_)));exact⟨_,rfl,CD 3 0 (by simp[AW,AQ,AP,Bm B1,BC,WA,IB,Cl,Ah,AZ,AA,Ai,AY,Al])⟩
 rintro S rfl;refine A4 rfl (fun hb3 hc3=>?_) (fun hb3 hc3=>?_)
 ·have k2:f.slash=true∧w.c.num=9:=by simpa using hc3
  refine Bh (h:=?_);refine BS (r:= .v (.int .i64 (GC w).2)) none (h5:=(by rw[hpl,if_neg k1,if_pos k2];exact A7 _)) (h6:=⟨rfl,rfl,?_⟩);rw[hpl,if_neg k1,if_pos k2];rfl
 have k2:¬(f.slash=true∧w.c.num=9):=by simpa using hc3
 refine AX (h:=Aa (h:=?_));refine A3 rfl (Dm 1 rfl (.cons _ _ _ _ _ rfl (LeA.of_eq rfl) (.cons _ _ _ _ _ rfl (A7 _) (.cons _ _ _ _ _ rfl (A7 _) .nil))) (Kx w .any f.dir 2 hsb) ?_);rintro r rfl;refine⟨rfl,?_⟩;refine DP (h:=B4 (h:=?_));refine A4 rfl (fun hb4 hc4=>?_) (fun hb4 hc4=>?_)
 ·have k3:CA w f.dir 2=false:=by simpa using hc4
  refine Bh (h:=?_);refine BS (r:= .v (.int .i64 (GC w).2)) none (h5:=(by rw[hpl,if_neg k1,if_neg k2,if_pos k3];exact A7 _)) (h6:=⟨rfl,rfl,?_⟩);rw[hpl,if_neg k1,if_neg k2,if_pos k3];rfl
 have k3:¬CA w f.dir 2=false:=by simpa using hc4
 refine BD (BE (t_ (Bk (h:=Dg (h:=BN (h:=?_))))));refine A4 rfl (fun hb5 hc5=>?_) (fun hb5 hc5=>?_)
 ·have k4:w.c.num=9:=hc5;obtain⟨a0,ha0⟩:∃a,w.c.args[0]?=some a:=⟨_,B2 (h9 hc5)⟩;have harg:(w.c.args.map DE)[0]?=some (DE a0):=by rw[List.getElem?_map,ha0];rfl
  have hag:KS w.c=a0:=by unfold KS;rw[List.headD_eq_head?_getD,List.head?_eq_getElem?,ha0];rfl
  have hsa:(O7 a0).target.size≤100000:=by have:=hsz a0 (Aj ha0);show a0.size≤100000;omega
  refine E9 (h:=Dg (h:=?_));refine A3 rfl (D7 (n:=0) rfl rfl rfl harg ?_);refine l_ (h:=?_);refine A3 rfl (Gi (y:= .agg (AZ (O7 a0))) (Dn ⟨rfl,rfl⟩) ?_);refine A3 rfl (Bg [0,1] rfl (.cons _ _ _ _ _ rfl (A7 _) (.cons _ _ _ _ _ rfl (A7 _) (.cons _ _ _ _ _ rfl (A7 _) .nil))) (by decide) (.cons _ _ _ _ _ rfl rfl (.cons _ _ _ _ _ rfl (Db B1 _ _ _) .nil)) (U7 w cap 0 (O7 a0) f x hv.files hf hx hn hsa rfl) ?_);rintro r bc tc ⟨rfl,rfl,rfl⟩;refine⟨rfl,_,E3 rfl ((Cw w 0 (O7 a0)).1) cap,?_⟩;refine E8 (h:=?_);refine BS (r:= .v (.int .i64 (GC w).2)) none (h5:=(by rw[hpl,if_neg k1,if_neg k2,if_neg k3,if_pos k4,hag];exact A7 _)) (h6:=⟨rfl,rfl,?_⟩);rw[hpl,if_neg k1,if_neg k2,if_neg k3,if_pos k4,hag];rfl
 have k4:¬w.c.num=9:=hc5;refine AF (E9 (h:=Gx (h:=f_ (h:=?_))));refine A3 rfl (Bw (len:=4) (sz:=1) (n:=0) (by kernel_rfl) rfl rfl rfl rfl ?_);refine l_ (h:=?_);refine A3 rfl (Gi (y:= .agg (AZ (PO w.c.a0))) (Dn ⟨rfl,rfl⟩) ?_);refine A3 rfl (Bg [0,1] rfl (.cons _ _ _ _ _ rfl (A7 _) (.cons _ _ _ _ _ rfl (A7 _) (.cons _ _ _ _ _ rfl (A7 _) .nil))) (by decide) (.cons _ _ _ _ _ rfl rfl (.cons _ _ _ _ _ rfl (Db B1 _ _ _) .nil)) (U7 w cap 0 (PO w.c.a0) f x hv.files hf hx hn (BH _) rfl) ?_);rintro r bc tc ⟨rfl,rfl,rfl⟩;refine⟨rfl,_,E3 rfl ((Cw w 0 (PO w.c.a0)).1) cap,?_⟩;refine B8 (h:=?_);refine BS (r:= .v (.int .i64 (GC w).2)) none (h5:=(by rw[hpl,if_neg k1,if_neg k2,if_neg k3,if_neg k4];exact A7 _)) (h6:=⟨rfl,rfl,?_⟩);rw[hpl,if_neg k1,if_neg k2,if_neg k3,if_neg k4];rfl
end
section
variable {P:Program}{ev:Operand→Option AV}{h:AH}{R:AV→AH→Prop}{d:Option Tmp}{ty:TypeId}{pos:String}{af:Array Edge}{gd:Option (Nat×Bool)}
theorem pC{T:TypeId}{s y:Operand}{T' sz bytes:Nat}[hE:Elm P T T' sz bytes](hs:ev s=some (.v (.slice none 0 0)))(hy:ev y=some (.v (.slice none 0 0)))(hR:R (.v (.slice none 0 0)) h):AStep P ⟨d, .call {callee:= .builtin .append,args:=#[s,y],argTypes:=#[T,T]},ty,pos,af,gd⟩ ev h R:=by
 intro E G w ec hr he;have k1:=he s (by simp[Op.operands,Call.operands]) _ hs;have k2:=he y (by simp[Op.operands,Call.operands]) _ hy;obtain⟨hu,inf,z,hinf,hz,hzs,hsz,hbts,hp⟩:=Gb hE.eq;simp only[rep]at k1 k2
 have hrun:(Builtin.append_ #[T,T] ty #[.slice none 0 0, .slice none 0 0]).run P w= .ok (.slice none 0 0) w:=by
  simp[Builtin.append_,run_underlying hu,sizeOf,typeInfo,hinf,Builtin.lenOf,Builtin.firstCells,storeCells]
 simp only[execOp,resolve,invoke,builtin,Sem.run_bind,Sem.run_pure,Result.andThen_ok,List.map_toArray,List.map_cons,List.map_nil,k1,k2,hrun];exact⟨_,_,G,hR,hr,Ext.refl _ _,by simp only[rep]⟩
end
def WN(w:Wrk):List AV:=Da w (.v (.slice none 0 0)) (.v (.slice none 0 0))
theorem LT{a:List AV}{rest:List (List AV)}(w:Wrk):Back (a::rest) [0] [WN w] (WN w::rest):=by
 have:=PP (bx:=a::rest) (is:=[0]) (bc:=[WN w]) (by simp) (by simp) (by simp);have e1:E5 (Ee [0] (a::rest).length) (WN w)=WN w:=rfl
 have hb:Dw (a::rest) (Ee [0] (a::rest).length) [0] [WN w]=WN w::rest:=by
  unfold Dw;rw[e1];simp[Dw]
 rw[hb]at this;exact this
def Cn(c:Cal):List AV:=[.v (.int .i64 c.a0), .v (.int .i64 c.a1), .v (.int .i64 c.a2), .v (.int .i64 c.a3)]
theorem pD{t:Tab}{dev:Int}(h:∀i y,i<t.ps.length→t.ps[i]?=some y→(decide (y.cwd.1=dev)||y.opens.any fun d=>decide (d.file.1=dev))=false):O8 t dev=false:=Nl h
section
theorem NK(w:Wrk)(t:Tab)(e:Int):ACall prog 200 [.bp 0 0, .agg (Ai t), .v (.int .i64 e)] [WN w] (fun r b tk=>tk=[]∧r= .v (.int .i64 e)∧b=[WN (CB w (t,e)).1]):=by
 refine enter Tryz.func200 rfl rfl rfl rfl rfl 1 rfl ?_;refine Ef (h:=Bn (h:=BN (h:=?_)));refine A4 rfl (fun hb1 hc1=>?_) (fun hb1 hc1=>?_)
 ·refine Bt (h:=l_ (h:=Gx (h:=Ct (h:=EA (h:=?_)))));refine AU (r:= .v (.int .i64 e)) none (h4:=(by simp[AW,AQ,AP,BC,WN,Cn,Ai,Am,AY])) (h5:=(A7 _)) (h6:=⟨rfl,rfl,?_⟩);rw[CB,if_pos hc1];rfl
 refine AF (EA (h:=?_));refine AU (r:= .v (.int .i64 e)) none (h4:=(by simp[AW,AQ,AP,BC,WN,Cn,Ai,Am,AY])) (h5:=(A7 _)) (h6:=⟨rfl,rfl,?_⟩);rw[CB,if_neg hc1];rfl
theorem pE(w:Wrk)(hs:SpcB w.s.spc)(htb:TabB w.s.tab):ACall prog 213 [.bp 0 0] [WN w] (fun r b t=>t=[]∧r= .v (.int .i64 (H5 w).2)∧b=[WN (H5 w).1]):=by
 have hfew:=htb.few;obtain⟨R,hR⟩:∃R,R=Hi w.s.spc w.c.a0:=⟨_,rfl⟩;have hrem:AFn prog 253 [.agg (AY w.s.spc), .v (.int .i64 w.c.a0)] (fun r=>r=H3 R):=by rw[hR];exact gW _ _ hs
 have hum:H5 w=if w.p.euid≠0 then(w,1)else if w.c.a0=0∨DL w.s.spc w.c.a0=false then(w,22)else if O8 w.s.tab w.c.a0=true then(w,16)else LO w R:=by
  unfold H5;rw[←hR]
 clear hR;refine enter Tryz.func213 rfl rfl rfl rfl rfl 1 rfl ?_;refine EX (h:=Gx (h:=f_ (h:=?_)));refine A3 rfl (Bw (len:=4) (sz:=1) (n:=0) (by kernel_rfl) rfl rfl rfl rfl ?_);refine l_ (h:=Bn (h:=Dg (h:=Bo (h:=?_))));refine A4 rfl (fun hb1 hc1=>?_) (fun hb1 hc1=>?_)
 ·have k1:w.p.euid≠0:=by simpa using hc1
  refine BL (h:=?_);refine AU (r:= .v (.int .i64 (H5 w).2)) none (h4:=(by simp[AW,AQ,AP,BC,WN,Cn,Ai,Am,AY])) (h5:=(by rw[hum,if_pos k1];exact A7 _)) (h6:=⟨rfl,rfl,?_⟩);rw[hum,if_pos k1];rfl
 have k1:¬w.p.euid≠0:=by simpa using hc1
 refine FD (h:=?_);refine B9 (fun S=>S=⟨look [(0, .bp 0 0),(3, .v (.int .i64 w.c.a0)),(32, .v (.bool (decide (w.c.a0=0)|| !DL w.s.spc w.c.a0)))],⟨[WN w],[]⟩⟩) ?_ ?_
 ·skip
  refine Bt (h:=Dy (h:=?_));refine AJ false rfl rfl (fun hb2 hc2=>?_) (fun hb2 hc2=>?_)
  ·refine BT (h:=Fh (h:=DC (h:=?_)));exact⟨_,rfl,CD 1 0 (by simp[AW,AQ,AP,BC,WN,Cn,Ai,Am,AY])⟩
  refine m_ (h:=Dg (h:=m_ (h:=?_)));refine Aq (A8 (Og w.s.spc w.c.a0 hs) ?_);rintro r rfl;refine DP (h:=Fi (h:=?_));exact⟨_,rfl,CD 1 0 (by simp[AW,AQ,AP,BC,WN,Cn,Ai,Am,AY])⟩
 rintro S rfl;refine A4 rfl (fun hb3 hc3=>?_) (fun hb3 hc3=>?_)
 ·have k2:w.c.a0=0∨DL w.s.spc w.c.a0=false:=by simpa using hc3
  refine BL (h:=?_);refine AU (r:= .v (.int .i64 (H5 w).2)) none (h4:=(by simp[AW,AQ,AP,BC,WN,Cn,Ai,Am,AY])) (h5:=(by rw[hum,if_neg k1,if_pos k2];exact A7 _)) (h6:=⟨rfl,rfl,?_⟩);rw[hum,if_neg k1,if_pos k2];rfl
 have k2:¬(w.c.a0=0∨DL w.s.spc w.c.a0=false):=by simpa using hc3
 refine AF (Ca (h:=?_));refine BU (fun m S=>∃j:Nat,j≤w.s.tab.ps.length∧m=w.s.tab.ps.length - j∧(∀i y,i<j→w.s.tab.ps[i]?=some y→(decide (y.cwd.1=w.c.a0)||y.opens.any fun d=>decide (d.file.1=w.c.a0))=false)∧S=⟨look [(0, .bp 0 0),(3, .v (.int .i64 w.c.a0)),(4, .v (.int .i64 (j:Int)))],⟨[WN w],[]⟩⟩) (w.s.tab.ps.length) (Bd 1 0 (by simp[AW,AQ,AP,BC,WN,Cn,Ai,Am,AY])) (⟨0,BH _,rfl,fun i y hi=>by omega,rfl⟩) ?_;rintro m S ⟨j,hj,rfl,ha,rfl⟩;refine Dq (h:=Gx (h:=Dp (h:=Gm (h:=?_))));refine A4 rfl (fun hb4 hc4=>?_) (fun hb4 hc4=>?_)
 ·obtain⟨hlt,p,hy,hrow, -⟩:=C1 Am hc4;have hop:=htb.opens p (Aj hy);have hpl:(p.opens.map GX).length=p.opens.length:=List.length_map _;refine C0 (h:=AX (h:=Gx (h:=Dp (h:=Fw (h:=JH (h:=q_ (w_ (Dp (h:=m_ (h:=BN (h:=?_)))))))))));refine A4 rfl (fun hb5 hc5=>?_) (fun hb5 hc5=>?_)
  ·have hbz:O8 w.s.tab w.c.a0=true:=N1 hy (by simp[hc5]);refine BL (h:=D1 (h:=CT (h:=?_)));refine AU (r:= .v (.int .i64 (H5 w).2)) none (h4:=(by simp[AW,AQ,AP,BC,WN,Cn,Ai,Am,AY])) (h5:=(by rw[hum,if_neg k1,if_neg k2,if_pos hbz];exact A7 _)) (h6:=⟨rfl,rfl,?_⟩);rw[hum,if_neg k1,if_neg k2,if_pos hbz];rfl
  have hcw:¬p.cwd.1=w.c.a0:=hc5;refine AF (Nc (h:=?_));refine BU (fun m S=>∃k:Nat,k≤p.opens.length∧m=p.opens.length - k∧(∀i y,i<k→p.opens[i]?=some y→decide (y.file.1=w.c.a0)=false)∧S=⟨look [(0, .bp 0 0),(3, .v (.int .i64 w.c.a0)),(4, .v (.int .i64 (j:Int))),(5, .bp 1 0),(6, .v (.int .i64 (k:Int)))],⟨[WN w,Am p],[]⟩⟩) (p.opens.length) (Bd 2 0 (by simp[AW,AQ,AP,BC,WN,Cn,Ai,Am,AY])) (⟨0,BH _,rfl,fun i y hi=>by omega,rfl⟩) ?_;rintro m S ⟨k,hk2,rfl,hak,rfl⟩;refine Gs (h:=?_);refine A4 rfl (fun hb6 hc6=>?_) (fun hb6 hc6=>?_)
  ·obtain⟨hltk,q,hyk,hrowk, -⟩:=C1 GX hc6;refine C0 (h:=Gt (h:=Dp (h:=m_ (h:=BN (h:=?_)))));refine A4 rfl (fun hb7 hc7=>?_) (fun hb7 hc7=>?_)
   ·have hbz:O8 w.s.tab w.c.a0=true:=N1 hy (by rw[Bool.or_eq_true];exact .inr (N1 hyk (decide_eq_true hc7)));refine Bh (h:=Ba (L6 (D1 (h:=CT (h:=?_)))));refine AU (r:= .v (.int .i64 (H5 w).2)) none (h4:=(by simp[AW,AQ,AP,BC,WN,Cn,Ai,Am,AY])) (h5:=(by rw[hum,if_neg k1,if_neg k2,if_pos hbz];exact A7 _)) (h6:=⟨rfl,rfl,?_⟩);rw[hum,if_neg k1,if_neg k2,if_pos hbz];rfl
   have hqn:decide (q.file.1=w.c.a0)=false:=decide_eq_false hc7;refine DH (h:=?_);refine⟨_,_,?_,⟨k+1,by omega,rfl,GL hyk hak hqn,rfl⟩,Bd 2 0 (by simp[AW,AQ,AP,BC,WN,Cn,Ai,Am,AY])⟩;omega
  have e2:=CF GX hk2 hc6;have hno:(p.opens.any fun d=>decide (d.file.1=w.c.a0))=false:=Nl (by rw[←e2];exact hak);refine Kh (h:=Eg (h:=?_));refine⟨_,_,?_,⟨j+1,by omega,rfl,GL hy ha (by rw[decide_eq_false hcw,hno];rfl),rfl⟩,Bd 1 0 (by simp[AW,AQ,AP,BC,WN,Cn,Ai,Am,AY])⟩;omega
 have e:=CF Am hj hc4;have hbz:O8 w.s.tab w.c.a0=false:=pD (by rw[←e];exact ha);refine CJ (h:=AX (h:=Dg (h:=m_ (h:=?_))));refine A3 rfl (A8 (hrem) ?_);rintro r rfl;refine JG (h:=BN (h:=?_));refine A4 rfl (fun hb8 hc8=>?_) (fun hb8 hc8=>?_)
 ·have h0:R.2=0:=hc8;refine AX (h:=l_ (h:=Gx (h:=Ct (h:=EQ (h:=Gx (h:=Ct (h:=EA (h:=?_))))))));refine AU (r:= .v (.int .i64 (H5 w).2)) none (h4:=(by simp[AW,AQ,AP,BC,WN,Cn,Ai,Am,AY])) (h5:=(by rw[hum,if_neg k1,if_neg k2,if_neg (by rw[hbz];simp),LO,if_pos h0];exact LeA.of_eq (vi h0))) (h6:=⟨rfl,rfl,?_⟩);rw[hum,if_neg k1,if_neg k2,if_neg (by rw[hbz];simp),LO,if_pos h0];rfl
 have h0:¬R.2=0:=hc8;refine AF (EA (h:=?_));refine AU (r:= .v (.int .i64 (H5 w).2)) none (h4:=(by simp[AW,AQ,AP,BC,WN,Cn,Ai,Am,AY])) (h5:=(by rw[hum,if_neg k1,if_neg k2,if_neg (by rw[hbz];simp),LO,if_neg h0];exact A7 _)) (h6:=⟨rfl,rfl,?_⟩);rw[hum,if_neg k1,if_neg k2,if_neg (by rw[hbz];simp),LO,if_neg h0];rfl
theorem pF(w:Wrk)(hs:SpcB w.s.spc)(htb:TabB w.s.tab)(htn:DW w.s.tab)(h19:w.c.num=19→0<w.c.args.length):ACall prog 152 [.bp 0 0] [WN w] (fun r b t=>t=[]∧r= .v (.int .i64 (F8 w).2)∧b=[WN (F8 w).1]):=by
 obtain⟨F0,hF0⟩:∃F,F=GU w.s.tab w.p.pid:=⟨_,rfl⟩;obtain⟨F2,hF2⟩:∃F,F=JU w.s.tab w.p.pid:=⟨_,rfl⟩;obtain⟨F3,hF3⟩:∃F,F=JV w.s.tab w.p.pid w.c.a0:=⟨_,rfl⟩;obtain⟨F4,hF4⟩:∃F,F=JW w.s.tab w.p.pid w.c.a0:=⟨_,rfl⟩;obtain⟨F5,hF5⟩:∃F,F=G9 w.s.tab w.p.pid w.c.a0:=⟨_,rfl⟩;obtain⟨F7,hF7⟩:∃F,F=KR w.s.tab w.p.pid w.c.a0:=⟨_,rfl⟩;obtain⟨FK,hFK⟩:∃F,F=J6 w.s.tab w.p.pid w.c.a0 (!decide (w.c.a1=0)):=⟨_,rfl⟩;have q0:AFn prog 207 [.agg (Ai w.s.tab), .v (.int .i64 w.p.pid)] (fun r=>r=Lt F0):=by rw[hF0];exact pB _ _ htb htn
 have q2:AFn prog 208 [.agg (Ai w.s.tab), .v (.int .i64 w.p.pid)] (fun r=>r=Cr F2):=by rw[hF2];exact ZE _ _ htb
 have q3:AFn prog 209 [.agg (Ai w.s.tab), .v (.int .i64 w.p.pid), .v (.int .i64 w.c.a0)] (fun r=>r=Cr F3):=by rw[hF3];exact oW _ _ _ htb
 have q4:AFn prog 210 [.agg (Ai w.s.tab), .v (.int .i64 w.p.pid), .v (.int .i64 w.c.a0)] (fun r=>r=Cr F4):=by rw[hF4];exact oX _ _ _ htb
 have q5:AFn prog 211 [.agg (Ai w.s.tab), .v (.int .i64 w.p.pid), .v (.int .i64 w.c.a0)] (fun r=>r=Cr F5):=by rw[hF5];exact oY _ _ _ htb htn
 have q7:AFn prog 212 [.agg (Ai w.s.tab), .v (.int .i64 w.p.pid), .v (.int .i64 w.c.a0)] (fun r=>r=Cr F7):=by rw[hF7];exact oZ _ _ _ htb
 have qk:AFn prog 214 [.agg (Ai w.s.tab), .v (.int .i64 w.p.pid), .v (.int .i64 w.c.a0), .v (.bool (!decide (w.c.a1=0)))] (fun r=>r=Cr FK):=by rw[hFK];exact pA _ _ _ _ htb
 have hot:F8 w=if w.c.num=0 then CB (O9 w F0.2.1) (F0.1,F0.2.2)else if w.c.num=2 then CB w F2 else if w.c.num=3 then CB w F3 else if w.c.num=4 then CB w F4 else if w.c.num=5 then CB w F5 else if w.c.num=7 then CB w F7 else if w.c.num=18 then H5 w
     else if w.c.num=19 then(if w.c.a0<0∨65535<w.c.a0∨KS w.c=⟨#[]⟩then(w,22)else if w.c.a0=0 then(w,111)else(w,0))else if w.c.a1<0∨64<w.c.a1 then(w,22)else CB w FK:=by
  have hb:decide (w.c.a1≠0)= !decide (w.c.a1=0):=by simp
  unfold F8;rw[hb,←hF0,←hF2,←hF3,←hF4,←hF5,←hF7,←hFK]
 clear hF0 hF2 hF3 hF4 hF5 hF7 hFK;refine enter Tryz.func152 rfl rfl rfl rfl rfl 1 rfl ?_;refine DG (h:=?_);refine B9 (fun S=>S=⟨look [(0, .bp 0 0),(3, .bp 1 0),(4, .v (.int .i64 w.p.pid)),(5, .bp 2 0)],⟨[WN w,Ai w.s.tab,Cn w.c],[]⟩⟩) ?_ ?_
 ·skip
  refine BO ([(0,WN w)]) 20 (h:=AG 0 (h:=BJ 1 (h:=AD 2 (h:=AD 3 (h:=A9 4 (h:=AG 5 (h:=BJ 6 (h:=AD 7 (h:=AD 8 (h:=A9 9 (h:=AG 10 (h:=BJ 11 (h:=AD 12 (h:=AD 13 (h:=A9 14 (h:=?_))))))))))))))));refine Fb 15 16 rfl rfl ?_ ?_
  ·refine CR (by repeat constructor) ?_;refine o_ (h:=?_);refine c_ 16 rfl (CR (by repeat constructor) ?_);refine o_ (h:=?_);refine B6 17 (h:=BB 18 (h:=?_));refine B6 19 (h:=z_ (h:=?_));refine AT ?_;exact⟨_,rfl,Bd 3 0 (by simp[AW,AQ,AP,BC,WN,Cn,Ai,Am,AY])⟩
  refine CR (by repeat constructor) ?_;refine o_ (h:=?_);refine c_ 15 rfl (CR (by repeat constructor) ?_);refine o_ (h:=?_);refine B6 17 (h:=BB 18 (h:=?_));refine B6 19 (h:=z_ (h:=?_));refine AT ?_
  first|exact⟨_,rfl,Bd 3 0 (by simp[AW,AQ,AP,BC,WN,Cn,Ai,Am,AY])⟩|exact⟨_,rfl,GE [0,2,1] YM (by decide) (.cons _ _ _ _ _ rfl rfl (.cons _ _ _ _ _ rfl rfl (.cons _ _ _ _ _ rfl rfl .nil))) (by repeat (first|exact SubK.nil|refine SubK.cons _ _ _ _ rfl (A7 _) ?_))⟩
 rintro S rfl;refine Bk (h:=Dg (h:=e_ (BK (Ar (h:=?_)))));refine A4 rfl (fun hb1 hc1=>?_) (fun hb1 hc1=>?_)
 ·have k0:w.c.num=0:=hc1;refine FR (h:=?_);refine A3 rfl (A8 (q0) ?_);rintro r rfl;refine GF (h:=x_ (h:=La (h:=a_ (h:=Bu (h:=m_ (h:=m_ (h:=m_ (h:=Gx (h:=CS (h:=Gx (h:=Ct (h:=w_ (?_)))))))))))));refine m_ (h:=Gv (h:=?_));refine A3 rfl (Bg [0] rfl (.cons _ _ _ _ _ rfl (A7 _) (.cons _ _ _ _ _ rfl (A7 _) (.cons _ _ _ _ _ rfl (A7 _) .nil))) (by decide) (.cons _ _ _ _ _ rfl rfl .nil) (NK (O9 w F0.2.1) F0.1 F0.2.2) ?_);rintro r bc tc ⟨rfl,rfl,rfl⟩;refine⟨rfl,_,LT ((CB (O9 w F0.2.1) (F0.1,F0.2.2)).1),?_⟩;refine BA (h:=?_);refine AU (r:= .v (.int .i64 (F8 w).2)) none (h4:=(by simp[AW,AQ,AP,BC,WN,Cn,Ai,Am,AY])) (h5:=(by rw[hot,if_pos k0,LP];exact A7 _)) (h6:=⟨rfl,rfl,?_⟩);rw[hot,if_pos k0];rfl
 have k0:¬w.c.num=0:=hc1;refine Ar (h:=?_);refine A4 rfl (fun hb2 hc2=>?_) (fun hb2 hc2=>?_)
 ·have k1:w.c.num=2:=hc2;refine AX (h:=Gv (h:=?_));refine A3 rfl (A8 (q2) ?_);rintro r rfl;refine Kg (h:=?_);refine A3 rfl (Bg [0] rfl (.cons _ _ _ _ _ rfl (A7 _) (.cons _ _ _ _ _ rfl (A7 _) (.cons _ _ _ _ _ rfl (A7 _) .nil))) (by decide) (.cons _ _ _ _ _ rfl rfl .nil) (NK w F2.1 F2.2) ?_);rintro r bc tc ⟨rfl,rfl,rfl⟩;refine⟨rfl,_,LT ((CB w F2).1),?_⟩;refine BA (h:=?_);refine AU (r:= .v (.int .i64 (F8 w).2)) none (h4:=(by simp[AW,AQ,AP,BC,WN,Cn,Ai,Am,AY])) (h5:=(by rw[hot,if_neg k0,if_pos k1,LP];exact A7 _)) (h6:=⟨rfl,rfl,?_⟩);rw[hot,if_neg k0,if_pos k1];rfl
 have k1:¬w.c.num=2:=hc2;refine Ar (h:=?_);refine A4 rfl (fun hb3 hc3=>?_) (fun hb3 hc3=>?_)
 ·have k2:w.c.num=3:=hc3;refine AX (h:=Gv (h:=?_));refine A3 rfl (Bw (len:=4) (sz:=1) (n:=0) (by kernel_rfl) rfl rfl rfl rfl ?_);refine l_ (h:=?_);refine A3 rfl (A8 (q3) ?_);rintro r rfl;refine Kg (h:=?_);refine A3 rfl (Bg [0] rfl (.cons _ _ _ _ _ rfl (A7 _) (.cons _ _ _ _ _ rfl (A7 _) (.cons _ _ _ _ _ rfl (A7 _) .nil))) (by decide) (.cons _ _ _ _ _ rfl rfl .nil) (NK w F3.1 F3.2) ?_);rintro r bc tc ⟨rfl,rfl,rfl⟩;refine⟨rfl,_,LT ((CB w F3).1),?_⟩;refine BA (h:=?_);refine AU (r:= .v (.int .i64 (F8 w).2)) none (h4:=(by simp[AW,AQ,AP,BC,WN,Cn,Ai,Am,AY])) (h5:=(by rw[hot,if_neg k0,if_neg k1,if_pos k2,LP];exact A7 _)) (h6:=⟨rfl,rfl,?_⟩);rw[hot,if_neg k0,if_neg k1,if_pos k2];rfl
 have k2:¬w.c.num=3:=hc3;refine Ar (h:=?_);refine A4 rfl (fun hb4 hc4=>?_) (fun hb4 hc4=>?_)
 ·have k3:w.c.num=4:=hc4;refine AX (h:=Gv (h:=?_));refine A3 rfl (Bw (len:=4) (sz:=1) (n:=0) (by kernel_rfl) rfl rfl rfl rfl ?_);refine l_ (h:=?_);refine A3 rfl (A8 (q4) ?_);rintro r rfl;refine Kg (h:=?_);refine A3 rfl (Bg [0] rfl (.cons _ _ _ _ _ rfl (A7 _) (.cons _ _ _ _ _ rfl (A7 _) (.cons _ _ _ _ _ rfl (A7 _) .nil))) (by decide) (.cons _ _ _ _ _ rfl rfl .nil) (NK w F4.1 F4.2) ?_);rintro r bc tc ⟨rfl,rfl,rfl⟩;refine⟨rfl,_,LT ((CB w F4).1),?_⟩;refine BA (h:=?_);refine AU (r:= .v (.int .i64 (F8 w).2)) none (h4:=(by simp[AW,AQ,AP,BC,WN,Cn,Ai,Am,AY])) (h5:=(by rw[hot,if_neg k0,if_neg k1,if_neg k2,if_pos k3,LP];exact A7 _)) (h6:=⟨rfl,rfl,?_⟩);rw[hot,if_neg k0,if_neg k1,if_neg k2,if_pos k3];rfl
 have k3:¬w.c.num=4:=hc4;refine Ar (h:=?_);refine A4 rfl (fun hb5 hc5=>?_) (fun hb5 hc5=>?_)
 ·have k4:w.c.num=5:=hc5;refine AX (h:=Gv (h:=?_));refine A3 rfl (Bw (len:=4) (sz:=1) (n:=0) (by kernel_rfl) rfl rfl rfl rfl ?_);refine l_ (h:=?_);refine A3 rfl (A8 (q5) ?_);rintro r rfl;refine Kg (h:=?_);refine A3 rfl (Bg [0] rfl (.cons _ _ _ _ _ rfl (A7 _) (.cons _ _ _ _ _ rfl (A7 _) (.cons _ _ _ _ _ rfl (A7 _) .nil))) (by decide) (.cons _ _ _ _ _ rfl rfl .nil) (NK w F5.1 F5.2) ?_);rintro r bc tc ⟨rfl,rfl,rfl⟩;refine⟨rfl,_,LT ((CB w F5).1),?_⟩;refine BA (h:=?_);refine AU (r:= .v (.int .i64 (F8 w).2)) none (h4:=(by simp[AW,AQ,AP,BC,WN,Cn,Ai,Am,AY])) (h5:=(by rw[hot,if_neg k0,if_neg k1,if_neg k2,if_neg k3,if_pos k4,LP];exact A7 _)) (h6:=⟨rfl,rfl,?_⟩);rw[hot,if_neg k0,if_neg k1,if_neg k2,if_neg k3,if_pos k4];rfl
 have k4:¬w.c.num=5:=hc5;refine Ar (h:=?_);refine A4 rfl (fun hb6 hc6=>?_) (fun hb6 hc6=>?_)
 ·have k5:w.c.num=7:=hc6;refine AX (h:=Gv (h:=?_));refine A3 rfl (Bw (len:=4) (sz:=1) (n:=0) (by kernel_rfl) rfl rfl rfl rfl ?_);refine l_ (h:=?_);refine A3 rfl (A8 (q7) ?_);rintro r rfl;refine Kg (h:=?_);refine A3 rfl (Bg [0] rfl (.cons _ _ _ _ _ rfl (A7 _) (.cons _ _ _ _ _ rfl (A7 _) (.cons _ _ _ _ _ rfl (A7 _) .nil))) (by decide) (.cons _ _ _ _ _ rfl rfl .nil) (NK w F7.1 F7.2) ?_);rintro r bc tc ⟨rfl,rfl,rfl⟩;refine⟨rfl,_,LT ((CB w F7).1),?_⟩;refine BA (h:=?_);refine AU (r:= .v (.int .i64 (F8 w).2)) none (h4:=(by simp[AW,AQ,AP,BC,WN,Cn,Ai,Am,AY])) (h5:=(by rw[hot,if_neg k0,if_neg k1,if_neg k2,if_neg k3,if_neg k4,if_pos k5,LP];exact A7 _)) (h6:=⟨rfl,rfl,?_⟩);rw[hot,if_neg k0,if_neg k1,if_neg k2,if_neg k3,if_neg k4,if_pos k5];rfl
 have k5:¬w.c.num=7:=hc6;refine Ar (h:=?_);refine A4 rfl (fun hb7 hc7=>?_) (fun hb7 hc7=>?_)
 ·have k6:w.c.num=18:=hc7;refine AX (h:=?_);refine A3 rfl (Bg [0] rfl (.cons _ _ _ _ _ rfl (A7 _) .nil) (by decide) (.cons _ _ _ _ _ rfl rfl .nil) (pE w hs htb) ?_);rintro r bc tc ⟨rfl,rfl,rfl⟩;refine⟨rfl,_,LT ((H5 w).1),?_⟩;refine BA (h:=?_);refine AU (r:= .v (.int .i64 (F8 w).2)) none (h4:=(by simp[AW,AQ,AP,BC,WN,Cn,Ai,Am,AY])) (h5:=(by rw[hot,if_neg k0,if_neg k1,if_neg k2,if_neg k3,if_neg k4,if_neg k5,if_pos k6];exact A7 _)) (h6:=⟨rfl,rfl,?_⟩);rw[hot,if_neg k0,if_neg k1,if_neg k2,if_neg k3,if_neg k4,if_neg k5,if_pos k6];rfl
 have k6:¬w.c.num=18:=hc7;refine Ar (h:=?_);refine A4 rfl (fun hb8 hc8=>?_) (fun hb8 hc8=>?_)
 ·have k7:w.c.num=19:=hc8;obtain⟨a0,ha0⟩:∃a,w.c.args[0]?=some a:=⟨_,B2 (h19 hc8)⟩;have harg:(w.c.args.map DE)[0]?=some (DE a0):=by rw[List.getElem?_map,ha0];rfl
  have hag:KS w.c=a0:=by unfold KS;rw[List.headD_eq_head?_getD,List.head?_eq_getElem?,ha0];rfl
  refine q_ (?_);refine B9 (fun S=>∃b:Bool,(b=true↔(w.c.a0<0∨65535<w.c.a0∨a0=⟨#[]⟩))∧S=⟨look [(0, .bp 0 0),(3, .bp 1 0),(4, .v (.int .i64 w.p.pid)),(5, .bp 2 0),(128, .v (.bool b))],⟨[WN w,Ai w.s.tab,Cn w.c],[]⟩⟩) ?_ ?_
  ·skip
   refine Aw (?_);refine A3 rfl (Bw (len:=4) (sz:=1) (n:=0) (by kernel_rfl) rfl rfl rfl rfl ?_);refine l_ (h:=DZ (h:=?_));refine AJ false rfl rfl (fun hb9 hc9=>?_) (fun hb9 hc9=>?_)
   ·refine Cg (h:=BT (h:=Fh (h:=DC (h:=?_))));refine⟨_,⟨_,?_,rfl⟩,Bd 3 0 (by simp[AW,AQ,AP,BC,WN,Cn,Ai,Am,AY])⟩
    (simp[*];done)
   refine Aq (Bw (len:=4) (sz:=1) (n:=0) (by kernel_rfl) rfl rfl rfl rfl ?_);refine l_ (h:=E6 (h:=Be (h:=?_)));refine AJ false rfl rfl (fun hb10 hc10=>?_) (fun hb10 hc10=>?_)
   ·refine BT (h:=Fh (h:=DC (h:=?_)));refine⟨_,⟨_,?_,rfl⟩,Bd 3 0 (by simp[AW,AQ,AP,BC,WN,Cn,Ai,Am,AY])⟩
    (simp[*];done)
   refine m_ (h:=Dg (h:=?_));refine Aq (D7 (n:=0) rfl rfl rfl harg ?_);refine l_ (h:=EG (h:=Fi (h:=?_)));refine⟨_,⟨_,?_,rfl⟩,Bd 3 0 (by simp[AW,AQ,AP,BC,WN,Cn,Ai,Am,AY])⟩
   (simp[*];done)
  rintro S ⟨b20,hb20,rfl⟩;refine A4 rfl (fun hb11 hc11=>?_) (fun hb11 hc11=>?_)
  ·refine BL (h:=D1 (h:=?_));refine AU (r:= .v (.int .i64 (F8 w).2)) none (h4:=(by simp[AW,AQ,AP,BC,WN,Cn,Ai,Am,AY])) (h5:=(by rw[hot,if_neg k0,if_neg k1,if_neg k2,if_neg k3,if_neg k4,if_neg k5,if_neg k6,if_pos k7,if_pos (by rw[hag];exact hb20.1 ‹_›)];exact A7 _)) (h6:=⟨rfl,rfl,?_⟩);rw[hot,if_neg k0,if_neg k1,if_neg k2,if_neg k3,if_neg k4,if_neg k5,if_neg k6,if_pos k7,if_pos (by rw[hag];exact hb20.1 ‹_›)];rfl
  refine FD (h:=w_ (?_));refine A3 rfl (Bw (len:=4) (sz:=1) (n:=0) (by kernel_rfl) rfl rfl rfl rfl ?_);refine l_ (h:=BN (h:=?_));refine A4 rfl (fun hb12 hc12=>?_) (fun hb12 hc12=>?_)
  ·have k9:w.c.a0=0:=hc12;refine BL (h:=D1 (h:=?_));refine AU (r:= .v (.int .i64 (F8 w).2)) none (h4:=(by simp[AW,AQ,AP,BC,WN,Cn,Ai,Am,AY])) (h5:=(by rw[hot,if_neg k0,if_neg k1,if_neg k2,if_neg k3,if_neg k4,if_neg k5,if_neg k6,if_pos k7,if_neg (by rw[hag];exact fun q=>absurd (hb20.2 q) (by simp[*])),if_pos k9];exact A7 _)) (h6:=⟨rfl,rfl,?_⟩);rw[hot,if_neg k0,if_neg k1,if_neg k2,if_neg k3,if_neg k4,if_neg k5,if_neg k6,if_pos k7,if_neg (by rw[hag];exact fun q=>absurd (hb20.2 q) (by simp[*])),if_pos k9];rfl
  have k9:¬w.c.a0=0:=hc12;refine AF (Bh (h:=?_));refine AU (r:= .v (.int .i64 (F8 w).2)) none (h4:=(by simp[AW,AQ,AP,BC,WN,Cn,Ai,Am,AY])) (h5:=(by rw[hot,if_neg k0,if_neg k1,if_neg k2,if_neg k3,if_neg k4,if_neg k5,if_neg k6,if_pos k7,if_neg (by rw[hag];exact fun q=>absurd (hb20.2 q) (by simp[*])),if_neg k9];exact A7 _)) (h6:=⟨rfl,rfl,?_⟩);rw[hot,if_neg k0,if_neg k1,if_neg k2,if_neg k3,if_neg k4,if_neg k5,if_neg k6,if_pos k7,if_neg (by rw[hag];exact fun q=>absurd (hb20.2 q) (by simp[*])),if_neg k9];rfl
 have k7:¬w.c.num=19:=hc8;refine BD (BE (t_ (q_ (?_))));refine B9 (fun S=>∃b:Bool,(b=true↔(w.c.a1<0∨64<w.c.a1))∧S=⟨look [(0, .bp 0 0),(3, .bp 1 0),(4, .v (.int .i64 w.p.pid)),(5, .bp 2 0),(139, .v (.bool b))],⟨[WN w,Ai w.s.tab,Cn w.c],[]⟩⟩) ?_ ?_
 ·skip
  refine Aw (?_);refine A3 rfl (Bw (len:=4) (sz:=1) (n:=1) (by kernel_rfl) rfl rfl rfl rfl ?_);refine l_ (h:=DZ (h:=?_));refine AJ false rfl rfl (fun hb13 hc13=>?_) (fun hb13 hc13=>?_)
  ·refine J2 (h:=?_);refine⟨_,⟨_,?_,rfl⟩,Bd 3 0 (by simp[AW,AQ,AP,BC,WN,Cn,Ai,Am,AY])⟩
   (simp[*];done)
  refine Aq (Bw (len:=4) (sz:=1) (n:=1) (by kernel_rfl) rfl rfl rfl rfl ?_);refine l_ (h:=E6 (h:=Fi (h:=?_)));refine⟨_,⟨_,?_,rfl⟩,Bd 3 0 (by simp[AW,AQ,AP,BC,WN,Cn,Ai,Am,AY])⟩
  (simp[*];done)
 rintro S ⟨b25,hb25,rfl⟩;refine A4 rfl (fun hb14 hc14=>?_) (fun hb14 hc14=>?_)
 ·refine BL (h:=?_);refine AU (r:= .v (.int .i64 (F8 w).2)) none (h4:=(by simp[AW,AQ,AP,BC,WN,Cn,Ai,Am,AY])) (h5:=(by rw[hot,if_neg k0,if_neg k1,if_neg k2,if_neg k3,if_neg k4,if_neg k5,if_neg k6,if_neg k7,if_pos (hb25.1 ‹_›)];exact A7 _)) (h6:=⟨rfl,rfl,?_⟩);rw[hot,if_neg k0,if_neg k1,if_neg k2,if_neg k3,if_neg k4,if_neg k5,if_neg k6,if_neg k7,if_pos (hb25.1 ‹_›)];rfl
 refine AF (AX (h:=Gv (h:=?_)));refine A3 rfl (Bw (len:=4) (sz:=1) (n:=0) (by kernel_rfl) rfl rfl rfl rfl ?_);refine l_ (h:=?_);refine A3 rfl (Bw (len:=4) (sz:=1) (n:=1) (by kernel_rfl) rfl rfl rfl rfl ?_);refine l_ (h:=HA (h:=?_));refine A3 rfl (A8 (qk) ?_);rintro r rfl;refine Kg (h:=?_);refine A3 rfl (Bg [0] rfl (.cons _ _ _ _ _ rfl (A7 _) (.cons _ _ _ _ _ rfl (A7 _) (.cons _ _ _ _ _ rfl (A7 _) .nil))) (by decide) (.cons _ _ _ _ _ rfl rfl .nil) (NK w FK.1 FK.2) ?_);rintro r bc tc ⟨rfl,rfl,rfl⟩;refine⟨rfl,_,LT ((CB w FK).1),?_⟩;refine B8 (h:=?_);refine AU (r:= .v (.int .i64 (F8 w).2)) none (h4:=(by simp[AW,AQ,AP,BC,WN,Cn,Ai,Am,AY])) (h5:=(by rw[hot,if_neg k0,if_neg k1,if_neg k2,if_neg k3,if_neg k4,if_neg k5,if_neg k6,if_neg k7,if_neg (fun q=>absurd (hb25.2 q) (by simp[*])),LP];exact A7 _)) (h6:=⟨rfl,rfl,?_⟩);rw[hot,if_neg k0,if_neg k1,if_neg k2,if_neg k3,if_neg k4,if_neg k5,if_neg k6,if_neg k7,if_neg (fun q=>absurd (hb25.2 q) (by simp[*]))];rfl
theorem pG(w:Wrk)(e:Int)(hp:w.c.paths=[]):ACall prog 96 [.bp 0 0, .v (.int .i64 e)] [WN w] (fun r b t=>t=[]∧r= .v (.int .i64 e)∧b=[WN w]):=by
 have hpl:w.c.paths.length=0:=by rw[hp];rfl
 refine enter Tryz.func96 rfl rfl rfl rfl rfl 1 rfl ?_;refine EX (h:=k_ (h:=Aa (h:=?_)));refine A3 rfl (A8 (Y2 w.c) ?_);rintro r rfl;refine B4 (h:=Ca (h:=?_));refine BU (fun m S=>S=⟨look [(0, .bp 0 0),(1, .v (.int .i64 e)),(5, .sl 1 ((D6 w.c).map C7) none),(6, .v (.int .i64 0))],⟨[WN w],[]⟩⟩) (0) (Bd 1 0 (by simp[AW,AQ,AP,BC,WN,Cn,Ai,Am,AY])) (rfl) ?_;rintro m S rfl;refine Dq (h:=Dg (h:=Gm (h:=?_)));refine A4 rfl (fun hb1 hc1=>?_) (fun hb1 hc1=>?_)
 ·exfalso;have h3:=hc1;rw[List.length_map,hpl]at h3;omega
 refine CJ (h:=EA (h:=?_));refine AU (r:= .v (.int .i64 e)) none (h4:=(by simp[AW,AQ,AP,BC,WN,Cn,Ai,Am,AY])) (h5:=(A7 _)) (h6:=⟨rfl,rfl,rfl⟩)
theorem pH(w:Wrk)(hs:SpcB w.s.spc)(htb:TabB w.s.tab)(htn:DW w.s.tab)(h19:w.c.num=19→0<w.c.args.length)(hq:w.c.num≠1∧w.c.num≠6∧w.c.num≠8∧w.c.num≠9∧w.c.num≠10∧w.c.num≠11∧w.c.num≠12∧w.c.num≠13∧w.c.num≠14∧w.c.num≠15∧w.c.num≠16∧w.c.num≠17∧w.c.num≠21):ACall prog 98 [.bp 0 0] [WN w] (fun r b t=>t=[]∧r= .v (.int .i64 (BR w).2)∧b=[WN (BR w).1]):=by
 have hact:BR w=F8 w:=by
  unfold BR;rw[if_neg (by omega),if_neg (by omega),if_neg (by omega),if_neg (by omega),if_neg (by omega),if_neg (by omega),if_neg (by omega)]
 refine enter Tryz.func98 rfl rfl rfl rfl rfl 1 rfl ?_;refine w_ (Bn (h:=Dg (h:=e_ (BK (Ar (h:=?_))))));refine A4 rfl (fun hb1 hc1=>?_) (fun hb1 hc1=>?_)
 ·exact Df
 refine Ar (h:=?_);refine A4 rfl (fun hb2 hc2=>?_) (fun hb2 hc2=>?_)
 ·exact Df
 refine q_ (Ar (h:=?_));refine A4 rfl (fun hb3 hc3=>?_) (fun hb3 hc3=>?_)
 ·exact Df
 refine Aw (EW (h:=?_));refine A4 rfl (fun hb4 hc4=>?_) (fun hb4 hc4=>?_)
 ·exact Df
 refine Ar (h:=?_);refine A4 rfl (fun hb5 hc5=>?_) (fun hb5 hc5=>?_)
 ·exact Df
 refine q_ (Ar (h:=?_));refine A4 rfl (fun hb6 hc6=>?_) (fun hb6 hc6=>?_)
 ·exact Df
 refine Aw (EW (h:=?_));refine A4 rfl (fun hb7 hc7=>?_) (fun hb7 hc7=>?_)
 ·exact Df
 refine q_ (Ar (h:=?_));refine A4 rfl (fun hb8 hc8=>?_) (fun hb8 hc8=>?_)
 ·exact Df
 refine Ar (h:=?_);refine A4 rfl (fun hb9 hc9=>?_) (fun hb9 hc9=>?_)
 ·exact Df
 refine Ar (h:=?_);refine A4 rfl (fun hb10 hc10=>?_) (fun hb10 hc10=>?_)
 ·exact Df
 refine Aw (EW (h:=?_));refine A4 rfl (fun hb11 hc11=>?_) (fun hb11 hc11=>?_)
 ·exact Df
 refine q_ (Ar (h:=?_));refine A4 rfl (fun hb12 hc12=>?_) (fun hb12 hc12=>?_)
 ·exact Df
 refine Aw (EW (h:=?_));refine A4 rfl (fun hb13 hc13=>?_) (fun hb13 hc13=>?_)
 ·exact Df
 refine BD (BE (t_ (AX (h:=?_))));refine A3 rfl (Bg [0] rfl (.cons _ _ _ _ _ rfl (A7 _) .nil) (by decide) (.cons _ _ _ _ _ rfl rfl .nil) (pF w hs htb htn h19) ?_);rintro r bc tc ⟨rfl,rfl,rfl⟩;refine⟨rfl,_,LT ((F8 w).1),?_⟩;refine B8 (h:=?_);refine AU (r:= .v (.int .i64 (BR w).2)) none (h4:=(by simp[AW,AQ,AP,BC,WN,Cn,Ai,Am,AY])) (h5:=(by rw[hact];exact A7 _)) (h6:=⟨rfl,rfl,?_⟩);rw[hact];rfl
end
theorem pJ(w:Wrk):(Fp w).1.r.items.length=w.r.items.length:=by
 unfold Fp
 repeat' split
 all_goals first|rfl|exact(U8 _ _ _).trans (OD _ _)
theorem pK(w:Wrk)(R:Ex):(Jy w R).1.r.items.length=w.r.items.length:=by
 unfold Jy;split
 ·rfl
 exact(Ya _ _ _).trans (OD _ _)
theorem pL(w:Wrk):(Em w).1.r.items.length=w.r.items.length:=by
 unfold Em
 repeat' split
 all_goals first|rfl|exact pK _ _
theorem pM(w:Wrk):(GB w).1.r.items.length=w.r.items.length:=by
 unfold GB LM
 repeat' split
 all_goals first|rfl|exact OD _ _
theorem pN(w:Wrk)(R:Spc×Int):(LN w R).1.r.items.length=w.r.items.length:=by
 unfold LN;split<;>rfl
theorem pO(w:Wrk):(Dv w).1.r.items.length=w.r.items.length:=by
 unfold Dv
 repeat' split
 all_goals first|rfl|exact RR _ _|exact pN _ _
theorem pP(w:Wrk):(GC w).1.r.items.length=w.r.items.length:=by
 unfold GC
 repeat' split
 all_goals first|rfl|exact U9 _ _ _
theorem pQ(w:Wrk)(R:Spc×Int):(LO w R).1.r.items.length=w.r.items.length:=by
 unfold LO;split<;>rfl
theorem pR(w:Wrk):(H5 w).1.r.items.length=w.r.items.length:=by
 unfold H5
 repeat' split
 all_goals first|rfl|exact pQ _ _
theorem pS(w:Wrk):(F8 w).1.r.items.length=w.r.items.length:=by
 unfold F8
 repeat' split
 all_goals first|rfl|exact pR _|exact RR _ _|exact RR (O9 w _) _
theorem UJ(w:Wrk):(BR w).1.r.items.length=w.r.items.length:=by
 unfold BR
 repeat' split
 all_goals first|exact lU _|exact pJ _|exact pL _|exact lW _|exact pM _|exact pO _|exact pP _|exact pS _
theorem ZG{n:Int}(h:0<(Bv n).2.2.1):(n=1∨n=6∨n=8∨n=9∨n=10∨n=11∨n=12∨n=13∨n=14∨n=15∨n=16∨n=17∨n=21)∧((n=8∨n=13)→(Bv n).2.2.1=2)∧(¬(n=8∨n=13)→(Bv n).2.2.1=1):=by
 unfold Bv at h ⊢;split at h
 ·exact absurd h (by decide)
 rename_i c;rw[if_neg c];obtain⟨m,rfl⟩:=Int.eq_ofNat_of_zero_le (show 0≤n by omega);have hm:m<22:=by omega
 have k1:∀m,m<22→0<((FY[m]?).getD (⟨#[]⟩,0,0,0,0)).2.2.1→m∈[1,6,8,9,10,11,12,13,14,15,16,17,21]:=by decide
 have k2:∀m,m<22→m∈[8,13]→((FY[m]?).getD (⟨#[]⟩,0,0,0,0)).2.2.1=2:=by decide
 have k3:∀m,m<22→0<((FY[m]?).getD (⟨#[]⟩,0,0,0,0)).2.2.1→m∉[8,13]→((FY[m]?).getD (⟨#[]⟩,0,0,0,0)).2.2.1=1:=by decide
 have k1:=k1 m hm h;have k2:=k2 m hm;have k3:=k3 m hm h;simp only[List.mem_cons,List.not_mem_nil,or_false]at k1 k2 k3;exact⟨by omega,fun q=>k2 (by omega),fun q=>k3 (by omega)⟩
theorem ZH{n:Int}(h:(Bv n).2.2.1=0):n≠1∧n≠6∧n≠8∧n≠9∧n≠10∧n≠11∧n≠12∧n≠13∧n≠14∧n≠15∧n≠16∧n≠17∧n≠21:=by
 refine⟨?_,?_,?_,?_,?_,?_,?_,?_,?_,?_,?_,?_,?_⟩<;>(rintro rfl;revert h;decide)
theorem pT(n:Int):0<(Bv n).2.2.1∨(Bv n).2.2.1=0:=by
 unfold Bv;split
 ·exact .inr rfl
 rename_i c;obtain⟨m,rfl⟩:=Int.eq_ofNat_of_zero_le (show 0≤n by omega);have hm:m<22:=by omega
 have key:∀m,m<22→0<((FY[m]?).getD (⟨#[]⟩,0,0,0,0)).2.2.1∨((FY[m]?).getD (⟨#[]⟩,0,0,0,0)).2.2.1=0:=by decide
 exact key m hm
theorem pU{c:Cal}(h:0<(Bv c.num).2.2.1):((D6 c).length:Int)=(Bv c.num).2.2.1:=by
 obtain⟨k1,k2,k3⟩:=ZG h;by_cases c2:c.num=8∨c.num=13
 ·rw[k2 c2];rcases c2 with q|q<;>simp[D6,q]
 rw[k3 c2];rcases k1 with q|q|q|q|q|q|q|q|q|q|q|q|q<;>first|(exfalso;omega)|simp[D6,q]
theorem pV{c0 c1 c2 c3 c4 c5:List AV}(w:Wrk):Back [c0,c1,c2,c3,c4,c5] [5] [WN w] [c0,c1,c2,c3,c4,WN w]:=by
 have:=PP (bx:=[c0,c1,c2,c3,c4,c5]) (is:=[5]) (bc:=[WN w]) (by simp) (by simp) (by simp)
 have hb:Dw [c0,c1,c2,c3,c4,c5] (Ee [5] [c0,c1,c2,c3,c4,c5].length) [5] [WN w]=[c0,c1,c2,c3,c4,WN w]:=by
  unfold Dw;unfold Dw;rfl
 rw[hb]at this;exact this
section
theorem pW(w:Wrk)(cap:Nat)(hv:SpcV w.s.spc)(hm:w.s.spc.mounts.length≤1000)(htb:TabB w.s.tab)(hnm:∀f∈w.found,f.name.size≤12)(h1:1≤w.found.length)(h1i:1≤w.r.items.length)(h2:w.c.num=8∨w.c.num=13→2≤w.found.length∧2≤w.r.items.length)(hin:w.c.num=1∨w.c.num=6∨w.c.num=8∨w.c.num=9∨w.c.num=10∨w.c.num=11∨w.c.num=12∨w.c.num=13∨w.c.num=14∨w.c.num=15∨w.c.num=16∨w.c.num=17∨w.c.num=21)(h9:w.c.num=9→0<w.c.args.length)(hsz:∀p∈w.c.args,p.size≤1000):ACall prog 98 [.bp 0 0] [WA w cap,IB w cap] (fun r b t=>t=[]∧r= .v (.int .i64 (BR w).2)∧b=[WA (BR w).1 cap,IB (BR w).1 cap]):=by
 have hps:w.s.tab.ps.length≤1000:=by have:=htb.few;omega
 refine enter Tryz.func98 rfl rfl rfl rfl rfl 2 rfl ?_;refine w_ (Bn (h:=Dg (h:=e_ (BK (Ar (h:=?_))))));refine A4 rfl (fun hb1 hc1=>?_) (fun hb1 hc1=>?_)
 ·obtain⟨f,hf⟩:∃f,w.found[0]?=some f:=⟨_,B2 (by omega)⟩;obtain⟨x,hx⟩:∃x,w.r.items[0]?=some x:=⟨_,B2 (by omega)⟩;have hact:BR w=Ck w:=by simp[BR,hc1]
  refine AX (h:=?_);refine A3 rfl (Bg [0,1] rfl (.cons _ _ _ _ _ rfl (A7 _) .nil) (by decide) (.cons _ _ _ _ _ rfl rfl (.cons _ _ _ _ _ rfl (Db B1 _ _ _) .nil)) (lM w cap f x hv hm htb hf hx (by have:=hnm f (Aj hf);omega)) ?_);rintro r bc tc ⟨rfl,rfl,rfl⟩;refine⟨rfl,_,E3 rfl ((Ck w).1) cap,?_⟩;refine BA (h:=?_);refine BS (r:= .v (.int .i64 (BR w).2)) none (h5:=(by rw[hact];exact A7 _)) (h6:=⟨rfl,rfl,?_⟩);rw[hact];rfl
 refine Ar (h:=?_);refine A4 rfl (fun hb2 hc2=>?_) (fun hb2 hc2=>?_)
 ·obtain⟨f,hf⟩:∃f,w.found[0]?=some f:=⟨_,B2 (by omega)⟩;obtain⟨x,hx⟩:∃x,w.r.items[0]?=some x:=⟨_,B2 (by omega)⟩;obtain⟨g,hg⟩:∃f,w.found[1]?=some f:=⟨_,B2 (h2 (by omega)).1⟩;obtain⟨x1,hx1⟩:∃x,w.r.items[1]?=some x:=⟨_,B2 (h2 (by omega)).2⟩;have hact:BR w=Fp w:=by simp[BR,hc2]
  refine AX (h:=?_);refine A3 rfl (Bg [0,1] rfl (.cons _ _ _ _ _ rfl (A7 _) .nil) (by decide) (.cons _ _ _ _ _ rfl rfl (.cons _ _ _ _ _ rfl (Db B1 _ _ _) .nil)) (oS w cap f g x1 hv hm hf hg hx1 (by have:=hnm g (Aj hg);omega)) ?_);rintro r bc tc ⟨rfl,rfl,rfl⟩;refine⟨rfl,_,E3 rfl ((Fp w).1) cap,?_⟩;refine BA (h:=?_);refine BS (r:= .v (.int .i64 (BR w).2)) none (h5:=(by rw[hact];exact A7 _)) (h6:=⟨rfl,rfl,?_⟩);rw[hact];rfl
 refine q_ (Ar (h:=?_));refine A4 rfl (fun hb3 hc3=>?_) (fun hb3 hc3=>?_)
 ·obtain⟨f,hf⟩:∃f,w.found[0]?=some f:=⟨_,B2 (by omega)⟩;obtain⟨x,hx⟩:∃x,w.r.items[0]?=some x:=⟨_,B2 (by omega)⟩;have hact:BR w=Em w:=by simp[BR,hc3]
  refine AF (CX (h:=AX (h:=?_)));refine A3 rfl (Bg [0,1] rfl (.cons _ _ _ _ _ rfl (A7 _) .nil) (by decide) (.cons _ _ _ _ _ rfl rfl (.cons _ _ _ _ _ rfl (Db B1 _ _ _) .nil)) (ZB w cap f x hv hm hps hf hx (by have:=hnm f (Aj hf);omega)) ?_);rintro r bc tc ⟨rfl,rfl,rfl⟩;refine⟨rfl,_,E3 rfl ((Em w).1) cap,?_⟩;refine BA (h:=?_);refine BS (r:= .v (.int .i64 (BR w).2)) none (h5:=(by rw[hact];exact A7 _)) (h6:=⟨rfl,rfl,?_⟩);rw[hact];rfl
 refine Aw (EW (h:=?_));refine A4 rfl (fun hb4 hc4=>?_) (fun hb4 hc4=>?_)
 ·obtain⟨f,hf⟩:∃f,w.found[0]?=some f:=⟨_,B2 (by omega)⟩;obtain⟨x,hx⟩:∃x,w.r.items[0]?=some x:=⟨_,B2 (by omega)⟩;have hact:BR w=Em w:=by simp[BR,hc4]
  refine AX (h:=?_);refine A3 rfl (Bg [0,1] rfl (.cons _ _ _ _ _ rfl (A7 _) .nil) (by decide) (.cons _ _ _ _ _ rfl rfl (.cons _ _ _ _ _ rfl (Db B1 _ _ _) .nil)) (ZB w cap f x hv hm hps hf hx (by have:=hnm f (Aj hf);omega)) ?_);rintro r bc tc ⟨rfl,rfl,rfl⟩;refine⟨rfl,_,E3 rfl ((Em w).1) cap,?_⟩;refine BA (h:=?_);refine BS (r:= .v (.int .i64 (BR w).2)) none (h5:=(by rw[hact];exact A7 _)) (h6:=⟨rfl,rfl,?_⟩);rw[hact];rfl
 refine Ar (h:=?_);refine A4 rfl (fun hb5 hc5=>?_) (fun hb5 hc5=>?_)
 ·obtain⟨f,hf⟩:∃f,w.found[0]?=some f:=⟨_,B2 (by omega)⟩;obtain⟨x,hx⟩:∃x,w.r.items[0]?=some x:=⟨_,B2 (by omega)⟩;obtain⟨g,hg⟩:∃f,w.found[1]?=some f:=⟨_,B2 (h2 (by omega)).1⟩;obtain⟨x1,hx1⟩:∃x,w.r.items[1]?=some x:=⟨_,B2 (h2 (by omega)).2⟩;have hact:BR w=Fq w:=by simp[BR,hc5]
  refine AX (h:=?_);refine A3 rfl (Bg [0,1] rfl (.cons _ _ _ _ _ rfl (A7 _) .nil) (by decide) (.cons _ _ _ _ _ rfl rfl (.cons _ _ _ _ _ rfl (Db B1 _ _ _) .nil)) (lN w cap f g x x1 hv hm hps hf hg hx hx1 (by have:=hnm f (Aj hf);omega) (by have:=hnm g (Aj hg);omega)) ?_);rintro r bc tc ⟨rfl,rfl,rfl⟩;refine⟨rfl,_,E3 rfl ((Fq w).1) cap,?_⟩;refine BA (h:=?_);refine BS (r:= .v (.int .i64 (BR w).2)) none (h5:=(by rw[hact];exact A7 _)) (h6:=⟨rfl,rfl,?_⟩);rw[hact];rfl
 refine q_ (Ar (h:=?_));refine A4 rfl (fun hb6 hc6=>?_) (fun hb6 hc6=>?_)
 ·obtain⟨f,hf⟩:∃f,w.found[0]?=some f:=⟨_,B2 (by omega)⟩;obtain⟨x,hx⟩:∃x,w.r.items[0]?=some x:=⟨_,B2 (by omega)⟩;have hact:BR w=GB w:=by simp[BR,hc6]
  refine AF (CX (h:=AX (h:=?_)));refine A3 rfl (Bg [0,1] rfl (.cons _ _ _ _ _ rfl (A7 _) .nil) (by decide) (.cons _ _ _ _ _ rfl rfl (.cons _ _ _ _ _ rfl (Db B1 _ _ _) .nil)) (ZC w cap f hv hm hf) ?_);rintro r bc tc ⟨rfl,rfl,rfl⟩;refine⟨rfl,_,E3 rfl ((GB w).1) cap,?_⟩;refine BA (h:=?_);refine BS (r:= .v (.int .i64 (BR w).2)) none (h5:=(by rw[hact];exact A7 _)) (h6:=⟨rfl,rfl,?_⟩);rw[hact];rfl
 refine Aw (EW (h:=?_));refine A4 rfl (fun hb7 hc7=>?_) (fun hb7 hc7=>?_)
 ·obtain⟨f,hf⟩:∃f,w.found[0]?=some f:=⟨_,B2 (by omega)⟩;obtain⟨x,hx⟩:∃x,w.r.items[0]?=some x:=⟨_,B2 (by omega)⟩;have hact:BR w=GB w:=by simp[BR,hc7]
  refine AX (h:=?_);refine A3 rfl (Bg [0,1] rfl (.cons _ _ _ _ _ rfl (A7 _) .nil) (by decide) (.cons _ _ _ _ _ rfl rfl (.cons _ _ _ _ _ rfl (Db B1 _ _ _) .nil)) (ZC w cap f hv hm hf) ?_);rintro r bc tc ⟨rfl,rfl,rfl⟩;refine⟨rfl,_,E3 rfl ((GB w).1) cap,?_⟩;refine BA (h:=?_);refine BS (r:= .v (.int .i64 (BR w).2)) none (h5:=(by rw[hact];exact A7 _)) (h6:=⟨rfl,rfl,?_⟩);rw[hact];rfl
 refine q_ (Ar (h:=?_));refine A4 rfl (fun hb8 hc8=>?_) (fun hb8 hc8=>?_)
 ·obtain⟨f,hf⟩:∃f,w.found[0]?=some f:=⟨_,B2 (by omega)⟩;obtain⟨x,hx⟩:∃x,w.r.items[0]?=some x:=⟨_,B2 (by omega)⟩;have hact:BR w=Dv w:=by simp[BR,hc8]
  refine AF (CX (h:=AX (h:=?_)));refine A3 rfl (Bg [0,1] rfl (.cons _ _ _ _ _ rfl (A7 _) .nil) (by decide) (.cons _ _ _ _ _ rfl rfl (.cons _ _ _ _ _ rfl (Db B1 _ _ _) .nil)) (Rf w cap f hv hm htb hf) ?_);rintro r bc tc ⟨rfl,rfl,rfl⟩;refine⟨rfl,_,E3 rfl ((Dv w).1) cap,?_⟩;refine BA (h:=?_);refine BS (r:= .v (.int .i64 (BR w).2)) none (h5:=(by rw[hact];exact A7 _)) (h6:=⟨rfl,rfl,?_⟩);rw[hact];rfl
 refine Ar (h:=?_);refine A4 rfl (fun hb9 hc9=>?_) (fun hb9 hc9=>?_)
 ·obtain⟨f,hf⟩:∃f,w.found[0]?=some f:=⟨_,B2 (by omega)⟩;obtain⟨x,hx⟩:∃x,w.r.items[0]?=some x:=⟨_,B2 (by omega)⟩;have hact:BR w=Dv w:=by simp[BR,hc9]
  refine AF (CX (h:=AX (h:=?_)));refine A3 rfl (Bg [0,1] rfl (.cons _ _ _ _ _ rfl (A7 _) .nil) (by decide) (.cons _ _ _ _ _ rfl rfl (.cons _ _ _ _ _ rfl (Db B1 _ _ _) .nil)) (Rf w cap f hv hm htb hf) ?_);rintro r bc tc ⟨rfl,rfl,rfl⟩;refine⟨rfl,_,E3 rfl ((Dv w).1) cap,?_⟩;refine BA (h:=?_);refine BS (r:= .v (.int .i64 (BR w).2)) none (h5:=(by rw[hact];exact A7 _)) (h6:=⟨rfl,rfl,?_⟩);rw[hact];rfl
 refine Ar (h:=?_);refine A4 rfl (fun hb10 hc10=>?_) (fun hb10 hc10=>?_)
 ·obtain⟨f,hf⟩:∃f,w.found[0]?=some f:=⟨_,B2 (by omega)⟩;obtain⟨x,hx⟩:∃x,w.r.items[0]?=some x:=⟨_,B2 (by omega)⟩;have hact:BR w=Dv w:=by simp[BR,hc10]
  refine AF (CX (h:=AX (h:=?_)));refine A3 rfl (Bg [0,1] rfl (.cons _ _ _ _ _ rfl (A7 _) .nil) (by decide) (.cons _ _ _ _ _ rfl rfl (.cons _ _ _ _ _ rfl (Db B1 _ _ _) .nil)) (Rf w cap f hv hm htb hf) ?_);rintro r bc tc ⟨rfl,rfl,rfl⟩;refine⟨rfl,_,E3 rfl ((Dv w).1) cap,?_⟩;refine BA (h:=?_);refine BS (r:= .v (.int .i64 (BR w).2)) none (h5:=(by rw[hact];exact A7 _)) (h6:=⟨rfl,rfl,?_⟩);rw[hact];rfl
 refine Aw (EW (h:=?_));refine A4 rfl (fun hb11 hc11=>?_) (fun hb11 hc11=>?_)
 ·obtain⟨f,hf⟩:∃f,w.found[0]?=some f:=⟨_,B2 (by omega)⟩;obtain⟨x,hx⟩:∃x,w.r.items[0]?=some x:=⟨_,B2 (by omega)⟩;have hact:BR w=Dv w:=by simp[BR,hc11]
  refine AX (h:=?_);refine A3 rfl (Bg [0,1] rfl (.cons _ _ _ _ _ rfl (A7 _) .nil) (by decide) (.cons _ _ _ _ _ rfl rfl (.cons _ _ _ _ _ rfl (Db B1 _ _ _) .nil)) (Rf w cap f hv hm htb hf) ?_);rintro r bc tc ⟨rfl,rfl,rfl⟩;refine⟨rfl,_,E3 rfl ((Dv w).1) cap,?_⟩;refine BA (h:=?_);refine BS (r:= .v (.int .i64 (BR w).2)) none (h5:=(by rw[hact];exact A7 _)) (h6:=⟨rfl,rfl,?_⟩);rw[hact];rfl
 refine q_ (Ar (h:=?_));refine A4 rfl (fun hb12 hc12=>?_) (fun hb12 hc12=>?_)
 ·obtain⟨f,hf⟩:∃f,w.found[0]?=some f:=⟨_,B2 (by omega)⟩;obtain⟨x,hx⟩:∃x,w.r.items[0]?=some x:=⟨_,B2 (by omega)⟩;have hact:BR w=GC w:=by simp[BR,hc12]
  refine AF (CX (h:=AX (h:=?_)));refine A3 rfl (Bg [0,1] rfl (.cons _ _ _ _ _ rfl (A7 _) .nil) (by decide) (.cons _ _ _ _ _ rfl rfl (.cons _ _ _ _ _ rfl (Db B1 _ _ _) .nil)) (ZF w cap f x hv hm hf hx (by have:=hnm f (Aj hf);omega) h9 hsz) ?_);rintro r bc tc ⟨rfl,rfl,rfl⟩;refine⟨rfl,_,E3 rfl ((GC w).1) cap,?_⟩;refine BA (h:=?_);refine BS (r:= .v (.int .i64 (BR w).2)) none (h5:=(by rw[hact];exact A7 _)) (h6:=⟨rfl,rfl,?_⟩);rw[hact];rfl
 refine Aw (EW (h:=?_));refine A4 rfl (fun hb13 hc13=>?_) (fun hb13 hc13=>?_)
 ·obtain⟨f,hf⟩:∃f,w.found[0]?=some f:=⟨_,B2 (by omega)⟩;obtain⟨x,hx⟩:∃x,w.r.items[0]?=some x:=⟨_,B2 (by omega)⟩;have hact:BR w=GC w:=by simp[BR,hc13]
  refine AX (h:=?_);refine A3 rfl (Bg [0,1] rfl (.cons _ _ _ _ _ rfl (A7 _) .nil) (by decide) (.cons _ _ _ _ _ rfl rfl (.cons _ _ _ _ _ rfl (Db B1 _ _ _) .nil)) (ZF w cap f x hv hm hf hx (by have:=hnm f (Aj hf);omega) h9 hsz) ?_);rintro r bc tc ⟨rfl,rfl,rfl⟩;refine⟨rfl,_,E3 rfl ((GC w).1) cap,?_⟩;refine BA (h:=?_);refine BS (r:= .v (.int .i64 (BR w).2)) none (h5:=(by rw[hact];exact A7 _)) (h6:=⟨rfl,rfl,?_⟩);rw[hact];rfl
 exact Df
theorem pX(s:Syst)(pid:Int)(c:Cal)(hv:SpcV s.spc)(hm:s.spc.mounts.length≤1000)(ht:TabB s.tab)(hcp:c.paths.length≤1000)(hca:c.args.length≤1000)(h6:0<(Bv c.num).2.2.1):AFn prog 49 [.agg (CP s), .v (.int .i64 pid), .agg (FM c)] (fun r=>r=NH (Cx s pid c)):=by
 have hsb:=hv.b hm;obtain⟨W1,hW1⟩:∃W,W=Jz s pid c:=⟨_,rfl⟩;have hwf:=YX s pid c;rw[←hW1]at hwf;have hWs:W1.s=s:=by rw[hW1];rfl
 have hWc:W1.c=c:=by rw[hW1];rfl
 refine enter Tryz.func49 rfl rfl rfl rfl rfl 0 rfl ?_;refine Ff (h:=CY (h:=e_ (B0 (h:=m_ (h:=?_)))));refine A3 rfl (A8 (K2 s.tab pid ht) ?_);rintro r rfl;refine Gr (h:=?_);refine A4 rfl (fun hb1 hc1=>?_) (fun hb1 hc1=>?_)
 ·have hno:CG s.tab pid=false:=by simpa using hc1
  refine C5 (h:=?_);refine A3 rfl (A8 (Mc s hsb ht) ?_);rintro r rfl;refine A3 rfl (Gi (y:= .agg (K1 {GT with exit:= -4})) (Dn ⟨rfl,rfl⟩) ?_);refine s_ (h:=s_ (h:=e_ (B5 (Ba (?_)))));refine A6 ?_;rw[Cx,if_pos hno];rfl
 have hno:¬CG s.tab pid=false:=by simpa using hc1
 refine FD (h:=C5 (h:=?_));refine A3 rfl (A8 (Y1 c hcp hca) ?_);rintro r rfl;refine Bo (h:=?_);refine A4 rfl (fun hb2 hc2=>?_) (fun hb2 hc2=>?_)
 ·have hck:Bl c≠0:=by simpa using hc2
  refine C5 (h:=?_);refine A3 rfl (A8 (Mc s hsb ht) ?_);rintro r rfl;refine A3 rfl (Gi (y:= .agg (K1 {GT with exit:= -22})) (Dn ⟨rfl,rfl⟩) ?_);refine s_ (h:=s_ (h:=e_ (B5 (Ba (?_)))));refine A6 ?_;rw[Cx,if_neg hno,if_pos hck];rfl
 have hck:Bl c=0:=by simpa using hc2
 obtain⟨hk1,hk2,hk3,hk4,hk5⟩:=YW hck;have hargs:∀p∈(Dk s pid c).c.args,p.size≤1000:=fun p hp=>by have:=hk5 p hp;omega
 have hpaths:∀p∈(Dk s pid c).c.paths,p.size≤100000:=fun p hp=>by have:=hk4 p hp;omega
 obtain⟨hp1,hp2,hp3⟩:=ZG h6;have hp4:=pU h6;have h9:c.num=9→0<c.args.length:=fun q=>by rw[q]at hk2;have:(Bv 9).2.2.2.1=1:=rfl;omega
 have hpp:(Dk s pid c).c.paths.length=(D6 (Dk s pid c).c).length:=by show c.paths.length=(D6 c).length;omega
 have hp0:0<(Dk s pid c).c.paths.length:=by show 0<c.paths.length;omega
 have hzl:(c.paths.zip (D6 c)).length=c.paths.length:=by rw[List.length_zip];omega
 have hil0:0<W1.r.items.length:=by rw[hwf.2.2,hzl];omega
 refine AF (q_ (BO ([(0,CP s),(1,FM c),(4,Am (AN s.tab pid))]) 7 (h:=?_)));refine A9 0 (h:=?_);refine A9 2 (h:=?_);refine A9 3 (h:=?_);refine c_ 1 rfl (A8 (Mc s hsb ht) ?_);rintro r rfl;refine o_ (h:=?_);refine By 4 rfl (fun _ hS=>H7 (y:= .agg (Da (Dk s pid c) (.v (.slice none 0 0)) (.v (.slice none 0 0)))) (Dn ⟨rfl,rfl⟩) (YZ s pid c) ⟨rfl,rfl⟩) ?_;refine c_ 5 rfl (QM rfl rfl (by repeat constructor) ?_);refine o_ (h:=BB 6 (h:=z_ (h:=t_ (?_))));refine B9 (fun S=>∃cap,W1.r.items.length≤cap∧S=⟨look [(3, .bp 2 0),(6, .bp 3 0),(7, .bp 4 0),(10, .bp 0 0),(11, .v (.int .i64 (GW s (AN s.tab pid) c).2.2))],⟨[WA W1 cap,IB W1 cap,CP s,K3,Ky],[]⟩⟩) ?_ ?_
 ·skip
  refine EQ (h:=?_);refine A3 rfl (Dm 1 rfl (.cons _ _ _ _ _ rfl (LeA.of_eq rfl) .nil) (YY (Dk s pid c) (.v (.slice none 0 0)) (.v (.slice none 0 0)) h9 hargs) ?_);rintro r rfl;refine⟨rfl,?_⟩;refine A3 rfl (Bg [5] rfl (.cons _ _ _ _ _ rfl (A7 _) (.cons _ _ _ _ _ rfl (A7 _) .nil)) (by decide) (.cons _ _ _ _ _ rfl rfl .nil) (lH (Dk s pid c) (DD (AN s.tab pid) c) hv hm hpp (by show c.paths.length≤1000;omega) hp0 hpaths) ?_);rintro r bc tc ⟨rfl,cap,hcap,rfl,rfl⟩;refine⟨rfl,_,lS (Dk s pid c) _ _ cap _,?_⟩;refine Ch (h:=?_);rw[hW1];exact⟨_,⟨cap,hcap,rfl⟩,GE [5,6,0,2,3] (fun i hi=>absurd hi (Nat.not_lt_zero i)) (by decide) (.cons _ _ _ _ _ rfl rfl (.cons _ _ _ _ _ rfl (Lq B1 _ _ _) (.cons _ _ _ _ _ rfl rfl (.cons _ _ _ _ _ rfl rfl (.cons _ _ _ _ _ rfl rfl .nil))))) (by repeat (first|exact SubK.nil|refine SubK.cons _ _ _ _ rfl (A7 _) ?_))⟩
 rintro S ⟨cap,hcap,rfl⟩;refine AX (h:=Dg (h:=?_));refine A3 rfl (Qe rfl rfl (SrcA.bs 1 0 _ cap _ rfl (by rw[show IB W1 cap=LB 13 CV W1.r.items cap from rfl,RN B1 hcap];omega)) hil0 (by rw[hwf.2.2,hzl];omega) ?_);rintro cap2 k bx2 hcp2 hs;rw[show((IB W1 cap).drop 0).take (W1.r.items.length * 13)++List.replicate ((cap2 - W1.r.items.length) * 13) AV.any=LB 13 CV W1.r.items cap2 from lT B1 _ cap cap2]at hs;obtain⟨rfl,rfl⟩:k=5∧bx2=[_,_,_,_,_,_]:=hs.eq;refine B4 (h:=?_);refine B9 (fun S=>∃(W2:Wrk) (E2:Int),((¬(GW s (AN s.tab pid) c).2.2=0∧E2=(GW s (AN s.tab pid) c).2.2)∨((GW s (AN s.tab pid) c).2.2=0∧W2=(BR W1).1∧E2=(BR W1).2))∧S=⟨look [(3, .bp 2 0),(6, .bp 3 0),(7, .bp 4 0),(10, .bp 0 0),(11, .v (.int .i64 E2)),(12, .bs 5 0 13 W1.r.items.length cap2)],⟨[WA W2 cap,IB W2 cap,CP s,K3,Ky,LB 13 CV W1.r.items cap2],[]⟩⟩) ?_ ?_
 ·skip
  refine AX (h:=BN (h:=?_));refine A4 rfl (fun hb3 hc3=>?_) (fun hb3 hc3=>?_)
  ·have he1:(GW s (AN s.tab pid) c).2.2=0:=by simpa using hc3
   refine Bt (h:=?_);refine A3 rfl (Bg [0,1] rfl (.cons _ _ _ _ _ rfl (A7 _) .nil) (by decide) (.cons _ _ _ _ _ rfl rfl (.cons _ _ _ _ _ rfl (Db B1 _ _ _) .nil)) (pW W1 cap (by rw[hWs];exact hv) (by rw[hWs];exact hm) (by rw[hWs];exact ht) hwf.1 (by rw[hwf.2.1,hzl];omega) (by rw[hwf.2.2,hzl];omega) (by rw[hWc,hwf.2.1,hwf.2.2,hzl];omega) (by rw[hWc];exact hp1) (by rw[hWc];exact h9) (by rw[hWc];exact hargs)) ?_);rintro r bc tc ⟨rfl,rfl,rfl⟩;refine⟨rfl,_,E3 rfl (BR W1).1 cap,?_⟩;refine Ch (h:=?_);exact⟨_,⟨(BR W1).1,(BR W1).2, .inr ⟨he1,rfl,rfl⟩,rfl⟩,Ao 6 0 rfl rfl rfl (by simp[AW,AQ,AP,Bm B1,BC,WA,IB,Cl,CP,K3,Ky]) ((by repeat (first|exact Sub.nil|refine Ap rfl rfl ?_|refine At ?_|refine Au rfl ?_|refine Av rfl ?_)))⟩
  have he1:¬(GW s (AN s.tab pid) c).2.2=0:=by simpa using hc3
  refine BD (AT (?_))
  first|exact⟨_,⟨(BR W1).1,(BR W1).2, .inr ⟨he1,rfl,rfl⟩,rfl⟩,Ao 6 0 rfl rfl rfl (by simp[AW,AQ,AP,Bm B1,BC,WA,IB,Cl,CP,K3,Ky]) ((by repeat (first|exact Sub.nil|refine Ap rfl rfl ?_|refine At ?_|refine Au rfl ?_|refine Av rfl ?_)))⟩|exact⟨_,⟨W1,_, .inl ⟨he1,rfl⟩,rfl⟩,Ao 6 0 rfl rfl rfl (by simp[AW,AQ,AP,Bm B1,BC,WA,IB,Cl,CP,K3,Ky]) ((by repeat (first|exact Sub.nil|refine Ap rfl rfl ?_|refine At ?_|refine Au rfl ?_|refine Av rfl ?_)))⟩
 rintro S ⟨W2,E2,hQ,rfl⟩;refine Bk (h:=Bo (h:=?_));refine A4 rfl (fun hb4 hc4=>?_) (fun hb4 hc4=>?_)
 ·have he2:E2≠0:=by simpa using hc4
  have hrun:Cx s pid c=(s,{GT with exit:=KW E2,items:=W1.r.items}):=by
   rw[Cx,if_neg hno,if_neg (by simp[hck])];rcases hQ with⟨q1,q2⟩|⟨q1,q2,q3⟩
   ·rw[if_pos q1,←q2,hW1];rfl
   rw[if_neg (by simp[q1]),←hW1,←q3,if_pos he2,hW1];rfl
  refine B9 (fun S=>S=⟨look [(6, .bp 0 0),(7, .bp 1 0)],⟨[CP s,NJ {GT with exit:=KW E2} (.sl 13 (W1.r.items.map CV) none)],[]⟩⟩) ?_ ?_
  ·skip
   refine Aw (l_ (h:=?_));refine A3 rfl (A8 (Mc s hsb ht) ?_);rintro r rfl;refine m_ (h:=?_);refine A3 rfl (Yc rfl ?_);refine m_ (h:=?_);refine A3 rfl (Gi (y:= .agg (NJ {GT with exit:=KW E2} (.bs 5 0 13 W1.r.items.length cap2))) (Dn ⟨rfl,rfl⟩) ?_);refine s_ (h:=s_ (h:=DC (h:=?_)));refine⟨_,rfl,(GE [3,4,5] (rows:=[CP s,NJ {GT with exit:=KW E2} (.bs 2 0 13 W1.r.items.length cap2),LB 13 CV W1.r.items cap2]) (l:=[(6, .bp 0 0),(7, .bp 1 0)]) (fun i hi=>absurd hi (Nat.not_lt_zero i)) (by decide) (.cons _ _ _ _ _ rfl rfl (.cons _ _ _ _ _ rfl rfl (.cons _ _ _ _ _ rfl (Lq B1 _ _ _) .nil))) (by repeat (first|exact SubK.nil|refine SubK.cons _ _ _ _ rfl (A7 _) ?_))).trans (H8 2 1 rfl (congrArg (fun x=>[CP s,NJ {GT with exit:=KW E2} x]) (OA B1 rfl rfl hcp2)) (.cons _ _ _ _ rfl (A7 _) (.cons _ _ _ _ rfl (A7 _) .nil)))⟩
  rintro S rfl;refine B5 (Ba (?_));refine AU (r:=NH (Cx s pid c)) none (h5:=(by rw[hrun];exact(by repeat (first|exact A7 _|exact LeA.nil _|exact LeL.refl _|refine LeA.agg ?_|refine LeA.tup ?_|exact LeL.nil|refine LeL.cons ?_ ?_|exact LeA.any _)))) (h6:=⟨rfl,rfl,rfl⟩)
 have he2:E2=0:=by simpa using hc4
 have hlen2:W2.r.items.length≤cap:=by
  rcases hQ with⟨q1,q2⟩|⟨q1,q2,q3⟩
  ·exact absurd (q2.symm.trans he2) q1
  rw[q2,UJ];exact hcap
 have hrun:Cx s pid c=(W2.s,W2.r):=by
  rcases hQ with⟨q1,q2⟩|⟨q1,q2,q3⟩
  ·exact absurd (q2.symm.trans he2) q1
  rw[Cx,if_neg hno,if_neg (by simp[hck]),if_neg (by simp[q1]),←hW1,←q3,if_neg (by simp[he2]),q2]
 refine AF (?_);refine B9 (fun S=>S=⟨look [(6, .bp 0 0),(7, .bp 1 0)],⟨[CP W2.s,NJ W2.r (.sl 13 (W2.r.items.map CV) none)],[]⟩⟩) ?_ ?_
 ·skip
  refine BO ([(0,WA W2 cap)]) 10 (h:=AG 0 (h:=BJ 1 (h:=AD 2 (h:=A9 3 (h:=AG 4 (h:=BJ 5 (h:=AD 6 (h:=A9 7 (h:=?_)))))))));refine B6 8 (h:=?_);refine B6 9 (h:=z_ (h:=?_));refine AT ?_;refine⟨_,rfl,(GE [3,4,1] (rows:=[CP W2.s,NJ W2.r (.bs 2 0 13 W2.r.items.length cap),LB 13 CV W2.r.items cap]) (l:=[(6, .bp 0 0),(7, .bp 1 0)]) (fun i hi=>absurd hi (Nat.not_lt_zero i)) (by decide) (.cons _ _ _ _ _ rfl rfl (.cons _ _ _ _ _ rfl rfl (.cons _ _ _ _ _ rfl (Lq B1 _ _ _) .nil))) (by repeat (first|exact SubK.nil|refine SubK.cons _ _ _ _ rfl (A7 _) ?_))).trans (H8 2 1 rfl (congrArg (fun x=>[CP W2.s,NJ W2.r x]) (OA B1 rfl rfl hlen2)) (.cons _ _ _ _ rfl (A7 _) (.cons _ _ _ _ rfl (A7 _) .nil)))⟩
 rintro S rfl;refine B5 (?_);refine A6 ?_;rw[hrun];rfl
theorem pY{s:Syst}{p:Prc}{c:Cal}(h:c.paths=[]):GW s p c=([],[],DD p c):=by
 unfold GW LJ;rw[h];rfl
theorem pZ(s:Syst)(pid:Int)(c:Cal)(hv:SpcV s.spc)(hm:s.spc.mounts.length≤1000)(ht:TabB s.tab)(htn:DW s.tab)(hcp:c.paths.length≤1000)(hca:c.args.length≤1000)(h6:(Bv c.num).2.2.1=0):AFn prog 49 [.agg (CP s), .v (.int .i64 pid), .agg (FM c)] (fun r=>r=NH (Cx s pid c)):=by
 have hsb:=hv.b hm;have hwl:Jz s pid c=⟨s,AN s.tab pid,c,(GW s (AN s.tab pid) c).2.1,{GT with items:=(GW s (AN s.tab pid) c).1}⟩:=rfl;refine enter Tryz.func49 rfl rfl rfl rfl rfl 0 rfl ?_;refine Ff (h:=CY (h:=e_ (B0 (h:=m_ (h:=?_)))));refine A3 rfl (A8 (K2 s.tab pid ht) ?_);rintro r rfl;refine Gr (h:=?_);refine A4 rfl (fun hb1 hc1=>?_) (fun hb1 hc1=>?_)
 ·have hno:CG s.tab pid=false:=by simpa using hc1
  refine C5 (h:=?_);refine A3 rfl (A8 (Mc s hsb ht) ?_);rintro r rfl;refine A3 rfl (Gi (y:= .agg (K1 {GT with exit:= -4})) (Dn ⟨rfl,rfl⟩) ?_);refine s_ (h:=s_ (h:=e_ (B5 (Ba (?_)))));refine A6 ?_;rw[Cx,if_pos hno];rfl
 have hno:¬CG s.tab pid=false:=by simpa using hc1
 refine FD (h:=C5 (h:=?_));refine A3 rfl (A8 (Y1 c hcp hca) ?_);rintro r rfl;refine Bo (h:=?_);refine A4 rfl (fun hb2 hc2=>?_) (fun hb2 hc2=>?_)
 ·have hck:Bl c≠0:=by simpa using hc2
  refine C5 (h:=?_);refine A3 rfl (A8 (Mc s hsb ht) ?_);rintro r rfl;refine A3 rfl (Gi (y:= .agg (K1 {GT with exit:= -22})) (Dn ⟨rfl,rfl⟩) ?_);refine s_ (h:=s_ (h:=e_ (B5 (Ba (?_)))));refine A6 ?_;rw[Cx,if_neg hno,if_pos hck];rfl
 have hck:Bl c=0:=by simpa using hc2
 obtain⟨hk1,hk2,hk3,hk4,hk5⟩:=YW hck;have hargs:∀p∈(Dk s pid c).c.args,p.size≤1000:=fun p hp=>by have:=hk5 p hp;omega
 have hp0:c.paths=[]:=by rw[h6]at hk1;exact List.length_eq_zero_iff.1 (by omega)
 have hpz:(Dk s pid c).c.paths=[]:=hp0;have h9:(Dk s pid c).c.num=9→0<(Dk s pid c).c.args.length:=fun q=>absurd q (ZH h6).2.2.2.1;have h19:(Dk s pid c).c.num=19→0<(Dk s pid c).c.args.length:=fun q=>by have q2:c.num=19:=q;rw[q2]at hk2;have:(Bv 19).2.2.2.1=1:=rfl;show 0<c.args.length;omega
 have hlok:=pY (s:=s) (p:=AN s.tab pid) hp0;have hwk:Jz s pid c=Dk s pid c:=by rw[hwl,hlok];rfl
 refine AF (q_ (BO ([(0,CP s),(1,FM c),(4,Am (AN s.tab pid))]) 7 (h:=?_)));refine A9 0 (h:=?_);refine A9 2 (h:=?_);refine A9 3 (h:=?_);refine c_ 1 rfl (A8 (Mc s hsb ht) ?_);rintro r rfl;refine o_ (h:=?_);refine By 4 rfl (fun _ hS=>H7 (y:= .agg (Da (Dk s pid c) (.v (.slice none 0 0)) (.v (.slice none 0 0)))) (Dn ⟨rfl,rfl⟩) (YZ s pid c) ⟨rfl,rfl⟩) ?_;refine c_ 5 rfl (QM rfl rfl (by repeat constructor) ?_);refine o_ (h:=BB 6 (h:=z_ (h:=t_ (?_))));refine B9 (fun S=>S=⟨look [(3, .bp 2 0),(6, .bp 3 0),(7, .bp 4 0),(10, .bp 0 0),(11, .v (.int .i64 (DD (AN s.tab pid) c)))],⟨[WN (Dk s pid c),FM c,CP s,K3,Ky],[]⟩⟩) ?_ ?_
 ·skip
  refine EQ (h:=?_);refine A3 rfl (Dm 1 rfl (.cons _ _ _ _ _ rfl (LeA.of_eq rfl) .nil) (YY (Dk s pid c) (.v (.slice none 0 0)) (.v (.slice none 0 0)) h9 hargs) ?_);rintro r rfl;refine⟨rfl,?_⟩;refine A3 rfl (Bg [5] rfl (.cons _ _ _ _ _ rfl (A7 _) (.cons _ _ _ _ _ rfl (A7 _) .nil)) (by decide) (.cons _ _ _ _ _ rfl rfl .nil) (pG (Dk s pid c) (DD (AN s.tab pid) c) hpz) ?_);rintro r bc tc ⟨rfl,rfl,rfl⟩;refine⟨rfl,_,pV (Dk s pid c),?_⟩;refine Ch (h:=?_);exact⟨_,rfl,GE [5,1,0,2,3] (fun i hi=>absurd hi (Nat.not_lt_zero i)) (by decide) (.cons _ _ _ _ _ rfl rfl (.cons _ _ _ _ _ rfl rfl (.cons _ _ _ _ _ rfl rfl (.cons _ _ _ _ _ rfl rfl (.cons _ _ _ _ _ rfl rfl .nil))))) (by repeat (first|exact SubK.nil|refine SubK.cons _ _ _ _ rfl (A7 _) ?_))⟩
 rintro S rfl;refine AX (h:=Dg (h:=?_));refine A3 rfl (pC rfl rfl ?_);refine B4 (h:=?_);refine B9 (fun S=>∃(W2:Wrk) (E2:Int),((¬DD (AN s.tab pid) c=0∧E2=DD (AN s.tab pid) c)∨(DD (AN s.tab pid) c=0∧W2=(BR (Dk s pid c)).1∧E2=(BR (Dk s pid c)).2))∧S=⟨look [(3, .bp 2 0),(6, .bp 3 0),(7, .bp 4 0),(10, .bp 0 0),(11, .v (.int .i64 E2)),(12, .v (.slice none 0 0))],⟨[WN W2,FM c,CP s,K3,Ky],[]⟩⟩) ?_ ?_
 ·skip
  refine AX (h:=BN (h:=?_));refine A4 rfl (fun hb3 hc3=>?_) (fun hb3 hc3=>?_)
  ·have he1:DD (AN s.tab pid) c=0:=by simpa using hc3
   refine Bt (h:=?_);refine A3 rfl (Bg [0] rfl (.cons _ _ _ _ _ rfl (A7 _) .nil) (by decide) (.cons _ _ _ _ _ rfl rfl .nil) (pH (Dk s pid c) hsb ht htn h19 (ZH h6)) ?_);rintro r bc tc ⟨rfl,rfl,rfl⟩;refine⟨rfl,_,LT ((BR (Dk s pid c)).1),?_⟩;refine Ch (h:=?_);exact⟨_,⟨(BR (Dk s pid c)).1,(BR (Dk s pid c)).2, .inr ⟨he1,rfl,rfl⟩,rfl⟩,Ao 5 0 rfl rfl rfl (by simp[AW,AQ,AP,BC,WN,CP,K3,Ky,FM]) ((by repeat (first|exact Sub.nil|refine Ap rfl rfl ?_|refine At ?_|refine Au rfl ?_|refine Av rfl ?_)))⟩
  have he1:¬DD (AN s.tab pid) c=0:=by simpa using hc3
  refine BD (AT (?_))
  first|exact⟨_,⟨(BR (Dk s pid c)).1,(BR (Dk s pid c)).2, .inr ⟨he1,rfl,rfl⟩,rfl⟩,Ao 5 0 rfl rfl rfl (by simp[AW,AQ,AP,BC,WN,CP,K3,Ky,FM]) ((by repeat (first|exact Sub.nil|refine Ap rfl rfl ?_|refine At ?_|refine Au rfl ?_|refine Av rfl ?_)))⟩|exact⟨_,⟨Dk s pid c,_, .inl ⟨he1,rfl⟩,rfl⟩,Ao 5 0 rfl rfl rfl (by simp[AW,AQ,AP,BC,WN,CP,K3,Ky,FM]) ((by repeat (first|exact Sub.nil|refine Ap rfl rfl ?_|refine At ?_|refine Au rfl ?_|refine Av rfl ?_)))⟩
 rintro S ⟨W2,E2,hQ,rfl⟩;refine Bk (h:=Bo (h:=?_));refine A4 rfl (fun hb4 hc4=>?_) (fun hb4 hc4=>?_)
 ·have he2:E2≠0:=by simpa using hc4
  have hrun:Cx s pid c=(s,{GT with exit:=KW E2}):=by
   rw[Cx,if_neg hno,if_neg (by simp[hck]),hlok];rcases hQ with⟨q1,q2⟩|⟨q1,q2,q3⟩
   ·rw[if_pos q1,←q2];rfl
   rw[if_neg (by simp[q1]),hwk,←q3,if_pos he2];rfl
  refine C5 (h:=?_);refine A3 rfl (A8 (Mc s hsb ht) ?_);rintro r rfl;refine m_ (h:=?_);refine A3 rfl (Yc rfl ?_);refine m_ (h:=?_);refine A3 rfl (Gi (y:= .agg (K1 {GT with exit:=KW E2})) (Dn ⟨rfl,rfl⟩) ?_);refine s_ (h:=s_ (h:=e_ (B5 (Ba (?_)))));refine AU (r:=NH (Cx s pid c)) none (h5:=(by rw[hrun];exact(by repeat (first|exact A7 _|exact LeA.nil _|exact LeL.refl _|refine LeA.agg ?_|refine LeA.tup ?_|exact LeL.nil|refine LeL.cons ?_ ?_|exact LeA.any _)))) (h6:=⟨rfl,rfl,rfl⟩)
 have he2:E2=0:=by simpa using hc4
 have hrun:Cx s pid c=(W2.s,W2.r)∧W2.r.items=[]:=by
  rcases hQ with⟨q1,q2⟩|⟨q1,q2,q3⟩
  ·exact absurd (q2.symm.trans he2) q1
  refine⟨?_,?_⟩
  ·rw[Cx,if_neg hno,if_neg (by simp[hck]),hlok,if_neg (by simp[q1]),hwk,←q3,if_neg (by simp[he2]),q2]
  refine List.length_eq_zero_iff.1 ?_;rw[q2,UJ];rfl
 refine AF (q_ (BO ([(0,WN W2)]) 10 (h:=AG 0 (h:=BJ 1 (h:=AD 2 (h:=A9 3 (h:=AG 4 (h:=BJ 5 (h:=AD 6 (h:=A9 7 (h:=?_)))))))))));refine B6 8 (h:=?_);refine B6 9 (h:=z_ (h:=t_ (B5 (?_))));refine AU (r:=NH (Cx s pid c)) none (h5:=?_) (h6:=⟨rfl,rfl,rfl⟩);rw[hrun.1,NH,K1,hrun.2];exact(by repeat (first|exact A7 _|exact LeA.nil _|exact LeL.refl _|refine LeA.agg ?_|refine LeA.tup ?_|exact LeL.nil|refine LeL.cons ?_ ?_|exact LeA.any _))
theorem Pd(s:Syst)(pid:Int)(c:Cal)(hv:SpcV s.spc)(hm:s.spc.mounts.length≤1000)(ht:TabB s.tab)(htn:DW s.tab)(hcp:c.paths.length≤1000)(hca:c.args.length≤1000):AFn prog 49 [.agg (CP s), .v (.int .i64 pid), .agg (FM c)] (fun r=>r=NH (Cx s pid c)):=by
 rcases pT c.num with h|h
 ·exact pX s pid c hv hm ht hcp hca h
 exact pZ s pid c hv hm ht htn hcp hca h
end
end Go.Proofs.YtbgnigjfkbmceaaGreatDoor
