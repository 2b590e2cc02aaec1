/-
  Part 17 of the proof of FilterFollowsP: what the statement's proof uses of the texts in wip/tpl.
-/
import Derived.Test.YtbgnigjfkbmceaaGreatDoorQi16
open Go.Proofs.Tryz (prog)
set_option maxRecDepth 10000
set_option maxHeartbeats 4000000
set_option linter.unusedVariables false
set_option linter.unusedSimpArgs false
namespace Go.Proofs.YtbgnigjfkbmceaaGreatDoor
open Go.RowKit
theorem aW(w:Wrk)(R:FH):(Bc w R).1.r.items=w.r.items:=by
 unfold Bc;split<;>rfl
section
theorem sF(w:Wrk)(cap:Nat)(f g:Fnd)(x1:Itm)(hv:SpcV w.s.spc)(hm:w.s.spc.mounts.length≤1000)(hf:w.found[0]?=some f)(hg:w.found[1]?=some g)(hx1:w.r.items[1]?=some x1)(hn2:g.name.size≤100000):ACall prog 146 [.bp 0 0] [WA w cap,IB w cap] (fun r b t=>t=[]∧r= .v (.int .i64 (G6 w).2)∧b=[WA (G6 w).1 cap,IB (G6 w).1 cap]):=by
 have hsb:=hv.b hm;have hrow0:(w.found.map Al)[0]?=some (Al f):=by rw[List.getElem?_map,hf];rfl
 have hrow1:(w.found.map Al)[1]?=some (Al g):=by rw[List.getElem?_map,hg];rfl
 have hfn:B0 w 0=f:=by unfold B0;rw[hf];rfl
 have hgn:B0 w 1=g:=by unfold B0;rw[hg];rfl
 obtain⟨R,hR⟩:∃R,R=Ew w.s.spc.files g.dir g.name f.file:=⟨_,rfl⟩;have hok:=Xn hv.files g.dir g.name f.file;rw[←hR]at hok;have hcall:AFn prog 172 [.agg (Ao w.s.spc.files), .agg (AB g.dir), .v (.string g.name), .agg (AB f.file)] (fun r=>r=Ce R):=by rw[hR];exact iY _ _ _ _ hv.files hn2
 have hlk:G6 w=if f.ex=false then(w,2)else if AU w.s.spc.files f.file=true then(w,1)else if g.ex=true then(w,17)else if g.slash=true then(w,2)else if f.file.1≠g.dir.1 then(w,18)else if CM w g.dir 2=false then(w,13)else if R.2.2≠0 then(w,R.2.2)else(Kr (Bc w R).1 1 f.file,0):=by
  unfold G6 Kq;rw[hfn,hgn,←hR]
 clear hR;refine enter Tryz.func146 rfl rfl rfl rfl rfl 2 rfl ?_;refine Cw (h:=?_);refine B9 (fun S=>S=⟨look [(0, .bp 0 0),(3, .bp 2 0),(4, .bp 3 0)],⟨[WA w cap,IB w cap,Al f,Al g],[]⟩⟩) ?_ ?_
 ·skip
  refine BS ([(0,WA w cap)]) 16 (h:=AF 0 (h:=BM 1 (h:=AD 2 (h:=AA 3 (h:=?_)))));refine CC 4 rfl (fun _ hS=>DA (n:=0) rfl rfl rfl hrow0 ⟨rfl,rfl⟩) ?_;refine AA 5 (h:=AF 6 (h:=BM 7 (h:=AD 8 (h:=AA 9 (h:=?_)))));refine CC 10 rfl (fun _ hS=>DA (n:=1) rfl rfl rfl hrow1 ⟨rfl,rfl⟩) ?_;refine AA 11 (h:=?_);refine DS 12 13 rfl rfl ?_ ?_
  ·refine BV (by repeat constructor) ?_;refine o_ (h:=?_);refine c_ 13 rfl (BV (by repeat constructor) ?_);refine o_ (h:=?_);refine Ak 14 (h:=?_);refine Ak 15 (h:=z_ (h:=?_));refine AM ?_;exact⟨_,rfl,Cp 4 0⟩
  refine BV (by repeat constructor) ?_;refine o_ (h:=?_);refine c_ 12 rfl (BV (by repeat constructor) ?_);refine o_ (h:=?_);refine Ak 14 (h:=?_);refine Ak 15 (h:=z_ (h:=?_));refine AM ?_
  first|exact⟨_,rfl,Cp 4 0⟩|exact⟨_,rfl,GG [0,1,3,2] RY (by decide) (.cons _ _ _ _ _ rfl rfl (.cons _ _ _ _ _ rfl (MA B4 _ _ _) (.cons _ _ _ _ _ rfl rfl (.cons _ _ _ _ _ rfl rfl .nil)))) (by repeat (first|exact SubK.nil|refine SubK.cons _ _ _ _ rfl (A7 _) ?_))⟩
 rintro S rfl;refine q_ (BH (Az (h:=Cr (h:=B7 (h:=?_)))));refine A4 rfl (fun hb1 hc1=>?_) (fun hb1 hc1=>?_)
 ·have k1:f.ex=false:=by simpa using hc1
  refine Bl (h:=?_);refine BU (r:= .v (.int .i64 (G6 w).2)) none (h5:=(by rw[hlk,if_pos k1];exact A7 _)) (h6:=⟨rfl,rfl,?_⟩);rw[hlk,if_pos k1];rfl
 have k1:¬f.ex=false:=by simpa using hc1
 refine Aa (h:=?_);refine A3 rfl (Ds 1 rfl (.cons _ _ _ _ _ rfl (LeA.of_eq rfl) (.cons _ _ _ _ _ rfl (A7 _) .nil)) (My w .any 0 f hsb hf) ?_);rintro r rfl;refine⟨rfl,?_⟩;refine B7 (h:=?_);refine A4 rfl (fun hb2 hc2=>?_) (fun hb2 hc2=>?_)
 ·have k2:AU w.s.spc.files f.file=true:=hc2;refine Bl (h:=?_);refine BU (r:= .v (.int .i64 (G6 w).2)) none (h5:=(by rw[hlk,if_neg k1,if_pos k2];exact A7 _)) (h6:=⟨rfl,rfl,?_⟩);rw[hlk,if_neg k1,if_pos k2];rfl
 have k2:¬AU w.s.spc.files f.file=true:=by simpa using hc2
 refine Az (h:=B7 (h:=?_));refine A4 rfl (fun hb3 hc3=>?_) (fun hb3 hc3=>?_)
 ·have k3:g.ex=true:=hc3;refine Bl (h:=?_);refine BU (r:= .v (.int .i64 (G6 w).2)) none (h5:=(by rw[hlk,if_neg k1,if_neg k2,if_pos k3];exact A7 _)) (h6:=⟨rfl,rfl,?_⟩);rw[hlk,if_neg k1,if_neg k2,if_pos k3];rfl
 have k3:¬g.ex=true:=by simpa using hc3
 refine Az (h:=B7 (h:=?_));refine A4 rfl (fun hb4 hc4=>?_) (fun hb4 hc4=>?_)
 ·have k4:g.slash=true:=hc4;refine Bl (h:=?_);refine BU (r:= .v (.int .i64 (G6 w).2)) none (h5:=(by rw[hlk,if_neg k1,if_neg k2,if_neg k3,if_pos k4];exact A7 _)) (h6:=⟨rfl,rfl,?_⟩);rw[hlk,if_neg k1,if_neg k2,if_neg k3,if_pos k4];rfl
 have k4:¬g.slash=true:=by simpa using hc4
 refine w_ (ET (h:=ET (h:=GH (h:=B7 (h:=?_)))));refine A4 rfl (fun hb5 hc5=>?_) (fun hb5 hc5=>?_)
 ·have k5:f.file.1≠g.dir.1:=by simpa using hc5
  refine Bl (h:=?_);refine BU (r:= .v (.int .i64 (G6 w).2)) none (h5:=(by rw[hlk,if_neg k1,if_neg k2,if_neg k3,if_neg k4,if_pos k5];exact A7 _)) (h6:=⟨rfl,rfl,?_⟩);rw[hlk,if_neg k1,if_neg k2,if_neg k3,if_neg k4,if_pos k5];rfl
 have k5:¬f.file.1≠g.dir.1:=by simpa using hc5
 refine Aa (h:=Ab (h:=?_));refine A3 rfl (Ds 1 rfl (.cons _ _ _ _ _ rfl (LeA.of_eq rfl) (.cons _ _ _ _ _ rfl (A7 _) (.cons _ _ _ _ _ rfl (A7 _) .nil))) (LM w .any g.dir 2 hsb) ?_);rintro r rfl;refine⟨rfl,?_⟩;refine Cr (h:=B7 (h:=?_));refine A4 rfl (fun hb6 hc6=>?_) (fun hb6 hc6=>?_)
 ·have k6:CM w g.dir 2=false:=by simpa using hc6
  refine Bl (h:=?_);refine BU (r:= .v (.int .i64 (G6 w).2)) none (h5:=(by rw[hlk,if_neg k1,if_neg k2,if_neg k3,if_neg k4,if_neg k5,if_pos k6];exact A7 _)) (h6:=⟨rfl,rfl,?_⟩);rw[hlk,if_neg k1,if_neg k2,if_neg k3,if_neg k4,if_neg k5,if_pos k6];rfl
 have k6:¬CM w g.dir 2=false:=by simpa using hc6
 refine BF (BB (t_ (?_)));refine B9 (fun S=>S=⟨look [(0, .bp 0 0),(3, .bp 2 0),(5, .v (.int .i64 R.2.2))],⟨[WA (Bc w R).1 cap,IB (Bc w R).1 cap,Al f],[]⟩⟩) ?_ ?_
 ·skip
  refine BS ([(0,WA w cap),(1,IB w cap),(2,Al f),(3,Al g)]) 17 (h:=AF 0 (h:=AF 1 (h:=BM 2 (h:=AD 3 (h:=AD 4 (h:=AD 5 (h:=AA 6 (h:=AD 7 (h:=AA 8 (h:=AD 9 (h:=AA 10 (h:=AD 11 (h:=AA 12 (h:=?_))))))))))))));refine c_ 13 rfl (A8 (hcall) ?_);rintro r rfl;refine o_ (h:=Ay 14 (h:=Ay 15 (h:=Ay 16 (h:=?_))));refine c_ 17 rfl (Bm [0,1] rfl (.cons _ _ _ _ _ rfl (A7 _) (.cons _ _ _ _ _ rfl (A7 _) (.cons _ _ _ _ _ rfl (A7 _) (.cons _ _ _ _ _ rfl (A7 _) .nil)))) (by decide) (.cons _ _ _ _ _ rfl rfl (.cons _ _ _ _ _ rfl (Df B4 _ _ _) .nil)) (Oi w cap R.1 R.2.1 R.2.2) ?_);rintro r bc tc ⟨rfl,rfl,rfl⟩;refine⟨rfl,_,E4 rfl ((Bc w R).1) cap,?_⟩;refine o_ (h:=?_);refine c_ 18 rfl (JC rfl ?_);refine Hb (h:=?_);refine AM ?_;exact⟨_,rfl,Cp 3 0⟩
 rintro S rfl;refine Bv (h:=BN (h:=?_));refine A4 rfl (fun hb7 hc7=>?_) (fun hb7 hc7=>?_)
 ·have h0:R.2.2=0:=hc7;have hfb:FlsB (Bc w R).1.s.spc.files:=by rw[ME h0];exact(hok h0).1.b
  have hxr:(Bc w R).1.r.items[1]?=some x1:=by rw[aW];exact hx1
  refine C5 (h:=Ab (h:=?_));refine A3 rfl (Bm [0,1] rfl (.cons _ _ _ _ _ rfl (A7 _) (.cons _ _ _ _ _ rfl (A7 _) (.cons _ _ _ _ _ rfl (A7 _) .nil))) (by decide) (.cons _ _ _ _ _ rfl rfl (.cons _ _ _ _ _ rfl (Df B4 _ _ _) .nil)) (Ue (Bc w R).1 cap 1 f.file x1 hfb hxr) ?_);rintro r bc tc ⟨rfl,rfl,rfl⟩;refine⟨rfl,_,E4 rfl (Kr (Bc w R).1 1 f.file) cap,?_⟩;refine e_ (EA (h:=?_));refine BU (r:= .v (.int .i64 (G6 w).2)) none (h5:=(by rw[hlk,if_neg k1,if_neg k2,if_neg k3,if_neg k4,if_neg k5,if_neg k6,if_neg (by simp[h0])];exact LeA.of_eq (vi h0))) (h6:=⟨rfl,rfl,?_⟩);rw[hlk,if_neg k1,if_neg k2,if_neg k3,if_neg k4,if_neg k5,if_neg k6,if_neg (by simp[h0])];rfl
 have h0:¬R.2.2=0:=hc7;refine AG (EA (h:=?_));refine BU (r:= .v (.int .i64 (G6 w).2)) none (h5:=(by rw[hlk,if_neg k1,if_neg k2,if_neg k3,if_neg k4,if_neg k5,if_neg k6,if_pos h0];exact A7 _)) (h6:=⟨rfl,rfl,?_⟩);rw[hlk,if_neg k1,if_neg k2,if_neg k3,if_neg k4,if_neg k5,if_neg k6,if_pos h0];rw[Rw h0];rfl
theorem aX(w:Wrk)(cap:Nat)(f:Fnd)(x0:Itm)(hv:SpcV w.s.spc)(hm:w.s.spc.mounts.length≤1000)(hps:w.s.tab.ps.length≤1000)(hf:w.found[0]?=some f)(hx0:w.r.items[0]?=some x0)(hn:f.name.size≤100000):ACall prog 147 [.bp 0 0] [WA w cap,IB w cap] (fun r b t=>t=[]∧r= .v (.int .i64 (Ey w).2)∧b=[WA (Ey w).1 cap,IB (Ey w).1 cap]):=by
 have hsb:=hv.b hm;have hrow0:(w.found.map Al)[0]?=some (Al f):=by rw[List.getElem?_map,hf];rfl
 have hfn:B0 w 0=f:=by unfold B0;rw[hf];rfl
 have hil:0<w.r.items.length:=(Af.1 hx0).1;obtain⟨R1,hR1⟩:∃R,R=J3 w.s.spc.files f.dir f.name:=⟨_,rfl⟩;obtain⟨R2,hR2⟩:∃R,R=Gv w.s.spc.files f.dir f.name:=⟨_,rfl⟩;have hcall1:AFn prog 173 [.agg (Ao w.s.spc.files), .agg (AB f.dir), .v (.string f.name)] (fun r=>r=Ce R1):=by rw[hR1];exact j0 _ _ _ hv.files hn
 have hcall2:AFn prog 174 [.agg (Ao w.s.spc.files), .agg (AB f.dir), .v (.string f.name)] (fun r=>r=Ce R2):=by rw[hR2];exact j1 _ _ _ hv.files hn
 obtain⟨y,hyd⟩:∃y,y=(AK w.s.spc.files f.dir f.name).1:=⟨_,rfl⟩;have hl1:AFn prog 134 [.agg (Ao w.s.spc.files), .agg (AB f.dir), .v (.string f.name)] (fun r=>r= .tup [.agg (AB y), .v (.int .i64 (AK w.s.spc.files f.dir f.name).2)]):=by rw[hyd];exact Kg _ _ _ hsb.files
 have hrm:Ey w=if f.ex=false then(w,2)else if w.c.num=10 then(if f.name=⟨#[]⟩∨AU w.s.spc.files f.file=true then(w,21)else if CM w f.dir 2=false then(w,13)else KK w R1)else(if f.name=⟨#[]⟩then(w,16)else if AU w.s.spc.files f.file=false then(w,20)else if Jq w y=true then(w,16)else if CM w f.dir 2=false then(w,13)else KK w R2):=by
  unfold Ey Kq;rw[hfn,←hR1,←hR2,←hyd]
 clear hR1 hR2 hyd;refine enter Tryz.func147 rfl rfl rfl rfl rfl 2 rfl ?_;refine Eh (h:=k_ (h:=Ab (h:=?_)));refine A3 rfl (DA (n:=0) rfl rfl rfl hrow0 ?_);refine Hu (h:=Ci (h:=DE (h:=?_)));refine A4 rfl (fun hb1 hc1=>?_) (fun hb1 hc1=>?_)
 ·have k1:f.ex=false:=by simpa using hc1
  refine BA (h:=?_);refine BU (r:= .v (.int .i64 (Ey w).2)) none (h5:=(by rw[hrm,if_pos k1];exact A7 _)) (h6:=⟨rfl,rfl,?_⟩);rw[hrm,if_pos k1];rfl
 have k1:¬f.ex=false:=by simpa using hc1
 refine AG (Cw (h:=?_));refine B9 (fun S=>∃R,Ey w=KK w R∧S=⟨look [(0, .bp 0 0),(4, .v (.int .i64 R.2.2))],⟨[WA (Bc w R).1 cap,IB (Bc w R).1 cap],[]⟩⟩) ?_ ?_
 ·skip
  refine Aa (h:=Dj (h:=BN (h:=?_)));refine A4 rfl (fun hb2 hc2=>?_) (fun hb2 hc2=>?_)
  ·have k2:w.c.num=10:=hc2;refine q_ (?_);refine B9 (fun S=>S=⟨look [(0, .bp 0 0),(3, .bp 2 0),(28, .v (.bool (decide (f.name=⟨#[]⟩)||AU w.s.spc.files f.file)))],⟨[WA w cap,IB w cap,Al f],[]⟩⟩) ?_ ?_
   ·skip
    refine Av (Cx (h:=m_ (h:=?_)));refine AJ false rfl rfl (fun hb3 hc3=>?_) (fun hb3 hc3=>?_)
    ·refine BD (h:=Je (h:=?_));exact⟨_,rfl,CA 3 0 (by simp[AY,AX,AW,By B4,BG,WA,IB,Co,Al,Ac,AB,Am,AT,Ao])⟩
    refine m_ (h:=?_);refine As (Ds 1 rfl (.cons _ _ _ _ _ rfl (LeA.of_eq rfl) (.cons _ _ _ _ _ rfl (A7 _) .nil)) (My w .any 0 f hsb hf) ?_);rintro r rfl;refine⟨rfl,?_⟩;refine FX (h:=?_);exact⟨_,rfl,CA 3 0 (by simp[AY,AX,AW,By B4,BG,WA,IB,Co,Al,Ac,AB,Am,AT,Ao])⟩
   rintro S rfl;refine A4 rfl (fun hb4 hc4=>?_) (fun hb4 hc4=>?_)
   ·have k3:f.name=⟨#[]⟩∨AU w.s.spc.files f.file=true:=by simpa using hc4
    refine BA (h:=Bu (?_));refine BU (r:= .v (.int .i64 (Ey w).2)) none (h5:=(by rw[hrm,if_neg k1,if_pos k2,if_pos k3];exact A7 _)) (h6:=⟨rfl,rfl,?_⟩);rw[hrm,if_neg k1,if_pos k2,if_pos k3];rfl
   have k3:¬(f.name=⟨#[]⟩∨AU w.s.spc.files f.file=true):=by simpa using hc4
   refine Dl (h:=Ab (h:=?_));refine A3 rfl (Ds 1 rfl (.cons _ _ _ _ _ rfl (LeA.of_eq rfl) (.cons _ _ _ _ _ rfl (A7 _) (.cons _ _ _ _ _ rfl (A7 _) .nil))) (LM w .any f.dir 2 hsb) ?_);rintro r rfl;refine⟨rfl,?_⟩;refine DE (h:=?_);refine A4 rfl (fun hb5 hc5=>?_) (fun hb5 hc5=>?_)
   ·have k4:CM w f.dir 2=false:=by simpa using hc5
    refine BA (h:=Bu (?_));refine BU (r:= .v (.int .i64 (Ey w).2)) none (h5:=(by rw[hrm,if_neg k1,if_pos k2,if_neg k3,if_pos k4];exact A7 _)) (h6:=⟨rfl,rfl,?_⟩);rw[hrm,if_neg k1,if_pos k2,if_neg k3,if_pos k4];rfl
   have k4:¬CM w f.dir 2=false:=by simpa using hc5
   refine AG (BS ([(0,WA w cap),(1,IB w cap),(2,Al f)]) 15 (h:=AF 0 (h:=AF 1 (h:=BM 2 (h:=AD 3 (h:=AD 4 (h:=AD 5 (h:=AA 6 (h:=AD 7 (h:=AA 8 (h:=AD 9 (h:=AA 10 (h:=?_)))))))))))));refine c_ 11 rfl (A8 (hcall1) ?_);rintro r rfl;refine o_ (h:=Ay 12 (h:=Ay 13 (h:=Ay 14 (h:=?_))));refine c_ 15 rfl (Bm [0,1] rfl (.cons _ _ _ _ _ rfl (A7 _) (.cons _ _ _ _ _ rfl (A7 _) (.cons _ _ _ _ _ rfl (A7 _) (.cons _ _ _ _ _ rfl (A7 _) .nil)))) (by decide) (.cons _ _ _ _ _ rfl rfl (.cons _ _ _ _ _ rfl (Df B4 _ _ _) .nil)) (Oi w cap R1.1 R1.2.1 R1.2.2) ?_);rintro r bc tc ⟨rfl,rfl,rfl⟩;refine⟨rfl,_,E4 rfl ((Bc w R1).1) cap,?_⟩;refine o_ (h:=?_);refine c_ 16 rfl (JC rfl ?_);refine Hb (h:=?_);refine AM ?_;exact⟨_,⟨R1,(by rw[hrm,if_neg k1,if_pos k2,if_neg k3,if_neg k4]),rfl⟩,Cp 2 0⟩
  have k2:¬w.c.num=10:=hc2;refine Ci (h:=BN (h:=?_));refine A4 rfl (fun hb6 hc6=>?_) (fun hb6 hc6=>?_)
  ·have k3:f.name=⟨#[]⟩:=hc6;refine BA (h:=Bu (?_));refine BU (r:= .v (.int .i64 (Ey w).2)) none (h5:=(by rw[hrm,if_neg k1,if_neg k2,if_pos k3];exact A7 _)) (h6:=⟨rfl,rfl,?_⟩);rw[hrm,if_neg k1,if_neg k2,if_pos k3];rfl
  have k3:¬f.name=⟨#[]⟩:=hc6;refine Dl (h:=?_);refine A3 rfl (Ds 1 rfl (.cons _ _ _ _ _ rfl (LeA.of_eq rfl) (.cons _ _ _ _ _ rfl (A7 _) .nil)) (My w .any 0 f hsb hf) ?_);rintro r rfl;refine⟨rfl,?_⟩;refine DE (h:=?_);refine A4 rfl (fun hb7 hc7=>?_) (fun hb7 hc7=>?_)
  ·have k4:AU w.s.spc.files f.file=false:=by simpa using hc7
   refine BA (h:=Bu (?_));refine BU (r:= .v (.int .i64 (Ey w).2)) none (h5:=(by rw[hrm,if_neg k1,if_neg k2,if_neg k3,if_pos k4];exact A7 _)) (h6:=⟨rfl,rfl,?_⟩);rw[hrm,if_neg k1,if_neg k2,if_neg k3,if_pos k4];rfl
  have k4:¬AU w.s.spc.files f.file=false:=by simpa using hc7
  refine AG (?_);refine B9 (fun S=>S=⟨look [(0, .bp 0 0),(3, .bp 2 0),(5, .bp 3 0)],⟨[WA w cap,IB w cap,Al f,AB y],[]⟩⟩) ?_ ?_
  ·skip
   refine BS ([(0,WA w cap),(1,IB w cap),(2,Al f)]) 17 (h:=AF 0 (h:=BM 1 (h:=AD 2 (h:=AD 3 (h:=AD 4 (h:=AA 5 (h:=AD 6 (h:=AA 7 (h:=AD 8 (h:=AA 9 (h:=?_)))))))))));refine DS 10 14 rfl rfl ?_ ?_
   ·refine A8 (hl1) ?_;rintro r rfl;refine o_ (h:=?_);refine AF 11 (h:=Ay 12 (h:=Ay 13 (h:=?_)));refine c_ 14 rfl (BV (by repeat constructor) ?_);refine o_ (h:=?_);refine Ak 15 (h:=BE 16 (h:=z_ (h:=?_)));refine AM ?_;exact⟨_,rfl,Cp 4 0⟩
   refine BV (by repeat constructor) ?_;refine o_ (h:=?_);refine c_ 10 rfl (A8 (hl1) ?_);rintro r rfl;refine o_ (h:=AF 11 (h:=Ay 12 (h:=Ay 13 (h:=?_))));refine Ak 15 (h:=BE 16 (h:=z_ (h:=?_)));refine AM ?_;exact⟨_,rfl,Cp 4 0⟩
  rintro S rfl;refine Bv (h:=l_ (h:=?_));refine A3 rfl (Ds 1 rfl (.cons _ _ _ _ _ rfl (LeA.of_eq rfl) (.cons _ _ _ _ _ rfl (A7 _) .nil)) (ZE w .any y hsb hps) ?_);rintro r rfl;refine⟨rfl,?_⟩;refine e_ (?_);refine A4 rfl (fun hb8 hc8=>?_) (fun hb8 hc8=>?_)
  ·have k5:Jq w y=true:=hc8;refine BA (h:=Bu (?_));refine BU (r:= .v (.int .i64 (Ey w).2)) none (h5:=(by rw[hrm,if_neg k1,if_neg k2,if_neg k3,if_neg k4,if_pos k5];exact A7 _)) (h6:=⟨rfl,rfl,?_⟩);rw[hrm,if_neg k1,if_neg k2,if_neg k3,if_neg k4,if_pos k5];rfl
  have k5:¬Jq w y=true:=by simpa using hc8
  refine Dl (h:=Ab (h:=?_));refine A3 rfl (Ds 1 rfl (.cons _ _ _ _ _ rfl (LeA.of_eq rfl) (.cons _ _ _ _ _ rfl (A7 _) (.cons _ _ _ _ _ rfl (A7 _) .nil))) (LM w .any f.dir 2 hsb) ?_);rintro r rfl;refine⟨rfl,?_⟩;refine DE (h:=?_);refine A4 rfl (fun hb9 hc9=>?_) (fun hb9 hc9=>?_)
  ·have k6:CM w f.dir 2=false:=by simpa using hc9
   refine BA (h:=Bu (?_));refine BU (r:= .v (.int .i64 (Ey w).2)) none (h5:=(by rw[hrm,if_neg k1,if_neg k2,if_neg k3,if_neg k4,if_neg k5,if_pos k6];exact A7 _)) (h6:=⟨rfl,rfl,?_⟩);rw[hrm,if_neg k1,if_neg k2,if_neg k3,if_neg k4,if_neg k5,if_pos k6];rfl
  have k6:¬CM w f.dir 2=false:=by simpa using hc9
  refine AG (BS ([(0,WA w cap),(1,IB w cap),(2,Al f)]) 15 (h:=AF 0 (h:=AF 1 (h:=BM 2 (h:=AD 3 (h:=AD 4 (h:=AD 5 (h:=AA 6 (h:=AD 7 (h:=AA 8 (h:=AD 9 (h:=AA 10 (h:=?_)))))))))))));refine c_ 11 rfl (A8 (hcall2) ?_);rintro r rfl;refine o_ (h:=Ay 12 (h:=Ay 13 (h:=Ay 14 (h:=?_))));refine c_ 15 rfl (Bm [0,1] rfl (.cons _ _ _ _ _ rfl (A7 _) (.cons _ _ _ _ _ rfl (A7 _) (.cons _ _ _ _ _ rfl (A7 _) (.cons _ _ _ _ _ rfl (A7 _) .nil)))) (by decide) (.cons _ _ _ _ _ rfl rfl (.cons _ _ _ _ _ rfl (Df B4 _ _ _) .nil)) (Oi w cap R2.1 R2.2.1 R2.2.2) ?_);rintro r bc tc ⟨rfl,rfl,rfl⟩;refine⟨rfl,_,E4 rfl ((Bc w R2).1) cap,?_⟩;refine o_ (h:=?_);refine c_ 16 rfl (JC rfl ?_);refine Hb (h:=?_);refine AM ?_
  first|exact⟨_,⟨R1,(by rw[hrm,if_neg k1,if_pos k2,if_neg k3,if_neg k4]),rfl⟩,Cp 2 0⟩|exact⟨_,⟨R2,(by rw[hrm,if_neg k1,if_neg k2,if_neg k3,if_neg k4,if_neg k5,if_neg k6]),rfl⟩,Cp 2 0⟩
 rintro S ⟨R,hrm2,rfl⟩;have hit:(Bc w R).1.r.items=w.r.items:=aW w R;have hxa:(Bc w R).1.r.items[0]?=some x0:=by rw[hit];exact hx0
 have hil1:0<(Bc w R).1.r.items.length:=by rw[hit];exact hil
 refine Bv (h:=BN (h:=?_));refine A4 rfl (fun hb10 hc10=>?_) (fun hb10 hc10=>?_)
 ·have h0:R.2.2=0:=hc10;refine C5 (h:=Dj (h:=?_));refine A3 rfl (Dy (m:=0) rfl rfl rfl hil1 ?_);refine f_ (h:=?_);refine MY (Eo rfl rfl rfl rfl rfl rfl (MB B4 (x':={x0 with role:=3}) hxa (by repeat constructor) (List.cons_ne_nil _ _)) (by repeat constructor) ?_);refine e_ (EA (h:=?_));refine BU (r:= .v (.int .i64 (Ey w).2)) none (h5:=(by rw[hrm2,KK,if_neg (by simp[h0])];exact LeA.of_eq (vi h0))) (h6:=⟨rfl,rfl,?_⟩);rw[hrm2,KK,if_neg (by simp[h0])];rw[ZN,ZO hxa];rfl
 have h0:¬R.2.2=0:=hc10;refine AG (EA (h:=?_));refine BU (r:= .v (.int .i64 (Ey w).2)) none (h5:=(by rw[hrm2,KK,if_pos h0];exact A7 _)) (h6:=⟨rfl,rfl,?_⟩);rw[hrm2,KK,if_pos h0];rw[Rw h0];rfl
theorem aY(w:Wrk)(cap:Nat)(f:Fnd)(hv:SpcV w.s.spc)(hm:w.s.spc.mounts.length≤1000)(hf:w.found[0]?=some f):ACall prog 149 [.bp 0 0] [WA w cap,IB w cap] (fun r b t=>t=[]∧r= .v (.int .i64 (Ga w).2)∧b=[WA (Ga w).1 cap,IB (Ga w).1 cap]):=by
 have hsb:=hv.b hm;have hrow0:(w.found.map Al)[0]?=some (Al f):=by rw[List.getElem?_map,hf];rfl
 have hfn:B0 w 0=f:=by unfold B0;rw[hf];rfl
 obtain⟨n,hnd⟩:∃n,n=Ah w.s.spc.files f.file:=⟨_,rfl⟩;have hnode:AFn prog 123 [.agg (Ao w.s.spc.files), .agg (AB f.file)] (fun r=>r= .tup [.agg (Ac n), .v (.bool (Dc w.s.spc.files f.file))]):=by rw[hnd];exact FZ _ _ hsb.files
 have hat:Ga w=if f.ex=false then(w,2)else if w.c.num=14 then(if w.p.euid≠0∧w.p.euid≠n.uid then(w,1)else Li w (Fy w.s.spc.files f.file w.c.a0 n.uid n.gid))else if w.p.euid≠0 then(w,1)else Li w (Fy w.s.spc.files f.file n.mode w.c.a0 w.c.a1):=by
  unfold Ga;rw[hfn,←hnd]
 clear hnd;refine enter Tryz.func149 rfl rfl rfl rfl rfl 2 rfl ?_;refine Eh (h:=k_ (h:=Ab (h:=?_)));refine A3 rfl (DA (n:=0) rfl rfl rfl hrow0 ?_);refine Hu (h:=Ci (h:=DE (h:=?_)));refine A4 rfl (fun hb1 hc1=>?_) (fun hb1 hc1=>?_)
 ·have k1:f.ex=false:=by simpa using hc1
  refine BA (h:=?_);refine BU (r:= .v (.int .i64 (Ga w).2)) none (h5:=(by rw[hat,if_pos k1];exact A7 _)) (h6:=⟨rfl,rfl,?_⟩);rw[hat,if_pos k1];rfl
 have k1:¬f.ex=false:=by simpa using hc1
 refine AG (?_);refine B9 (fun S=>S=⟨look [(0, .bp 0 0),(3, .bp 2 0),(4, .bp 3 0)],⟨[WA w cap,IB w cap,Al f,Ac n],[]⟩⟩) ?_ ?_
 ·skip
  refine BS ([(0,WA w cap),(1,IB w cap),(2,Al f)]) 15 (h:=AF 0 (h:=BM 1 (h:=AD 2 (h:=AD 3 (h:=AD 4 (h:=AA 5 (h:=AD 6 (h:=AA 7 (h:=?_)))))))));refine DS 8 12 rfl rfl ?_ ?_
  ·refine A8 (hnode) ?_;rintro r rfl;refine o_ (h:=?_);refine AF 9 (h:=Ay 10 (h:=Ay 11 (h:=?_)));refine c_ 12 rfl (BV (by repeat constructor) ?_);refine o_ (h:=?_);refine Ak 13 (h:=BE 14 (h:=z_ (h:=?_)));refine AM ?_;exact⟨_,rfl,Cp 4 0⟩
  refine BV (by repeat constructor) ?_;refine o_ (h:=?_);refine c_ 8 rfl (A8 (hnode) ?_);rintro r rfl;refine o_ (h:=AF 9 (h:=Ay 10 (h:=Ay 11 (h:=?_))));refine Ak 13 (h:=BE 14 (h:=z_ (h:=?_)));refine AM ?_;exact⟨_,rfl,Cp 4 0⟩
 rintro S rfl;refine B9 (fun S=>∃m u g,Ga w=Li w (Fy w.s.spc.files f.file m u g)∧S=⟨look [(0, .bp 0 0),(3, .bp 2 0),(4, .bp 3 0)],⟨[WA w cap,IB w cap,Al f,Ac {n with mode:=m,uid:=u,gid:=g}],[]⟩⟩) ?_ ?_
 ·skip
  refine Aa (h:=Dj (h:=BN (h:=?_)));refine A4 rfl (fun hb2 hc2=>?_) (fun hb2 hc2=>?_)
  ·have k2:w.c.num=14:=hc2;refine q_ (?_);refine B9 (fun S=>S=⟨look [(0, .bp 0 0),(3, .bp 2 0),(4, .bp 3 0),(50, .v (.bool (!decide (w.p.euid=0)&& !decide (w.p.euid=n.uid))))],⟨[WA w cap,IB w cap,Al f,Ac n],[]⟩⟩) ?_ ?_
   ·skip
    refine Db 16 (h:=AF 0 (h:=BM 1 (h:=AD 2 (h:=AD 3 (h:=AA 4 (h:=NG 5 (h:=AF 6 (h:=?_))))))));refine K1 (j:=6) rfl (fun hb3=>?_) (fun hb3=>?_)
    ·have hc3:=bp hb3;refine AF 7 (h:=BM 8 (h:=AD 9 (h:=AD 10 (h:=AA 11 (h:=AD 12 (h:=AA 13 (h:=NG 14 (h:=JZ 15 (h:=z_ (h:=?_))))))))));refine AM ?_;exact⟨_,rfl,CA 4 0 (by simp[AY,AX,AW,By B4,BG,WA,IB,Co,Al,Ac,AB,Am,AT,Ao])⟩
    have hc3:=bp hb3;refine B5 7 (h:=B5 8 (h:=B5 9 (h:=B5 10 (h:=B5 11 (h:=B5 12 (h:=B5 13 (h:=B5 14 (h:=Gi 15 (h:=z_ (h:=?_))))))))));refine AM ?_;exact⟨_,rfl,CA 4 0 (by simp[AY,AX,AW,By B4,BG,WA,IB,Co,Al,Ac,AB,Am,AT,Ao])⟩
   rintro S rfl;refine A4 rfl (fun hb4 hc4=>?_) (fun hb4 hc4=>?_)
   ·have k3:w.p.euid≠0∧w.p.euid≠n.uid:=by simpa using hc4
    refine BA (h:=Bu (?_));refine BU (r:= .v (.int .i64 (Ga w).2)) none (h5:=(by rw[hat,if_neg k1,if_pos k2,if_pos k3];exact A7 _)) (h6:=⟨rfl,rfl,?_⟩);rw[hat,if_neg k1,if_pos k2,if_pos k3];rfl
   have k3:¬(w.p.euid≠0∧w.p.euid≠n.uid):=by simpa using hc4
   refine AG (C5 (h:=Hd (h:=f_ (h:=?_))));refine A3 rfl (CB (len:=4) (sz:=1) (n:=0) (by kernel_rfl) rfl rfl rfl rfl ?_);refine l_ (h:=Cb (h:=D6 (h:=?_)));exact⟨_,⟨w.c.a0,n.uid,n.gid,(by rw[hat,if_neg k1,if_pos k2,if_neg k3]),rfl⟩,Cp 4 0⟩
  have k2:¬w.c.num=14:=hc2;refine Bv (h:=Dj (h:=Bn (h:=?_)));refine A4 rfl (fun hb5 hc5=>?_) (fun hb5 hc5=>?_)
  ·have k3:w.p.euid≠0:=by simpa using hc5
   refine BA (h:=Bu (?_));refine BU (r:= .v (.int .i64 (Ga w).2)) none (h5:=(by rw[hat,if_neg k1,if_neg k2,if_pos k3];exact A7 _)) (h6:=⟨rfl,rfl,?_⟩);rw[hat,if_neg k1,if_neg k2,if_pos k3];rfl
  have k3:¬w.p.euid≠0:=by simpa using hc5
  refine AG (BS ([(0,WA w cap),(1,IB w cap),(2,Al f)]) 16 (h:=AF 0 (h:=BM 1 (h:=AD 2 (h:=AD 3 (h:=?_))))));refine CC 4 rfl (fun _ hS=>CB (len:=4) (sz:=1) (n:=0) (by kernel_rfl) rfl rfl rfl rfl ⟨rfl,rfl⟩) ?_;refine AA 5 (h:=AF 6 (h:=BM 7 (h:=AD 8 (h:=AD 9 (h:=?_)))));refine CC 10 rfl (fun _ hS=>CB (len:=4) (sz:=1) (n:=1) (by kernel_rfl) rfl rfl rfl rfl ⟨rfl,rfl⟩) ?_;refine AA 11 (h:=AD 12 (h:=?_));refine Ak 13 (h:=AD 14 (h:=?_));refine Ak 15 (h:=z_ (h:=?_));refine AM ?_
  first|exact⟨_,⟨w.c.a0,n.uid,n.gid,(by rw[hat,if_neg k1,if_pos k2,if_neg k3]),rfl⟩,Cp 4 0⟩|exact⟨_,⟨n.mode,w.c.a0,w.c.a1,(by rw[hat,if_neg k1,if_neg k2,if_neg k3]),rfl⟩,Cp 4 0⟩
 rintro S ⟨m,u,g,hat2,rfl⟩;obtain⟨R,hR⟩:∃R,R=Fy w.s.spc.files f.file m u g:=⟨_,rfl⟩;have hset:AFn prog 176 [.agg (Ao w.s.spc.files), .agg (AB f.file), .v (.int .i64 m), .v (.int .i64 u), .v (.int .i64 g)] (fun r=>r=Pj R):=by rw[hR];exact j5 _ _ _ _ _ hv.files
 rw[←hR]at hat2;clear hR;refine B9 (fun S=>S=⟨look [(0, .bp 0 0),(6, .bp 4 0),(7, .v (.int .i64 R.2))],⟨[WA w cap,IB w cap,Al f,Ac {n with mode:=m,uid:=u,gid:=g},Ao R.1],[]⟩⟩) ?_ ?_
 ·skip
  refine BS ([(0,WA w cap),(1,IB w cap),(2,Al f),(3,Ac {n with mode:=m,uid:=u,gid:=g})]) 21 (h:=AF 0 (h:=BM 1 (h:=AD 2 (h:=AD 3 (h:=AD 4 (h:=AA 5 (h:=AD 6 (h:=AA 7 (h:=AD 8 (h:=AA 9 (h:=AD 10 (h:=AA 11 (h:=AD 12 (h:=AA 13 (h:=?_)))))))))))))));refine DS 14 18 rfl rfl ?_ ?_
  ·refine A8 (hset) ?_;rintro r rfl;refine o_ (h:=?_);refine AF 15 (h:=Ay 16 (h:=Ay 17 (h:=?_)));refine c_ 18 rfl (BV (by repeat constructor) ?_);refine o_ (h:=?_);refine Ak 19 (h:=BE 20 (h:=z_ (h:=?_)));refine AM ?_;exact⟨_,rfl,Cp 5 0⟩
  refine BV (by repeat constructor) ?_;refine o_ (h:=?_);refine c_ 14 rfl (A8 (hset) ?_);rintro r rfl;refine o_ (h:=AF 15 (h:=Ay 16 (h:=Ay 17 (h:=?_))));refine Ak 19 (h:=BE 20 (h:=z_ (h:=?_)));refine AM ?_;exact⟨_,rfl,Cp 5 0⟩
 rintro S rfl;refine Aa (h:=Gq (h:=?_));refine A3 rfl (Bm [0,1] rfl (.cons _ _ _ _ _ rfl (A7 _) (.cons _ _ _ _ _ rfl (A7 _) (.cons _ _ _ _ _ rfl (LeA.nil _) (.cons _ _ _ _ _ rfl (A7 _) .nil)))) (by decide) (.cons _ _ _ _ _ rfl rfl (.cons _ _ _ _ _ rfl (Df B4 _ _ _) .nil)) (Oi w cap R.1 [] R.2) ?_);rintro r bc tc ⟨rfl,rfl,rfl⟩;refine⟨rfl,_,E4 rfl (Bc w (R.1,[],R.2)).1 cap,?_⟩;refine BJ (h:=?_);refine BU (r:= .v (.int .i64 (Ga w).2)) none (h5:=(by rw[hat2,Li,oE];exact A7 _)) (h6:=⟨rfl,rfl,?_⟩);rw[hat2,Li];rfl
end
def DZ(t:Tab):Prop:=0≤t.next∧0≤t.nextS
theorem sG{t:Tab}{pid:Int}{j:Nat}{x:Prc}{acc:List Prc}(hy:t.ps[j]?=some x)(ha:((t.ps.take j).filter fun p=>decide (p.pid≠pid)).map (Jl pid)=acc):((t.ps.take (j+1)).filter fun p=>decide (p.pid≠pid)).map (Jl pid)=if x.pid≠pid then acc++[Jl pid x]else acc:=by
 rw[List.take_add_one,hy,List.filter_append,List.map_append,ha];by_cases h:x.pid=pid<;>simp[h]
section
theorem Uv(n:Int):AFn prog 251 [.v (.int .i64 n)] (fun r=>r= .v (.bool (Km n))):=by
 refine enter Tryz.func251 rfl rfl rfl rfl rfl 0 rfl ?_;refine Eh (h:=EJ (h:=m_ (h:=?_)));refine AJ true rfl rfl (fun hb1 hc1=>?_) (fun hb1 hc1=>?_)
 ·refine m_ (h:=K8 (h:=Gk (h:=?_)));refine A6 ?_
  first|(exfalso;first|contradiction|omega)|(exact vb (by simp[Km, *]))
 refine Hw (h:=BJ (h:=?_));refine A6 ?_
 first|(exfalso;first|contradiction|omega)|(exact vb (by simp[Km, *]))
theorem aZ(b:Bool)(x y n:Int):AFn prog 252 [.v (.bool b), .v (.int .i64 x), .v (.int .i64 y), .v (.int .i64 n)] (fun r=>r= .tup [.v (.int .i64 (FN b x y n).1), .v (.int .i64 (FN b x y n).2.1), .v (.int .i64 (FN b x y n).2.2)]):=by
 refine enter Tryz.func252 rfl rfl rfl rfl rfl 0 rfl ?_;refine w_ (a_ (h:=a_ (h:=Bw (h:=e_ (?_)))));refine A4 rfl (fun hb1 hc1=>?_) (fun hb1 hc1=>?_)
 ·refine E9 (h:=a_ (h:=EU (h:=?_)));refine A6 ?_
  first|(exfalso;first|contradiction|omega)|(unfold FN;simp[*];rfl)
 refine Dl (h:=DD (h:=m_ (h:=?_)));refine AJ false rfl rfl (fun hb2 hc2=>?_) (fun hb2 hc2=>?_)
 ·refine EK (h:=E9 (h:=a_ (h:=EU (h:=?_))));refine A6 ?_
  first|(exfalso;first|contradiction|omega)|(unfold FN;simp[*];rfl)
 refine m_ (h:=DD (h:=CV (h:=?_)));refine A4 rfl (fun hb3 hc3=>?_) (fun hb3 hc3=>?_)
 ·refine E9 (h:=a_ (h:=EU (h:=?_)));refine A6 ?_
  first|(exfalso;first|contradiction|omega)|(unfold FN;simp[*];rfl)
 refine AG (w_ (a_ (h:=a_ (h:=BJ (h:=?_)))));refine A6 ?_
 first|(exfalso;first|contradiction|omega)|(unfold FN;simp[*];rfl)
theorem sH(t:Tab)(pid:Int)(a:A9)(ht:TabB t):AFn prog 206 [.agg (Am t), .v (.int .i64 pid), .agg (AB a)] (fun r=>r=Cu (LF t pid a)):=by
 have h8:=Jt ht pid;refine enter Tryz.func206 rfl rfl rfl rfl rfl 0 rfl ?_;refine Jb (h:=FF (h:=?_));refine A3 rfl (A8 (KM t pid ht) ?_);rintro r rfl;refine Gm (h:=?_);refine A4 rfl (fun hb1 hc1=>?_) (fun hb1 hc1=>?_)
 ·have hno:CP t pid=false:=by simpa using hc1
  refine Br (h:=?_);refine AZ (r:=Cu (LF t pid a)) none (h5:=?_) (h6:=⟨rfl,rfl,rfl⟩);rw[LF,if_pos hno];exact G9 _
 have hhas:CP t pid=true:=by simpa using hc1
 refine AG (CF (h:=D7 (h:=CG (h:=?_))));refine A3 rfl (A8 (Nk t {AQ t pid with cwd:=a} ht (Mw hhas) (by show(AQ t pid).opens.length≤1000;omega)) ?_);rintro r rfl;refine s_ (h:=BJ (h:=?_));refine A6 ?_;rw[LF,if_neg (by simp[hhas])];rfl
theorem sK(t:Tab)(pid:Int)(x y:AE)(ht:TabB t):AFn prog 205 [.agg (Am t), .v (.int .i64 pid), .v (.string x), .v (.string y)] (fun r=>r=Cu (LG t pid x y)):=by
 have h8:=Jt ht pid;refine enter Tryz.func205 rfl rfl rfl rfl rfl 0 rfl ?_;refine C6 (h:=Ja (h:=FF (h:=?_)));refine A3 rfl (A8 (KM t pid ht) ?_);rintro r rfl;refine Gm (h:=?_);refine A4 rfl (fun hb1 hc1=>?_) (fun hb1 hc1=>?_)
 ·have hno:CP t pid=false:=by simpa using hc1
  refine Br (h:=?_);refine AZ (r:=Cu (LG t pid x y)) none (h5:=?_) (h6:=⟨rfl,rfl,rfl⟩);rw[LG,if_pos hno];exact G9 _
 have hhas:CP t pid=true:=by simpa using hc1
 refine AG (E9 (h:=Cb (h:=D7 (h:=CG (h:=?_)))));refine A3 rfl (A8 (Nk t {AQ t pid with exe:=x,comm:=y} ht (Mw hhas) (by show(AQ t pid).opens.length≤1000;omega)) ?_);rintro r rfl;refine s_ (h:=BJ (h:=?_));refine A6 ?_;rw[LG,if_neg (by simp[hhas])];rfl
theorem sL(t:Tab)(pid u:Int)(ht:TabB t):AFn prog 209 [.agg (Am t), .v (.int .i64 pid), .v (.int .i64 u)] (fun r=>r=Cu (Jn t pid u)):=by
 have h8:=Jt ht pid;refine enter Tryz.func209 rfl rfl rfl rfl rfl 0 rfl ?_;refine C6 (h:=Ja (h:=FF (h:=?_)));refine A3 rfl (A8 (KM t pid ht) ?_);rintro r rfl;refine Gm (h:=?_);refine A4 rfl (fun hb1 hc1=>?_) (fun hb1 hc1=>?_)
 ·have hno:CP t pid=false:=by simpa using hc1
  refine Br (h:=?_);refine AZ (r:=Cu (Jn t pid u)) none (h5:=?_) (h6:=⟨rfl,rfl,rfl⟩);rw[Jn,if_pos hno];exact G9 _
 have hhas:CP t pid=true:=by simpa using hc1
 refine Dl (h:=?_);refine A3 rfl (A8 (Uv u) ?_);rintro r rfl;refine DE (h:=?_);refine A4 rfl (fun hb2 hc2=>?_) (fun hb2 hc2=>?_)
 ·have hid:Km u=false:=by simpa using hc2
  refine Br (h:=?_);refine AZ (r:=Cu (Jn t pid u)) none (h5:=?_) (h6:=⟨rfl,rfl,rfl⟩);rw[Jn,if_neg (by simp[hhas]),if_pos hid];exact G9 _
 have hid:¬Km u=false:=by simpa using hc2
 refine AG (Cw (h:=Az (h:=EH (h:=Ab (h:=Gj (h:=?_))))));refine A3 rfl (A8 (aZ (decide ((AQ t pid).euid=0)) (AQ t pid).uid (AQ t pid).euid u) ?_);rintro r rfl;refine GJ (h:=x_ (h:=Cb (h:=Cb (h:=Bw (h:=Bn (h:=?_))))));refine A4 rfl (fun hb3 hc3=>?_) (fun hb3 hc3=>?_)
 ·have hce:(FN (decide ((AQ t pid).euid=0)) (AQ t pid).uid (AQ t pid).euid u).2.2≠0:=by simpa using hc3
  refine w_ (Gr (h:=E8 (h:=?_)));refine AZ (r:=Cu (Jn t pid u)) none (h5:=?_) (h6:=⟨rfl,rfl,rfl⟩);rw[Jn,if_neg (by simp[hhas]),if_neg hid,if_pos hce];exact G9 _
 have hce:¬(FN (decide ((AQ t pid).euid=0)) (AQ t pid).uid (AQ t pid).euid u).2.2≠0:=by simpa using hc3
 refine AG (CG (h:=?_));refine A3 rfl (A8 (Nk t {AQ t pid with uid:=(FN (decide ((AQ t pid).euid=0)) (AQ t pid).uid (AQ t pid).euid u).1,euid:=(FN (decide ((AQ t pid).euid=0)) (AQ t pid).uid (AQ t pid).euid u).2.1} ht (Mw hhas) (by show(AQ t pid).opens.length≤1000;omega)) ?_);rintro r rfl;refine s_ (h:=BJ (h:=?_));refine A6 ?_;rw[Jn,if_neg (by simp[hhas]),if_neg hid,if_neg hce];rfl
theorem sM(t:Tab)(pid u:Int)(ht:TabB t):AFn prog 210 [.agg (Am t), .v (.int .i64 pid), .v (.int .i64 u)] (fun r=>r=Cu (Jo t pid u)):=by
 have h8:=Jt ht pid;refine enter Tryz.func210 rfl rfl rfl rfl rfl 0 rfl ?_;refine C6 (h:=Ja (h:=FF (h:=?_)));refine A3 rfl (A8 (KM t pid ht) ?_);rintro r rfl;refine Gm (h:=?_);refine A4 rfl (fun hb1 hc1=>?_) (fun hb1 hc1=>?_)
 ·have hno:CP t pid=false:=by simpa using hc1
  refine Br (h:=?_);refine AZ (r:=Cu (Jo t pid u)) none (h5:=?_) (h6:=⟨rfl,rfl,rfl⟩);rw[Jo,if_pos hno];exact G9 _
 have hhas:CP t pid=true:=by simpa using hc1
 refine Dl (h:=?_);refine A3 rfl (A8 (Uv u) ?_);rintro r rfl;refine DE (h:=?_);refine A4 rfl (fun hb2 hc2=>?_) (fun hb2 hc2=>?_)
 ·have hid:Km u=false:=by simpa using hc2
  refine Br (h:=?_);refine AZ (r:=Cu (Jo t pid u)) none (h5:=?_) (h6:=⟨rfl,rfl,rfl⟩);rw[Jo,if_neg (by simp[hhas]),if_pos hid];exact G9 _
 have hid:¬Km u=false:=by simpa using hc2
 refine AG (Cw (h:=Az (h:=EH (h:=Ab (h:=Gj (h:=?_))))));refine A3 rfl (A8 (aZ (decide ((AQ t pid).euid=0)) (AQ t pid).gid (AQ t pid).egid u) ?_);rintro r rfl;refine GJ (h:=x_ (h:=Cb (h:=Cb (h:=Bw (h:=Bn (h:=?_))))));refine A4 rfl (fun hb3 hc3=>?_) (fun hb3 hc3=>?_)
 ·have hce:(FN (decide ((AQ t pid).euid=0)) (AQ t pid).gid (AQ t pid).egid u).2.2≠0:=by simpa using hc3
  refine w_ (Gr (h:=E8 (h:=?_)));refine AZ (r:=Cu (Jo t pid u)) none (h5:=?_) (h6:=⟨rfl,rfl,rfl⟩);rw[Jo,if_neg (by simp[hhas]),if_neg hid,if_pos hce];exact G9 _
 have hce:¬(FN (decide ((AQ t pid).euid=0)) (AQ t pid).gid (AQ t pid).egid u).2.2≠0:=by simpa using hc3
 refine AG (CG (h:=?_));refine A3 rfl (A8 (Nk t {AQ t pid with gid:=(FN (decide ((AQ t pid).euid=0)) (AQ t pid).gid (AQ t pid).egid u).1,egid:=(FN (decide ((AQ t pid).euid=0)) (AQ t pid).gid (AQ t pid).egid u).2.1} ht (Mw hhas) (by show(AQ t pid).opens.length≤1000;omega)) ?_);rintro r rfl;refine s_ (h:=BJ (h:=?_));refine A6 ?_;rw[Jo,if_neg (by simp[hhas]),if_neg hid,if_neg hce];rfl
theorem sN(t:Tab)(pid u:Int)(ht:TabB t)(hn:DZ t):AFn prog 211 [.agg (Am t), .v (.int .i64 pid), .v (.int .i64 u)] (fun r=>r=Cu (GY t pid u)):=by
 have h8:=Jt ht pid;have hn1:=hn.2;have hn2:=ht.nextS;obtain⟨tp,htp⟩:∃x,x=JQ t {AQ t pid with auid:=u,ses:=t.nextS}:=⟨_,rfl⟩;have e1:tp.nextS=t.nextS:=by rw[htp];rfl
 have hput:CP t pid=true→AFn prog 250 [.agg (Am t), .agg (Au {AQ t pid with auid:=u,ses:=t.nextS})] (fun r=>r= .agg (Am tp)):=fun h=>by rw[htp];exact Nk t _ ht (Mw h) (by show(AQ t pid).opens.length≤1000;omega)
 refine enter Tryz.func211 rfl rfl rfl rfl rfl 0 rfl ?_;refine C6 (h:=Ja (h:=FF (h:=?_)));refine A3 rfl (A8 (KM t pid ht) ?_);rintro r rfl;refine Gm (h:=?_);refine A4 rfl (fun hb1 hc1=>?_) (fun hb1 hc1=>?_)
 ·have hno:CP t pid=false:=by simpa using hc1
  refine Br (h:=?_);refine AZ (r:=Cu (GY t pid u)) none (h5:=?_) (h6:=⟨rfl,rfl,rfl⟩);rw[GY,if_pos hno];exact G9 _
 have hhas:CP t pid=true:=by simpa using hc1
 refine Dl (h:=?_);refine A3 rfl (A8 (Uv u) ?_);rintro r rfl;refine DE (h:=?_);refine A4 rfl (fun hb2 hc2=>?_) (fun hb2 hc2=>?_)
 ·have hid:Km u=false:=by simpa using hc2
  refine Br (h:=?_);refine AZ (r:=Cu (GY t pid u)) none (h5:=?_) (h6:=⟨rfl,rfl,rfl⟩);rw[GY,if_neg (by simp[hhas]),if_pos hid];exact G9 _
 have hid:¬Km u=false:=by simpa using hc2
 refine D8 (h:=FW (h:=?_));refine AJ true rfl rfl (fun hb3 hc3=>?_) (fun hb3 hc3=>?_)
 ·refine D5 (h:=Bj (h:=e_ (?_)));refine A4 rfl (fun hb4 hc4=>?_) (fun hb4 hc4=>?_)
  ·refine Br (h:=?_);refine AZ (r:=Cu (GY t pid u)) none (h5:=?_) (h6:=⟨rfl,rfl,rfl⟩);rw[GY,if_neg (by simp[hhas]),if_neg hid,if_pos (by first|assumption|omega)];exact G9 _
  refine D8 (h:=BN (h:=?_));refine A4 rfl (fun hb5 hc5=>?_) (fun hb5 hc5=>?_)
  ·have hse:t.nextS=1073741824:=hc5;refine Br (h:=?_);refine AZ (r:=Cu (GY t pid u)) none (h5:=?_) (h6:=⟨rfl,rfl,rfl⟩);rw[GY,if_neg (by simp[hhas]),if_neg hid,if_neg (by first|assumption|omega),if_pos hse];exact G9 _
  have hse:¬t.nextS=1073741824:=hc5;refine AG (q_ (BS ([(0,Am t),(1,DX)]) 7 (h:=AF 0 (h:=AD 1 (h:=AA 2 (h:=AD 3 (h:=?_)))))));refine Ak 4 (h:=AD 5 (h:=?_));refine Ak 6 (h:=z_ (h:=t_ (w_ (l_ (h:=l_ (h:=?_))))));refine A3 rfl (A8 (hput hhas) ?_);rintro r rfl;refine Dk (h:=Az (h:=ES (h:=D7 (h:=HL (h:=?_)))));refine A6 ?_;rw[GY,if_neg (by simp[hhas]),if_neg hid,if_neg (by first|assumption|omega),if_neg hse,←htp,←e1];exact congrArg (fun n=>AV.tup [.agg [.v (.int .i64 n), .v (.int .i64 (tp.nextS+1)), .sl 14 (tp.ps.map Au) none], .v (.int .i64 0)]) (by rw[htp];rfl)
 refine DC (h:=e_ (JH (h:=D8 (h:=BN (h:=?_)))));refine A4 rfl (fun hb6 hc6=>?_) (fun hb6 hc6=>?_)
 ·have hse:t.nextS=1073741824:=hc6;refine Br (h:=?_);refine AZ (r:=Cu (GY t pid u)) none (h5:=?_) (h6:=⟨rfl,rfl,rfl⟩);rw[GY,if_neg (by simp[hhas]),if_neg hid,if_neg (by first|assumption|omega),if_pos hse];exact G9 _
 have hse:¬t.nextS=1073741824:=hc6;refine AG (q_ (BS ([(0,Am t),(1,DX)]) 7 (h:=AF 0 (h:=AD 1 (h:=AA 2 (h:=AD 3 (h:=?_)))))));refine Ak 4 (h:=AD 5 (h:=?_));refine Ak 6 (h:=z_ (h:=t_ (w_ (l_ (h:=l_ (h:=?_))))));refine A3 rfl (A8 (hput hhas) ?_);rintro r rfl;refine Dk (h:=Az (h:=ES (h:=D7 (h:=HL (h:=?_)))));refine A6 ?_;rw[GY,if_neg (by simp[hhas]),if_neg hid,if_neg (by first|assumption|omega),if_neg hse,←htp,←e1];exact congrArg (fun n=>AV.tup [.agg [.v (.int .i64 n), .v (.int .i64 (tp.nextS+1)), .sl 14 (tp.ps.map Au) none], .v (.int .i64 0)]) (by rw[htp];rfl)
theorem sO(t:Tab)(pid fd:Int)(ht:TabB t):AFn prog 212 [.agg (Am t), .v (.int .i64 pid), .v (.int .i64 fd)] (fun r=>r=Cu (Kn t pid fd)):=by
 have h8:=Jt ht pid;have hol:((AQ t pid).opens.map J8).length=(AQ t pid).opens.length:=List.length_map _;refine enter Tryz.func212 rfl rfl rfl rfl rfl 0 rfl ?_;refine C6 (h:=Ja (h:=FF (h:=?_)));refine A3 rfl (A8 (KM t pid ht) ?_);rintro r rfl;refine Gm (h:=?_);refine A4 rfl (fun hb1 hc1=>?_) (fun hb1 hc1=>?_)
 ·have hno:CP t pid=false:=by simpa using hc1
  refine Br (h:=?_);refine AZ (r:=Cu (Kn t pid fd)) none (h5:=?_) (h6:=⟨rfl,rfl,rfl⟩);rw[Kn,if_pos hno];exact G9 _
 have hhas:CP t pid=true:=by simpa using hc1
 refine AG (Cw (h:=CW (h:=?_)));refine MS 10 291 4 rfl (by repeat constructor) ?_;refine BR (fun m s=>∃(j:Nat) (acc:List Dsc),j≤(AQ t pid).opens.length∧m=(AQ t pid).opens.length - j∧((AQ t pid).opens.take j).filter (fun d=>decide (d.fd≠fd))=acc∧acc.length≤j∧s=⟨look [(2, .v (.int .i64 fd)),(3, .bp 0 0),(6, .bp 1 0),(8, .bp 2 0),(10, .sl 4 (acc.map J8) (some 0)),(11, .v (.int .i64 (j:Int)))],⟨[Am t,DX,Au (AQ t pid)],[(291,4,acc.map J8)]⟩⟩) ((AQ t pid).opens.length) ((wk 3 1)) (⟨0,[],BK _,rfl,rfl,B6 _,rfl⟩) ?_;rintro m s ⟨j,acc,hj,rfl,hacc,hal,rfl⟩;refine GN (h:=?_);refine A4 rfl (fun hb2 hc2=>?_) (fun hb2 hc2=>?_)
 ·obtain⟨hlt,x,hy,hrow, -⟩:=Bz J8 hc2;refine C2 (h:=Fu (h:=Gj (h:=Bn (h:=?_))));refine A4 rfl (fun hb3 hc3=>?_) (fun hb3 hc3=>?_)
  ·have hne:x.fd≠fd:=by simpa using hc3
   have hk:((AQ t pid).opens.take (j+1)).filter (fun d=>decide (d.fd≠fd))=acc++[x]:=by rw[List.take_add_one,hy,List.filter_append,hacc];simp[hne]
   refine C5 (h:=Ab (h:=JJ (h:=l_ (h:=BY (h:=?_)))));refine A3 rfl (Dr rfl rfl rfl (by simp;omega) (by repeat constructor) ?_);refine HG (h:=FD (h:=?_));exact⟨(AQ t pid).opens.length - (j+1),_,by omega,⟨j+1,acc++[x],by omega,rfl,hk,by simp;omega,rfl⟩,(by rw[List.map_append];exact Ai 3 1 rfl rfl rfl rfl ((by repeat (first|exact Sub.nil|refine Aj rfl rfl ?_|refine Ap ?_|refine Aq rfl ?_|refine Ar rfl ?_))))⟩
  have hne:x.fd=fd:=by simpa using hc3
  have hk:((AQ t pid).opens.take (j+1)).filter (fun d=>decide (d.fd≠fd))=acc:=by rw[List.take_add_one,hy,List.filter_append,hacc];simp[hne]
  refine DL (h:=?_)
  first|exact⟨(AQ t pid).opens.length - (j+1),_,by omega,⟨j+1,acc++[x],by omega,rfl,hk,by simp;omega,rfl⟩,(by rw[List.map_append];exact Ai 3 1 rfl rfl rfl rfl ((by repeat (first|exact Sub.nil|refine Aj rfl rfl ?_|refine Ap ?_|refine Aq rfl ?_|refine Ar rfl ?_))))⟩|exact⟨(AQ t pid).opens.length - (j+1),_,by omega,⟨j+1,acc,by omega,rfl,hk,by omega,rfl⟩,Ai 3 1 rfl rfl rfl rfl ((by repeat (first|exact Sub.nil|refine Aj rfl rfl ?_|refine Ap ?_|refine Aq rfl ?_|refine Ar rfl ?_)))⟩
 have e:=CD J8 hj hc2;subst e;rw[List.take_length]at hacc;refine CK (h:=Bv (h:=n_ (h:=Ef (h:=BN (h:=?_)))));refine A4 rfl (fun hb4 hc4=>?_) (fun hb4 hc4=>?_)
 ·have hln:(((AQ t pid).opens.filter fun d=>decide (d.fd≠fd)).length:Int)=((AQ t pid).opens.length:Int):=by rw[hacc];simpa using hc4
  refine Br (h:=?_);refine AZ (r:=Cu (Kn t pid fd)) none (h5:=?_) (h6:=⟨rfl,rfl,rfl⟩);rw[Kn,if_neg (by simp[hhas]),if_pos hln];exact G9 _
 have hln:¬(((AQ t pid).opens.filter fun d=>decide (d.fd≠fd)).length:Int)=((AQ t pid).opens.length:Int):=by rw[hacc];simpa using hc4
 refine AG (Aa (h:=D7 (h:=CF (h:=?_))));refine A3 rfl (Hk (y:= .agg (Au {AQ t pid with opens:=(AQ t pid).opens.filter fun d=>decide (d.fd≠fd)})) (KY rfl rfl rfl ⟨rfl,rfl⟩) (ZB _ _ _ _ (by rw[hacc])) ?_);refine A3 rfl (A8 (Nk t {AQ t pid with opens:=(AQ t pid).opens.filter fun d=>decide (d.fd≠fd)} ht (Mw hhas) (by have:=List.length_filter_le (fun d:Dsc=>decide (d.fd≠fd)) (AQ t pid).opens;show((AQ t pid).opens.filter _).length≤1000;omega)) ?_);rintro r rfl;refine s_ (h:=BJ (h:=?_));refine A6 ?_;rw[Kn,if_neg (by simp[hhas]),if_neg hln];rfl
theorem b6(t:Tab)(pid:Int)(ht:TabB t):AFn prog 208 [.agg (Am t), .v (.int .i64 pid)] (fun r=>r=Cu (Jm t pid)):=by
 have hfew:=ht.few;refine enter Tryz.func208 rfl rfl rfl rfl rfl 0 rfl ?_;refine C6 (h:=Ja (h:=q_ (FF (h:=?_))));refine A3 rfl (A8 (KM t pid ht) ?_);rintro r rfl;refine Ee (h:=C4 (h:=DE (h:=?_)));refine A4 rfl (fun hb1 hc1=>?_) (fun hb1 hc1=>?_)
 ·have hno:CP t pid=false:=by simpa using hc1
  refine Br (h:=?_);refine AZ (r:=Cu (Jm t pid)) none (h5:=?_) (h6:=⟨rfl,rfl,rfl⟩);rw[Jm,if_pos hno];exact G9 _
 have hhas:CP t pid=true:=by simpa using hc1
 refine Dl (h:=BN (h:=?_));refine A4 rfl (fun hb2 hc2=>?_) (fun hb2 hc2=>?_)
 ·have h1:pid=1:=hc2;refine Br (h:=?_);refine AZ (r:=Cu (Jm t pid)) none (h5:=?_) (h6:=⟨rfl,rfl,rfl⟩);rw[Jm,if_neg (by simp[hhas]),if_pos h1];exact G9 _
 have h1:¬pid=1:=hc2;refine AG (Hs (h:=Bq (h:=Dk (h:=CW (h:=?_)))));refine K5 3 2 29 14 rfl rfl (by repeat constructor) (by repeat constructor) (by repeat constructor) ?_;refine BR (fun m s=>∃(j:Nat) (acc:List Prc),j≤t.ps.length∧m=t.ps.length - j∧((t.ps.take j).filter fun p=>decide (p.pid≠pid)).map (Jl pid)=acc∧acc.length≤j∧s=⟨look [(1, .v (.int .i64 pid)),(2, .bp 0 0),(4, .bp 1 0),(8, .bp 3 0),(9, .v (.int .i64 (j:Int)))],⟨[Am t,DX,Au (AQ t pid),DY t (.sl 14 (acc.map Au) (some 0))],[(29,14,acc.map Au)]⟩⟩) (t.ps.length) ((wk 4 1)) (⟨0,[],BK _,rfl,rfl,B6 _,rfl⟩) ?_;rintro m s ⟨j,acc,hj,rfl,hacc,hal,rfl⟩;refine GN (h:=?_);refine A4 rfl (fun hb3 hc3=>?_) (fun hb3 hc3=>?_)
 ·obtain⟨hlt,x,hy,hrow, -⟩:=Bz Au hc3;have hop:x.opens.length≤1000:=by have:=ht.opens x (Ag hy);omega
  have hk:=sG hy hacc;refine C2 (h:=Fu (h:=l_ (h:=?_)));refine A3 rfl (A8 (Px x hop) ?_);rintro r rfl;refine Dk (h:=?_);refine B9 (fun s=>s=⟨look [(1, .v (.int .i64 pid)),(2, .bp 0 0),(4, .bp 1 0),(8, .bp 3 0),(9, .v (.int .i64 (j:Int))),(10, .bp 4 0)],⟨[Am t,DX,Au (AQ t pid),DY t (.sl 14 (acc.map Au) (some 0)),Au (Jl pid x)],[(29,14,acc.map Au)]⟩⟩) ?_ ?_
  ·skip
   refine Az (h:=m_ (h:=BN (h:=?_)));refine A4 rfl (fun hb4 hc4=>?_) (fun hb4 hc4=>?_)
   ·have hpp:x.ppid=pid:=hc4;refine Av (Cb (h:=D6 (h:=?_)));refine⟨_,rfl,?_⟩;unfold Jl
    (rw[if_pos hpp];exact Ai 5 1 rfl rfl rfl rfl ((by repeat (first|exact Sub.nil|refine Aj rfl rfl ?_|refine Ap ?_|refine Aq rfl ?_|refine Ar rfl ?_))))
   have hpp:¬x.ppid=pid:=hc4;refine BF (AM (?_));refine⟨_,rfl,?_⟩;unfold Jl
   first|(rw[if_pos hpp];exact Ai 5 1 rfl rfl rfl rfl ((by repeat (first|exact Sub.nil|refine Aj rfl rfl ?_|refine Ap ?_|refine Aq rfl ?_|refine Ar rfl ?_))))|(rw[if_neg hpp];exact Ai 5 1 rfl rfl rfl rfl ((by repeat (first|exact Sub.nil|refine Aj rfl rfl ?_|refine Ap ?_|refine Aq rfl ?_|refine Ar rfl ?_))))
  rintro s rfl;have hop2:(Jl pid x).pid=x.pid:=by unfold Jl;split<;>rfl
  refine Az (h:=m_ (h:=Bn (h:=?_)));refine A4 rfl (fun hb5 hc5=>?_) (fun hb5 hc5=>?_)
  ·have hpe:x.pid≠pid:=by rw[←hop2];simpa using hc5
   rw[if_pos hpe]at hk;refine Av (Ab (h:=l_ (h:=BY (h:=?_))));refine A3 rfl (Dr rfl rfl rfl (by simp;omega) (by repeat constructor) ?_);refine Cb (h:=C1 (FD (h:=?_)));exact⟨t.ps.length - (j+1),_,by omega,⟨j+1,acc++[Jl pid x],by omega,rfl,hk,by simp;omega,rfl⟩,(by rw[List.map_append];exact Ai 4 1 rfl rfl rfl rfl ((by repeat (first|exact Sub.nil|refine Aj rfl rfl ?_|refine Ap ?_|refine Aq rfl ?_|refine Ar rfl ?_))))⟩
  have hpe:¬x.pid≠pid:=by rw[←hop2];simpa using hc5
  rw[if_neg hpe]at hk;refine DL (h:=?_)
  first|exact⟨t.ps.length - (j+1),_,by omega,⟨j+1,acc++[Jl pid x],by omega,rfl,hk,by simp;omega,rfl⟩,(by rw[List.map_append];exact Ai 4 1 rfl rfl rfl rfl ((by repeat (first|exact Sub.nil|refine Aj rfl rfl ?_|refine Ap ?_|refine Aq rfl ?_|refine Ar rfl ?_))))⟩|exact⟨t.ps.length - (j+1),_,by omega,⟨j+1,acc,by omega,rfl,hk,by omega,rfl⟩,Ai 4 1 rfl rfl rfl rfl ((by repeat (first|exact Sub.nil|refine Aj rfl rfl ?_|refine Ap ?_|refine Aq rfl ?_|refine Ar rfl ?_)))⟩
 have e:=CD Au hj hc3;subst e;rw[List.take_length]at hacc;refine CK (h:=HL (h:=?_));refine AZ (r:=Cu (Jm t pid)) none (h5:=?_) (h6:=⟨rfl,rfl,rfl⟩);rw[Jm,if_neg (by simp[hhas]),if_neg h1,hacc];exact LeA.tup (.cons (LeA.agg (.cons (A7 _) (.cons (A7 _) (.cons (LeA.tok _ _ _) .nil)))) (.cons (A7 _) .nil))
theorem sP(t:Tab)(pid q:Int)(b:Bool)(ht:TabB t):AFn prog 214 [.agg (Am t), .v (.int .i64 pid), .v (.int .i64 q), .v (.bool b)] (fun r=>r=Cu (JR t pid q b)):=by
 refine enter Tryz.func214 rfl rfl rfl rfl rfl 0 rfl ?_;refine C6 (h:=Ja (h:=FF (h:=?_)));refine A3 rfl (A8 (KM t pid ht) ?_);rintro r rfl;refine Gm (h:=?_);refine A4 rfl (fun hb1 hc1=>?_) (fun hb1 hc1=>?_)
 ·have hno:CP t pid=false:=by simpa using hc1
  refine Br (h:=?_);refine AZ (r:=Cu (JR t pid q b)) none (h5:=?_) (h6:=⟨rfl,rfl,rfl⟩);rw[JR,if_pos hno];exact G9 _
 have hhas:CP t pid=true:=by simpa using hc1
 refine AG (FF (h:=?_));refine A3 rfl (A8 (KM t q ht) ?_);rintro r rfl;refine Gm (h:=?_);refine A4 rfl (fun hb2 hc2=>?_) (fun hb2 hc2=>?_)
 ·have hno2:CP t q=false:=by simpa using hc2
  refine Br (h:=?_);refine AZ (r:=Cu (JR t pid q b)) none (h5:=?_) (h6:=⟨rfl,rfl,rfl⟩);rw[JR,if_neg (by simp[hhas]),if_pos hno2];exact G9 _
 have hhas2:CP t q=true:=by simpa using hc2
 refine FY (h:=?_);refine B9 (fun S=>S=⟨look [(2, .v (.int .i64 q)),(3, .v (.bool b)),(4, .bp 0 0),(8, .bp 1 0),(44, .v (.bool (decide (q=1∨(AQ t pid).euid≠0∧(AQ t pid).euid≠(AQ t q).uid))))],⟨[Am t,DX],[]⟩⟩) ?_ ?_
 ·skip
  refine C5 (h:=E1 (h:=?_));refine AJ false rfl rfl (fun hb3 hc3=>?_) (fun hb3 hc3=>?_)
  ·refine BT (h:=NJ (h:=Lx (h:=Dg (h:=Je (h:=?_)))));exact⟨_,rfl,CA 2 0 rfl⟩
  refine JM (h:=?_);refine AJ true rfl rfl (fun hb4 hc4=>?_) (fun hb4 hc4=>?_)
  ·refine Ab (h:=D5 (h:=Bj (h:=FX (h:=?_))));exact⟨_,rfl,CA 2 0 rfl⟩
  refine BD (h:=DC (h:=FX (h:=?_)));exact⟨_,rfl,CA 2 0 rfl⟩
 rintro S rfl;refine A4 rfl (fun hb5 hc5=>?_) (fun hb5 hc5=>?_)
 ·refine Br (h:=?_);refine AZ (r:=Cu (JR t pid q b)) none (h5:=?_) (h6:=⟨rfl,rfl,rfl⟩);rw[JR,if_neg (by simp[hhas]),if_neg (by simp[hhas2]),if_pos (by first|assumption|simpa using ‹_›)];exact G9 _
 refine Dl (h:=e_ (?_));refine A4 rfl (fun hb6 hc6=>?_) (fun hb6 hc6=>?_)
 ·have hb:b=true:=hc6;refine FF (h:=?_);refine A3 rfl (A8 (b6 t q ht) ?_);rintro r rfl;refine L5 (h:=s_ (h:=E8 (h:=?_)));refine A6 ?_;rw[JR,if_neg (by simp[hhas]),if_neg (by simp[hhas2]),if_neg (by first|assumption|simpa using ‹_›),if_pos hb];rfl
 have hb:¬b=true:=by simpa using hc6
 refine AG (CF (h:=?_));refine A3 rfl (A8 (Yf t ht) ?_);rintro r rfl;refine s_ (h:=BJ (h:=?_));refine A6 ?_;rw[JR,if_neg (by simp[hhas]),if_neg (by simp[hhas2]),if_neg (by first|assumption|simpa using ‹_›),if_neg hb];rfl
theorem sQ(t:Tab)(pid:Int)(ht:TabB t)(hn:DZ t):AFn prog 207 [.agg (Am t), .v (.int .i64 pid)] (fun r=>r=MD (Gy t pid)):=by
 have hfew:=ht.few;have hn1:=hn.1;have hn2:=ht.next;have hpl:(t.ps.map Au).length=t.ps.length:=List.length_map _;obtain⟨p,hp⟩:∃p:Prc,p={AQ t pid with pid:=t.next,ppid:=pid}:=⟨_,rfl⟩;have hlen:(t.ps++[p]).length=t.ps.length+1:=by simp
 obtain⟨tF,htF⟩:∃x:Tab,x=⟨t.next+1,t.nextS,t.ps++[p]⟩:=⟨_,rfl⟩;refine enter Tryz.func207 rfl rfl rfl rfl rfl 0 rfl ?_;refine C6 (h:=Dt (h:=a_ (h:=B7 (h:=FF (h:=?_)))));refine A3 rfl (A8 (KM t pid ht) ?_);rintro r rfl;refine Gm (h:=?_);refine A4 rfl (fun hb1 hc1=>?_) (fun hb1 hc1=>?_)
 ·have hno:CP t pid=false:=by simpa using hc1
  refine FG (h:=?_);refine AZ (r:=MD (Gy t pid)) none (h5:=?_) (h6:=⟨rfl,rfl,rfl⟩);rw[Gy,if_pos hno];exact Q0 _ _
 have hhas:CP t pid=true:=by simpa using hc1
 refine D8 (h:=n_ (h:=EJ (h:=m_ (h:=?_))));refine AJ false rfl rfl (fun hb2 hc2=>?_) (fun hb2 hc2=>?_)
 ·refine EK (h:=FG (h:=?_));refine AZ (r:=MD (Gy t pid)) none (h5:=?_) (h6:=⟨rfl,rfl,rfl⟩);rw[Gy,if_neg (by simp[hhas]),if_pos (by first|assumption|omega)];exact Q0 _ _
 refine Cx (h:=CV (h:=?_));refine A4 rfl (fun hb3 hc3=>?_) (fun hb3 hc3=>?_)
 ·refine FG (h:=?_);refine AZ (r:=MD (Gy t pid)) none (h5:=?_) (h6:=⟨rfl,rfl,rfl⟩);rw[Gy,if_neg (by simp[hhas]),if_pos (by first|assumption|omega)];exact Q0 _ _
 refine AG (?_);refine B9 (fun s=>s=⟨look [(2, .bp 0 0),(4, .bp 1 0),(7, .bp 2 0)],⟨[Am t,DX,Au p],[]⟩⟩) ?_ ?_
 ·skip
  refine Av (Gj (h:=Cb (h:=Cb (h:=D6 (h:=?_)))));rw[hp];exact⟨_,rfl,Ai 3 0 rfl rfl rfl rfl ((by repeat (first|exact Sub.nil|refine Aj rfl rfl ?_|refine Ap ?_|refine Aq rfl ?_|refine Ar rfl ?_)))⟩
 rintro s rfl;refine B9 (fun s=>∃cap,t.ps.length≤cap∧s=⟨look [(4, .bp 1 0),(7, .bp 2 0),(9, .bp 3 0)],⟨[Am t,DX,Au p,DY t (.bs 4 0 14 t.ps.length cap),LB 14 Au t.ps cap],[]⟩⟩) ?_ ?_
 ·skip
  refine Av (l_ (h:=?_));refine A3 rfl (Bm [] rfl (.cons _ _ _ _ _ rfl (A7 _) .nil) (by decide) .nil (Yg t ht (Mw hhas)) ?_);rintro r bc tc ⟨rfl,cap,hcap,rfl,rfl⟩;refine⟨rfl,_,(Ye (n:=3) rfl t cap:Back _ [] _ [_,_,_,_,_,_,_]),?_⟩;refine NH (h:=D6 (h:=?_));exact⟨_,⟨cap,hcap,rfl⟩,GG [0,1,2,7,6] (fun i hi=>absurd hi (Nat.not_lt_zero i)) (by decide) (.cons _ _ _ _ _ rfl rfl (.cons _ _ _ _ _ rfl rfl (.cons _ _ _ _ _ rfl rfl (.cons _ _ _ _ _ rfl rfl (.cons _ _ _ _ _ rfl (MA Ek _ _ _) .nil))))) (by repeat (first|exact SubK.nil|refine SubK.cons _ _ _ _ rfl (A7 _) ?_))⟩
 rintro s ⟨cap,hcp,rfl⟩;refine Az (h:=ES (h:=D7 (h:=?_)));refine B9 (fun s=>s=⟨look [(4, .bp 1 0),(7, .bp 2 0),(9, .bp 3 0)],⟨[Am t,DX,Au p,Am tF],[]⟩⟩) ?_ ?_
 ·skip
  refine Av (Ab (h:=l_ (h:=BY (h:=?_))));refine A3 rfl (O3 rfl rfl rfl (by rw[Rp Ek hcp];omega) M5 (by omega) (by omega) ?_ ?_)
  ·rintro hg row2 bx2 hs hb;obtain rfl:=US Ek hs hg;obtain rfl:bx2=[_,_,_,_,_]:=hb.one.2;have hcpx:(t.ps++[p]).length≤cap:=by simpa using hg
   refine Cb (h:=D6 (h:=?_));rw[htF];refine⟨_,rfl,?_⟩;rw[←hlen];exact Hm 4 1 rfl (congrArg (fun x=>[Am t,DX,Au p,[.v (.int .i64 (t.next+1)), .v (.int .i64 t.nextS),x]]) (Og (l:=t.ps++[p]) Ek rfl rfl hcpx)) (.cons _ _ _ _ rfl (A7 _) (.cons _ _ _ _ rfl (A7 _) (.cons _ _ _ _ rfl (A7 _) .nil)))
  rintro hg cap3 k bx2 hcp3 hs;rw[show((LB 14 Au t.ps cap).drop 0).take (t.ps.length * 14)++CU (.agg (Au p))++List.replicate ((cap3 - (t.ps.length+1)) * 14) AV.any=LB 14 Au (t.ps++[p]) cap3 from UR Ek t.ps p cap cap3]at hs;obtain⟨rfl,rfl⟩:k=5∧bx2=[_,_,_,_,_,_]:=hs.eq;have hcpx:(t.ps++[p]).length≤cap3:=by simpa using hcp3
  refine Cb (h:=D6 (h:=?_));rw[htF];refine⟨_,rfl,?_⟩;rw[←hlen];exact Hm 4 1 rfl (congrArg (fun x=>[Am t,DX,Au p,[.v (.int .i64 (t.next+1)), .v (.int .i64 t.nextS),x]]) (Og (l:=t.ps++[p]) Ek rfl rfl hcpx)) (.cons _ _ _ _ rfl (A7 _) (.cons _ _ _ _ rfl (A7 _) (.cons _ _ _ _ rfl (A7 _) .nil)))
 rintro s rfl;refine q_ (BS ([(0,Am t),(2,Au p),(3,Am tF)]) 6 (h:=AA 0 (h:=AD 1 (h:=AA 2 (h:=?_)))));refine Ak 3 (h:=BE 4 (h:=BE 5 (h:=z_ (h:=t_ (B8 (?_))))));refine A6 ?_;rw[Gy,if_neg (by simp[hhas]),if_neg (by first|assumption|omega),←hp,←htF];rw[hp];rfl
end
section
theorem SB(w:Wrk)(cap:Nat)(f:Fnd)(hv:SpcV w.s.spc)(hm:w.s.spc.mounts.length≤1000)(htb:TabB w.s.tab)(hf:w.found[0]?=some f):ACall prog 150 [.bp 0 0] [WA w cap,IB w cap] (fun r b t=>t=[]∧r= .v (.int .i64 (Dw w).2)∧b=[WA (Dw w).1 cap,IB (Dw w).1 cap]):=by
 have hsb:=hv.b hm;have hrow0:(w.found.map Al)[0]?=some (Al f):=by rw[List.getElem?_map,hf];rfl
 have hfn:B0 w 0=f:=by unfold B0;rw[hf];rfl
 have hre:Dw w=if f.ex=false then(w,2)else if w.c.num=1 then(if AU w.s.spc.files f.file=true∨CM w f.file 1=false then(w,13)else CN w (LG w.s.tab w.p.pid f.path f.name))else if w.c.num=16 then(if AU w.s.spc.files f.file=false then(w,20)else if CM w f.file 1=false then(w,13)else CN w (LF w.s.tab w.p.pid f.file))else if w.c.num=17 then(if AU w.s.spc.files f.file=false then(w,20)else Lj w (EP w.s.spc w.c.a0 f.file))else if AU w.s.spc.files f.file=true then(w,21)else if CM w f.file 2=false then(w,13)else(w,0):=by
  unfold Dw Kq;rw[hfn]
 obtain⟨T1,hT1⟩:∃T,T=LG w.s.tab w.p.pid f.path f.name:=⟨_,rfl⟩;obtain⟨T2,hT2⟩:∃T,T=LF w.s.tab w.p.pid f.file:=⟨_,rfl⟩;obtain⟨R,hR⟩:∃R,R=EP w.s.spc w.c.a0 f.file:=⟨_,rfl⟩;have hexec:AFn prog 205 [.agg (Am w.s.tab), .v (.int .i64 w.p.pid), .v (.string f.path), .v (.string f.name)] (fun r=>r=Cu T1):=by rw[hT1];exact sK _ _ _ _ htb
 have hchd:AFn prog 206 [.agg (Am w.s.tab), .v (.int .i64 w.p.pid), .agg (AB f.file)] (fun r=>r=Cu T2):=by rw[hT2];exact sH _ _ _ htb
 have hadd:AFn prog 76 [.agg (AT w.s.spc), .v (.int .i64 w.c.a0), .agg (AB f.file)] (fun r=>r=Hh R):=by rw[hR];exact jQ _ _ _ hsb
 rw[←hT1,←hT2,←hR]at hre;clear hT1 hT2 hR;refine enter Tryz.func150 rfl rfl rfl rfl rfl 2 rfl ?_;refine Eh (h:=k_ (h:=Ab (h:=?_)));refine A3 rfl (DA (n:=0) rfl rfl rfl hrow0 ?_);refine Hu (h:=Ci (h:=DE (h:=?_)));refine A4 rfl (fun hb1 hc1=>?_) (fun hb1 hc1=>?_)
 ·have k1:f.ex=false:=by simpa using hc1
  refine BA (h:=?_);refine BU (r:= .v (.int .i64 (Dw w).2)) none (h5:=(by rw[hre,if_pos k1];exact A7 _)) (h6:=⟨rfl,rfl,?_⟩);rw[hre,if_pos k1];rfl
 have k1:¬f.ex=false:=by simpa using hc1
 refine Dl (h:=Dj (h:=e_ (BH (B1 (h:=?_)))));refine A4 rfl (fun hb2 hc2=>?_) (fun hb2 hc2=>?_)
 ·have k2:w.c.num=1:=hc2;refine q_ (?_);refine B9 (fun S=>S=⟨look [(0, .bp 0 0),(3, .bp 2 0),(30, .v (.bool (AU w.s.spc.files f.file|| !CM w f.file 1)))],⟨[WA w cap,IB w cap,Al f],[]⟩⟩) ?_ ?_
  ·skip
   refine C5 (h:=?_);refine A3 rfl (Ds 1 rfl (.cons _ _ _ _ _ rfl (LeA.of_eq rfl) (.cons _ _ _ _ _ rfl (A7 _) .nil)) (My w .any 0 f hsb hf) ?_);rintro r rfl;refine⟨rfl,?_⟩;refine m_ (h:=?_);refine AJ false rfl rfl (fun hb3 hc3=>?_) (fun hb3 hc3=>?_)
   ·refine BD (h:=JN (h:=?_));exact⟨_,rfl,CA 3 0 (by simp[AY,AX,AW,By B4,BG,WA,IB,Co,Al,Ac,AB,Am,AT,Ao])⟩
   refine m_ (h:=Ab (h:=?_));refine As (Ds 1 rfl (.cons _ _ _ _ _ rfl (LeA.of_eq rfl) (.cons _ _ _ _ _ rfl (A7 _) (.cons _ _ _ _ _ rfl (A7 _) .nil))) (LM w .any f.file 1 hsb) ?_);rintro r rfl;refine⟨rfl,?_⟩;refine Cr (h:=FX (h:=?_));exact⟨_,rfl,CA 3 0 (by simp[AY,AX,AW,By B4,BG,WA,IB,Co,Al,Ac,AB,Am,AT,Ao])⟩
  rintro S rfl;refine A4 rfl (fun hb4 hc4=>?_) (fun hb4 hc4=>?_)
  ·have k5:AU w.s.spc.files f.file=true∨CM w f.file 1=false:=by simpa using hc4
   refine BA (h:=Cv (h:=?_));refine BU (r:= .v (.int .i64 (Dw w).2)) none (h5:=(by rw[hre,if_neg k1,if_pos k2,if_pos k5];exact A7 _)) (h6:=⟨rfl,rfl,?_⟩);rw[hre,if_neg k1,if_pos k2,if_pos k5];rfl
  have k5:¬(AU w.s.spc.files f.file=true∨CM w f.file 1=false):=by simpa using hc4
  refine AG (q_ (BS ([(0,WA w cap),(1,IB w cap),(2,Al f)]) 18 (h:=AF 0 (h:=AF 1 (h:=BM 2 (h:=AD 3 (h:=AD 4 (h:=AA 5 (h:=AF 6 (h:=BM 7 (h:=AD 8 (h:=AD 9 (h:=AA 10 (h:=AD 11 (h:=AA 12 (h:=AD 13 (h:=AA 14 (h:=?_))))))))))))))))));refine c_ 15 rfl (A8 (hexec) ?_);rintro r rfl;refine o_ (h:=Ay 16 (h:=Ay 17 (h:=?_)));refine c_ 18 rfl (Bm [0,1] rfl (.cons _ _ _ _ _ rfl (A7 _) (.cons _ _ _ _ _ rfl (A7 _) (.cons _ _ _ _ _ rfl (A7 _) .nil))) (by decide) (.cons _ _ _ _ _ rfl rfl (.cons _ _ _ _ _ rfl (Df B4 _ _ _) .nil)) (Ud w cap T1.1 T1.2) ?_);rintro r bc tc ⟨rfl,rfl,rfl⟩;refine⟨rfl,_,E4 rfl ((CN w T1).1) cap,?_⟩;refine o_ (h:=?_);refine c_ 19 rfl (JC rfl ?_);refine Hb (h:=t_ (B8 (Cv (h:=?_))));refine BU (r:= .v (.int .i64 (Dw w).2)) none (h5:=(by rw[hre,if_neg k1,if_pos k2,if_neg k5,Lm];exact A7 _)) (h6:=⟨rfl,rfl,?_⟩);rw[hre,if_neg k1,if_pos k2,if_neg k5];rfl
 have k2:¬w.c.num=1:=hc2;refine B1 (h:=?_);refine A4 rfl (fun hb5 hc5=>?_) (fun hb5 hc5=>?_)
 ·have k3:w.c.num=16:=hc5;refine Bv (h:=?_);refine A3 rfl (Ds 1 rfl (.cons _ _ _ _ _ rfl (LeA.of_eq rfl) (.cons _ _ _ _ _ rfl (A7 _) .nil)) (My w .any 0 f hsb hf) ?_);rintro r rfl;refine⟨rfl,?_⟩;refine DE (h:=?_);refine A4 rfl (fun hb6 hc6=>?_) (fun hb6 hc6=>?_)
  ·have k5:AU w.s.spc.files f.file=false:=by simpa using hc6
   refine BA (h:=Cv (h:=?_));refine BU (r:= .v (.int .i64 (Dw w).2)) none (h5:=(by rw[hre,if_neg k1,if_neg k2,if_pos k3,if_pos k5];exact A7 _)) (h6:=⟨rfl,rfl,?_⟩);rw[hre,if_neg k1,if_neg k2,if_pos k3,if_pos k5];rfl
  have k5:¬AU w.s.spc.files f.file=false:=by simpa using hc6
  refine Dl (h:=Ab (h:=?_));refine A3 rfl (Ds 1 rfl (.cons _ _ _ _ _ rfl (LeA.of_eq rfl) (.cons _ _ _ _ _ rfl (A7 _) (.cons _ _ _ _ _ rfl (A7 _) .nil))) (LM w .any f.file 1 hsb) ?_);rintro r rfl;refine⟨rfl,?_⟩;refine DE (h:=?_);refine A4 rfl (fun hb7 hc7=>?_) (fun hb7 hc7=>?_)
  ·have k6:CM w f.file 1=false:=by simpa using hc7
   refine BA (h:=Cv (h:=?_));refine BU (r:= .v (.int .i64 (Dw w).2)) none (h5:=(by rw[hre,if_neg k1,if_neg k2,if_pos k3,if_neg k5,if_pos k6];exact A7 _)) (h6:=⟨rfl,rfl,?_⟩);rw[hre,if_neg k1,if_neg k2,if_pos k3,if_neg k5,if_pos k6];rfl
  have k6:¬CM w f.file 1=false:=by simpa using hc7
  refine AG (q_ (BS ([(0,WA w cap),(1,IB w cap),(2,Al f)]) 16 (h:=AF 0 (h:=AF 1 (h:=BM 2 (h:=AD 3 (h:=AD 4 (h:=AA 5 (h:=AF 6 (h:=BM 7 (h:=AD 8 (h:=AD 9 (h:=AA 10 (h:=AD 11 (h:=AA 12 (h:=?_))))))))))))))));refine c_ 13 rfl (A8 (hchd) ?_);rintro r rfl;refine o_ (h:=Ay 14 (h:=Ay 15 (h:=?_)));refine c_ 16 rfl (Bm [0,1] rfl (.cons _ _ _ _ _ rfl (A7 _) (.cons _ _ _ _ _ rfl (A7 _) (.cons _ _ _ _ _ rfl (A7 _) .nil))) (by decide) (.cons _ _ _ _ _ rfl rfl (.cons _ _ _ _ _ rfl (Df B4 _ _ _) .nil)) (Ud w cap T2.1 T2.2) ?_);rintro r bc tc ⟨rfl,rfl,rfl⟩;refine⟨rfl,_,E4 rfl ((CN w T2).1) cap,?_⟩;refine o_ (h:=?_);refine c_ 17 rfl (JC rfl ?_);refine Hb (h:=t_ (B8 (Cv (h:=?_))));refine BU (r:= .v (.int .i64 (Dw w).2)) none (h5:=(by rw[hre,if_neg k1,if_neg k2,if_pos k3,if_neg k5,if_neg k6,Lm];exact A7 _)) (h6:=⟨rfl,rfl,?_⟩);rw[hre,if_neg k1,if_neg k2,if_pos k3,if_neg k5,if_neg k6];rfl
 have k3:¬w.c.num=16:=hc5;refine B1 (h:=?_);refine A4 rfl (fun hb8 hc8=>?_) (fun hb8 hc8=>?_)
 ·have k4:w.c.num=17:=hc8;refine Bv (h:=?_);refine A3 rfl (Ds 1 rfl (.cons _ _ _ _ _ rfl (LeA.of_eq rfl) (.cons _ _ _ _ _ rfl (A7 _) .nil)) (My w .any 0 f hsb hf) ?_);rintro r rfl;refine⟨rfl,?_⟩;refine DE (h:=?_);refine A4 rfl (fun hb9 hc9=>?_) (fun hb9 hc9=>?_)
  ·have k5:AU w.s.spc.files f.file=false:=by simpa using hc9
   refine BA (h:=Cv (h:=?_));refine BU (r:= .v (.int .i64 (Dw w).2)) none (h5:=(by rw[hre,if_neg k1,if_neg k2,if_neg k3,if_pos k4,if_pos k5];exact A7 _)) (h6:=⟨rfl,rfl,?_⟩);rw[hre,if_neg k1,if_neg k2,if_neg k3,if_pos k4,if_pos k5];rfl
  have k5:¬AU w.s.spc.files f.file=false:=by simpa using hc9
  refine AG (?_);refine B9 (fun S=>S=⟨look [(0, .bp 0 0),(4, .bp 3 0),(5, .v (.int .i64 R.2))],⟨[WA w cap,IB w cap,Al f,AT R.1],[]⟩⟩) ?_ ?_
  ·skip
   refine BS ([(0,WA w cap),(1,IB w cap),(2,Al f)]) 20 (h:=AF 0 (h:=BM 1 (h:=AD 2 (h:=AD 3 (h:=AA 4 (h:=AF 5 (h:=BM 6 (h:=AD 7 (h:=AD 8 (h:=?_))))))))));refine CC 9 rfl (fun _ hS=>CB (len:=4) (sz:=1) (n:=0) (by kernel_rfl) rfl rfl rfl rfl ⟨rfl,rfl⟩) ?_;refine AA 10 (h:=AD 11 (h:=AA 12 (h:=?_)));refine DS 13 17 rfl rfl ?_ ?_
   ·refine A8 (hadd) ?_;rintro r rfl;refine o_ (h:=?_);refine AF 14 (h:=Ay 15 (h:=Ay 16 (h:=?_)));refine c_ 17 rfl (BV (by repeat constructor) ?_);refine o_ (h:=?_);refine Ak 18 (h:=BE 19 (h:=z_ (h:=?_)));refine AM ?_;exact⟨_,rfl,Cp 4 0⟩
   refine BV (by repeat constructor) ?_;refine o_ (h:=?_);refine c_ 13 rfl (A8 (hadd) ?_);rintro r rfl;refine o_ (h:=AF 14 (h:=Ay 15 (h:=Ay 16 (h:=?_))));refine Ak 18 (h:=BE 19 (h:=z_ (h:=?_)));refine AM ?_;exact⟨_,rfl,Cp 4 0⟩
  rintro S rfl;refine Bv (h:=BN (h:=?_));refine A4 rfl (fun hb10 hc10=>?_) (fun hb10 hc10=>?_)
  ·have h0:R.2=0:=hc10;refine C5 (h:=l_ (h:=Hd (h:=D7 (h:=Aa (h:=BC (h:=?_))))));refine BU (r:= .v (.int .i64 (Dw w).2)) none (h5:=(by rw[hre,if_neg k1,if_neg k2,if_neg k3,if_pos k4,if_neg k5,Lj,if_pos h0];exact LeA.of_eq (vi h0))) (h6:=⟨rfl,rfl,?_⟩);rw[hre,if_neg k1,if_neg k2,if_neg k3,if_pos k4,if_neg k5,Lj,if_pos h0];rfl
  have h0:¬R.2=0:=hc10;refine AG (Aa (h:=BC (h:=?_)));refine BU (r:= .v (.int .i64 (Dw w).2)) none (h5:=(by rw[hre,if_neg k1,if_neg k2,if_neg k3,if_pos k4,if_neg k5,Lj,if_neg h0];exact A7 _)) (h6:=⟨rfl,rfl,?_⟩);rw[hre,if_neg k1,if_neg k2,if_neg k3,if_pos k4,if_neg k5,Lj,if_neg h0];rfl
 have k4:¬w.c.num=17:=hc8;refine BF (BB (t_ (Bv (h:=?_))));refine A3 rfl (Ds 1 rfl (.cons _ _ _ _ _ rfl (LeA.of_eq rfl) (.cons _ _ _ _ _ rfl (A7 _) .nil)) (My w .any 0 f hsb hf) ?_);rintro r rfl;refine⟨rfl,?_⟩;refine e_ (?_);refine A4 rfl (fun hb11 hc11=>?_) (fun hb11 hc11=>?_)
 ·have k5:AU w.s.spc.files f.file=true:=hc11;refine BA (h:=?_);refine BU (r:= .v (.int .i64 (Dw w).2)) none (h5:=(by rw[hre,if_neg k1,if_neg k2,if_neg k3,if_neg k4,if_pos k5];exact A7 _)) (h6:=⟨rfl,rfl,?_⟩);rw[hre,if_neg k1,if_neg k2,if_neg k3,if_neg k4,if_pos k5];rfl
 have k5:¬AU w.s.spc.files f.file=true:=by simpa using hc11
 refine Dl (h:=Ab (h:=?_));refine A3 rfl (Ds 1 rfl (.cons _ _ _ _ _ rfl (LeA.of_eq rfl) (.cons _ _ _ _ _ rfl (A7 _) (.cons _ _ _ _ _ rfl (A7 _) .nil))) (LM w .any f.file 2 hsb) ?_);rintro r rfl;refine⟨rfl,?_⟩;refine DE (h:=?_);refine A4 rfl (fun hb12 hc12=>?_) (fun hb12 hc12=>?_)
 ·have k6:CM w f.file 2=false:=by simpa using hc12
  refine BA (h:=?_);refine BU (r:= .v (.int .i64 (Dw w).2)) none (h5:=(by rw[hre,if_neg k1,if_neg k2,if_neg k3,if_neg k4,if_neg k5,if_pos k6];exact A7 _)) (h6:=⟨rfl,rfl,?_⟩);rw[hre,if_neg k1,if_neg k2,if_neg k3,if_neg k4,if_neg k5,if_pos k6];rfl
 have k6:¬CM w f.file 2=false:=by simpa using hc12
 refine AG (Kc (h:=?_));refine BU (r:= .v (.int .i64 (Dw w).2)) none (h5:=(by rw[hre,if_neg k1,if_neg k2,if_neg k3,if_neg k4,if_neg k5,if_neg k6];exact A7 _)) (h6:=⟨rfl,rfl,?_⟩);rw[hre,if_neg k1,if_neg k2,if_neg k3,if_neg k4,if_neg k5,if_neg k6];rfl
theorem b7(w:Wrk)(cap:Nat)(f:Fnd)(x:Itm)(hv:SpcV w.s.spc)(hm:w.s.spc.mounts.length≤1000)(hf:w.found[0]?=some f)(hx:w.r.items[0]?=some x)(hn:f.name.size≤100000)(h9:w.c.num=9→0<w.c.args.length)(hsz:∀p∈w.c.args,p.size≤1000):ACall prog 151 [.bp 0 0] [WA w cap,IB w cap] (fun r b t=>t=[]∧r= .v (.int .i64 (Gb w).2)∧b=[WA (Gb w).1 cap,IB (Gb w).1 cap]):=by
 have hsb:=hv.b hm;have hrow0:(w.found.map Al)[0]?=some (Al f):=by rw[List.getElem?_map,hf];rfl
 have hfn:B0 w 0=f:=by unfold B0;rw[hf];rfl
 have hpl:Gb w=if f.ex=true then(w,17)else if f.slash=true∧w.c.num=9 then(w,2)else if CM w f.dir 2=false then(w,13)else if w.c.num=9 then D0 w 0 (Od (Ko w.c))else D0 w 0 (Pv w.c.a0):=by
  unfold Gb;rw[hfn]
 refine enter Tryz.func151 rfl rfl rfl rfl rfl 2 rfl ?_;refine Eh (h:=k_ (h:=Ab (h:=?_)));refine A3 rfl (DA (n:=0) rfl rfl rfl hrow0 ?_);refine Hu (h:=q_ (BH (Az (h:=B7 (h:=?_)))));refine A4 rfl (fun hb1 hc1=>?_) (fun hb1 hc1=>?_)
 ·have k1:f.ex=true:=hc1;refine Bl (h:=?_);refine BU (r:= .v (.int .i64 (Gb w).2)) none (h5:=(by rw[hpl,if_pos k1];exact A7 _)) (h6:=⟨rfl,rfl,?_⟩);rw[hpl,if_pos k1];rfl
 have k1:¬f.ex=true:=by simpa using hc1
 refine B9 (fun S=>S=⟨look [(0, .bp 0 0),(3, .bp 2 0),(13, .v (.bool (f.slash&&decide (w.c.num=9))))],⟨[WA w cap,IB w cap,Al f],[]⟩⟩) ?_ ?_
 ·skip
  refine Av (Gj (h:=?_));refine AJ true rfl rfl (fun hb2 hc2=>?_) (fun hb2 hc2=>?_)
  ·refine m_ (h:=Dj (h:=EH (h:=Bj (h:=Ck (h:=?_)))));exact⟨_,rfl,CA 3 0 (by simp[AY,AX,AW,By B4,BG,WA,IB,Co,Al,Ac,AB,Am,AT,Ao])⟩
  refine BT (h:=Hw (h:=Ck (h:=?_)));exact⟨_,rfl,CA 3 0 (by simp[AY,AX,AW,By B4,BG,WA,IB,Co,Al,Ac,AB,Am,AT,Ao])⟩
 rintro S rfl;refine A4 rfl (fun hb3 hc3=>?_) (fun hb3 hc3=>?_)
 ·have k2:f.slash=true∧w.c.num=9:=by simpa using hc3
  refine Bl (h:=?_);refine BU (r:= .v (.int .i64 (Gb w).2)) none (h5:=(by rw[hpl,if_neg k1,if_pos k2];exact A7 _)) (h6:=⟨rfl,rfl,?_⟩);rw[hpl,if_neg k1,if_pos k2];rfl
 have k2:¬(f.slash=true∧w.c.num=9):=by simpa using hc3
 refine Aa (h:=Ab (h:=?_));refine A3 rfl (Ds 1 rfl (.cons _ _ _ _ _ rfl (LeA.of_eq rfl) (.cons _ _ _ _ _ rfl (A7 _) (.cons _ _ _ _ _ rfl (A7 _) .nil))) (LM w .any f.dir 2 hsb) ?_);rintro r rfl;refine⟨rfl,?_⟩;refine Cr (h:=B7 (h:=?_));refine A4 rfl (fun hb4 hc4=>?_) (fun hb4 hc4=>?_)
 ·have k3:CM w f.dir 2=false:=by simpa using hc4
  refine Bl (h:=?_);refine BU (r:= .v (.int .i64 (Gb w).2)) none (h5:=(by rw[hpl,if_neg k1,if_neg k2,if_pos k3];exact A7 _)) (h6:=⟨rfl,rfl,?_⟩);rw[hpl,if_neg k1,if_neg k2,if_pos k3];rfl
 have k3:¬CM w f.dir 2=false:=by simpa using hc4
 refine BF (BB (t_ (Bv (h:=Dj (h:=BN (h:=?_))))));refine A4 rfl (fun hb5 hc5=>?_) (fun hb5 hc5=>?_)
 ·have k4:w.c.num=9:=hc5;obtain⟨a0,ha0⟩:∃a,w.c.args[0]?=some a:=⟨_,B3 (h9 hc5)⟩;have harg:(w.c.args.map Dn)[0]?=some (Dn a0):=by rw[List.getElem?_map,ha0];rfl
  have hag:Ko w.c=a0:=by unfold Ko;rw[List.headD_eq_head?_getD,List.head?_eq_getElem?,ha0];rfl
  have hsa:(Od a0).target.size≤100000:=by have:=hsz a0 (Ag ha0);show a0.size≤100000;omega
  refine E9 (h:=Dj (h:=?_));refine A3 rfl (DA (n:=0) rfl rfl rfl harg ?_);refine l_ (h:=?_);refine A3 rfl (Hp (y:= .agg (Ac (Od a0))) (Dz ⟨rfl,rfl⟩) ?_);refine A3 rfl (Bm [0,1] rfl (.cons _ _ _ _ _ rfl (A7 _) (.cons _ _ _ _ _ rfl (A7 _) (.cons _ _ _ _ _ rfl (A7 _) .nil))) (by decide) (.cons _ _ _ _ _ rfl rfl (.cons _ _ _ _ _ rfl (Df B4 _ _ _) .nil)) (Uf w cap 0 (Od a0) f x hv.files hf hx hn hsa rfl) ?_);rintro r bc tc ⟨rfl,rfl,rfl⟩;refine⟨rfl,_,E4 rfl ((D0 w 0 (Od a0)).1) cap,?_⟩;refine E8 (h:=?_);refine BU (r:= .v (.int .i64 (Gb w).2)) none (h5:=(by rw[hpl,if_neg k1,if_neg k2,if_neg k3,if_pos k4,hag];exact A7 _)) (h6:=⟨rfl,rfl,?_⟩);rw[hpl,if_neg k1,if_neg k2,if_neg k3,if_pos k4,hag];rfl
 have k4:¬w.c.num=9:=hc5;refine AG (E9 (h:=Hd (h:=f_ (h:=?_))));refine A3 rfl (CB (len:=4) (sz:=1) (n:=0) (by kernel_rfl) rfl rfl rfl rfl ?_);refine l_ (h:=?_);refine A3 rfl (Hp (y:= .agg (Ac (Pv w.c.a0))) (Dz ⟨rfl,rfl⟩) ?_);refine A3 rfl (Bm [0,1] rfl (.cons _ _ _ _ _ rfl (A7 _) (.cons _ _ _ _ _ rfl (A7 _) (.cons _ _ _ _ _ rfl (A7 _) .nil))) (by decide) (.cons _ _ _ _ _ rfl rfl (.cons _ _ _ _ _ rfl (Df B4 _ _ _) .nil)) (Uf w cap 0 (Pv w.c.a0) f x hv.files hf hx hn (BK _) rfl) ?_);rintro r bc tc ⟨rfl,rfl,rfl⟩;refine⟨rfl,_,E4 rfl ((D0 w 0 (Pv w.c.a0)).1) cap,?_⟩;refine BJ (h:=?_);refine BU (r:= .v (.int .i64 (Gb w).2)) none (h5:=(by rw[hpl,if_neg k1,if_neg k2,if_neg k3,if_neg k4];exact A7 _)) (h6:=⟨rfl,rfl,?_⟩);rw[hpl,if_neg k1,if_neg k2,if_neg k3,if_neg k4];rfl
end
end Go.Proofs.YtbgnigjfkbmceaaGreatDoor
