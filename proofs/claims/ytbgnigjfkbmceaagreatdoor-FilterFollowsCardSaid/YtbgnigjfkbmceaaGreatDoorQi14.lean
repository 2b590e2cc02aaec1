/-
  Part 14 of the proof of FilterFollowsP: what the statement's proof uses of the texts in wip/tpl.
-/
import Derived.Test.YtbgnigjfkbmceaaGreatDoorQi13
open Go.Proofs.Tryz (prog)
set_option maxRecDepth 10000
set_option maxHeartbeats 4000000
set_option linter.unusedVariables false
set_option linter.unusedSimpArgs false
namespace Go.Proofs.YtbgnigjfkbmceaaGreatDoor
open Go.RowKit
theorem ZK{e:Int}{y x:A9}{c d:Bool}:(decide (e=0)&& !decide ((y.1,y.2)=(x.1,x.2))&&c&&d)=true↔(e=0∧y≠x∧c=true∧d=true):=by
 have:decide ((y.1,y.2)=(x.1,x.2))=decide (y=x):=rfl;rw[this];simp[and_assoc]
theorem ZL{w:Wrk}{R:FH}{x:A9}(h:(decide (R.2.2=0)&&decide (0<(R.2.1.length:Int)))=true):Lh w R x=(Kr (Jr (Bc w R).1 0 3) 1 x,R.2.2):=by
 rw[Bool.and_eq_true]at h;have h1:=of_decide_eq_true h.1;unfold Lh;rw[if_neg (by simp[h1]),if_pos (of_decide_eq_true h.2),h1]
theorem ZM{w:Wrk}{R:FH}{x:A9}(h:(decide (R.2.2=0)&&decide (0<(R.2.1.length:Int)))=false):Lh w R x=((Bc w R).1,R.2.2):=by
 unfold Lh;by_cases h0:R.2.2=0
 ·rw[if_neg (by simp[h0]),if_neg (by simpa[h0]using h),h0]
 rw[if_pos h0,Rw h0]
theorem ZN(w:Wrk)(i:Nat)(r:Int)(cap:Nat):WA (Jr w i r) cap=WA w cap:=by
 unfold WA Jr;simp only[List.length_modify];rfl
theorem ZO{w:Wrk}{i:Nat}{x:Itm}(hx:w.r.items[i]?=some x)(r:Int)(cap:Nat):IB (Jr w i r) cap=LB 13 Cf (w.r.items.set i {x with role:=r}) cap:=by
 unfold IB Jr;rw[ZH hx]
section
theorem oJ(w:Wrk)(cap:Nat)(f g:Fnd)(x0 x1:Itm)(hv:SpcV w.s.spc)(hm:w.s.spc.mounts.length≤1000)(hps:w.s.tab.ps.length≤1000)(hf:w.found[0]?=some f)(hg:w.found[1]?=some g)(hx0:w.r.items[0]?=some x0)(hx1:w.r.items[1]?=some x1)(hn:f.name.size≤100000)(hn2:g.name.size≤100000):ACall prog 148 [.bp 0 0] [WA w cap,IB w cap] (fun r b t=>t=[]∧r= .v (.int .i64 (G7 w).2)∧b=[WA (G7 w).1 cap,IB (G7 w).1 cap]):=by
 have hsb:=hv.b hm;have hrow0:(w.found.map Al)[0]?=some (Al f):=by rw[List.getElem?_map,hf];rfl
 have hrow1:(w.found.map Al)[1]?=some (Al g):=by rw[List.getElem?_map,hg];rfl
 have hfn:B0 w 0=f:=by unfold B0;rw[hf];rfl
 have hgn:B0 w 1=g:=by unfold B0;rw[hg];rfl
 have hil:0<w.r.items.length:=(Af.1 hx0).1;obtain⟨R,hR⟩:∃R,R=Fz w.s.spc.files f.dir f.name g.dir g.name:=⟨_,rfl⟩;have hok:=Xr hv.files f.dir f.name g.dir g.name;rw[←hR]at hok;have hcall:AFn prog 175 [.agg (Ao w.s.spc.files), .agg (AB f.dir), .v (.string f.name), .agg (AB g.dir), .v (.string g.name)] (fun r=>r=Ce R):=by rw[hR];exact jJ _ _ _ _ _ hv.files hn hn2
 obtain⟨x,hxd⟩:∃x,x=(AK w.s.spc.files f.dir f.name).1:=⟨_,rfl⟩;obtain⟨y,hyd⟩:∃y,y=(AK w.s.spc.files g.dir g.name).1:=⟨_,rfl⟩;have hl1:AFn prog 134 [.agg (Ao w.s.spc.files), .agg (AB f.dir), .v (.string f.name)] (fun r=>r= .tup [.agg (AB x), .v (.int .i64 (AK w.s.spc.files f.dir f.name).2)]):=by rw[hxd];exact Kg _ _ _ hsb.files
 have hl2:AFn prog 134 [.agg (Ao w.s.spc.files), .agg (AB g.dir), .v (.string g.name)] (fun r=>r= .tup [.agg (AB y), .v (.int .i64 (AK w.s.spc.files g.dir g.name).2)]):=by rw[hyd];exact Kg _ _ _ hsb.files
 obtain⟨e2,he2⟩:∃e,e=(AK w.s.spc.files g.dir g.name).2:=⟨_,rfl⟩;rw[←he2]at hl2
 have hren:G7 w=if f.ex=false then(w,2)else if f.name=⟨#[]⟩∨g.name=⟨#[]⟩then(w,16)else if g.slash=true∧AU w.s.spc.files f.file=false then(w,20)else if f.dir.1≠g.dir.1 then(w,18)else if CM w f.dir 2=false∨CM w g.dir 2=false then(w,13)else if e2=0∧y≠x∧AU w.s.spc.files y=true∧Jq w y=true then(w,16)else Lh w R x:=by
  unfold G7 Kq;rw[hfn,hgn,←hxd,←hyd,←he2,←hR]
 clear hxd hyd he2 hR;refine enter Tryz.func148 rfl rfl rfl rfl rfl 2 rfl ?_;refine Cw (h:=?_);refine B9 (fun s=>s=⟨look [(0, .bp 0 0),(3, .bp 2 0),(4, .bp 3 0)],⟨[WA w cap,IB w cap,Al f,Al g],[]⟩⟩) ?_ ?_
 ·skip
  refine BS ([(0,WA w cap)]) 16 (h:=AF 0 (h:=BM 1 (h:=AD 2 (h:=AA 3 (h:=?_)))));refine CC 4 rfl (fun _ hS=>DA (n:=0) rfl rfl rfl hrow0 ⟨rfl,rfl⟩) ?_;refine AA 5 (h:=AF 6 (h:=BM 7 (h:=AD 8 (h:=AA 9 (h:=?_)))));refine CC 10 rfl (fun _ hS=>DA (n:=1) rfl rfl rfl hrow1 ⟨rfl,rfl⟩) ?_;refine AA 11 (h:=?_);refine DS 12 13 rfl rfl ?_ ?_
  ·refine BV (by repeat constructor) ?_;refine o_ (h:=?_);refine c_ 13 rfl (BV (by repeat constructor) ?_);refine o_ (h:=?_);refine Ak 14 (h:=?_);refine Ak 15 (h:=z_ (h:=?_));refine AM ?_;exact⟨_,rfl,Cp 4 0⟩
  refine BV (by repeat constructor) ?_;refine o_ (h:=?_);refine c_ 12 rfl (BV (by repeat constructor) ?_);refine o_ (h:=?_);refine Ak 14 (h:=?_);refine Ak 15 (h:=z_ (h:=?_));refine AM ?_
  first|exact⟨_,rfl,Cp 4 0⟩|exact⟨_,rfl,GG [0,1,3,2] RY (by decide) (.cons _ _ _ _ _ rfl rfl (.cons _ _ _ _ _ rfl (MA B4 _ _ _) (.cons _ _ _ _ _ rfl rfl (.cons _ _ _ _ _ rfl rfl .nil)))) (by repeat (first|exact SubK.nil|refine SubK.cons _ _ _ _ rfl (A7 _) ?_))⟩
 rintro s rfl;refine q_ (BH (Az (h:=Cr (h:=B7 (h:=?_)))));refine A4 rfl (fun hb1 hc1=>?_) (fun hb1 hc1=>?_)
 ·have k1:f.ex=false:=by simpa using hc1
  refine Bl (h:=?_);refine BU (r:= .v (.int .i64 (G7 w).2)) none (h5:=(by rw[hren,if_pos k1];exact A7 _)) (h6:=⟨rfl,rfl,?_⟩);rw[hren,if_pos k1];rfl
 have k1:¬f.ex=false:=by simpa using hc1
 refine B9 (fun s=>s=⟨look [(0, .bp 0 0),(3, .bp 2 0),(4, .bp 3 0),(26, .v (.bool (decide (f.name=⟨#[]⟩)||decide (g.name=⟨#[]⟩))))],⟨[WA w cap,IB w cap,Al f,Al g],[]⟩⟩) ?_ ?_
 ·skip
  refine Av (Cx (h:=m_ (h:=?_)));refine AJ false rfl rfl (fun hb2 hc2=>?_) (fun hb2 hc2=>?_)
  ·refine Hr (h:=Ck (h:=?_));exact⟨_,rfl,CA 4 0 (by simp[AY,AX,AW,By B4,BG,WA,IB,Co,Al])⟩
  refine Cx (h:=Bp (h:=Ck (h:=?_)));exact⟨_,rfl,CA 4 0 (by simp[AY,AX,AW,By B4,BG,WA,IB,Co,Al])⟩
 rintro s rfl;refine A4 rfl (fun hb3 hc3=>?_) (fun hb3 hc3=>?_)
 ·have k2:f.name=⟨#[]⟩∨g.name=⟨#[]⟩:=by simpa using hc3
  refine Bl (h:=?_);refine BU (r:= .v (.int .i64 (G7 w).2)) none (h5:=(by rw[hren,if_neg k1,if_pos k2];exact A7 _)) (h6:=⟨rfl,rfl,?_⟩);rw[hren,if_neg k1,if_pos k2];rfl
 have k2:¬(f.name=⟨#[]⟩∨g.name=⟨#[]⟩):=by simpa using hc3
 refine B9 (fun s=>s=⟨look [(0, .bp 0 0),(3, .bp 2 0),(4, .bp 3 0),(35, .v (.bool (g.slash&& !AU w.s.spc.files f.file)))],⟨[WA w cap,IB w cap,Al f,Al g],[]⟩⟩) ?_ ?_
 ·skip
  refine Av (Gj (h:=?_));refine AJ true rfl rfl (fun hb4 hc4=>?_) (fun hb4 hc4=>?_)
  ·refine m_ (h:=?_);refine As (Ds 1 rfl (.cons _ _ _ _ _ rfl (LeA.of_eq rfl) (.cons _ _ _ _ _ rfl (A7 _) .nil)) (My w .any 0 f hsb hf) ?_);rintro r rfl;refine⟨rfl,?_⟩;refine Cr (h:=Bj (h:=Ck (h:=?_)));exact⟨_,rfl,CA 4 0 (by simp[AY,AX,AW,By B4,BG,WA,IB,Co,Al])⟩
  refine DC (h:=Ck (h:=?_));exact⟨_,rfl,CA 4 0 (by simp[AY,AX,AW,By B4,BG,WA,IB,Co,Al])⟩
 rintro s rfl;refine A4 rfl (fun hb5 hc5=>?_) (fun hb5 hc5=>?_)
 ·have k3:g.slash=true∧AU w.s.spc.files f.file=false:=by simpa using hc5
  refine Bl (h:=?_);refine BU (r:= .v (.int .i64 (G7 w).2)) none (h5:=(by rw[hren,if_neg k1,if_neg k2,if_pos k3];exact A7 _)) (h6:=⟨rfl,rfl,?_⟩);rw[hren,if_neg k1,if_neg k2,if_pos k3];rfl
 have k3:¬(g.slash=true∧AU w.s.spc.files f.file=false):=by simpa using hc5
 refine w_ (ET (h:=ET (h:=GH (h:=B7 (h:=?_)))));refine A4 rfl (fun hb6 hc6=>?_) (fun hb6 hc6=>?_)
 ·have k4:f.dir.1≠g.dir.1:=by simpa using hc6
  refine Bl (h:=?_);refine BU (r:= .v (.int .i64 (G7 w).2)) none (h5:=(by rw[hren,if_neg k1,if_neg k2,if_neg k3,if_pos k4];exact A7 _)) (h6:=⟨rfl,rfl,?_⟩);rw[hren,if_neg k1,if_neg k2,if_neg k3,if_pos k4];rfl
 have k4:¬f.dir.1≠g.dir.1:=by simpa using hc6
 refine B9 (fun s=>s=⟨look [(0, .bp 0 0),(3, .bp 2 0),(4, .bp 3 0),(51, .v (.bool (!CM w f.dir 2|| !CM w g.dir 2)))],⟨[WA w cap,IB w cap,Al f,Al g],[]⟩⟩) ?_ ?_
 ·skip
  refine C5 (h:=Ab (h:=?_));refine A3 rfl (Ds 1 rfl (.cons _ _ _ _ _ rfl (LeA.of_eq rfl) (.cons _ _ _ _ _ rfl (A7 _) (.cons _ _ _ _ _ rfl (A7 _) .nil))) (LM w .any f.dir 2 hsb) ?_);rintro r rfl;refine⟨rfl,?_⟩;refine EV (h:=?_);refine AJ false rfl rfl (fun hb7 hc7=>?_) (fun hb7 hc7=>?_)
  ·refine BD (h:=Hr (h:=Ck (h:=?_)));exact⟨_,rfl,CA 4 0 (by simp[AY,AX,AW,By B4,BG,WA,IB,Co,Al])⟩
  refine m_ (h:=Ab (h:=?_));refine As (Ds 1 rfl (.cons _ _ _ _ _ rfl (LeA.of_eq rfl) (.cons _ _ _ _ _ rfl (A7 _) (.cons _ _ _ _ _ rfl (A7 _) .nil))) (LM w .any g.dir 2 hsb) ?_);rintro r rfl;refine⟨rfl,?_⟩;refine Cr (h:=Bp (h:=Ck (h:=?_)));exact⟨_,rfl,CA 4 0 (by simp[AY,AX,AW,By B4,BG,WA,IB,Co,Al])⟩
 rintro s rfl;refine A4 rfl (fun hb8 hc8=>?_) (fun hb8 hc8=>?_)
 ·have k5:CM w f.dir 2=false∨CM w g.dir 2=false:=by simpa using hc8
  refine Bl (h:=?_);refine BU (r:= .v (.int .i64 (G7 w).2)) none (h5:=(by rw[hren,if_neg k1,if_neg k2,if_neg k3,if_neg k4,if_pos k5];exact A7 _)) (h6:=⟨rfl,rfl,?_⟩);rw[hren,if_neg k1,if_neg k2,if_neg k3,if_neg k4,if_pos k5];rfl
 have k5:¬(CM w f.dir 2=false∨CM w g.dir 2=false):=by simpa using hc8
 refine BF (BB (t_ (?_)));refine B9 (fun s=>s=⟨look [(0, .bp 0 0),(3, .bp 2 0),(4, .bp 3 0),(5, .bp 4 0)],⟨[WA w cap,IB w cap,Al f,Al g,AB x],[]⟩⟩) ?_ ?_
 ·skip
  refine BS ([(0,WA w cap),(1,IB w cap),(2,Al f),(3,Al g)]) 17 (h:=AF 0 (h:=BM 1 (h:=AD 2 (h:=AD 3 (h:=AD 4 (h:=AA 5 (h:=AD 6 (h:=AA 7 (h:=AD 8 (h:=AA 9 (h:=?_)))))))))));refine DS 10 14 rfl rfl ?_ ?_
  ·refine A8 (hl1) ?_;rintro r rfl;refine o_ (h:=?_);refine AF 11 (h:=Ay 12 (h:=Ay 13 (h:=?_)));refine c_ 14 rfl (BV (by repeat constructor) ?_);refine o_ (h:=?_);refine Ak 15 (h:=BE 16 (h:=z_ (h:=?_)));refine AM ?_;exact⟨_,rfl,Cp 5 0⟩
  refine BV (by repeat constructor) ?_;refine o_ (h:=?_);refine c_ 10 rfl (A8 (hl1) ?_);rintro r rfl;refine o_ (h:=AF 11 (h:=Ay 12 (h:=Ay 13 (h:=?_))));refine Ak 15 (h:=BE 16 (h:=z_ (h:=?_)));refine AM ?_;exact⟨_,rfl,Cp 5 0⟩
 rintro s rfl;refine q_ (?_);refine B9 (fun s=>s=⟨look [(0, .bp 0 0),(3, .bp 2 0),(4, .bp 3 0),(5, .bp 4 0),(7, .bp 5 0),(8, .v (.int .i64 e2))],⟨[WA w cap,IB w cap,Al f,Al g,AB x,AB y],[]⟩⟩) ?_ ?_
 ·skip
  refine BS ([(0,WA w cap),(1,IB w cap),(2,Al f),(3,Al g),(4,AB x)]) 17 (h:=AF 0 (h:=BM 1 (h:=AD 2 (h:=AD 3 (h:=AD 4 (h:=AA 5 (h:=AD 6 (h:=AA 7 (h:=AD 8 (h:=AA 9 (h:=?_)))))))))));refine DS 10 14 rfl rfl ?_ ?_
  ·refine A8 (hl2) ?_;rintro r rfl;refine o_ (h:=?_);refine AF 11 (h:=Ay 12 (h:=Ay 13 (h:=?_)));refine c_ 14 rfl (BV (by repeat constructor) ?_);refine o_ (h:=?_);refine Ak 15 (h:=BE 16 (h:=z_ (h:=?_)));refine AM ?_;exact⟨_,rfl,Cp 6 0⟩
  refine BV (by repeat constructor) ?_;refine o_ (h:=?_);refine c_ 10 rfl (A8 (hl2) ?_);rintro r rfl;refine o_ (h:=AF 11 (h:=Ay 12 (h:=Ay 13 (h:=?_))));refine Ak 15 (h:=BE 16 (h:=z_ (h:=?_)));refine AM ?_;exact⟨_,rfl,Cp 6 0⟩
 rintro s rfl;refine B9 (fun s=>s=⟨look [(0, .bp 0 0),(3, .bp 2 0),(4, .bp 3 0),(5, .bp 4 0),(113, .v (.bool (decide (e2=0)&& !decide ((y.1,y.2)=(x.1,x.2))&&AU w.s.spc.files y&&Jq w y)))],⟨[WA w cap,IB w cap,Al f,Al g,AB x],[]⟩⟩) ?_ ?_
 ·skip
  refine Db 22 (h:=AF 0 (h:=K7 1 (h:=AF 2 (h:=?_))));refine K1 (j:=2) rfl (fun hb9=>?_) (fun hb9=>?_)
  ·have hc9:=bp hb9;refine AA 3 (h:=AA 4 (h:=?_));refine GF (i:=5) rfl (JE rfl rfl (by repeat constructor) (by repeat constructor) (fun w=>TB _ _ _ _ w) (by kernel_rfl) ⟨rfl,rfl⟩) ?_;refine JZ 6 (h:=AF 7 (h:=?_));refine K1 (j:=7) rfl (fun hb10=>?_) (fun hb10=>?_)
   ·have hc10:=bp hb10;refine AF 8 (h:=BM 9 (h:=AD 10 (h:=AD 11 (h:=AD 12 (h:=AA 13 (h:=AA 14 (h:=?_)))))));refine c_ 15 rfl (A8 (Ke w.s.spc.files y hsb.files) ?_);rintro r rfl;refine o_ (h:=JZ 16 (h:=AF 17 (h:=?_)));refine K1 (j:=17) rfl (fun hb11=>?_) (fun hb11=>?_)
    ·have hc11:=bp hb11;refine AF 18 (h:=AA 19 (h:=?_));refine c_ 20 rfl (Ds 1 rfl (.cons _ _ _ _ _ rfl (LeA.of_eq rfl) (.cons _ _ _ _ _ rfl (A7 _) .nil)) (ZE w .any y hsb hps) ?_);rintro r rfl;refine⟨rfl,?_⟩;refine o_ (h:=JZ 21 (h:=z_ (h:=?_)));refine AM ?_;exact⟨_,rfl,Ai 5 0 rfl rfl rfl (by simp[AY,AX,AW,By B4,BG,WA,IB,Co,Al,AB]) (by repeat (first|exact Sub.nil|refine Aj rfl rfl ?_|refine Ap ?_|refine Aq rfl ?_|refine Ar rfl ?_|(apply Sub.of;(focus exact rfl);(focus exact LeA.of_eq (vb (by first|(simp[*];done)|(simp only[*,decide_true,decide_false,Bool.not_true,Bool.not_false,Bool.true_and,Bool.and_true,Bool.false_and,Bool.and_false]))));(focus exact rfl))))⟩
    have hc11:=bp hb11;refine B5 18 (h:=B5 19 (h:=B5 20 (h:=Gi 21 (h:=z_ (h:=?_)))));refine AM ?_;exact⟨_,rfl,Ai 5 0 rfl rfl rfl (by simp[AY,AX,AW,By B4,BG,WA,IB,Co,Al,AB]) (by repeat (first|exact Sub.nil|refine Aj rfl rfl ?_|refine Ap ?_|refine Aq rfl ?_|refine Ar rfl ?_|(apply Sub.of;(focus exact rfl);(focus exact LeA.of_eq (vb (by first|(simp[*];done)|(simp only[*,decide_true,decide_false,Bool.not_true,Bool.not_false,Bool.true_and,Bool.and_true,Bool.false_and,Bool.and_false]))));(focus exact rfl))))⟩
   have hc10:=bp hb10;refine B5 8 (h:=B5 9 (h:=B5 10 (h:=B5 11 (h:=B5 12 (h:=B5 13 (h:=B5 14 (h:=B5 15 (h:=Gi 16 (h:=AF 17 (h:=B5 18 (h:=B5 19 (h:=B5 20 (h:=Gi 21 (h:=z_ (h:=?_)))))))))))))));refine AM ?_;exact⟨_,rfl,Ai 5 0 rfl rfl rfl (by simp[AY,AX,AW,By B4,BG,WA,IB,Co,Al,AB]) (by repeat (first|exact Sub.nil|refine Aj rfl rfl ?_|refine Ap ?_|refine Aq rfl ?_|refine Ar rfl ?_|(apply Sub.of;(focus exact rfl);(focus exact LeA.of_eq (vb (by first|(simp[*];done)|(simp only[*,decide_true,decide_false,Bool.not_true,Bool.not_false,Bool.true_and,Bool.and_true,Bool.false_and,Bool.and_false]))));(focus exact rfl))))⟩
  have hc9:=bp hb9;refine B5 3 (h:=B5 4 (h:=B5 5 (h:=Gi 6 (h:=AF 7 (h:=B5 8 (h:=B5 9 (h:=B5 10 (h:=B5 11 (h:=B5 12 (h:=B5 13 (h:=B5 14 (h:=B5 15 (h:=Gi 16 (h:=AF 17 (h:=B5 18 (h:=B5 19 (h:=B5 20 (h:=Gi 21 (h:=z_ (h:=?_))))))))))))))))))));refine AM ?_;exact⟨_,rfl,Ai 5 0 rfl rfl rfl (by simp[AY,AX,AW,By B4,BG,WA,IB,Co,Al,AB]) (by repeat (first|exact Sub.nil|refine Aj rfl rfl ?_|refine Ap ?_|refine Aq rfl ?_|refine Ar rfl ?_|(apply Sub.of;(focus exact rfl);(focus exact LeA.of_eq (vb (by first|(simp[*];done)|(simp only[*,decide_true,decide_false,Bool.not_true,Bool.not_false,Bool.true_and,Bool.and_true,Bool.false_and,Bool.and_false]))));(focus exact rfl))))⟩
 rintro s rfl;refine A4 rfl (fun hb12 hc12=>?_) (fun hb12 hc12=>?_)
 ·have k6:=ZK.1 hb12;refine BA (h:=?_);refine BU (r:= .v (.int .i64 (G7 w).2)) none (h5:=(by rw[hren,if_neg k1,if_neg k2,if_neg k3,if_neg k4,if_neg k5,if_pos k6];exact A7 _)) (h6:=⟨rfl,rfl,?_⟩);rw[hren,if_neg k1,if_neg k2,if_neg k3,if_neg k4,if_neg k5,if_pos k6];rfl
 have k6:¬(e2=0∧y≠x∧AU w.s.spc.files y=true∧Jq w y=true):=fun h=>by rw[ZK.2 h]at hb12;cases hb12
 refine AG (q_ (BS ([(0,WA w cap),(1,IB w cap),(2,Al f),(3,Al g)]) 19 (h:=AF 0 (h:=AF 1 (h:=BM 2 (h:=AD 3 (h:=AD 4 (h:=AD 5 (h:=AA 6 (h:=AD 7 (h:=AA 8 (h:=AD 9 (h:=AA 10 (h:=AD 11 (h:=AA 12 (h:=AD 13 (h:=AA 14 (h:=?_))))))))))))))))));refine c_ 15 rfl (A8 (hcall) ?_);rintro r rfl;refine o_ (h:=Ay 16 (h:=Ay 17 (h:=Ay 18 (h:=?_))));refine c_ 19 rfl (Bm [0,1] rfl (.cons _ _ _ _ _ rfl (A7 _) (.cons _ _ _ _ _ rfl (A7 _) (.cons _ _ _ _ _ rfl (A7 _) (.cons _ _ _ _ _ rfl (A7 _) .nil)))) (by decide) (.cons _ _ _ _ _ rfl rfl (.cons _ _ _ _ _ rfl (Df B4 _ _ _) .nil)) (Oi w cap R.1 R.2.1 R.2.2) ?_);rintro r bc tc ⟨rfl,rfl,rfl⟩;refine⟨rfl,_,E4 rfl (Bc w R).1 cap,?_⟩;refine o_ (h:=?_);refine c_ 20 rfl (JC rfl ?_);refine Hb (h:=t_ (q_ (?_)));refine B9 (fun s=>s=⟨look [(0, .bp 0 0),(5, .bp 4 0),(9, .v (.int .i64 R.2.2)),(144, .v (.bool (decide (R.2.2=0)&&decide (0<(R.2.1.length:Int)))))],⟨[WA (Bc w R).1 cap,IB (Bc w R).1 cap,Al f,Al g,AB x],[]⟩⟩) ?_ ?_
 ·skip
  refine C5 (h:=E1 (h:=?_));refine AJ true rfl rfl (fun hb13 hc13=>?_) (fun hb13 hc13=>?_)
  ·have hch:(Bc w R).1.r.changes=R.2.1:=by rw[ME hc13]
   refine m_ (h:=Dj (h:=HQ (h:=Je (h:=?_))));exact⟨_,rfl,CA 5 0 (by simp[AY,AX,AW,By B4,BG,WA,IB,Co,Al,AB])⟩
  refine BT (h:=DC (h:=D6 (h:=?_)));exact⟨_,rfl,CA 5 0 (by simp[AY,AX,AW,By B4,BG,WA,IB,Co,Al,AB])⟩
 rintro s rfl;refine A4 rfl (fun hb14 hc14=>?_) (fun hb14 hc14=>?_)
 ·have h0:R.2.2=0:=of_decide_eq_true ((Bool.and_eq_true _ _).mp hb14).1;have hfb:FlsB (Jr (Bc w R).1 0 3).s.spc.files:=by rw[ME h0];exact(hok h0).1.b
  have hit:(Bc w R).1.r.items=w.r.items:=by rw[ME h0]
  have hxa:(Bc w R).1.r.items[0]?=some x0:=by rw[hit];exact hx0
  have hil1:0<(Bc w R).1.r.items.length:=by rw[hit];exact hil
  have hxr:(Jr (Bc w R).1 0 3).r.items[1]?=some x1:=by
   show((Bc w R).1.r.items.modify 0 _)[1]?=_;rw[hit,List.getElem?_modify];simp[hx1]
  refine B9 (fun s=>s=⟨look [(0, .bp 0 0),(5, .bp 4 0),(9, .v (.int .i64 R.2.2))],⟨[WA (Jr (Bc w R).1 0 3) cap,IB (Jr (Bc w R).1 0 3) cap,Al f,Al g,AB x],[]⟩⟩) ?_ ?_
  ·skip
   refine C5 (h:=Dj (h:=?_));refine A3 rfl (Dy (m:=0) rfl rfl rfl hil1 ?_);refine f_ (h:=?_);refine MY (Eo rfl rfl rfl rfl rfl rfl (MB B4 (x':={x0 with role:=3}) hxa (by repeat constructor) (List.cons_ne_nil _ _)) (by repeat constructor) ?_);refine D6 (h:=?_);refine⟨_,rfl,?_⟩;rw[ZN,ZO hxa];exact Cp 5 0
  rintro s rfl;refine C5 (h:=l_ (h:=?_));refine A3 rfl (Bm [0,1] rfl (.cons _ _ _ _ _ rfl (A7 _) (.cons _ _ _ _ _ rfl (A7 _) (.cons _ _ _ _ _ rfl (A7 _) .nil))) (by decide) (.cons _ _ _ _ _ rfl rfl (.cons _ _ _ _ _ rfl (Df B4 _ _ _) .nil)) (Ue (Jr (Bc w R).1 0 3) cap 1 x x1 hfb hxr) ?_);rintro r bc tc ⟨rfl,rfl,rfl⟩;refine⟨rfl,_,E4 rfl (Kr (Jr (Bc w R).1 0 3) 1 x) cap,?_⟩;refine e_ (EA (h:=?_));refine BU (r:= .v (.int .i64 (G7 w).2)) none (h5:=(by rw[hren,if_neg k1,if_neg k2,if_neg k3,if_neg k4,if_neg k5,if_neg k6,ZL hb14];exact A7 _)) (h6:=⟨rfl,rfl,?_⟩);rw[hren,if_neg k1,if_neg k2,if_neg k3,if_neg k4,if_neg k5,if_neg k6,ZL hb14];rfl
 refine AG (EA (h:=?_));refine BU (r:= .v (.int .i64 (G7 w).2)) none (h5:=(by rw[hren,if_neg k1,if_neg k2,if_neg k3,if_neg k4,if_neg k5,if_neg k6,ZM hb14];exact A7 _)) (h6:=⟨rfl,rfl,?_⟩);rw[hren,if_neg k1,if_neg k2,if_neg k3,if_neg k4,if_neg k5,if_neg k6,ZM hb14];rfl
end
theorem oK{s:Spc}{fl:Bool}{p:AE}{ps:List AE}{a:A9}{lk:Nat}{τ:Lk}(h:CJ s fl p ps a lk= .inr τ):τ.name.size≤12:=by
 unfold CJ at h;split at h
 ·cases h
 split at h
 ·cases h
 rename_i h2
 repeat' split at h
 all_goals first|(cases h;done)|(injection h with h;subst h;first|exact BK 12|exact Nat.le_of_not_lt h2)
theorem oL{s:Spc}{fl:Bool}:∀(k:Nat) (σ:Lk),σ.name.size≤12→(Ex s fl k σ).2.name.size≤12:=by
 intro k
 induction k with
 |zero=>intro σ h;exact h
 |succ k ih=>
   intro σ h;unfold Ex
   cases σ.ps with
   |nil=>exact h
   |cons p ps=>
     simp only
     cases hs:CJ s fl p ps σ.file σ.links with
     |inl e=>exact BK 12
     |inr τ=>exact ih _ (oK hs)
theorem ZP(s:Spc)(st:A9)(p:AE)(fl:Bool):(Bb s st p fl).1.name.size≤12:=by
 unfold Bb;generalize (if G2 p=true then Ff s else st)=d
 repeat' split
 all_goals first|exact BK 12|exact oL _ _ (BK 12)
theorem oM{s:Spc}{cwd:A9}{fl:Bool}{X:List Itm×List Fnd×Int}{g:AE×Int}(h:∀f∈X.2.1,f.name.size≤12):(∀f∈(J6 s cwd fl X g).2.1,f.name.size≤12)∧(J6 s cwd fl X g).1.length=X.1.length+1∧(J6 s cwd fl X g).2.1.length=X.2.1.length+1:=by
 unfold J6;split
 ·split
  ·refine⟨fun f hf=>?_,by simp,by simp⟩;rcases List.mem_append.1 hf with hf|hf
   ·exact h f hf
   rw[List.mem_singleton.1 hf];exact ZP _ _ _ _
  refine⟨fun f hf=>?_,by simp,by simp⟩;rcases List.mem_append.1 hf with hf|hf
  ·exact h f hf
  rw[List.mem_singleton.1 hf];exact ZP _ _ _ _
 refine⟨fun f hf=>?_,by simp,by simp⟩;rcases List.mem_append.1 hf with hf|hf
 ·exact h f hf
 rw[List.mem_singleton.1 hf];exact BK 12
theorem oN(s:Spc)(cwd:A9)(fl:Bool)(e:Int):∀(l:List (AE×Int)),(∀f∈(Lg s cwd fl l e).2.1,f.name.size≤12)∧(Lg s cwd fl l e).1.length=l.length∧(Lg s cwd fl l e).2.1.length=l.length:=by
 have key:∀(l:List (AE×Int)) (X:List Itm×List Fnd×Int),(∀f∈X.2.1,f.name.size≤12)→(∀f∈(l.foldl (J6 s cwd fl) X).2.1,f.name.size≤12)∧(l.foldl (J6 s cwd fl) X).1.length=X.1.length+l.length∧(l.foldl (J6 s cwd fl) X).2.1.length=X.2.1.length+l.length:=by
  intro l
  induction l with
  |nil=>intro X h;exact⟨h,rfl,rfl⟩
  |cons g l ih=>
    intro X h;obtain⟨h1,h2,h3⟩:=oM (s:=s) (cwd:=cwd) (fl:=fl) (g:=g) h;obtain⟨k1,k2,k3⟩:=ih _ h1;rw[List.foldl_cons];refine⟨k1,?_,?_⟩
    ·rw[k2,h2,List.length_cons];omega
    rw[k3,h3,List.length_cons];omega
 intro l;have:=key l ([],[],e) (fun f hf=>by cases hf);refine⟨this.1,by rw[Lg,this.2.1];simp,by rw[Lg,this.2.2];simp⟩
theorem ZQ{c:Cal}(h:Bx c=0):(c.paths.length:Int)=(C9 c.num).2.2.1∧(C9 c.num).2.2.2.1≤(c.args.length:Int)∧(c.args.length:Int)≤(C9 c.num).2.2.2.2∧(∀p∈c.paths,p.size≤128)∧∀p∈c.args,p.size≤64:=by
 unfold Bx at h;split at h
 ·exact absurd h (by decide)
 split at h
 ·exact absurd h (by decide)
 split at h
 ·exact absurd h (by decide)
 rename_i h3;split at h
 ·exact absurd h (by decide)
 rename_i h4;split at h
 ·exact absurd h (by decide)
 rename_i h5;refine⟨by omega,by omega,by omega,fun p hp=>?_,fun p hp=>?_⟩
 ·refine Nat.le_of_not_lt fun hl=>h4 (List.any_eq_true.2 ⟨p,hp,decide_eq_true hl⟩)
 refine Nat.le_of_not_lt fun hl=>h5 (List.any_eq_true.2 ⟨p,hp,decide_eq_true hl⟩)
theorem oO{c0 c1 c2 c3 c4 c5:List AV}(w:Wrk)(rows:List (List AV))(n cap:Nat)(L:List Itm):Back [c0,c1,c2,c3,c4,c5] [5] [De w (.sl 8 rows none) (.bs 1 0 13 n cap),LB 13 Cf L cap] [c0,c1,c2,c3,c4,De w (.sl 8 rows none) (.bs 6 0 13 n cap),LB 13 Cf L cap]:=by
 have:=Pw (bx:=[c0,c1,c2,c3,c4,c5]) (is:=[5]) (bc:=[De w (.sl 8 rows none) (.bs 1 0 13 n cap),LB 13 Cf L cap]) (by simp) (by simp) (by simp);have e2:E5 (Ep [5] [c0,c1,c2,c3,c4,c5].length) (LB 13 Cf L cap)=LB 13 Cf L cap:=Df B4 _ _ _
 have hb:Dx [c0,c1,c2,c3,c4,c5] (Ep [5] [c0,c1,c2,c3,c4,c5].length) [5] [De w (.sl 8 rows none) (.bs 1 0 13 n cap),LB 13 Cf L cap]=[c0,c1,c2,c3,c4,De w (.sl 8 rows none) (.bs 6 0 13 n cap),LB 13 Cf L cap]:=by
  unfold Dx;unfold Dx;rw[List.map_cons,e2];rfl
 rw[hb]at this;exact this
theorem oP(s:Syst)(pid:Int)(c:Cal):(∀f∈(LJ s pid c).found,f.name.size≤12)∧(LJ s pid c).found.length=(c.paths.zip (DF c)).length∧(LJ s pid c).r.items.length=(c.paths.zip (DF c)).length:=by
 obtain⟨h1,h2,h3⟩:=oN s.spc (AQ s.tab pid).cwd (DW c) (DG (AQ s.tab pid) c) (c.paths.zip (DF c));exact⟨h1,h3,h2⟩
section
theorem ZR(w:Wrk)(F I:AV)(h9:w.c.num=9→0<w.c.args.length)(hsz:∀p∈w.c.args,p.size≤1000):AFn prog 97 [.fp (De w F I)] (fun r=>r= .v (.int .i64 (DG w.p w.c))):=by
 have hol:(w.p.opens.map J8).length=w.p.opens.length:=List.length_map _;refine enter Tryz.func97 rfl rfl rfl rfl rfl 0 rfl ?_;refine Eh (h:=Dj (h:=Dk (h:=Bv (h:=Dj (h:=e_ (BH (w_ (EH (h:=a_ (h:=?_))))))))));refine e_ (?_);refine A4 rfl (fun hb1 hc1=>?_) (fun hb1 hc1=>?_)
 ·refine q_ (w_ (?_));refine A3 rfl (CB (len:=4) (sz:=1) (n:=0) (by kernel_rfl) rfl rfl rfl rfl ?_);refine l_ (h:=Di (h:=?_));refine AJ false rfl rfl (fun hb2 hc2=>?_) (fun hb2 hc2=>?_)
  ·refine Ch (h:=BT (h:=C7 (h:=BT (h:=FE (h:=K2 (?_))))));refine Bu (?_);refine A6 ?_
   first|(exfalso;first|contradiction|omega)|(exact vi (by simp[DG, *]))
  refine As (CB (len:=4) (sz:=1) (n:=0) (by kernel_rfl) rfl rfl rfl rfl ?_);refine l_ (h:=E6 (h:=Bh (h:=?_)));refine AJ false rfl rfl (fun hb3 hc3=>?_) (fun hb3 hc3=>?_)
  ·refine BT (h:=C7 (h:=BT (h:=FE (h:=Cv (h:=?_)))));refine A6 ?_
   first|(exfalso;first|contradiction|omega)|(exact vi (by simp[DG, *]))
  refine As (CB (len:=4) (sz:=1) (n:=0) (by kernel_rfl) rfl rfl rfl rfl ?_);refine l_ (h:=FC (h:=EH (h:=Bh (h:=?_))));refine AJ false rfl rfl (fun hb4 hc4=>?_) (fun hb4 hc4=>?_)
  ·refine BT (h:=FE (h:=Cv (h:=?_)));refine A6 ?_
   first|(exfalso;first|contradiction|omega)|(exact vi (by simp[DG, *]))
  refine As (CB (len:=4) (sz:=1) (n:=1) (by kernel_rfl) rfl rfl rfl rfl ?_);refine l_ (h:=?_);refine As (A8 (UU w.c.a1) ?_);rintro r rfl;refine Cr (h:=CV (h:=?_));refine A4 rfl (fun hb5 hc5=>?_) (fun hb5 hc5=>?_)
  ·refine BA (h:=Cv (h:=?_));refine A6 ?_
   first|(exfalso;first|contradiction|omega)|(exact vi (by simp[DG, *]))
  refine AG (Aa (h:=Dj (h:=n_ (h:=EJ (h:=e_ (?_))))));refine A4 rfl (fun hb6 hc6=>?_) (fun hb6 hc6=>?_)
  ·have h8:8≤(w.p.opens.length:Int):=by rw[List.length_map]at hc6;exact hc6
   refine Bl (h:=?_);refine A6 ?_
   first|(exfalso;first|contradiction|omega)|(exact vi (by simp[DG, *]))
  have h8:¬8≤(w.p.opens.length:Int):=by rw[List.length_map]at hc6;exact hc6
  refine Er (h:=?_);refine A6 ?_
  first|(exfalso;first|contradiction|omega)|(exact vi (by simp[DG, *]))
 refine B1 (h:=?_);refine A4 rfl (fun hb7 hc7=>?_) (fun hb7 hc7=>?_)
 ·obtain⟨a0,ha0⟩:∃a,w.c.args[0]?=some a:=⟨_,B3 (h9 hc7)⟩;have harg:(w.c.args.map Dn)[0]?=some (Dn a0):=by rw[List.getElem?_map,ha0];rfl
  have hag:Ko w.c=a0:=by unfold Ko;rw[List.headD_eq_head?_getD,List.head?_eq_getElem?,ha0];rfl
  have hsa:=hsz a0 (Ag ha0);refine Bv (h:=Dj (h:=?_));refine A3 rfl (DA (n:=0) rfl rfl rfl harg ?_);refine l_ (h:=BN (h:=?_));refine A4 rfl (fun hb8 hc8=>?_) (fun hb8 hc8=>?_)
  ·refine BA (h:=Cv (h:=?_));refine A6 ?_
   first|(exfalso;first|contradiction|omega)|(exact vi (by simp[DG, *]))
  refine AG (O6 (h:=?_));refine BR (fun m s=>∃j:Nat,j≤a0.size∧m=a0.size - j∧(∀(i:Nat) (h:i<a0.data.toList.length),i<j→a0.data.toList[i]≠0)∧s=⟨look [(0, .fp (De w F I)),(4, .v (.int .i64 (j:Int)))],⟨[],[]⟩⟩) (a0.size) ((wk 0 0)) (⟨0,BK _,rfl,fun i h1 h2=>by omega,rfl⟩) ?_;rintro m s ⟨j,hj,rfl,hz,rfl⟩;refine Du (h:=Dj (h:=?_));refine A3 rfl (DA (n:=0) rfl rfl rfl harg ?_);refine l_ (h:=Ht (h:=?_));refine A4 rfl (fun hb9 hc9=>?_) (fun hb9 hc9=>?_)
  ·have hlt:j<a0.size:=by omega
   refine C2 (h:=Aa (h:=Dj (h:=?_)));refine A3 rfl (DA (n:=0) rfl rfl rfl harg ?_);refine Gq (h:=?_);refine A3 rfl (M2 (n:=j) Tryz.underlying9 rfl rfl rfl hlt ?_);refine BN (h:=?_);refine A4 rfl (fun hb10 hc10=>?_) (fun hb10 hc10=>?_)
   ·have hany:(a0.data.toList.any fun b=>decide (b=0))=true:=by
     rw[List.any_eq_true];refine⟨a0.data.toList[j]'(by simpa using hlt),List.getElem_mem _,?_⟩;have h00:a0[j].toNat=0:=by have:=hc10;omega
     simp;exact UInt8.toNat_inj.1 h00
    refine Bl (h:=Bu (K2 (Cv (h:=?_))));refine A6 ?_
    first|(exfalso;first|contradiction|omega)|(exact vi (by simp[DG, *]))
   have hne:a0.data.toList[j]'(by simpa using hlt)≠0:=by
    intro e;have h00:¬a0[j].toNat=0:=by have:=hc10;omega
    simp at e;exact h00 (congrArg UInt8.toNat e)
   refine DL (h:=?_)
   refine⟨_,_,?_,⟨j+1,by omega,rfl,(fun i h1 h2=>by
    by_cases e:i=j
    ·subst e;exact hne
    exact hz i h1 (by omega)),rfl⟩,(wk 0 0)⟩
   omega
  have hany:(a0.data.toList.any fun b=>decide (b=0))=false:=by
   rw[List.any_eq_false];intro b hb;obtain⟨i,hi,rfl⟩:=List.mem_iff_getElem.1 hb;have:=hz i hi (by have hl:=Lib.size_eq a0;omega)
   simpa using this
  refine L6 (h:=T3 (h:=?_));refine A6 ?_
  first|(exfalso;first|contradiction|omega)|(exact vi (by simp[DG, *]))
 refine q_ (B1 (h:=?_));refine A4 rfl (fun hb11 hc11=>?_) (fun hb11 hc11=>?_)
 ·refine AG (Fr (h:=w_ (?_)));refine A3 rfl (CB (len:=4) (sz:=1) (n:=0) (by kernel_rfl) rfl rfl rfl rfl ?_);refine l_ (h:=?_);refine A3 rfl (A8 (UU w.c.a0) ?_);rintro r rfl;refine DE (h:=?_);refine A4 rfl (fun hb12 hc12=>?_) (fun hb12 hc12=>?_)
  ·refine Bl (h:=?_);refine A6 ?_
   first|(exfalso;first|contradiction|omega)|(exact vi (by simp[DG, *]))
  refine Er (h:=?_);refine A6 ?_
  first|(exfalso;first|contradiction|omega)|(exact vi (by simp[DG, *]))
 refine Av (Ed (h:=?_));refine A4 rfl (fun hb13 hc13=>?_) (fun hb13 hc13=>?_)
 ·refine w_ (?_);refine A3 rfl (CB (len:=4) (sz:=1) (n:=0) (by kernel_rfl) rfl rfl rfl rfl ?_);refine l_ (h:=?_);refine A3 rfl (A8 (UU w.c.a0) ?_);rintro r rfl;refine DE (h:=?_);refine A4 rfl (fun hb14 hc14=>?_) (fun hb14 hc14=>?_)
  ·refine Bl (h:=?_);refine A6 ?_
   first|(exfalso;first|contradiction|omega)|(exact vi (by simp[DG, *]))
  refine Er (h:=?_);refine A6 ?_
  first|(exfalso;first|contradiction|omega)|(exact vi (by simp[DG, *]))
 refine B1 (h:=?_);refine A4 rfl (fun hb15 hc15=>?_) (fun hb15 hc15=>?_)
 ·refine w_ (?_);refine A3 rfl (CB (len:=4) (sz:=1) (n:=0) (by kernel_rfl) rfl rfl rfl rfl ?_);refine l_ (h:=Di (h:=?_));refine AJ false rfl rfl (fun hb16 hc16=>?_) (fun hb16 hc16=>?_)
  ·refine Ch (h:=Ch (h:=EK (h:=Bl (h:=?_))));refine A6 ?_
   first|(exfalso;first|contradiction|omega)|(exact vi (by simp[DG, *]))
  refine As (CB (len:=4) (sz:=1) (n:=0) (by kernel_rfl) rfl rfl rfl rfl ?_);refine l_ (h:=E6 (h:=Bh (h:=?_)));refine AJ false rfl rfl (fun hb17 hc17=>?_) (fun hb17 hc17=>?_)
  ·refine Ch (h:=EK (h:=Bl (h:=?_)));refine A6 ?_
   first|(exfalso;first|contradiction|omega)|(exact vi (by simp[DG, *]))
  refine As (CB (len:=4) (sz:=1) (n:=1) (by kernel_rfl) rfl rfl rfl rfl ?_);refine l_ (h:=K8 (h:=Bh (h:=?_)));refine AJ false rfl rfl (fun hb18 hc18=>?_) (fun hb18 hc18=>?_)
  ·refine EK (h:=Bl (h:=?_));refine A6 ?_
   first|(exfalso;first|contradiction|omega)|(exact vi (by simp[DG, *]))
  refine As (CB (len:=4) (sz:=1) (n:=1) (by kernel_rfl) rfl rfl rfl rfl ?_);refine l_ (h:=E6 (h:=CV (h:=?_)));refine A4 rfl (fun hb19 hc19=>?_) (fun hb19 hc19=>?_)
  ·refine Bl (h:=?_);refine A6 ?_
   first|(exfalso;first|contradiction|omega)|(exact vi (by simp[DG, *]))
  refine Er (h:=?_);refine A6 ?_
  first|(exfalso;first|contradiction|omega)|(exact vi (by simp[DG, *]))
 refine B1 (h:=?_);refine A4 rfl (fun hb20 hc20=>?_) (fun hb20 hc20=>?_)
 ·refine Aa (h:=Dj (h:=Bn (h:=?_)));refine A4 rfl (fun hb21 hc21=>?_) (fun hb21 hc21=>?_)
  ·refine Bl (h:=?_);refine A6 ?_
   first|(exfalso;first|contradiction|omega)|(exact vi (by simp[DG, *]))
  refine Er (h:=?_);refine A6 ?_
  first|(exfalso;first|contradiction|omega)|(exact vi (by simp[DG, *]))
 refine B1 (h:=?_);refine A4 rfl (fun hb22 hc22=>?_) (fun hb22 hc22=>?_)
 ·refine w_ (?_);refine A3 rfl (CB (len:=4) (sz:=1) (n:=0) (by kernel_rfl) rfl rfl rfl rfl ?_);refine l_ (h:=Cj (h:=?_));refine A4 rfl (fun hb23 hc23=>?_) (fun hb23 hc23=>?_)
  ·refine Bl (h:=?_);refine A6 ?_
   first|(exfalso;first|contradiction|omega)|(exact vi (by simp[DG, *]))
  refine Er (h:=?_);refine A6 ?_
  first|(exfalso;first|contradiction|omega)|(exact vi (by simp[DG, *]))
 refine Er (h:=?_);refine A6 ?_
 first|(exfalso;first|contradiction|omega)|(exact vi (by simp[DG, *]))
end
def Kt(n:Int):Int:=IntKind.i64.wrap (0 - n)
def EZ(s:Syst)(pid:Int)(c:Cal):Syst×Res:=
 if CP s.tab pid=false then(s,{Gx with exit:= -4})else if Bx c≠0 then(s,{Gx with exit:= -22})
 else if(J7 s (AQ s.tab pid) c).2.2≠0 then(s,{Gx with exit:=Kt (J7 s (AQ s.tab pid) c).2.2,items:=(J7 s (AQ s.tab pid) c).1})
 else if(BW (LJ s pid c)).2≠0 then(s,{Gx with exit:=Kt (BW (LJ s pid c)).2,items:=(J7 s (AQ s.tab pid) c).1})
 else((BW (LJ s pid c)).1.s,(BW (LJ s pid c)).1.r)
def Nm(R:Syst×Res):AV:= .tup [.agg (DH R.1), .agg (Ni R.2)]
theorem oQ{α:Type}{sz:Nat}{F:α→List AV}(hF:RowF sz F)(l:List α)(cap0 cap:Nat):((LB sz F l cap0).drop 0).take (l.length * sz)++List.replicate ((cap - l.length) * sz) .any=LB sz F l cap:=by
 unfold LB;have h:=Wk (cap:=cap0) (Nj hF l);rw[List.length_map]at h;rw[h];unfold CZ;rw[List.length_map]
def Ku:List AV:=[.v (.slice none 0 0), .v (.slice none 0 0), .v (.int .i64 0), .v (.int .i64 0), .v (.slice none 0 0)]
def Ln:List AV:=[.v (.int .i64 0), .v (.int .i64 0), .v (.int .i64 0), .v (.slice none 0 0), .v (.slice none 0 0)]
def Nn(r:Res)(I:AV):List AV:=[.v (.int .i64 r.exit), .v (.int .i64 r.child), .v (.int .i64 r.gone),I, .sl 7 (r.changes.map Ej) none]
def Dp(s:Syst)(pid:Int)(c:Cal):Wrk:=⟨s,AQ s.tab pid,c,[],Gx⟩
theorem ZS(s:Syst)(pid:Int)(c:Cal):LeA (.agg (DH s++(Au (AQ s.tab pid)++(G8 c++[.v (.slice none 0 0), .v (.int .i64 0), .v (.int .i64 0), .v (.int .i64 0), .v (.slice none 0 0), .v (.slice none 0 0)])))) (.agg (De (Dp s pid c) (.v (.slice none 0 0)) (.v (.slice none 0 0)))):=by
 refine LeA.agg ?_
 repeat (first|exact LeL.nil|refine LeL.cons (A7 _) ?_|refine LeL.cons (LeA.nil _) ?_)
theorem Oj(w:Wrk)(R:FH):(Bc w R).1.r.items.length=w.r.items.length:=by
 unfold Bc;split<;>rfl
theorem Rx(w:Wrk)(R:Tab×Int):(CN w R).1.r.items.length=w.r.items.length:=by
 unfold CN;split<;>rfl
theorem Ug(w:Wrk)(i:Nat)(a:A9):(Kr w i a).r.items.length=w.r.items.length:=List.length_modify ..
theorem ZT(w:Wrk)(i:Nat)(r:Int):(Jr w i r).r.items.length=w.r.items.length:=List.length_modify ..
theorem Uh(w:Wrk)(i:Nat)(n:Nod):(D0 w i n).1.r.items.length=w.r.items.length:=by
 unfold D0;split
 ·rw[Ug,Oj]
 rfl
theorem ZU(w:Wrk)(a:A9):(LH w a).1.r.items.length=w.r.items.length:=by
 unfold LH;rw[Rx];rfl
theorem oR(w:Wrk):(Cn w).1.r.items.length=w.r.items.length:=by
 unfold Cn
 repeat' split
 all_goals first|rfl|exact Uh _ _ _|exact ZU _ _|exact(ZU _ _).trans (Uh _ _ _)
theorem oS(w:Wrk)(R:FH)(x:A9):(Lh w R x).1.r.items.length=w.r.items.length:=by
 unfold Lh
 repeat' split
 all_goals first|rfl|exact Oj _ _|exact(Ug _ _ _).trans ((ZT _ _ _).trans (Oj _ _))
theorem oT(w:Wrk):(G7 w).1.r.items.length=w.r.items.length:=by
 unfold G7
 repeat' split
 all_goals first|rfl|exact oS _ _ _
section
variable {P:Program}{ev:Operand→Option AV}{h:AH}{R:AV→AH→Prop}{d:Option Tmp}{ty:TypeId}{pos:String}{af:Array Edge}{gd:Option (Nat×Bool)}
theorem ZV{T:TypeId}{x:Operand}{a:Int}(hx:ev x=some (.v (.int .i64 a)))(hR:R (.v (.int .i64 (Kt a))) h):AStep P ⟨d, .unOp .neg T x,ty,pos,af,gd⟩ ev h R:=
 DR (fun _ G w ec _ he=>⟨.int .i64 (Kt a),by
  have h1:=he x (by simp[Op.operands]) _ hx;simp only[rep]at h1
  simp[execOp,h1,Op.unary,Op.intArith,Kt],by simp only[rep]⟩) hR
end
structure Wch where
 kind:Int
 dir:A9
 name:AE
 file:A9
deriving DecidableEq
def FP:Wch:=⟨0,(0,0),⟨#[]⟩,(0,0)⟩
def Bd(w:Wch):List AV:=[.v (.int .i64 w.kind), .v (.int .i64 w.dir.1), .v (.int .i64 w.dir.2), .v (.string w.name), .v (.int .i64 w.file.1), .v (.int .i64 w.file.2)]
def GA(s:Spc)(a:A9):Bool:=AU s.files a&&CO s a.1
def Jv(s:Spc)(k:Int)(p:AE):Wch×Int:=
 if(k≠1∧k≠2)∨Fb p.data.toList=false then(FP,22)
 else if(Bb s (0,0) p (decide (k=2))).2≠0 then(FP,(Bb s (0,0) p (decide (k=2))).2)
 else if k=2 then
  (if(Bb s (0,0) p true).1.ex=false then(FP,2)else if AU s.files (Bb s (0,0) p true).1.file=false then(FP,20)
  else(⟨k,(0,0),⟨#[]⟩,(Bb s (0,0) p true).1.file⟩,0))
 else if(Bb s (0,0) p false).1.name=⟨#[]⟩then(FP,22)
 else(⟨k,(Bb s (0,0) p false).1.dir,(Bb s (0,0) p false).1.name,(AK s.files (Bb s (0,0) p false).1.dir (Bb s (0,0) p false).1.name).1⟩,0)
def F1(s:Spc)(w:Wch):Bool:=
 if w.kind=1 then GA s w.dir&&decide ((AK s.files w.dir w.name).1=w.file)&&Fk w.name
 else if w.kind=2 then GA s w.file&&decide (w.dir=(0,0))&&decide (w.name=⟨#[]⟩)else false
def Q1(s:Spc)(a b:A9):Bool:=decide (a∈BZ s (Bo s.files) b)
def El(s:Spc)(w:Wch)(dir:A9)(name:AE)(file:A9):Bool:=
 if w.kind=1 then(decide (w.file≠(0,0))&&decide (file=w.file))||(decide (name≠⟨#[]⟩)&&decide (dir=w.dir)&&decide (name=w.name))
 else if w.kind=2 then Q1 s w.file dir||Q1 s w.file file else false
def F6(w:Wch):A9:=if w.kind=2 then w.file else w.dir
def GB(s:Spc)(w:Wch):Wch×Bool:=
 if(w.kind≠1∧w.kind≠2)∨GA s (F6 w)=false then(FP,false)
 else if w.kind=1 then({w with file:=(AK s.files w.dir w.name).1},true)else(w,true)
theorem oU{s:Spc}{fl:Bool}{p:AE}{ps:List AE}{a:A9}{lk:Nat}{τ:Lk}(h:CJ s fl p ps a lk= .inr τ)(hn:τ.name≠⟨#[]⟩):τ.dir=a∧AU s.files a=true:=by
 unfold CJ at h;split at h
 ·cases h
 rename_i c
 repeat' split at h
 all_goals first|(cases h;done)|(injection h with h;subst h;first|exact absurd rfl hn|exact⟨rfl,by simpa using c⟩)
section
variable {s:Spc}(hv:SpcV s)
include hv
theorem Ui:AU s.files (0,1)=true:=YQ hv (Int.le_refl 0) (by have:=hv.pos;omega)
theorem ZW{a:A9}(h:G0 s a=true):GA s a=true:=by
 have h2:=Pr ((Rr hv a).1 h).1.1;unfold GA;rw[h2.1,h2.2];rfl
theorem oV{fl:Bool}:∀(k:Nat) (σ:Lk),(AU s.files σ.file=true→G0 s σ.file=true)→(σ.name≠⟨#[]⟩→G0 s σ.dir=true)→(Ex s fl k σ).1=0→(Ex s fl k σ).2.name≠⟨#[]⟩→G0 s (Ex s fl k σ).2.dir=true:=by
 intro k
 induction k with
 |zero=>intro σ _ h _ hn;exact h hn
 |succ k ih=>
   intro σ h1 h2;unfold Ex
   cases σ.ps with
   |nil=>exact fun _=>h2
   |cons p ps=>
     simp only
     cases hs:CJ s fl p ps σ.file σ.links with
     |inl e=>exact fun c=>absurd c (Z3 hs)
     |inr τ=>exact ih τ (Z2 hv (Ui hv) h1 hs) fun hn=>by obtain⟨e1,e2⟩:=oU hs hn;rw[e1];exact h1 e2
theorem oW{k:Int}{p:AE}(h:(Jv s k p).2=0):F1 s (Jv s k p).1=true:=by
 unfold Jv at h ⊢;split at h
 ·exact absurd h (by decide)
 rename_i c1;rw[if_neg c1];have hr:G0 s (Ff s)=true:=Rt hv (Yy hv (Ui hv));split at h
 ·rename_i c2;exact absurd h c2
 rename_i c2;rw[if_neg c2]
 have hfnd:∀fl,(Bb s (0,0) p fl).2=0→∃σ,(Ex s (fl||Be p) (G3 σ) σ).1=0∧(AU s.files σ.file=true→G0 s σ.file=true)∧(σ.name≠⟨#[]⟩→G0 s σ.dir=true)∧(Bb s (0,0) p fl).1=Lf s (Be p) (Ex s (fl||Be p) (G3 σ) σ).2:=by
  intro fl h0;unfold Bb at h0 ⊢
  have hst:AU s.files (if G2 p=true then Ff s else(0,0))=true→G0 s (if G2 p=true then Ff s else(0,0))=true:=by
   split
   ·exact fun _=>hr
   intro h;rw[UY hv]at h;cases h
  generalize (if G2 p=true then Ff s else(0,0))=d at h0 hst ⊢
  repeat' split at h0
  all_goals first|(exact absurd h0 (by decide);done)|(rename_i c;exact absurd h0 c;done)|skip
  rename_i d1 d2 d3 d4 d5;refine⟨Kl (Fe p) d,by have:=d4;unfold G4 at this;simpa using this,hst,fun hn=>absurd rfl hn,?_⟩;rw[if_neg d1,if_neg d2,if_neg d3,if_neg d4,if_neg d5];rfl
 split at h
 ·rename_i c3;rw[if_pos c3];split at h
  ·exact absurd h (by decide)
  rename_i c4;rw[if_neg c4];split at h
  ·exact absurd h (by decide)
  rename_i c5;rw[if_neg c5];have c5:AU s.files (Bb s (0,0) p true).1.file=true:=by simpa using c5
  have c2:(Bb s (0,0) p true).2=0:=by
   have:=c2;rw[decide_eq_true c3]at this
   simpa using this
  obtain⟨σ,h1,h2,h3,h4⟩:=hfnd true c2
  have hv2:G0 s (Bb s (0,0) p true).1.file=true:=by
   rw[h4]at c5 ⊢;exact nA hv (Ui hv) _ σ h2 h1 c5
  unfold F1;simp only;rw[if_neg (by omega),if_pos c3,ZW hv hv2];rfl
 rename_i c3;rw[if_neg c3];split at h
 ·exact absurd h (by decide)
 rename_i c4;rw[if_neg c4]
 have hk:k=1:=by
  simp only[not_or,not_and,Decidable.not_not]at c1;exact Decidable.byContradiction fun hk=>c3 (c1.1 hk)
 have c2:(Bb s (0,0) p false).2=0:=by
  have:=c2;rw[decide_eq_false c3]at this
  simpa using this
 obtain⟨σ,h1,h2,h3,h4⟩:=hfnd false c2
 have hv2:G0 s (Bb s (0,0) p false).1.dir=true:=by
  rw[h4]at c4 ⊢;exact oV hv _ σ h2 h3 h1 c4
 have hnm:Fk (Bb s (0,0) p false).1.name=true:=by
  obtain⟨τ,ht,he⟩:=nD hv (st:=(0,0)) (p:=p) (fl:=false) (x:=(Bb s (0,0) p false).1) (Prod.ext rfl c2);rw[he]at c4 ⊢;rcases ht with ht|ht
  ·exact absurd ht.1 c4
  exact ht.1
 unfold F1;simp only;rw[if_pos hk,ZW hv hv2,hnm];simp
end
theorem Ry(a b:A9)(w:World):(binOp .eql 26 (.agg #[.int .i64 a.1, .int .i64 a.2]) (.agg #[.int .i64 b.1, .int .i64 b.2])).run prog w= .ok (.bool (decide (a=b))) w:=PG a.1 a.2 b.1 b.2 w
theorem oX(a b:A9)(w:World):(binOp .neq 26 (.agg #[.int .i64 a.1, .int .i64 a.2]) (.agg #[.int .i64 b.1, .int .i64 b.2])).run prog w= .ok (.bool (!decide (a=b))) w:=TB a.1 a.2 b.1 b.2 w
def Rz(R:Wch×Int):AV:= .tup [.agg (Bd R.1), .v (.int .i64 R.2)]
def ZX(R:Wch×Bool):AV:= .tup [.agg (Bd R.1), .v (.bool R.2)]
theorem oY(s:Spc)(k:Int)(p:AE)(F:Fnd×Int)(hF:Bb s (0,0) p (decide (k=2))=F):Jv s k p=if(k≠1∧k≠2)∨Fb p.data.toList=false then(FP,22)else if F.2≠0 then(FP,F.2)
    else if k=2 then(if F.1.ex=false then(FP,2)else if AU s.files F.1.file=false then(FP,20)else(⟨k,(0,0),⟨#[]⟩,F.1.file⟩,0))
    else if F.1.name=⟨#[]⟩then(FP,22)else(⟨k,F.1.dir,F.1.name,(AK s.files F.1.dir F.1.name).1⟩,0):=by
 unfold Jv;rw[hF];by_cases h:k=2
 ·rw[decide_eq_true h]at hF;simp only[if_pos h,hF]
 rw[decide_eq_false h]at hF;simp only[if_neg h,hF]
theorem oZ{f:AR}{dir:A9}{name:AE}(h:(AK f dir name).2≠0):(AK f dir name).1=(0,0):=by
 unfold AK at h ⊢;split
 ·rfl
 rename_i n e;rw[e]at h;simp only at h;split at h
 ·rename_i c;rw[if_pos c];split
  ·rfl
  rename_i e2;rw[e2]at h;exact absurd rfl h
 rename_i c;rw[if_neg c]
section
theorem ZY(s:AE)(hs:s.size≤60000):AFn prog 183 [.v (.string s)] (fun r=>r= .v (.bool (Fb s.data.toList))):=Vn (us:=[.string s]) fun w=>nN s w (by omega)
theorem ZZ(s:Spc)(a:A9)(hs:SpcB s):AFn prog 135 [.agg (AT s), .agg (AB a)] (fun r=>r= .v (.bool (GA s a))):=by
 refine enter Tryz.func135 rfl rfl rfl rfl rfl 0 rfl ?_;refine FV (h:=Az (h:=l_ (h:=?_)));refine A3 rfl (A8 (Ke s.files a hs.files) ?_);rintro r rfl;refine m_ (h:=?_);refine AJ true rfl rfl (fun hb1 hc1=>?_) (fun hb1 hc1=>?_)
 ·refine l_ (h:=Ab (h:=?_));refine As (A8 (OB s a.1 hs) ?_);rintro r rfl;refine Gk (h:=?_);refine A6 ?_
  first|(exfalso;first|contradiction|omega)|(exact vb (by simp[GA, *]))
 refine BT (h:=Bp (h:=BJ (h:=?_)));refine A6 ?_
 first|(exfalso;first|contradiction|omega)|(exact vb (by simp[GA, *]))
theorem Za(s:Spc)(a:A9)(hs:SpcB s):AFn prog 119 [.agg (AT s), .agg (AB a)] (fun r=>r= .v (.bool (AU s.files a))):=by
 refine enter Tryz.func119 rfl rfl rfl rfl rfl 0 rfl ?_;refine FV (h:=Az (h:=l_ (h:=?_)));refine A3 rfl (A8 (Wi s.files a hs.files) ?_);rintro r rfl;refine Ee (h:=C4 (h:=m_ (h:=?_)));refine AJ true rfl rfl (fun hb1 hc1=>?_) (fun hb1 hc1=>?_)
 ·refine Cx (h:=Gk (h:=?_));refine A6 ?_
  first|(exfalso;first|contradiction|omega)|(exact vb (by simp[Md, *]))
 refine Hv (h:=?_);refine A6 ?_
 first|(exfalso;first|contradiction|omega)|(exact vb (by simp[Md, *]))
theorem S1(s:Spc)(a:A9)(hs:SpcB s):AFn prog 132 [.agg (AT s), .agg (AB a)] (fun r=>r= .v (.bool (GA s a))):=by
 refine enter Tryz.func132 rfl rfl rfl rfl rfl 0 rfl ?_;refine FV (h:=CG (h:=?_));refine A3 rfl (A8 (Za s a hs) ?_);rintro r rfl;refine m_ (h:=?_);refine AJ true rfl rfl (fun hb1 hc1=>?_) (fun hb1 hc1=>?_)
 ·refine l_ (h:=Ab (h:=?_));refine As (A8 (eL s a.1 hs) ?_);rintro r rfl;refine Gk (h:=?_);refine A6 ?_
  first|(exfalso;first|contradiction|omega)|(exact vb (by simp[GA, *]))
 refine BT (h:=Bp (h:=BJ (h:=?_)));refine A6 ?_
 first|(exfalso;first|contradiction|omega)|(exact vb (by simp[GA, *]))
theorem Zb(s:Spc)(a:A9)(name:AE)(hs:SpcB s):AFn prog 133 [.agg (AT s), .agg (AB a), .v (.string name)] (fun r=>r= .agg (AB (AK s.files a name).1)):=by
 refine enter Tryz.func133 rfl rfl rfl rfl rfl 0 rfl ?_;refine Dh (h:=DT (h:=Az (h:=Gq (h:=?_))));refine A3 rfl (A8 (nU s.files a name hs.files) ?_);rintro r rfl;refine JK (h:=Bn (h:=?_));refine A4 rfl (fun hb1 hc1=>?_) (fun hb1 hc1=>?_)
 ·refine w_ (E0 (h:=e_ (B8 (Bu (?_)))));refine A6 ?_;rw[oZ (by simpa using hc1)];rfl
 refine AG (Fs (h:=e_ (B8 (?_))));refine A6 ?_;rfl
theorem Zc(w:Wch)(hk:w.kind=1∨w.kind=2):AFn prog 153 [.agg (Bd w)] (fun r=>r= .agg (AB (F6 w))):=by
 refine enter Tryz.func153 rfl rfl rfl rfl rfl 0 rfl ?_;refine C6 (h:=DT (h:=Ci (h:=BN (h:=?_))));refine A4 rfl (fun hb1 hc1=>?_) (fun hb1 hc1=>?_)
 ·refine Az (h:=s_ (h:=e_ (B8 (Bu (?_)))));refine A6 ?_;rw[F6,if_neg (by omega)];rfl
 refine AG (Az (h:=s_ (h:=e_ (B8 (?_)))));refine A6 ?_;rw[F6,if_pos (by omega)];rfl
theorem pA(s:Spc)(k:Int)(p:AE)(hv:SpcV s)(hm:s.mounts.length≤1000)(hp:p.size≤50000):AFn prog 130 [.agg (AT s), .v (.int .i64 k), .v (.string p)] (fun r=>r=Rz (Jv s k p)):=by
 have hsb:=hv.b hm;obtain⟨F,hF⟩:∃F,Bb s (0,0) p (decide (k=2))=F:=⟨_,rfl⟩;have hw:=oY s k p F hF;have hfind:AFn prog 141 [.agg (AT s), .agg (AB (0,0)), .v (.string p), .v (.bool (decide (k=2)))] (fun r=>r= .tup [.agg (Al F.1), .v (.int .i64 F.2)]):=by rw[←hF];exact Z8 s (0,0) p _ (hv.n hm) hv (by omega)
 refine enter Tryz.func130 rfl rfl rfl rfl rfl 0 rfl ?_;refine C6 (h:=Ja (h:=q_ (?_)));refine B9 (fun S=>S=⟨look [(1, .v (.int .i64 k)),(2, .v (.string p)),(3, .bp 0 0),(6, .bp 1 0),(22, .v (.bool ((!decide (k=1)&& !decide (k=2))|| !Fb p.data.toList)))],⟨[AT s,[.v (.int .i64 0), .v (.int .i64 0), .v (.int .i64 0), .v (.string ⟨#[]⟩), .v (.int .i64 0), .v (.int .i64 0)]],[]⟩⟩) ?_ ?_
 ·skip
  refine C5 (h:=FW (h:=?_));refine AJ true rfl rfl (fun hb1 hc1=>?_) (fun hb1 hc1=>?_)
  ·refine m_ (h:=GH (h:=C7 (h:=?_)));refine AJ false rfl rfl (fun hb2 hc2=>?_) (fun hb2 hc2=>?_)
   ·refine JN (h:=?_);exact⟨_,rfl,CA 2 0 rfl⟩
   refine m_ (h:=?_);refine As (A8 (Rm p hp) ?_);rintro r rfl;refine Cr (h:=FX (h:=?_));exact⟨_,rfl,CA 2 0 rfl⟩
  refine BD (h:=Bh (h:=m_ (h:=?_)));refine As (A8 (Rm p hp) ?_);rintro r rfl;refine Cr (h:=FX (h:=?_));exact⟨_,rfl,CA 2 0 rfl⟩
 rintro S rfl;refine A4 rfl (fun hb3 hc3=>?_) (fun hb3 hc3=>?_)
 ·have k1:(k≠1∧k≠2)∨Fb p.data.toList=false:=by simpa using hc3
  refine Br (h:=?_);refine A6 ?_;rw[hw,if_pos k1];rfl
 have k1:¬((k≠1∧k≠2)∨Fb p.data.toList=false):=by simpa using hc3
 refine AG (CF (h:=Sz (h:=DD (h:=?_))));refine A3 rfl (A8 (hfind) ?_);rintro r rfl;refine JK (h:=Bn (h:=?_));refine A4 rfl (fun hb4 hc4=>?_) (fun hb4 hc4=>?_)
 ·have k2:F.2≠0:=by simpa using hc4
  refine w_ (Gr (h:=E8 (h:=?_)));refine A6 ?_;rw[hw,if_neg k1,if_pos k2];rfl
 have k2:¬F.2≠0:=by simpa using hc4
 refine Dl (h:=BN (h:=?_));refine A4 rfl (fun hb5 hc5=>?_) (fun hb5 hc5=>?_)
 ·have k3:k=2:=hc5;refine Ci (h:=DE (h:=?_));refine A4 rfl (fun hb6 hc6=>?_) (fun hb6 hc6=>?_)
  ·have k4:F.1.ex=false:=by simpa using hc6
   refine Br (h:=Bu (?_));refine A6 ?_;rw[hw,if_neg k1,if_neg k2,if_pos k3,if_pos k4];rfl
  have k4:¬F.1.ex=false:=by simpa using hc6
  refine D8 (h:=Ab (h:=?_));refine A3 rfl (A8 (Ke s.files F.1.file hsb.files) ?_);rintro r rfl;refine DE (h:=?_);refine A4 rfl (fun hb7 hc7=>?_) (fun hb7 hc7=>?_)
  ·have k5:AU s.files F.1.file=false:=by simpa using hc7
   refine Br (h:=Bu (?_));refine A6 ?_;rw[hw,if_neg k1,if_neg k2,if_pos k3,if_neg k4,if_pos k5];rfl
  have k5:¬AU s.files F.1.file=false:=by simpa using hc7
  refine AG (Aa (h:=Ab (h:=Vy (h:=?_))));refine A6 ?_;rw[hw,if_neg k1,if_neg k2,if_pos k3,if_neg k4,if_neg k5];rfl
 have k3:¬k=2:=hc5;refine D8 (h:=BN (h:=?_));refine A4 rfl (fun hb8 hc8=>?_) (fun hb8 hc8=>?_)
 ·have k6:F.1.name=⟨#[]⟩:=hc8;refine Br (h:=?_);refine A6 ?_;rw[hw,if_neg k1,if_neg k2,if_neg k3,if_pos k6];rfl
 have k6:¬F.1.name=⟨#[]⟩:=hc8;refine AG (Hs (h:=Ab (h:=?_)));refine A3 rfl (A8 (Kg s.files F.1.dir F.1.name hsb.files) ?_);rintro r rfl;refine Ee (h:=C4 (h:=JO (h:=l_ (h:=E0 (h:=BJ (h:=?_))))));refine A6 ?_;rw[hw,if_neg k1,if_neg k2,if_neg k3,if_neg k6];rfl
theorem pB(s:Spc)(w:Wch)(hs:SpcB s):AFn prog 91 [.agg (AT s), .agg (Bd w)] (fun r=>r= .v (.bool (F1 s w))):=by
 refine enter Tryz.func91 rfl rfl rfl rfl rfl 0 rfl ?_;refine FV (h:=Ci (h:=e_ (BH (B1 (h:=?_)))));refine A4 rfl (fun hb1 hc1=>?_) (fun hb1 hc1=>?_)
 ·refine q_ (Db 21 (h:=AD 0 (h:=AA 1 (h:=?_))));refine c_ 2 rfl (A8 (mU w.name) ?_);rintro r rfl;refine o_ (h:=AF 3 (h:=?_));refine K1 (j:=3) rfl (fun hb2=>?_) (fun hb2=>?_)
  ·have hc2:=bp hb2;refine AA 4 (h:=AD 5 (h:=AA 6 (h:=?_)));refine c_ 7 rfl (A8 (S1 s w.dir hs) ?_);rintro r rfl;refine o_ (h:=JZ 8 (h:=AF 9 (h:=?_)));refine K1 (j:=9) rfl (fun hb3=>?_) (fun hb3=>?_)
   ·have hc3:=bp hb3;refine AD 10 (h:=AA 11 (h:=AA 12 (h:=AD 13 (h:=AA 14 (h:=AD 15 (h:=AA 16 (h:=?_)))))));refine c_ 17 rfl (A8 (Zb s w.dir w.name hs) ?_);rintro r rfl;refine o_ (h:=?_);refine GF (i:=18) rfl (JE rfl rfl (by repeat constructor) (by repeat constructor) (fun W=>Ry w.file (AK s.files w.dir w.name).1 W) (by kernel_rfl) ⟨rfl,rfl⟩) ?_;refine JZ 19 (h:=BE 20 (h:=z_ (h:=t_ (B8 (K2 (Bu (?_)))))));refine A6 ?_
    first|(exfalso;first|contradiction|omega)|(exact vb (by first|(simp[F1, *];done)|(simp[F1, *,eq_comm];done)))
   have hc3:=bp hb3;refine B5 10 (h:=B5 11 (h:=B5 12 (h:=B5 13 (h:=B5 14 (h:=B5 15 (h:=B5 16 (h:=B5 17 (h:=B5 18 (h:=Gi 19 (h:=BE 20 (h:=z_ (h:=t_ (B8 (K2 (Bu (?_))))))))))))))));refine A6 ?_
   first|(exfalso;first|contradiction|omega)|(exact vb (by first|(simp[F1, *];done)|(simp[F1, *,eq_comm];done)))
  have hc2:=bp hb2;refine B5 4 (h:=B5 5 (h:=B5 6 (h:=B5 7 (h:=Gi 8 (h:=AF 9 (h:=B5 10 (h:=B5 11 (h:=B5 12 (h:=B5 13 (h:=B5 14 (h:=B5 15 (h:=B5 16 (h:=B5 17 (h:=B5 18 (h:=Gi 19 (h:=BE 20 (h:=z_ (h:=t_ (B8 (K2 (Bu (?_))))))))))))))))))))));refine A6 ?_
  first|(exfalso;first|contradiction|omega)|(exact vb (by first|(simp[F1, *];done)|(simp[F1, *,eq_comm];done)))
 refine B1 (h:=?_);refine A4 rfl (fun hb4 hc4=>?_) (fun hb4 hc4=>?_)
 ·refine Az (h:=Bq (h:=?_));refine A3 rfl (JE rfl rfl (by repeat constructor) (by repeat constructor) (fun W=>Ry w.dir (0,0) W) (by kernel_rfl) ?_);refine m_ (h:=?_);refine AJ true rfl rfl (fun hb5 hc5=>?_) (fun hb5 hc5=>?_)
  ·refine Cx (h:=C7 (h:=?_));refine AJ true rfl rfl (fun hb6 hc6=>?_) (fun hb6 hc6=>?_)
   ·refine l_ (h:=Ab (h:=?_));refine As (A8 (S1 s w.file hs) ?_);rintro r rfl;refine Bj (h:=BC (h:=?_));refine A6 ?_
    first|(exfalso;first|contradiction|omega)|(exact vb (by first|(simp[F1, *];done)|(simp[F1, *,eq_comm];done)))
   refine BT (h:=Bp (h:=BC (h:=?_)));refine A6 ?_
   first|(exfalso;first|contradiction|omega)|(exact vb (by first|(simp[F1, *];done)|(simp[F1, *,eq_comm];done)))
  refine Fh (h:=BT (h:=Bp (h:=BC (h:=?_))));refine A6 ?_
  first|(exfalso;first|contradiction|omega)|(exact vb (by first|(simp[F1, *];done)|(simp[F1, *,eq_comm];done)))
 refine Er (h:=?_);refine A6 ?_
 first|(exfalso;first|contradiction|omega)|(exact vb (by first|(simp[F1, *];done)|(simp[F1, *,eq_comm];done)))
end
theorem pC(x:BitVec 64):(x &&& ~~~ 4294967295#64)=0#64↔x.toNat<4294967296:=by
 have hc:(x &&& 4294967295#64).toNat=x.toNat % 4294967296:=by
  rw[BitVec.toNat_and];exact Nat.and_two_pow_sub_one_eq_mod x.toNat 32
 have hs:x=(x &&& 4294967295#64) ||| (x &&& ~~~ 4294967295#64):=by
  apply BitVec.eq_of_getLsbD_eq;intro i hi;simp only[BitVec.getLsbD_or,BitVec.getLsbD_and,BitVec.getLsbD_not,hi];cases x.getLsbD i<;>cases (4294967295#64).getLsbD i<;>simp
 constructor
 ·intro h;rw[h,BitVec.or_zero]at hs;have:=congrArg BitVec.toNat hs;omega
 intro h
 have e:x &&& 4294967295#64=x:=by
  apply BitVec.eq_of_toNat_eq;rw[hc];omega
 rw[←e,BitVec.and_assoc];have:(4294967295#64 &&& ~~~ 4294967295#64)=0#64:=by decide
 rw[this,BitVec.and_zero]
theorem pD{m:Int}(h1:0≤m)(h2:m<18446744073709551616):Qw .u64 m 4294967295=0↔m<4294967296:=by
 have e:Qw .u64 m 4294967295=(((BitVec.ofInt 64 m &&& ~~~ 4294967295#64).toNat:Nat):Int):=by
  show IntKind.u64.wrap ((BitVec.ofInt 64 m &&& ~~~ 4294967295#64).toNat:Nat)=_;have h:=(BitVec.ofInt 64 m &&& ~~~ 4294967295#64).isLt;generalize (BitVec.ofInt 64 m &&& ~~~ 4294967295#64).toNat=n at h;simp only[IntKind.wrap,IntKind.signed,IntKind.bits];simp;omega
 rw[e]
 have hn:(BitVec.ofInt 64 m).toNat=m.toNat:=by
  rw[BitVec.toNat_ofInt];omega
 have h:=pC (BitVec.ofInt 64 m);rw[hn]at h;constructor
 ·intro k;have:(BitVec.ofInt 64 m &&& ~~~ 4294967295#64)=0#64:=BitVec.eq_of_toNat_eq (by simpa using Int.ofNat_inj.1 k);have:=h.1 this;omega
 intro k;rw[h.2 (by omega)];rfl
theorem pE{m:Int}(h1:0≤m):N9 .u64 m 32=0↔m<4294967296:=by
 show m.fdiv (2 ^ min (32:Int).toNat 64)=0↔_;rw[show((2:Int) ^ min (32:Int).toNat 64)=4294967296 by decide,Int.fdiv_eq_ediv_of_nonneg _ (by omega)];omega
def Em(r:Rul):Prop:=0≤r.calls∧r.calls<18446744073709551616∧r.path.size≤50000∧r.tests.length≤1000
def Cg(r:Rul):Bool:=
 if r.watch=0 then decide (r.path=⟨#[]⟩∧r.perm=0)
 else decide ((r.watch=1∨r.watch=2)∧r.list=3∧Fb r.path.data.toList=true∧(r.path.size:Int)≤128∧1≤r.perm∧r.perm≤15)
def Kv(list:Int):List Tst→Int
 |[]=>0
 |t::ts=>if Ba t list=0 then Kv list ts else Ba t list
theorem S2{list:Int}{l:List Tst}{j:Nat}{t:Tst}(ht:l[j]?=some t):Kv list (l.drop j)=if Ba t list=0 then Kv list (l.drop (j+1))else Ba t list:=by
 obtain⟨hk,e⟩:=Af.1 ht;rw[List.drop_eq_getElem_cons hk,Kv,e]
theorem Zd{list:Int}{l:List Tst}:Kv list (l.drop l.length)=0:=by simp[Kv]
def GC(r:Rul):Bool:=if r.list=2∨r.list=3 then decide (r.calls=0∨¬r.calls<4294967296)else decide (r.calls≠0)
def BL(r:Rul):Int:=
 if r.list<1∨5<r.list then 130 else if r.action≠1∧r.action≠2 then 131 else if GC r=true then 132 else if 8<(r.tests.length:Int)then 133
 else if Kv r.list r.tests≠0 then Kv r.list r.tests else if Cg r=false then 134 else if 31<(r.key.size:Int)then 135 else 0
section
theorem pF(f:Int):AFn prog 166 [.v (.int .i64 f)] (fun r=>r= .v (.bool (decide (f=2∨f=3)))):=by
 refine enter Tryz.func166 rfl rfl rfl rfl rfl 0 rfl ?_;refine Eh (h:=E1 (h:=?_));refine AJ false rfl rfl (fun hb1 hc1=>?_) (fun hb1 hc1=>?_)
 ·refine BD (h:=Gk (h:=?_));refine A6 ?_
  first|(exfalso;first|contradiction|omega)|(exact vb (by simp[*]))
 refine DD (h:=Bp (h:=BJ (h:=?_)));refine A6 ?_
 first|(exfalso;first|contradiction|omega)|(exact vb (by simp[*]))
theorem pG(m:Int)(h1:0≤m)(h2:m<18446744073709551616):AFn prog 167 [.v (.int .u64 m)] (fun r=>r= .v (.bool (decide (m<4294967296)))):=by
 refine enter Tryz.func167 rfl rfl rfl rfl rfl 0 rfl ?_;refine Eh (h:=at_ (h:=EH (h:=BJ (h:=?_))));refine A6 ?_
 first|(exfalso;first|contradiction|omega)|(exact vb (by exact decide_eq_decide.2 (pD h1 h2)))
theorem pH(m:Int)(h1:0≤m):AFn prog 154 [.v (.int .u64 m)] (fun r=>r= .v (.bool (decide (m<4294967296)))):=by
 refine enter Tryz.func154 rfl rfl rfl rfl rfl 0 rfl ?_;refine Eh (h:=RA (h:=EH (h:=BJ (h:=?_))));refine A6 ?_
 first|(exfalso;first|contradiction|omega)|(exact vb (by exact decide_eq_decide.2 (pE h1)))
theorem pJ(r:Rul)(hp:r.path.size≤50000):AFn prog 168 [.agg (AP r)] (fun x=>x= .v (.bool (Cg r))):=by
 refine enter Tryz.func168 rfl rfl rfl rfl rfl 0 rfl ?_;refine C6 (h:=B7 (h:=Ci (h:=e_ (BH (B1 (h:=?_))))));refine A4 rfl (fun hb1 hc1=>?_) (fun hb1 hc1=>?_)
 ·refine Az (h:=E1 (h:=?_));refine AJ true rfl rfl (fun hb2 hc2=>?_) (fun hb2 hc2=>?_)
  ·refine Cx (h:=Bj (h:=BC (h:=?_)));refine A6 ?_
   first|(exfalso;first|contradiction|omega)|(exact vb (by unfold Cg;simp[*]))
  refine DC (h:=BC (h:=?_));refine A6 ?_
  first|(exfalso;first|contradiction|omega)|(exact vb (by unfold Cg;simp[*]))
 refine q_ (B1 (h:=?_));refine A4 rfl (fun hb3 hc3=>?_) (fun hb3 hc3=>?_)
 ·refine AG (Fr (h:=Az (h:=E1 (h:=?_))));refine AJ true rfl rfl (fun hb4 hc4=>?_) (fun hb4 hc4=>?_)
  ·refine Ab (h:=?_);refine As (A8 (ZY r.path (by omega)) ?_);rintro r rfl;refine C7 (h:=?_);refine AJ true rfl rfl (fun hb5 hc5=>?_) (fun hb5 hc5=>?_)
   ·refine Ef (h:=HA (h:=C7 (h:=?_)));refine AJ true rfl rfl (fun hb6 hc6=>?_) (fun hb6 hc6=>?_)
    ·refine Ab (h:=EJ (h:=C7 (h:=?_)));refine AJ true rfl rfl (fun hb7 hc7=>?_) (fun hb7 hc7=>?_)
     ·refine Ab (h:=HA (h:=Bj (h:=BC (h:=?_))));refine A6 ?_
      first|(exfalso;first|contradiction|omega)|(exact vb (by unfold Cg;simp[*]))
     refine DC (h:=BC (h:=?_));refine A6 ?_
     first|(exfalso;first|contradiction|omega)|(exact vb (by unfold Cg;simp[*]))
    refine Fh (h:=DC (h:=BC (h:=?_)));refine A6 ?_
    first|(exfalso;first|contradiction|omega)|(exact vb (by unfold Cg;simp[*]))
   refine BT (h:=Bh (h:=Fh (h:=DC (h:=BC (h:=?_)))));refine A6 ?_
   first|(exfalso;first|contradiction|omega)|(exact vb (by unfold Cg;simp[*]))
  refine Fh (h:=BT (h:=Bh (h:=Fh (h:=Hv (h:=K2 (?_))))));refine Bu (?_);refine A6 ?_
  first|(exfalso;first|contradiction|omega)|(exact vb (by unfold Cg;simp[*]))
 refine Av (Ed (h:=?_));refine A4 rfl (fun hb8 hc8=>?_) (fun hb8 hc8=>?_)
 ·refine Az (h:=E1 (h:=?_));refine AJ true rfl rfl (fun hb9 hc9=>?_) (fun hb9 hc9=>?_)
  ·refine Ab (h:=?_);refine As (A8 (ZY r.path (by omega)) ?_);rintro r rfl;refine C7 (h:=?_);refine AJ true rfl rfl (fun hb10 hc10=>?_) (fun hb10 hc10=>?_)
   ·refine Ef (h:=HA (h:=C7 (h:=?_)));refine AJ true rfl rfl (fun hb11 hc11=>?_) (fun hb11 hc11=>?_)
    ·refine Ab (h:=EJ (h:=C7 (h:=?_)));refine AJ true rfl rfl (fun hb12 hc12=>?_) (fun hb12 hc12=>?_)
     ·refine Ab (h:=HA (h:=Bj (h:=BC (h:=?_))));refine A6 ?_
      first|(exfalso;first|contradiction|omega)|(exact vb (by unfold Cg;simp[*]))
     refine DC (h:=BC (h:=?_));refine A6 ?_
     first|(exfalso;first|contradiction|omega)|(exact vb (by unfold Cg;simp[*]))
    refine Fh (h:=DC (h:=BC (h:=?_)));refine A6 ?_
    first|(exfalso;first|contradiction|omega)|(exact vb (by unfold Cg;simp[*]))
   refine BT (h:=Bh (h:=Fh (h:=DC (h:=BC (h:=?_)))));refine A6 ?_
   first|(exfalso;first|contradiction|omega)|(exact vb (by unfold Cg;simp[*]))
  refine Fh (h:=BT (h:=Bh (h:=Fh (h:=Hv (h:=K2 (?_))))));refine Bu (?_);refine A6 ?_
  first|(exfalso;first|contradiction|omega)|(exact vb (by unfold Cg;simp[*]))
 refine Er (h:=?_);refine A6 ?_
 first|(exfalso;first|contradiction|omega)|(exact vb (by unfold Cg;simp[*]))
theorem pK(r:Rul)(hr:Em r):AFn prog 116 [.agg (AP r)] (fun x=>x= .v (.int .i64 (BL r))):=by
 obtain⟨m1,m2,hp,hl⟩:=hr;refine enter Tryz.func116 rfl rfl rfl rfl rfl 0 rfl ?_;refine C6 (h:=B7 (h:=Ci (h:=Di (h:=?_))));refine AJ false rfl rfl (fun hb1 hc1=>?_) (fun hb1 hc1=>?_)
 ·refine EK (h:=BA (h:=?_));refine A6 ?_
  first|(exfalso;first|contradiction|omega)|(exact vi (by first|(unfold BL;grind)|(unfold BL GC;grind)))
 refine JL (h:=CV (h:=?_));refine A4 rfl (fun hb2 hc2=>?_) (fun hb2 hc2=>?_)
 ·refine BA (h:=?_);refine A6 ?_
  first|(exfalso;first|contradiction|omega)|(exact vi (by first|(unfold BL;grind)|(unfold BL GC;grind)))
 refine AG (?_);refine Qv (⟨look [(1, .bp 0 0),(2, .v (.int .i64 0))],⟨[AP r],[]⟩⟩) (¬(r.action≠1∧r.action≠2)) ?_ (fun hA=>?_)
 ·skip
  refine Az (h:=FW (h:=?_));refine AJ true rfl rfl (fun hb3 hc3=>?_) (fun hb3 hc3=>?_)
  ·refine D5 (h:=Bj (h:=e_ (?_)));refine A4 rfl (fun hb4 hc4=>?_) (fun hb4 hc4=>?_)
   ·refine BA (h:=?_);refine A6 ?_
    first|(exfalso;first|contradiction|omega)|(exact vi (by first|(unfold BL;grind)|(unfold BL GC;grind)))
   refine BF (AM (?_))
   first|(exfalso;first|contradiction|omega)|exact⟨(by omega),CA 1 0 rfl⟩
  refine DC (h:=e_ (JH (h:=BF (AM (?_)))))
  first|(exfalso;first|contradiction|omega)|exact⟨(by omega),CA 1 0 rfl⟩
 skip
 refine Qv (⟨look [(1, .bp 0 0),(2, .v (.int .i64 0))],⟨[AP r],[]⟩⟩) (GC r=false) ?_ (fun hB=>?_)
 ·skip
  refine Az (h:=?_);refine A3 rfl (A8 (pF _) ?_);rintro r rfl;refine e_ (?_);refine A4 rfl (fun hb5 hc5=>?_) (fun hb5 hc5=>?_)
  ·refine Az (h:=E1 (h:=?_));refine AJ false rfl rfl (fun hb6 hc6=>?_) (fun hb6 hc6=>?_)
   ·refine BT (h:=FE (h:=?_));refine A6 ?_
    first|(exfalso;first|contradiction|omega)|(exact vi (by first|(unfold BL;grind)|(unfold BL GC;grind)))
   refine Ab (h:=?_);refine As (A8 (pG _ m1 m2) ?_);rintro r rfl;refine Cr (h:=CV (h:=?_));refine A4 rfl (fun hb7 hc7=>?_) (fun hb7 hc7=>?_)
   ·refine BA (h:=?_);refine A6 ?_
    first|(exfalso;first|contradiction|omega)|(exact vi (by first|(unfold BL;grind)|(unfold BL GC;grind)))
   refine BF (AM (?_))
   first|(exfalso;first|contradiction|omega)|exact⟨(by unfold GC;grind),CA 1 0 rfl⟩
  refine Az (h:=Bn (h:=?_));refine A4 rfl (fun hb8 hc8=>?_) (fun hb8 hc8=>?_)
  ·refine BA (h:=?_);refine A6 ?_
   first|(exfalso;first|contradiction|omega)|(exact vi (by first|(unfold BL;grind)|(unfold BL GC;grind)))
  refine BF (AM (?_))
  first|(exfalso;first|contradiction|omega)|exact⟨(by unfold GC;grind),CA 1 0 rfl⟩
 skip
 refine Ci (h:=HQ (h:=e_ (?_)));refine A4 rfl (fun hb9 hc9=>?_) (fun hb9 hc9=>?_)
 ·refine BA (h:=?_);refine A6 ?_
  first|(exfalso;first|contradiction|omega)|(exact vi (by first|(unfold BL;grind)|(unfold BL GC;grind)))
 rw[List.length_map]at hc9;refine D8 (h:=Ha (h:=e_ (BH (?_))));refine BR (fun n s=>∃j:Nat,j≤r.tests.length∧n=r.tests.length - j∧Kv r.list (r.tests.drop j)=Kv r.list r.tests∧s=⟨look [(1, .bp 0 0),(2, .v (.int .i64 0)),(42, .sl 5 (r.tests.map Cy) none),(43, .v (.int .i64 ((r.tests.map Cy).length:Int))),(44, .v (.int .i64 (j:Int)))],⟨[AP r],[]⟩⟩) (r.tests.length) ((wk 1 0)) (⟨0,by omega,rfl,rfl,rfl⟩) ?_;rintro n s ⟨j,hj,rfl,ha,rfl⟩;refine w_ (Cj (h:=q_ (?_)));refine A4 rfl (fun hb10 hc10=>?_) (fun hb10 hc10=>?_)
 ·obtain⟨hlt,t,hy,hrow, -⟩:=Bz Cy hc10;refine C2 (h:=w_ (i_ (h:=Hu (h:=CF (h:=Ab (h:=?_))))));refine A3 rfl (A8 (WO t _) ?_);rintro r rfl;refine C4 (h:=Bn (h:=?_));refine A4 rfl (fun hb11 hc11=>?_) (fun hb11 hc11=>?_)
  ·rw[S2 hy,if_neg hc11]at ha;refine Aa (h:=BC (h:=EB (h:=?_)));refine A6 ?_
   first|(exfalso;first|contradiction|omega)|(exact vi (by first|(unfold BL;grind)|(unfold BL GC;grind)))
  refine BF (BB (t_ (Av (Gp (h:=?_)))));refine⟨_,_,?_,⟨j+1,by omega,rfl,(by rw[←ha,S2 hy,if_pos (by omega)]),rfl⟩,(wk 1 0)⟩;omega
 have e:=CD Cy hj hc10;subst e;rw[Zd]at ha;refine CK (h:=q_ (CF (h:=?_)));refine A3 rfl (A8 (pJ r hp) ?_);rintro r rfl;refine DE (h:=?_);refine A4 rfl (fun hb12 hc12=>?_) (fun hb12 hc12=>?_)
 ·refine BA (h:=?_);refine A6 ?_
  first|(exfalso;first|contradiction|omega)|(exact vi (by first|(unfold BL;grind)|(unfold BL GC;grind)))
 refine D8 (h:=HQ (h:=e_ (?_)));refine A4 rfl (fun hb13 hc13=>?_) (fun hb13 hc13=>?_)
 ·refine BA (h:=?_);refine A6 ?_
  first|(exfalso;first|contradiction|omega)|(exact vi (by first|(unfold BL;grind)|(unfold BL GC;grind)))
 refine AG (Kc (h:=?_));refine A6 ?_
 first|(exfalso;first|contradiction|omega)|(exact vi (by first|(unfold BL;grind)|(unfold BL GC;grind)))
theorem S3(r:Rul)(hr:Em r):AFn prog 105 [.agg (AP r)] (fun x=>x= .v (.int .i64 (BL r))):=by
 obtain⟨m1,m2,hp,hl⟩:=hr;refine enter Tryz.func105 rfl rfl rfl rfl rfl 0 rfl ?_;refine C6 (h:=B7 (h:=Ci (h:=Di (h:=?_))));refine AJ false rfl rfl (fun hb1 hc1=>?_) (fun hb1 hc1=>?_)
 ·refine EK (h:=BA (h:=?_));refine A6 ?_
  first|(exfalso;first|contradiction|omega)|(exact vi (by first|(unfold BL;grind)|(unfold BL Cg;grind)))
 refine JL (h:=CV (h:=?_));refine A4 rfl (fun hb2 hc2=>?_) (fun hb2 hc2=>?_)
 ·refine BA (h:=?_);refine A6 ?_
  first|(exfalso;first|contradiction|omega)|(exact vi (by first|(unfold BL;grind)|(unfold BL Cg;grind)))
 refine AG (?_);refine Qv (⟨look [(1, .bp 0 0),(2, .v (.int .i64 0))],⟨[AP r],[]⟩⟩) (¬(r.action≠1∧r.action≠2)) ?_ (fun hA=>?_)
 ·skip
  refine Az (h:=FW (h:=?_));refine AJ true rfl rfl (fun hb3 hc3=>?_) (fun hb3 hc3=>?_)
  ·refine D5 (h:=Bj (h:=e_ (?_)));refine A4 rfl (fun hb4 hc4=>?_) (fun hb4 hc4=>?_)
   ·refine BA (h:=?_);refine A6 ?_
    first|(exfalso;first|contradiction|omega)|(exact vi (by first|(unfold BL;grind)|(unfold BL Cg;grind)))
   refine BF (AM (?_))
   first|(exfalso;first|contradiction|omega)|exact⟨(by omega),CA 1 0 rfl⟩
  refine DC (h:=e_ (JH (h:=BF (AM (?_)))))
  first|(exfalso;first|contradiction|omega)|exact⟨(by omega),CA 1 0 rfl⟩
 skip
 refine L3 (⟨look [(1, .bp 0 0),(2, .v (.int .i64 0)),(3, .v (.bool (decide (r.list=2∨r.list=3))))],⟨[AP r],[]⟩⟩) ?_ ?_
 ·skip
  refine Av (Cx (h:=m_ (h:=?_)));refine AJ false rfl rfl (fun hb5 hc5=>?_) (fun hb5 hc5=>?_)
  ·refine Hr (h:=Ck (h:=?_))
   first|(exfalso;first|contradiction|omega)|exact CA 1 0 rfl
  refine Cx (h:=Bp (h:=Ck (h:=?_)))
  first|(exfalso;first|contradiction|omega)|exact CA 1 0 rfl
 skip
 refine q_ (?_);refine L3 (⟨look [(1, .bp 0 0),(2, .v (.int .i64 0)),(50, .v (.bool (GC r)))],⟨[AP r],[]⟩⟩) ?_ ?_
 ·skip
  refine EX (h:=?_);refine AJ true rfl rfl (fun hb6 hc6=>?_) (fun hb6 hc6=>?_)
  ·refine Cx (h:=m_ (h:=?_));refine AJ false rfl rfl (fun hb7 hc7=>?_) (fun hb7 hc7=>?_)
   ·refine Fi (h:=C7 (h:=Hq (h:=Lx (h:=Dg (h:=Je (h:=?_))))))
    first|(exfalso;first|contradiction|omega)|exact Ai 1 0 rfl rfl rfl rfl (by repeat (first|exact Sub.nil|refine Aj rfl rfl ?_|refine Ap ?_|refine Aq rfl ?_|refine Ar rfl ?_|(apply Sub.of;(focus exact rfl);(focus exact LeA.of_eq (vb (by unfold GC;grind)));(focus exact rfl))))
   refine Ab (h:=?_);refine As (A8 (pH _ m1) ?_);rintro r rfl;refine Cr (h:=Bp (h:=C7 (h:=?_)));refine AJ false rfl rfl (fun hb8 hc8=>?_) (fun hb8 hc8=>?_)
   ·refine Hq (h:=Lx (h:=Dg (h:=Je (h:=?_))))
    first|(exfalso;first|contradiction|omega)|exact Ai 1 0 rfl rfl rfl rfl (by repeat (first|exact Sub.nil|refine Aj rfl rfl ?_|refine Ap ?_|refine Aq rfl ?_|refine Ar rfl ?_|(apply Sub.of;(focus exact rfl);(focus exact LeA.of_eq (vb (by unfold GC;grind)));(focus exact rfl))))
   refine m_ (h:=EV (h:=?_));refine AJ true rfl rfl (fun hb9 hc9=>?_) (fun hb9 hc9=>?_)
   ·refine D5 (h:=Bj (h:=FX (h:=?_)))
    (exfalso;first|contradiction|omega)
   refine DC (h:=FX (h:=?_))
   first|(exfalso;first|contradiction|omega)|exact Ai 1 0 rfl rfl rfl rfl (by repeat (first|exact Sub.nil|refine Aj rfl rfl ?_|refine Ap ?_|refine Aq rfl ?_|refine Ar rfl ?_|(apply Sub.of;(focus exact rfl);(focus exact LeA.of_eq (vb (by unfold GC;grind)));(focus exact rfl))))
  refine BT (h:=Jc (h:=Bh (h:=m_ (h:=EV (h:=?_)))));refine AJ true rfl rfl (fun hb10 hc10=>?_) (fun hb10 hc10=>?_)
  ·refine D5 (h:=Bj (h:=FX (h:=?_)))
   first|(exfalso;first|contradiction|omega)|exact Ai 1 0 rfl rfl rfl rfl (by repeat (first|exact Sub.nil|refine Aj rfl rfl ?_|refine Ap ?_|refine Aq rfl ?_|refine Ar rfl ?_|(apply Sub.of;(focus exact rfl);(focus exact LeA.of_eq (vb (by unfold GC;grind)));(focus exact rfl))))
  refine DC (h:=FX (h:=?_))
  (exfalso;first|contradiction|omega)
 skip
 refine A4 rfl (fun hb11 hc11=>?_) (fun hb11 hc11=>?_)
 ·refine BA (h:=?_);refine A6 ?_
  first|(exfalso;first|contradiction|omega)|(exact vi (by first|(unfold BL;grind)|(unfold BL Cg;grind)))
 refine D8 (h:=HQ (h:=e_ (?_)));refine A4 rfl (fun hb12 hc12=>?_) (fun hb12 hc12=>?_)
 ·refine BA (h:=?_);refine A6 ?_
  first|(exfalso;first|contradiction|omega)|(exact vi (by first|(unfold BL;grind)|(unfold BL Cg;grind)))
 rw[List.length_map]at hc12;refine AG (CW (h:=?_));refine BR (fun n s=>∃j:Nat,j≤r.tests.length∧n=r.tests.length - j∧Kv r.list (r.tests.drop j)=Kv r.list r.tests∧s=⟨look [(1, .bp 0 0),(2, .v (.int .i64 0)),(4, .v (.int .i64 (j:Int)))],⟨[AP r],[]⟩⟩) (r.tests.length) ((wk 1 0)) (⟨0,by omega,rfl,rfl,rfl⟩) ?_;rintro n s ⟨j,hj,rfl,ha,rfl⟩;refine GN (h:=?_);refine A4 rfl (fun hb13 hc13=>?_) (fun hb13 hc13=>?_)
 ·obtain⟨hlt,t,hy,hrow, -⟩:=Bz Cy hc13;refine AG (q_ (BH (q_ (Db 9 (h:=AD 0 (h:=AA 1 (h:=AF 2 (h:=DK 3 (h:=AA 4 (h:=AD 5 (h:=AA 6 (h:=?_))))))))))));refine c_ 7 rfl (A8 (eC t _) ?_);rintro r rfl;refine o_ (h:=BE 8 (h:=z_ (h:=t_ (w_ (m_ (h:=GH (h:=e_ (?_))))))));refine A4 rfl (fun hb14 hc14=>?_) (fun hb14 hc14=>?_)
  ·rw[S2 hy,if_neg hc14]at ha;refine Aa (h:=BC (h:=EB (h:=?_)));refine A6 ?_
   first|(exfalso;first|contradiction|omega)|(exact vi (by first|(unfold BL;grind)|(unfold BL Cg;grind)))
  refine DL (h:=?_);refine⟨_,_,?_,⟨j+1,by omega,rfl,(by rw[←ha,S2 hy,if_pos (by omega)]),rfl⟩,(wk 1 0)⟩;omega
 have e:=CD Cy hj hc13;subst e;rw[Zd]at ha;refine CK (h:=?_);refine Qv (⟨look [(1, .bp 0 0),(2, .v (.int .i64 0))],⟨[AP r],[]⟩⟩) (Cg r=true) ?_ (fun hW=>?_)
 ·skip
  refine Az (h:=e_ (BH (B1 (h:=?_))));refine A4 rfl (fun hb15 hc15=>?_) (fun hb15 hc15=>?_)
  ·refine Az (h:=FW (h:=?_));refine AJ false rfl rfl (fun hb16 hc16=>?_) (fun hb16 hc16=>?_)
   ·refine EK (h:=Bl (h:=?_));refine A6 ?_
    first|(exfalso;first|contradiction|omega)|(exact vi (by first|(unfold BL;grind)|(unfold BL Cg;grind)))
   refine D5 (h:=CV (h:=?_));refine A4 rfl (fun hb17 hc17=>?_) (fun hb17 hc17=>?_)
   ·refine Bl (h:=?_);refine A6 ?_
    first|(exfalso;first|contradiction|omega)|(exact vi (by first|(unfold BL;grind)|(unfold BL Cg;grind)))
   refine BF (BB (AM (?_)))
   first|(exfalso;first|contradiction|omega)|exact⟨(by unfold Cg;grind),CA 1 0 rfl⟩
  refine q_ (B1 (h:=?_));refine A4 rfl (fun hb18 hc18=>?_) (fun hb18 hc18=>?_)
  ·refine AG (Fr (h:=Az (h:=FW (h:=?_))));refine AJ false rfl rfl (fun hb19 hc19=>?_) (fun hb19 hc19=>?_)
   ·refine BT (h:=C7 (h:=BT (h:=C7 (h:=Ch (h:=EK (h:=w_ (?_)))))));refine BC (h:=?_);refine A6 ?_
    first|(exfalso;first|contradiction|omega)|(exact vi (by first|(unfold BL;grind)|(unfold BL Cg;grind)))
   refine Ab (h:=?_);refine As (A8 (Rm _ hp) ?_);rintro r rfl;refine Cr (h:=Bh (h:=?_));refine AJ false rfl rfl (fun hb20 hc20=>?_) (fun hb20 hc20=>?_)
   ·refine BT (h:=C7 (h:=Ch (h:=EK (h:=Bl (h:=?_)))));refine A6 ?_
    first|(exfalso;first|contradiction|omega)|(exact vi (by first|(unfold BL;grind)|(unfold BL Cg;grind)))
   refine Ef (h:=E6 (h:=Bh (h:=?_)));refine AJ false rfl rfl (fun hb21 hc21=>?_) (fun hb21 hc21=>?_)
   ·refine Ch (h:=EK (h:=Bl (h:=?_)));refine A6 ?_
    first|(exfalso;first|contradiction|omega)|(exact vi (by first|(unfold BL;grind)|(unfold BL Cg;grind)))
   refine Ab (h:=K8 (h:=Bh (h:=?_)));refine AJ false rfl rfl (fun hb22 hc22=>?_) (fun hb22 hc22=>?_)
   ·refine EK (h:=Bl (h:=?_));refine A6 ?_
    first|(exfalso;first|contradiction|omega)|(exact vi (by first|(unfold BL;grind)|(unfold BL Cg;grind)))
   refine JL (h:=CV (h:=?_));refine A4 rfl (fun hb23 hc23=>?_) (fun hb23 hc23=>?_)
   ·refine Bl (h:=?_);refine A6 ?_
    first|(exfalso;first|contradiction|omega)|(exact vi (by first|(unfold BL;grind)|(unfold BL Cg;grind)))
   refine BF (BB (AM (?_)))
   first|(exfalso;first|contradiction|omega)|exact⟨(by unfold Cg;grind),CA 1 0 rfl⟩
  refine Av (Ed (h:=?_));refine A4 rfl (fun hb24 hc24=>?_) (fun hb24 hc24=>?_)
  ·refine Az (h:=FW (h:=?_));refine AJ false rfl rfl (fun hb25 hc25=>?_) (fun hb25 hc25=>?_)
   ·refine BT (h:=C7 (h:=BT (h:=C7 (h:=Ch (h:=EK (h:=w_ (?_)))))));refine BC (h:=?_);refine A6 ?_
    first|(exfalso;first|contradiction|omega)|(exact vi (by first|(unfold BL;grind)|(unfold BL Cg;grind)))
   refine Ab (h:=?_);refine As (A8 (Rm _ hp) ?_);rintro r rfl;refine Cr (h:=Bh (h:=?_));refine AJ false rfl rfl (fun hb26 hc26=>?_) (fun hb26 hc26=>?_)
   ·refine BT (h:=C7 (h:=Ch (h:=EK (h:=Bl (h:=?_)))));refine A6 ?_
    first|(exfalso;first|contradiction|omega)|(exact vi (by first|(unfold BL;grind)|(unfold BL Cg;grind)))
   refine Ef (h:=E6 (h:=Bh (h:=?_)));refine AJ false rfl rfl (fun hb27 hc27=>?_) (fun hb27 hc27=>?_)
   ·refine Ch (h:=EK (h:=Bl (h:=?_)));refine A6 ?_
    first|(exfalso;first|contradiction|omega)|(exact vi (by first|(unfold BL;grind)|(unfold BL Cg;grind)))
   refine Ab (h:=K8 (h:=Bh (h:=?_)));refine AJ false rfl rfl (fun hb28 hc28=>?_) (fun hb28 hc28=>?_)
   ·refine EK (h:=Bl (h:=?_));refine A6 ?_
    first|(exfalso;first|contradiction|omega)|(exact vi (by first|(unfold BL;grind)|(unfold BL Cg;grind)))
   refine JL (h:=CV (h:=?_));refine A4 rfl (fun hb29 hc29=>?_) (fun hb29 hc29=>?_)
   ·refine Bl (h:=?_);refine A6 ?_
    first|(exfalso;first|contradiction|omega)|(exact vi (by first|(unfold BL;grind)|(unfold BL Cg;grind)))
   refine BF (BB (AM (?_)))
   first|(exfalso;first|contradiction|omega)|exact⟨(by unfold Cg;grind),CA 1 0 rfl⟩
  refine Bl (h:=?_);refine A6 ?_
  first|(exfalso;first|contradiction|omega)|(exact vi (by first|(unfold BL;grind)|(unfold BL Cg;grind)))
 skip
 refine Ci (h:=HQ (h:=e_ (?_)));refine A4 rfl (fun hb30 hc30=>?_) (fun hb30 hc30=>?_)
 ·refine BA (h:=?_);refine A6 ?_
  first|(exfalso;first|contradiction|omega)|(exact vi (by first|(unfold BL;grind)|(unfold BL Cg;grind)))
 refine AG (Kc (h:=?_));refine A6 ?_
 first|(exfalso;first|contradiction|omega)|(exact vi (by first|(unfold BL;grind)|(unfold BL Cg;grind)))
end
end Go.Proofs.YtbgnigjfkbmceaaGreatDoor
