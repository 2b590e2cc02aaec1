/-
  Part 5 of the proof of FilterDecidesP: what the statement's proof uses of the texts in wip/tpl.
-/
import Derived.Laws.StructEq
import Derived.Test.YtbgnigjfkbmceaaGreatDoorQh4
open Go.Proofs.Tryz (prog)
set_option maxRecDepth 10000
set_option maxHeartbeats 4000000
set_option linter.unusedVariables false
set_option linter.unusedSimpArgs false
namespace Go.Proofs.YtbgnigjfkbmceaaGreatDoor
open Go.RowKit
def Fm(op a b:Int):Bool:=
 if op=1 then decide (a=b)else if op=2 then !decide (a=b)else if op=3 then decide (a<b)else if op=4 then decide (a≤b)else if op=5 then decide (b<a)
 else if op=6 then decide (b≤a)else if op=7 then !decide (GZ .i64 a b=0)else decide (GZ .i64 a b=b)
section
theorem Vw(op a b:Int)(h1:1≤op)(h2:op≤8):AFn prog 223 [.v (.int .i64 op), .v (.int .i64 a), .v (.int .i64 b)] (fun r=>r= .v (.bool (Fm op a b))):=by
 refine enter Tryz.func223 rfl rfl rfl rfl rfl 0 rfl ?_;refine w_ (Bo (h:=e_ (BF (Ak (h:=?_)))));refine A4 rfl (fun hb1 hc1=>?_) (fun hb1 hc1=>?_)
 ·refine Aa (h:=CE (h:=Ax (h:=?_)));refine A6 ?_
  first|(exfalso;first|contradiction|omega)|(exact vb (by unfold Fm;simp[*]))
 refine Ak (h:=?_);refine A4 rfl (fun hb2 hc2=>?_) (fun hb2 hc2=>?_)
 ·refine DA (h:=Gd (h:=Ax (h:=?_)));refine A6 ?_
  first|(exfalso;first|contradiction|omega)|(exact vb (by unfold Fm;simp[*]))
 refine Ak (h:=?_);refine A4 rfl (fun hb3 hc3=>?_) (fun hb3 hc3=>?_)
 ·refine DA (h:=JG (h:=Ax (h:=?_)));refine A6 ?_
  first|(exfalso;first|contradiction|omega)|(exact vb (by unfold Fm;simp[*]))
 refine Ak (h:=?_);refine A4 rfl (fun hb4 hc4=>?_) (fun hb4 hc4=>?_)
 ·refine DA (h:=Fg (h:=Ax (h:=?_)));refine A6 ?_
  first|(exfalso;first|contradiction|omega)|(exact vb (by unfold Fm;simp[*]))
 refine Ak (h:=?_);refine A4 rfl (fun hb5 hc5=>?_) (fun hb5 hc5=>?_)
 ·refine DA (h:=Ed (h:=Ax (h:=?_)));refine A6 ?_
  first|(exfalso;first|contradiction|omega)|(exact vb (by unfold Fm;simp[*]))
 refine Ak (h:=?_);refine A4 rfl (fun hb6 hc6=>?_) (fun hb6 hc6=>?_)
 ·refine DA (h:=DR (h:=Ax (h:=?_)));refine A6 ?_
  first|(exfalso;first|contradiction|omega)|(exact vb (by unfold Fm;simp[*]))
 refine Ak (h:=?_);refine A4 rfl (fun hb7 hc7=>?_) (fun hb7 hc7=>?_)
 ·refine DA (h:=ES (h:=Gd (h:=Ax (h:=?_))));refine A6 ?_
  first|(exfalso;first|contradiction|omega)|(exact vb (by unfold Fm;simp[*]))
 refine Ak (h:=?_);refine A4 rfl (fun hb8 hc8=>?_) (fun hb8 hc8=>?_)
 ·refine DA (h:=ES (h:=CE (h:=Ax (h:=?_))));refine A6 ?_
  first|(exfalso;first|contradiction|omega)|(exact vb (by unfold Fm;simp[*]))
 refine FG (h:=?_);refine A6 ?_
 (exfalso;first|contradiction|omega)
theorem Vx(op a b:Int)(h1:1≤op)(h2:op≤8):AFn prog 225 [.v (.int .i64 op), .v (.int .i64 a), .v (.int .i64 b)] (fun r=>r= .v (.bool (Fm op a b))):=by
 refine enter Tryz.func225 rfl rfl rfl rfl rfl 0 rfl ?_;refine w_ (Bo (h:=e_ (BF (Ak (h:=?_)))));refine A4 rfl (fun hb1 hc1=>?_) (fun hb1 hc1=>?_)
 ·refine Aa (h:=CE (h:=Ax (h:=?_)));refine A6 ?_
  first|(exfalso;first|contradiction|omega)|(exact vb (by unfold Fm;simp[*]))
 refine Ak (h:=?_);refine A4 rfl (fun hb2 hc2=>?_) (fun hb2 hc2=>?_)
 ·refine DA (h:=Gd (h:=Ax (h:=?_)));refine A6 ?_
  first|(exfalso;first|contradiction|omega)|(exact vb (by unfold Fm;simp[*]))
 refine Ak (h:=?_);refine A4 rfl (fun hb3 hc3=>?_) (fun hb3 hc3=>?_)
 ·refine DA (h:=JG (h:=Ax (h:=?_)));refine A6 ?_
  first|(exfalso;first|contradiction|omega)|(exact vb (by unfold Fm;simp[*]))
 refine Ak (h:=?_);refine A4 rfl (fun hb4 hc4=>?_) (fun hb4 hc4=>?_)
 ·refine DA (h:=Fg (h:=Ax (h:=?_)));refine A6 ?_
  first|(exfalso;first|contradiction|omega)|(exact vb (by unfold Fm;simp[*]))
 refine Ak (h:=?_);refine A4 rfl (fun hb5 hc5=>?_) (fun hb5 hc5=>?_)
 ·refine DA (h:=Ed (h:=Ax (h:=?_)));refine A6 ?_
  first|(exfalso;first|contradiction|omega)|(exact vb (by unfold Fm;simp[*]))
 refine Ak (h:=?_);refine A4 rfl (fun hb6 hc6=>?_) (fun hb6 hc6=>?_)
 ·refine DA (h:=DR (h:=Ax (h:=?_)));refine A6 ?_
  first|(exfalso;first|contradiction|omega)|(exact vb (by unfold Fm;simp[*]))
 refine Ak (h:=?_);refine A4 rfl (fun hb7 hc7=>?_) (fun hb7 hc7=>?_)
 ·refine DA (h:=ES (h:=Gd (h:=Ax (h:=?_))));refine A6 ?_
  first|(exfalso;first|contradiction|omega)|(exact vb (by unfold Fm;simp[*]))
 refine BG (BA (t_ (DA (h:=ES (h:=CE (h:=Az (h:=?_)))))));refine A6 ?_
 first|(exfalso;first|contradiction|omega)|(exact vb (by unfold Fm;simp[*]))
theorem Vy(f:Int)(c:Ctx)(k:Cxs):AFn prog 163 [.v (.int .i64 f), .agg (C7 c k)] (fun r=>r= .v (.bool (Eu f c))):=by
 refine enter Tryz.func163 rfl rfl rfl rfl rfl 0 rfl ?_;refine EG (h:=Bo (h:=DR (h:=m_ (h:=?_))));refine AJ true rfl rfl (fun hb1 hc1=>?_) (fun hb1 hc1=>?_)
 ·refine m_ (h:=Fg (h:=DS (h:=?_)));refine A4 rfl (fun hb2 hc2=>?_) (fun hb2 hc2=>?_)
  ·refine Ay (h:=Dt (h:=Dd (h:=?_)));refine A6 ?_
   first|(exfalso;first|contradiction|omega)|(exact vb (by unfold Eu;(repeat' split)<;>(try rw[Bool.eq_iff_iff])<;>(try simp[*])<;>(try omega)))
  refine AG (Aa (h:=FD (h:=?_)));refine AJ false rfl rfl (fun hb3 hc3=>?_) (fun hb3 hc3=>?_)
  ·refine Fu (h:=Az (h:=?_));refine A6 ?_
   first|(exfalso;first|contradiction|omega)|(exact vb (by unfold Eu;(repeat' split)<;>(try rw[Bool.eq_iff_iff])<;>(try simp[*])<;>(try omega)))
  refine Ce (h:=Bh (h:=Az (h:=?_)));refine A6 ?_
  first|(exfalso;first|contradiction|omega)|(exact vb (by unfold Eu;(repeat' split)<;>(try rw[Bool.eq_iff_iff])<;>(try simp[*])<;>(try omega)))
 refine BY (h:=FV (h:=AG (Aa (h:=FD (h:=?_)))));refine AJ false rfl rfl (fun hb4 hc4=>?_) (fun hb4 hc4=>?_)
 ·refine Fu (h:=Az (h:=?_));refine A6 ?_
  first|(exfalso;first|contradiction|omega)|(exact vb (by unfold Eu;(repeat' split)<;>(try rw[Bool.eq_iff_iff])<;>(try simp[*])<;>(try omega)))
 refine Ce (h:=Bh (h:=Az (h:=?_)));refine A6 ?_
 (exfalso;first|contradiction|omega)
theorem Sx(f:Int)(c:Ctx)(k:Cxs)(y:Itm):AFn prog 224 [.v (.int .i64 f), .agg (C7 c k), .agg (Dl y)] (fun r=>r= .v (.int .i64 (Bz f c y))):=by
 refine enter Tryz.func224 rfl rfl rfl rfl rfl 0 rfl ?_;refine FC (h:=Ay (h:=Dw (h:=Bf (h:=e_ (BF (Ak (h:=?_)))))));refine A4 rfl (fun hb1 hc1=>?_) (fun hb1 hc1=>?_)
 ·refine Ay (h:=Ax (h:=?_));refine A6 ?_
  first|(exfalso;first|contradiction|omega)|(exact vi (by unfold Bz;simp[*]))
 refine Ak (h:=?_);refine A4 rfl (fun hb2 hc2=>?_) (fun hb2 hc2=>?_)
 ·refine Ay (h:=Ax (h:=?_));refine A6 ?_
  first|(exfalso;first|contradiction|omega)|(exact vi (by unfold Bz;simp[*]))
 refine Ak (h:=?_);refine A4 rfl (fun hb3 hc3=>?_) (fun hb3 hc3=>?_)
 ·refine Ay (h:=Ax (h:=?_));refine A6 ?_
  first|(exfalso;first|contradiction|omega)|(exact vi (by unfold Bz;simp[*]))
 refine Ak (h:=?_);refine A4 rfl (fun hb4 hc4=>?_) (fun hb4 hc4=>?_)
 ·refine Ay (h:=Ax (h:=?_));refine A6 ?_
  first|(exfalso;first|contradiction|omega)|(exact vi (by unfold Bz;simp[*]))
 refine Ak (h:=?_);refine A4 rfl (fun hb5 hc5=>?_) (fun hb5 hc5=>?_)
 ·refine Ay (h:=Ax (h:=?_));refine A6 ?_
  first|(exfalso;first|contradiction|omega)|(exact vi (by unfold Bz;simp[*]))
 refine Ak (h:=?_);refine A4 rfl (fun hb6 hc6=>?_) (fun hb6 hc6=>?_)
 ·refine Ay (h:=Ax (h:=?_));refine A6 ?_
  first|(exfalso;first|contradiction|omega)|(exact vi (by unfold Bz;simp[*]))
 refine Ak (h:=?_);refine A4 rfl (fun hb7 hc7=>?_) (fun hb7 hc7=>?_)
 ·refine Ay (h:=Ax (h:=?_));refine A6 ?_
  first|(exfalso;first|contradiction|omega)|(exact vi (by unfold Bz;simp[*]))
 refine Ak (h:=?_);refine A4 rfl (fun hb8 hc8=>?_) (fun hb8 hc8=>?_)
 ·refine Ay (h:=Ax (h:=?_));refine A6 ?_
  first|(exfalso;first|contradiction|omega)|(exact vi (by unfold Bz;simp[*]))
 refine q_ (Ak (h:=?_));refine A4 rfl (fun hb9 hc9=>?_) (fun hb9 hc9=>?_)
 ·refine AG (JL (h:=JE (h:=f_ (h:=f_ (h:=?_)))));refine A3 rfl (Bg (n:=0) (len:=4) (sz:=1) (by kernel_rfl) rfl rfl (by omega) rfl ?_);refine l_ (h:=Ax (h:=?_));refine A6 ?_
  first|(exfalso;first|contradiction|omega)|(exact vi (by unfold Bz;simp[*]))
 refine Ak (h:=?_);refine A4 rfl (fun hb10 hc10=>?_) (fun hb10 hc10=>?_)
 ·refine AG (JL (h:=JE (h:=f_ (h:=f_ (h:=?_)))))
  first|refine A3 rfl (Bg (n:=0) (len:=4) (sz:=1) (by kernel_rfl) rfl rfl (by omega) rfl ?_)|refine A3 rfl (Bg (n:=1) (len:=4) (sz:=1) (by kernel_rfl) rfl rfl (by omega) rfl ?_)
  refine l_ (h:=Ax (h:=?_));refine A6 ?_
  first|(exfalso;first|contradiction|omega)|(exact vi (by unfold Bz;simp[*]))
 refine Ak (h:=?_);refine A4 rfl (fun hb11 hc11=>?_) (fun hb11 hc11=>?_)
 ·refine AG (JL (h:=JE (h:=f_ (h:=f_ (h:=?_)))))
  first|refine A3 rfl (Bg (n:=0) (len:=4) (sz:=1) (by kernel_rfl) rfl rfl (by omega) rfl ?_)|refine A3 rfl (Bg (n:=1) (len:=4) (sz:=1) (by kernel_rfl) rfl rfl (by omega) rfl ?_)|refine A3 rfl (Bg (n:=2) (len:=4) (sz:=1) (by kernel_rfl) rfl rfl (by omega) rfl ?_)
  refine l_ (h:=Ax (h:=?_));refine A6 ?_
  first|(exfalso;first|contradiction|omega)|(exact vi (by unfold Bz;simp[*]))
 refine Aw (EU (h:=?_));refine A4 rfl (fun hb12 hc12=>?_) (fun hb12 hc12=>?_)
 ·refine Aa (h:=JE (h:=f_ (h:=f_ (h:=?_))))
  first|refine A3 rfl (Bg (n:=0) (len:=4) (sz:=1) (by kernel_rfl) rfl rfl (by omega) rfl ?_)|refine A3 rfl (Bg (n:=1) (len:=4) (sz:=1) (by kernel_rfl) rfl rfl (by omega) rfl ?_)|refine A3 rfl (Bg (n:=2) (len:=4) (sz:=1) (by kernel_rfl) rfl rfl (by omega) rfl ?_)|refine A3 rfl (Bg (n:=3) (len:=4) (sz:=1) (by kernel_rfl) rfl rfl (by omega) rfl ?_)
  refine l_ (h:=Ax (h:=?_));refine A6 ?_
  first|(exfalso;first|contradiction|omega)|(exact vi (by unfold Bz;simp[*]))
 refine Ak (h:=?_);refine A4 rfl (fun hb13 hc13=>?_) (fun hb13 hc13=>?_)
 ·refine Ay (h:=Ax (h:=?_));refine A6 ?_
  first|(exfalso;first|contradiction|omega)|(exact vi (by unfold Bz;simp[*]))
 refine Ak (h:=?_);refine A4 rfl (fun hb14 hc14=>?_) (fun hb14 hc14=>?_)
 ·refine Fh (h:=DR (h:=e_ (?_)));refine A4 rfl (fun hb15 hc15=>?_) (fun hb15 hc15=>?_)
  ·refine BK (h:=D8 (h:=?_));refine A6 ?_
   first|(exfalso;first|contradiction|omega)|(exact vi (by unfold Bz;simp[*]))
  refine AG (CB (h:=?_));refine A6 ?_
  first|(exfalso;first|contradiction|omega)|(exact vi (by unfold Bz;simp[*]))
 refine Ak (h:=?_);refine A4 rfl (fun hb16 hc16=>?_) (fun hb16 hc16=>?_)
 ·refine FZ (h:=Ax (h:=?_));refine A6 ?_
  first|(exfalso;first|contradiction|omega)|(exact vi (by unfold Bz;simp[*]))
 refine Ak (h:=?_);refine A4 rfl (fun hb17 hc17=>?_) (fun hb17 hc17=>?_)
 ·refine FZ (h:=Ax (h:=?_));refine A6 ?_
  first|(exfalso;first|contradiction|omega)|(exact vi (by unfold Bz;simp[*]))
 refine Ak (h:=?_);refine A4 rfl (fun hb18 hc18=>?_) (fun hb18 hc18=>?_)
 ·refine Ay (h:=Ax (h:=?_));refine A6 ?_
  first|(exfalso;first|contradiction|omega)|(exact vi (by unfold Bz;simp[*]))
 refine Ak (h:=?_);refine A4 rfl (fun hb19 hc19=>?_) (fun hb19 hc19=>?_)
 ·refine Ay (h:=Ax (h:=?_));refine A6 ?_
  first|(exfalso;first|contradiction|omega)|(exact vi (by unfold Bz;simp[*]))
 refine Ak (h:=?_);refine A4 rfl (fun hb20 hc20=>?_) (fun hb20 hc20=>?_)
 ·refine Ay (h:=Ax (h:=?_));refine A6 ?_
  first|(exfalso;first|contradiction|omega)|(exact vi (by unfold Bz;simp[*]))
 refine BG (BA (t_ (Ay (h:=Az (h:=?_)))));refine A6 ?_
 first|(exfalso;first|contradiction|omega)|(exact vi (by unfold Bz;simp[*]))
theorem cU(f:Int)(c:Ctx)(k:Cxs)(y:Itm)(h1:15≤f)(h2:f≤21):AFn prog 254 [.v (.int .i64 f), .agg (C7 c k), .agg (Dl y)] (fun r=>r= .tup [.v (.int .i64 (Bz f c y)), .v (.bool true)]):=by
 refine enter Tryz.func254 rfl rfl rfl rfl rfl 0 rfl ?_;refine Lw (h:=a_ (h:=Bo (h:=e_ (BF (Ak (h:=?_))))));refine A4 rfl (fun hb1 hc1=>?_) (fun hb1 hc1=>?_)
 ·refine Ay (h:=Fw (h:=?_));refine A6 ?_
  first|(exfalso;first|contradiction|omega)|(exact congrArg (fun z=>AV.tup [.v (.int .i64 z), .v (.bool true)]) (by unfold Bz;simp[*]))
 refine Ak (h:=?_);refine A4 rfl (fun hb2 hc2=>?_) (fun hb2 hc2=>?_)
 ·refine Fh (h:=DR (h:=e_ (?_)));refine A4 rfl (fun hb3 hc3=>?_) (fun hb3 hc3=>?_)
  ·refine w_ (EV (h:=D8 (h:=?_)));refine A6 ?_
   first|(exfalso;first|contradiction|omega)|(exact congrArg (fun z=>AV.tup [.v (.int .i64 z), .v (.bool true)]) (by unfold Bz;simp[*]))
  refine AG (w_ (Fw (h:=?_)));refine A6 ?_
  first|(exfalso;first|contradiction|omega)|(exact congrArg (fun z=>AV.tup [.v (.int .i64 z), .v (.bool true)]) (by unfold Bz;simp[*]))
 refine Ak (h:=?_);refine A4 rfl (fun hb4 hc4=>?_) (fun hb4 hc4=>?_)
 ·refine FZ (h:=Fw (h:=?_));refine A6 ?_
  first|(exfalso;first|contradiction|omega)|(exact congrArg (fun z=>AV.tup [.v (.int .i64 z), .v (.bool true)]) (by unfold Bz;simp[*]))
 refine Ak (h:=?_);refine A4 rfl (fun hb5 hc5=>?_) (fun hb5 hc5=>?_)
 ·refine FZ (h:=Fw (h:=?_));refine A6 ?_
  first|(exfalso;first|contradiction|omega)|(exact congrArg (fun z=>AV.tup [.v (.int .i64 z), .v (.bool true)]) (by unfold Bz;simp[*]))
 refine Ak (h:=?_);refine A4 rfl (fun hb6 hc6=>?_) (fun hb6 hc6=>?_)
 ·refine Ay (h:=Fw (h:=?_));refine A6 ?_
  first|(exfalso;first|contradiction|omega)|(exact congrArg (fun z=>AV.tup [.v (.int .i64 z), .v (.bool true)]) (by unfold Bz;simp[*]))
 refine Ak (h:=?_);refine A4 rfl (fun hb7 hc7=>?_) (fun hb7 hc7=>?_)
 ·refine Ay (h:=Fw (h:=?_));refine A6 ?_
  first|(exfalso;first|contradiction|omega)|(exact congrArg (fun z=>AV.tup [.v (.int .i64 z), .v (.bool true)]) (by unfold Bz;simp[*]))
 refine Ak (h:=?_);refine A4 rfl (fun hb8 hc8=>?_) (fun hb8 hc8=>?_)
 ·refine Ay (h:=Fw (h:=?_));refine A6 ?_
  first|(exfalso;first|contradiction|omega)|(exact congrArg (fun z=>AV.tup [.v (.int .i64 z), .v (.bool true)]) (by unfold Bz;simp[*]))
 refine BG (BA (t_ (w_ (a_ (h:=Az (h:=?_))))));refine A6 ?_
 (exfalso;first|contradiction|omega)
def NumP(f:Int)(c:Ctx)(y:Itm)(r:AV):Prop:=∃n,r= .tup [.v (.int .i64 n), .v (.bool (C0 f c))]∧(C0 f c=true→n=Bz f c y)
theorem NumP.mk{f n:Int}{c:Ctx}{y:Itm}{b:Bool}(hb:b=C0 f c)(hn:C0 f c=true→n=Bz f c y):NumP f c y (.tup [.v (.int .i64 n), .v (.bool b)]):=⟨n,by rw[hb],hn⟩
theorem Vz(f:Int)(c:Ctx)(k:Cxs)(y:Itm)(h1:1≤f)(h2:f≤22)(ht:Ej f=false):AFn prog 222 [.v (.int .i64 f), .agg (C7 c k), .agg (Dl y)] (NumP f c y):=by
 simp only[Ej,decide_eq_false_iff_not]at ht;refine enter Tryz.func222 rfl rfl rfl rfl rfl 0 rfl ?_;refine Lw (h:=a_ (h:=Bo (h:=e_ (BF (Ak (h:=?_))))));refine A4 rfl (fun hb1 hc1=>?_) (fun hb1 hc1=>?_)
 ·refine FZ (h:=Fw (h:=?_));refine A6 ?_
  first|(exfalso;first|contradiction|omega)|(exact NumP.mk (by unfold C0;(repeat' split)<;>(first|omega|(simp[*];done)|(simp;omega)|(simp at *;omega))) (fun hq=>by first|(unfold Bz;simp[*];done)|(unfold C0 at hq;simp[*]at hq;omega)|(unfold C0 at hq;simp[*]at hq)))
 refine Ak (h:=?_);refine A4 rfl (fun hb2 hc2=>?_) (fun hb2 hc2=>?_)
 ·refine FZ (h:=Fw (h:=?_));refine A6 ?_
  first|(exfalso;first|contradiction|omega)|(exact NumP.mk (by unfold C0;(repeat' split)<;>(first|omega|(simp[*];done)|(simp;omega)|(simp at *;omega))) (fun hq=>by first|(unfold Bz;simp[*];done)|(unfold C0 at hq;simp[*]at hq;omega)|(unfold C0 at hq;simp[*]at hq)))
 refine Ak (h:=?_);refine A4 rfl (fun hb3 hc3=>?_) (fun hb3 hc3=>?_)
 ·refine FZ (h:=Fw (h:=?_));refine A6 ?_
  first|(exfalso;first|contradiction|omega)|(exact NumP.mk (by unfold C0;(repeat' split)<;>(first|omega|(simp[*];done)|(simp;omega)|(simp at *;omega))) (fun hq=>by first|(unfold Bz;simp[*];done)|(unfold C0 at hq;simp[*]at hq;omega)|(unfold C0 at hq;simp[*]at hq)))
 refine Ak (h:=?_);refine A4 rfl (fun hb4 hc4=>?_) (fun hb4 hc4=>?_)
 ·refine FZ (h:=Fw (h:=?_));refine A6 ?_
  first|(exfalso;first|contradiction|omega)|(exact NumP.mk (by unfold C0;(repeat' split)<;>(first|omega|(simp[*];done)|(simp;omega)|(simp at *;omega))) (fun hq=>by first|(unfold Bz;simp[*];done)|(unfold C0 at hq;simp[*]at hq;omega)|(unfold C0 at hq;simp[*]at hq)))
 refine Ak (h:=?_);refine A4 rfl (fun hb5 hc5=>?_) (fun hb5 hc5=>?_)
 ·refine FZ (h:=Fw (h:=?_));refine A6 ?_
  first|(exfalso;first|contradiction|omega)|(exact NumP.mk (by unfold C0;(repeat' split)<;>(first|omega|(simp[*];done)|(simp;omega)|(simp at *;omega))) (fun hq=>by first|(unfold Bz;simp[*];done)|(unfold C0 at hq;simp[*]at hq;omega)|(unfold C0 at hq;simp[*]at hq)))
 refine Ak (h:=?_);refine A4 rfl (fun hb6 hc6=>?_) (fun hb6 hc6=>?_)
 ·refine FZ (h:=Fw (h:=?_));refine A6 ?_
  first|(exfalso;first|contradiction|omega)|(exact NumP.mk (by unfold C0;(repeat' split)<;>(first|omega|(simp[*];done)|(simp;omega)|(simp at *;omega))) (fun hq=>by first|(unfold Bz;simp[*];done)|(unfold C0 at hq;simp[*]at hq;omega)|(unfold C0 at hq;simp[*]at hq)))
 refine Ak (h:=?_);refine A4 rfl (fun hb7 hc7=>?_) (fun hb7 hc7=>?_)
 ·refine FZ (h:=Fw (h:=?_));refine A6 ?_
  first|(exfalso;first|contradiction|omega)|(exact NumP.mk (by unfold C0;(repeat' split)<;>(first|omega|(simp[*];done)|(simp;omega)|(simp at *;omega))) (fun hq=>by first|(unfold Bz;simp[*];done)|(unfold C0 at hq;simp[*]at hq;omega)|(unfold C0 at hq;simp[*]at hq)))
 refine Ak (h:=?_);refine A4 rfl (fun hb8 hc8=>?_) (fun hb8 hc8=>?_)
 ·refine FZ (h:=Fw (h:=?_));refine A6 ?_
  first|(exfalso;first|contradiction|omega)|(exact NumP.mk (by unfold C0;(repeat' split)<;>(first|omega|(simp[*];done)|(simp;omega)|(simp at *;omega))) (fun hq=>by first|(unfold Bz;simp[*];done)|(unfold C0 at hq;simp[*]at hq;omega)|(unfold C0 at hq;simp[*]at hq)))
 refine q_ (Ak (h:=?_));refine A4 rfl (fun hb9 hc9=>?_) (fun hb9 hc9=>?_)
 ·refine AG (JL (h:=JE (h:=f_ (h:=f_ (h:=?_)))));refine A3 rfl (Bg (n:=0) (len:=4) (sz:=1) (by kernel_rfl) rfl rfl (by omega) rfl ?_);refine l_ (h:=Fw (h:=?_));refine A6 ?_
  first|(exfalso;first|contradiction|omega)|(exact NumP.mk (by unfold C0;(repeat' split)<;>(first|omega|(simp[*];done)|(simp;omega)|(simp at *;omega))) (fun hq=>by first|(unfold Bz;simp[*];done)|(unfold C0 at hq;simp[*]at hq;omega)|(unfold C0 at hq;simp[*]at hq)))
 refine Ak (h:=?_);refine A4 rfl (fun hb10 hc10=>?_) (fun hb10 hc10=>?_)
 ·refine AG (JL (h:=JE (h:=f_ (h:=f_ (h:=?_)))))
  first|refine A3 rfl (Bg (n:=0) (len:=4) (sz:=1) (by kernel_rfl) rfl rfl (by omega) rfl ?_)|refine A3 rfl (Bg (n:=1) (len:=4) (sz:=1) (by kernel_rfl) rfl rfl (by omega) rfl ?_)
  refine l_ (h:=Fw (h:=?_));refine A6 ?_
  first|(exfalso;first|contradiction|omega)|(exact NumP.mk (by unfold C0;(repeat' split)<;>(first|omega|(simp[*];done)|(simp;omega)|(simp at *;omega))) (fun hq=>by first|(unfold Bz;simp[*];done)|(unfold C0 at hq;simp[*]at hq;omega)|(unfold C0 at hq;simp[*]at hq)))
 refine Ak (h:=?_);refine A4 rfl (fun hb11 hc11=>?_) (fun hb11 hc11=>?_)
 ·refine AG (JL (h:=JE (h:=f_ (h:=f_ (h:=?_)))))
  first|refine A3 rfl (Bg (n:=0) (len:=4) (sz:=1) (by kernel_rfl) rfl rfl (by omega) rfl ?_)|refine A3 rfl (Bg (n:=1) (len:=4) (sz:=1) (by kernel_rfl) rfl rfl (by omega) rfl ?_)|refine A3 rfl (Bg (n:=2) (len:=4) (sz:=1) (by kernel_rfl) rfl rfl (by omega) rfl ?_)
  refine l_ (h:=Fw (h:=?_));refine A6 ?_
  first|(exfalso;first|contradiction|omega)|(exact NumP.mk (by unfold C0;(repeat' split)<;>(first|omega|(simp[*];done)|(simp;omega)|(simp at *;omega))) (fun hq=>by first|(unfold Bz;simp[*];done)|(unfold C0 at hq;simp[*]at hq;omega)|(unfold C0 at hq;simp[*]at hq)))
 refine Aw (EU (h:=?_));refine A4 rfl (fun hb12 hc12=>?_) (fun hb12 hc12=>?_)
 ·refine Aa (h:=JE (h:=f_ (h:=f_ (h:=?_))))
  first|refine A3 rfl (Bg (n:=0) (len:=4) (sz:=1) (by kernel_rfl) rfl rfl (by omega) rfl ?_)|refine A3 rfl (Bg (n:=1) (len:=4) (sz:=1) (by kernel_rfl) rfl rfl (by omega) rfl ?_)|refine A3 rfl (Bg (n:=2) (len:=4) (sz:=1) (by kernel_rfl) rfl rfl (by omega) rfl ?_)|refine A3 rfl (Bg (n:=3) (len:=4) (sz:=1) (by kernel_rfl) rfl rfl (by omega) rfl ?_)
  refine l_ (h:=Fw (h:=?_));refine A6 ?_
  first|(exfalso;first|contradiction|omega)|(exact NumP.mk (by unfold C0;(repeat' split)<;>(first|omega|(simp[*];done)|(simp;omega)|(simp at *;omega))) (fun hq=>by first|(unfold Bz;simp[*];done)|(unfold C0 at hq;simp[*]at hq;omega)|(unfold C0 at hq;simp[*]at hq)))
 refine Ak (h:=?_);refine A4 rfl (fun hb13 hc13=>?_) (fun hb13 hc13=>?_)
 ·refine q_ (Ct 7 (h:=AA 0 (h:=A9 1 (h:=AA 2 (h:=A9 3 (h:=Lv 4 (h:=B9 5 (h:=B9 6 (h:=z_ (h:=t_ (B3 (Lr (BN (?_))))))))))))));refine A6 ?_
  first|(exfalso;first|contradiction|omega)|(exact NumP.mk (by unfold C0;(repeat' split)<;>(first|omega|(simp[*];done)|(simp;omega)|(simp at *;omega))) (fun hq=>by first|(unfold Bz;simp[*];done)|(unfold C0 at hq;simp[*]at hq;omega)|(unfold C0 at hq;simp[*]at hq)))
 refine BG (BA (t_ (Fh (h:=Bl (h:=?_)))));refine A4 rfl (fun hb14 hc14=>?_) (fun hb14 hc14=>?_)
 ·refine w_ (EV (h:=?_));refine A6 ?_
  first|(exfalso;first|contradiction|omega)|(exact NumP.mk (by unfold C0;(repeat' split)<;>(first|omega|(simp[*];done)|(simp;omega)|(simp at *;omega))) (fun hq=>by first|(unfold Bz;simp[*];done)|(unfold C0 at hq;simp[*]at hq;omega)|(unfold C0 at hq;simp[*]at hq)))
 refine AG (Aa (h:=H7 (h:=?_)));refine A3 rfl (A8 (cU f c k y (by omega) (by omega)) ?_);rintro r rfl;refine Ky (h:=a_ (h:=Az (h:=?_)));refine A6 ?_
 first|(exfalso;first|contradiction|omega)|(exact NumP.mk (by unfold C0;(repeat' split)<;>(first|omega|(simp[*];done)|(simp;omega)|(simp at *;omega))) (fun hq=>by first|(unfold Bz;simp[*];done)|(unfold C0 at hq;simp[*]at hq;omega)|(unfold C0 at hq;simp[*]at hq)))
end
theorem W7(s:AF):s=⟨#[]⟩↔s.size=0:=by
 constructor
 ·intro h;rw[h];rfl
 intro h
 cases s with
 |mk a=>
   have:a=#[]:=Array.eq_empty_of_size_eq_zero h;rw[this]
section
theorem W8(t:Tst)(list:Int):AFn prog 159 [.agg (CF t), .v (.int .i64 list)] (fun r=>r= .v (.int .i64 (BW t list))):=by
 have hz:=W7 t.text;refine enter Tryz.func159 rfl rfl rfl rfl rfl 0 rfl ?_;refine EG (h:=Bo (h:=AO (h:=?_)));refine A3 rfl (A8 (Vu _ _) ?_);rintro r rfl;refine D2 (h:=?_);refine A4 rfl (fun hb1 hc1=>?_) (fun hb1 hc1=>?_)
 ·refine BK (h:=?_);refine A6 ?_
  first|(exfalso;first|contradiction|omega)|(exact vi (by unfold BW;grind))
 refine DU (h:=FD (h:=?_));refine AJ true rfl rfl (fun hb2 hc2=>?_) (fun hb2 hc2=>?_)
 ·refine m_ (h:=AO (h:=?_));refine As (A8 (Vu _ _) ?_);rintro r rfl;refine EH (h:=?_);refine AJ false rfl rfl (fun hb3 hc3=>?_) (fun hb3 hc3=>?_)
  ·refine BB (h:=Bu (h:=Ho (h:=Fl (h:=?_))));refine A6 ?_
   first|(exfalso;first|contradiction|omega)|(exact vi (by unfold BW;grind))
  refine AO (h:=?_);refine As (A8 (Vs _) ?_);rintro r rfl;refine Ck (h:=Bc (h:=?_));refine AJ false rfl rfl (fun hb4 hc4=>?_) (fun hb4 hc4=>?_)
  ·refine Ho (h:=Fl (h:=?_));refine A6 ?_
   first|(exfalso;first|contradiction|omega)|(exact vi (by unfold BW;grind))
  refine AO (h:=?_);refine As (A8 (Vs _) ?_);rintro r rfl;refine Ck (h:=Bh (h:=DS (h:=?_)));refine A4 rfl (fun hb5 hc5=>?_) (fun hb5 hc5=>?_)
  ·refine BK (h:=?_);refine A6 ?_
   first|(exfalso;first|contradiction|omega)|(exact vi (by unfold BW;grind))
  refine DU (h:=DK (h:=?_));refine AJ false rfl rfl (fun hb6 hc6=>?_) (fun hb6 hc6=>?_)
  ·refine EM (h:=K6 (h:=BN (?_)));refine A6 ?_
   first|(exfalso;first|contradiction|omega)|(exact vi (by unfold BW;grind))
  refine JM (h:=CO (h:=?_));refine A4 rfl (fun hb7 hc7=>?_) (fun hb7 hc7=>?_)
  ·refine BK (h:=?_);refine A6 ?_
   first|(exfalso;first|contradiction|omega)|(exact vi (by unfold BW;grind))
  refine DU (h:=FD (h:=?_));refine AJ true rfl rfl (fun hb8 hc8=>?_) (fun hb8 hc8=>?_)
  ·refine Ce (h:=Bu (h:=?_));refine AJ true rfl rfl (fun hb9 hc9=>?_) (fun hb9 hc9=>?_)
   ·refine AO (h:=?_);refine As (A8 (JR _) ?_);rintro r rfl;refine m_ (h:=?_);refine AJ false rfl rfl (fun hb10 hc10=>?_) (fun hb10 hc10=>?_)
    ·refine Fu (h:=Fl (h:=?_));refine A6 ?_
     first|(exfalso;first|contradiction|omega)|(exact vi (by unfold BW;grind))
    refine Ce (h:=Bh (h:=Fl (h:=?_)));refine A6 ?_
    first|(exfalso;first|contradiction|omega)|(exact vi (by unfold BW;grind))
   refine BB (h:=Fx (h:=FV (h:=By (h:=Ay (h:=FD (h:=GJ (h:=?_)))))));refine AJ false rfl rfl (fun hb11 hc11=>?_) (fun hb11 hc11=>?_)
   ·refine Fu (h:=EW (h:=D9 (h:=?_)));refine A6 ?_
    first|(exfalso;first|contradiction|omega)|(exact vi (by unfold BW;grind))
   refine Ce (h:=Bh (h:=EW (h:=?_)));refine A4 rfl (fun hb12 hc12=>?_) (fun hb12 hc12=>?_)
   ·refine CB (h:=?_);refine A6 ?_
    first|(exfalso;first|contradiction|omega)|(exact vi (by unfold BW;grind))
   refine Ay (h:=?_);refine A3 rfl (A8 (JR _) ?_);rintro r rfl;refine m_ (h:=?_);refine AJ true rfl rfl (fun hb13 hc13=>?_) (fun hb13 hc13=>?_)
   ·refine GJ (h:=CN (h:=Bc (h:=Ho (h:=EW (h:=D9 (h:=?_))))));refine A6 ?_
    first|(exfalso;first|contradiction|omega)|(exact vi (by unfold BW;grind))
   refine BB (h:=Kz (h:=BY (h:=Jc (h:=Bh (h:=GK (h:=Ay (h:=?_)))))));refine A3 rfl (A8 (JR _) ?_);rintro r rfl;refine EH (h:=Ce (h:=EW (h:=Hh (h:=FG (h:=?_)))));refine A6 ?_
   first|(exfalso;first|contradiction|omega)|(exact vi (by unfold BW;grind))
  refine Fv (h:=BB (h:=Fx (h:=FV (h:=By (h:=Ay (h:=FD (h:=?_)))))));refine GJ (h:=?_);refine AJ false rfl rfl (fun hb14 hc14=>?_) (fun hb14 hc14=>?_)
  ·refine Fu (h:=EW (h:=D9 (h:=?_)));refine A6 ?_
   first|(exfalso;first|contradiction|omega)|(exact vi (by unfold BW;grind))
  refine Ce (h:=Bh (h:=EW (h:=?_)));refine A4 rfl (fun hb15 hc15=>?_) (fun hb15 hc15=>?_)
  ·refine CB (h:=?_);refine A6 ?_
   first|(exfalso;first|contradiction|omega)|(exact vi (by unfold BW;grind))
  refine Ay (h:=?_);refine A3 rfl (A8 (JR _) ?_);rintro r rfl;refine m_ (h:=?_);refine AJ true rfl rfl (fun hb16 hc16=>?_) (fun hb16 hc16=>?_)
  ·refine GJ (h:=CN (h:=Bc (h:=Ho (h:=EW (h:=D9 (h:=?_))))));refine A6 ?_
   first|(exfalso;first|contradiction|omega)|(exact vi (by unfold BW;grind))
  refine BB (h:=Kz (h:=BY (h:=Jc (h:=Bh (h:=GK (h:=Ay (h:=?_)))))));refine A3 rfl (A8 (JR _) ?_);rintro r rfl;refine EH (h:=Ce (h:=EW (h:=Hh (h:=FG (h:=?_)))));refine A6 ?_
  first|(exfalso;first|contradiction|omega)|(exact vi (by unfold BW;grind))
 refine Ja (h:=LR (h:=BY (h:=Jc (h:=FV (h:=Eh (h:=w_ (f_ (h:=?_))))))));refine l_ (h:=DK (h:=?_));refine AJ false rfl rfl (fun hb17 hc17=>?_) (fun hb17 hc17=>?_)
 ·refine EM (h:=K6 (h:=BN (?_)));refine A6 ?_
  first|(exfalso;first|contradiction|omega)|(exact vi (by unfold BW;grind))
 refine JM (h:=CO (h:=?_));refine A4 rfl (fun hb18 hc18=>?_) (fun hb18 hc18=>?_)
 ·refine BK (h:=?_);refine A6 ?_
  first|(exfalso;first|contradiction|omega)|(exact vi (by unfold BW;grind))
 refine DU (h:=FD (h:=?_));refine AJ true rfl rfl (fun hb19 hc19=>?_) (fun hb19 hc19=>?_)
 ·refine Ce (h:=Bu (h:=?_));refine AJ true rfl rfl (fun hb20 hc20=>?_) (fun hb20 hc20=>?_)
  ·refine AO (h:=?_);refine As (A8 (JR _) ?_);rintro r rfl;refine m_ (h:=?_);refine AJ false rfl rfl (fun hb21 hc21=>?_) (fun hb21 hc21=>?_)
   ·refine Fu (h:=Fl (h:=?_));refine A6 ?_
    first|(exfalso;first|contradiction|omega)|(exact vi (by unfold BW;grind))
   refine Ce (h:=Bh (h:=DS (h:=Hh (h:=By (h:=Ay (h:=FD (h:=BB (h:=Fx (h:=Bh (h:=?_))))))))));refine GK (h:=Ay (h:=?_));refine A3 rfl (A8 (JR _) ?_);rintro r rfl;refine m_ (h:=BB (h:=Kz (h:=BY (h:=Jc (h:=Bh (h:=GK (h:=Ay (h:=?_))))))));refine A3 rfl (A8 (JR _) ?_);rintro r rfl;refine EH (h:=Ce (h:=EW (h:=?_)));refine A4 rfl (fun hb22 hc22=>?_) (fun hb22 hc22=>?_)
   ·refine CB (h:=?_);refine A6 ?_
    first|(exfalso;first|contradiction|omega)|(exact vi (by unfold BW;grind))
   refine FG (h:=?_);refine A6 ?_
   first|(exfalso;first|contradiction|omega)|(exact vi (by unfold BW;grind))
  refine BB (h:=Fx (h:=FV (h:=By (h:=Ay (h:=FD (h:=BB (h:=Me (h:=?_))))))));refine Ka (h:=Hi (h:=Bh (h:=GK (h:=Ay (h:=?_)))));refine A3 rfl (A8 (JR _) ?_);rintro r rfl;refine m_ (h:=?_);refine AJ true rfl rfl (fun hb23 hc23=>?_) (fun hb23 hc23=>?_)
  ·refine GJ (h:=?_);refine AJ false rfl rfl (fun hb24 hc24=>?_) (fun hb24 hc24=>?_)
   ·refine Cl (h:=Ho (h:=EW (h:=D9 (h:=?_))));refine A6 ?_
    first|(exfalso;first|contradiction|omega)|(exact vi (by unfold BW;grind))
   refine CN (h:=Bc (h:=?_));refine AJ false rfl rfl (fun hb25 hc25=>?_) (fun hb25 hc25=>?_)
   ·refine Ho (h:=EW (h:=D9 (h:=?_)));refine A6 ?_
    first|(exfalso;first|contradiction|omega)|(exact vi (by unfold BW;grind))
   refine AO (h:=FW (h:=Bh (h:=EW (h:=?_))));refine A4 rfl (fun hb26 hc26=>?_) (fun hb26 hc26=>?_)
   ·refine CB (h:=?_);refine A6 ?_
    first|(exfalso;first|contradiction|omega)|(exact vi (by unfold BW;grind))
   refine Ay (h:=?_);refine A3 rfl (A8 (JR _) ?_);rintro r rfl;refine EH (h:=Cu (h:=GK (h:=FG (h:=?_))));refine A6 ?_
   first|(exfalso;first|contradiction|omega)|(exact vi (by unfold BW;grind))
  refine BB (h:=Kz (h:=BY (h:=Jc (h:=Bh (h:=GK (h:=Ay (h:=?_)))))));refine A3 rfl (A8 (JR _) ?_);rintro r rfl;refine EH (h:=Ce (h:=EW (h:=?_)));refine A4 rfl (fun hb27 hc27=>?_) (fun hb27 hc27=>?_)
  ·refine CB (h:=?_);refine A6 ?_
   first|(exfalso;first|contradiction|omega)|(exact vi (by unfold BW;grind))
  refine FG (h:=?_);refine A6 ?_
  first|(exfalso;first|contradiction|omega)|(exact vi (by unfold BW;grind))
 refine Fv (h:=BB (h:=Fx (h:=FV (h:=By (h:=Ay (h:=FD (h:=?_)))))));refine BB (h:=Fx (h:=Bh (h:=GK (h:=Ay (h:=?_)))));refine A3 rfl (A8 (JR _) ?_);rintro r rfl;refine m_ (h:=?_);refine AJ true rfl rfl (fun hb28 hc28=>?_) (fun hb28 hc28=>?_)
 ·refine GJ (h:=?_);refine AJ false rfl rfl (fun hb29 hc29=>?_) (fun hb29 hc29=>?_)
  ·refine Cl (h:=Ho (h:=EW (h:=D9 (h:=?_))));refine A6 ?_
   first|(exfalso;first|contradiction|omega)|(exact vi (by unfold BW;grind))
  refine CN (h:=Bc (h:=?_));refine AJ false rfl rfl (fun hb30 hc30=>?_) (fun hb30 hc30=>?_)
  ·refine Ho (h:=EW (h:=D9 (h:=?_)));refine A6 ?_
   first|(exfalso;first|contradiction|omega)|(exact vi (by unfold BW;grind))
  refine AO (h:=FW (h:=Bh (h:=EW (h:=?_))));refine A4 rfl (fun hb31 hc31=>?_) (fun hb31 hc31=>?_)
  ·refine CB (h:=?_);refine A6 ?_
   first|(exfalso;first|contradiction|omega)|(exact vi (by unfold BW;grind))
  refine Ay (h:=?_);refine A3 rfl (A8 (JR _) ?_);rintro r rfl;refine EH (h:=Cu (h:=GK (h:=FG (h:=?_))));refine A6 ?_
  first|(exfalso;first|contradiction|omega)|(exact vi (by unfold BW;grind))
 refine BB (h:=Kz (h:=BY (h:=Jc (h:=Bh (h:=GK (h:=Ay (h:=?_)))))));refine A3 rfl (A8 (JR _) ?_);rintro r rfl;refine EH (h:=Ce (h:=EW (h:=?_)));refine A4 rfl (fun hb32 hc32=>?_) (fun hb32 hc32=>?_)
 ·refine CB (h:=?_);refine A6 ?_
  first|(exfalso;first|contradiction|omega)|(exact vi (by unfold BW;grind))
 refine FG (h:=?_);refine A6 ?_
 first|(exfalso;first|contradiction|omega)|(exact vi (by unfold BW;grind))
theorem W9(t:Tst)(list:Int):AFn prog 155 [.agg (CF t), .v (.int .i64 list)] (fun r=>r= .v (.int .i64 (BW t list))):=by
 have hz:=W7 t.text;have ho:Ej t.fld=true→Et t.fld=false:=by unfold Ej Et;simp;omega
 refine enter Tryz.func155 rfl rfl rfl rfl rfl 0 rfl ?_;refine EG (h:=Bo (h:=AO (h:=?_)));refine A3 rfl (A8 (Vv _ _) ?_);rintro r rfl;refine EH (h:=?_);refine AJ false rfl rfl (fun hb1 hc1=>?_) (fun hb1 hc1=>?_)
 ·refine BB (h:=LR (h:=LR (h:=LR (h:=Ka (h:=Fx (h:=DS (h:=?_)))))));refine K6 (h:=BN (?_));refine A6 ?_
  first|(exfalso;first|contradiction|omega)|(exact vi (by unfold BW;grind))
 refine GJ (h:=?_);refine AJ true rfl rfl (fun hb2 hc2=>?_) (fun hb2 hc2=>?_)
 ·refine m_ (h:=AO (h:=?_));refine As (A8 (Vv _ _) ?_);rintro r rfl;refine EH (h:=?_);refine AJ false rfl rfl (fun hb3 hc3=>?_) (fun hb3 hc3=>?_)
  ·refine BB (h:=Bu (h:=Ho (h:=CD (h:=CO (h:=K6 (h:=BN (?_)))))));refine A6 ?_
   first|(exfalso;first|contradiction|omega)|(exact vi (by unfold BW;grind))
  refine AO (h:=?_);refine As (A8 (Vt _) ?_);rintro r rfl;refine Ck (h:=Bc (h:=?_));refine AJ false rfl rfl (fun hb4 hc4=>?_) (fun hb4 hc4=>?_)
  ·refine Ho (h:=CD (h:=CO (h:=K6 (h:=BN (?_)))));refine A6 ?_
   first|(exfalso;first|contradiction|omega)|(exact vi (by unfold BW;grind))
  refine AO (h:=?_);refine As (A8 (Vt _) ?_);rintro r rfl;refine Ck (h:=Bh (h:=CD (h:=CO (h:=?_))));refine A4 rfl (fun hb5 hc5=>?_) (fun hb5 hc5=>?_)
  ·refine BK (h:=?_);refine A6 ?_
   first|(exfalso;first|contradiction|omega)|(exact vi (by unfold BW;grind))
  refine DU (h:=DK (h:=?_));refine AJ false rfl rfl (fun hb6 hc6=>?_) (fun hb6 hc6=>?_)
  ·refine Cl (h:=BB (h:=LR (h:=Jc (h:=DS (h:=E3 (h:=D7 (h:=?_)))))));refine B3 (BN (?_));refine A6 ?_
   first|(exfalso;first|contradiction|omega)|(exact vi (by unfold BW;grind))
  refine JM (h:=Bc (h:=?_));refine AJ false rfl rfl (fun hb7 hc7=>?_) (fun hb7 hc7=>?_)
  ·refine BB (h:=LR (h:=Jc (h:=Fl (h:=?_))));refine A6 ?_
   first|(exfalso;first|contradiction|omega)|(exact vi (by unfold BW;grind))
  refine JM (h:=m_ (h:=?_));refine AJ true rfl rfl (fun hb8 hc8=>?_) (fun hb8 hc8=>?_)
  ·refine AO (h:=?_);refine As (A8 (M2 _) ?_);rintro r rfl;refine m_ (h:=?_);refine AJ false rfl rfl (fun hb9 hc9=>?_) (fun hb9 hc9=>?_)
   ·refine Fu (h:=CD (h:=CO (h:=K6 (h:=BN (?_)))));refine A6 ?_
    first|(exfalso;first|contradiction|omega)|(exact vi (by unfold BW;grind))
   refine Ce (h:=Bh (h:=CD (h:=CO (h:=K6 (h:=BN (?_))))));refine A6 ?_
   first|(exfalso;first|contradiction|omega)|(exact vi (by unfold BW;grind))
  refine BB (h:=Fx (h:=Bh (h:=FV (h:=DU (h:=FD (h:=GJ (h:=?_)))))));refine AJ false rfl rfl (fun hb10 hc10=>?_) (fun hb10 hc10=>?_)
  ·refine Fu (h:=Fl (h:=?_));refine A6 ?_
   first|(exfalso;first|contradiction|omega)|(exact vi (by unfold BW;grind))
  refine Ce (h:=Bh (h:=DS (h:=?_)));refine A4 rfl (fun hb11 hc11=>?_) (fun hb11 hc11=>?_)
  ·refine BK (h:=?_);refine A6 ?_
   first|(exfalso;first|contradiction|omega)|(exact vi (by unfold BW;grind))
  refine DU (h:=E4 (h:=Fv (h:=BB (h:=Kz (h:=BY (h:=Kz (h:=?_)))))));refine Me (h:=Hi (h:=Bc (h:=AO (h:=?_))));refine As (A8 (M2 _) ?_);rintro r rfl;refine EH (h:=?_);refine AJ true rfl rfl (fun hb12 hc12=>?_) (fun hb12 hc12=>?_)
  ·refine Ce (h:=CD (h:=FV (h:=AG (K5 (h:=?_)))));refine A6 ?_
   first|(exfalso;first|contradiction|omega)|(exact vi (by unfold BW;grind))
  refine Cu (h:=FV (h:=AG (K5 (h:=?_))));refine A6 ?_
  first|(exfalso;first|contradiction|omega)|(exact vi (by unfold BW;grind))
 refine Ja (h:=LR (h:=BY (h:=Jc (h:=Bh (h:=FV (h:=Eh (h:=w_ (?_))))))));refine AO (h:=DK (h:=?_));refine AJ false rfl rfl (fun hb13 hc13=>?_) (fun hb13 hc13=>?_)
 ·refine Cl (h:=BB (h:=LR (h:=Jc (h:=DS (h:=E3 (h:=D7 (h:=?_)))))));refine B3 (BN (?_));refine A6 ?_
  first|(exfalso;first|contradiction|omega)|(exact vi (by unfold BW;grind))
 refine JM (h:=Bc (h:=?_));refine AJ false rfl rfl (fun hb14 hc14=>?_) (fun hb14 hc14=>?_)
 ·refine BB (h:=LR (h:=Jc (h:=Fl (h:=?_))));refine A6 ?_
  first|(exfalso;first|contradiction|omega)|(exact vi (by unfold BW;grind))
 refine JM (h:=m_ (h:=?_));refine AJ true rfl rfl (fun hb15 hc15=>?_) (fun hb15 hc15=>?_)
 ·refine AO (h:=?_);refine As (A8 (M2 _) ?_);rintro r rfl;refine m_ (h:=?_);refine AJ false rfl rfl (fun hb16 hc16=>?_) (fun hb16 hc16=>?_)
  ·refine Fu (h:=CD (h:=CO (h:=K6 (h:=BN (?_)))));refine A6 ?_
   first|(exfalso;first|contradiction|omega)|(exact vi (by unfold BW;grind))
  refine Ce (h:=Bh (h:=CD (h:=FV (h:=DU (h:=FD (h:=BB (h:=Fx (h:=Bh (h:=?_)))))))));refine e_ (Hh (h:=DU (h:=E4 (h:=AO (h:=?_)))));refine As (A8 (M2 _) ?_);rintro r rfl;refine Bu (h:=BB (h:=Kz (h:=BY (h:=Jc (h:=Bc (h:=AO (h:=?_)))))));refine As (A8 (M2 _) ?_);rintro r rfl;refine EH (h:=Ce (h:=CD (h:=CO (h:=?_))));refine A4 rfl (fun hb17 hc17=>?_) (fun hb17 hc17=>?_)
  ·refine BK (h:=?_);refine A6 ?_
   first|(exfalso;first|contradiction|omega)|(exact vi (by unfold BW;grind))
  refine AG (K5 (h:=?_));refine A6 ?_
  first|(exfalso;first|contradiction|omega)|(exact vi (by unfold BW;grind))
 refine BB (h:=Fx (h:=Bh (h:=FV (h:=DU (h:=FD (h:=BB (h:=Me (h:=?_))))))));refine Ka (h:=Hi (h:=FV (h:=DU (h:=E4 (h:=AO (h:=?_))))));refine As (A8 (M2 _) ?_);rintro r rfl;refine Bu (h:=?_);refine AJ true rfl rfl (fun hb18 hc18=>?_) (fun hb18 hc18=>?_)
 ·refine GJ (h:=?_);refine AJ false rfl rfl (fun hb19 hc19=>?_) (fun hb19 hc19=>?_)
  ·refine Cl (h:=Ho (h:=Bu (h:=BY (h:=Hl (h:=Fx (h:=DS (h:=E3 (h:=?_))))))));refine BK (h:=?_);refine A6 ?_
   first|(exfalso;first|contradiction|omega)|(exact vi (by unfold BW;grind))
  refine CN (h:=Bc (h:=?_));refine AJ false rfl rfl (fun hb20 hc20=>?_) (fun hb20 hc20=>?_)
  ·refine Ho (h:=Bu (h:=BY (h:=Hl (h:=Fx (h:=Fl (h:=?_))))));refine A6 ?_
   first|(exfalso;first|contradiction|omega)|(exact vi (by unfold BW;grind))
  refine AO (h:=FW (h:=Bh (h:=Bu (h:=?_))));refine AJ false rfl rfl (fun hb21 hc21=>?_) (fun hb21 hc21=>?_)
  ·refine BY (h:=Hl (h:=Fx (h:=Fl (h:=?_))));refine A6 ?_
   first|(exfalso;first|contradiction|omega)|(exact vi (by unfold BW;grind))
  refine AO (h:=?_);refine As (A8 (M2 _) ?_);rintro r rfl;refine EH (h:=Cu (h:=FV (h:=AG (K5 (h:=?_)))));refine A6 ?_
  first|(exfalso;first|contradiction|omega)|(exact vi (by unfold BW;grind))
 refine BB (h:=Kz (h:=BY (h:=Jc (h:=Bc (h:=AO (h:=?_))))));refine As (A8 (M2 _) ?_);rintro r rfl;refine EH (h:=Ce (h:=CD (h:=CO (h:=?_))));refine A4 rfl (fun hb22 hc22=>?_) (fun hb22 hc22=>?_)
 ·refine BK (h:=?_);refine A6 ?_
  first|(exfalso;first|contradiction|omega)|(exact vi (by unfold BW;grind))
 refine AG (K5 (h:=?_));refine A6 ?_
 first|(exfalso;first|contradiction|omega)|(exact vi (by unfold BW;grind))
def Kd(t:Tst)(c:Ctx):Bool:=decide ((if t.fld=14 then c.comm else c.exe)=t.text)==decide (t.op=1)
def Ke(t:Tst)(c:Ctx)(y:Itm):Bool:=
 if Ej t.fld=true then Kd t c else Fm t.op (Bz t.fld c y) (if t.other=0 then t.num else Bz t.other c y)
def Jh(t:Tst)(c:Ctx)(y:Itm):Bool:=
 if Ej t.fld=true then Kd t c else if C0 t.fld c=false then false else if t.other=0 then Fm t.op (Bz t.fld c y) t.num else if C0 t.other c=false then false else Fm t.op (Bz t.fld c y) (Bz t.other c y)
def Sy(t:Tst):Prop:=1≤t.fld∧t.fld≤22∧(t.other=0∨1≤t.other∧t.other≤22∧Ej t.other=false)∧1≤t.op∧t.op≤8
theorem WB(t:Tst)(c:Ctx)(k:Cxs)(y:Itm)(ht:Sy t):AFn prog 161 [.agg (CF t), .agg (C7 c k), .agg (Dl y)] (fun r=>r= .v (.bool (Jh t c y))):=by
 obtain⟨f1,f2,o1,p1,p2⟩:=ht;refine enter Tryz.func161 rfl rfl rfl rfl rfl 0 rfl ?_;refine JN (h:=Fy (h:=?_));refine A3 rfl (A8 (JR _) ?_);rintro r rfl;refine e_ (?_);refine A4 rfl (fun hb1 hc1=>?_) (fun hb1 hc1=>?_)
 ·refine FZ (h:=Fy (h:=Bd (h:=?_)));refine A4 rfl (fun hb2 hc2=>?_) (fun hb2 hc2=>?_)
  ·refine Aw (Hn (h:=Bt (h:=CN (h:=CN (h:=Dt (h:=Dd (h:=?_)))))));refine A6 ?_
   first|(exfalso;first|contradiction|omega)|(exact vb (by unfold Jh Kd;simp_all))
  refine AG (Aa (h:=CN (h:=CN (h:=Dt (h:=Dd (h:=?_))))));refine A6 ?_
  first|(exfalso;first|contradiction|omega)|(exact vb (by unfold Jh Kd;simp_all))
 refine FY (h:=H7 (h:=?_));refine A3 rfl (A8 (Vz t.fld c k y f1 f2 hc1) ?_);rintro r ⟨n1,rfl,hn1⟩;refine Ge (h:=a_ (h:=Bo (h:=D2 (h:=?_))));refine A4 rfl (fun hb3 hc3=>?_) (fun hb3 hc3=>?_)
 ·refine BK (h:=?_);refine A6 ?_
  first|(exfalso;first|contradiction|omega)|(exact vb (by unfold Jh Kd;simp_all))
 refine FY (h:=Fy (h:=Bl (h:=?_)));refine A4 rfl (fun hb4 hc4=>?_) (fun hb4 hc4=>?_)
 ·refine Ay (h:=H7 (h:=?_));refine A3 rfl (A8 (Vz t.other c k y (by omega) (by omega) (o1.resolve_left hc4).2.2) ?_);rintro r ⟨n2,rfl,hn2⟩;refine Ge (h:=a_ (h:=Bt (h:=D2 (h:=?_))));refine A4 rfl (fun hb5 hc5=>?_) (fun hb5 hc5=>?_)
  ·refine BK (h:=?_);refine A6 ?_
   first|(exfalso;first|contradiction|omega)|(exact vb (by unfold Jh Kd;simp_all))
  refine FY (h:=Jd (h:=?_));refine A3 rfl (A8 (Vw _ _ _ p1 p2) ?_);rintro r rfl;refine Az (h:=?_);refine A6 ?_
  first|(exfalso;first|contradiction|omega)|(exact vb (by unfold Jh Kd;simp_all))
 refine FY (h:=Jd (h:=?_));refine A3 rfl (A8 (Vw _ _ _ p1 p2) ?_);rintro r rfl;refine Az (h:=?_);refine A6 ?_
 first|(exfalso;first|contradiction|omega)|(exact vb (by unfold Jh Kd;simp_all))
theorem WC(t:Tst)(c:Ctx)(k:Cxs)(y:Itm)(ht:Sy t):AFn prog 165 [.agg (CF t), .agg (C7 c k), .agg (Dl y)] (fun r=>r= .v (.bool (Ke t c y))):=by
 obtain⟨f1,f2,o1,p1,p2⟩:=ht;refine enter Tryz.func165 rfl rfl rfl rfl rfl 0 rfl ?_;refine JN (h:=Fy (h:=?_));refine A3 rfl (A8 (M2 _) ?_);rintro r rfl;refine e_ (?_);refine A4 rfl (fun hb1 hc1=>?_) (fun hb1 hc1=>?_)
 ·refine FZ (h:=Fy (h:=Bd (h:=?_)));refine A4 rfl (fun hb2 hc2=>?_) (fun hb2 hc2=>?_)
  ·refine Aw (Hn (h:=Bt (h:=CN (h:=CN (h:=Dt (h:=Dd (h:=?_)))))));refine A6 ?_
   first|(exfalso;first|contradiction|omega)|(exact vb (by unfold Ke Kd;simp_all))
  refine AG (Aa (h:=CN (h:=CN (h:=Dt (h:=Dd (h:=?_))))));refine A6 ?_
  first|(exfalso;first|contradiction|omega)|(exact vb (by unfold Ke Kd;simp_all))
 refine FY (h:=Fy (h:=Bl (h:=?_)));refine A4 rfl (fun hb3 hc3=>?_) (fun hb3 hc3=>?_)
 ·refine Aw (AO (h:=H7 (h:=?_)));refine A3 rfl (A8 (Sx _ c k y) ?_);rintro r rfl;refine a_ (h:=e_ (q_ (Ct 10 (h:=AA 0 (h:=A9 1 (h:=AA 2 (h:=A9 3 (h:=A9 4 (h:=A9 5 (h:=AE 7 (h:=?_)))))))))));refine c_ 6 rfl (A8 (Sx _ c k y) ?_);rintro r rfl;refine o_ (h:=?_);refine c_ 8 rfl (A8 (Vx _ _ _ p1 p2) ?_);rintro r rfl;refine o_ (h:=B9 9 (h:=z_ (h:=t_ (B3 (?_)))));refine A6 ?_
  first|(exfalso;first|contradiction|omega)|(exact vb (by unfold Ke Kd;simp_all))
 refine AG (q_ (Ct 10 (h:=AA 0 (h:=A9 1 (h:=AA 2 (h:=A9 3 (h:=A9 4 (h:=A9 5 (h:=AE 7 (h:=?_))))))))));refine c_ 6 rfl (A8 (Sx _ c k y) ?_);rintro r rfl;refine o_ (h:=?_);refine c_ 8 rfl (A8 (Vx _ _ _ p1 p2) ?_);rintro r rfl;refine o_ (h:=B9 9 (h:=z_ (h:=t_ (B3 (?_)))));refine A6 ?_
 first|(exfalso;first|contradiction|omega)|(exact vb (by unfold Ke Kd;simp_all))
end
theorem NM{α:Type}{p:α→Bool}{l:List α}{j:Nat}{x:α}(hx:l[j]?=some x)(hp:p x=true)(h:∀i y,i<j→l[i]?=some y→p y=false):l.find? p=some x:=by
 have:=Vl hx hp h;rw[←Vn,this]
 simpa using hx
theorem NN{α:Type}{p:α→Bool}{l:List α}(h:∀i y,i<l.length→l[i]?=some y→p y=false):l.find? p=none:=by
 rw[List.find?_eq_none];intro x hx;obtain⟨i,hi,rfl⟩:=List.mem_iff_getElem.1 hx;simp[h i _ hi (B6 hi)]
theorem WD{f:AU}{a:AD}(h:Dy f a=true):CQ f a=some (Ag f a):=by
 unfold Dy at h;unfold Ag
 cases hn:CQ f a with
 |none=>rw[hn]at h;cases h
 |some n=>rfl
theorem WE{f:AU}{a:AD}(h:Dy f a=false):CQ f a=none:=by
 unfold Dy at h
 cases hn:CQ f a with
 |none=>rfl
 |some n=>rw[hn]at h;cases h
section
theorem L4(f:AU)(a:AD)(name:AF)(hf:FlsB f):AFn prog 134 [.agg (Au f), .agg (AB a), .v (.string name)] (fun r=>r= .tup [.agg (AB (AM f a name).1), .v (.int .i64 (AM f a name).2)]):=by
 have hen:=Sw hf a;refine enter Tryz.func134 rfl rfl rfl rfl rfl 0 rfl ?_;refine FU (h:=BO (h:=CA (h:=?_)));refine A3 rfl (A8 (FJ f a hf) ?_);rintro r rfl;refine H8 (h:=?_);refine A4 rfl (fun hb1 hc1=>?_) (fun hb1 hc1=>?_)
 ·have e:=WE hc1;refine Bx (h:=?_);refine A6 ?_;rw[show AM f a name=((0,0),2) by simp[AM,e]];rfl
 have e:=WD hc1;refine DU (h:=Bl (h:=?_));refine A4 rfl (fun hb2 hc2=>?_) (fun hb2 hc2=>?_)
 ·refine Bx (h:=?_);refine A6 ?_;rw[show AM f a name=((0,0),20) by simp[AM,e,hc2]];rfl
 refine AG (DT (h:=?_));refine BM (fun m s=>∃j:Nat,j≤(Ag f a).entries.length∧m=(Ag f a).entries.length - j∧(∀i y,i<j→(Ag f a).entries[i]?=some y→decide (y.1=name)=false)∧s=⟨look [(2, .v (.string name)),(4, .bp 1 0),(6, .bp 2 0),(8, .bp 3 0),(10, .v (.int .i64 (j:Int)))],⟨[Au f,AB a,[.v (.int .i64 0), .v (.int .i64 0)],AZ (Ag f a)],[]⟩⟩) ((Ag f a).entries.length) ((wk 4 0)) (⟨0,by omega,rfl,fun i y hi=>by omega,rfl⟩) ?_;rintro m s ⟨j,hj,rfl,ha,rfl⟩;refine Fz (h:=?_);refine A4 rfl (fun hb3 hc3=>?_) (fun hb3 hc3=>?_)
 ·obtain⟨hlt,x,hy,hrow, -⟩:=Br Dx hc3;refine By (h:=H9 (h:=AO (h:=CE (h:=e_ (?_)))));refine A4 rfl (fun hb4 hc4=>?_) (fun hb4 hc4=>?_)
  ·refine q_ (BR ([(0,Au f),(1,AB a),(3,AZ (Ag f a))]) 11 (h:=AA 0 (h:=A9 1 (h:=AA 2 (h:=A9 3 (h:=AE 4 (h:=CL 5 (h:=AA 6 (h:=A9 7 (h:=KZ 8 (h:=?_)))))))))));refine B8 9 (h:=B9 10 (h:=z_ (h:=t_ (B3 (Lr (BN (BN (Lr (BN (?_))))))))));refine A6 ?_;rw[show AM f a name=((a.1,x.2),0) by simp only[AM,e];rw[if_pos (by omega),NM hy (by simpa using hc4) ha]];rfl
  refine Cm (h:=?_);refine⟨_,_,?_,⟨j+1,by omega,rfl,GN hy ha (by simpa using hc4),rfl⟩,(wk 4 0)⟩;omega
 have e3:=C6 Dx hj hc3;subst e3;refine CP (h:=JH (h:=Az (h:=?_)));refine A6 ?_;rw[show AM f a name=((0,0),2) by simp only[AM,e];rw[if_pos (by omega),NN ha]];rfl
end
theorem M3{P:Program}{ev:Operand→Option AV}{h:AH}{R:AV→AH→Prop}{d:Option Tmp}{ty:TypeId}{pos:String}{af:Array Edge}{gd:Option (Nat×Bool)}{T:TypeId}{x ix:Operand}{s:ByteArray}{n:Nat}{k:IntKind}{i:Int}(hu:P.underlying T=some .string)
    (hx:ev x=some (.v (.string s))) (hi:ev ix=some (.v (.int k i))) (hn:i=(n:Int)) (hlt:n<s.size) (hR:R (.v (.int .u8 (s[n].toNat:Int))) h):AStep P ⟨d, .index T x ix,ty,pos,af,gd⟩ ev h R:=by
 refine DQ (fun _ G w ec _ he=>?_) hR;have h1:=he x (by simp[Op.operands]) _ hx;have h2:=he ix (by simp[Op.operands]) _ hi;simp only[rep]at h1 h2;subst hn;refine⟨.int .u8 (s[n].toNat:Int),?_,by simp only[rep]⟩;have e:s[n]?=some s[n]:=getElem?_pos s n hlt;simp[execOp,h1,h2,Instr.index,asIntOf,run_underlying hu,e]
theorem Mj(s:AF):Hs s=if s.size<1∨12<s.size then false else if s=⟨#[46]⟩then false else if s=⟨#[46,46]⟩then false else s.data.toList.all Lz:=by
 unfold Hs;have e1:=Qz s ⟨#[46]⟩;have e2:=Qz s ⟨#[46,46]⟩;rw[show(⟨#[46]⟩:ByteArray).toList=[46] by rw[ByteArray.toList_eq]]at e1;rw[show(⟨#[46,46]⟩:ByteArray).toList=[46,46] by rw[ByteArray.toList_eq]]at e2;rw[e1,e2];simp only[decide_eq_true_eq]
theorem cV{c:UInt8}(h1:¬(c.toNat:Int)=0)(h2:¬(c.toNat:Int)=47):Lz c=true:=by
 unfold Lz;simp;omega
section
theorem Sz(s:AF)(hs:s.size≤100000):AFn prog 136 [.v (.string s)] (fun r=>r= .v (.bool (Hs s))):=by
 refine enter Tryz.func136 rfl rfl rfl rfl rfl 0 rfl ?_;refine w_ (Bo (h:=n_ (h:=DK (h:=?_))));refine AJ false rfl rfl (fun hb1 hc1=>?_) (fun hb1 hc1=>?_)
 ·refine Cl (h:=BY (h:=Bu (h:=BY (h:=Fl (h:=?_)))));refine A6 ?_;exact vb (by rw[Mj,if_pos (by omega)])
 refine m_ (h:=FW (h:=Bc (h:=?_)));refine AJ false rfl rfl (fun hb2 hc2=>?_) (fun hb2 hc2=>?_)
 ·refine BY (h:=Bu (h:=BY (h:=Fl (h:=?_))));refine A6 ?_;exact vb (by rw[Mj,if_pos (by omega)])
 refine CE (h:=Bc (h:=?_));refine AJ false rfl rfl (fun hb3 hc3=>?_) (fun hb3 hc3=>?_)
 ·refine BY (h:=Fl (h:=?_));refine A6 ?_;exact vb (by rw[Mj,if_neg (by omega),if_pos hc3])
 refine CE (h:=CO (h:=?_));refine A4 rfl (fun hb4 hc4=>?_) (fun hb4 hc4=>?_)
 ·refine BK (h:=?_);refine A6 ?_;exact vb (by rw[Mj,if_neg (by omega),if_neg hc3,if_pos hc4])
 refine AG (DT (h:=?_));refine BM (fun m t=>∃j:Nat,j≤s.size∧m=s.size - j∧(∀i (hi:i<s.size),i<j→Lz s[i]=true)∧t=⟨look [(0, .v (.string s)),(3, .v (.int .i64 (j:Int)))],⟨[],[]⟩⟩) (s.size) ((wk 0 0)) (⟨0,by omega,rfl,fun i _ hi=>by omega,rfl⟩) ?_;rintro m t ⟨j,hj,rfl,ha,rfl⟩;refine De (h:=Fi (h:=?_));refine A4 rfl (fun hb5 hc5=>?_) (fun hb5 hc5=>?_)
 ·have hlt:j<s.size:=by omega
  refine By (h:=DA (h:=?_));refine A3 rfl (M3 (n:=j) Tryz.underlying9 rfl rfl rfl hlt ?_);refine E4 (h:=?_);refine AJ false rfl rfl (fun hb6 hc6=>?_) (fun hb6 hc6=>?_)
  ·refine BB (h:=DS (h:=D9 (h:=Dk (h:=?_))));refine A6 ?_;exact vb (by rw[Mj,if_neg (by omega),if_neg hc3,if_neg hc4,Ss hlt (by unfold Lz;simp[hc6])])
  refine Jd (h:=?_);refine As (M3 (n:=j) Tryz.underlying9 rfl rfl rfl hlt ?_);refine Dt (h:=CO (h:=?_));refine A4 rfl (fun hb7 hc7=>?_) (fun hb7 hc7=>?_)
  ·refine Hp (h:=?_);refine A6 ?_;exact vb (by rw[Mj,if_neg (by omega),if_neg hc3,if_neg hc4,Ss hlt (by unfold Lz;simp[hc7])])
  refine Cm (h:=?_);refine⟨_,_,?_,⟨j+1,by omega,rfl,Vp hlt ha (cV hc6 hc7),rfl⟩,(wk 0 0)⟩;omega
 obtain rfl:j=s.size:=by omega
 refine Fk (h:=?_);refine A6 ?_;exact vb (by rw[Mj,if_neg (by omega),if_neg hc3,if_neg hc4,Vo (fun i hi=>ha i hi hi)])
end
theorem cW(f:AU)(a:AD):M0 f a=decide (12≤(Ag f a).entries.length):=by
 unfold M0 Ag;cases CQ f a<;>simp[Nod.zero]
theorem cY(f:AU)(a:AD):Mh f a=decide ((Ag f a).entries.length=0):=by
 unfold Mh Ag;cases CQ f a<;>simp[Nod.zero]
theorem cZ{f:AU}{a:AD}{k:Nat}{d:Dvc}{n:Nod}(hk:a.1=(k:Int))(hd:f[k]?=some d)(hn:CQ f a=some n):Kc f a=Bm a.2 d.nodes:=by
 unfold Kc;rw[hn,hk,NL,hd]
section
theorem d6(s:AF)(hs:s.size≤100000):AFn prog 258 [.v (.string s)] (fun r=>r= .v (.bool (O3 s))):=by
 refine enter Tryz.func258 rfl rfl rfl rfl rfl 0 rfl ?_;refine D7 (h:=DT (h:=?_));refine BM (fun m t=>∃j:Nat,j≤s.size∧m=s.size - j∧(∀i (hi:i<s.size),i<j→(!((s[i].toNat:Int)==0))=true)∧t=⟨look [(0, .v (.string s)),(3, .v (.int .i64 (j:Int)))],⟨[],[]⟩⟩) (s.size) ((wk 0 0)) (⟨0,by omega,rfl,fun i _ hi=>by omega,rfl⟩) ?_;rintro m t ⟨j,hj,rfl,ha,rfl⟩;refine De (h:=Fi (h:=?_));refine A4 rfl (fun hb1 hc1=>?_) (fun hb1 hc1=>?_)
 ·have hlt:j<s.size:=by omega
  refine By (h:=DA (h:=?_));refine A3 rfl (M3 (n:=j) Tryz.underlying9 rfl rfl rfl hlt ?_);refine Bd (h:=?_);refine A4 rfl (fun hb2 hc2=>?_) (fun hb2 hc2=>?_)
  ·refine Hp (h:=?_);refine A6 ?_;exact vb (by unfold O3;rw[Ss hlt (by simp[hc2])];simp)
  refine Cm (h:=?_);refine⟨_,_,?_,⟨j+1,by omega,rfl,Vp (p:=fun c=> !((c.toNat:Int)==0)) hlt ha (by simpa using hc2),rfl⟩,(wk 0 0)⟩;omega
 obtain rfl:j=s.size:=by omega
 have hal:=Vo (p:=fun c=> !((c.toNat:Int)==0)) (fun i hi=>ha i hi hi);refine CP (h:=Aa (h:=n_ (h:=DR (h:=m_ (h:=?_)))));refine AJ true rfl rfl (fun hb3 hc3=>?_) (fun hb3 hc3=>?_)
 ·refine m_ (h:=n_ (h:=Fg (h:=Gf (h:=?_))));refine A6 ?_;exact vb (by unfold O3;rw[hal,Bool.eq_iff_iff];simp;omega)
 refine Cu (h:=Az (h:=?_));refine A6 ?_;exact vb (by unfold O3;rw[hal,Bool.eq_iff_iff];simp;omega)
theorem O5(f:AU)(a:AD)(name:AF)(hf:FlsB f)(hs:name.size≤100000):AFn prog 230 [.agg (Au f), .agg (AB a), .v (.string name)] (fun r=>r= .v (.int .i64 (Cf f a name))):=by
 refine enter Tryz.func230 rfl rfl rfl rfl rfl 0 rfl ?_;refine FC (h:=CA (h:=?_));refine A3 rfl (A8 (FJ f a hf) ?_);rintro r rfl;refine H8 (h:=?_);refine A4 rfl (fun hb1 hc1=>?_) (fun hb1 hc1=>?_)
 ·have e:=WE hc1;refine BK (h:=?_);refine A6 ?_;exact vi (by simp[Cf,e])
 have e:=WD hc1;refine DU (h:=Bl (h:=?_));refine A4 rfl (fun hb2 hc2=>?_) (fun hb2 hc2=>?_)
 ·refine BK (h:=?_);refine A6 ?_;exact vi (by simp[Cf,e,hc2])
 refine EX (h:=?_);refine A3 rfl (A8 (Sz name hs) ?_);rintro r rfl;refine D2 (h:=?_);refine A4 rfl (fun hb3 hc3=>?_) (fun hb3 hc3=>?_)
 ·refine BK (h:=?_);refine A6 ?_;exact vi (by simp only[Cf,e];rw[if_pos (by omega),hc3];rfl)
 refine AG (K5 (h:=?_));refine A6 ?_;exact vi (by simp only[Cf,e];rw[if_pos (by omega),hc3];rfl)
theorem T0(f:AU)(a:AD)(hf:FlsB f):AFn prog 231 [.agg (Au f), .agg (AB a)] (fun r=>r= .v (.bool (M0 f a))):=by
 refine enter Tryz.func231 rfl rfl rfl rfl rfl 0 rfl ?_;refine FC (h:=CA (h:=?_));refine A3 rfl (A8 (FJ f a hf) ?_);rintro r rfl;refine Ee (h:=BO (h:=Ay (h:=n_ (h:=DR (h:=Az (h:=?_))))));refine A6 ?_;exact vb (by rw[cW,Bool.eq_iff_iff];simp;omega)
theorem WF(f:AU)(a:AD)(hf:FlsB f):AFn prog 235 [.agg (Au f), .agg (AB a)] (fun r=>r= .v (.bool (Mh f a))):=by
 refine enter Tryz.func235 rfl rfl rfl rfl rfl 0 rfl ?_;refine FC (h:=CA (h:=?_));refine A3 rfl (A8 (FJ f a hf) ?_);rintro r rfl;refine Ee (h:=BO (h:=Ay (h:=n_ (h:=Dt (h:=Az (h:=?_))))));refine A6 ?_;exact vb (by rw[cY,Bool.eq_iff_iff];simp)
theorem WG(n:Nod)(hs:n.target.size≤100000):AFn prog 237 [.agg (AZ n)] (fun r=>r= .v (.bool (Ht n))):=by
 have ee:n.target.toList.isEmpty=decide (n.target=⟨#[]⟩):=by
  rw[←Qz n.target ⟨#[]⟩,show(⟨#[]⟩:ByteArray).toList=[] by rw[ByteArray.toList_eq]];cases n.target.toList<;>rfl
 refine enter Tryz.func237 rfl rfl rfl rfl rfl 0 rfl ?_;refine EG (h:=BO (h:=q_ (?_)));refine JB (⟨look [(1, .bp 0 0),(40, .v (.bool (decide (n.kind<1∨3<n.kind∨n.mode<0∨511<n.mode∨n.uid<0∨4294967295<n.uid∨n.gid<0∨4294967295<n.gid))))],⟨[AZ n],[]⟩⟩) ?_ ?_
 ·skip
  refine Aw (AO (h:=DK (h:=?_)));refine AJ false rfl rfl (fun hb1 hc1=>?_) (fun hb1 hc1=>?_)
  ·refine Cl (h:=Cl (h:=Cl (h:=Cl (h:=Fu (h:=?_)))));refine m_ (h:=Cl (h:=JO (h:=?_)))
   first|(exfalso;first|contradiction|omega)|exact Ah 1 0 rfl rfl rfl rfl (by repeat (first|exact Sub.nil|refine Ai rfl rfl ?_|refine Ap ?_|refine Aq rfl ?_|refine Ar rfl ?_|(apply Sub.of;(focus exact rfl);(focus exact LeA.of_eq (vb (by rw[Bool.eq_iff_iff];simp;try omega)));(focus exact rfl))))
  refine JM (h:=Bc (h:=?_));refine AJ false rfl rfl (fun hb2 hc2=>?_) (fun hb2 hc2=>?_)
  ·refine Cl (h:=Cl (h:=Cl (h:=Cl (h:=Fu (h:=?_)))));refine m_ (h:=JO (h:=?_))
   first|(exfalso;first|contradiction|omega)|exact Ah 1 0 rfl rfl rfl rfl (by repeat (first|exact Sub.nil|refine Ai rfl rfl ?_|refine Ap ?_|refine Aq rfl ?_|refine Ar rfl ?_|(apply Sub.of;(focus exact rfl);(focus exact LeA.of_eq (vb (by rw[Bool.eq_iff_iff];simp;try omega)));(focus exact rfl))))
  refine AO (h:=JG (h:=Bc (h:=?_)));refine AJ false rfl rfl (fun hb3 hc3=>?_) (fun hb3 hc3=>?_)
  ·refine Cl (h:=Cl (h:=Cl (h:=Cl (h:=Fu (h:=?_)))));refine GH (h:=?_)
   first|(exfalso;first|contradiction|omega)|exact Ah 1 0 rfl rfl rfl rfl (by repeat (first|exact Sub.nil|refine Ai rfl rfl ?_|refine Ap ?_|refine Aq rfl ?_|refine Ar rfl ?_|(apply Sub.of;(focus exact rfl);(focus exact LeA.of_eq (vb (by rw[Bool.eq_iff_iff];simp;try omega)));(focus exact rfl))))
  refine JM (h:=Bc (h:=?_));refine AJ false rfl rfl (fun hb4 hc4=>?_) (fun hb4 hc4=>?_)
  ·refine Cl (h:=Cl (h:=Cl (h:=JO (h:=?_))))
   first|(exfalso;first|contradiction|omega)|exact Ah 1 0 rfl rfl rfl rfl (by repeat (first|exact Sub.nil|refine Ai rfl rfl ?_|refine Ap ?_|refine Aq rfl ?_|refine Ar rfl ?_|(apply Sub.of;(focus exact rfl);(focus exact LeA.of_eq (vb (by rw[Bool.eq_iff_iff];simp;try omega)));(focus exact rfl))))
  refine AO (h:=JG (h:=Bc (h:=?_)));refine AJ false rfl rfl (fun hb5 hc5=>?_) (fun hb5 hc5=>?_)
  ·refine Cl (h:=Cl (h:=JO (h:=?_)))
   first|(exfalso;first|contradiction|omega)|exact Ah 1 0 rfl rfl rfl rfl (by repeat (first|exact Sub.nil|refine Ai rfl rfl ?_|refine Ap ?_|refine Aq rfl ?_|refine Ar rfl ?_|(apply Sub.of;(focus exact rfl);(focus exact LeA.of_eq (vb (by rw[Bool.eq_iff_iff];simp;try omega)));(focus exact rfl))))
  refine JM (h:=Bc (h:=?_));refine AJ false rfl rfl (fun hb6 hc6=>?_) (fun hb6 hc6=>?_)
  ·refine Cl (h:=JO (h:=?_))
   first|(exfalso;first|contradiction|omega)|exact Ah 1 0 rfl rfl rfl rfl (by repeat (first|exact Sub.nil|refine Ai rfl rfl ?_|refine Ap ?_|refine Aq rfl ?_|refine Ar rfl ?_|(apply Sub.of;(focus exact rfl);(focus exact LeA.of_eq (vb (by rw[Bool.eq_iff_iff];simp;try omega)));(focus exact rfl))))
  refine AO (h:=JG (h:=Bc (h:=?_)));refine AJ false rfl rfl (fun hb7 hc7=>?_) (fun hb7 hc7=>?_)
  ·refine JO (h:=?_)
   first|(exfalso;first|contradiction|omega)|exact Ah 1 0 rfl rfl rfl rfl (by repeat (first|exact Sub.nil|refine Ai rfl rfl ?_|refine Ap ?_|refine Aq rfl ?_|refine Ar rfl ?_|(apply Sub.of;(focus exact rfl);(focus exact LeA.of_eq (vb (by rw[Bool.eq_iff_iff];simp;try omega)));(focus exact rfl))))
  refine JM (h:=EJ (h:=?_))
  first|(exfalso;first|contradiction|omega)|exact Ah 1 0 rfl rfl rfl rfl (by repeat (first|exact Sub.nil|refine Ai rfl rfl ?_|refine Ap ?_|refine Aq rfl ?_|refine Ar rfl ?_|(apply Sub.of;(focus exact rfl);(focus exact LeA.of_eq (vb (by rw[Bool.eq_iff_iff];simp;try omega)));(focus exact rfl))))
 skip
 refine A4 rfl (fun hb8 hc8=>?_) (fun hb8 hc8=>?_)
 ·refine BK (h:=?_);refine A6 ?_;exact vb (by rw[Ht,if_pos hc8])
 refine DU (h:=Bd (h:=?_));refine A4 rfl (fun hb9 hc9=>?_) (fun hb9 hc9=>?_)
 ·refine Ay (h:=?_);refine A3 rfl (A8 (d6 n.target hs) ?_);rintro r rfl;refine Dd (h:=?_);refine A6 ?_;exact vb (by rw[Ht,if_neg hc8,if_pos hc9])
 refine FY (h:=Dt (h:=Az (h:=?_)));refine A6 ?_;exact vb (by rw[Ht,if_neg hc8,if_neg hc9,ee])
theorem d7(f:AU)(a:AD)(hf:FlsB f):AFn prog 257 [.agg (Au f), .agg (AB a)] (fun r=>r= .v (.int .i64 (Kc f a:Int))):=by
 refine enter Tryz.func257 rfl rfl rfl rfl rfl 0 rfl ?_;refine FC (h:=q_ (CA (h:=?_)));refine A3 rfl (A8 (Mi f a hf) ?_);rintro r rfl;refine Cv (h:=?_);refine A4 rfl (fun hb1 hc1=>?_) (fun hb1 hc1=>?_)
 ·have e:CQ f a=none:=by
   rcases Ly f a with h|⟨k,i,d,n, -, -, -, -,h, -⟩
   ·exact h.2
   exfalso;omega
  refine BK (h:=?_);refine A6 ?_;exact vi (by simp[Kc,e])
 obtain⟨k,i,d,n,g1,g2,g3,g4,g5,g6⟩:=(Ly f a).resolve_left (fun h=>by omega);have hr1:(f.map Cg)[k]?=some (Cg d):=by rw[List.getElem?_map,g2];rfl
 have hdn:=hf.nodes d (Am g2);refine AG (D7 (h:=Ay (h:=AO (h:=?_))));refine A3 rfl (DE (n:=k) rfl rfl g1 hr1 ?_);refine AO (h:=JK (h:=?_));refine BM (fun m s=>∃j c:Nat,j≤d.nodes.length∧m=d.nodes.length - j∧c=Bm a.2 (d.nodes.take j)∧c≤1000 * j∧s=⟨look [(3, .bp 1 0),(5, .v (.int .i64 (c:Int))),(6, .sl 8 (d.nodes.map AZ) none),(7, .v (.int .i64 (j:Int)))],⟨[Au f,AB a],[]⟩⟩) (d.nodes.length) ((wk 2 0)) (⟨0,0,by omega,rfl,rfl,by omega,rfl⟩) ?_;rintro m s ⟨j,c,hj,rfl,hcn,hcb,rfl⟩;refine De (h:=Fi (h:=?_));refine A4 rfl (fun hb2 hc2=>?_) (fun hb2 hc2=>?_)
 ·obtain⟨hlt,x,hx,hrow, -⟩:=Br AZ hc2;have hen:=hf.ents d (Am g2) x (Am hx);refine By (h:=NJ (h:=?_));refine BM (fun m s=>∃i c2:Nat,i≤x.entries.length∧m=x.entries.length - i∧c2=c+DL a.2 (x.entries.take i)∧c2≤c+i∧s=⟨look [(3, .bp 1 0),(5, .v (.int .i64 (c2:Int))),(6, .sl 8 (d.nodes.map AZ) none),(7, .v (.int .i64 (j:Int))),(8, .v (.int .i64 (i:Int)))],⟨[Au f,AB a],[]⟩⟩) (x.entries.length) ((wk 2 0)) (⟨0,c,by omega,rfl,rfl,by omega,rfl⟩) ?_;rintro m s ⟨i,c2,hi,rfl,hc2n,hc2b,rfl⟩;refine De (h:=GG (h:=AO (h:=Fi (h:=?_))));refine A4 rfl (fun hb3 hc3=>?_) (fun hb3 hc3=>?_)
  ·obtain⟨hlt3,y,hy,hrow3, -⟩:=Br Dx hc3;refine AG (q_ (BF (q_ (Ct 12 (h:=AE 0 (h:=AE 1 (h:=CL 2 (h:=AA 3 (h:=A9 4 (h:=AE 5 (h:=CL 6 (h:=AA 7 (h:=A9 8 (h:=AA 9 (h:=A9 10 (h:=JF 11 (h:=z_ (h:=t_ (?_)))))))))))))))))));refine A4 rfl (fun hb4 hc4=>?_) (fun hb4 hc4=>?_)
   ·refine NH (h:=Ef (h:=?_))
    (refine⟨_,_,?_,⟨i+1,c2+1,by omega,rfl,?_,by omega,rfl⟩,(wk 2 0)⟩<;>first|omega|(rw[Su hy];simp[hc4];omega))
   refine Cm (h:=?_)
   first|(refine⟨_,_,?_,⟨i+1,c2+1,by omega,rfl,?_,by omega,rfl⟩,(wk 2 0)⟩<;>first|omega|(rw[Su hy];simp[hc4];omega))|(refine⟨_,_,?_,⟨i+1,c2,by omega,rfl,?_,by omega,rfl⟩,(wk 2 0)⟩<;>first|omega|(rw[Su hy];simp[hc4];omega))
  have e3:=C6 Dx hi hc3;subst e3;refine Kb (h:=Ef (h:=?_));refine⟨_,_,?_,⟨j+1,c2,by omega,rfl,?_,?_,rfl⟩,(wk 2 0)⟩
  ·omega
  ·rw[hc2n,cS hx,List.take_length];omega
  have:=cR a.2 (x.entries.take x.entries.length);simp at this;omega
 have e2:=C6 AZ hj hc2;subst e2;refine CP (h:=Dv (h:=?_));refine A6 ?_;exact vi (by rw[cZ g1 g2 g6,hcn,List.take_length])
end
def Gg(m:E6):List AV:=[.v (.int .i64 m.1), .v (.int .i64 m.2.1), .v (.int .i64 m.2.2)]
def AW(s:Spc):List AV:=[.sl 2 (s.files.map Cg) none, .sl 3 (s.mounts.map Gg) none]
structure SpcB(s:Spc):Prop where
 files:FlsB s.files
 few:s.mounts.length≤1000
def C1(s:Spc)(dev:Int):Option AD:=(s.mounts.find? fun m:E6=>decide (m.1=dev)).map (·.2)
def Dm(s:Spc)(a:AD):Option Int:=(s.mounts.find? fun m:E6=>decide (m.2=a)).map (·.1)
def DN(s:Spc)(dev:Int):Bool:=(C1 s dev).isSome||decide (dev=0)
section
theorem T3(op:BinOp)(a b c d:Int)(w:World):(op= .eql∨op= .neq)→(binOp op 26 (.agg #[.int .i64 a, .int .i64 b]) (.agg #[.int .i64 c, .int .i64 d])).run prog w= .ok (.bool (decide ((a,b)=(c,d))==decide (op= .eql))) w:=by
 have u3:=Tryz.underlying3;have a3:=Tryz.isAgg3;have z3:=Tryz.sizeOf3;have hS:prog.underlying 26=some (.struct (prog.fieldsOf 26)):=by kernel_rfl
 have hp:prog.stoodInHeld 26=false:=by kernel_rfl
 have e:∀w,(Op.equalIn 10000 26 (.agg #[.int .i64 a, .int .i64 b]) (.agg #[.int .i64 c, .int .i64 d])).run prog w= .ok (a==c&&b==d) w:=by
  intro w;rw[show(10000:Nat)=9999+1 from rfl,run_equalIn_agg w 9999 26 _ _ hS hp];simp only[Program.fieldsOf,Tryz.underlying26]
  go_simp
  by_cases h1:a=c<;>by_cases h2:b=d<;>simp[h1,h2]
 rintro(rfl|rfl)
 ·rw[run_eql_struct,e];by_cases h1:a=c<;>by_cases h2:b=d<;>simp[h1,h2]
 rw[run_neq_struct,e];by_cases h1:a=c<;>by_cases h2:b=d<;>simp[h1,h2]
theorem O6(a b c d:Int)(w:World):(binOp .eql 26 (.agg #[.int .i64 a, .int .i64 b]) (.agg #[.int .i64 c, .int .i64 d])).run prog w= .ok (.bool (decide ((a,b)=(c,d)))) w:=by
 rw[T3 .eql a b c d w (.inl rfl)];by_cases h:(a,b)=(c,d)<;>simp[h]
theorem T4(a b c d:Int)(w:World):(binOp .neq 26 (.agg #[.int .i64 a, .int .i64 b]) (.agg #[.int .i64 c, .int .i64 d])).run prog w= .ok (.bool (!decide ((a,b)=(c,d)))) w:=by
 rw[T3 .neq a b c d w (.inr rfl)];by_cases h:(a,b)=(c,d)<;>simp[h]
theorem R4(s:Spc)(dev:Int)(hs:SpcB s):AFn prog 180 [.agg (AW s), .v (.int .i64 dev)] (fun r=>r= .tup [.agg (AB ((C1 s dev).getD (0,0))), .v (.bool (C1 s dev).isSome)]):=by
 have hfew:=hs.few;refine enter Tryz.func180 rfl rfl rfl rfl rfl 0 rfl ?_;refine E5 (h:=JK (h:=?_));refine BM (fun m t=>∃j:Nat,j≤s.mounts.length∧m=s.mounts.length - j∧(∀i y,i<j→s.mounts[i]?=some y→decide (y.1=dev)=false)∧t=⟨look [(1, .v (.int .i64 dev)),(2, .bp 0 0),(4, .bp 1 0),(6, .v (.int .i64 (j:Int)))],⟨[AW s,[.v (.int .i64 0), .v (.int .i64 0)]],[]⟩⟩) (s.mounts.length) ((wk 2 0)) (⟨0,by omega,rfl,fun i y hi=>by omega,rfl⟩) ?_;rintro m t ⟨j,hj,rfl,ha,rfl⟩;refine Fz (h:=?_);refine A4 rfl (fun hb1 hc1=>?_) (fun hb1 hc1=>?_)
 ·obtain⟨hlt,x,hy,hrow, -⟩:=Br Gg hc1;refine By (h:=H9 (h:=AO (h:=CE (h:=e_ (?_)))));refine A4 rfl (fun hb2 hc2=>?_) (fun hb2 hc2=>?_)
  ·refine H9 (h:=AO (h:=s_ (h:=Ax (h:=Dk (h:=?_)))));refine A6 ?_;rw[show C1 s dev=some x.2 by simp only[C1];rw[NM hy (by simpa using hc2) ha];rfl];rfl
  refine Cm (h:=?_);refine⟨_,_,?_,⟨j+1,by omega,rfl,GN hy ha (by simpa using hc2),rfl⟩,(wk 2 0)⟩;omega
 have e3:=C6 Gg hj hc1;subst e3;refine CP (h:=JH (h:=Az (h:=?_)));refine A6 ?_;rw[show C1 s dev=none by simp only[C1];rw[NN ha];rfl];rfl
theorem P6(s:Spc)(dev:Int)(hs:SpcB s):AFn prog 124 [.agg (AW s), .v (.int .i64 dev)] (fun r=>r= .v (.bool (DN s dev))):=by
 refine enter Tryz.func124 rfl rfl rfl rfl rfl 0 rfl ?_;refine EG (h:=Je (h:=?_));refine A3 rfl (A8 (R4 s dev hs) ?_);rintro r rfl;refine Ee (h:=Bt (h:=m_ (h:=?_)));refine AJ false rfl rfl (fun hb1 hc1=>?_) (fun hb1 hc1=>?_)
 ·refine BY (h:=Gf (h:=?_));refine A6 ?_;exact vb (by unfold DN;rw[hc1];simp)
 refine CE (h:=Bh (h:=Az (h:=?_)));refine A6 ?_;exact vb (by unfold DN;rw[hc1];simp)
theorem WH(s:Spc)(a:AD)(hs:SpcB s):AFn prog 181 [.agg (AW s), .agg (AB a)] (fun r=>r= .tup [.v (.int .i64 ((Dm s a).getD 0)), .v (.bool (Dm s a).isSome)]):=by
 have hfew:=hs.few;refine enter Tryz.func181 rfl rfl rfl rfl rfl 0 rfl ?_;refine Lw (h:=a_ (h:=JK (h:=?_)));refine BM (fun m t=>∃j:Nat,j≤s.mounts.length∧m=s.mounts.length - j∧(∀i y,i<j→s.mounts[i]?=some y→decide (y.2=a)=false)∧t=⟨look [(2, .bp 0 0),(3, .bp 1 0),(6, .v (.int .i64 (j:Int)))],⟨[AW s,AB a],[]⟩⟩) (s.mounts.length) ((wk 2 0)) (⟨0,by omega,rfl,fun i y hi=>by omega,rfl⟩) ?_;rintro m t ⟨j,hj,rfl,ha,rfl⟩;refine Fz (h:=?_);refine A4 rfl (fun hb1 hc1=>?_) (fun hb1 hc1=>?_)
 ·obtain⟨hlt,x,hy,hrow, -⟩:=Br Gg hc1;refine AG (q_ (BF (q_ (Ct 8 (h:=AA 0 (h:=A9 1 (h:=AE 2 (h:=CL 3 (h:=AA 4 (h:=A9 5 (h:=A9 6 (h:=?_))))))))))));refine F9 (i:=7) rfl (GF rfl rfl (by repeat constructor) (by repeat constructor) (fun w=>O6 _ _ _ _ w) (by kernel_rfl) ⟨rfl,rfl⟩) ?_;refine z_ (h:=t_ (?_));refine A4 rfl (fun hb2 hc2=>?_) (fun hb2 hc2=>?_)
  ·refine H9 (h:=AO (h:=Fw (h:=Dk (h:=?_))));refine A6 ?_;rw[show Dm s a=some x.1 by simp only[Dm];rw[NM hy (decide_eq_true hc2) ha];rfl];rfl
  refine Cm (h:=?_);refine⟨_,_,?_,⟨j+1,by omega,rfl,GN hy ha (decide_eq_false hc2),rfl⟩,(wk 2 0)⟩;omega
 have e3:=C6 Gg hj hc1;subst e3;refine CP (h:=w_ (a_ (h:=Az (h:=?_))));refine A6 ?_;rw[show Dm s a=none by simp only[Dm];rw[NN ha];rfl];rfl
theorem WJ(s:Spc)(a:AD)(hs:SpcB s):AFn prog 125 [.agg (AW s), .agg (AB a)] (fun r=>r= .v (.bool (Dm s a).isSome)):=by
 refine enter Tryz.func125 rfl rfl rfl rfl rfl 0 rfl ?_;refine FC (h:=CA (h:=?_));refine A3 rfl (A8 (WH s a hs) ?_);rintro r rfl;refine Ge (h:=a_ (h:=Bt (h:=Az (h:=?_))));refine A6 ?_;rfl
theorem d8(s:Spc)(dev:Int)(hs:SpcB s):AFn prog 229 [.agg (AW s), .v (.int .i64 dev)] (fun r=>r= .tup [.agg (AB ((C1 s dev).getD (0,0))), .v (.bool (C1 s dev).isSome)]):=by
 have hfew:=hs.few;refine enter Tryz.func229 rfl rfl rfl rfl rfl 0 rfl ?_;refine E5 (h:=Fy (h:=JP (h:=e_ (BF (?_)))));refine BM (fun m t=>∃j:Nat,j≤s.mounts.length∧m=s.mounts.length - j∧(∀i y,i<j→s.mounts[i]?=some y→decide (y.1=dev)=false)∧t=⟨look [(1, .v (.int .i64 dev)),(4, .bp 1 0),(9, .sl 3 (s.mounts.map Gg) none),(10, .v (.int .i64 ((s.mounts.map Gg).length:Int))),(11, .v (.int .i64 (j:Int)))],⟨[AW s,[.v (.int .i64 0), .v (.int .i64 0)]],[]⟩⟩) (s.mounts.length) ((wk 2 0)) (⟨0,by omega,rfl,fun i y hi=>by omega,rfl⟩) ?_;rintro m t ⟨j,hj,rfl,ha,rfl⟩;refine w_ (Cv (h:=q_ (?_)));refine A4 rfl (fun hb1 hc1=>?_) (fun hb1 hc1=>?_)
 ·obtain⟨hlt,x,hy,hrow, -⟩:=Br Gg hc1;refine By (h:=w_ (i_ (h:=Jb (h:=Ay (h:=CE (h:=e_ (?_)))))));refine A4 rfl (fun hb2 hc2=>?_) (fun hb2 hc2=>?_)
  ·refine Ay (h:=s_ (h:=Ax (h:=Dk (h:=?_))));refine A6 ?_;rw[show C1 s dev=some x.2 by simp only[C1];rw[NM hy (by simpa using hc2) ha];rfl];rfl
  refine BG (BA (t_ (Aw (JQ (h:=?_)))));refine⟨_,_,?_,⟨j+1,by omega,rfl,GN hy ha (by simpa using hc2),rfl⟩,(wk 2 0)⟩;omega
 have e3:=C6 Gg hj hc1;subst e3;refine CP (h:=JH (h:=Az (h:=?_)));refine A6 ?_;rw[show C1 s dev=none by simp only[C1];rw[NN ha];rfl];rfl
end
end Go.Proofs.YtbgnigjfkbmceaaGreatDoor
