/-
  Part 5 of the proof of FilterLoadsP: what the statement's proof uses of the texts in wip/tpl.
-/
import Derived.Laws.StructEq
import Derived.Test.YtbgnigjfkbmceaaGreatDoorQd4
open Go.Proofs.Tryz (prog)
set_option maxRecDepth 10000
set_option maxHeartbeats 4000000
set_option linter.unusedVariables false
set_option linter.unusedSimpArgs false
namespace Go.Proofs.YtbgnigjfkbmceaaGreatDoor
open Go.RowKit
def F0(op a b:Int):Bool:=
 if op=1 then decide (a=b)else if op=2 then !decide (a=b)else if op=3 then decide (a<b)else if op=4 then decide (a≤b)else if op=5 then decide (b<a)
 else if op=6 then decide (b≤a)else if op=7 then !decide (GL .i64 a b=0)else decide (GL .i64 a b=b)
section
theorem RT(op a b:Int)(h1:1≤op)(h2:op≤8):AFn prog 223 [.v (.int .i64 op), .v (.int .i64 a), .v (.int .i64 b)] (fun r=>r= .v (.bool (F0 op a b))):=by
 refine enter Tryz.func223 rfl rfl rfl rfl rfl 0 rfl ?_;refine w_ (a_ (h:=e_ (q_ (w_ (m_ (h:=e_ (Af (w_ (AN (h:=a_ (h:=e_ (?_))))))))))));refine A9 rfl (fun hb1=>?_) (fun hb1=>?_)
 ·have hc1:=bp hb1;refine w_ (m_ (h:=m_ (h:=AN (h:=a_ (h:=e_ (A4 (AP (A7 (?_)))))))));refine A8 ?_
  first|(exfalso;first|contradiction|omega)|(exact vb (by unfold F0;simp[*]))
 have hc1:=bp hb1;refine w_ (AN (h:=a_ (h:=e_ (?_))));refine A9 rfl (fun hb2=>?_) (fun hb2=>?_)
 ·have hc2:=bp hb2;refine w_ (m_ (h:=m_ (h:=Ao (h:=a_ (h:=e_ (A4 (AP (A7 (?_)))))))));refine A8 ?_
  first|(exfalso;first|contradiction|omega)|(exact vb (by unfold F0;simp[*]))
 have hc2:=bp hb2;refine w_ (AN (h:=a_ (h:=e_ (?_))));refine A9 rfl (fun hb3=>?_) (fun hb3=>?_)
 ·have hc3:=bp hb3;refine w_ (m_ (h:=m_ (h:=B1 (h:=a_ (h:=e_ (A4 (AP (A7 (?_)))))))));refine A8 ?_
  first|(exfalso;first|contradiction|omega)|(exact vb (by unfold F0;simp[*]))
 have hc3:=bp hb3;refine w_ (AN (h:=a_ (h:=e_ (?_))));refine A9 rfl (fun hb4=>?_) (fun hb4=>?_)
 ·have hc4:=bp hb4;refine w_ (m_ (h:=m_ (h:=EC (h:=a_ (h:=e_ (A4 (AP (A7 (?_)))))))));refine A8 ?_
  first|(exfalso;first|contradiction|omega)|(exact vb (by unfold F0;simp[*]))
 have hc4:=bp hb4;refine w_ (AN (h:=a_ (h:=e_ (?_))));refine A9 rfl (fun hb5=>?_) (fun hb5=>?_)
 ·have hc5:=bp hb5;refine w_ (m_ (h:=m_ (h:=Bb (h:=a_ (h:=e_ (A4 (AP (A7 (?_)))))))));refine A8 ?_
  first|(exfalso;first|contradiction|omega)|(exact vb (by unfold F0;simp[*]))
 have hc5:=bp hb5;refine w_ (AN (h:=a_ (h:=e_ (?_))));refine A9 rfl (fun hb6=>?_) (fun hb6=>?_)
 ·have hc6:=bp hb6;refine w_ (m_ (h:=m_ (h:=DL (h:=a_ (h:=e_ (A4 (AP (A7 (?_)))))))));refine A8 ?_
  first|(exfalso;first|contradiction|omega)|(exact vb (by unfold F0;simp[*]))
 have hc6:=bp hb6;refine w_ (AN (h:=a_ (h:=e_ (?_))));refine A9 rfl (fun hb7=>?_) (fun hb7=>?_)
 ·have hc7:=bp hb7;refine w_ (m_ (h:=m_ (h:=MY (h:=Ao (h:=a_ (h:=e_ (A4 (AP (A7 (?_))))))))));refine A8 ?_
  first|(exfalso;first|contradiction|omega)|(exact vb (by unfold F0;simp[*]))
 have hc7:=bp hb7;refine w_ (AN (h:=a_ (h:=e_ (?_))));refine A9 rfl (fun hb8=>?_) (fun hb8=>?_)
 ·have hc8:=bp hb8;refine w_ (m_ (h:=m_ (h:=MY (h:=m_ (h:=AN (h:=a_ (h:=e_ (A4 (AP (A7 (?_)))))))))));refine A8 ?_
  first|(exfalso;first|contradiction|omega)|(exact vb (by unfold F0;simp[*]))
 have hc8:=bp hb8;refine Aw (Al (t_ (w_ (a_ (h:=e_ (A4 (?_)))))));refine A8 ?_
 first|(exfalso;first|contradiction|omega)|(exact vb (by unfold F0;simp[*]))
theorem Vn(f:Int)(c:Ctx)(k:Cxs)(y:Itm)(h1:15≤f)(h2:f≤21):AFn prog 254 [.v (.int .i64 f), .agg (DX c k), .agg (DW y)] (fun r=>r= .tup [.v (.int .i64 (Cd f c y)), .v (.bool true)]):=by
 refine enter Tryz.func254 rfl rfl rfl rfl rfl 0 rfl ?_;refine w_ (b_ (h:=b_ (h:=a_ (h:=a_ (h:=e_ (q_ (w_ (m_ (h:=e_ (Af (w_ (AN (h:=a_ (h:=e_ (?_)))))))))))))));refine A9 rfl (fun hb1=>?_) (fun hb1=>?_)
 ·have hc1:=bp hb1;refine w_ (f_ (h:=l_ (h:=a_ (h:=a_ (h:=e_ (A4 (AP (A7 (?_)))))))));refine A8 ?_
  first|(exfalso;first|contradiction|omega)|(exact congrArg (fun z=>AV.tup [.v (.int .i64 z), .v (.bool true)]) (by unfold Cd;simp[*]))
 have hc1:=bp hb1;refine w_ (AN (h:=a_ (h:=e_ (?_))));refine A9 rfl (fun hb2=>?_) (fun hb2=>?_)
 ·have hc2:=bp hb2;refine q_ (w_ (f_ (h:=l_ (h:=DL (h:=e_ (?_))))));refine A9 rfl (fun hb3=>?_) (fun hb3=>?_)
  ·have hc3:=bp hb3;refine w_ (a_ (h:=a_ (h:=e_ (A4 (A7 (AP (A7 (?_))))))));refine A8 ?_
   first|(exfalso;first|contradiction|omega)|(exact congrArg (fun z=>AV.tup [.v (.int .i64 z), .v (.bool true)]) (by unfold Cd;simp[*]))
  have hc3:=bp hb3;refine AE (w_ (a_ (h:=a_ (h:=e_ (A4 (AP (A7 (?_))))))));refine A8 ?_
  first|(exfalso;first|contradiction|omega)|(exact congrArg (fun z=>AV.tup [.v (.int .i64 z), .v (.bool true)]) (by unfold Cd;simp[*]))
 have hc2:=bp hb2;refine w_ (AN (h:=a_ (h:=e_ (?_))));refine A9 rfl (fun hb4=>?_) (fun hb4=>?_)
 ·have hc4:=bp hb4;refine w_ (f_ (h:=f_ (h:=l_ (h:=a_ (h:=a_ (h:=e_ (A4 (AP (A7 (?_))))))))));refine A8 ?_
  first|(exfalso;first|contradiction|omega)|(exact congrArg (fun z=>AV.tup [.v (.int .i64 z), .v (.bool true)]) (by unfold Cd;simp[*]))
 have hc4:=bp hb4;refine w_ (AN (h:=a_ (h:=e_ (?_))));refine A9 rfl (fun hb5=>?_) (fun hb5=>?_)
 ·have hc5:=bp hb5;refine w_ (f_ (h:=f_ (h:=l_ (h:=a_ (h:=a_ (h:=e_ (A4 (AP (A7 (?_))))))))));refine A8 ?_
  first|(exfalso;first|contradiction|omega)|(exact congrArg (fun z=>AV.tup [.v (.int .i64 z), .v (.bool true)]) (by unfold Cd;simp[*]))
 have hc5:=bp hb5;refine w_ (AN (h:=a_ (h:=e_ (?_))));refine A9 rfl (fun hb6=>?_) (fun hb6=>?_)
 ·have hc6:=bp hb6;refine w_ (f_ (h:=l_ (h:=a_ (h:=a_ (h:=e_ (A4 (AP (A7 (?_)))))))));refine A8 ?_
  first|(exfalso;first|contradiction|omega)|(exact congrArg (fun z=>AV.tup [.v (.int .i64 z), .v (.bool true)]) (by unfold Cd;simp[*]))
 have hc6:=bp hb6;refine w_ (AN (h:=a_ (h:=e_ (?_))));refine A9 rfl (fun hb7=>?_) (fun hb7=>?_)
 ·have hc7:=bp hb7;refine w_ (f_ (h:=l_ (h:=a_ (h:=a_ (h:=e_ (A4 (AP (A7 (?_)))))))));refine A8 ?_
  first|(exfalso;first|contradiction|omega)|(exact congrArg (fun z=>AV.tup [.v (.int .i64 z), .v (.bool true)]) (by unfold Cd;simp[*]))
 have hc7:=bp hb7;refine w_ (AN (h:=a_ (h:=e_ (?_))));refine A9 rfl (fun hb8=>?_) (fun hb8=>?_)
 ·have hc8:=bp hb8;refine w_ (f_ (h:=l_ (h:=a_ (h:=a_ (h:=e_ (A4 (AP (A7 (?_)))))))));refine A8 ?_
  first|(exfalso;first|contradiction|omega)|(exact congrArg (fun z=>AV.tup [.v (.int .i64 z), .v (.bool true)]) (by unfold Cd;simp[*]))
 have hc8:=bp hb8;refine Aw (Al (t_ (w_ (a_ (h:=a_ (h:=e_ (A4 (?_))))))));refine A8 ?_
 first|(exfalso;first|contradiction|omega)|(exact congrArg (fun z=>AV.tup [.v (.int .i64 z), .v (.bool true)]) (by unfold Cd;simp[*]))
def NumP(f:Int)(c:Ctx)(y:Itm)(r:AV):Prop:=∃n,r= .tup [.v (.int .i64 n), .v (.bool (Bc f c))]∧(Bc f c=true→n=Cd f c y)
theorem NumP.mk{f n:Int}{c:Ctx}{y:Itm}{b:Bool}(hb:b=Bc f c)(hn:Bc f c=true→n=Cd f c y):NumP f c y (.tup [.v (.int .i64 n), .v (.bool b)]):=⟨n,by rw[hb],hn⟩
theorem RU(f:Int)(c:Ctx)(k:Cxs)(y:Itm)(h1:1≤f)(h2:f≤22)(ht:D0 f=false):AFn prog 222 [.v (.int .i64 f), .agg (DX c k), .agg (DW y)] (NumP f c y):=by
 simp only[D0,decide_eq_false_iff_not]at ht;refine enter Tryz.func222 rfl rfl rfl rfl rfl 0 rfl ?_;refine w_ (b_ (h:=b_ (h:=a_ (h:=a_ (h:=e_ (q_ (w_ (m_ (h:=e_ (Af (w_ (AN (h:=a_ (h:=e_ (?_)))))))))))))));refine A9 rfl (fun hb1=>?_) (fun hb1=>?_)
 ·have hc1:=bp hb1;refine w_ (f_ (h:=f_ (h:=l_ (h:=a_ (h:=a_ (h:=e_ (A4 (AP (A7 (?_))))))))));refine A8 ?_
  first|(exfalso;first|contradiction|omega)|(exact NumP.mk (by unfold Bc;(repeat' split)<;>(first|omega|(simp[*];done)|(simp;omega)|(simp at *;omega))) (fun hq=>by first|(unfold Cd;simp[*];done)|(unfold Bc at hq;simp[*]at hq;omega)|(unfold Bc at hq;simp[*]at hq)))
 have hc1:=bp hb1;refine w_ (AN (h:=a_ (h:=e_ (?_))));refine A9 rfl (fun hb2=>?_) (fun hb2=>?_)
 ·have hc2:=bp hb2;refine w_ (f_ (h:=f_ (h:=l_ (h:=a_ (h:=a_ (h:=e_ (A4 (AP (A7 (?_))))))))));refine A8 ?_
  first|(exfalso;first|contradiction|omega)|(exact NumP.mk (by unfold Bc;(repeat' split)<;>(first|omega|(simp[*];done)|(simp;omega)|(simp at *;omega))) (fun hq=>by first|(unfold Cd;simp[*];done)|(unfold Bc at hq;simp[*]at hq;omega)|(unfold Bc at hq;simp[*]at hq)))
 have hc2:=bp hb2;refine w_ (AN (h:=a_ (h:=e_ (?_))));refine A9 rfl (fun hb3=>?_) (fun hb3=>?_)
 ·have hc3:=bp hb3;refine w_ (f_ (h:=f_ (h:=l_ (h:=a_ (h:=a_ (h:=e_ (A4 (AP (A7 (?_))))))))));refine A8 ?_
  first|(exfalso;first|contradiction|omega)|(exact NumP.mk (by unfold Bc;(repeat' split)<;>(first|omega|(simp[*];done)|(simp;omega)|(simp at *;omega))) (fun hq=>by first|(unfold Cd;simp[*];done)|(unfold Bc at hq;simp[*]at hq;omega)|(unfold Bc at hq;simp[*]at hq)))
 have hc3:=bp hb3;refine w_ (AN (h:=a_ (h:=e_ (?_))));refine A9 rfl (fun hb4=>?_) (fun hb4=>?_)
 ·have hc4:=bp hb4;refine w_ (f_ (h:=f_ (h:=l_ (h:=a_ (h:=a_ (h:=e_ (A4 (AP (A7 (?_))))))))));refine A8 ?_
  first|(exfalso;first|contradiction|omega)|(exact NumP.mk (by unfold Bc;(repeat' split)<;>(first|omega|(simp[*];done)|(simp;omega)|(simp at *;omega))) (fun hq=>by first|(unfold Cd;simp[*];done)|(unfold Bc at hq;simp[*]at hq;omega)|(unfold Bc at hq;simp[*]at hq)))
 have hc4:=bp hb4;refine w_ (AN (h:=a_ (h:=e_ (?_))));refine A9 rfl (fun hb5=>?_) (fun hb5=>?_)
 ·have hc5:=bp hb5;refine w_ (f_ (h:=f_ (h:=l_ (h:=a_ (h:=a_ (h:=e_ (A4 (AP (A7 (?_))))))))));refine A8 ?_
  first|(exfalso;first|contradiction|omega)|(exact NumP.mk (by unfold Bc;(repeat' split)<;>(first|omega|(simp[*];done)|(simp;omega)|(simp at *;omega))) (fun hq=>by first|(unfold Cd;simp[*];done)|(unfold Bc at hq;simp[*]at hq;omega)|(unfold Bc at hq;simp[*]at hq)))
 have hc5:=bp hb5;refine w_ (AN (h:=a_ (h:=e_ (?_))));refine A9 rfl (fun hb6=>?_) (fun hb6=>?_)
 ·have hc6:=bp hb6;refine w_ (f_ (h:=f_ (h:=l_ (h:=a_ (h:=a_ (h:=e_ (A4 (AP (A7 (?_))))))))));refine A8 ?_
  first|(exfalso;first|contradiction|omega)|(exact NumP.mk (by unfold Bc;(repeat' split)<;>(first|omega|(simp[*];done)|(simp;omega)|(simp at *;omega))) (fun hq=>by first|(unfold Cd;simp[*];done)|(unfold Bc at hq;simp[*]at hq;omega)|(unfold Bc at hq;simp[*]at hq)))
 have hc6:=bp hb6;refine w_ (AN (h:=a_ (h:=e_ (?_))));refine A9 rfl (fun hb7=>?_) (fun hb7=>?_)
 ·have hc7:=bp hb7;refine w_ (f_ (h:=f_ (h:=l_ (h:=a_ (h:=a_ (h:=e_ (A4 (AP (A7 (?_))))))))));refine A8 ?_
  first|(exfalso;first|contradiction|omega)|(exact NumP.mk (by unfold Bc;(repeat' split)<;>(first|omega|(simp[*];done)|(simp;omega)|(simp at *;omega))) (fun hq=>by first|(unfold Cd;simp[*];done)|(unfold Bc at hq;simp[*]at hq;omega)|(unfold Bc at hq;simp[*]at hq)))
 have hc7:=bp hb7;refine w_ (AN (h:=a_ (h:=e_ (?_))));refine A9 rfl (fun hb8=>?_) (fun hb8=>?_)
 ·have hc8:=bp hb8;refine w_ (f_ (h:=f_ (h:=l_ (h:=a_ (h:=a_ (h:=e_ (A4 (AP (A7 (?_))))))))));refine A8 ?_
  first|(exfalso;first|contradiction|omega)|(exact NumP.mk (by unfold Bc;(repeat' split)<;>(first|omega|(simp[*];done)|(simp;omega)|(simp at *;omega))) (fun hq=>by first|(unfold Cd;simp[*];done)|(unfold Bc at hq;simp[*]at hq;omega)|(unfold Bc at hq;simp[*]at hq)))
 have hc8:=bp hb8;refine q_ (w_ (AN (h:=a_ (h:=e_ (?_)))));refine A9 rfl (fun hb9=>?_) (fun hb9=>?_)
 ·have hc9:=bp hb9;refine AE (B2 (h:=w_ (m_ (h:=G0 (h:=f_ (h:=f_ (h:=?_)))))))
  first|refine A6 rfl (E9 (n:=0) (len:=4) (sz:=1) (by kernel_rfl) rfl rfl (by omega) rfl ?_)|refine A6 rfl (E9 (n:=1) (len:=4) (sz:=1) (by kernel_rfl) rfl rfl (by omega) rfl ?_)|refine A6 rfl (E9 (n:=2) (len:=4) (sz:=1) (by kernel_rfl) rfl rfl (by omega) rfl ?_)|refine A6 rfl (E9 (n:=3) (len:=4) (sz:=1) (by kernel_rfl) rfl rfl (by omega) rfl ?_)
  refine l_ (h:=a_ (h:=a_ (h:=e_ (A4 (AP (A7 (?_)))))));refine A8 ?_
  first|(exfalso;first|contradiction|omega)|(exact NumP.mk (by unfold Bc;(repeat' split)<;>(first|omega|(simp[*];done)|(simp;omega)|(simp at *;omega))) (fun hq=>by first|(unfold Cd;simp[*];done)|(unfold Bc at hq;simp[*]at hq;omega)|(unfold Bc at hq;simp[*]at hq)))
 have hc9:=bp hb9;refine w_ (AN (h:=a_ (h:=e_ (?_))));refine A9 rfl (fun hb10=>?_) (fun hb10=>?_)
 ·have hc10:=bp hb10;refine AE (B2 (h:=w_ (m_ (h:=G0 (h:=f_ (h:=f_ (h:=?_)))))))
  first|refine A6 rfl (E9 (n:=0) (len:=4) (sz:=1) (by kernel_rfl) rfl rfl (by omega) rfl ?_)|refine A6 rfl (E9 (n:=1) (len:=4) (sz:=1) (by kernel_rfl) rfl rfl (by omega) rfl ?_)|refine A6 rfl (E9 (n:=2) (len:=4) (sz:=1) (by kernel_rfl) rfl rfl (by omega) rfl ?_)|refine A6 rfl (E9 (n:=3) (len:=4) (sz:=1) (by kernel_rfl) rfl rfl (by omega) rfl ?_)
  refine l_ (h:=a_ (h:=a_ (h:=e_ (A4 (AP (A7 (?_)))))));refine A8 ?_
  first|(exfalso;first|contradiction|omega)|(exact NumP.mk (by unfold Bc;(repeat' split)<;>(first|omega|(simp[*];done)|(simp;omega)|(simp at *;omega))) (fun hq=>by first|(unfold Cd;simp[*];done)|(unfold Bc at hq;simp[*]at hq;omega)|(unfold Bc at hq;simp[*]at hq)))
 have hc10:=bp hb10;refine w_ (AN (h:=a_ (h:=e_ (?_))));refine A9 rfl (fun hb11=>?_) (fun hb11=>?_)
 ·have hc11:=bp hb11;refine AE (B2 (h:=w_ (m_ (h:=G0 (h:=f_ (h:=f_ (h:=?_)))))))
  first|refine A6 rfl (E9 (n:=0) (len:=4) (sz:=1) (by kernel_rfl) rfl rfl (by omega) rfl ?_)|refine A6 rfl (E9 (n:=1) (len:=4) (sz:=1) (by kernel_rfl) rfl rfl (by omega) rfl ?_)|refine A6 rfl (E9 (n:=2) (len:=4) (sz:=1) (by kernel_rfl) rfl rfl (by omega) rfl ?_)|refine A6 rfl (E9 (n:=3) (len:=4) (sz:=1) (by kernel_rfl) rfl rfl (by omega) rfl ?_)
  refine l_ (h:=a_ (h:=a_ (h:=e_ (A4 (AP (A7 (?_)))))));refine A8 ?_
  first|(exfalso;first|contradiction|omega)|(exact NumP.mk (by unfold Bc;(repeat' split)<;>(first|omega|(simp[*];done)|(simp;omega)|(simp at *;omega))) (fun hq=>by first|(unfold Cd;simp[*];done)|(unfold Bc at hq;simp[*]at hq;omega)|(unfold Bc at hq;simp[*]at hq)))
 have hc11:=bp hb11;refine AW (AN (h:=a_ (h:=e_ (?_))));refine A9 rfl (fun hb12=>?_) (fun hb12=>?_)
 ·have hc12:=bp hb12;refine w_ (m_ (h:=G0 (h:=f_ (h:=f_ (h:=?_)))))
  first|refine A6 rfl (E9 (n:=0) (len:=4) (sz:=1) (by kernel_rfl) rfl rfl (by omega) rfl ?_)|refine A6 rfl (E9 (n:=1) (len:=4) (sz:=1) (by kernel_rfl) rfl rfl (by omega) rfl ?_)|refine A6 rfl (E9 (n:=2) (len:=4) (sz:=1) (by kernel_rfl) rfl rfl (by omega) rfl ?_)|refine A6 rfl (E9 (n:=3) (len:=4) (sz:=1) (by kernel_rfl) rfl rfl (by omega) rfl ?_)
  refine l_ (h:=a_ (h:=a_ (h:=e_ (A4 (AP (A7 (?_)))))));refine A8 ?_
  first|(exfalso;first|contradiction|omega)|(exact NumP.mk (by unfold Bc;(repeat' split)<;>(first|omega|(simp[*];done)|(simp;omega)|(simp at *;omega))) (fun hq=>by first|(unfold Cd;simp[*];done)|(unfold Bc at hq;simp[*]at hq;omega)|(unfold Bc at hq;simp[*]at hq)))
 have hc12:=bp hb12;refine w_ (AN (h:=a_ (h:=e_ (?_))));refine A9 rfl (fun hb13=>?_) (fun hb13=>?_)
 ·have hc13:=bp hb13;refine q_ (D7 7 (h:=Ay 0 (h:=AY 1 (h:=Ay 2 (h:=AY 3 (h:=OM 4 (h:=BN 5 (h:=BN 6 (h:=z_ (h:=t_ (A4 (AP (A7 (?_))))))))))))));refine A8 ?_
  first|(exfalso;first|contradiction|omega)|(exact NumP.mk (by unfold Bc;(repeat' split)<;>(first|omega|(simp[*];done)|(simp;omega)|(simp at *;omega))) (fun hq=>by first|(unfold Cd;simp[*];done)|(unfold Bc at hq;simp[*]at hq;omega)|(unfold Bc at hq;simp[*]at hq)))
 have hc13:=bp hb13;refine Aw (Al (t_ (q_ (w_ (f_ (h:=l_ (h:=Ao (h:=e_ (?_)))))))));refine A9 rfl (fun hb14=>?_) (fun hb14=>?_)
 ·have hc14:=bp hb14;refine w_ (a_ (h:=a_ (h:=e_ (A4 (A7 (?_))))));refine A8 ?_
  first|(exfalso;first|contradiction|omega)|(exact NumP.mk (by unfold Bc;(repeat' split)<;>(first|omega|(simp[*];done)|(simp;omega)|(simp at *;omega))) (fun hq=>by first|(unfold Cd;simp[*];done)|(unfold Bc at hq;simp[*]at hq;omega)|(unfold Bc at hq;simp[*]at hq)))
 have hc14:=bp hb14;refine AE (w_ (m_ (h:=l_ (h:=l_ (h:=?_)))));refine A6 rfl (AJ (Vn f c k y (by omega) (by omega)) ?_);rintro r rfl;refine x_ (h:=x_ (h:=a_ (h:=a_ (h:=e_ (A4 (?_))))));refine A8 ?_
 first|(exfalso;first|contradiction|omega)|(exact NumP.mk (by unfold Bc;(repeat' split)<;>(first|omega|(simp[*];done)|(simp;omega)|(simp at *;omega))) (fun hq=>by first|(unfold Cd;simp[*];done)|(unfold Bc at hq;simp[*]at hq;omega)|(unfold Bc at hq;simp[*]at hq)))
end
theorem RV(s:AG):s=⟨#[]⟩↔s.size=0:=by
 constructor
 ·intro h;rw[h];rfl
 intro h
 cases s with
 |mk a=>
   have:a=#[]:=Array.eq_empty_of_size_eq_zero h;rw[this]
section
theorem RW(t:Tst)(list:Int):AFn prog 159 [.agg (CF t), .v (.int .i64 list)] (fun r=>r= .v (.int .i64 (BQ t list))):=by
 have hz:=RV t.text;refine enter Tryz.func159 rfl rfl rfl rfl rfl 0 rfl ?_;refine w_ (b_ (h:=a_ (h:=e_ (q_ (w_ (m_ (h:=f_ (h:=l_ (h:=?_)))))))));refine A6 rfl (AJ (RR _ _) ?_);rintro r rfl;refine BB (h:=e_ (?_));refine A9 rfl (fun hb1=>?_) (fun hb1=>?_)
 ·have hc1:=bp hb1;refine w_ (a_ (h:=e_ (A4 (A7 (?_)))));refine A8 ?_
  first|(exfalso;first|contradiction|omega)|(exact vi (by unfold BQ;grind))
 have hc1:=bp hb1;refine AE (q_ (w_ (f_ (h:=l_ (h:=Ao (h:=m_ (h:=?_)))))));refine AR true rfl rfl (fun hb2=>?_) (fun hb2=>?_)
 ·have hc2:=bp hb2;refine m_ (h:=f_ (h:=l_ (h:=?_)));refine Av (AJ (RR _ _) ?_);rintro r rfl;refine BB (h:=m_ (h:=?_));refine AR false rfl rfl (fun hb3=>?_) (fun hb3=>?_)
  ·have hc3:=bp hb3;refine A3 (h:=A3 (h:=A3 (h:=A3 (h:=AB (h:=m_ (h:=A3 (h:=A3 (h:=A3 (h:=A3 (h:=AB (h:=AB (h:=e_ (B2 (h:=w_ (a_ (h:=e_ (A4 (A7 (?_)))))))))))))))))));refine A8 ?_
   first|(exfalso;first|contradiction|omega)|(exact vi (by unfold BQ;grind))
  have hc3:=bp hb3;refine f_ (h:=l_ (h:=?_));refine Av (AJ (RP _) ?_);rintro r rfl;refine BB (h:=AF (h:=m_ (h:=?_)));refine AR false rfl rfl (fun hb4=>?_) (fun hb4=>?_)
  ·have hc4:=bp hb4;refine A3 (h:=A3 (h:=A3 (h:=A3 (h:=AB (h:=AB (h:=e_ (B2 (h:=w_ (a_ (h:=e_ (A4 (A7 (?_)))))))))))));refine A8 ?_
   first|(exfalso;first|contradiction|omega)|(exact vi (by unfold BQ;grind))
  have hc4:=bp hb4;refine f_ (h:=l_ (h:=?_));refine Av (AJ (RP _) ?_);rintro r rfl;refine BB (h:=AF (h:=AB (h:=e_ (?_))));refine A9 rfl (fun hb5=>?_) (fun hb5=>?_)
  ·have hc5:=bp hb5;refine w_ (a_ (h:=e_ (A4 (A7 (?_)))));refine A8 ?_
   first|(exfalso;first|contradiction|omega)|(exact vi (by unfold BQ;grind))
  have hc5:=bp hb5;refine AE (q_ (w_ (f_ (h:=l_ (h:=B1 (h:=m_ (h:=?_)))))));refine AR false rfl rfl (fun hb6=>?_) (fun hb6=>?_)
  ·have hc6:=bp hb6;refine A3 (h:=A3 (h:=A3 (h:=AB (h:=e_ (B2 (h:=w_ (a_ (h:=e_ (A4 (A7 (?_)))))))))));refine A8 ?_
   first|(exfalso;first|contradiction|omega)|(exact vi (by unfold BQ;grind))
  have hc6:=bp hb6;refine f_ (h:=l_ (h:=Bb (h:=AF (h:=e_ (?_)))));refine A9 rfl (fun hb7=>?_) (fun hb7=>?_)
  ·have hc7:=bp hb7;refine w_ (a_ (h:=e_ (A4 (A7 (?_)))));refine A8 ?_
   first|(exfalso;first|contradiction|omega)|(exact vi (by unfold BQ;grind))
  have hc7:=bp hb7;refine AE (q_ (w_ (f_ (h:=l_ (h:=Ao (h:=m_ (h:=?_)))))));refine AR true rfl rfl (fun hb8=>?_) (fun hb8=>?_)
  ·have hc8:=bp hb8;refine f_ (h:=l_ (h:=Ao (h:=AB (h:=m_ (h:=?_)))));refine AR true rfl rfl (fun hb9=>?_) (fun hb9=>?_)
   ·have hc9:=bp hb9;refine f_ (h:=l_ (h:=?_));refine Av (AJ (ET _) ?_);rintro r rfl;refine m_ (h:=?_);refine AR false rfl rfl (fun hb10=>?_) (fun hb10=>?_)
    ·have hc10:=bp hb10;refine A3 (h:=A3 (h:=A3 (h:=AB (h:=AB (h:=e_ (B2 (h:=w_ (a_ (h:=e_ (A4 (A7 (?_))))))))))));refine A8 ?_
     first|(exfalso;first|contradiction|omega)|(exact vi (by unfold BQ;grind))
    have hc10:=bp hb10;refine f_ (h:=l_ (h:=Ao (h:=AF (h:=AB (h:=e_ (B2 (h:=w_ (a_ (h:=e_ (A4 (A7 (?_))))))))))));refine A8 ?_
    first|(exfalso;first|contradiction|omega)|(exact vi (by unfold BQ;grind))
   have hc9:=bp hb9;refine A3 (h:=A3 (h:=A3 (h:=A3 (h:=AU (h:=AU (h:=AU (h:=A3 (h:=AF (h:=e_ (Be (h:=AE (q_ (Af (w_ (f_ (h:=l_ (h:=Ao (h:=m_ (h:=f_ (h:=l_ (h:=Ao (h:=m_ (h:=?_)))))))))))))))))))))));refine AR false rfl rfl (fun hb11=>?_) (fun hb11=>?_)
   ·have hc11:=bp hb11;refine A3 (h:=A3 (h:=A3 (h:=AB (h:=AB (h:=a_ (h:=e_ (B2 (h:=w_ (a_ (h:=e_ (A4 (AP (A7 (?_))))))))))))));refine A8 ?_
    first|(exfalso;first|contradiction|omega)|(exact vi (by unfold BQ;grind))
   have hc11:=bp hb11;refine f_ (h:=l_ (h:=Ao (h:=AF (h:=AB (h:=a_ (h:=e_ (?_)))))));refine A9 rfl (fun hb12=>?_) (fun hb12=>?_)
   ·have hc12:=bp hb12;refine w_ (a_ (h:=e_ (A4 (AP (A7 (?_))))));refine A8 ?_
    first|(exfalso;first|contradiction|omega)|(exact vi (by unfold BQ;grind))
   have hc12:=bp hb12;refine w_ (f_ (h:=l_ (h:=?_)));refine A6 rfl (AJ (ET _) ?_);rintro r rfl;refine m_ (h:=?_);refine AR true rfl rfl (fun hb13=>?_) (fun hb13=>?_)
   ·have hc13:=bp hb13;refine f_ (h:=l_ (h:=Ao (h:=m_ (h:=f_ (h:=l_ (h:=AN (h:=AF (h:=m_ (h:=A3 (h:=A3 (h:=A3 (h:=A3 (h:=AB (h:=AB (h:=a_ (h:=e_ (B2 (h:=w_ (a_ (h:=e_ (A4 (AP (A7 (?_))))))))))))))))))))))));refine A8 ?_
    first|(exfalso;first|contradiction|omega)|(exact vi (by unfold BQ;grind))
   have hc13:=bp hb13;refine A3 (h:=A3 (h:=A3 (h:=A3 (h:=AU (h:=AU (h:=AU (h:=A3 (h:=A3 (h:=AU (h:=AU (h:=AU (h:=AU (h:=A3 (h:=AF (h:=a_ (h:=e_ (Be (h:=w_ (f_ (h:=l_ (h:=?_)))))))))))))))))))));refine A6 rfl (AJ (ET _) ?_);rintro r rfl;refine BB (h:=m_ (h:=f_ (h:=l_ (h:=Ao (h:=AB (h:=a_ (h:=e_ (Be (h:=Aw (Al (t_ (w_ (a_ (h:=e_ (A4 (?_))))))))))))))));refine A8 ?_
   first|(exfalso;first|contradiction|omega)|(exact vi (by unfold BQ;grind))
  have hc8:=bp hb8;refine A3 (h:=A3 (h:=A3 (h:=AF (h:=m_ (h:=A3 (h:=A3 (h:=A3 (h:=A3 (h:=AU (h:=AU (h:=AU (h:=A3 (h:=AF (h:=e_ (Be (h:=AE (q_ (Af (w_ (f_ (h:=l_ (h:=Ao (h:=m_ (h:=?_))))))))))))))))))))))));refine f_ (h:=l_ (h:=Ao (h:=m_ (h:=?_))));refine AR false rfl rfl (fun hb14=>?_) (fun hb14=>?_)
  ·have hc14:=bp hb14;refine A3 (h:=A3 (h:=A3 (h:=AB (h:=AB (h:=a_ (h:=e_ (B2 (h:=w_ (a_ (h:=e_ (A4 (AP (A7 (?_))))))))))))));refine A8 ?_
   first|(exfalso;first|contradiction|omega)|(exact vi (by unfold BQ;grind))
  have hc14:=bp hb14;refine f_ (h:=l_ (h:=Ao (h:=AF (h:=AB (h:=a_ (h:=e_ (?_)))))));refine A9 rfl (fun hb15=>?_) (fun hb15=>?_)
  ·have hc15:=bp hb15;refine w_ (a_ (h:=e_ (A4 (AP (A7 (?_))))));refine A8 ?_
   first|(exfalso;first|contradiction|omega)|(exact vi (by unfold BQ;grind))
  have hc15:=bp hb15;refine w_ (f_ (h:=l_ (h:=?_)));refine A6 rfl (AJ (ET _) ?_);rintro r rfl;refine m_ (h:=?_);refine AR true rfl rfl (fun hb16=>?_) (fun hb16=>?_)
  ·have hc16:=bp hb16;refine f_ (h:=l_ (h:=Ao (h:=m_ (h:=f_ (h:=l_ (h:=AN (h:=AF (h:=m_ (h:=A3 (h:=A3 (h:=A3 (h:=A3 (h:=AB (h:=AB (h:=a_ (h:=e_ (B2 (h:=w_ (a_ (h:=e_ (A4 (AP (A7 (?_))))))))))))))))))))))));refine A8 ?_
   first|(exfalso;first|contradiction|omega)|(exact vi (by unfold BQ;grind))
  have hc16:=bp hb16;refine A3 (h:=A3 (h:=A3 (h:=A3 (h:=AU (h:=AU (h:=AU (h:=A3 (h:=A3 (h:=AU (h:=AU (h:=AU (h:=AU (h:=A3 (h:=AF (h:=a_ (h:=e_ (Be (h:=w_ (f_ (h:=l_ (h:=?_)))))))))))))))))))));refine A6 rfl (AJ (ET _) ?_);rintro r rfl;refine BB (h:=m_ (h:=f_ (h:=l_ (h:=Ao (h:=AB (h:=a_ (h:=e_ (Be (h:=Aw (Al (t_ (w_ (a_ (h:=e_ (A4 (?_))))))))))))))));refine A8 ?_
  first|(exfalso;first|contradiction|omega)|(exact vi (by unfold BQ;grind))
 have hc2:=bp hb2;refine A3 (h:=A3 (h:=A3 (h:=A3 (h:=A3 (h:=A3 (h:=AU (h:=AU (h:=AU (h:=AU (h:=A3 (h:=A3 (h:=AU (h:=AU (h:=AU (h:=AU (h:=A3 (h:=AF (h:=e_ (Be (h:=AE (q_ (w_ (f_ (h:=?_))))))))))))))))))))))));refine l_ (h:=B1 (h:=m_ (h:=?_)));refine AR false rfl rfl (fun hb17=>?_) (fun hb17=>?_)
 ·have hc17:=bp hb17;refine A3 (h:=A3 (h:=A3 (h:=AB (h:=e_ (B2 (h:=w_ (a_ (h:=e_ (A4 (A7 (?_)))))))))));refine A8 ?_
  first|(exfalso;first|contradiction|omega)|(exact vi (by unfold BQ;grind))
 have hc17:=bp hb17;refine f_ (h:=l_ (h:=Bb (h:=AF (h:=e_ (?_)))));refine A9 rfl (fun hb18=>?_) (fun hb18=>?_)
 ·have hc18:=bp hb18;refine w_ (a_ (h:=e_ (A4 (A7 (?_)))));refine A8 ?_
  first|(exfalso;first|contradiction|omega)|(exact vi (by unfold BQ;grind))
 have hc18:=bp hb18;refine AE (q_ (w_ (f_ (h:=l_ (h:=Ao (h:=m_ (h:=?_)))))));refine AR true rfl rfl (fun hb19=>?_) (fun hb19=>?_)
 ·have hc19:=bp hb19;refine f_ (h:=l_ (h:=Ao (h:=AB (h:=m_ (h:=?_)))));refine AR true rfl rfl (fun hb20=>?_) (fun hb20=>?_)
  ·have hc20:=bp hb20;refine f_ (h:=l_ (h:=?_));refine Av (AJ (ET _) ?_);rintro r rfl;refine m_ (h:=?_);refine AR false rfl rfl (fun hb21=>?_) (fun hb21=>?_)
   ·have hc21:=bp hb21;refine A3 (h:=A3 (h:=A3 (h:=AB (h:=AB (h:=e_ (B2 (h:=w_ (a_ (h:=e_ (A4 (A7 (?_))))))))))));refine A8 ?_
    first|(exfalso;first|contradiction|omega)|(exact vi (by unfold BQ;grind))
   have hc21:=bp hb21;refine f_ (h:=l_ (h:=Ao (h:=AF (h:=AB (h:=e_ (Be (h:=AE (q_ (Af (w_ (f_ (h:=l_ (h:=Ao (h:=m_ (h:=A3 (h:=A3 (h:=A3 (h:=A3 (h:=AU (h:=AU (h:=AU (h:=A3 (h:=AF (h:=?_))))))))))))))))))))))));refine a_ (h:=e_ (Be (h:=w_ (f_ (h:=l_ (h:=?_))))));refine A6 rfl (AJ (ET _) ?_);rintro r rfl;refine m_ (h:=A3 (h:=A3 (h:=A3 (h:=A3 (h:=AU (h:=AU (h:=AU (h:=A3 (h:=A3 (h:=AU (h:=AU (h:=AU (h:=AU (h:=A3 (h:=AF (h:=a_ (h:=e_ (Be (h:=w_ (f_ (h:=l_ (h:=?_))))))))))))))))))))));refine A6 rfl (AJ (ET _) ?_);rintro r rfl;refine BB (h:=m_ (h:=f_ (h:=l_ (h:=Ao (h:=AB (h:=a_ (h:=e_ (?_))))))));refine A9 rfl (fun hb22=>?_) (fun hb22=>?_)
   ·have hc22:=bp hb22;refine w_ (a_ (h:=e_ (A4 (AP (A7 (?_))))));refine A8 ?_
    first|(exfalso;first|contradiction|omega)|(exact vi (by unfold BQ;grind))
   have hc22:=bp hb22;refine Aw (Al (t_ (w_ (a_ (h:=e_ (A4 (?_)))))));refine A8 ?_
   first|(exfalso;first|contradiction|omega)|(exact vi (by unfold BQ;grind))
  have hc20:=bp hb20;refine A3 (h:=A3 (h:=A3 (h:=A3 (h:=AU (h:=AU (h:=AU (h:=A3 (h:=AF (h:=e_ (Be (h:=AE (q_ (Af (w_ (f_ (h:=l_ (h:=Ao (h:=m_ (h:=A3 (h:=A3 (h:=A3 (h:=A3 (h:=AU (h:=?_))))))))))))))))))))))));refine AU (h:=AU (h:=A3 (h:=AF (h:=a_ (h:=e_ (Be (h:=w_ (f_ (h:=l_ (h:=?_))))))))));refine A6 rfl (AJ (ET _) ?_);rintro r rfl;refine m_ (h:=?_);refine AR true rfl rfl (fun hb23=>?_) (fun hb23=>?_)
  ·have hc23:=bp hb23;refine f_ (h:=l_ (h:=Ao (h:=m_ (h:=?_))));refine AR false rfl rfl (fun hb24=>?_) (fun hb24=>?_)
   ·have hc24:=bp hb24;refine A3 (h:=A3 (h:=A3 (h:=AB (h:=m_ (h:=A3 (h:=A3 (h:=A3 (h:=A3 (h:=AB (h:=AB (h:=a_ (h:=e_ (B2 (h:=w_ (a_ (h:=e_ (A4 (AP (A7 (?_))))))))))))))))))));refine A8 ?_
    first|(exfalso;first|contradiction|omega)|(exact vi (by unfold BQ;grind))
   have hc24:=bp hb24;refine f_ (h:=l_ (h:=AN (h:=AF (h:=m_ (h:=?_)))));refine AR false rfl rfl (fun hb25=>?_) (fun hb25=>?_)
   ·have hc25:=bp hb25;refine A3 (h:=A3 (h:=A3 (h:=A3 (h:=AB (h:=AB (h:=a_ (h:=e_ (B2 (h:=w_ (a_ (h:=e_ (A4 (AP (A7 (?_)))))))))))))));refine A8 ?_
    first|(exfalso;first|contradiction|omega)|(exact vi (by unfold BQ;grind))
   have hc25:=bp hb25;refine f_ (h:=l_ (h:=n_ (h:=Bb (h:=AF (h:=AB (h:=a_ (h:=e_ (?_))))))));refine A9 rfl (fun hb26=>?_) (fun hb26=>?_)
   ·have hc26:=bp hb26;refine w_ (a_ (h:=e_ (A4 (AP (A7 (?_))))));refine A8 ?_
    first|(exfalso;first|contradiction|omega)|(exact vi (by unfold BQ;grind))
   have hc26:=bp hb26;refine w_ (f_ (h:=l_ (h:=?_)));refine A6 rfl (AJ (ET _) ?_);rintro r rfl;refine BB (h:=m_ (h:=A3 (h:=A3 (h:=A3 (h:=AF (h:=a_ (h:=e_ (Be (h:=Aw (Al (t_ (w_ (a_ (h:=e_ (A4 (?_))))))))))))))));refine A8 ?_
   first|(exfalso;first|contradiction|omega)|(exact vi (by unfold BQ;grind))
  have hc23:=bp hb23;refine A3 (h:=A3 (h:=A3 (h:=A3 (h:=AU (h:=AU (h:=AU (h:=A3 (h:=A3 (h:=AU (h:=AU (h:=AU (h:=AU (h:=A3 (h:=AF (h:=a_ (h:=e_ (Be (h:=w_ (f_ (h:=l_ (h:=?_)))))))))))))))))))));refine A6 rfl (AJ (ET _) ?_);rintro r rfl;refine BB (h:=m_ (h:=f_ (h:=l_ (h:=Ao (h:=AB (h:=a_ (h:=e_ (?_))))))));refine A9 rfl (fun hb27=>?_) (fun hb27=>?_)
  ·have hc27:=bp hb27;refine w_ (a_ (h:=e_ (A4 (AP (A7 (?_))))));refine A8 ?_
   first|(exfalso;first|contradiction|omega)|(exact vi (by unfold BQ;grind))
  have hc27:=bp hb27;refine Aw (Al (t_ (w_ (a_ (h:=e_ (A4 (?_)))))));refine A8 ?_
  first|(exfalso;first|contradiction|omega)|(exact vi (by unfold BQ;grind))
 have hc19:=bp hb19;refine A3 (h:=A3 (h:=A3 (h:=AF (h:=m_ (h:=A3 (h:=A3 (h:=A3 (h:=A3 (h:=AU (h:=AU (h:=AU (h:=A3 (h:=AF (h:=e_ (Be (h:=AE (q_ (Af (w_ (f_ (h:=l_ (h:=Ao (h:=m_ (h:=?_))))))))))))))))))))))));refine A3 (h:=A3 (h:=A3 (h:=A3 (h:=AU (h:=AU (h:=AU (h:=A3 (h:=AF (h:=a_ (h:=e_ (Be (h:=w_ (f_ (h:=l_ (h:=?_)))))))))))))));refine A6 rfl (AJ (ET _) ?_);rintro r rfl;refine m_ (h:=?_);refine AR true rfl rfl (fun hb28=>?_) (fun hb28=>?_)
 ·have hc28:=bp hb28;refine f_ (h:=l_ (h:=Ao (h:=m_ (h:=?_))));refine AR false rfl rfl (fun hb29=>?_) (fun hb29=>?_)
  ·have hc29:=bp hb29;refine A3 (h:=A3 (h:=A3 (h:=AB (h:=m_ (h:=A3 (h:=A3 (h:=A3 (h:=A3 (h:=AB (h:=AB (h:=a_ (h:=e_ (B2 (h:=w_ (a_ (h:=e_ (A4 (AP (A7 (?_))))))))))))))))))));refine A8 ?_
   first|(exfalso;first|contradiction|omega)|(exact vi (by unfold BQ;grind))
  have hc29:=bp hb29;refine f_ (h:=l_ (h:=AN (h:=AF (h:=m_ (h:=?_)))));refine AR false rfl rfl (fun hb30=>?_) (fun hb30=>?_)
  ·have hc30:=bp hb30;refine A3 (h:=A3 (h:=A3 (h:=A3 (h:=AB (h:=AB (h:=a_ (h:=e_ (B2 (h:=w_ (a_ (h:=e_ (A4 (AP (A7 (?_)))))))))))))));refine A8 ?_
   first|(exfalso;first|contradiction|omega)|(exact vi (by unfold BQ;grind))
  have hc30:=bp hb30;refine f_ (h:=l_ (h:=n_ (h:=Bb (h:=AF (h:=AB (h:=a_ (h:=e_ (?_))))))));refine A9 rfl (fun hb31=>?_) (fun hb31=>?_)
  ·have hc31:=bp hb31;refine w_ (a_ (h:=e_ (A4 (AP (A7 (?_))))));refine A8 ?_
   first|(exfalso;first|contradiction|omega)|(exact vi (by unfold BQ;grind))
  have hc31:=bp hb31;refine w_ (f_ (h:=l_ (h:=?_)));refine A6 rfl (AJ (ET _) ?_);rintro r rfl;refine BB (h:=m_ (h:=A3 (h:=A3 (h:=A3 (h:=AF (h:=a_ (h:=e_ (Be (h:=Aw (Al (t_ (w_ (a_ (h:=e_ (A4 (?_))))))))))))))));refine A8 ?_
  first|(exfalso;first|contradiction|omega)|(exact vi (by unfold BQ;grind))
 have hc28:=bp hb28;refine A3 (h:=A3 (h:=A3 (h:=A3 (h:=AU (h:=AU (h:=AU (h:=A3 (h:=A3 (h:=AU (h:=AU (h:=AU (h:=AU (h:=A3 (h:=AF (h:=a_ (h:=e_ (Be (h:=w_ (f_ (h:=l_ (h:=?_)))))))))))))))))))));refine A6 rfl (AJ (ET _) ?_);rintro r rfl;refine BB (h:=m_ (h:=f_ (h:=l_ (h:=Ao (h:=AB (h:=a_ (h:=e_ (?_))))))));refine A9 rfl (fun hb32=>?_) (fun hb32=>?_)
 ·have hc32:=bp hb32;refine w_ (a_ (h:=e_ (A4 (AP (A7 (?_))))));refine A8 ?_
  first|(exfalso;first|contradiction|omega)|(exact vi (by unfold BQ;grind))
 have hc32:=bp hb32;refine Aw (Al (t_ (w_ (a_ (h:=e_ (A4 (?_)))))));refine A8 ?_
 first|(exfalso;first|contradiction|omega)|(exact vi (by unfold BQ;grind))
theorem Vo(t:Tst)(list:Int):AFn prog 155 [.agg (CF t), .v (.int .i64 list)] (fun r=>r= .v (.int .i64 (BQ t list))):=by
 have hz:=RV t.text;have ho:D0 t.fld=true→DA t.fld=false:=by unfold D0 DA;simp;omega
 refine enter Tryz.func155 rfl rfl rfl rfl rfl 0 rfl ?_;refine w_ (b_ (h:=a_ (h:=e_ (q_ (w_ (m_ (h:=f_ (h:=l_ (h:=?_)))))))));refine A6 rfl (AJ (RS _ _) ?_);rintro r rfl;refine BB (h:=m_ (h:=?_));refine AR false rfl rfl (fun hb1=>?_) (fun hb1=>?_)
 ·have hc1:=bp hb1;refine A3 (h:=A3 (h:=A3 (h:=A3 (h:=AU (h:=AU (h:=AU (h:=AU (h:=AU (h:=AU (h:=AU (h:=AU (h:=AU (h:=AU (h:=AU (h:=AU (h:=AU (h:=AU (h:=AU (h:=AU (h:=AU (h:=A3 (h:=AB (h:=e_ (?_))))))))))))))))))))))));refine B2 (h:=w_ (a_ (h:=e_ (A4 (A7 (?_))))));refine A8 ?_
  first|(exfalso;first|contradiction|omega)|(exact vi (by unfold BQ;grind))
 have hc1:=bp hb1;refine f_ (h:=l_ (h:=Ao (h:=m_ (h:=?_))));refine AR true rfl rfl (fun hb2=>?_) (fun hb2=>?_)
 ·have hc2:=bp hb2;refine m_ (h:=f_ (h:=l_ (h:=?_)));refine Av (AJ (RS _ _) ?_);rintro r rfl;refine BB (h:=m_ (h:=?_));refine AR false rfl rfl (fun hb3=>?_) (fun hb3=>?_)
  ·have hc3:=bp hb3;refine A3 (h:=A3 (h:=A3 (h:=A3 (h:=AB (h:=m_ (h:=A3 (h:=A3 (h:=A3 (h:=A3 (h:=AB (h:=AB (h:=AF (h:=e_ (B2 (h:=w_ (a_ (h:=e_ (A4 (A7 (?_))))))))))))))))))));refine A8 ?_
   first|(exfalso;first|contradiction|omega)|(exact vi (by unfold BQ;grind))
  have hc3:=bp hb3;refine f_ (h:=l_ (h:=?_));refine Av (AJ (RQ _) ?_);rintro r rfl;refine BB (h:=AF (h:=m_ (h:=?_)));refine AR false rfl rfl (fun hb4=>?_) (fun hb4=>?_)
  ·have hc4:=bp hb4;refine A3 (h:=A3 (h:=A3 (h:=A3 (h:=AB (h:=AB (h:=AF (h:=e_ (B2 (h:=w_ (a_ (h:=e_ (A4 (A7 (?_))))))))))))));refine A8 ?_
   first|(exfalso;first|contradiction|omega)|(exact vi (by unfold BQ;grind))
  have hc4:=bp hb4;refine f_ (h:=l_ (h:=?_));refine Av (AJ (RQ _) ?_);rintro r rfl;refine BB (h:=AF (h:=AB (h:=AF (h:=e_ (?_)))));refine A9 rfl (fun hb5=>?_) (fun hb5=>?_)
  ·have hc5:=bp hb5;refine w_ (a_ (h:=e_ (A4 (A7 (?_)))));refine A8 ?_
   first|(exfalso;first|contradiction|omega)|(exact vi (by unfold BQ;grind))
  have hc5:=bp hb5;refine AE (q_ (w_ (f_ (h:=l_ (h:=B1 (h:=m_ (h:=?_)))))));refine AR false rfl rfl (fun hb6=>?_) (fun hb6=>?_)
  ·have hc6:=bp hb6;refine A3 (h:=A3 (h:=A3 (h:=AB (h:=m_ (h:=A3 (h:=A3 (h:=A3 (h:=A3 (h:=AU (h:=AU (h:=AU (h:=AU (h:=AU (h:=AU (h:=AU (h:=AU (h:=A3 (h:=AB (h:=e_ (B2 (h:=w_ (a_ (h:=e_ (?_))))))))))))))))))))))));refine A4 (A7 (?_));refine A8 ?_
   first|(exfalso;first|contradiction|omega)|(exact vi (by unfold BQ;grind))
  have hc6:=bp hb6;refine f_ (h:=l_ (h:=Bb (h:=AF (h:=m_ (h:=?_)))));refine AR false rfl rfl (fun hb7=>?_) (fun hb7=>?_)
  ·have hc7:=bp hb7;refine A3 (h:=A3 (h:=A3 (h:=A3 (h:=AU (h:=AU (h:=AU (h:=AU (h:=AU (h:=AU (h:=AU (h:=AU (h:=A3 (h:=AB (h:=e_ (B2 (h:=w_ (a_ (h:=e_ (A4 (A7 (?_)))))))))))))))))))));refine A8 ?_
   first|(exfalso;first|contradiction|omega)|(exact vi (by unfold BQ;grind))
  have hc7:=bp hb7;refine f_ (h:=l_ (h:=Bb (h:=m_ (h:=?_))));refine AR true rfl rfl (fun hb8=>?_) (fun hb8=>?_)
  ·have hc8:=bp hb8;refine f_ (h:=l_ (h:=?_));refine Av (AJ (Gz _) ?_);rintro r rfl;refine m_ (h:=?_);refine AR false rfl rfl (fun hb9=>?_) (fun hb9=>?_)
   ·have hc9:=bp hb9;refine A3 (h:=A3 (h:=A3 (h:=AB (h:=AB (h:=AF (h:=e_ (B2 (h:=w_ (a_ (h:=e_ (A4 (A7 (?_)))))))))))));refine A8 ?_
    first|(exfalso;first|contradiction|omega)|(exact vi (by unfold BQ;grind))
   have hc9:=bp hb9;refine f_ (h:=l_ (h:=Ao (h:=AF (h:=AB (h:=AF (h:=e_ (B2 (h:=w_ (a_ (h:=e_ (A4 (A7 (?_)))))))))))));refine A8 ?_
   first|(exfalso;first|contradiction|omega)|(exact vi (by unfold BQ;grind))
  have hc8:=bp hb8;refine A3 (h:=A3 (h:=A3 (h:=A3 (h:=AU (h:=AU (h:=AU (h:=A3 (h:=AF (h:=AF (h:=e_ (Be (h:=AE (q_ (w_ (f_ (h:=l_ (h:=Ao (h:=m_ (h:=f_ (h:=l_ (h:=Ao (h:=m_ (h:=?_)))))))))))))))))))))));refine AR false rfl rfl (fun hb10=>?_) (fun hb10=>?_)
  ·have hc10:=bp hb10;refine A3 (h:=A3 (h:=A3 (h:=AB (h:=AB (h:=e_ (B2 (h:=w_ (a_ (h:=e_ (A4 (A7 (?_))))))))))));refine A8 ?_
   first|(exfalso;first|contradiction|omega)|(exact vi (by unfold BQ;grind))
  have hc10:=bp hb10;refine f_ (h:=l_ (h:=Ao (h:=AF (h:=AB (h:=e_ (?_))))));refine A9 rfl (fun hb11=>?_) (fun hb11=>?_)
  ·have hc11:=bp hb11;refine w_ (a_ (h:=e_ (A4 (A7 (?_)))));refine A8 ?_
   first|(exfalso;first|contradiction|omega)|(exact vi (by unfold BQ;grind))
  have hc11:=bp hb11;refine AE (q_ (w_ (f_ (h:=l_ (h:=AN (h:=m_ (h:=A3 (h:=A3 (h:=A3 (h:=AF (h:=m_ (h:=A3 (h:=A3 (h:=A3 (h:=A3 (h:=AU (h:=AU (h:=AU (h:=A3 (h:=A3 (h:=AU (h:=AU (h:=AU (h:=?_))))))))))))))))))))))));refine AU (h:=A3 (h:=AF (h:=m_ (h:=f_ (h:=l_ (h:=?_))))));refine Av (AJ (Gz _) ?_);rintro r rfl;refine BB (h:=m_ (h:=?_));refine AR true rfl rfl (fun hb12=>?_) (fun hb12=>?_)
  ·have hc12:=bp hb12;refine f_ (h:=l_ (h:=Ao (h:=AB (h:=AF (h:=e_ (Be (h:=AE (w_ (a_ (h:=e_ (A4 (?_))))))))))));refine A8 ?_
   first|(exfalso;first|contradiction|omega)|(exact vi (by unfold BQ;grind))
  have hc12:=bp hb12;refine A3 (h:=A3 (h:=A3 (h:=AF (h:=AF (h:=e_ (Be (h:=AE (w_ (a_ (h:=e_ (A4 (?_))))))))))));refine A8 ?_
  first|(exfalso;first|contradiction|omega)|(exact vi (by unfold BQ;grind))
 have hc2:=bp hb2;refine A3 (h:=A3 (h:=A3 (h:=A3 (h:=A3 (h:=A3 (h:=AU (h:=AU (h:=AU (h:=AU (h:=A3 (h:=A3 (h:=AU (h:=AU (h:=AU (h:=AU (h:=A3 (h:=AF (h:=AF (h:=e_ (Be (h:=AE (q_ (w_ (?_))))))))))))))))))))))));refine f_ (h:=l_ (h:=B1 (h:=m_ (h:=?_))));refine AR false rfl rfl (fun hb13=>?_) (fun hb13=>?_)
 ·have hc13:=bp hb13;refine A3 (h:=A3 (h:=A3 (h:=AB (h:=m_ (h:=A3 (h:=A3 (h:=A3 (h:=A3 (h:=AU (h:=AU (h:=AU (h:=AU (h:=AU (h:=AU (h:=AU (h:=AU (h:=A3 (h:=AB (h:=e_ (B2 (h:=w_ (a_ (h:=e_ (?_))))))))))))))))))))))));refine A4 (A7 (?_));refine A8 ?_
  first|(exfalso;first|contradiction|omega)|(exact vi (by unfold BQ;grind))
 have hc13:=bp hb13;refine f_ (h:=l_ (h:=Bb (h:=AF (h:=m_ (h:=?_)))));refine AR false rfl rfl (fun hb14=>?_) (fun hb14=>?_)
 ·have hc14:=bp hb14;refine A3 (h:=A3 (h:=A3 (h:=A3 (h:=AU (h:=AU (h:=AU (h:=AU (h:=AU (h:=AU (h:=AU (h:=AU (h:=A3 (h:=AB (h:=e_ (B2 (h:=w_ (a_ (h:=e_ (A4 (A7 (?_)))))))))))))))))))));refine A8 ?_
  first|(exfalso;first|contradiction|omega)|(exact vi (by unfold BQ;grind))
 have hc14:=bp hb14;refine f_ (h:=l_ (h:=Bb (h:=m_ (h:=?_))));refine AR true rfl rfl (fun hb15=>?_) (fun hb15=>?_)
 ·have hc15:=bp hb15;refine f_ (h:=l_ (h:=?_));refine Av (AJ (Gz _) ?_);rintro r rfl;refine m_ (h:=?_);refine AR false rfl rfl (fun hb16=>?_) (fun hb16=>?_)
  ·have hc16:=bp hb16;refine A3 (h:=A3 (h:=A3 (h:=AB (h:=AB (h:=AF (h:=e_ (B2 (h:=w_ (a_ (h:=e_ (A4 (A7 (?_)))))))))))));refine A8 ?_
   first|(exfalso;first|contradiction|omega)|(exact vi (by unfold BQ;grind))
  have hc16:=bp hb16;refine f_ (h:=l_ (h:=Ao (h:=AF (h:=AB (h:=AF (h:=e_ (Be (h:=AE (q_ (w_ (f_ (h:=l_ (h:=Ao (h:=m_ (h:=A3 (h:=A3 (h:=A3 (h:=A3 (h:=AU (h:=AU (h:=AU (h:=A3 (h:=AF (h:=?_))))))))))))))))))))))));refine e_ (Be (h:=AE (q_ (w_ (f_ (h:=l_ (h:=AN (h:=m_ (h:=f_ (h:=l_ (h:=?_)))))))))));refine Av (AJ (Gz _) ?_);rintro r rfl;refine AB (h:=m_ (h:=A3 (h:=A3 (h:=A3 (h:=A3 (h:=AU (h:=AU (h:=AU (h:=A3 (h:=A3 (h:=AU (h:=AU (h:=AU (h:=AU (h:=A3 (h:=AF (h:=m_ (h:=f_ (h:=l_ (h:=?_))))))))))))))))))));refine Av (AJ (Gz _) ?_);rintro r rfl;refine BB (h:=m_ (h:=f_ (h:=l_ (h:=Ao (h:=AB (h:=AF (h:=e_ (?_))))))));refine A9 rfl (fun hb17=>?_) (fun hb17=>?_)
  ·have hc17:=bp hb17;refine w_ (a_ (h:=e_ (A4 (A7 (?_)))));refine A8 ?_
   first|(exfalso;first|contradiction|omega)|(exact vi (by unfold BQ;grind))
  have hc17:=bp hb17;refine AE (w_ (a_ (h:=e_ (A4 (?_)))));refine A8 ?_
  first|(exfalso;first|contradiction|omega)|(exact vi (by unfold BQ;grind))
 have hc15:=bp hb15;refine A3 (h:=A3 (h:=A3 (h:=A3 (h:=AU (h:=AU (h:=AU (h:=A3 (h:=AF (h:=AF (h:=e_ (Be (h:=AE (q_ (w_ (f_ (h:=l_ (h:=Ao (h:=m_ (h:=A3 (h:=A3 (h:=A3 (h:=A3 (h:=AU (h:=?_))))))))))))))))))))))));refine AU (h:=AU (h:=A3 (h:=AF (h:=e_ (Be (h:=AE (q_ (w_ (f_ (h:=l_ (h:=AN (h:=m_ (h:=f_ (h:=l_ (h:=?_)))))))))))))));refine Av (AJ (Gz _) ?_);rintro r rfl;refine AB (h:=m_ (h:=?_));refine AR true rfl rfl (fun hb18=>?_) (fun hb18=>?_)
 ·have hc18:=bp hb18;refine f_ (h:=l_ (h:=Ao (h:=m_ (h:=?_))));refine AR false rfl rfl (fun hb19=>?_) (fun hb19=>?_)
  ·have hc19:=bp hb19;refine A3 (h:=A3 (h:=A3 (h:=AB (h:=m_ (h:=A3 (h:=A3 (h:=A3 (h:=A3 (h:=AB (h:=AB (h:=m_ (h:=A3 (h:=A3 (h:=A3 (h:=A3 (h:=A3 (h:=AU (h:=AU (h:=AU (h:=A3 (h:=AB (h:=e_ (B2 (h:=?_))))))))))))))))))))))));refine w_ (a_ (h:=e_ (A4 (A7 (?_)))));refine A8 ?_
   first|(exfalso;first|contradiction|omega)|(exact vi (by unfold BQ;grind))
  have hc19:=bp hb19;refine f_ (h:=l_ (h:=AN (h:=AF (h:=m_ (h:=?_)))));refine AR false rfl rfl (fun hb20=>?_) (fun hb20=>?_)
  ·have hc20:=bp hb20;refine A3 (h:=A3 (h:=A3 (h:=A3 (h:=AB (h:=AB (h:=m_ (h:=A3 (h:=A3 (h:=A3 (h:=A3 (h:=A3 (h:=AU (h:=AU (h:=AU (h:=A3 (h:=AB (h:=e_ (B2 (h:=w_ (a_ (h:=e_ (A4 (A7 (?_))))))))))))))))))))))));refine A8 ?_
   first|(exfalso;first|contradiction|omega)|(exact vi (by unfold BQ;grind))
  have hc20:=bp hb20;refine f_ (h:=l_ (h:=n_ (h:=Bb (h:=AF (h:=AB (h:=m_ (h:=?_)))))));refine AR false rfl rfl (fun hb21=>?_) (fun hb21=>?_)
  ·have hc21:=bp hb21;refine A3 (h:=A3 (h:=A3 (h:=A3 (h:=A3 (h:=AU (h:=AU (h:=AU (h:=A3 (h:=AB (h:=e_ (B2 (h:=w_ (a_ (h:=e_ (A4 (A7 (?_)))))))))))))))));refine A8 ?_
   first|(exfalso;first|contradiction|omega)|(exact vi (by unfold BQ;grind))
  have hc21:=bp hb21;refine f_ (h:=l_ (h:=?_));refine Av (AJ (Gz _) ?_);rintro r rfl;refine BB (h:=m_ (h:=A3 (h:=A3 (h:=A3 (h:=AF (h:=AF (h:=e_ (Be (h:=AE (w_ (a_ (h:=e_ (A4 (?_))))))))))))));refine A8 ?_
  first|(exfalso;first|contradiction|omega)|(exact vi (by unfold BQ;grind))
 have hc18:=bp hb18;refine A3 (h:=A3 (h:=A3 (h:=A3 (h:=AU (h:=AU (h:=AU (h:=A3 (h:=A3 (h:=AU (h:=AU (h:=AU (h:=AU (h:=A3 (h:=AF (h:=m_ (h:=f_ (h:=l_ (h:=?_))))))))))))))))));refine Av (AJ (Gz _) ?_);rintro r rfl;refine BB (h:=m_ (h:=f_ (h:=l_ (h:=Ao (h:=AB (h:=AF (h:=e_ (?_))))))));refine A9 rfl (fun hb22=>?_) (fun hb22=>?_)
 ·have hc22:=bp hb22;refine w_ (a_ (h:=e_ (A4 (A7 (?_)))));refine A8 ?_
  first|(exfalso;first|contradiction|omega)|(exact vi (by unfold BQ;grind))
 have hc22:=bp hb22;refine AE (w_ (a_ (h:=e_ (A4 (?_)))));refine A8 ?_
 first|(exfalso;first|contradiction|omega)|(exact vi (by unfold BQ;grind))
def H0(t:Tst)(c:Ctx):Bool:=decide ((if t.fld=14 then c.comm else c.exe)=t.text)==decide (t.op=1)
def JZ(t:Tst)(c:Ctx)(y:Itm):Bool:=
 if D0 t.fld=true then H0 t c else F0 t.op (Cd t.fld c y) (if t.other=0 then t.num else Cd t.other c y)
def Ee(t:Tst)(c:Ctx)(y:Itm):Bool:=
 if D0 t.fld=true then H0 t c else if Bc t.fld c=false then false else if t.other=0 then F0 t.op (Cd t.fld c y) t.num else if Bc t.other c=false then false else F0 t.op (Cd t.fld c y) (Cd t.other c y)
def RX(t:Tst):Prop:=1≤t.fld∧t.fld≤22∧(t.other=0∨1≤t.other∧t.other≤22∧D0 t.other=false)∧1≤t.op∧t.op≤8
theorem RY(t:Tst)(c:Ctx)(k:Cxs)(y:Itm)(ht:RX t):AFn prog 161 [.agg (CF t), .agg (DX c k), .agg (DW y)] (fun r=>r= .v (.bool (Ee t c y))):=by
 obtain⟨f1,f2,o1,p1,p2⟩:=ht;refine enter Tryz.func161 rfl rfl rfl rfl rfl 0 rfl ?_;refine w_ (b_ (h:=b_ (h:=b_ (h:=a_ (h:=e_ (q_ (w_ (f_ (h:=l_ (h:=?_))))))))));refine A6 rfl (AJ (ET _) ?_);rintro r rfl;refine e_ (?_);refine A9 rfl (fun hb1=>?_) (fun hb1=>?_)
 ·have hc1:=bp hb1;refine w_ (f_ (h:=f_ (h:=l_ (h:=a_ (h:=e_ (q_ (w_ (f_ (h:=l_ (h:=AN (h:=e_ (?_))))))))))));refine A9 rfl (fun hb2=>?_) (fun hb2=>?_)
  ·have hc2:=bp hb2;refine AW (f_ (h:=f_ (h:=l_ (h:=a_ (h:=e_ (w_ (m_ (h:=f_ (h:=l_ (h:=AN (h:=f_ (h:=l_ (h:=AN (h:=AN (h:=a_ (h:=e_ (A4 (A7 (?_)))))))))))))))))));refine A8 ?_
   first|(exfalso;first|contradiction|omega)|(exact vb (by unfold Ee H0;simp_all))
  have hc2:=bp hb2;refine AE (w_ (m_ (h:=f_ (h:=l_ (h:=AN (h:=f_ (h:=l_ (h:=AN (h:=AN (h:=a_ (h:=e_ (A4 (A7 (?_))))))))))))));refine A8 ?_
  first|(exfalso;first|contradiction|omega)|(exact vb (by unfold Ee H0;simp_all))
 have hc1:=bp hb1;refine AE (w_ (f_ (h:=l_ (h:=l_ (h:=l_ (h:=?_))))));refine A6 rfl (AJ (RU t.fld c k y f1 f2 hc1) ?_);rintro r ⟨n1,rfl,hn1⟩;refine m_ (h:=x_ (h:=x_ (h:=a_ (h:=a_ (h:=e_ (q_ (w_ (m_ (h:=BB (h:=e_ (?_)))))))))));refine A9 rfl (fun hb3=>?_) (fun hb3=>?_)
 ·have hc3:=bp hb3;refine w_ (a_ (h:=e_ (A4 (A7 (?_)))));refine A8 ?_
  first|(exfalso;first|contradiction|omega)|(exact vb (by unfold Ee H0;simp_all))
 have hc3:=bp hb3;refine AE (w_ (f_ (h:=l_ (h:=a_ (h:=e_ (q_ (w_ (f_ (h:=l_ (h:=Ao (h:=e_ (?_))))))))))));refine A9 rfl (fun hb4=>?_) (fun hb4=>?_)
 ·have hc4:=bp hb4;refine w_ (f_ (h:=l_ (h:=l_ (h:=l_ (h:=?_)))));refine A6 rfl (AJ (RU t.other c k y (by omega) (by omega) (o1.resolve_left hc4).2.2) ?_);rintro r ⟨n2,rfl,hn2⟩;refine m_ (h:=x_ (h:=x_ (h:=a_ (h:=a_ (h:=e_ (w_ (m_ (h:=BB (h:=e_ (?_))))))))));refine A9 rfl (fun hb5=>?_) (fun hb5=>?_)
  ·have hc5:=bp hb5;refine w_ (a_ (h:=e_ (A4 (A7 (?_)))));refine A8 ?_
   first|(exfalso;first|contradiction|omega)|(exact vb (by unfold Ee H0;simp_all))
  have hc5:=bp hb5;refine AE (w_ (f_ (h:=l_ (h:=m_ (h:=m_ (h:=?_))))));refine A6 rfl (AJ (RT _ _ _ p1 p2) ?_);rintro r rfl;refine a_ (h:=e_ (A4 (?_)));refine A8 ?_
  first|(exfalso;first|contradiction|omega)|(exact vb (by unfold Ee H0;simp_all))
 have hc4:=bp hb4;refine AE (w_ (f_ (h:=l_ (h:=m_ (h:=m_ (h:=?_))))));refine A6 rfl (AJ (RT _ _ _ p1 p2) ?_);rintro r rfl;refine a_ (h:=e_ (A4 (?_)));refine A8 ?_
 first|(exfalso;first|contradiction|omega)|(exact vb (by unfold Ee H0;simp_all))
end
theorem GT{α:Type}{p:α→Bool}{l:List α}{j:Nat}{x:α}(hx:l[j]?=some x)(hp:p x=true)(h:∀i y,i<j→l[i]?=some y→p y=false):l.find? p=some x:=by
 have:=RJ hx hp h;rw[←RL,this]
 simpa using hx
theorem GU{α:Type}{p:α→Bool}{l:List α}(h:∀i y,i<l.length→l[i]?=some y→p y=false):l.find? p=none:=by
 rw[List.find?_eq_none];intro x hx;obtain⟨i,hi,rfl⟩:=List.mem_iff_getElem.1 hx;simp[h i _ hi (BR hi)]
theorem RZ{f:AZ}{a:AA}(h:Cg f a=true):Bk f a=some (As f a):=by
 unfold Cg at h;unfold As
 cases hn:Bk f a with
 |none=>rw[hn]at h;cases h
 |some n=>rfl
theorem Ra{f:AZ}{a:AA}(h:Cg f a=false):Bk f a=none:=by
 unfold Cg at h
 cases hn:Bk f a with
 |none=>rfl
 |some n=>rw[hn]at h;cases h
section
theorem H3(f:AZ)(a:AA)(name:AG)(hf:FlsB f):AFn prog 134 [.agg (Aq f), .agg (AD a), .v (.string name)] (fun r=>r= .tup [.agg (AD (AO f a name).1), .v (.int .i64 (AO f a name).2)]):=by
 have hen:=Kg hf a;refine enter Tryz.func134 rfl rfl rfl rfl rfl 0 rfl ?_;refine w_ (b_ (h:=b_ (h:=Ac (h:=a_ (h:=e_ (w_ (l_ (h:=l_ (h:=?_)))))))));refine A6 rfl (AJ (Ed f a hf) ?_);rintro r rfl;refine m_ (h:=x_ (h:=x_ (h:=Ac (h:=s_ (h:=a_ (h:=e_ (q_ (w_ (m_ (h:=BB (h:=e_ (?_))))))))))));refine A9 rfl (fun hb1=>?_) (fun hb1=>?_)
 ·have hc1:=bp hb1;have e:=Ra hc1;refine w_ (Ab (h:=s_ (h:=a_ (h:=e_ (A4 (A7 (?_)))))));refine A8 ?_;rw[show AO f a name=((0,0),2) by simp[AO,e]];rfl
 have hc1:=bp hb1;have e:=RZ hc1;refine AE (q_ (w_ (f_ (h:=l_ (h:=Ao (h:=e_ (?_)))))));refine A9 rfl (fun hb2=>?_) (fun hb2=>?_)
 ·have hc2:=bp hb2;refine w_ (Ab (h:=s_ (h:=a_ (h:=e_ (A4 (A7 (?_)))))));refine A8 ?_;rw[show AO f a name=((0,0),20) by simp[AO,e,hc2]];rfl
 have hc2:=bp hb2;refine AE (q_ (w_ (a_ (h:=e_ (Af (?_))))));refine BW (fun m s=>∃j:Nat,j≤(As f a).entries.length∧m=(As f a).entries.length - j∧(∀i y,i<j→(As f a).entries[i]?=some y→decide (y.1=name)=false)∧s=⟨look [(2, .v (.string name)),(4, .bp 1 0),(6, .bp 2 0),(8, .bp 3 0),(10, .v (.int .i64 (j:Int)))],⟨[Aq f,AD a,[.v (.int .i64 0), .v (.int .i64 0)],Ak (As f a)],[]⟩⟩) ((As f a).entries.length) ((wk 4 0)) (⟨0,by omega,rfl,fun i y hi=>by omega,rfl⟩) ?_;rintro m s ⟨j,hj,rfl,ha,rfl⟩;refine q_ (w_ (m_ (h:=f_ (h:=l_ (h:=n_ (h:=B1 (h:=e_ (?_))))))));refine A9 rfl (fun hb3=>?_) (fun hb3=>?_)
 ·have hc3:=bp hb3;obtain⟨hlt,x,hy,hrow, -⟩:=Bv CC hc3;refine AE (q_ (Af (w_ (f_ (h:=l_ (h:=m_ (h:=i_ (h:=f_ (h:=l_ (h:=m_ (h:=AN (h:=e_ (?_)))))))))))));refine A9 rfl (fun hb4=>?_) (fun hb4=>?_)
  ·have hc4:=bp hb4;refine q_ (CE ([(0,Aq f),(1,AD a),(3,Ak (As f a))]) 11 (h:=Ay 0 (h:=AY 1 (h:=Ay 2 (h:=AY 3 (h:=Ap 4 (h:=Dc 5 (h:=Ay 6 (h:=AY 7 (h:=GO 8 (h:=?_)))))))))));refine Bm 9 rfl (Bd rfl rfl rfl rfl rfl rfl (by repeat constructor) (by repeat constructor) ?_);refine o_ (h:=BN 10 (h:=z_ (h:=t_ (A4 (AP (A7 (A7 (AP (A7 (?_))))))))));refine A8 ?_;rw[show AO f a name=((a.1,x.2),0) by simp only[AO,e];rw[if_pos (by omega),GT hy (by simpa using hc4) ha]];rfl
  have hc4:=bp hb4;refine Aw (Al (t_ (AW (m_ (h:=BE (h:=a_ (h:=AQ (?_))))))));refine AK ?_;refine⟨_,_,?_,⟨j+1,by omega,rfl,FO hy ha (by simpa using hc4),rfl⟩,(wk 4 0)⟩;omega
 have hc3:=bp hb3;have e3:=CM CC hj hc3;subst e3;refine BL (Ai (Ai (BM (t_ (w_ (Ab (h:=s_ (h:=a_ (h:=e_ (A4 (?_)))))))))));refine A8 ?_;rw[show AO f a name=((0,0),2) by simp only[AO,e];rw[if_pos (by omega),GU ha]];rfl
end
theorem H4{P:Program}{ev:Operand→Option AV}{h:AH}{R:AV→AH→Prop}{d:Option Tmp}{ty:TypeId}{pos:String}{af:Array Edge}{gd:Option (Nat×Bool)}{T:TypeId}{x ix:Operand}{s:ByteArray}{n:Nat}{k:IntKind}{i:Int}(hu:P.underlying T=some .string)
    (hx:ev x=some (.v (.string s))) (hi:ev ix=some (.v (.int k i))) (hn:i=(n:Int)) (hlt:n<s.size) (hR:R (.v (.int .u8 (s[n].toNat:Int))) h):AStep P ⟨d, .index T x ix,ty,pos,af,gd⟩ ev h R:=by
 refine Cc (fun _ G w ec _ he=>?_) hR;have h1:=he x (by simp[Op.operands]) _ hx;have h2:=he ix (by simp[Op.operands]) _ hi;simp only[rep]at h1 h2;subst hn;refine⟨.int .u8 (s[n].toNat:Int),?_,by simp only[rep]⟩;have e:s[n]?=some s[n]:=getElem?_pos s n hlt;simp[execOp,h1,h2,Instr.index,asIntOf,run_underlying hu,e]
theorem H5(s:AG):Cn s=if s.size<1∨12<s.size then false else if s=⟨#[46]⟩then false else if s=⟨#[46,46]⟩then false else s.data.toList.all GQ:=by
 unfold Cn;have e1:=Ma s ⟨#[46]⟩;have e2:=Ma s ⟨#[46,46]⟩;rw[show(⟨#[46]⟩:ByteArray).toList=[46] by rw[ByteArray.toList_eq]]at e1;rw[show(⟨#[46,46]⟩:ByteArray).toList=[46,46] by rw[ByteArray.toList_eq]]at e2;rw[e1,e2];simp only[decide_eq_true_eq]
theorem Vp{c:UInt8}(h1:¬(c.toNat:Int)=0)(h2:¬(c.toNat:Int)=47):GQ c=true:=by
 unfold GQ;simp;omega
section
theorem OQ(s:AG)(hs:s.size≤100000):AFn prog 136 [.v (.string s)] (fun r=>r= .v (.bool (Cn s))):=by
 refine enter Tryz.func136 rfl rfl rfl rfl rfl 0 rfl ?_;refine w_ (a_ (h:=e_ (q_ (w_ (m_ (h:=n_ (h:=B1 (h:=m_ (h:=?_)))))))));refine AR false rfl rfl (fun hb1=>?_) (fun hb1=>?_)
 ·have hc1:=bp hb1;refine A3 (h:=A3 (h:=A3 (h:=AB (h:=m_ (h:=A3 (h:=A3 (h:=AB (h:=m_ (h:=A3 (h:=A3 (h:=AB (h:=e_ (B2 (h:=w_ (a_ (h:=e_ (A4 (A7 (?_)))))))))))))))))));refine A8 ?_;exact vb (by rw[H5,if_pos (by omega)])
 have hc1:=bp hb1;refine m_ (h:=n_ (h:=Bb (h:=AF (h:=m_ (h:=?_)))));refine AR false rfl rfl (fun hb2=>?_) (fun hb2=>?_)
 ·have hc2:=bp hb2;refine A3 (h:=A3 (h:=AB (h:=m_ (h:=A3 (h:=A3 (h:=AB (h:=e_ (B2 (h:=w_ (a_ (h:=e_ (A4 (A7 (?_))))))))))))));refine A8 ?_;exact vb (by rw[H5,if_pos (by omega)])
 have hc2:=bp hb2;refine m_ (h:=AN (h:=AF (h:=m_ (h:=?_))));refine AR false rfl rfl (fun hb3=>?_) (fun hb3=>?_)
 ·have hc3:=bp hb3;refine A3 (h:=A3 (h:=AB (h:=e_ (B2 (h:=w_ (a_ (h:=e_ (A4 (A7 (?_))))))))));refine A8 ?_;exact vb (by rw[H5,if_neg (by omega),if_pos hc3])
 have hc3:=bp hb3;refine m_ (h:=AN (h:=AF (h:=e_ (?_))));refine A9 rfl (fun hb4=>?_) (fun hb4=>?_)
 ·have hc4:=bp hb4;refine w_ (a_ (h:=e_ (A4 (A7 (?_)))));refine A8 ?_;exact vb (by rw[H5,if_neg (by omega),if_neg hc3,if_pos hc4])
 have hc4:=bp hb4;refine AE (q_ (w_ (a_ (h:=e_ (Af (?_))))));refine BW (fun m t=>∃j:Nat,j≤s.size∧m=s.size - j∧(∀i (hi:i<s.size),i<j→GQ s[i]=true)∧t=⟨look [(0, .v (.string s)),(3, .v (.int .i64 (j:Int)))],⟨[],[]⟩⟩) (s.size) ((wk 0 0)) (⟨0,by omega,rfl,fun i _ hi=>by omega,rfl⟩) ?_;rintro m t ⟨j,hj,rfl,ha,rfl⟩;refine q_ (w_ (m_ (h:=m_ (h:=n_ (h:=B1 (h:=e_ (?_)))))));refine A9 rfl (fun hb5=>?_) (fun hb5=>?_)
 ·have hc5:=bp hb5;have hlt:j<s.size:=by omega
  refine AE (q_ (Af (w_ (m_ (h:=m_ (h:=?_))))));refine A6 rfl (H4 (n:=j) Tryz.underlying9 rfl rfl rfl hlt ?_);refine AN (h:=m_ (h:=?_));refine AR false rfl rfl (fun hb6=>?_) (fun hb6=>?_)
  ·have hc6:=bp hb6;refine A3 (h:=A3 (h:=A3 (h:=A3 (h:=AB (h:=e_ (B2 (h:=w_ (a_ (h:=e_ (A4 (AP (A7 (A7 (AP (A7 (?_))))))))))))))));refine A8 ?_;exact vb (by rw[H5,if_neg (by omega),if_neg hc3,if_neg hc4,OO hlt (by unfold GQ;simp[hc6])])
  have hc6:=bp hb6;refine m_ (h:=m_ (h:=?_));refine Av (H4 (n:=j) Tryz.underlying9 rfl rfl rfl hlt ?_);refine AN (h:=AF (h:=e_ (?_)));refine A9 rfl (fun hb7=>?_) (fun hb7=>?_)
  ·have hc7:=bp hb7;refine w_ (a_ (h:=e_ (A4 (AP (A7 (A7 (AP (A7 (?_)))))))));refine A8 ?_;exact vb (by rw[H5,if_neg (by omega),if_neg hc3,if_neg hc4,OO hlt (by unfold GQ;simp[hc7])])
  have hc7:=bp hb7;refine Aw (Al (t_ (AW (m_ (h:=BE (h:=a_ (h:=AQ (?_))))))));refine AK ?_;refine⟨_,_,?_,⟨j+1,by omega,rfl,RN hlt ha (Vp hc6 hc7),rfl⟩,(wk 0 0)⟩;omega
 have hc5:=bp hb5;obtain rfl:j=s.size:=by omega
 refine BL (Ai (Ai (BM (t_ (w_ (a_ (h:=e_ (A4 (?_)))))))));refine A8 ?_;exact vb (by rw[H5,if_neg (by omega),if_neg hc3,if_neg hc4,RM (fun i hi=>ha i hi hi)])
end
theorem Vq(f:AZ)(a:AA):GR f a=decide (12≤(As f a).entries.length):=by
 unfold GR As;cases Bk f a<;>simp[Nod.zero]
theorem Vr(f:AZ)(a:AA):Gx f a=decide ((As f a).entries.length=0):=by
 unfold Gx As;cases Bk f a<;>simp[Nod.zero]
theorem Vs{f:AZ}{a:AA}{k:Nat}{d:Dvc}{n:Nod}(hk:a.1=(k:Int))(hd:f[k]?=some d)(hn:Bk f a=some n):FP f a=BX a.2 d.nodes:=by
 unfold FP;rw[hn,hk,J3,hd]
section
theorem Vt(s:AG)(hs:s.size≤100000):AFn prog 258 [.v (.string s)] (fun r=>r= .v (.bool (J4 s))):=by
 refine enter Tryz.func258 rfl rfl rfl rfl rfl 0 rfl ?_;refine w_ (a_ (h:=e_ (q_ (w_ (a_ (h:=e_ (Af (?_))))))));refine BW (fun m t=>∃j:Nat,j≤s.size∧m=s.size - j∧(∀i (hi:i<s.size),i<j→(!((s[i].toNat:Int)==0))=true)∧t=⟨look [(0, .v (.string s)),(3, .v (.int .i64 (j:Int)))],⟨[],[]⟩⟩) (s.size) ((wk 0 0)) (⟨0,by omega,rfl,fun i _ hi=>by omega,rfl⟩) ?_;rintro m t ⟨j,hj,rfl,ha,rfl⟩;refine q_ (w_ (m_ (h:=m_ (h:=n_ (h:=B1 (h:=e_ (?_)))))));refine A9 rfl (fun hb1=>?_) (fun hb1=>?_)
 ·have hc1:=bp hb1;have hlt:j<s.size:=by omega
  refine AE (q_ (Af (w_ (m_ (h:=m_ (h:=?_))))));refine A6 rfl (H4 (n:=j) Tryz.underlying9 rfl rfl rfl hlt ?_);refine AN (h:=e_ (?_));refine A9 rfl (fun hb2=>?_) (fun hb2=>?_)
  ·have hc2:=bp hb2;refine w_ (a_ (h:=e_ (A4 (AP (A7 (A7 (AP (A7 (?_)))))))));refine A8 ?_;exact vb (by unfold J4;rw[OO hlt (by simp[hc2])];simp)
  have hc2:=bp hb2;refine Aw (Al (t_ (AW (m_ (h:=BE (h:=a_ (h:=AQ (?_))))))));refine AK ?_;refine⟨_,_,?_,⟨j+1,by omega,rfl,RN (p:=fun c=> !((c.toNat:Int)==0)) hlt ha (by simpa using hc2),rfl⟩,(wk 0 0)⟩;omega
 have hc1:=bp hb1;obtain rfl:j=s.size:=by omega
 have hal:=RM (p:=fun c=> !((c.toNat:Int)==0)) (fun i hi=>ha i hi hi);refine BL (Ai (Ai (BM (t_ (w_ (m_ (h:=n_ (h:=DL (h:=m_ (h:=?_))))))))));refine AR true rfl rfl (fun hb3=>?_) (fun hb3=>?_)
 ·have hc3:=bp hb3;refine m_ (h:=n_ (h:=EC (h:=AB (h:=a_ (h:=e_ (A4 (?_)))))));refine A8 ?_;exact vb (by unfold J4;rw[hal,Bool.eq_iff_iff];simp;omega)
 have hc3:=bp hb3;refine A3 (h:=A3 (h:=A3 (h:=AF (h:=a_ (h:=e_ (A4 (?_)))))));refine A8 ?_;exact vb (by unfold J4;rw[hal,Bool.eq_iff_iff];simp;omega)
theorem Ja(f:AZ)(a:AA)(name:AG)(hf:FlsB f)(hs:name.size≤100000):AFn prog 230 [.agg (Aq f), .agg (AD a), .v (.string name)] (fun r=>r= .v (.int .i64 (CB f a name))):=by
 refine enter Tryz.func230 rfl rfl rfl rfl rfl 0 rfl ?_;refine w_ (b_ (h:=b_ (h:=a_ (h:=e_ (w_ (l_ (h:=l_ (h:=?_))))))));refine A6 rfl (AJ (Ed f a hf) ?_);rintro r rfl;refine m_ (h:=x_ (h:=x_ (h:=Ac (h:=s_ (h:=a_ (h:=e_ (q_ (w_ (m_ (h:=BB (h:=e_ (?_))))))))))));refine A9 rfl (fun hb1=>?_) (fun hb1=>?_)
 ·have hc1:=bp hb1;have e:=Ra hc1;refine w_ (a_ (h:=e_ (A4 (A7 (?_)))));refine A8 ?_;exact vi (by simp[CB,e])
 have hc1:=bp hb1;have e:=RZ hc1;refine AE (q_ (w_ (f_ (h:=l_ (h:=Ao (h:=e_ (?_)))))));refine A9 rfl (fun hb2=>?_) (fun hb2=>?_)
 ·have hc2:=bp hb2;refine w_ (a_ (h:=e_ (A4 (A7 (?_)))));refine A8 ?_;exact vi (by simp[CB,e,hc2])
 have hc2:=bp hb2;refine AE (q_ (w_ (m_ (h:=?_))));refine A6 rfl (AJ (OQ name hs) ?_);rintro r rfl;refine BB (h:=e_ (?_));refine A9 rfl (fun hb3=>?_) (fun hb3=>?_)
 ·have hc3:=bp hb3;refine w_ (a_ (h:=e_ (A4 (A7 (?_)))));refine A8 ?_;exact vi (by simp only[CB,e];rw[if_pos (by omega),hc3];rfl)
 have hc3:=bp hb3;refine AE (w_ (a_ (h:=e_ (A4 (?_)))));refine A8 ?_;exact vi (by simp only[CB,e];rw[if_pos (by omega),hc3];rfl)
theorem OR(f:AZ)(a:AA)(hf:FlsB f):AFn prog 231 [.agg (Aq f), .agg (AD a)] (fun r=>r= .v (.bool (GR f a))):=by
 refine enter Tryz.func231 rfl rfl rfl rfl rfl 0 rfl ?_;refine w_ (b_ (h:=b_ (h:=a_ (h:=e_ (w_ (l_ (h:=l_ (h:=?_))))))));refine A6 rfl (AJ (Ed f a hf) ?_);rintro r rfl;refine m_ (h:=x_ (h:=x_ (h:=Ac (h:=s_ (h:=a_ (h:=e_ (w_ (f_ (h:=l_ (h:=n_ (h:=DL (h:=a_ (h:=e_ (A4 (?_)))))))))))))));refine A8 ?_;exact vb (by rw[Vq,Bool.eq_iff_iff];simp;omega)
theorem Rb(f:AZ)(a:AA)(hf:FlsB f):AFn prog 235 [.agg (Aq f), .agg (AD a)] (fun r=>r= .v (.bool (Gx f a))):=by
 refine enter Tryz.func235 rfl rfl rfl rfl rfl 0 rfl ?_;refine w_ (b_ (h:=b_ (h:=a_ (h:=e_ (w_ (l_ (h:=l_ (h:=?_))))))));refine A6 rfl (AJ (Ed f a hf) ?_);rintro r rfl;refine m_ (h:=x_ (h:=x_ (h:=Ac (h:=s_ (h:=a_ (h:=e_ (w_ (f_ (h:=l_ (h:=n_ (h:=AN (h:=a_ (h:=e_ (A4 (?_)))))))))))))));refine A8 ?_;exact vb (by rw[Vr,Bool.eq_iff_iff];simp)
theorem Rc(n:Nod)(hs:n.target.size≤100000):AFn prog 237 [.agg (Ak n)] (fun r=>r= .v (.bool (E1 n))):=by
 have ee:n.target.toList.isEmpty=decide (n.target=⟨#[]⟩):=by
  rw[←Ma n.target ⟨#[]⟩,show(⟨#[]⟩:ByteArray).toList=[] by rw[ByteArray.toList_eq]];cases n.target.toList<;>rfl
 refine enter Tryz.func237 rfl rfl rfl rfl rfl 0 rfl ?_;refine w_ (b_ (h:=a_ (h:=e_ (q_ (?_)))));refine EO (⟨look [(1, .bp 0 0),(40, .v (.bool (decide (n.kind<1∨3<n.kind∨n.mode<0∨511<n.mode∨n.uid<0∨4294967295<n.uid∨n.gid<0∨4294967295<n.gid))))],⟨[Ak n],[]⟩⟩) ?_ ?_
 ·skip
  refine AW (f_ (h:=l_ (h:=B1 (h:=m_ (h:=?_)))));refine AR false rfl rfl (fun hb1=>?_) (fun hb1=>?_)
  ·have hc1:=bp hb1;refine A3 (h:=A3 (h:=A3 (h:=AB (h:=m_ (h:=A3 (h:=A3 (h:=A3 (h:=AB (h:=m_ (h:=A3 (h:=A3 (h:=A3 (h:=AB (h:=m_ (h:=A3 (h:=A3 (h:=A3 (h:=AB (h:=m_ (h:=A3 (h:=A3 (h:=A3 (h:=AB (h:=?_))))))))))))))))))))))));refine m_ (h:=A3 (h:=A3 (h:=A3 (h:=AB (h:=m_ (h:=A3 (h:=A3 (h:=A3 (h:=AB (h:=AQ (?_)))))))))));refine AK ?_
   first|(exfalso;first|contradiction|omega)|exact Az 1 0 rfl rfl rfl rfl (by repeat (first|exact Sub.nil|refine B0 rfl rfl ?_|refine B3 ?_|refine B4 rfl ?_|refine B5 rfl ?_|(apply Sub.of;(focus exact rfl);(focus exact LeA.of_eq (vb (by rw[Bool.eq_iff_iff];simp;try omega)));(focus exact rfl))))
  have hc1:=bp hb1;refine f_ (h:=l_ (h:=Bb (h:=AF (h:=m_ (h:=?_)))));refine AR false rfl rfl (fun hb2=>?_) (fun hb2=>?_)
  ·have hc2:=bp hb2;refine A3 (h:=A3 (h:=A3 (h:=AB (h:=m_ (h:=A3 (h:=A3 (h:=A3 (h:=AB (h:=m_ (h:=A3 (h:=A3 (h:=A3 (h:=AB (h:=m_ (h:=A3 (h:=A3 (h:=A3 (h:=AB (h:=m_ (h:=A3 (h:=A3 (h:=A3 (h:=AB (h:=?_))))))))))))))))))))))));refine m_ (h:=A3 (h:=A3 (h:=A3 (h:=AB (h:=AQ (?_))))));refine AK ?_
   first|(exfalso;first|contradiction|omega)|exact Az 1 0 rfl rfl rfl rfl (by repeat (first|exact Sub.nil|refine B0 rfl rfl ?_|refine B3 ?_|refine B4 rfl ?_|refine B5 rfl ?_|(apply Sub.of;(focus exact rfl);(focus exact LeA.of_eq (vb (by rw[Bool.eq_iff_iff];simp;try omega)));(focus exact rfl))))
  have hc2:=bp hb2;refine f_ (h:=l_ (h:=B1 (h:=AF (h:=m_ (h:=?_)))));refine AR false rfl rfl (fun hb3=>?_) (fun hb3=>?_)
  ·have hc3:=bp hb3;refine A3 (h:=A3 (h:=A3 (h:=AB (h:=m_ (h:=A3 (h:=A3 (h:=A3 (h:=AB (h:=m_ (h:=A3 (h:=A3 (h:=A3 (h:=AB (h:=m_ (h:=A3 (h:=A3 (h:=A3 (h:=AB (h:=m_ (h:=A3 (h:=A3 (h:=A3 (h:=AB (h:=?_))))))))))))))))))))))));refine AQ (?_);refine AK ?_
   first|(exfalso;first|contradiction|omega)|exact Az 1 0 rfl rfl rfl rfl (by repeat (first|exact Sub.nil|refine B0 rfl rfl ?_|refine B3 ?_|refine B4 rfl ?_|refine B5 rfl ?_|(apply Sub.of;(focus exact rfl);(focus exact LeA.of_eq (vb (by rw[Bool.eq_iff_iff];simp;try omega)));(focus exact rfl))))
  have hc3:=bp hb3;refine f_ (h:=l_ (h:=Bb (h:=AF (h:=m_ (h:=?_)))));refine AR false rfl rfl (fun hb4=>?_) (fun hb4=>?_)
  ·have hc4:=bp hb4;refine A3 (h:=A3 (h:=A3 (h:=AB (h:=m_ (h:=A3 (h:=A3 (h:=A3 (h:=AB (h:=m_ (h:=A3 (h:=A3 (h:=A3 (h:=AB (h:=m_ (h:=A3 (h:=A3 (h:=A3 (h:=AB (h:=AQ (?_))))))))))))))))))));refine AK ?_
   first|(exfalso;first|contradiction|omega)|exact Az 1 0 rfl rfl rfl rfl (by repeat (first|exact Sub.nil|refine B0 rfl rfl ?_|refine B3 ?_|refine B4 rfl ?_|refine B5 rfl ?_|(apply Sub.of;(focus exact rfl);(focus exact LeA.of_eq (vb (by rw[Bool.eq_iff_iff];simp;try omega)));(focus exact rfl))))
  have hc4:=bp hb4;refine f_ (h:=l_ (h:=B1 (h:=AF (h:=m_ (h:=?_)))));refine AR false rfl rfl (fun hb5=>?_) (fun hb5=>?_)
  ·have hc5:=bp hb5;refine A3 (h:=A3 (h:=A3 (h:=AB (h:=m_ (h:=A3 (h:=A3 (h:=A3 (h:=AB (h:=m_ (h:=A3 (h:=A3 (h:=A3 (h:=AB (h:=AQ (?_)))))))))))))));refine AK ?_
   first|(exfalso;first|contradiction|omega)|exact Az 1 0 rfl rfl rfl rfl (by repeat (first|exact Sub.nil|refine B0 rfl rfl ?_|refine B3 ?_|refine B4 rfl ?_|refine B5 rfl ?_|(apply Sub.of;(focus exact rfl);(focus exact LeA.of_eq (vb (by rw[Bool.eq_iff_iff];simp;try omega)));(focus exact rfl))))
  have hc5:=bp hb5;refine f_ (h:=l_ (h:=Bb (h:=AF (h:=m_ (h:=?_)))));refine AR false rfl rfl (fun hb6=>?_) (fun hb6=>?_)
  ·have hc6:=bp hb6;refine A3 (h:=A3 (h:=A3 (h:=AB (h:=m_ (h:=A3 (h:=A3 (h:=A3 (h:=AB (h:=AQ (?_))))))))));refine AK ?_
   first|(exfalso;first|contradiction|omega)|exact Az 1 0 rfl rfl rfl rfl (by repeat (first|exact Sub.nil|refine B0 rfl rfl ?_|refine B3 ?_|refine B4 rfl ?_|refine B5 rfl ?_|(apply Sub.of;(focus exact rfl);(focus exact LeA.of_eq (vb (by rw[Bool.eq_iff_iff];simp;try omega)));(focus exact rfl))))
  have hc6:=bp hb6;refine f_ (h:=l_ (h:=B1 (h:=AF (h:=m_ (h:=?_)))));refine AR false rfl rfl (fun hb7=>?_) (fun hb7=>?_)
  ·have hc7:=bp hb7;refine A3 (h:=A3 (h:=A3 (h:=AB (h:=AQ (?_)))));refine AK ?_
   first|(exfalso;first|contradiction|omega)|exact Az 1 0 rfl rfl rfl rfl (by repeat (first|exact Sub.nil|refine B0 rfl rfl ?_|refine B3 ?_|refine B4 rfl ?_|refine B5 rfl ?_|(apply Sub.of;(focus exact rfl);(focus exact LeA.of_eq (vb (by rw[Bool.eq_iff_iff];simp;try omega)));(focus exact rfl))))
  have hc7:=bp hb7;refine f_ (h:=l_ (h:=Bb (h:=AF (h:=AQ (?_)))));refine AK ?_
  first|(exfalso;first|contradiction|omega)|exact Az 1 0 rfl rfl rfl rfl (by repeat (first|exact Sub.nil|refine B0 rfl rfl ?_|refine B3 ?_|refine B4 rfl ?_|refine B5 rfl ?_|(apply Sub.of;(focus exact rfl);(focus exact LeA.of_eq (vb (by rw[Bool.eq_iff_iff];simp;try omega)));(focus exact rfl))))
 skip
 refine A9 rfl (fun hb8=>?_) (fun hb8=>?_)
 ·have hc8:=bp hb8;refine w_ (a_ (h:=e_ (A4 (A7 (?_)))));refine A8 ?_;exact vb (by rw[E1,if_pos hc8])
 have hc8:=bp hb8;refine AE (q_ (w_ (f_ (h:=l_ (h:=AN (h:=e_ (?_)))))));refine A9 rfl (fun hb9=>?_) (fun hb9=>?_)
 ·have hc9:=bp hb9;refine w_ (f_ (h:=l_ (h:=?_)));refine A6 rfl (AJ (Vt n.target hs) ?_);rintro r rfl;refine a_ (h:=e_ (A4 (A7 (?_))));refine A8 ?_;exact vb (by rw[E1,if_neg hc8,if_pos hc9])
 have hc9:=bp hb9;refine AE (w_ (f_ (h:=l_ (h:=AN (h:=a_ (h:=e_ (A4 (?_))))))));refine A8 ?_;exact vb (by rw[E1,if_neg hc8,if_neg hc9,ee])
theorem Vu(f:AZ)(a:AA)(hf:FlsB f):AFn prog 257 [.agg (Aq f), .agg (AD a)] (fun r=>r= .v (.int .i64 (FP f a:Int))):=by
 refine enter Tryz.func257 rfl rfl rfl rfl rfl 0 rfl ?_;refine w_ (b_ (h:=b_ (h:=a_ (h:=e_ (q_ (w_ (l_ (h:=l_ (h:=?_)))))))));refine A6 rfl (AJ (Gy f a hf) ?_);rintro r rfl;refine B1 (h:=e_ (?_));refine A9 rfl (fun hb1=>?_) (fun hb1=>?_)
 ·have hc1:=bp hb1
  have e:Bk f a=none:=by
   rcases GP f a with h|⟨k,i,d,n, -, -, -, -,h, -⟩
   ·exact h.2
   exfalso;omega
  refine w_ (a_ (h:=e_ (A4 (A7 (?_)))));refine A8 ?_;exact vi (by simp[FP,e])
 have hc1:=bp hb1;obtain⟨k,i,d,n,g1,g2,g3,g4,g5,g6⟩:=(GP f a).resolve_left (fun h=>by omega);have hr1:(f.map Bi)[k]?=some (Bi d):=by rw[List.getElem?_map,g2];rfl
 have hdn:=hf.nodes d (Ar g2);refine AE (w_ (a_ (h:=e_ (w_ (f_ (h:=l_ (h:=f_ (h:=l_ (h:=?_)))))))));refine A6 rfl (DV (n:=k) rfl rfl g1 hr1 ?_);refine f_ (h:=l_ (h:=a_ (h:=e_ (q_ (w_ (a_ (h:=e_ (Af (?_)))))))));refine BW (fun m s=>∃j c:Nat,j≤d.nodes.length∧m=d.nodes.length - j∧c=BX a.2 (d.nodes.take j)∧c≤1000 * j∧s=⟨look [(3, .bp 1 0),(5, .v (.int .i64 (c:Int))),(6, .sl 8 (d.nodes.map Ak) none),(7, .v (.int .i64 (j:Int)))],⟨[Aq f,AD a],[]⟩⟩) (d.nodes.length) ((wk 2 0)) (⟨0,0,by omega,rfl,rfl,by omega,rfl⟩) ?_;rintro m s ⟨j,c,hj,rfl,hcn,hcb,rfl⟩;refine q_ (w_ (m_ (h:=m_ (h:=n_ (h:=B1 (h:=e_ (?_)))))));refine A9 rfl (fun hb2=>?_) (fun hb2=>?_)
 ·have hc2:=bp hb2;obtain⟨hlt,x,hx,hrow, -⟩:=Bv Ak hc2;have hen:=hf.ents d (Ar g2) x (Ar hx);refine AE (q_ (Af (w_ (a_ (h:=e_ (Af (?_)))))));refine BW (fun m s=>∃i c2:Nat,i≤x.entries.length∧m=x.entries.length - i∧c2=c+CT a.2 (x.entries.take i)∧c2≤c+i∧s=⟨look [(3, .bp 1 0),(5, .v (.int .i64 (c2:Int))),(6, .sl 8 (d.nodes.map Ak) none),(7, .v (.int .i64 (j:Int))),(8, .v (.int .i64 (i:Int)))],⟨[Aq f,AD a],[]⟩⟩) (x.entries.length) ((wk 2 0)) (⟨0,c,by omega,rfl,rfl,by omega,rfl⟩) ?_;rintro m s ⟨i,c2,hi,rfl,hc2n,hc2b,rfl⟩;refine q_ (w_ (m_ (h:=m_ (h:=m_ (h:=i_ (h:=f_ (h:=l_ (h:=n_ (h:=B1 (h:=e_ (?_)))))))))));refine A9 rfl (fun hb3=>?_) (fun hb3=>?_)
  ·have hc3:=bp hb3;obtain⟨hlt3,y,hy,hrow3, -⟩:=Bv CC hc3;refine AE (q_ (Af (q_ (D7 12 (h:=Ap 0 (h:=Ap 1 (h:=Dc 2 (h:=Ay 3 (h:=AY 4 (h:=Ap 5 (h:=Dc 6 (h:=Ay 7 (h:=AY 8 (h:=Ay 9 (h:=AY 10 (h:=Gv 11 (h:=z_ (h:=t_ (?_)))))))))))))))))));refine A9 rfl (fun hb4=>?_) (fun hb4=>?_)
   ·have hc4:=bp hb4;refine AW (m_ (h:=BE (h:=a_ (h:=AQ (Al (t_ (AW (m_ (h:=BE (h:=a_ (h:=AQ (?_))))))))))));refine AK ?_
    first|(refine⟨_,_,?_,⟨i+1,c2+1,by omega,rfl,?_,by omega,rfl⟩,(wk 2 0)⟩<;>first|omega|(rw[Mb hy];simp[hc4];omega))|(refine⟨_,_,?_,⟨i+1,c2,by omega,rfl,?_,by omega,rfl⟩,(wk 2 0)⟩<;>first|omega|(rw[Mb hy];simp[hc4];omega))
   have hc4:=bp hb4;refine Aw (Al (t_ (AW (m_ (h:=BE (h:=a_ (h:=AQ (?_))))))));refine AK ?_
   first|(refine⟨_,_,?_,⟨i+1,c2+1,by omega,rfl,?_,by omega,rfl⟩,(wk 2 0)⟩<;>first|omega|(rw[Mb hy];simp[hc4];omega))|(refine⟨_,_,?_,⟨i+1,c2,by omega,rfl,?_,by omega,rfl⟩,(wk 2 0)⟩<;>first|omega|(rw[Mb hy];simp[hc4];omega))
  have hc3:=bp hb3;have e3:=CM CC hi hc3;subst e3;refine BL (Ai (Ai (BM (Al (t_ (AW (m_ (h:=BE (h:=a_ (h:=AQ (?_)))))))))));refine AK ?_;refine⟨_,_,?_,⟨j+1,c2,by omega,rfl,?_,?_,rfl⟩,(wk 2 0)⟩
  ·omega
  ·rw[hc2n,Vm hx,List.take_length];omega
  have:=Vl a.2 (x.entries.take x.entries.length);simp at this;omega
 have hc2:=bp hb2;have e2:=CM Ak hj hc2;subst e2;refine BL (Ai (Ai (BM (t_ (w_ (m_ (h:=a_ (h:=e_ (A4 (?_))))))))));refine A8 ?_;exact vi (by rw[Vs g1 g2 g6,hcn,List.take_length])
end
def Co(m:D8):List AV:=[.v (.int .i64 m.1), .v (.int .i64 m.2.1), .v (.int .i64 m.2.2)]
def Aj(s:Spc):List AV:=[.sl 2 (s.files.map Bi) none, .sl 3 (s.mounts.map Co) none]
structure SpcB(s:Spc):Prop where
 files:FlsB s.files
 few:s.mounts.length≤1000
def Bj(s:Spc)(dev:Int):Option AA:=(s.mounts.find? fun m:D8=>decide (m.1=dev)).map (·.2)
def Bw(s:Spc)(a:AA):Option Int:=(s.mounts.find? fun m:D8=>decide (m.2=a)).map (·.1)
def C3(s:Spc)(dev:Int):Bool:=(Bj s dev).isSome||decide (dev=0)
section
theorem OS(op:BinOp)(a b c d:Int)(w:World):(op= .eql∨op= .neq)→(binOp op 26 (.agg #[.int .i64 a, .int .i64 b]) (.agg #[.int .i64 c, .int .i64 d])).run prog w= .ok (.bool (decide ((a,b)=(c,d))==decide (op= .eql))) w:=by
 have u3:=Tryz.underlying3;have a3:=Tryz.isAgg3;have z3:=Tryz.sizeOf3;have hS:prog.underlying 26=some (.struct (prog.fieldsOf 26)):=by kernel_rfl
 have hp:prog.stoodInHeld 26=false:=by kernel_rfl
 have e:∀w,(Op.equalIn 10000 26 (.agg #[.int .i64 a, .int .i64 b]) (.agg #[.int .i64 c, .int .i64 d])).run prog w= .ok (a==c&&b==d) w:=by
  intro w;rw[show(10000:Nat)=9999+1 from rfl,run_equalIn_agg w 9999 26 _ _ hS hp];simp only[Program.fieldsOf,Tryz.underlying26]
  go_simp
  by_cases h1:a=c<;>by_cases h2:b=d<;>simp[h1,h2]
 rintro(rfl|rfl)
 ·rw[run_eql_struct,e];by_cases h1:a=c<;>by_cases h2:b=d<;>simp[h1,h2]
 rw[run_neq_struct,e];by_cases h1:a=c<;>by_cases h2:b=d<;>simp[h1,h2]
theorem Kh(a b c d:Int)(w:World):(binOp .eql 26 (.agg #[.int .i64 a, .int .i64 b]) (.agg #[.int .i64 c, .int .i64 d])).run prog w= .ok (.bool (decide ((a,b)=(c,d)))) w:=by
 rw[OS .eql a b c d w (.inl rfl)];by_cases h:(a,b)=(c,d)<;>simp[h]
theorem Rd(a b c d:Int)(w:World):(binOp .neq 26 (.agg #[.int .i64 a, .int .i64 b]) (.agg #[.int .i64 c, .int .i64 d])).run prog w= .ok (.bool (!decide ((a,b)=(c,d)))) w:=by
 rw[OS .neq a b c d w (.inr rfl)];by_cases h:(a,b)=(c,d)<;>simp[h]
theorem OT(s:Spc)(dev:Int)(hs:SpcB s):AFn prog 180 [.agg (Aj s), .v (.int .i64 dev)] (fun r=>r= .tup [.agg (AD ((Bj s dev).getD (0,0))), .v (.bool (Bj s dev).isSome)]):=by
 have hfew:=hs.few;refine enter Tryz.func180 rfl rfl rfl rfl rfl 0 rfl ?_;refine w_ (b_ (h:=Ac (h:=a_ (h:=e_ (q_ (w_ (a_ (h:=e_ (Af (?_))))))))));refine BW (fun m t=>∃j:Nat,j≤s.mounts.length∧m=s.mounts.length - j∧(∀i y,i<j→s.mounts[i]?=some y→decide (y.1=dev)=false)∧t=⟨look [(1, .v (.int .i64 dev)),(2, .bp 0 0),(4, .bp 1 0),(6, .v (.int .i64 (j:Int)))],⟨[Aj s,[.v (.int .i64 0), .v (.int .i64 0)]],[]⟩⟩) (s.mounts.length) ((wk 2 0)) (⟨0,by omega,rfl,fun i y hi=>by omega,rfl⟩) ?_;rintro m t ⟨j,hj,rfl,ha,rfl⟩;refine q_ (w_ (m_ (h:=f_ (h:=l_ (h:=n_ (h:=B1 (h:=e_ (?_))))))));refine A9 rfl (fun hb1=>?_) (fun hb1=>?_)
 ·have hc1:=bp hb1;obtain⟨hlt,x,hy,hrow, -⟩:=Bv Co hc1;refine AE (q_ (Af (w_ (f_ (h:=l_ (h:=m_ (h:=i_ (h:=f_ (h:=l_ (h:=m_ (h:=AN (h:=e_ (?_)))))))))))));refine A9 rfl (fun hb2=>?_) (fun hb2=>?_)
  ·have hc2:=bp hb2;refine w_ (f_ (h:=l_ (h:=m_ (h:=i_ (h:=f_ (h:=l_ (h:=s_ (h:=a_ (h:=e_ (A4 (AP (A7 (A7 (AP (A7 (?_))))))))))))))));refine A8 ?_;rw[show Bj s dev=some x.2 by simp only[Bj];rw[GT hy (by simpa using hc2) ha];rfl];rfl
  have hc2:=bp hb2;refine Aw (Al (t_ (AW (m_ (h:=BE (h:=a_ (h:=AQ (?_))))))));refine AK ?_;refine⟨_,_,?_,⟨j+1,by omega,rfl,FO hy ha (by simpa using hc2),rfl⟩,(wk 2 0)⟩;omega
 have hc1:=bp hb1;have e3:=CM Co hj hc1;subst e3;refine BL (Ai (Ai (BM (t_ (w_ (Ab (h:=s_ (h:=a_ (h:=e_ (A4 (?_)))))))))));refine A8 ?_;rw[show Bj s dev=none by simp only[Bj];rw[GU ha];rfl];rfl
theorem OU(s:Spc)(dev:Int)(hs:SpcB s):AFn prog 124 [.agg (Aj s), .v (.int .i64 dev)] (fun r=>r= .v (.bool (C3 s dev))):=by
 refine enter Tryz.func124 rfl rfl rfl rfl rfl 0 rfl ?_;refine w_ (b_ (h:=a_ (h:=e_ (w_ (l_ (h:=m_ (h:=?_)))))));refine A6 rfl (AJ (OT s dev hs) ?_);rintro r rfl;refine m_ (h:=x_ (h:=x_ (h:=Ac (h:=s_ (h:=a_ (h:=e_ (w_ (m_ (h:=m_ (h:=?_))))))))));refine AR false rfl rfl (fun hb1=>?_) (fun hb1=>?_)
 ·have hc1:=bp hb1;refine A3 (h:=A3 (h:=AB (h:=a_ (h:=e_ (A4 (?_))))));refine A8 ?_;exact vb (by unfold C3;rw[hc1];simp)
 have hc1:=bp hb1;refine m_ (h:=AN (h:=AF (h:=a_ (h:=e_ (A4 (?_))))));refine A8 ?_;exact vb (by unfold C3;rw[hc1];simp)
theorem Re(s:Spc)(a:AA)(hs:SpcB s):AFn prog 181 [.agg (Aj s), .agg (AD a)] (fun r=>r= .tup [.v (.int .i64 ((Bw s a).getD 0)), .v (.bool (Bw s a).isSome)]):=by
 have hfew:=hs.few;refine enter Tryz.func181 rfl rfl rfl rfl rfl 0 rfl ?_;refine w_ (b_ (h:=b_ (h:=a_ (h:=a_ (h:=e_ (q_ (w_ (a_ (h:=e_ (Af (?_)))))))))));refine BW (fun m t=>∃j:Nat,j≤s.mounts.length∧m=s.mounts.length - j∧(∀i y,i<j→s.mounts[i]?=some y→decide (y.2=a)=false)∧t=⟨look [(2, .bp 0 0),(3, .bp 1 0),(6, .v (.int .i64 (j:Int)))],⟨[Aj s,AD a],[]⟩⟩) (s.mounts.length) ((wk 2 0)) (⟨0,by omega,rfl,fun i y hi=>by omega,rfl⟩) ?_;rintro m t ⟨j,hj,rfl,ha,rfl⟩;refine q_ (w_ (m_ (h:=f_ (h:=l_ (h:=n_ (h:=B1 (h:=e_ (?_))))))));refine A9 rfl (fun hb1=>?_) (fun hb1=>?_)
 ·have hc1:=bp hb1;obtain⟨hlt,x,hy,hrow, -⟩:=Bv Co hc1;refine AE (q_ (Af (q_ (D7 8 (h:=Ay 0 (h:=AY 1 (h:=Ap 2 (h:=Dc 3 (h:=Ay 4 (h:=AY 5 (h:=AY 6 (h:=?_))))))))))));refine EP (i:=7) rfl (Ea rfl rfl (by repeat constructor) (by repeat constructor) (fun w=>Kh _ _ _ _ w) (by kernel_rfl) ⟨rfl,rfl⟩) ?_;refine z_ (h:=t_ (?_));refine A9 rfl (fun hb2=>?_) (fun hb2=>?_)
  ·have hc2:=bp hb2;refine w_ (f_ (h:=l_ (h:=m_ (h:=i_ (h:=f_ (h:=l_ (h:=a_ (h:=a_ (h:=e_ (A4 (AP (A7 (A7 (AP (A7 (?_))))))))))))))));refine A8 ?_;rw[show Bw s a=some x.1 by simp only[Bw];rw[GT hy (decide_eq_true hc2) ha];rfl];rfl
  have hc2:=bp hb2;refine Aw (Al (t_ (AW (m_ (h:=BE (h:=a_ (h:=AQ (?_))))))));refine AK ?_;refine⟨_,_,?_,⟨j+1,by omega,rfl,FO hy ha (decide_eq_false hc2),rfl⟩,(wk 2 0)⟩;omega
 have hc1:=bp hb1;have e3:=CM Co hj hc1;subst e3;refine BL (Ai (Ai (BM (t_ (w_ (a_ (h:=a_ (h:=e_ (A4 (?_))))))))));refine A8 ?_;rw[show Bw s a=none by simp only[Bw];rw[GU ha];rfl];rfl
theorem Vv(s:Spc)(a:AA)(hs:SpcB s):AFn prog 125 [.agg (Aj s), .agg (AD a)] (fun r=>r= .v (.bool (Bw s a).isSome)):=by
 refine enter Tryz.func125 rfl rfl rfl rfl rfl 0 rfl ?_;refine w_ (b_ (h:=b_ (h:=a_ (h:=e_ (w_ (l_ (h:=l_ (h:=?_))))))));refine A6 rfl (AJ (Re s a hs) ?_);rintro r rfl;refine m_ (h:=x_ (h:=x_ (h:=a_ (h:=a_ (h:=e_ (w_ (m_ (h:=a_ (h:=e_ (A4 (?_)))))))))));refine A8 ?_;rfl
theorem OV(s:Spc)(dev:Int)(hs:SpcB s):AFn prog 229 [.agg (Aj s), .v (.int .i64 dev)] (fun r=>r= .tup [.agg (AD ((Bj s dev).getD (0,0))), .v (.bool (Bj s dev).isSome)]):=by
 have hfew:=hs.few;refine enter Tryz.func229 rfl rfl rfl rfl rfl 0 rfl ?_;refine w_ (b_ (h:=Ac (h:=a_ (h:=e_ (q_ (w_ (f_ (h:=l_ (h:=n_ (h:=m_ (h:=e_ (Af (?_)))))))))))));refine BW (fun m t=>∃j:Nat,j≤s.mounts.length∧m=s.mounts.length - j∧(∀i y,i<j→s.mounts[i]?=some y→decide (y.1=dev)=false)∧t=⟨look [(1, .v (.int .i64 dev)),(4, .bp 1 0),(9, .sl 3 (s.mounts.map Co) none),(10, .v (.int .i64 ((s.mounts.map Co).length:Int))),(11, .v (.int .i64 (j:Int)))],⟨[Aj s,[.v (.int .i64 0), .v (.int .i64 0)]],[]⟩⟩) (s.mounts.length) ((wk 2 0)) (⟨0,by omega,rfl,fun i y hi=>by omega,rfl⟩) ?_;rintro m t ⟨j,hj,rfl,ha,rfl⟩;refine w_ (B1 (h:=e_ (q_ (?_))));refine A9 rfl (fun hb1=>?_) (fun hb1=>?_)
 ·have hc1:=bp hb1;obtain⟨hlt,x,hy,hrow, -⟩:=Bv Co hc1;refine AE (q_ (Af (w_ (i_ (h:=l_ (h:=Ac (h:=s_ (h:=e_ (w_ (f_ (h:=l_ (h:=m_ (h:=AN (h:=e_ (?_)))))))))))))));refine A9 rfl (fun hb2=>?_) (fun hb2=>?_)
  ·have hc2:=bp hb2;refine w_ (f_ (h:=l_ (h:=s_ (h:=a_ (h:=e_ (A4 (AP (A7 (A7 (AP (A7 (?_))))))))))));refine A8 ?_;rw[show Bj s dev=some x.2 by simp only[Bj];rw[GT hy (by simpa using hc2) ha];rfl];rfl
  have hc2:=bp hb2;refine Aw (Al (t_ (AW (BE (h:=m_ (h:=AQ (?_)))))));refine AK ?_;refine⟨_,_,?_,⟨j+1,by omega,rfl,FO hy ha (by simpa using hc2),rfl⟩,(wk 2 0)⟩;omega
 have hc1:=bp hb1;have e3:=CM Co hj hc1;subst e3;refine BL (Ai (Ai (BM (t_ (w_ (Ab (h:=s_ (h:=a_ (h:=e_ (A4 (?_)))))))))));refine A8 ?_;rw[show Bj s dev=none by simp only[Bj];rw[GU ha];rfl];rfl
theorem Rf(s:Spc)(dev:Int)(hs:SpcB s):AFn prog 187 [.agg (Aj s), .v (.int .i64 dev)] (fun r=>r= .v (.bool (C3 s dev))):=by
 refine enter Tryz.func187 rfl rfl rfl rfl rfl 0 rfl ?_;refine w_ (b_ (h:=a_ (h:=e_ (q_ (w_ (m_ (h:=AN (h:=e_ (?_)))))))));refine A9 rfl (fun hb1=>?_) (fun hb1=>?_)
 ·have hc1:=bp hb1;refine w_ (a_ (h:=e_ (A4 (A7 (?_)))));refine A8 ?_;exact vb (by unfold C3;simp[hc1])
 have hc1:=bp hb1;refine AE (w_ (l_ (h:=m_ (h:=?_))));refine A6 rfl (AJ (OV s dev hs) ?_);rintro r rfl;refine m_ (h:=x_ (h:=x_ (h:=Ac (h:=s_ (h:=a_ (h:=e_ (w_ (m_ (h:=a_ (h:=e_ (A4 (?_))))))))))));refine A8 ?_;exact vb (by unfold C3;simp[hc1])
theorem Vw(s:Spc)(a:AA)(hs:SpcB s):AFn prog 280 [.agg (Aj s), .agg (AD a)] (fun r=>r= .tup [.v (.int .i64 ((Bw s a).getD 0)), .v (.bool (Bw s a).isSome)]):=by
 have hfew:=hs.few;refine enter Tryz.func280 rfl rfl rfl rfl rfl 0 rfl ?_;refine w_ (b_ (h:=b_ (h:=a_ (h:=a_ (h:=e_ (q_ (w_ (f_ (h:=l_ (h:=n_ (h:=m_ (h:=e_ (Af (?_))))))))))))));refine BW (fun m t=>∃j:Nat,j≤s.mounts.length∧m=s.mounts.length - j∧(∀i y,i<j→s.mounts[i]?=some y→decide (y.2=a)=false)∧t=⟨look [(3, .bp 1 0),(9, .sl 3 (s.mounts.map Co) none),(10, .v (.int .i64 ((s.mounts.map Co).length:Int))),(11, .v (.int .i64 (j:Int)))],⟨[Aj s,AD a],[]⟩⟩) (s.mounts.length) ((wk 2 0)) (⟨0,by omega,rfl,fun i y hi=>by omega,rfl⟩) ?_;rintro m t ⟨j,hj,rfl,ha,rfl⟩;refine w_ (B1 (h:=e_ (q_ (?_))));refine A9 rfl (fun hb1=>?_) (fun hb1=>?_)
 ·have hc1:=bp hb1;obtain⟨hlt,x,hy,hrow, -⟩:=Bv Co hc1;refine AE (q_ (Af (w_ (i_ (h:=l_ (h:=Ac (h:=s_ (h:=e_ (w_ (f_ (h:=l_ (h:=l_ (h:=?_)))))))))))));refine A6 rfl (Ea rfl rfl (by repeat constructor) (by repeat constructor) (fun w=>Kh _ _ _ _ w) (by kernel_rfl) ?_);refine e_ (?_);refine A9 rfl (fun hb2=>?_) (fun hb2=>?_)
  ·have hc2:=bp hb2;refine w_ (f_ (h:=l_ (h:=a_ (h:=a_ (h:=e_ (A4 (AP (A7 (A7 (AP (A7 (?_))))))))))));refine A8 ?_;rw[show Bw s a=some x.1 by simp only[Bw];rw[GT hy (decide_eq_true hc2) ha];rfl];rfl
  have hc2:=bp hb2;refine Aw (Al (t_ (AW (BE (h:=m_ (h:=AQ (?_)))))));refine AK ?_;refine⟨_,_,?_,⟨j+1,by omega,rfl,FO hy ha (decide_eq_false hc2),rfl⟩,(wk 2 0)⟩;omega
 have hc1:=bp hb1;have e3:=CM Co hj hc1;subst e3;refine BL (Ai (Ai (BM (t_ (w_ (a_ (h:=a_ (h:=e_ (A4 (?_))))))))));refine A8 ?_;rw[show Bw s a=none by simp only[Bw];rw[GU ha];rfl];rfl
end
def G4(t:Tst):Nat→Bool
 |0=>false
 |k+1=>G4 t k||decide (BQ t ((k:Int)+1)=0)
def H6(t:Tst):Bool:=G4 t 5
theorem Ki(t:Tst):∀k,G4 t k=true↔∃j:Nat,j<k∧BQ t ((j:Int)+1)=0
 |0=>by simp[G4]
 |k+1=>by
   simp only[G4,Bool.or_eq_true,Ki t k,decide_eq_true_eq];constructor
   ·rintro(⟨j,h1,h2⟩|h)
    ·exact⟨j,by omega,h2⟩
    exact⟨k,by omega,h⟩
   rintro⟨j,h1,h2⟩;rcases Nat.lt_or_ge j k with h|h
   ·exact .inl ⟨j,h,h2⟩
   have:j=k:=by omega
   subst this;exact .inr h2
theorem Vx{t:Tst}{k:Nat}(hk:k≤5)(h:G4 t k=true):H6 t=true:=by
 obtain⟨j,h1,h2⟩:=(Ki t k).1 h;exact(Ki t 5).2 ⟨j,by omega,h2⟩
theorem Vy{t:Tst}{k:Nat}(hk:k≤5)(h5:5≤k)(h:G4 t k=false):H6 t=false:=by
 obtain rfl:k=5:=by omega
 exact h
theorem Rg{list f:Int}(h:D9 list f=true):1≤f∧f≤22:=by
 unfold D9 C6 at h
 (repeat' split at h)<;>simp at h<;>omega
theorem Rh{f:Int}(h:DA f=true):D0 f=false:=by
 unfold DA at h;unfold D0;simp at h ⊢;omega
theorem Ri{t:Tst}(h:H6 t=true):RX t:=by
 obtain⟨j,_,h2⟩:=(Ki t 5).1 h;generalize (j:Int)+1=list at h2;unfold BQ at h2;split at h2
 ·cases h2
 rename_i h3;split at h2
 ·cases h2
 rename_i h4;simp only[not_or,not_and]at h3 h4;have ha:=Rg (by simpa using h3.1);refine⟨ha.1,ha.2,?_,by omega,by omega⟩;by_cases ho:t.other=0
 ·exact .inl ho
 obtain⟨h5,h6,h7⟩:=h3.2 ho;have hb:=Rg (list:=list) (f:=t.other) (by simpa using h5);exact .inr ⟨hb.1,hb.2,Rh (by simpa using h7)⟩
def Jb(y:Itm):Bool:= !decide (y.file=(0,0))
def J6(t:Tst)(c:Ctx):Bool:=
 if H6 t=false then false else if Fd t.fld=false∧Fd t.other=false then Ee t c Itm.zero else c.items.any fun y=>Jb y&&Ee t c y
def Md(t:Tst)(c:Ctx):Bool:=
 if H6 t=false∨Ez t.fld c=false∨t.other≠0∧Ez t.other c=false then false else if Fd t.fld=false∧Fd t.other=false then JZ t c Itm.zero else c.items.any fun y=>Jb y&&JZ t c y
theorem Rj{α:Type}(p:α→Bool)(l:List α)(k:Nat){x:α}(hx:l[k]?=some x):(l.take (k+1)).any p=((l.take k).any p||p x):=by
 obtain⟨hk,e⟩:=Ah.1 hx;rw[List.take_succ_eq_append_getElem hk,List.any_append,e];simp
theorem Vz{α:Type}{p:α→Bool}{l:List α}{k:Nat}{x:α}(hx:l[k]?=some x)(h:p x=true):l.any p=true:=
 List.any_eq_true.2 ⟨x,Ar hx,h⟩
section
theorem W8(a b c d:Int)(w:World):(binOp .neq 26 (.agg #[.int .i64 a, .int .i64 b]) (.agg #[.int .i64 c, .int .i64 d])).run prog w= .ok (.bool (!decide ((a,b)=(c,d)))) w:=by
 rw[OS .neq a b c d w (.inr rfl)];simp
theorem WA(t:Tst)(c:Ctx)(k:Cxs)(hn:c.items.length≤1000):AFn prog 113 [.agg (CF t), .agg (DX c k)] (fun r=>r= .v (.bool (J6 t c))):=by
 refine enter Tryz.func113 rfl rfl rfl rfl rfl 0 rfl ?_;refine w_ (b_ (h:=b_ (h:=a_ (h:=e_ (w_ (a_ (h:=e_ (q_ (w_ (a_ (h:=e_ (Af (?_)))))))))))));refine BW (fun n s=>∃j:Nat,j≤5∧n=5 - j∧s=⟨look [(2, .bp 0 0),(3, .bp 1 0),(4, .v (.bool false)),(5, .v (.bool (G4 t j))),(6, .v (.int .i64 ((j:Int)+1)))],⟨[CF t,DX c k],[]⟩⟩) (5) ((wk 2 0)) (⟨0,by omega,rfl,rfl⟩) ?_;rintro n s ⟨j,hj,rfl,rfl⟩;refine q_ (w_ (m_ (h:=EC (h:=e_ (?_)))));refine A9 rfl (fun hb1=>?_) (fun hb1=>?_)
 ·have hc1:=bp hb1;refine AE (q_ (Af (AW (m_ (h:=m_ (h:=?_))))));refine AR false rfl rfl (fun hb2=>?_) (fun hb2=>?_)
  ·have hc2:=bp hb2;refine A3 (h:=A3 (h:=A3 (h:=A3 (h:=AB (h:=a_ (h:=AQ (Al (t_ (AW (m_ (h:=BE (h:=a_ (h:=AQ (?_))))))))))))));refine AK ?_;refine⟨_,_,?_,⟨j+1,by omega,rfl,rfl⟩,Az 2 0 rfl rfl rfl rfl (by repeat (first|exact Sub.nil|refine B0 rfl rfl ?_|refine B3 ?_|refine B4 rfl ?_|refine B5 rfl ?_|(apply Sub.of;(focus exact rfl);(focus exact LeA.of_eq (vb (by simp[G4, *])));(focus exact rfl))))⟩;omega
  have hc2:=bp hb2;refine l_ (h:=m_ (h:=?_));refine Av (AJ (RW _ _) ?_);rintro r rfl;refine AN (h:=AF (h:=a_ (h:=AQ (Al (t_ (AW (m_ (h:=BE (h:=a_ (h:=AQ (?_)))))))))));refine AK ?_;refine⟨_,_,?_,⟨j+1,by omega,rfl,rfl⟩,Az 2 0 rfl rfl rfl rfl (by repeat (first|exact Sub.nil|refine B0 rfl rfl ?_|refine B3 ?_|refine B4 rfl ?_|refine B5 rfl ?_|(apply Sub.of;(focus exact rfl);(focus exact LeA.of_eq (vb (by simp[G4, *])));(focus exact rfl))))⟩;omega
 have hc1:=bp hb1;refine BL (Ai (Ai (BM (t_ (q_ (w_ (m_ (h:=BB (h:=e_ (?_))))))))));refine A9 rfl (fun hb3=>?_) (fun hb3=>?_)
 ·have hc3:=bp hb3;have hs:=Vy hj (by omega) hc3;refine w_ (a_ (h:=e_ (A4 (A7 (?_)))));refine A8 ?_
  first|(exfalso;first|contradiction|omega)|(exact vb (by simp[J6,hs]))
 have hc3:=bp hb3;have hs:=Vx hj hc3;have ht:=Ri hs;refine AE (q_ (?_));refine EO (⟨look [(2, .bp 0 0),(3, .bp 1 0),(4, .v (.bool false)),(31, .v (.bool (!Fd t.fld&& !Fd t.other)))],⟨[CF t,DX c k],[]⟩⟩) ?_ ?_
 ·skip
  refine AW (f_ (h:=l_ (h:=?_)));refine A6 rfl (AJ (RO _) ?_);rintro r rfl;refine BB (h:=m_ (h:=?_));refine AR true rfl rfl (fun hb4=>?_) (fun hb4=>?_)
  ·have hc4:=bp hb4;refine f_ (h:=l_ (h:=?_));refine Av (AJ (RO _) ?_);rintro r rfl;refine BB (h:=AB (h:=AQ (?_)));refine AK ?_
   first|(exfalso;first|contradiction|omega)|exact Az 2 0 rfl rfl rfl rfl (by repeat (first|exact Sub.nil|refine B0 rfl rfl ?_|refine B3 ?_|refine B4 rfl ?_|refine B5 rfl ?_|(apply Sub.of;(focus exact rfl);(focus exact LeA.of_eq (vb (by simp[*])));(focus exact rfl))))
  have hc4:=bp hb4;refine A3 (h:=A3 (h:=A3 (h:=A3 (h:=AF (h:=AQ (?_))))));refine AK ?_
  first|(exfalso;first|contradiction|omega)|exact Az 2 0 rfl rfl rfl rfl (by repeat (first|exact Sub.nil|refine B0 rfl rfl ?_|refine B3 ?_|refine B4 rfl ?_|refine B5 rfl ?_|(apply Sub.of;(focus exact rfl);(focus exact LeA.of_eq (vb (by simp[*])));(focus exact rfl))))
 skip
 refine A9 rfl (fun hb5=>?_) (fun hb5=>?_)
 ·have hc5:=bp hb5;simp at hc5;refine w_ (l_ (h:=l_ (h:=Ab (h:=?_))));refine A6 rfl (AJ (RY t c k Itm.zero ht) ?_);rintro r rfl;refine a_ (h:=e_ (A4 (A7 (?_))));refine A8 ?_
  first|(exfalso;first|contradiction|omega)|(exact vb (by simp[J6,hs,hc5]))
 have hc5:=bp hb5;have hi:¬(Fd t.fld=false∧Fd t.other=false):=by simpa using hc5
 refine AE (q_ (w_ (f_ (h:=l_ (h:=n_ (h:=m_ (h:=e_ (Af (?_)))))))));refine BW (fun n s=>∃j:Nat,j≤c.items.length∧n=c.items.length - j∧(c.items.take j).any (fun y=>Jb y&&Ee t c y)=false∧s=⟨look [(2, .bp 0 0),(3, .bp 1 0),(37, .sl 13 (c.items.map DW) none),(38, .v (.int .i64 ((c.items.map DW).length:Int))),(39, .v (.int .i64 (j:Int)))],⟨[CF t,DX c k],[]⟩⟩) (c.items.length) ((wk 2 0)) (⟨0,by omega,rfl,rfl,rfl⟩) ?_;rintro n s ⟨j,hj,rfl,ha,rfl⟩;refine w_ (B1 (h:=e_ (q_ (?_))));refine A9 rfl (fun hb6=>?_) (fun hb6=>?_)
 ·have hc6:=bp hb6;obtain⟨hlt,y,hy,hrow, -⟩:=Bv DW hc6;refine AE (q_ (Af (w_ (i_ (h:=l_ (h:=Ac (h:=s_ (h:=e_ (w_ (f_ (h:=l_ (h:=Ab (h:=?_)))))))))))));refine A6 rfl (Ea rfl rfl (by repeat constructor) (by repeat constructor) (fun w=>W8 _ _ _ _ w) (by kernel_rfl) ?_);refine m_ (h:=?_);refine AR true rfl rfl (fun hb7=>?_) (fun hb7=>?_)
  ·have hc7:=bp hb7;refine l_ (h:=l_ (h:=l_ (h:=?_)));refine Av (AJ (RY t c k y ht) ?_);rintro r rfl;refine AB (h:=e_ (?_));refine A9 rfl (fun hb8=>?_) (fun hb8=>?_)
   ·have hc8:=bp hb8;refine w_ (a_ (h:=e_ (A4 (AP (A7 (A7 (AP (A7 (?_)))))))));refine A8 ?_
    first|(exfalso;first|contradiction|omega)|(exact vb (by rw[J6,if_neg (by simp[hs]),if_neg hi,Vz hy (by simp[Jb, *])]))
   have hc8:=bp hb8;refine Aw (Al (t_ (AW (BE (h:=m_ (h:=AQ (?_)))))));refine AK ?_;refine⟨_,_,?_,⟨j+1,by omega,rfl,(by rw[Rj _ _ _ hy,ha];simp[Jb, *]),rfl⟩,(wk 2 0)⟩;omega
  have hc7:=bp hb7;refine A3 (h:=A3 (h:=A3 (h:=A3 (h:=AF (h:=e_ (Be (h:=Aw (Al (t_ (AW (BE (h:=m_ (h:=AQ (?_))))))))))))));refine AK ?_;refine⟨_,_,?_,⟨j+1,by omega,rfl,(by rw[Rj _ _ _ hy,ha];simp[Jb, *]),rfl⟩,(wk 2 0)⟩;omega
 have hc6:=bp hb6;have e:=CM DW hj hc6;subst e;rw[List.take_length]at ha;refine BL (Ai (Ai (BM (t_ (w_ (a_ (h:=e_ (A4 (?_)))))))));refine A8 ?_
 first|(exfalso;first|contradiction|omega)|(exact vb (by rw[J6,if_neg (by simp[hs]),if_neg hi,ha]))
end
theorem WB{t:Tst}(h:H6 t=true)(h2:t.other≠0):D0 t.fld=false:=by
 obtain⟨j,_,h3⟩:=(Ki t 5).1 h;unfold BQ at h3;split at h3
 ·cases h3
 rename_i h4;simp only[not_or,not_and]at h4;exact Rh (by simpa using(h4.2 h2).2.1)
theorem Rk{f:Int}{c:Ctx}(h1:1≤f)(h2:f≤22)(h3:D0 f=false):Bc f c=Ez f c:=by
 simp only[D0,decide_eq_false_iff_not]at h3;unfold Bc Ez
 (repeat' split)<;>first|omega|(simp;omega)|(simp[*];done)|rfl
theorem WC{f:Int}{c:Ctx}(h:D0 f=true):Ez f c=true:=by
 simp only[D0,decide_eq_true_eq]at h;unfold Ez;rw[if_neg (by omega)];simp;omega
theorem WD{t:Tst}{c:Ctx}(hs:H6 t=true)(y:Itm):Ee t c y=if Ez t.fld c=false∨t.other≠0∧Ez t.other c=false then false else JZ t c y:=by
 obtain⟨f1,f2,o, -, -⟩:=Ri hs;have h2:=WB hs;by_cases ht:D0 t.fld=true
 ·have ho:t.other=0:=Classical.byContradiction fun e=>by simp[h2 e]at ht
  rw[if_neg (by simp[WC ht,ho])];simp[Ee,JZ,ht]
 have ht':D0 t.fld=false:=by simpa using ht
 have e1:=Rk (c:=c) f1 f2 ht';by_cases h0:t.other=0
 ·simp only[Ee,JZ,ht',e1,h0];cases Ez t.fld c<;>simp
 obtain⟨o1,o2,o3⟩:=o.resolve_left h0;have e2:=Rk (c:=c) o1 o2 o3;simp only[Ee,JZ,ht',e1,e2,h0];cases Ez t.fld c<;>cases Ez t.other c<;>simp[h0]
theorem Rl(t:Tst)(c:Ctx):J6 t c=Md t c:=by
 unfold J6 Md
 cases hs:H6 t with
 |false=>simp
 |true=>
   simp only[WD hs];by_cases hq:Ez t.fld c=false∨t.other≠0∧Ez t.other c=false
   ·simp[hq]
   simp[hq]
end Go.Proofs.YtbgnigjfkbmceaaGreatDoor
