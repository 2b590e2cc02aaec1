/-
  Part 5 of the proof of FilterChangesP: what the statement's proof uses of the texts in wip/tpl.
-/
import Derived.Laws.StructEq
import Derived.Test.YtbgnigjfkbmceaaGreatDoorQa4
open Go.Proofs.Tryz (prog)
set_option maxRecDepth 10000
set_option maxHeartbeats 4000000
set_option linter.unusedVariables false
set_option linter.unusedSimpArgs false
namespace Go.Proofs.YtbgnigjfkbmceaaGreatDoor
open Go.RowKit
def F4(op a b:Int):Bool:=
 if op=1 then decide (a=b)else if op=2 then !decide (a=b)else if op=3 then decide (a<b)else if op=4 then decide (a≤b)else if op=5 then decide (b<a)
 else if op=6 then decide (b≤a)else if op=7 then !decide (GR .i64 a b=0)else decide (GR .i64 a b=b)
section
theorem RY(op a b:Int)(h1:1≤op)(h2:op≤8):AFn prog 223 [.v (.int .i64 op), .v (.int .i64 a), .v (.int .i64 b)] (fun r=>r= .v (.bool (F4 op a b))):=by
 refine enter Tryz.func223 rfl rfl rfl rfl rfl 0 rfl ?_;refine w_ (a_ (h:=e_ (q_ (w_ (m_ (h:=e_ (Af (w_ (AN (h:=a_ (h:=e_ (?_))))))))))));refine A9 rfl (fun hb1=>?_) (fun hb1=>?_)
 ·have hc1:=bp hb1;refine w_ (m_ (h:=m_ (h:=AN (h:=a_ (h:=e_ (A4 (AR (A7 (?_)))))))));refine A8 ?_
  first|(exfalso;first|contradiction|omega)|(exact vb (by unfold F4;simp[*]))
 have hc1:=bp hb1;refine w_ (AN (h:=a_ (h:=e_ (?_))));refine A9 rfl (fun hb2=>?_) (fun hb2=>?_)
 ·have hc2:=bp hb2;refine w_ (m_ (h:=m_ (h:=Aj (h:=a_ (h:=e_ (A4 (AR (A7 (?_)))))))));refine A8 ?_
  first|(exfalso;first|contradiction|omega)|(exact vb (by unfold F4;simp[*]))
 have hc2:=bp hb2;refine w_ (AN (h:=a_ (h:=e_ (?_))));refine A9 rfl (fun hb3=>?_) (fun hb3=>?_)
 ·have hc3:=bp hb3;refine w_ (m_ (h:=m_ (h:=B1 (h:=a_ (h:=e_ (A4 (AR (A7 (?_)))))))));refine A8 ?_
  first|(exfalso;first|contradiction|omega)|(exact vb (by unfold F4;simp[*]))
 have hc3:=bp hb3;refine w_ (AN (h:=a_ (h:=e_ (?_))));refine A9 rfl (fun hb4=>?_) (fun hb4=>?_)
 ·have hc4:=bp hb4;refine w_ (m_ (h:=m_ (h:=EJ (h:=a_ (h:=e_ (A4 (AR (A7 (?_)))))))));refine A8 ?_
  first|(exfalso;first|contradiction|omega)|(exact vb (by unfold F4;simp[*]))
 have hc4:=bp hb4;refine w_ (AN (h:=a_ (h:=e_ (?_))));refine A9 rfl (fun hb5=>?_) (fun hb5=>?_)
 ·have hc5:=bp hb5;refine w_ (m_ (h:=m_ (h:=Bf (h:=a_ (h:=e_ (A4 (AR (A7 (?_)))))))));refine A8 ?_
  first|(exfalso;first|contradiction|omega)|(exact vb (by unfold F4;simp[*]))
 have hc5:=bp hb5;refine w_ (AN (h:=a_ (h:=e_ (?_))));refine A9 rfl (fun hb6=>?_) (fun hb6=>?_)
 ·have hc6:=bp hb6;refine w_ (m_ (h:=m_ (h:=D4 (h:=a_ (h:=e_ (A4 (AR (A7 (?_)))))))));refine A8 ?_
  first|(exfalso;first|contradiction|omega)|(exact vb (by unfold F4;simp[*]))
 have hc6:=bp hb6;refine w_ (AN (h:=a_ (h:=e_ (?_))));refine A9 rfl (fun hb7=>?_) (fun hb7=>?_)
 ·have hc7:=bp hb7;refine w_ (m_ (h:=m_ (h:=Mg (h:=Aj (h:=a_ (h:=e_ (A4 (AR (A7 (?_))))))))));refine A8 ?_
  first|(exfalso;first|contradiction|omega)|(exact vb (by unfold F4;simp[*]))
 have hc7:=bp hb7;refine w_ (AN (h:=a_ (h:=e_ (?_))));refine A9 rfl (fun hb8=>?_) (fun hb8=>?_)
 ·have hc8:=bp hb8;refine w_ (m_ (h:=m_ (h:=Mg (h:=m_ (h:=AN (h:=a_ (h:=e_ (A4 (AR (A7 (?_)))))))))));refine A8 ?_
  first|(exfalso;first|contradiction|omega)|(exact vb (by unfold F4;simp[*]))
 have hc8:=bp hb8;refine Av (Ai (t_ (w_ (a_ (h:=e_ (A4 (?_)))))));refine A8 ?_
 first|(exfalso;first|contradiction|omega)|(exact vb (by unfold F4;simp[*]))
theorem Vz(f:Int)(c:Ctx)(k:Cxs)(y:Itm)(h1:15≤f)(h2:f≤21):AFn prog 254 [.v (.int .i64 f), .agg (De c k), .agg (Dd y)] (fun r=>r= .tup [.v (.int .i64 (Ch f c y)), .v (.bool true)]):=by
 refine enter Tryz.func254 rfl rfl rfl rfl rfl 0 rfl ?_;refine w_ (b_ (h:=b_ (h:=a_ (h:=a_ (h:=e_ (q_ (w_ (m_ (h:=e_ (Af (w_ (AN (h:=a_ (h:=e_ (?_)))))))))))))));refine A9 rfl (fun hb1=>?_) (fun hb1=>?_)
 ·have hc1:=bp hb1;refine w_ (f_ (h:=l_ (h:=a_ (h:=a_ (h:=e_ (A4 (AR (A7 (?_)))))))));refine A8 ?_
  first|(exfalso;first|contradiction|omega)|(exact congrArg (fun z=>AV.tup [.v (.int .i64 z), .v (.bool true)]) (by unfold Ch;simp[*]))
 have hc1:=bp hb1;refine w_ (AN (h:=a_ (h:=e_ (?_))));refine A9 rfl (fun hb2=>?_) (fun hb2=>?_)
 ·have hc2:=bp hb2;refine q_ (w_ (f_ (h:=l_ (h:=D4 (h:=e_ (?_))))));refine A9 rfl (fun hb3=>?_) (fun hb3=>?_)
  ·have hc3:=bp hb3;refine w_ (a_ (h:=a_ (h:=e_ (A4 (A7 (AR (A7 (?_))))))));refine A8 ?_
   first|(exfalso;first|contradiction|omega)|(exact congrArg (fun z=>AV.tup [.v (.int .i64 z), .v (.bool true)]) (by unfold Ch;simp[*]))
  have hc3:=bp hb3;refine AA (w_ (a_ (h:=a_ (h:=e_ (A4 (AR (A7 (?_))))))));refine A8 ?_
  first|(exfalso;first|contradiction|omega)|(exact congrArg (fun z=>AV.tup [.v (.int .i64 z), .v (.bool true)]) (by unfold Ch;simp[*]))
 have hc2:=bp hb2;refine w_ (AN (h:=a_ (h:=e_ (?_))));refine A9 rfl (fun hb4=>?_) (fun hb4=>?_)
 ·have hc4:=bp hb4;refine w_ (f_ (h:=f_ (h:=l_ (h:=a_ (h:=a_ (h:=e_ (A4 (AR (A7 (?_))))))))));refine A8 ?_
  first|(exfalso;first|contradiction|omega)|(exact congrArg (fun z=>AV.tup [.v (.int .i64 z), .v (.bool true)]) (by unfold Ch;simp[*]))
 have hc4:=bp hb4;refine w_ (AN (h:=a_ (h:=e_ (?_))));refine A9 rfl (fun hb5=>?_) (fun hb5=>?_)
 ·have hc5:=bp hb5;refine w_ (f_ (h:=f_ (h:=l_ (h:=a_ (h:=a_ (h:=e_ (A4 (AR (A7 (?_))))))))));refine A8 ?_
  first|(exfalso;first|contradiction|omega)|(exact congrArg (fun z=>AV.tup [.v (.int .i64 z), .v (.bool true)]) (by unfold Ch;simp[*]))
 have hc5:=bp hb5;refine w_ (AN (h:=a_ (h:=e_ (?_))));refine A9 rfl (fun hb6=>?_) (fun hb6=>?_)
 ·have hc6:=bp hb6;refine w_ (f_ (h:=l_ (h:=a_ (h:=a_ (h:=e_ (A4 (AR (A7 (?_)))))))));refine A8 ?_
  first|(exfalso;first|contradiction|omega)|(exact congrArg (fun z=>AV.tup [.v (.int .i64 z), .v (.bool true)]) (by unfold Ch;simp[*]))
 have hc6:=bp hb6;refine w_ (AN (h:=a_ (h:=e_ (?_))));refine A9 rfl (fun hb7=>?_) (fun hb7=>?_)
 ·have hc7:=bp hb7;refine w_ (f_ (h:=l_ (h:=a_ (h:=a_ (h:=e_ (A4 (AR (A7 (?_)))))))));refine A8 ?_
  first|(exfalso;first|contradiction|omega)|(exact congrArg (fun z=>AV.tup [.v (.int .i64 z), .v (.bool true)]) (by unfold Ch;simp[*]))
 have hc7:=bp hb7;refine w_ (AN (h:=a_ (h:=e_ (?_))));refine A9 rfl (fun hb8=>?_) (fun hb8=>?_)
 ·have hc8:=bp hb8;refine w_ (f_ (h:=l_ (h:=a_ (h:=a_ (h:=e_ (A4 (AR (A7 (?_)))))))));refine A8 ?_
  first|(exfalso;first|contradiction|omega)|(exact congrArg (fun z=>AV.tup [.v (.int .i64 z), .v (.bool true)]) (by unfold Ch;simp[*]))
 have hc8:=bp hb8;refine Av (Ai (t_ (w_ (a_ (h:=a_ (h:=e_ (A4 (?_))))))));refine A8 ?_
 first|(exfalso;first|contradiction|omega)|(exact congrArg (fun z=>AV.tup [.v (.int .i64 z), .v (.bool true)]) (by unfold Ch;simp[*]))
def NumP(f:Int)(c:Ctx)(y:Itm)(r:AV):Prop:=∃n,r= .tup [.v (.int .i64 n), .v (.bool (Bg f c))]∧(Bg f c=true→n=Ch f c y)
theorem NumP.mk{f n:Int}{c:Ctx}{y:Itm}{b:Bool}(hb:b=Bg f c)(hn:Bg f c=true→n=Ch f c y):NumP f c y (.tup [.v (.int .i64 n), .v (.bool b)]):=⟨n,by rw[hb],hn⟩
theorem RZ(f:Int)(c:Ctx)(k:Cxs)(y:Itm)(h1:1≤f)(h2:f≤22)(ht:D5 f=false):AFn prog 222 [.v (.int .i64 f), .agg (De c k), .agg (Dd y)] (NumP f c y):=by
 simp only[D5,decide_eq_false_iff_not]at ht;refine enter Tryz.func222 rfl rfl rfl rfl rfl 0 rfl ?_;refine w_ (b_ (h:=b_ (h:=a_ (h:=a_ (h:=e_ (q_ (w_ (m_ (h:=e_ (Af (w_ (AN (h:=a_ (h:=e_ (?_)))))))))))))));refine A9 rfl (fun hb1=>?_) (fun hb1=>?_)
 ·have hc1:=bp hb1;refine w_ (f_ (h:=f_ (h:=l_ (h:=a_ (h:=a_ (h:=e_ (A4 (AR (A7 (?_))))))))));refine A8 ?_
  first|(exfalso;first|contradiction|omega)|(exact NumP.mk (by unfold Bg;(repeat' split)<;>(first|omega|(simp[*];done)|(simp;omega)|(simp at *;omega))) (fun hq=>by first|(unfold Ch;simp[*];done)|(unfold Bg at hq;simp[*]at hq;omega)|(unfold Bg at hq;simp[*]at hq)))
 have hc1:=bp hb1;refine w_ (AN (h:=a_ (h:=e_ (?_))));refine A9 rfl (fun hb2=>?_) (fun hb2=>?_)
 ·have hc2:=bp hb2;refine w_ (f_ (h:=f_ (h:=l_ (h:=a_ (h:=a_ (h:=e_ (A4 (AR (A7 (?_))))))))));refine A8 ?_
  first|(exfalso;first|contradiction|omega)|(exact NumP.mk (by unfold Bg;(repeat' split)<;>(first|omega|(simp[*];done)|(simp;omega)|(simp at *;omega))) (fun hq=>by first|(unfold Ch;simp[*];done)|(unfold Bg at hq;simp[*]at hq;omega)|(unfold Bg at hq;simp[*]at hq)))
 have hc2:=bp hb2;refine w_ (AN (h:=a_ (h:=e_ (?_))));refine A9 rfl (fun hb3=>?_) (fun hb3=>?_)
 ·have hc3:=bp hb3;refine w_ (f_ (h:=f_ (h:=l_ (h:=a_ (h:=a_ (h:=e_ (A4 (AR (A7 (?_))))))))));refine A8 ?_
  first|(exfalso;first|contradiction|omega)|(exact NumP.mk (by unfold Bg;(repeat' split)<;>(first|omega|(simp[*];done)|(simp;omega)|(simp at *;omega))) (fun hq=>by first|(unfold Ch;simp[*];done)|(unfold Bg at hq;simp[*]at hq;omega)|(unfold Bg at hq;simp[*]at hq)))
 have hc3:=bp hb3;refine w_ (AN (h:=a_ (h:=e_ (?_))));refine A9 rfl (fun hb4=>?_) (fun hb4=>?_)
 ·have hc4:=bp hb4;refine w_ (f_ (h:=f_ (h:=l_ (h:=a_ (h:=a_ (h:=e_ (A4 (AR (A7 (?_))))))))));refine A8 ?_
  first|(exfalso;first|contradiction|omega)|(exact NumP.mk (by unfold Bg;(repeat' split)<;>(first|omega|(simp[*];done)|(simp;omega)|(simp at *;omega))) (fun hq=>by first|(unfold Ch;simp[*];done)|(unfold Bg at hq;simp[*]at hq;omega)|(unfold Bg at hq;simp[*]at hq)))
 have hc4:=bp hb4;refine w_ (AN (h:=a_ (h:=e_ (?_))));refine A9 rfl (fun hb5=>?_) (fun hb5=>?_)
 ·have hc5:=bp hb5;refine w_ (f_ (h:=f_ (h:=l_ (h:=a_ (h:=a_ (h:=e_ (A4 (AR (A7 (?_))))))))));refine A8 ?_
  first|(exfalso;first|contradiction|omega)|(exact NumP.mk (by unfold Bg;(repeat' split)<;>(first|omega|(simp[*];done)|(simp;omega)|(simp at *;omega))) (fun hq=>by first|(unfold Ch;simp[*];done)|(unfold Bg at hq;simp[*]at hq;omega)|(unfold Bg at hq;simp[*]at hq)))
 have hc5:=bp hb5;refine w_ (AN (h:=a_ (h:=e_ (?_))));refine A9 rfl (fun hb6=>?_) (fun hb6=>?_)
 ·have hc6:=bp hb6;refine w_ (f_ (h:=f_ (h:=l_ (h:=a_ (h:=a_ (h:=e_ (A4 (AR (A7 (?_))))))))));refine A8 ?_
  first|(exfalso;first|contradiction|omega)|(exact NumP.mk (by unfold Bg;(repeat' split)<;>(first|omega|(simp[*];done)|(simp;omega)|(simp at *;omega))) (fun hq=>by first|(unfold Ch;simp[*];done)|(unfold Bg at hq;simp[*]at hq;omega)|(unfold Bg at hq;simp[*]at hq)))
 have hc6:=bp hb6;refine w_ (AN (h:=a_ (h:=e_ (?_))));refine A9 rfl (fun hb7=>?_) (fun hb7=>?_)
 ·have hc7:=bp hb7;refine w_ (f_ (h:=f_ (h:=l_ (h:=a_ (h:=a_ (h:=e_ (A4 (AR (A7 (?_))))))))));refine A8 ?_
  first|(exfalso;first|contradiction|omega)|(exact NumP.mk (by unfold Bg;(repeat' split)<;>(first|omega|(simp[*];done)|(simp;omega)|(simp at *;omega))) (fun hq=>by first|(unfold Ch;simp[*];done)|(unfold Bg at hq;simp[*]at hq;omega)|(unfold Bg at hq;simp[*]at hq)))
 have hc7:=bp hb7;refine w_ (AN (h:=a_ (h:=e_ (?_))));refine A9 rfl (fun hb8=>?_) (fun hb8=>?_)
 ·have hc8:=bp hb8;refine w_ (f_ (h:=f_ (h:=l_ (h:=a_ (h:=a_ (h:=e_ (A4 (AR (A7 (?_))))))))));refine A8 ?_
  first|(exfalso;first|contradiction|omega)|(exact NumP.mk (by unfold Bg;(repeat' split)<;>(first|omega|(simp[*];done)|(simp;omega)|(simp at *;omega))) (fun hq=>by first|(unfold Ch;simp[*];done)|(unfold Bg at hq;simp[*]at hq;omega)|(unfold Bg at hq;simp[*]at hq)))
 have hc8:=bp hb8;refine q_ (w_ (AN (h:=a_ (h:=e_ (?_)))));refine A9 rfl (fun hb9=>?_) (fun hb9=>?_)
 ·have hc9:=bp hb9;refine AA (B6 (h:=w_ (m_ (h:=G8 (h:=f_ (h:=f_ (h:=?_)))))))
  first|refine A6 rfl (EF (n:=0) (len:=4) (sz:=1) (by kernel_rfl) rfl rfl (by omega) rfl ?_)|refine A6 rfl (EF (n:=1) (len:=4) (sz:=1) (by kernel_rfl) rfl rfl (by omega) rfl ?_)|refine A6 rfl (EF (n:=2) (len:=4) (sz:=1) (by kernel_rfl) rfl rfl (by omega) rfl ?_)|refine A6 rfl (EF (n:=3) (len:=4) (sz:=1) (by kernel_rfl) rfl rfl (by omega) rfl ?_)
  refine l_ (h:=a_ (h:=a_ (h:=e_ (A4 (AR (A7 (?_)))))));refine A8 ?_
  first|(exfalso;first|contradiction|omega)|(exact NumP.mk (by unfold Bg;(repeat' split)<;>(first|omega|(simp[*];done)|(simp;omega)|(simp at *;omega))) (fun hq=>by first|(unfold Ch;simp[*];done)|(unfold Bg at hq;simp[*]at hq;omega)|(unfold Bg at hq;simp[*]at hq)))
 have hc9:=bp hb9;refine w_ (AN (h:=a_ (h:=e_ (?_))));refine A9 rfl (fun hb10=>?_) (fun hb10=>?_)
 ·have hc10:=bp hb10;refine AA (B6 (h:=w_ (m_ (h:=G8 (h:=f_ (h:=f_ (h:=?_)))))))
  first|refine A6 rfl (EF (n:=0) (len:=4) (sz:=1) (by kernel_rfl) rfl rfl (by omega) rfl ?_)|refine A6 rfl (EF (n:=1) (len:=4) (sz:=1) (by kernel_rfl) rfl rfl (by omega) rfl ?_)|refine A6 rfl (EF (n:=2) (len:=4) (sz:=1) (by kernel_rfl) rfl rfl (by omega) rfl ?_)|refine A6 rfl (EF (n:=3) (len:=4) (sz:=1) (by kernel_rfl) rfl rfl (by omega) rfl ?_)
  refine l_ (h:=a_ (h:=a_ (h:=e_ (A4 (AR (A7 (?_)))))));refine A8 ?_
  first|(exfalso;first|contradiction|omega)|(exact NumP.mk (by unfold Bg;(repeat' split)<;>(first|omega|(simp[*];done)|(simp;omega)|(simp at *;omega))) (fun hq=>by first|(unfold Ch;simp[*];done)|(unfold Bg at hq;simp[*]at hq;omega)|(unfold Bg at hq;simp[*]at hq)))
 have hc10:=bp hb10;refine w_ (AN (h:=a_ (h:=e_ (?_))));refine A9 rfl (fun hb11=>?_) (fun hb11=>?_)
 ·have hc11:=bp hb11;refine AA (B6 (h:=w_ (m_ (h:=G8 (h:=f_ (h:=f_ (h:=?_)))))))
  first|refine A6 rfl (EF (n:=0) (len:=4) (sz:=1) (by kernel_rfl) rfl rfl (by omega) rfl ?_)|refine A6 rfl (EF (n:=1) (len:=4) (sz:=1) (by kernel_rfl) rfl rfl (by omega) rfl ?_)|refine A6 rfl (EF (n:=2) (len:=4) (sz:=1) (by kernel_rfl) rfl rfl (by omega) rfl ?_)|refine A6 rfl (EF (n:=3) (len:=4) (sz:=1) (by kernel_rfl) rfl rfl (by omega) rfl ?_)
  refine l_ (h:=a_ (h:=a_ (h:=e_ (A4 (AR (A7 (?_)))))));refine A8 ?_
  first|(exfalso;first|contradiction|omega)|(exact NumP.mk (by unfold Bg;(repeat' split)<;>(first|omega|(simp[*];done)|(simp;omega)|(simp at *;omega))) (fun hq=>by first|(unfold Ch;simp[*];done)|(unfold Bg at hq;simp[*]at hq;omega)|(unfold Bg at hq;simp[*]at hq)))
 have hc11:=bp hb11;refine AT (AN (h:=a_ (h:=e_ (?_))));refine A9 rfl (fun hb12=>?_) (fun hb12=>?_)
 ·have hc12:=bp hb12;refine w_ (m_ (h:=G8 (h:=f_ (h:=f_ (h:=?_)))))
  first|refine A6 rfl (EF (n:=0) (len:=4) (sz:=1) (by kernel_rfl) rfl rfl (by omega) rfl ?_)|refine A6 rfl (EF (n:=1) (len:=4) (sz:=1) (by kernel_rfl) rfl rfl (by omega) rfl ?_)|refine A6 rfl (EF (n:=2) (len:=4) (sz:=1) (by kernel_rfl) rfl rfl (by omega) rfl ?_)|refine A6 rfl (EF (n:=3) (len:=4) (sz:=1) (by kernel_rfl) rfl rfl (by omega) rfl ?_)
  refine l_ (h:=a_ (h:=a_ (h:=e_ (A4 (AR (A7 (?_)))))));refine A8 ?_
  first|(exfalso;first|contradiction|omega)|(exact NumP.mk (by unfold Bg;(repeat' split)<;>(first|omega|(simp[*];done)|(simp;omega)|(simp at *;omega))) (fun hq=>by first|(unfold Ch;simp[*];done)|(unfold Bg at hq;simp[*]at hq;omega)|(unfold Bg at hq;simp[*]at hq)))
 have hc12:=bp hb12;refine w_ (AN (h:=a_ (h:=e_ (?_))));refine A9 rfl (fun hb13=>?_) (fun hb13=>?_)
 ·have hc13:=bp hb13;refine q_ (DE 7 (h:=Az 0 (h:=AY 1 (h:=Az 2 (h:=AY 3 (h:=OV 4 (h:=BN 5 (h:=BN 6 (h:=z_ (h:=t_ (A4 (AR (A7 (?_))))))))))))));refine A8 ?_
  first|(exfalso;first|contradiction|omega)|(exact NumP.mk (by unfold Bg;(repeat' split)<;>(first|omega|(simp[*];done)|(simp;omega)|(simp at *;omega))) (fun hq=>by first|(unfold Ch;simp[*];done)|(unfold Bg at hq;simp[*]at hq;omega)|(unfold Bg at hq;simp[*]at hq)))
 have hc13:=bp hb13;refine Av (Ai (t_ (q_ (w_ (f_ (h:=l_ (h:=Aj (h:=e_ (?_)))))))));refine A9 rfl (fun hb14=>?_) (fun hb14=>?_)
 ·have hc14:=bp hb14;refine w_ (a_ (h:=a_ (h:=e_ (A4 (A7 (?_))))));refine A8 ?_
  first|(exfalso;first|contradiction|omega)|(exact NumP.mk (by unfold Bg;(repeat' split)<;>(first|omega|(simp[*];done)|(simp;omega)|(simp at *;omega))) (fun hq=>by first|(unfold Ch;simp[*];done)|(unfold Bg at hq;simp[*]at hq;omega)|(unfold Bg at hq;simp[*]at hq)))
 have hc14:=bp hb14;refine AA (w_ (m_ (h:=l_ (h:=l_ (h:=?_)))));refine A6 rfl (AE (Vz f c k y (by omega) (by omega)) ?_);rintro r rfl;refine x_ (h:=x_ (h:=a_ (h:=a_ (h:=e_ (A4 (?_))))));refine A8 ?_
 first|(exfalso;first|contradiction|omega)|(exact NumP.mk (by unfold Bg;(repeat' split)<;>(first|omega|(simp[*];done)|(simp;omega)|(simp at *;omega))) (fun hq=>by first|(unfold Ch;simp[*];done)|(unfold Bg at hq;simp[*]at hq;omega)|(unfold Bg at hq;simp[*]at hq)))
end
theorem Ra(s:AJ):s=⟨#[]⟩↔s.size=0:=by
 constructor
 ·intro h;rw[h];rfl
 intro h
 cases s with
 |mk a=>
   have:a=#[]:=Array.eq_empty_of_size_eq_zero h;rw[this]
section
theorem Rb(t:Tst)(list:Int):AFn prog 159 [.agg (CM t), .v (.int .i64 list)] (fun r=>r= .v (.int .i64 (BS t list))):=by
 have hz:=Ra t.text;refine enter Tryz.func159 rfl rfl rfl rfl rfl 0 rfl ?_;refine w_ (b_ (h:=a_ (h:=e_ (q_ (w_ (m_ (h:=f_ (h:=l_ (h:=?_)))))))));refine A6 rfl (AE (RW _ _) ?_);rintro r rfl;refine B7 (h:=e_ (?_));refine A9 rfl (fun hb1=>?_) (fun hb1=>?_)
 ·have hc1:=bp hb1;refine w_ (a_ (h:=e_ (A4 (A7 (?_)))));refine A8 ?_
  first|(exfalso;first|contradiction|omega)|(exact vi (by unfold BS;grind))
 have hc1:=bp hb1;refine AA (q_ (w_ (f_ (h:=l_ (h:=Aj (h:=m_ (h:=?_)))))));refine AU true rfl rfl (fun hb2=>?_) (fun hb2=>?_)
 ·have hc2:=bp hb2;refine m_ (h:=f_ (h:=l_ (h:=?_)));refine Ax (AE (RW _ _) ?_);rintro r rfl;refine B7 (h:=m_ (h:=?_));refine AU false rfl rfl (fun hb3=>?_) (fun hb3=>?_)
  ·have hc3:=bp hb3;refine A3 (h:=A3 (h:=A3 (h:=A3 (h:=AD (h:=m_ (h:=A3 (h:=A3 (h:=A3 (h:=A3 (h:=AD (h:=AD (h:=e_ (B6 (h:=w_ (a_ (h:=e_ (A4 (A7 (?_)))))))))))))))))));refine A8 ?_
   first|(exfalso;first|contradiction|omega)|(exact vi (by unfold BS;grind))
  have hc3:=bp hb3;refine f_ (h:=l_ (h:=?_));refine Ax (AE (RU _) ?_);rintro r rfl;refine B7 (h:=AG (h:=m_ (h:=?_)));refine AU false rfl rfl (fun hb4=>?_) (fun hb4=>?_)
  ·have hc4:=bp hb4;refine A3 (h:=A3 (h:=A3 (h:=A3 (h:=AD (h:=AD (h:=e_ (B6 (h:=w_ (a_ (h:=e_ (A4 (A7 (?_)))))))))))));refine A8 ?_
   first|(exfalso;first|contradiction|omega)|(exact vi (by unfold BS;grind))
  have hc4:=bp hb4;refine f_ (h:=l_ (h:=?_));refine Ax (AE (RU _) ?_);rintro r rfl;refine B7 (h:=AG (h:=AD (h:=e_ (?_))));refine A9 rfl (fun hb5=>?_) (fun hb5=>?_)
  ·have hc5:=bp hb5;refine w_ (a_ (h:=e_ (A4 (A7 (?_)))));refine A8 ?_
   first|(exfalso;first|contradiction|omega)|(exact vi (by unfold BS;grind))
  have hc5:=bp hb5;refine AA (q_ (w_ (f_ (h:=l_ (h:=B1 (h:=m_ (h:=?_)))))));refine AU false rfl rfl (fun hb6=>?_) (fun hb6=>?_)
  ·have hc6:=bp hb6;refine A3 (h:=A3 (h:=A3 (h:=AD (h:=e_ (B6 (h:=w_ (a_ (h:=e_ (A4 (A7 (?_)))))))))));refine A8 ?_
   first|(exfalso;first|contradiction|omega)|(exact vi (by unfold BS;grind))
  have hc6:=bp hb6;refine f_ (h:=l_ (h:=Bf (h:=AG (h:=e_ (?_)))));refine A9 rfl (fun hb7=>?_) (fun hb7=>?_)
  ·have hc7:=bp hb7;refine w_ (a_ (h:=e_ (A4 (A7 (?_)))));refine A8 ?_
   first|(exfalso;first|contradiction|omega)|(exact vi (by unfold BS;grind))
  have hc7:=bp hb7;refine AA (q_ (w_ (f_ (h:=l_ (h:=Aj (h:=m_ (h:=?_)))))));refine AU true rfl rfl (fun hb8=>?_) (fun hb8=>?_)
  ·have hc8:=bp hb8;refine f_ (h:=l_ (h:=Aj (h:=AD (h:=m_ (h:=?_)))));refine AU true rfl rfl (fun hb9=>?_) (fun hb9=>?_)
   ·have hc9:=bp hb9;refine f_ (h:=l_ (h:=?_));refine Ax (AE (EY _) ?_);rintro r rfl;refine m_ (h:=?_);refine AU false rfl rfl (fun hb10=>?_) (fun hb10=>?_)
    ·have hc10:=bp hb10;refine A3 (h:=A3 (h:=A3 (h:=AD (h:=AD (h:=e_ (B6 (h:=w_ (a_ (h:=e_ (A4 (A7 (?_))))))))))));refine A8 ?_
     first|(exfalso;first|contradiction|omega)|(exact vi (by unfold BS;grind))
    have hc10:=bp hb10;refine f_ (h:=l_ (h:=Aj (h:=AG (h:=AD (h:=e_ (B6 (h:=w_ (a_ (h:=e_ (A4 (A7 (?_))))))))))));refine A8 ?_
    first|(exfalso;first|contradiction|omega)|(exact vi (by unfold BS;grind))
   have hc9:=bp hb9;refine A3 (h:=A3 (h:=A3 (h:=A3 (h:=AX (h:=AX (h:=AX (h:=A3 (h:=AG (h:=e_ (Bh (h:=AA (q_ (Af (w_ (f_ (h:=l_ (h:=Aj (h:=m_ (h:=f_ (h:=l_ (h:=Aj (h:=m_ (h:=?_)))))))))))))))))))))));refine AU false rfl rfl (fun hb11=>?_) (fun hb11=>?_)
   ·have hc11:=bp hb11;refine A3 (h:=A3 (h:=A3 (h:=AD (h:=AD (h:=a_ (h:=e_ (B6 (h:=w_ (a_ (h:=e_ (A4 (AR (A7 (?_))))))))))))));refine A8 ?_
    first|(exfalso;first|contradiction|omega)|(exact vi (by unfold BS;grind))
   have hc11:=bp hb11;refine f_ (h:=l_ (h:=Aj (h:=AG (h:=AD (h:=a_ (h:=e_ (?_)))))));refine A9 rfl (fun hb12=>?_) (fun hb12=>?_)
   ·have hc12:=bp hb12;refine w_ (a_ (h:=e_ (A4 (AR (A7 (?_))))));refine A8 ?_
    first|(exfalso;first|contradiction|omega)|(exact vi (by unfold BS;grind))
   have hc12:=bp hb12;refine w_ (f_ (h:=l_ (h:=?_)));refine A6 rfl (AE (EY _) ?_);rintro r rfl;refine m_ (h:=?_);refine AU true rfl rfl (fun hb13=>?_) (fun hb13=>?_)
   ·have hc13:=bp hb13;refine f_ (h:=l_ (h:=Aj (h:=m_ (h:=f_ (h:=l_ (h:=AN (h:=AG (h:=m_ (h:=A3 (h:=A3 (h:=A3 (h:=A3 (h:=AD (h:=AD (h:=a_ (h:=e_ (B6 (h:=w_ (a_ (h:=e_ (A4 (AR (A7 (?_))))))))))))))))))))))));refine A8 ?_
    first|(exfalso;first|contradiction|omega)|(exact vi (by unfold BS;grind))
   have hc13:=bp hb13;refine A3 (h:=A3 (h:=A3 (h:=A3 (h:=AX (h:=AX (h:=AX (h:=A3 (h:=A3 (h:=AX (h:=AX (h:=AX (h:=AX (h:=A3 (h:=AG (h:=a_ (h:=e_ (Bh (h:=w_ (f_ (h:=l_ (h:=?_)))))))))))))))))))));refine A6 rfl (AE (EY _) ?_);rintro r rfl;refine B7 (h:=m_ (h:=f_ (h:=l_ (h:=Aj (h:=AD (h:=a_ (h:=e_ (Bh (h:=Av (Ai (t_ (w_ (a_ (h:=e_ (A4 (?_))))))))))))))));refine A8 ?_
   first|(exfalso;first|contradiction|omega)|(exact vi (by unfold BS;grind))
  have hc8:=bp hb8;refine A3 (h:=A3 (h:=A3 (h:=AG (h:=m_ (h:=A3 (h:=A3 (h:=A3 (h:=A3 (h:=AX (h:=AX (h:=AX (h:=A3 (h:=AG (h:=e_ (Bh (h:=AA (q_ (Af (w_ (f_ (h:=l_ (h:=Aj (h:=m_ (h:=?_))))))))))))))))))))))));refine f_ (h:=l_ (h:=Aj (h:=m_ (h:=?_))));refine AU false rfl rfl (fun hb14=>?_) (fun hb14=>?_)
  ·have hc14:=bp hb14;refine A3 (h:=A3 (h:=A3 (h:=AD (h:=AD (h:=a_ (h:=e_ (B6 (h:=w_ (a_ (h:=e_ (A4 (AR (A7 (?_))))))))))))));refine A8 ?_
   first|(exfalso;first|contradiction|omega)|(exact vi (by unfold BS;grind))
  have hc14:=bp hb14;refine f_ (h:=l_ (h:=Aj (h:=AG (h:=AD (h:=a_ (h:=e_ (?_)))))));refine A9 rfl (fun hb15=>?_) (fun hb15=>?_)
  ·have hc15:=bp hb15;refine w_ (a_ (h:=e_ (A4 (AR (A7 (?_))))));refine A8 ?_
   first|(exfalso;first|contradiction|omega)|(exact vi (by unfold BS;grind))
  have hc15:=bp hb15;refine w_ (f_ (h:=l_ (h:=?_)));refine A6 rfl (AE (EY _) ?_);rintro r rfl;refine m_ (h:=?_);refine AU true rfl rfl (fun hb16=>?_) (fun hb16=>?_)
  ·have hc16:=bp hb16;refine f_ (h:=l_ (h:=Aj (h:=m_ (h:=f_ (h:=l_ (h:=AN (h:=AG (h:=m_ (h:=A3 (h:=A3 (h:=A3 (h:=A3 (h:=AD (h:=AD (h:=a_ (h:=e_ (B6 (h:=w_ (a_ (h:=e_ (A4 (AR (A7 (?_))))))))))))))))))))))));refine A8 ?_
   first|(exfalso;first|contradiction|omega)|(exact vi (by unfold BS;grind))
  have hc16:=bp hb16;refine A3 (h:=A3 (h:=A3 (h:=A3 (h:=AX (h:=AX (h:=AX (h:=A3 (h:=A3 (h:=AX (h:=AX (h:=AX (h:=AX (h:=A3 (h:=AG (h:=a_ (h:=e_ (Bh (h:=w_ (f_ (h:=l_ (h:=?_)))))))))))))))))))));refine A6 rfl (AE (EY _) ?_);rintro r rfl;refine B7 (h:=m_ (h:=f_ (h:=l_ (h:=Aj (h:=AD (h:=a_ (h:=e_ (Bh (h:=Av (Ai (t_ (w_ (a_ (h:=e_ (A4 (?_))))))))))))))));refine A8 ?_
  first|(exfalso;first|contradiction|omega)|(exact vi (by unfold BS;grind))
 have hc2:=bp hb2;refine A3 (h:=A3 (h:=A3 (h:=A3 (h:=A3 (h:=A3 (h:=AX (h:=AX (h:=AX (h:=AX (h:=A3 (h:=A3 (h:=AX (h:=AX (h:=AX (h:=AX (h:=A3 (h:=AG (h:=e_ (Bh (h:=AA (q_ (w_ (f_ (h:=?_))))))))))))))))))))))));refine l_ (h:=B1 (h:=m_ (h:=?_)));refine AU false rfl rfl (fun hb17=>?_) (fun hb17=>?_)
 ·have hc17:=bp hb17;refine A3 (h:=A3 (h:=A3 (h:=AD (h:=e_ (B6 (h:=w_ (a_ (h:=e_ (A4 (A7 (?_)))))))))));refine A8 ?_
  first|(exfalso;first|contradiction|omega)|(exact vi (by unfold BS;grind))
 have hc17:=bp hb17;refine f_ (h:=l_ (h:=Bf (h:=AG (h:=e_ (?_)))));refine A9 rfl (fun hb18=>?_) (fun hb18=>?_)
 ·have hc18:=bp hb18;refine w_ (a_ (h:=e_ (A4 (A7 (?_)))));refine A8 ?_
  first|(exfalso;first|contradiction|omega)|(exact vi (by unfold BS;grind))
 have hc18:=bp hb18;refine AA (q_ (w_ (f_ (h:=l_ (h:=Aj (h:=m_ (h:=?_)))))));refine AU true rfl rfl (fun hb19=>?_) (fun hb19=>?_)
 ·have hc19:=bp hb19;refine f_ (h:=l_ (h:=Aj (h:=AD (h:=m_ (h:=?_)))));refine AU true rfl rfl (fun hb20=>?_) (fun hb20=>?_)
  ·have hc20:=bp hb20;refine f_ (h:=l_ (h:=?_));refine Ax (AE (EY _) ?_);rintro r rfl;refine m_ (h:=?_);refine AU false rfl rfl (fun hb21=>?_) (fun hb21=>?_)
   ·have hc21:=bp hb21;refine A3 (h:=A3 (h:=A3 (h:=AD (h:=AD (h:=e_ (B6 (h:=w_ (a_ (h:=e_ (A4 (A7 (?_))))))))))));refine A8 ?_
    first|(exfalso;first|contradiction|omega)|(exact vi (by unfold BS;grind))
   have hc21:=bp hb21;refine f_ (h:=l_ (h:=Aj (h:=AG (h:=AD (h:=e_ (Bh (h:=AA (q_ (Af (w_ (f_ (h:=l_ (h:=Aj (h:=m_ (h:=A3 (h:=A3 (h:=A3 (h:=A3 (h:=AX (h:=AX (h:=AX (h:=A3 (h:=AG (h:=?_))))))))))))))))))))))));refine a_ (h:=e_ (Bh (h:=w_ (f_ (h:=l_ (h:=?_))))));refine A6 rfl (AE (EY _) ?_);rintro r rfl;refine m_ (h:=A3 (h:=A3 (h:=A3 (h:=A3 (h:=AX (h:=AX (h:=AX (h:=A3 (h:=A3 (h:=AX (h:=AX (h:=AX (h:=AX (h:=A3 (h:=AG (h:=a_ (h:=e_ (Bh (h:=w_ (f_ (h:=l_ (h:=?_))))))))))))))))))))));refine A6 rfl (AE (EY _) ?_);rintro r rfl;refine B7 (h:=m_ (h:=f_ (h:=l_ (h:=Aj (h:=AD (h:=a_ (h:=e_ (?_))))))));refine A9 rfl (fun hb22=>?_) (fun hb22=>?_)
   ·have hc22:=bp hb22;refine w_ (a_ (h:=e_ (A4 (AR (A7 (?_))))));refine A8 ?_
    first|(exfalso;first|contradiction|omega)|(exact vi (by unfold BS;grind))
   have hc22:=bp hb22;refine Av (Ai (t_ (w_ (a_ (h:=e_ (A4 (?_)))))));refine A8 ?_
   first|(exfalso;first|contradiction|omega)|(exact vi (by unfold BS;grind))
  have hc20:=bp hb20;refine A3 (h:=A3 (h:=A3 (h:=A3 (h:=AX (h:=AX (h:=AX (h:=A3 (h:=AG (h:=e_ (Bh (h:=AA (q_ (Af (w_ (f_ (h:=l_ (h:=Aj (h:=m_ (h:=A3 (h:=A3 (h:=A3 (h:=A3 (h:=AX (h:=?_))))))))))))))))))))))));refine AX (h:=AX (h:=A3 (h:=AG (h:=a_ (h:=e_ (Bh (h:=w_ (f_ (h:=l_ (h:=?_))))))))));refine A6 rfl (AE (EY _) ?_);rintro r rfl;refine m_ (h:=?_);refine AU true rfl rfl (fun hb23=>?_) (fun hb23=>?_)
  ·have hc23:=bp hb23;refine f_ (h:=l_ (h:=Aj (h:=m_ (h:=?_))));refine AU false rfl rfl (fun hb24=>?_) (fun hb24=>?_)
   ·have hc24:=bp hb24;refine A3 (h:=A3 (h:=A3 (h:=AD (h:=m_ (h:=A3 (h:=A3 (h:=A3 (h:=A3 (h:=AD (h:=AD (h:=a_ (h:=e_ (B6 (h:=w_ (a_ (h:=e_ (A4 (AR (A7 (?_))))))))))))))))))));refine A8 ?_
    first|(exfalso;first|contradiction|omega)|(exact vi (by unfold BS;grind))
   have hc24:=bp hb24;refine f_ (h:=l_ (h:=AN (h:=AG (h:=m_ (h:=?_)))));refine AU false rfl rfl (fun hb25=>?_) (fun hb25=>?_)
   ·have hc25:=bp hb25;refine A3 (h:=A3 (h:=A3 (h:=A3 (h:=AD (h:=AD (h:=a_ (h:=e_ (B6 (h:=w_ (a_ (h:=e_ (A4 (AR (A7 (?_)))))))))))))));refine A8 ?_
    first|(exfalso;first|contradiction|omega)|(exact vi (by unfold BS;grind))
   have hc25:=bp hb25;refine f_ (h:=l_ (h:=n_ (h:=Bf (h:=AG (h:=AD (h:=a_ (h:=e_ (?_))))))));refine A9 rfl (fun hb26=>?_) (fun hb26=>?_)
   ·have hc26:=bp hb26;refine w_ (a_ (h:=e_ (A4 (AR (A7 (?_))))));refine A8 ?_
    first|(exfalso;first|contradiction|omega)|(exact vi (by unfold BS;grind))
   have hc26:=bp hb26;refine w_ (f_ (h:=l_ (h:=?_)));refine A6 rfl (AE (EY _) ?_);rintro r rfl;refine B7 (h:=m_ (h:=A3 (h:=A3 (h:=A3 (h:=AG (h:=a_ (h:=e_ (Bh (h:=Av (Ai (t_ (w_ (a_ (h:=e_ (A4 (?_))))))))))))))));refine A8 ?_
   first|(exfalso;first|contradiction|omega)|(exact vi (by unfold BS;grind))
  have hc23:=bp hb23;refine A3 (h:=A3 (h:=A3 (h:=A3 (h:=AX (h:=AX (h:=AX (h:=A3 (h:=A3 (h:=AX (h:=AX (h:=AX (h:=AX (h:=A3 (h:=AG (h:=a_ (h:=e_ (Bh (h:=w_ (f_ (h:=l_ (h:=?_)))))))))))))))))))));refine A6 rfl (AE (EY _) ?_);rintro r rfl;refine B7 (h:=m_ (h:=f_ (h:=l_ (h:=Aj (h:=AD (h:=a_ (h:=e_ (?_))))))));refine A9 rfl (fun hb27=>?_) (fun hb27=>?_)
  ·have hc27:=bp hb27;refine w_ (a_ (h:=e_ (A4 (AR (A7 (?_))))));refine A8 ?_
   first|(exfalso;first|contradiction|omega)|(exact vi (by unfold BS;grind))
  have hc27:=bp hb27;refine Av (Ai (t_ (w_ (a_ (h:=e_ (A4 (?_)))))));refine A8 ?_
  first|(exfalso;first|contradiction|omega)|(exact vi (by unfold BS;grind))
 have hc19:=bp hb19;refine A3 (h:=A3 (h:=A3 (h:=AG (h:=m_ (h:=A3 (h:=A3 (h:=A3 (h:=A3 (h:=AX (h:=AX (h:=AX (h:=A3 (h:=AG (h:=e_ (Bh (h:=AA (q_ (Af (w_ (f_ (h:=l_ (h:=Aj (h:=m_ (h:=?_))))))))))))))))))))))));refine A3 (h:=A3 (h:=A3 (h:=A3 (h:=AX (h:=AX (h:=AX (h:=A3 (h:=AG (h:=a_ (h:=e_ (Bh (h:=w_ (f_ (h:=l_ (h:=?_)))))))))))))));refine A6 rfl (AE (EY _) ?_);rintro r rfl;refine m_ (h:=?_);refine AU true rfl rfl (fun hb28=>?_) (fun hb28=>?_)
 ·have hc28:=bp hb28;refine f_ (h:=l_ (h:=Aj (h:=m_ (h:=?_))));refine AU false rfl rfl (fun hb29=>?_) (fun hb29=>?_)
  ·have hc29:=bp hb29;refine A3 (h:=A3 (h:=A3 (h:=AD (h:=m_ (h:=A3 (h:=A3 (h:=A3 (h:=A3 (h:=AD (h:=AD (h:=a_ (h:=e_ (B6 (h:=w_ (a_ (h:=e_ (A4 (AR (A7 (?_))))))))))))))))))));refine A8 ?_
   first|(exfalso;first|contradiction|omega)|(exact vi (by unfold BS;grind))
  have hc29:=bp hb29;refine f_ (h:=l_ (h:=AN (h:=AG (h:=m_ (h:=?_)))));refine AU false rfl rfl (fun hb30=>?_) (fun hb30=>?_)
  ·have hc30:=bp hb30;refine A3 (h:=A3 (h:=A3 (h:=A3 (h:=AD (h:=AD (h:=a_ (h:=e_ (B6 (h:=w_ (a_ (h:=e_ (A4 (AR (A7 (?_)))))))))))))));refine A8 ?_
   first|(exfalso;first|contradiction|omega)|(exact vi (by unfold BS;grind))
  have hc30:=bp hb30;refine f_ (h:=l_ (h:=n_ (h:=Bf (h:=AG (h:=AD (h:=a_ (h:=e_ (?_))))))));refine A9 rfl (fun hb31=>?_) (fun hb31=>?_)
  ·have hc31:=bp hb31;refine w_ (a_ (h:=e_ (A4 (AR (A7 (?_))))));refine A8 ?_
   first|(exfalso;first|contradiction|omega)|(exact vi (by unfold BS;grind))
  have hc31:=bp hb31;refine w_ (f_ (h:=l_ (h:=?_)));refine A6 rfl (AE (EY _) ?_);rintro r rfl;refine B7 (h:=m_ (h:=A3 (h:=A3 (h:=A3 (h:=AG (h:=a_ (h:=e_ (Bh (h:=Av (Ai (t_ (w_ (a_ (h:=e_ (A4 (?_))))))))))))))));refine A8 ?_
  first|(exfalso;first|contradiction|omega)|(exact vi (by unfold BS;grind))
 have hc28:=bp hb28;refine A3 (h:=A3 (h:=A3 (h:=A3 (h:=AX (h:=AX (h:=AX (h:=A3 (h:=A3 (h:=AX (h:=AX (h:=AX (h:=AX (h:=A3 (h:=AG (h:=a_ (h:=e_ (Bh (h:=w_ (f_ (h:=l_ (h:=?_)))))))))))))))))))));refine A6 rfl (AE (EY _) ?_);rintro r rfl;refine B7 (h:=m_ (h:=f_ (h:=l_ (h:=Aj (h:=AD (h:=a_ (h:=e_ (?_))))))));refine A9 rfl (fun hb32=>?_) (fun hb32=>?_)
 ·have hc32:=bp hb32;refine w_ (a_ (h:=e_ (A4 (AR (A7 (?_))))));refine A8 ?_
  first|(exfalso;first|contradiction|omega)|(exact vi (by unfold BS;grind))
 have hc32:=bp hb32;refine Av (Ai (t_ (w_ (a_ (h:=e_ (A4 (?_)))))));refine A8 ?_
 first|(exfalso;first|contradiction|omega)|(exact vi (by unfold BS;grind))
theorem W8(t:Tst)(list:Int):AFn prog 155 [.agg (CM t), .v (.int .i64 list)] (fun r=>r= .v (.int .i64 (BS t list))):=by
 have hz:=Ra t.text;have ho:D5 t.fld=true→DH t.fld=false:=by unfold D5 DH;simp;omega
 refine enter Tryz.func155 rfl rfl rfl rfl rfl 0 rfl ?_;refine w_ (b_ (h:=a_ (h:=e_ (q_ (w_ (m_ (h:=f_ (h:=l_ (h:=?_)))))))));refine A6 rfl (AE (RX _ _) ?_);rintro r rfl;refine B7 (h:=m_ (h:=?_));refine AU false rfl rfl (fun hb1=>?_) (fun hb1=>?_)
 ·have hc1:=bp hb1;refine A3 (h:=A3 (h:=A3 (h:=A3 (h:=AX (h:=AX (h:=AX (h:=AX (h:=AX (h:=AX (h:=AX (h:=AX (h:=AX (h:=AX (h:=AX (h:=AX (h:=AX (h:=AX (h:=AX (h:=AX (h:=AX (h:=A3 (h:=AD (h:=e_ (?_))))))))))))))))))))))));refine B6 (h:=w_ (a_ (h:=e_ (A4 (A7 (?_))))));refine A8 ?_
  first|(exfalso;first|contradiction|omega)|(exact vi (by unfold BS;grind))
 have hc1:=bp hb1;refine f_ (h:=l_ (h:=Aj (h:=m_ (h:=?_))));refine AU true rfl rfl (fun hb2=>?_) (fun hb2=>?_)
 ·have hc2:=bp hb2;refine m_ (h:=f_ (h:=l_ (h:=?_)));refine Ax (AE (RX _ _) ?_);rintro r rfl;refine B7 (h:=m_ (h:=?_));refine AU false rfl rfl (fun hb3=>?_) (fun hb3=>?_)
  ·have hc3:=bp hb3;refine A3 (h:=A3 (h:=A3 (h:=A3 (h:=AD (h:=m_ (h:=A3 (h:=A3 (h:=A3 (h:=A3 (h:=AD (h:=AD (h:=AG (h:=e_ (B6 (h:=w_ (a_ (h:=e_ (A4 (A7 (?_))))))))))))))))))));refine A8 ?_
   first|(exfalso;first|contradiction|omega)|(exact vi (by unfold BS;grind))
  have hc3:=bp hb3;refine f_ (h:=l_ (h:=?_));refine Ax (AE (RV _) ?_);rintro r rfl;refine B7 (h:=AG (h:=m_ (h:=?_)));refine AU false rfl rfl (fun hb4=>?_) (fun hb4=>?_)
  ·have hc4:=bp hb4;refine A3 (h:=A3 (h:=A3 (h:=A3 (h:=AD (h:=AD (h:=AG (h:=e_ (B6 (h:=w_ (a_ (h:=e_ (A4 (A7 (?_))))))))))))));refine A8 ?_
   first|(exfalso;first|contradiction|omega)|(exact vi (by unfold BS;grind))
  have hc4:=bp hb4;refine f_ (h:=l_ (h:=?_));refine Ax (AE (RV _) ?_);rintro r rfl;refine B7 (h:=AG (h:=AD (h:=AG (h:=e_ (?_)))));refine A9 rfl (fun hb5=>?_) (fun hb5=>?_)
  ·have hc5:=bp hb5;refine w_ (a_ (h:=e_ (A4 (A7 (?_)))));refine A8 ?_
   first|(exfalso;first|contradiction|omega)|(exact vi (by unfold BS;grind))
  have hc5:=bp hb5;refine AA (q_ (w_ (f_ (h:=l_ (h:=B1 (h:=m_ (h:=?_)))))));refine AU false rfl rfl (fun hb6=>?_) (fun hb6=>?_)
  ·have hc6:=bp hb6;refine A3 (h:=A3 (h:=A3 (h:=AD (h:=m_ (h:=A3 (h:=A3 (h:=A3 (h:=A3 (h:=AX (h:=AX (h:=AX (h:=AX (h:=AX (h:=AX (h:=AX (h:=AX (h:=A3 (h:=AD (h:=e_ (B6 (h:=w_ (a_ (h:=e_ (?_))))))))))))))))))))))));refine A4 (A7 (?_));refine A8 ?_
   first|(exfalso;first|contradiction|omega)|(exact vi (by unfold BS;grind))
  have hc6:=bp hb6;refine f_ (h:=l_ (h:=Bf (h:=AG (h:=m_ (h:=?_)))));refine AU false rfl rfl (fun hb7=>?_) (fun hb7=>?_)
  ·have hc7:=bp hb7;refine A3 (h:=A3 (h:=A3 (h:=A3 (h:=AX (h:=AX (h:=AX (h:=AX (h:=AX (h:=AX (h:=AX (h:=AX (h:=A3 (h:=AD (h:=e_ (B6 (h:=w_ (a_ (h:=e_ (A4 (A7 (?_)))))))))))))))))))));refine A8 ?_
   first|(exfalso;first|contradiction|omega)|(exact vi (by unfold BS;grind))
  have hc7:=bp hb7;refine f_ (h:=l_ (h:=Bf (h:=m_ (h:=?_))));refine AU true rfl rfl (fun hb8=>?_) (fun hb8=>?_)
  ·have hc8:=bp hb8;refine f_ (h:=l_ (h:=?_));refine Ax (AE (HG _) ?_);rintro r rfl;refine m_ (h:=?_);refine AU false rfl rfl (fun hb9=>?_) (fun hb9=>?_)
   ·have hc9:=bp hb9;refine A3 (h:=A3 (h:=A3 (h:=AD (h:=AD (h:=AG (h:=e_ (B6 (h:=w_ (a_ (h:=e_ (A4 (A7 (?_)))))))))))));refine A8 ?_
    first|(exfalso;first|contradiction|omega)|(exact vi (by unfold BS;grind))
   have hc9:=bp hb9;refine f_ (h:=l_ (h:=Aj (h:=AG (h:=AD (h:=AG (h:=e_ (B6 (h:=w_ (a_ (h:=e_ (A4 (A7 (?_)))))))))))));refine A8 ?_
   first|(exfalso;first|contradiction|omega)|(exact vi (by unfold BS;grind))
  have hc8:=bp hb8;refine A3 (h:=A3 (h:=A3 (h:=A3 (h:=AX (h:=AX (h:=AX (h:=A3 (h:=AG (h:=AG (h:=e_ (Bh (h:=AA (q_ (w_ (f_ (h:=l_ (h:=Aj (h:=m_ (h:=f_ (h:=l_ (h:=Aj (h:=m_ (h:=?_)))))))))))))))))))))));refine AU false rfl rfl (fun hb10=>?_) (fun hb10=>?_)
  ·have hc10:=bp hb10;refine A3 (h:=A3 (h:=A3 (h:=AD (h:=AD (h:=e_ (B6 (h:=w_ (a_ (h:=e_ (A4 (A7 (?_))))))))))));refine A8 ?_
   first|(exfalso;first|contradiction|omega)|(exact vi (by unfold BS;grind))
  have hc10:=bp hb10;refine f_ (h:=l_ (h:=Aj (h:=AG (h:=AD (h:=e_ (?_))))));refine A9 rfl (fun hb11=>?_) (fun hb11=>?_)
  ·have hc11:=bp hb11;refine w_ (a_ (h:=e_ (A4 (A7 (?_)))));refine A8 ?_
   first|(exfalso;first|contradiction|omega)|(exact vi (by unfold BS;grind))
  have hc11:=bp hb11;refine AA (q_ (w_ (f_ (h:=l_ (h:=AN (h:=m_ (h:=A3 (h:=A3 (h:=A3 (h:=AG (h:=m_ (h:=A3 (h:=A3 (h:=A3 (h:=A3 (h:=AX (h:=AX (h:=AX (h:=A3 (h:=A3 (h:=AX (h:=AX (h:=AX (h:=?_))))))))))))))))))))))));refine AX (h:=A3 (h:=AG (h:=m_ (h:=f_ (h:=l_ (h:=?_))))));refine Ax (AE (HG _) ?_);rintro r rfl;refine B7 (h:=m_ (h:=?_));refine AU true rfl rfl (fun hb12=>?_) (fun hb12=>?_)
  ·have hc12:=bp hb12;refine f_ (h:=l_ (h:=Aj (h:=AD (h:=AG (h:=e_ (Bh (h:=AA (w_ (a_ (h:=e_ (A4 (?_))))))))))));refine A8 ?_
   first|(exfalso;first|contradiction|omega)|(exact vi (by unfold BS;grind))
  have hc12:=bp hb12;refine A3 (h:=A3 (h:=A3 (h:=AG (h:=AG (h:=e_ (Bh (h:=AA (w_ (a_ (h:=e_ (A4 (?_))))))))))));refine A8 ?_
  first|(exfalso;first|contradiction|omega)|(exact vi (by unfold BS;grind))
 have hc2:=bp hb2;refine A3 (h:=A3 (h:=A3 (h:=A3 (h:=A3 (h:=A3 (h:=AX (h:=AX (h:=AX (h:=AX (h:=A3 (h:=A3 (h:=AX (h:=AX (h:=AX (h:=AX (h:=A3 (h:=AG (h:=AG (h:=e_ (Bh (h:=AA (q_ (w_ (?_))))))))))))))))))))))));refine f_ (h:=l_ (h:=B1 (h:=m_ (h:=?_))));refine AU false rfl rfl (fun hb13=>?_) (fun hb13=>?_)
 ·have hc13:=bp hb13;refine A3 (h:=A3 (h:=A3 (h:=AD (h:=m_ (h:=A3 (h:=A3 (h:=A3 (h:=A3 (h:=AX (h:=AX (h:=AX (h:=AX (h:=AX (h:=AX (h:=AX (h:=AX (h:=A3 (h:=AD (h:=e_ (B6 (h:=w_ (a_ (h:=e_ (?_))))))))))))))))))))))));refine A4 (A7 (?_));refine A8 ?_
  first|(exfalso;first|contradiction|omega)|(exact vi (by unfold BS;grind))
 have hc13:=bp hb13;refine f_ (h:=l_ (h:=Bf (h:=AG (h:=m_ (h:=?_)))));refine AU false rfl rfl (fun hb14=>?_) (fun hb14=>?_)
 ·have hc14:=bp hb14;refine A3 (h:=A3 (h:=A3 (h:=A3 (h:=AX (h:=AX (h:=AX (h:=AX (h:=AX (h:=AX (h:=AX (h:=AX (h:=A3 (h:=AD (h:=e_ (B6 (h:=w_ (a_ (h:=e_ (A4 (A7 (?_)))))))))))))))))))));refine A8 ?_
  first|(exfalso;first|contradiction|omega)|(exact vi (by unfold BS;grind))
 have hc14:=bp hb14;refine f_ (h:=l_ (h:=Bf (h:=m_ (h:=?_))));refine AU true rfl rfl (fun hb15=>?_) (fun hb15=>?_)
 ·have hc15:=bp hb15;refine f_ (h:=l_ (h:=?_));refine Ax (AE (HG _) ?_);rintro r rfl;refine m_ (h:=?_);refine AU false rfl rfl (fun hb16=>?_) (fun hb16=>?_)
  ·have hc16:=bp hb16;refine A3 (h:=A3 (h:=A3 (h:=AD (h:=AD (h:=AG (h:=e_ (B6 (h:=w_ (a_ (h:=e_ (A4 (A7 (?_)))))))))))));refine A8 ?_
   first|(exfalso;first|contradiction|omega)|(exact vi (by unfold BS;grind))
  have hc16:=bp hb16;refine f_ (h:=l_ (h:=Aj (h:=AG (h:=AD (h:=AG (h:=e_ (Bh (h:=AA (q_ (w_ (f_ (h:=l_ (h:=Aj (h:=m_ (h:=A3 (h:=A3 (h:=A3 (h:=A3 (h:=AX (h:=AX (h:=AX (h:=A3 (h:=AG (h:=?_))))))))))))))))))))))));refine e_ (Bh (h:=AA (q_ (w_ (f_ (h:=l_ (h:=AN (h:=m_ (h:=f_ (h:=l_ (h:=?_)))))))))));refine Ax (AE (HG _) ?_);rintro r rfl;refine AD (h:=m_ (h:=A3 (h:=A3 (h:=A3 (h:=A3 (h:=AX (h:=AX (h:=AX (h:=A3 (h:=A3 (h:=AX (h:=AX (h:=AX (h:=AX (h:=A3 (h:=AG (h:=m_ (h:=f_ (h:=l_ (h:=?_))))))))))))))))))));refine Ax (AE (HG _) ?_);rintro r rfl;refine B7 (h:=m_ (h:=f_ (h:=l_ (h:=Aj (h:=AD (h:=AG (h:=e_ (?_))))))));refine A9 rfl (fun hb17=>?_) (fun hb17=>?_)
  ·have hc17:=bp hb17;refine w_ (a_ (h:=e_ (A4 (A7 (?_)))));refine A8 ?_
   first|(exfalso;first|contradiction|omega)|(exact vi (by unfold BS;grind))
  have hc17:=bp hb17;refine AA (w_ (a_ (h:=e_ (A4 (?_)))));refine A8 ?_
  first|(exfalso;first|contradiction|omega)|(exact vi (by unfold BS;grind))
 have hc15:=bp hb15;refine A3 (h:=A3 (h:=A3 (h:=A3 (h:=AX (h:=AX (h:=AX (h:=A3 (h:=AG (h:=AG (h:=e_ (Bh (h:=AA (q_ (w_ (f_ (h:=l_ (h:=Aj (h:=m_ (h:=A3 (h:=A3 (h:=A3 (h:=A3 (h:=AX (h:=?_))))))))))))))))))))))));refine AX (h:=AX (h:=A3 (h:=AG (h:=e_ (Bh (h:=AA (q_ (w_ (f_ (h:=l_ (h:=AN (h:=m_ (h:=f_ (h:=l_ (h:=?_)))))))))))))));refine Ax (AE (HG _) ?_);rintro r rfl;refine AD (h:=m_ (h:=?_));refine AU true rfl rfl (fun hb18=>?_) (fun hb18=>?_)
 ·have hc18:=bp hb18;refine f_ (h:=l_ (h:=Aj (h:=m_ (h:=?_))));refine AU false rfl rfl (fun hb19=>?_) (fun hb19=>?_)
  ·have hc19:=bp hb19;refine A3 (h:=A3 (h:=A3 (h:=AD (h:=m_ (h:=A3 (h:=A3 (h:=A3 (h:=A3 (h:=AD (h:=AD (h:=m_ (h:=A3 (h:=A3 (h:=A3 (h:=A3 (h:=A3 (h:=AX (h:=AX (h:=AX (h:=A3 (h:=AD (h:=e_ (B6 (h:=?_))))))))))))))))))))))));refine w_ (a_ (h:=e_ (A4 (A7 (?_)))));refine A8 ?_
   first|(exfalso;first|contradiction|omega)|(exact vi (by unfold BS;grind))
  have hc19:=bp hb19;refine f_ (h:=l_ (h:=AN (h:=AG (h:=m_ (h:=?_)))));refine AU false rfl rfl (fun hb20=>?_) (fun hb20=>?_)
  ·have hc20:=bp hb20;refine A3 (h:=A3 (h:=A3 (h:=A3 (h:=AD (h:=AD (h:=m_ (h:=A3 (h:=A3 (h:=A3 (h:=A3 (h:=A3 (h:=AX (h:=AX (h:=AX (h:=A3 (h:=AD (h:=e_ (B6 (h:=w_ (a_ (h:=e_ (A4 (A7 (?_))))))))))))))))))))))));refine A8 ?_
   first|(exfalso;first|contradiction|omega)|(exact vi (by unfold BS;grind))
  have hc20:=bp hb20;refine f_ (h:=l_ (h:=n_ (h:=Bf (h:=AG (h:=AD (h:=m_ (h:=?_)))))));refine AU false rfl rfl (fun hb21=>?_) (fun hb21=>?_)
  ·have hc21:=bp hb21;refine A3 (h:=A3 (h:=A3 (h:=A3 (h:=A3 (h:=AX (h:=AX (h:=AX (h:=A3 (h:=AD (h:=e_ (B6 (h:=w_ (a_ (h:=e_ (A4 (A7 (?_)))))))))))))))));refine A8 ?_
   first|(exfalso;first|contradiction|omega)|(exact vi (by unfold BS;grind))
  have hc21:=bp hb21;refine f_ (h:=l_ (h:=?_));refine Ax (AE (HG _) ?_);rintro r rfl;refine B7 (h:=m_ (h:=A3 (h:=A3 (h:=A3 (h:=AG (h:=AG (h:=e_ (Bh (h:=AA (w_ (a_ (h:=e_ (A4 (?_))))))))))))));refine A8 ?_
  first|(exfalso;first|contradiction|omega)|(exact vi (by unfold BS;grind))
 have hc18:=bp hb18;refine A3 (h:=A3 (h:=A3 (h:=A3 (h:=AX (h:=AX (h:=AX (h:=A3 (h:=A3 (h:=AX (h:=AX (h:=AX (h:=AX (h:=A3 (h:=AG (h:=m_ (h:=f_ (h:=l_ (h:=?_))))))))))))))))));refine Ax (AE (HG _) ?_);rintro r rfl;refine B7 (h:=m_ (h:=f_ (h:=l_ (h:=Aj (h:=AD (h:=AG (h:=e_ (?_))))))));refine A9 rfl (fun hb22=>?_) (fun hb22=>?_)
 ·have hc22:=bp hb22;refine w_ (a_ (h:=e_ (A4 (A7 (?_)))));refine A8 ?_
  first|(exfalso;first|contradiction|omega)|(exact vi (by unfold BS;grind))
 have hc22:=bp hb22;refine AA (w_ (a_ (h:=e_ (A4 (?_)))));refine A8 ?_
 first|(exfalso;first|contradiction|omega)|(exact vi (by unfold BS;grind))
def HQ(t:Tst)(c:Ctx):Bool:=decide ((if t.fld=14 then c.comm else c.exe)=t.text)==decide (t.op=1)
def Jc(t:Tst)(c:Ctx)(y:Itm):Bool:=
 if D5 t.fld=true then HQ t c else F4 t.op (Ch t.fld c y) (if t.other=0 then t.num else Ch t.other c y)
def Eh(t:Tst)(c:Ctx)(y:Itm):Bool:=
 if D5 t.fld=true then HQ t c else if Bg t.fld c=false then false else if t.other=0 then F4 t.op (Ch t.fld c y) t.num else if Bg t.other c=false then false else F4 t.op (Ch t.fld c y) (Ch t.other c y)
def Rc(t:Tst):Prop:=1≤t.fld∧t.fld≤22∧(t.other=0∨1≤t.other∧t.other≤22∧D5 t.other=false)∧1≤t.op∧t.op≤8
theorem Rd(t:Tst)(c:Ctx)(k:Cxs)(y:Itm)(ht:Rc t):AFn prog 161 [.agg (CM t), .agg (De c k), .agg (Dd y)] (fun r=>r= .v (.bool (Eh t c y))):=by
 obtain⟨f1,f2,o1,p1,p2⟩:=ht;refine enter Tryz.func161 rfl rfl rfl rfl rfl 0 rfl ?_;refine w_ (b_ (h:=b_ (h:=b_ (h:=a_ (h:=e_ (q_ (w_ (f_ (h:=l_ (h:=?_))))))))));refine A6 rfl (AE (EY _) ?_);rintro r rfl;refine e_ (?_);refine A9 rfl (fun hb1=>?_) (fun hb1=>?_)
 ·have hc1:=bp hb1;refine w_ (f_ (h:=f_ (h:=l_ (h:=a_ (h:=e_ (q_ (w_ (f_ (h:=l_ (h:=AN (h:=e_ (?_))))))))))));refine A9 rfl (fun hb2=>?_) (fun hb2=>?_)
  ·have hc2:=bp hb2;refine AT (f_ (h:=f_ (h:=l_ (h:=a_ (h:=e_ (w_ (m_ (h:=f_ (h:=l_ (h:=AN (h:=f_ (h:=l_ (h:=AN (h:=AN (h:=a_ (h:=e_ (A4 (A7 (?_)))))))))))))))))));refine A8 ?_
   first|(exfalso;first|contradiction|omega)|(exact vb (by unfold Eh HQ;simp_all))
  have hc2:=bp hb2;refine AA (w_ (m_ (h:=f_ (h:=l_ (h:=AN (h:=f_ (h:=l_ (h:=AN (h:=AN (h:=a_ (h:=e_ (A4 (A7 (?_))))))))))))));refine A8 ?_
  first|(exfalso;first|contradiction|omega)|(exact vb (by unfold Eh HQ;simp_all))
 have hc1:=bp hb1;refine AA (w_ (f_ (h:=l_ (h:=l_ (h:=l_ (h:=?_))))));refine A6 rfl (AE (RZ t.fld c k y f1 f2 hc1) ?_);rintro r ⟨n1,rfl,hn1⟩;refine m_ (h:=x_ (h:=x_ (h:=a_ (h:=a_ (h:=e_ (q_ (w_ (m_ (h:=B7 (h:=e_ (?_)))))))))));refine A9 rfl (fun hb3=>?_) (fun hb3=>?_)
 ·have hc3:=bp hb3;refine w_ (a_ (h:=e_ (A4 (A7 (?_)))));refine A8 ?_
  first|(exfalso;first|contradiction|omega)|(exact vb (by unfold Eh HQ;simp_all))
 have hc3:=bp hb3;refine AA (w_ (f_ (h:=l_ (h:=a_ (h:=e_ (q_ (w_ (f_ (h:=l_ (h:=Aj (h:=e_ (?_))))))))))));refine A9 rfl (fun hb4=>?_) (fun hb4=>?_)
 ·have hc4:=bp hb4;refine w_ (f_ (h:=l_ (h:=l_ (h:=l_ (h:=?_)))));refine A6 rfl (AE (RZ t.other c k y (by omega) (by omega) (o1.resolve_left hc4).2.2) ?_);rintro r ⟨n2,rfl,hn2⟩;refine m_ (h:=x_ (h:=x_ (h:=a_ (h:=a_ (h:=e_ (w_ (m_ (h:=B7 (h:=e_ (?_))))))))));refine A9 rfl (fun hb5=>?_) (fun hb5=>?_)
  ·have hc5:=bp hb5;refine w_ (a_ (h:=e_ (A4 (A7 (?_)))));refine A8 ?_
   first|(exfalso;first|contradiction|omega)|(exact vb (by unfold Eh HQ;simp_all))
  have hc5:=bp hb5;refine AA (w_ (f_ (h:=l_ (h:=m_ (h:=m_ (h:=?_))))));refine A6 rfl (AE (RY _ _ _ p1 p2) ?_);rintro r rfl;refine a_ (h:=e_ (A4 (?_)));refine A8 ?_
  first|(exfalso;first|contradiction|omega)|(exact vb (by unfold Eh HQ;simp_all))
 have hc4:=bp hb4;refine AA (w_ (f_ (h:=l_ (h:=m_ (h:=m_ (h:=?_))))));refine A6 rfl (AE (RY _ _ _ p1 p2) ?_);rintro r rfl;refine a_ (h:=e_ (A4 (?_)));refine A8 ?_
 first|(exfalso;first|contradiction|omega)|(exact vb (by unfold Eh HQ;simp_all))
end
theorem GX{α:Type}{p:α→Bool}{l:List α}{j:Nat}{x:α}(hx:l[j]?=some x)(hp:p x=true)(h:∀i y,i<j→l[i]?=some y→p y=false):l.find? p=some x:=by
 have:=RO hx hp h;rw[←RQ,this]
 simpa using hx
theorem GY{α:Type}{p:α→Bool}{l:List α}(h:∀i y,i<l.length→l[i]?=some y→p y=false):l.find? p=none:=by
 rw[List.find?_eq_none];intro x hx;obtain⟨i,hi,rfl⟩:=List.mem_iff_getElem.1 hx;simp[h i _ hi (BQ hi)]
theorem Re{f:Ac}{a:AB}(h:Cj f a=true):Bp f a=some (At f a):=by
 unfold Cj at h;unfold At
 cases hn:Bp f a with
 |none=>rw[hn]at h;cases h
 |some n=>rfl
theorem Rf{f:Ac}{a:AB}(h:Cj f a=false):Bp f a=none:=by
 unfold Cj at h
 cases hn:Bp f a with
 |none=>rfl
 |some n=>rw[hn]at h;cases h
section
theorem HU(f:Ac)(a:AB)(name:AJ)(hf:FlsB f):AFn prog 134 [.agg (As f), .agg (AF a), .v (.string name)] (fun r=>r= .tup [.agg (AF (AQ f a name).1), .v (.int .i64 (AQ f a name).2)]):=by
 have hen:=Kh hf a;refine enter Tryz.func134 rfl rfl rfl rfl rfl 0 rfl ?_;refine w_ (b_ (h:=b_ (h:=Aa (h:=a_ (h:=e_ (w_ (l_ (h:=l_ (h:=?_)))))))));refine A6 rfl (AE (Eg f a hf) ?_);rintro r rfl;refine m_ (h:=x_ (h:=x_ (h:=Aa (h:=s_ (h:=a_ (h:=e_ (q_ (w_ (m_ (h:=B7 (h:=e_ (?_))))))))))));refine A9 rfl (fun hb1=>?_) (fun hb1=>?_)
 ·have hc1:=bp hb1;have e:=Rf hc1;refine w_ (Ab (h:=s_ (h:=a_ (h:=e_ (A4 (A7 (?_)))))));refine A8 ?_;rw[show AQ f a name=((0,0),2) by simp[AQ,e]];rfl
 have hc1:=bp hb1;have e:=Re hc1;refine AA (q_ (w_ (f_ (h:=l_ (h:=Aj (h:=e_ (?_)))))));refine A9 rfl (fun hb2=>?_) (fun hb2=>?_)
 ·have hc2:=bp hb2;refine w_ (Ab (h:=s_ (h:=a_ (h:=e_ (A4 (A7 (?_)))))));refine A8 ?_;rw[show AQ f a name=((0,0),20) by simp[AQ,e,hc2]];rfl
 have hc2:=bp hb2;refine AA (q_ (w_ (a_ (h:=e_ (Af (?_))))));refine BW (fun m s=>∃j:Nat,j≤(At f a).entries.length∧m=(At f a).entries.length - j∧(∀i y,i<j→(At f a).entries[i]?=some y→decide (y.1=name)=false)∧s=⟨look [(2, .v (.string name)),(4, .bp 1 0),(6, .bp 2 0),(8, .bp 3 0),(10, .v (.int .i64 (j:Int)))],⟨[As f,AF a,[.v (.int .i64 0), .v (.int .i64 0)],Ao (At f a)],[]⟩⟩) ((At f a).entries.length) ((wk 4 0)) (⟨0,by omega,rfl,fun i y hi=>by omega,rfl⟩) ?_;rintro m s ⟨j,hj,rfl,ha,rfl⟩;refine q_ (w_ (m_ (h:=f_ (h:=l_ (h:=n_ (h:=B1 (h:=e_ (?_))))))));refine A9 rfl (fun hb3=>?_) (fun hb3=>?_)
 ·have hc3:=bp hb3;obtain⟨hlt,x,hy,hrow, -⟩:=Br CK hc3;refine AA (q_ (Af (w_ (f_ (h:=l_ (h:=m_ (h:=i_ (h:=f_ (h:=l_ (h:=m_ (h:=AN (h:=e_ (?_)))))))))))));refine A9 rfl (fun hb4=>?_) (fun hb4=>?_)
  ·have hc4:=bp hb4;refine q_ (CB ([(0,As f),(1,AF a),(3,Ao (At f a))]) 11 (h:=Az 0 (h:=AY 1 (h:=Az 2 (h:=AY 3 (h:=Ap 4 (h:=Dj 5 (h:=Az 6 (h:=AY 7 (h:=G7 8 (h:=?_)))))))))));refine Bi 9 rfl (Ba rfl rfl rfl rfl rfl rfl (by repeat constructor) (by repeat constructor) ?_);refine o_ (h:=BN 10 (h:=z_ (h:=t_ (A4 (AR (A7 (A7 (AR (A7 (?_))))))))));refine A8 ?_;rw[show AQ f a name=((a.1,x.2),0) by simp only[AQ,e];rw[if_pos (by omega),GX hy (by simpa using hc4) ha]];rfl
  have hc4:=bp hb4;refine Av (Ai (t_ (AT (m_ (h:=B5 (h:=a_ (h:=AP (?_))))))));refine AK ?_;refine⟨_,_,?_,⟨j+1,by omega,rfl,FS hy ha (by simpa using hc4),rfl⟩,(wk 4 0)⟩;omega
 have hc3:=bp hb3;have e3:=C5 CK hj hc3;subst e3;refine BH (Ah (Ah (BJ (t_ (w_ (Ab (h:=s_ (h:=a_ (h:=e_ (A4 (?_)))))))))));refine A8 ?_;rw[show AQ f a name=((0,0),2) by simp only[AQ,e];rw[if_pos (by omega),GY ha]];rfl
end
theorem Ha{P:Program}{ev:Operand→Option AV}{h:AH}{R:AV→AH→Prop}{d:Option Tmp}{ty:TypeId}{pos:String}{af:Array Edge}{gd:Option (Nat×Bool)}{T:TypeId}{x ix:Operand}{s:ByteArray}{n:Nat}{k:IntKind}{i:Int}(hu:P.underlying T=some .string)
    (hx:ev x=some (.v (.string s))) (hi:ev ix=some (.v (.int k i))) (hn:i=(n:Int)) (hlt:n<s.size) (hR:R (.v (.int .u8 (s[n].toNat:Int))) h):AStep P ⟨d, .index T x ix,ty,pos,af,gd⟩ ev h R:=by
 refine Cg (fun _ G w ec _ he=>?_) hR;have h1:=he x (by simp[Op.operands]) _ hx;have h2:=he ix (by simp[Op.operands]) _ hi;simp only[rep]at h1 h2;subst hn;refine⟨.int .u8 (s[n].toNat:Int),?_,by simp only[rep]⟩;have e:s[n]?=some s[n]:=getElem?_pos s n hlt;simp[execOp,h1,h2,Instr.index,asIntOf,run_underlying hu,e]
theorem Hb(s:AJ):Cq s=if s.size<1∨12<s.size then false else if s=⟨#[46]⟩then false else if s=⟨#[46,46]⟩then false else s.data.toList.all GU:=by
 unfold Cq;have e1:=Mi s ⟨#[46]⟩;have e2:=Mi s ⟨#[46,46]⟩;rw[show(⟨#[46]⟩:ByteArray).toList=[46] by rw[ByteArray.toList_eq]]at e1;rw[show(⟨#[46,46]⟩:ByteArray).toList=[46,46] by rw[ByteArray.toList_eq]]at e2;rw[e1,e2];simp only[decide_eq_true_eq]
theorem WB{c:UInt8}(h1:¬(c.toNat:Int)=0)(h2:¬(c.toNat:Int)=47):GU c=true:=by
 unfold GU;simp;omega
section
theorem OZ(s:AJ)(hs:s.size≤100000):AFn prog 136 [.v (.string s)] (fun r=>r= .v (.bool (Cq s))):=by
 refine enter Tryz.func136 rfl rfl rfl rfl rfl 0 rfl ?_;refine w_ (a_ (h:=e_ (q_ (w_ (m_ (h:=n_ (h:=B1 (h:=m_ (h:=?_)))))))));refine AU false rfl rfl (fun hb1=>?_) (fun hb1=>?_)
 ·have hc1:=bp hb1;refine A3 (h:=A3 (h:=A3 (h:=AD (h:=m_ (h:=A3 (h:=A3 (h:=AD (h:=m_ (h:=A3 (h:=A3 (h:=AD (h:=e_ (B6 (h:=w_ (a_ (h:=e_ (A4 (A7 (?_)))))))))))))))))));refine A8 ?_;exact vb (by rw[Hb,if_pos (by omega)])
 have hc1:=bp hb1;refine m_ (h:=n_ (h:=Bf (h:=AG (h:=m_ (h:=?_)))));refine AU false rfl rfl (fun hb2=>?_) (fun hb2=>?_)
 ·have hc2:=bp hb2;refine A3 (h:=A3 (h:=AD (h:=m_ (h:=A3 (h:=A3 (h:=AD (h:=e_ (B6 (h:=w_ (a_ (h:=e_ (A4 (A7 (?_))))))))))))));refine A8 ?_;exact vb (by rw[Hb,if_pos (by omega)])
 have hc2:=bp hb2;refine m_ (h:=AN (h:=AG (h:=m_ (h:=?_))));refine AU false rfl rfl (fun hb3=>?_) (fun hb3=>?_)
 ·have hc3:=bp hb3;refine A3 (h:=A3 (h:=AD (h:=e_ (B6 (h:=w_ (a_ (h:=e_ (A4 (A7 (?_))))))))));refine A8 ?_;exact vb (by rw[Hb,if_neg (by omega),if_pos hc3])
 have hc3:=bp hb3;refine m_ (h:=AN (h:=AG (h:=e_ (?_))));refine A9 rfl (fun hb4=>?_) (fun hb4=>?_)
 ·have hc4:=bp hb4;refine w_ (a_ (h:=e_ (A4 (A7 (?_)))));refine A8 ?_;exact vb (by rw[Hb,if_neg (by omega),if_neg hc3,if_pos hc4])
 have hc4:=bp hb4;refine AA (q_ (w_ (a_ (h:=e_ (Af (?_))))));refine BW (fun m t=>∃j:Nat,j≤s.size∧m=s.size - j∧(∀i (hi:i<s.size),i<j→GU s[i]=true)∧t=⟨look [(0, .v (.string s)),(3, .v (.int .i64 (j:Int)))],⟨[],[]⟩⟩) (s.size) ((wk 0 0)) (⟨0,by omega,rfl,fun i _ hi=>by omega,rfl⟩) ?_;rintro m t ⟨j,hj,rfl,ha,rfl⟩;refine q_ (w_ (m_ (h:=m_ (h:=n_ (h:=B1 (h:=e_ (?_)))))));refine A9 rfl (fun hb5=>?_) (fun hb5=>?_)
 ·have hc5:=bp hb5;have hlt:j<s.size:=by omega
  refine AA (q_ (Af (w_ (m_ (h:=m_ (h:=?_))))));refine A6 rfl (Ha (n:=j) Tryz.underlying9 rfl rfl rfl hlt ?_);refine AN (h:=m_ (h:=?_));refine AU false rfl rfl (fun hb6=>?_) (fun hb6=>?_)
  ·have hc6:=bp hb6;refine A3 (h:=A3 (h:=A3 (h:=A3 (h:=AD (h:=e_ (B6 (h:=w_ (a_ (h:=e_ (A4 (AR (A7 (A7 (AR (A7 (?_))))))))))))))));refine A8 ?_;exact vb (by rw[Hb,if_neg (by omega),if_neg hc3,if_neg hc4,OX hlt (by unfold GU;simp[hc6])])
  have hc6:=bp hb6;refine m_ (h:=m_ (h:=?_));refine Ax (Ha (n:=j) Tryz.underlying9 rfl rfl rfl hlt ?_);refine AN (h:=AG (h:=e_ (?_)));refine A9 rfl (fun hb7=>?_) (fun hb7=>?_)
  ·have hc7:=bp hb7;refine w_ (a_ (h:=e_ (A4 (AR (A7 (A7 (AR (A7 (?_)))))))));refine A8 ?_;exact vb (by rw[Hb,if_neg (by omega),if_neg hc3,if_neg hc4,OX hlt (by unfold GU;simp[hc7])])
  have hc7:=bp hb7;refine Av (Ai (t_ (AT (m_ (h:=B5 (h:=a_ (h:=AP (?_))))))));refine AK ?_;refine⟨_,_,?_,⟨j+1,by omega,rfl,RS hlt ha (WB hc6 hc7),rfl⟩,(wk 0 0)⟩;omega
 have hc5:=bp hb5;obtain rfl:j=s.size:=by omega
 refine BH (Ah (Ah (BJ (t_ (w_ (a_ (h:=e_ (A4 (?_)))))))));refine A8 ?_;exact vb (by rw[Hb,if_neg (by omega),if_neg hc3,if_neg hc4,RR (fun i hi=>ha i hi hi)])
end
theorem WC(f:Ac)(a:AB):GV f a=decide (12≤(At f a).entries.length):=by
 unfold GV At;cases Bp f a<;>simp[Nod.zero]
theorem WD(f:Ac)(a:AB):H8 f a=decide ((At f a).entries.length=0):=by
 unfold H8 At;cases Bp f a<;>simp[Nod.zero]
theorem WE{f:Ac}{a:AB}{k:Nat}{d:Dvc}{n:Nod}(hk:a.1=(k:Int))(hd:f[k]?=some d)(hn:Bp f a=some n):FT f a=BZ a.2 d.nodes:=by
 unfold FT;rw[hn,hk,J5,hd]
section
theorem WF(s:AJ)(hs:s.size≤100000):AFn prog 258 [.v (.string s)] (fun r=>r= .v (.bool (J6 s))):=by
 refine enter Tryz.func258 rfl rfl rfl rfl rfl 0 rfl ?_;refine w_ (a_ (h:=e_ (q_ (w_ (a_ (h:=e_ (Af (?_))))))));refine BW (fun m t=>∃j:Nat,j≤s.size∧m=s.size - j∧(∀i (hi:i<s.size),i<j→(!((s[i].toNat:Int)==0))=true)∧t=⟨look [(0, .v (.string s)),(3, .v (.int .i64 (j:Int)))],⟨[],[]⟩⟩) (s.size) ((wk 0 0)) (⟨0,by omega,rfl,fun i _ hi=>by omega,rfl⟩) ?_;rintro m t ⟨j,hj,rfl,ha,rfl⟩;refine q_ (w_ (m_ (h:=m_ (h:=n_ (h:=B1 (h:=e_ (?_)))))));refine A9 rfl (fun hb1=>?_) (fun hb1=>?_)
 ·have hc1:=bp hb1;have hlt:j<s.size:=by omega
  refine AA (q_ (Af (w_ (m_ (h:=m_ (h:=?_))))));refine A6 rfl (Ha (n:=j) Tryz.underlying9 rfl rfl rfl hlt ?_);refine AN (h:=e_ (?_));refine A9 rfl (fun hb2=>?_) (fun hb2=>?_)
  ·have hc2:=bp hb2;refine w_ (a_ (h:=e_ (A4 (AR (A7 (A7 (AR (A7 (?_)))))))));refine A8 ?_;exact vb (by unfold J6;rw[OX hlt (by simp[hc2])];simp)
  have hc2:=bp hb2;refine Av (Ai (t_ (AT (m_ (h:=B5 (h:=a_ (h:=AP (?_))))))));refine AK ?_;refine⟨_,_,?_,⟨j+1,by omega,rfl,RS (p:=fun c=> !((c.toNat:Int)==0)) hlt ha (by simpa using hc2),rfl⟩,(wk 0 0)⟩;omega
 have hc1:=bp hb1;obtain rfl:j=s.size:=by omega
 have hal:=RR (p:=fun c=> !((c.toNat:Int)==0)) (fun i hi=>ha i hi hi);refine BH (Ah (Ah (BJ (t_ (w_ (m_ (h:=n_ (h:=D4 (h:=m_ (h:=?_))))))))));refine AU true rfl rfl (fun hb3=>?_) (fun hb3=>?_)
 ·have hc3:=bp hb3;refine m_ (h:=n_ (h:=EJ (h:=AD (h:=a_ (h:=e_ (A4 (?_)))))));refine A8 ?_;exact vb (by unfold J6;rw[hal,Bool.eq_iff_iff];simp;omega)
 have hc3:=bp hb3;refine A3 (h:=A3 (h:=A3 (h:=AG (h:=a_ (h:=e_ (A4 (?_)))))));refine A8 ?_;exact vb (by unfold J6;rw[hal,Bool.eq_iff_iff];simp;omega)
theorem Jd(f:Ac)(a:AB)(name:AJ)(hf:FlsB f)(hs:name.size≤100000):AFn prog 230 [.agg (As f), .agg (AF a), .v (.string name)] (fun r=>r= .v (.int .i64 (CJ f a name))):=by
 refine enter Tryz.func230 rfl rfl rfl rfl rfl 0 rfl ?_;refine w_ (b_ (h:=b_ (h:=a_ (h:=e_ (w_ (l_ (h:=l_ (h:=?_))))))));refine A6 rfl (AE (Eg f a hf) ?_);rintro r rfl;refine m_ (h:=x_ (h:=x_ (h:=Aa (h:=s_ (h:=a_ (h:=e_ (q_ (w_ (m_ (h:=B7 (h:=e_ (?_))))))))))));refine A9 rfl (fun hb1=>?_) (fun hb1=>?_)
 ·have hc1:=bp hb1;have e:=Rf hc1;refine w_ (a_ (h:=e_ (A4 (A7 (?_)))));refine A8 ?_;exact vi (by simp[CJ,e])
 have hc1:=bp hb1;have e:=Re hc1;refine AA (q_ (w_ (f_ (h:=l_ (h:=Aj (h:=e_ (?_)))))));refine A9 rfl (fun hb2=>?_) (fun hb2=>?_)
 ·have hc2:=bp hb2;refine w_ (a_ (h:=e_ (A4 (A7 (?_)))));refine A8 ?_;exact vi (by simp[CJ,e,hc2])
 have hc2:=bp hb2;refine AA (q_ (w_ (m_ (h:=?_))));refine A6 rfl (AE (OZ name hs) ?_);rintro r rfl;refine B7 (h:=e_ (?_));refine A9 rfl (fun hb3=>?_) (fun hb3=>?_)
 ·have hc3:=bp hb3;refine w_ (a_ (h:=e_ (A4 (A7 (?_)))));refine A8 ?_;exact vi (by simp only[CJ,e];rw[if_pos (by omega),hc3];rfl)
 have hc3:=bp hb3;refine AA (w_ (a_ (h:=e_ (A4 (?_)))));refine A8 ?_;exact vi (by simp only[CJ,e];rw[if_pos (by omega),hc3];rfl)
theorem Oa(f:Ac)(a:AB)(hf:FlsB f):AFn prog 231 [.agg (As f), .agg (AF a)] (fun r=>r= .v (.bool (GV f a))):=by
 refine enter Tryz.func231 rfl rfl rfl rfl rfl 0 rfl ?_;refine w_ (b_ (h:=b_ (h:=a_ (h:=e_ (w_ (l_ (h:=l_ (h:=?_))))))));refine A6 rfl (AE (Eg f a hf) ?_);rintro r rfl;refine m_ (h:=x_ (h:=x_ (h:=Aa (h:=s_ (h:=a_ (h:=e_ (w_ (f_ (h:=l_ (h:=n_ (h:=D4 (h:=a_ (h:=e_ (A4 (?_)))))))))))))));refine A8 ?_;exact vb (by rw[WC,Bool.eq_iff_iff];simp;omega)
theorem Rg(f:Ac)(a:AB)(hf:FlsB f):AFn prog 235 [.agg (As f), .agg (AF a)] (fun r=>r= .v (.bool (H8 f a))):=by
 refine enter Tryz.func235 rfl rfl rfl rfl rfl 0 rfl ?_;refine w_ (b_ (h:=b_ (h:=a_ (h:=e_ (w_ (l_ (h:=l_ (h:=?_))))))));refine A6 rfl (AE (Eg f a hf) ?_);rintro r rfl;refine m_ (h:=x_ (h:=x_ (h:=Aa (h:=s_ (h:=a_ (h:=e_ (w_ (f_ (h:=l_ (h:=n_ (h:=AN (h:=a_ (h:=e_ (A4 (?_)))))))))))))));refine A8 ?_;exact vb (by rw[WD,Bool.eq_iff_iff];simp)
theorem Rh(n:Nod)(hs:n.target.size≤100000):AFn prog 237 [.agg (Ao n)] (fun r=>r= .v (.bool (E9 n))):=by
 have ee:n.target.toList.isEmpty=decide (n.target=⟨#[]⟩):=by
  rw[←Mi n.target ⟨#[]⟩,show(⟨#[]⟩:ByteArray).toList=[] by rw[ByteArray.toList_eq]];cases n.target.toList<;>rfl
 refine enter Tryz.func237 rfl rfl rfl rfl rfl 0 rfl ?_;refine w_ (b_ (h:=a_ (h:=e_ (q_ (?_)))));refine EU (⟨look [(1, .bp 0 0),(40, .v (.bool (decide (n.kind<1∨3<n.kind∨n.mode<0∨511<n.mode∨n.uid<0∨4294967295<n.uid∨n.gid<0∨4294967295<n.gid))))],⟨[Ao n],[]⟩⟩) ?_ ?_
 ·skip
  refine AT (f_ (h:=l_ (h:=B1 (h:=m_ (h:=?_)))));refine AU false rfl rfl (fun hb1=>?_) (fun hb1=>?_)
  ·have hc1:=bp hb1;refine A3 (h:=A3 (h:=A3 (h:=AD (h:=m_ (h:=A3 (h:=A3 (h:=A3 (h:=AD (h:=m_ (h:=A3 (h:=A3 (h:=A3 (h:=AD (h:=m_ (h:=A3 (h:=A3 (h:=A3 (h:=AD (h:=m_ (h:=A3 (h:=A3 (h:=A3 (h:=AD (h:=?_))))))))))))))))))))))));refine m_ (h:=A3 (h:=A3 (h:=A3 (h:=AD (h:=m_ (h:=A3 (h:=A3 (h:=A3 (h:=AD (h:=AP (?_)))))))))));refine AK ?_
   first|(exfalso;first|contradiction|omega)|exact Ay 1 0 rfl rfl rfl rfl (by repeat (first|exact Sub.nil|refine B0 rfl rfl ?_|refine B2 ?_|refine B3 rfl ?_|refine B4 rfl ?_|(apply Sub.of;(focus exact rfl);(focus exact LeA.of_eq (vb (by rw[Bool.eq_iff_iff];simp;try omega)));(focus exact rfl))))
  have hc1:=bp hb1;refine f_ (h:=l_ (h:=Bf (h:=AG (h:=m_ (h:=?_)))));refine AU false rfl rfl (fun hb2=>?_) (fun hb2=>?_)
  ·have hc2:=bp hb2;refine A3 (h:=A3 (h:=A3 (h:=AD (h:=m_ (h:=A3 (h:=A3 (h:=A3 (h:=AD (h:=m_ (h:=A3 (h:=A3 (h:=A3 (h:=AD (h:=m_ (h:=A3 (h:=A3 (h:=A3 (h:=AD (h:=m_ (h:=A3 (h:=A3 (h:=A3 (h:=AD (h:=?_))))))))))))))))))))))));refine m_ (h:=A3 (h:=A3 (h:=A3 (h:=AD (h:=AP (?_))))));refine AK ?_
   first|(exfalso;first|contradiction|omega)|exact Ay 1 0 rfl rfl rfl rfl (by repeat (first|exact Sub.nil|refine B0 rfl rfl ?_|refine B2 ?_|refine B3 rfl ?_|refine B4 rfl ?_|(apply Sub.of;(focus exact rfl);(focus exact LeA.of_eq (vb (by rw[Bool.eq_iff_iff];simp;try omega)));(focus exact rfl))))
  have hc2:=bp hb2;refine f_ (h:=l_ (h:=B1 (h:=AG (h:=m_ (h:=?_)))));refine AU false rfl rfl (fun hb3=>?_) (fun hb3=>?_)
  ·have hc3:=bp hb3;refine A3 (h:=A3 (h:=A3 (h:=AD (h:=m_ (h:=A3 (h:=A3 (h:=A3 (h:=AD (h:=m_ (h:=A3 (h:=A3 (h:=A3 (h:=AD (h:=m_ (h:=A3 (h:=A3 (h:=A3 (h:=AD (h:=m_ (h:=A3 (h:=A3 (h:=A3 (h:=AD (h:=?_))))))))))))))))))))))));refine AP (?_);refine AK ?_
   first|(exfalso;first|contradiction|omega)|exact Ay 1 0 rfl rfl rfl rfl (by repeat (first|exact Sub.nil|refine B0 rfl rfl ?_|refine B2 ?_|refine B3 rfl ?_|refine B4 rfl ?_|(apply Sub.of;(focus exact rfl);(focus exact LeA.of_eq (vb (by rw[Bool.eq_iff_iff];simp;try omega)));(focus exact rfl))))
  have hc3:=bp hb3;refine f_ (h:=l_ (h:=Bf (h:=AG (h:=m_ (h:=?_)))));refine AU false rfl rfl (fun hb4=>?_) (fun hb4=>?_)
  ·have hc4:=bp hb4;refine A3 (h:=A3 (h:=A3 (h:=AD (h:=m_ (h:=A3 (h:=A3 (h:=A3 (h:=AD (h:=m_ (h:=A3 (h:=A3 (h:=A3 (h:=AD (h:=m_ (h:=A3 (h:=A3 (h:=A3 (h:=AD (h:=AP (?_))))))))))))))))))));refine AK ?_
   first|(exfalso;first|contradiction|omega)|exact Ay 1 0 rfl rfl rfl rfl (by repeat (first|exact Sub.nil|refine B0 rfl rfl ?_|refine B2 ?_|refine B3 rfl ?_|refine B4 rfl ?_|(apply Sub.of;(focus exact rfl);(focus exact LeA.of_eq (vb (by rw[Bool.eq_iff_iff];simp;try omega)));(focus exact rfl))))
  have hc4:=bp hb4;refine f_ (h:=l_ (h:=B1 (h:=AG (h:=m_ (h:=?_)))));refine AU false rfl rfl (fun hb5=>?_) (fun hb5=>?_)
  ·have hc5:=bp hb5;refine A3 (h:=A3 (h:=A3 (h:=AD (h:=m_ (h:=A3 (h:=A3 (h:=A3 (h:=AD (h:=m_ (h:=A3 (h:=A3 (h:=A3 (h:=AD (h:=AP (?_)))))))))))))));refine AK ?_
   first|(exfalso;first|contradiction|omega)|exact Ay 1 0 rfl rfl rfl rfl (by repeat (first|exact Sub.nil|refine B0 rfl rfl ?_|refine B2 ?_|refine B3 rfl ?_|refine B4 rfl ?_|(apply Sub.of;(focus exact rfl);(focus exact LeA.of_eq (vb (by rw[Bool.eq_iff_iff];simp;try omega)));(focus exact rfl))))
  have hc5:=bp hb5;refine f_ (h:=l_ (h:=Bf (h:=AG (h:=m_ (h:=?_)))));refine AU false rfl rfl (fun hb6=>?_) (fun hb6=>?_)
  ·have hc6:=bp hb6;refine A3 (h:=A3 (h:=A3 (h:=AD (h:=m_ (h:=A3 (h:=A3 (h:=A3 (h:=AD (h:=AP (?_))))))))));refine AK ?_
   first|(exfalso;first|contradiction|omega)|exact Ay 1 0 rfl rfl rfl rfl (by repeat (first|exact Sub.nil|refine B0 rfl rfl ?_|refine B2 ?_|refine B3 rfl ?_|refine B4 rfl ?_|(apply Sub.of;(focus exact rfl);(focus exact LeA.of_eq (vb (by rw[Bool.eq_iff_iff];simp;try omega)));(focus exact rfl))))
  have hc6:=bp hb6;refine f_ (h:=l_ (h:=B1 (h:=AG (h:=m_ (h:=?_)))));refine AU false rfl rfl (fun hb7=>?_) (fun hb7=>?_)
  ·have hc7:=bp hb7;refine A3 (h:=A3 (h:=A3 (h:=AD (h:=AP (?_)))));refine AK ?_
   first|(exfalso;first|contradiction|omega)|exact Ay 1 0 rfl rfl rfl rfl (by repeat (first|exact Sub.nil|refine B0 rfl rfl ?_|refine B2 ?_|refine B3 rfl ?_|refine B4 rfl ?_|(apply Sub.of;(focus exact rfl);(focus exact LeA.of_eq (vb (by rw[Bool.eq_iff_iff];simp;try omega)));(focus exact rfl))))
  have hc7:=bp hb7;refine f_ (h:=l_ (h:=Bf (h:=AG (h:=AP (?_)))));refine AK ?_
  first|(exfalso;first|contradiction|omega)|exact Ay 1 0 rfl rfl rfl rfl (by repeat (first|exact Sub.nil|refine B0 rfl rfl ?_|refine B2 ?_|refine B3 rfl ?_|refine B4 rfl ?_|(apply Sub.of;(focus exact rfl);(focus exact LeA.of_eq (vb (by rw[Bool.eq_iff_iff];simp;try omega)));(focus exact rfl))))
 skip
 refine A9 rfl (fun hb8=>?_) (fun hb8=>?_)
 ·have hc8:=bp hb8;refine w_ (a_ (h:=e_ (A4 (A7 (?_)))));refine A8 ?_;exact vb (by rw[E9,if_pos hc8])
 have hc8:=bp hb8;refine AA (q_ (w_ (f_ (h:=l_ (h:=AN (h:=e_ (?_)))))));refine A9 rfl (fun hb9=>?_) (fun hb9=>?_)
 ·have hc9:=bp hb9;refine w_ (f_ (h:=l_ (h:=?_)));refine A6 rfl (AE (WF n.target hs) ?_);rintro r rfl;refine a_ (h:=e_ (A4 (A7 (?_))));refine A8 ?_;exact vb (by rw[E9,if_neg hc8,if_pos hc9])
 have hc9:=bp hb9;refine AA (w_ (f_ (h:=l_ (h:=AN (h:=a_ (h:=e_ (A4 (?_))))))));refine A8 ?_;exact vb (by rw[E9,if_neg hc8,if_neg hc9,ee])
theorem WG(f:Ac)(a:AB)(hf:FlsB f):AFn prog 257 [.agg (As f), .agg (AF a)] (fun r=>r= .v (.int .i64 (FT f a:Int))):=by
 refine enter Tryz.func257 rfl rfl rfl rfl rfl 0 rfl ?_;refine w_ (b_ (h:=b_ (h:=a_ (h:=e_ (q_ (w_ (l_ (h:=l_ (h:=?_)))))))));refine A6 rfl (AE (H9 f a hf) ?_);rintro r rfl;refine B1 (h:=e_ (?_));refine A9 rfl (fun hb1=>?_) (fun hb1=>?_)
 ·have hc1:=bp hb1
  have e:Bp f a=none:=by
   rcases GT f a with h|⟨k,i,d,n, -, -, -, -,h, -⟩
   ·exact h.2
   exfalso;omega
  refine w_ (a_ (h:=e_ (A4 (A7 (?_)))));refine A8 ?_;exact vi (by simp[FT,e])
 have hc1:=bp hb1;obtain⟨k,i,d,n,g1,g2,g3,g4,g5,g6⟩:=(GT f a).resolve_left (fun h=>by omega);have hr1:(f.map Bm)[k]?=some (Bm d):=by rw[List.getElem?_map,g2];rfl
 have hdn:=hf.nodes d (Ar g2);refine AA (w_ (a_ (h:=e_ (w_ (f_ (h:=l_ (h:=f_ (h:=l_ (h:=?_)))))))));refine A6 rfl (Dc (n:=k) rfl rfl g1 hr1 ?_);refine f_ (h:=l_ (h:=a_ (h:=e_ (q_ (w_ (a_ (h:=e_ (Af (?_)))))))));refine BW (fun m s=>∃j c:Nat,j≤d.nodes.length∧m=d.nodes.length - j∧c=BZ a.2 (d.nodes.take j)∧c≤1000 * j∧s=⟨look [(3, .bp 1 0),(5, .v (.int .i64 (c:Int))),(6, .sl 8 (d.nodes.map Ao) none),(7, .v (.int .i64 (j:Int)))],⟨[As f,AF a],[]⟩⟩) (d.nodes.length) ((wk 2 0)) (⟨0,0,by omega,rfl,rfl,by omega,rfl⟩) ?_;rintro m s ⟨j,c,hj,rfl,hcn,hcb,rfl⟩;refine q_ (w_ (m_ (h:=m_ (h:=n_ (h:=B1 (h:=e_ (?_)))))));refine A9 rfl (fun hb2=>?_) (fun hb2=>?_)
 ·have hc2:=bp hb2;obtain⟨hlt,x,hx,hrow, -⟩:=Br Ao hc2;have hen:=hf.ents d (Ar g2) x (Ar hx);refine AA (q_ (Af (w_ (a_ (h:=e_ (Af (?_)))))));refine BW (fun m s=>∃i c2:Nat,i≤x.entries.length∧m=x.entries.length - i∧c2=c+CX a.2 (x.entries.take i)∧c2≤c+i∧s=⟨look [(3, .bp 1 0),(5, .v (.int .i64 (c2:Int))),(6, .sl 8 (d.nodes.map Ao) none),(7, .v (.int .i64 (j:Int))),(8, .v (.int .i64 (i:Int)))],⟨[As f,AF a],[]⟩⟩) (x.entries.length) ((wk 2 0)) (⟨0,c,by omega,rfl,rfl,by omega,rfl⟩) ?_;rintro m s ⟨i,c2,hi,rfl,hc2n,hc2b,rfl⟩;refine q_ (w_ (m_ (h:=m_ (h:=m_ (h:=i_ (h:=f_ (h:=l_ (h:=n_ (h:=B1 (h:=e_ (?_)))))))))));refine A9 rfl (fun hb3=>?_) (fun hb3=>?_)
  ·have hc3:=bp hb3;obtain⟨hlt3,y,hy,hrow3, -⟩:=Br CK hc3;refine AA (q_ (Af (q_ (DE 12 (h:=Ap 0 (h:=Ap 1 (h:=Dj 2 (h:=Az 3 (h:=AY 4 (h:=Ap 5 (h:=Dj 6 (h:=Az 7 (h:=AY 8 (h:=Az 9 (h:=AY 10 (h:=Fh 11 (h:=z_ (h:=t_ (?_)))))))))))))))))));refine A9 rfl (fun hb4=>?_) (fun hb4=>?_)
   ·have hc4:=bp hb4;refine AT (m_ (h:=B5 (h:=a_ (h:=AP (Ai (t_ (AT (m_ (h:=B5 (h:=a_ (h:=AP (?_))))))))))));refine AK ?_
    first|(refine⟨_,_,?_,⟨i+1,c2+1,by omega,rfl,?_,by omega,rfl⟩,(wk 2 0)⟩<;>first|omega|(rw[Mj hy];simp[hc4];omega))|(refine⟨_,_,?_,⟨i+1,c2,by omega,rfl,?_,by omega,rfl⟩,(wk 2 0)⟩<;>first|omega|(rw[Mj hy];simp[hc4];omega))
   have hc4:=bp hb4;refine Av (Ai (t_ (AT (m_ (h:=B5 (h:=a_ (h:=AP (?_))))))));refine AK ?_
   first|(refine⟨_,_,?_,⟨i+1,c2+1,by omega,rfl,?_,by omega,rfl⟩,(wk 2 0)⟩<;>first|omega|(rw[Mj hy];simp[hc4];omega))|(refine⟨_,_,?_,⟨i+1,c2,by omega,rfl,?_,by omega,rfl⟩,(wk 2 0)⟩<;>first|omega|(rw[Mj hy];simp[hc4];omega))
  have hc3:=bp hb3;have e3:=C5 CK hi hc3;subst e3;refine BH (Ah (Ah (BJ (Ai (t_ (AT (m_ (h:=B5 (h:=a_ (h:=AP (?_)))))))))));refine AK ?_;refine⟨_,_,?_,⟨j+1,c2,by omega,rfl,?_,?_,rfl⟩,(wk 2 0)⟩
  ·omega
  ·rw[hc2n,Vy hx,List.take_length];omega
  have:=Vx a.2 (x.entries.take x.entries.length);simp at this;omega
 have hc2:=bp hb2;have e2:=C5 Ao hj hc2;subst e2;refine BH (Ah (Ah (BJ (t_ (w_ (m_ (h:=a_ (h:=e_ (A4 (?_))))))))));refine A8 ?_;exact vi (by rw[WE g1 g2 g6,hcn,List.take_length])
end
def Cr(m:DF):List AV:=[.v (.int .i64 m.1), .v (.int .i64 m.2.1), .v (.int .i64 m.2.2)]
def Ag(s:Spc):List AV:=[.sl 2 (s.files.map Bm) none, .sl 3 (s.mounts.map Cr) none]
structure SpcB(s:Spc):Prop where
 files:FlsB s.files
 few:s.mounts.length≤1000
def Bn(s:Spc)(dev:Int):Option AB:=(s.mounts.find? fun m:DF=>decide (m.1=dev)).map (·.2)
def Bz(s:Spc)(a:AB):Option Int:=(s.mounts.find? fun m:DF=>decide (m.2=a)).map (·.1)
def C6(s:Spc)(dev:Int):Bool:=(Bn s dev).isSome||decide (dev=0)
section
theorem Ob(op:BinOp)(a b c d:Int)(w:World):(op= .eql∨op= .neq)→(binOp op 26 (.agg #[.int .i64 a, .int .i64 b]) (.agg #[.int .i64 c, .int .i64 d])).run prog w= .ok (.bool (decide ((a,b)=(c,d))==decide (op= .eql))) w:=by
 have u3:=Tryz.underlying3;have a3:=Tryz.isAgg3;have z3:=Tryz.sizeOf3;have hS:prog.underlying 26=some (.struct (prog.fieldsOf 26)):=by kernel_rfl
 have hp:prog.stoodInHeld 26=false:=by kernel_rfl
 have e:∀w,(Op.equalIn 10000 26 (.agg #[.int .i64 a, .int .i64 b]) (.agg #[.int .i64 c, .int .i64 d])).run prog w= .ok (a==c&&b==d) w:=by
  intro w;rw[show(10000:Nat)=9999+1 from rfl,run_equalIn_agg w 9999 26 _ _ hS hp];simp only[Program.fieldsOf,Tryz.underlying26]
  go_simp
  by_cases h1:a=c<;>by_cases h2:b=d<;>simp[h1,h2]
 rintro(rfl|rfl)
 ·rw[run_eql_struct,e];by_cases h1:a=c<;>by_cases h2:b=d<;>simp[h1,h2]
 rw[run_neq_struct,e];by_cases h1:a=c<;>by_cases h2:b=d<;>simp[h1,h2]
theorem Ki(a b c d:Int)(w:World):(binOp .eql 26 (.agg #[.int .i64 a, .int .i64 b]) (.agg #[.int .i64 c, .int .i64 d])).run prog w= .ok (.bool (decide ((a,b)=(c,d)))) w:=by
 rw[Ob .eql a b c d w (.inl rfl)];by_cases h:(a,b)=(c,d)<;>simp[h]
theorem Ri(a b c d:Int)(w:World):(binOp .neq 26 (.agg #[.int .i64 a, .int .i64 b]) (.agg #[.int .i64 c, .int .i64 d])).run prog w= .ok (.bool (!decide ((a,b)=(c,d)))) w:=by
 rw[Ob .neq a b c d w (.inr rfl)];by_cases h:(a,b)=(c,d)<;>simp[h]
theorem Oc(s:Spc)(dev:Int)(hs:SpcB s):AFn prog 180 [.agg (Ag s), .v (.int .i64 dev)] (fun r=>r= .tup [.agg (AF ((Bn s dev).getD (0,0))), .v (.bool (Bn s dev).isSome)]):=by
 have hfew:=hs.few;refine enter Tryz.func180 rfl rfl rfl rfl rfl 0 rfl ?_;refine w_ (b_ (h:=Aa (h:=a_ (h:=e_ (q_ (w_ (a_ (h:=e_ (Af (?_))))))))));refine BW (fun m t=>∃j:Nat,j≤s.mounts.length∧m=s.mounts.length - j∧(∀i y,i<j→s.mounts[i]?=some y→decide (y.1=dev)=false)∧t=⟨look [(1, .v (.int .i64 dev)),(2, .bp 0 0),(4, .bp 1 0),(6, .v (.int .i64 (j:Int)))],⟨[Ag s,[.v (.int .i64 0), .v (.int .i64 0)]],[]⟩⟩) (s.mounts.length) ((wk 2 0)) (⟨0,by omega,rfl,fun i y hi=>by omega,rfl⟩) ?_;rintro m t ⟨j,hj,rfl,ha,rfl⟩;refine q_ (w_ (m_ (h:=f_ (h:=l_ (h:=n_ (h:=B1 (h:=e_ (?_))))))));refine A9 rfl (fun hb1=>?_) (fun hb1=>?_)
 ·have hc1:=bp hb1;obtain⟨hlt,x,hy,hrow, -⟩:=Br Cr hc1;refine AA (q_ (Af (w_ (f_ (h:=l_ (h:=m_ (h:=i_ (h:=f_ (h:=l_ (h:=m_ (h:=AN (h:=e_ (?_)))))))))))));refine A9 rfl (fun hb2=>?_) (fun hb2=>?_)
  ·have hc2:=bp hb2;refine w_ (f_ (h:=l_ (h:=m_ (h:=i_ (h:=f_ (h:=l_ (h:=s_ (h:=a_ (h:=e_ (A4 (AR (A7 (A7 (AR (A7 (?_))))))))))))))));refine A8 ?_;rw[show Bn s dev=some x.2 by simp only[Bn];rw[GX hy (by simpa using hc2) ha];rfl];rfl
  have hc2:=bp hb2;refine Av (Ai (t_ (AT (m_ (h:=B5 (h:=a_ (h:=AP (?_))))))));refine AK ?_;refine⟨_,_,?_,⟨j+1,by omega,rfl,FS hy ha (by simpa using hc2),rfl⟩,(wk 2 0)⟩;omega
 have hc1:=bp hb1;have e3:=C5 Cr hj hc1;subst e3;refine BH (Ah (Ah (BJ (t_ (w_ (Ab (h:=s_ (h:=a_ (h:=e_ (A4 (?_)))))))))));refine A8 ?_;rw[show Bn s dev=none by simp only[Bn];rw[GY ha];rfl];rfl
theorem Od(s:Spc)(dev:Int)(hs:SpcB s):AFn prog 124 [.agg (Ag s), .v (.int .i64 dev)] (fun r=>r= .v (.bool (C6 s dev))):=by
 refine enter Tryz.func124 rfl rfl rfl rfl rfl 0 rfl ?_;refine w_ (b_ (h:=a_ (h:=e_ (w_ (l_ (h:=m_ (h:=?_)))))));refine A6 rfl (AE (Oc s dev hs) ?_);rintro r rfl;refine m_ (h:=x_ (h:=x_ (h:=Aa (h:=s_ (h:=a_ (h:=e_ (w_ (m_ (h:=m_ (h:=?_))))))))));refine AU false rfl rfl (fun hb1=>?_) (fun hb1=>?_)
 ·have hc1:=bp hb1;refine A3 (h:=A3 (h:=AD (h:=a_ (h:=e_ (A4 (?_))))));refine A8 ?_;exact vb (by unfold C6;rw[hc1];simp)
 have hc1:=bp hb1;refine m_ (h:=AN (h:=AG (h:=a_ (h:=e_ (A4 (?_))))));refine A8 ?_;exact vb (by unfold C6;rw[hc1];simp)
theorem Rj(s:Spc)(a:AB)(hs:SpcB s):AFn prog 181 [.agg (Ag s), .agg (AF a)] (fun r=>r= .tup [.v (.int .i64 ((Bz s a).getD 0)), .v (.bool (Bz s a).isSome)]):=by
 have hfew:=hs.few;refine enter Tryz.func181 rfl rfl rfl rfl rfl 0 rfl ?_;refine w_ (b_ (h:=b_ (h:=a_ (h:=a_ (h:=e_ (q_ (w_ (a_ (h:=e_ (Af (?_)))))))))));refine BW (fun m t=>∃j:Nat,j≤s.mounts.length∧m=s.mounts.length - j∧(∀i y,i<j→s.mounts[i]?=some y→decide (y.2=a)=false)∧t=⟨look [(2, .bp 0 0),(3, .bp 1 0),(6, .v (.int .i64 (j:Int)))],⟨[Ag s,AF a],[]⟩⟩) (s.mounts.length) ((wk 2 0)) (⟨0,by omega,rfl,fun i y hi=>by omega,rfl⟩) ?_;rintro m t ⟨j,hj,rfl,ha,rfl⟩;refine q_ (w_ (m_ (h:=f_ (h:=l_ (h:=n_ (h:=B1 (h:=e_ (?_))))))));refine A9 rfl (fun hb1=>?_) (fun hb1=>?_)
 ·have hc1:=bp hb1;obtain⟨hlt,x,hy,hrow, -⟩:=Br Cr hc1;refine AA (q_ (Af (q_ (DE 8 (h:=Az 0 (h:=AY 1 (h:=Ap 2 (h:=Dj 3 (h:=Az 4 (h:=AY 5 (h:=AY 6 (h:=?_))))))))))));refine EV (i:=7) rfl (Ed rfl rfl (by repeat constructor) (by repeat constructor) (fun w=>Ki _ _ _ _ w) (by kernel_rfl) ⟨rfl,rfl⟩) ?_;refine z_ (h:=t_ (?_));refine A9 rfl (fun hb2=>?_) (fun hb2=>?_)
  ·have hc2:=bp hb2;refine w_ (f_ (h:=l_ (h:=m_ (h:=i_ (h:=f_ (h:=l_ (h:=a_ (h:=a_ (h:=e_ (A4 (AR (A7 (A7 (AR (A7 (?_))))))))))))))));refine A8 ?_;rw[show Bz s a=some x.1 by simp only[Bz];rw[GX hy (decide_eq_true hc2) ha];rfl];rfl
  have hc2:=bp hb2;refine Av (Ai (t_ (AT (m_ (h:=B5 (h:=a_ (h:=AP (?_))))))));refine AK ?_;refine⟨_,_,?_,⟨j+1,by omega,rfl,FS hy ha (decide_eq_false hc2),rfl⟩,(wk 2 0)⟩;omega
 have hc1:=bp hb1;have e3:=C5 Cr hj hc1;subst e3;refine BH (Ah (Ah (BJ (t_ (w_ (a_ (h:=a_ (h:=e_ (A4 (?_))))))))));refine A8 ?_;rw[show Bz s a=none by simp only[Bz];rw[GY ha];rfl];rfl
theorem WH(s:Spc)(a:AB)(hs:SpcB s):AFn prog 125 [.agg (Ag s), .agg (AF a)] (fun r=>r= .v (.bool (Bz s a).isSome)):=by
 refine enter Tryz.func125 rfl rfl rfl rfl rfl 0 rfl ?_;refine w_ (b_ (h:=b_ (h:=a_ (h:=e_ (w_ (l_ (h:=l_ (h:=?_))))))));refine A6 rfl (AE (Rj s a hs) ?_);rintro r rfl;refine m_ (h:=x_ (h:=x_ (h:=a_ (h:=a_ (h:=e_ (w_ (m_ (h:=a_ (h:=e_ (A4 (?_)))))))))));refine A8 ?_;rfl
theorem Oe(s:Spc)(dev:Int)(hs:SpcB s):AFn prog 229 [.agg (Ag s), .v (.int .i64 dev)] (fun r=>r= .tup [.agg (AF ((Bn s dev).getD (0,0))), .v (.bool (Bn s dev).isSome)]):=by
 have hfew:=hs.few;refine enter Tryz.func229 rfl rfl rfl rfl rfl 0 rfl ?_;refine w_ (b_ (h:=Aa (h:=a_ (h:=e_ (q_ (w_ (f_ (h:=l_ (h:=n_ (h:=m_ (h:=e_ (Af (?_)))))))))))));refine BW (fun m t=>∃j:Nat,j≤s.mounts.length∧m=s.mounts.length - j∧(∀i y,i<j→s.mounts[i]?=some y→decide (y.1=dev)=false)∧t=⟨look [(1, .v (.int .i64 dev)),(4, .bp 1 0),(9, .sl 3 (s.mounts.map Cr) none),(10, .v (.int .i64 ((s.mounts.map Cr).length:Int))),(11, .v (.int .i64 (j:Int)))],⟨[Ag s,[.v (.int .i64 0), .v (.int .i64 0)]],[]⟩⟩) (s.mounts.length) ((wk 2 0)) (⟨0,by omega,rfl,fun i y hi=>by omega,rfl⟩) ?_;rintro m t ⟨j,hj,rfl,ha,rfl⟩;refine w_ (B1 (h:=e_ (q_ (?_))));refine A9 rfl (fun hb1=>?_) (fun hb1=>?_)
 ·have hc1:=bp hb1;obtain⟨hlt,x,hy,hrow, -⟩:=Br Cr hc1;refine AA (q_ (Af (w_ (i_ (h:=l_ (h:=Aa (h:=s_ (h:=e_ (w_ (f_ (h:=l_ (h:=m_ (h:=AN (h:=e_ (?_)))))))))))))));refine A9 rfl (fun hb2=>?_) (fun hb2=>?_)
  ·have hc2:=bp hb2;refine w_ (f_ (h:=l_ (h:=s_ (h:=a_ (h:=e_ (A4 (AR (A7 (A7 (AR (A7 (?_))))))))))));refine A8 ?_;rw[show Bn s dev=some x.2 by simp only[Bn];rw[GX hy (by simpa using hc2) ha];rfl];rfl
  have hc2:=bp hb2;refine Av (Ai (t_ (AT (B5 (h:=m_ (h:=AP (?_)))))));refine AK ?_;refine⟨_,_,?_,⟨j+1,by omega,rfl,FS hy ha (by simpa using hc2),rfl⟩,(wk 2 0)⟩;omega
 have hc1:=bp hb1;have e3:=C5 Cr hj hc1;subst e3;refine BH (Ah (Ah (BJ (t_ (w_ (Ab (h:=s_ (h:=a_ (h:=e_ (A4 (?_)))))))))));refine A8 ?_;rw[show Bn s dev=none by simp only[Bn];rw[GY ha];rfl];rfl
theorem Rk(s:Spc)(dev:Int)(hs:SpcB s):AFn prog 187 [.agg (Ag s), .v (.int .i64 dev)] (fun r=>r= .v (.bool (C6 s dev))):=by
 refine enter Tryz.func187 rfl rfl rfl rfl rfl 0 rfl ?_;refine w_ (b_ (h:=a_ (h:=e_ (q_ (w_ (m_ (h:=AN (h:=e_ (?_)))))))));refine A9 rfl (fun hb1=>?_) (fun hb1=>?_)
 ·have hc1:=bp hb1;refine w_ (a_ (h:=e_ (A4 (A7 (?_)))));refine A8 ?_;exact vb (by unfold C6;simp[hc1])
 have hc1:=bp hb1;refine AA (w_ (l_ (h:=m_ (h:=?_))));refine A6 rfl (AE (Oe s dev hs) ?_);rintro r rfl;refine m_ (h:=x_ (h:=x_ (h:=Aa (h:=s_ (h:=a_ (h:=e_ (w_ (m_ (h:=a_ (h:=e_ (A4 (?_))))))))))));refine A8 ?_;exact vb (by unfold C6;simp[hc1])
theorem WJ(s:Spc)(a:AB)(hs:SpcB s):AFn prog 280 [.agg (Ag s), .agg (AF a)] (fun r=>r= .tup [.v (.int .i64 ((Bz s a).getD 0)), .v (.bool (Bz s a).isSome)]):=by
 have hfew:=hs.few;refine enter Tryz.func280 rfl rfl rfl rfl rfl 0 rfl ?_;refine w_ (b_ (h:=b_ (h:=a_ (h:=a_ (h:=e_ (q_ (w_ (f_ (h:=l_ (h:=n_ (h:=m_ (h:=e_ (Af (?_))))))))))))));refine BW (fun m t=>∃j:Nat,j≤s.mounts.length∧m=s.mounts.length - j∧(∀i y,i<j→s.mounts[i]?=some y→decide (y.2=a)=false)∧t=⟨look [(3, .bp 1 0),(9, .sl 3 (s.mounts.map Cr) none),(10, .v (.int .i64 ((s.mounts.map Cr).length:Int))),(11, .v (.int .i64 (j:Int)))],⟨[Ag s,AF a],[]⟩⟩) (s.mounts.length) ((wk 2 0)) (⟨0,by omega,rfl,fun i y hi=>by omega,rfl⟩) ?_;rintro m t ⟨j,hj,rfl,ha,rfl⟩;refine w_ (B1 (h:=e_ (q_ (?_))));refine A9 rfl (fun hb1=>?_) (fun hb1=>?_)
 ·have hc1:=bp hb1;obtain⟨hlt,x,hy,hrow, -⟩:=Br Cr hc1;refine AA (q_ (Af (w_ (i_ (h:=l_ (h:=Aa (h:=s_ (h:=e_ (w_ (f_ (h:=l_ (h:=l_ (h:=?_)))))))))))));refine A6 rfl (Ed rfl rfl (by repeat constructor) (by repeat constructor) (fun w=>Ki _ _ _ _ w) (by kernel_rfl) ?_);refine e_ (?_);refine A9 rfl (fun hb2=>?_) (fun hb2=>?_)
  ·have hc2:=bp hb2;refine w_ (f_ (h:=l_ (h:=a_ (h:=a_ (h:=e_ (A4 (AR (A7 (A7 (AR (A7 (?_))))))))))));refine A8 ?_;rw[show Bz s a=some x.1 by simp only[Bz];rw[GX hy (decide_eq_true hc2) ha];rfl];rfl
  have hc2:=bp hb2;refine Av (Ai (t_ (AT (B5 (h:=m_ (h:=AP (?_)))))));refine AK ?_;refine⟨_,_,?_,⟨j+1,by omega,rfl,FS hy ha (decide_eq_false hc2),rfl⟩,(wk 2 0)⟩;omega
 have hc1:=bp hb1;have e3:=C5 Cr hj hc1;subst e3;refine BH (Ah (Ah (BJ (t_ (w_ (a_ (h:=a_ (h:=e_ (A4 (?_))))))))));refine A8 ?_;rw[show Bz s a=none by simp only[Bz];rw[GY ha];rfl];rfl
end
def G9(t:Tst):Nat→Bool
 |0=>false
 |k+1=>G9 t k||decide (BS t ((k:Int)+1)=0)
def Hc(t:Tst):Bool:=G9 t 5
theorem Kj(t:Tst):∀k,G9 t k=true↔∃j:Nat,j<k∧BS t ((j:Int)+1)=0
 |0=>by simp[G9]
 |k+1=>by
   simp only[G9,Bool.or_eq_true,Kj t k,decide_eq_true_eq];constructor
   ·rintro(⟨j,h1,h2⟩|h)
    ·exact⟨j,by omega,h2⟩
    exact⟨k,by omega,h⟩
   rintro⟨j,h1,h2⟩;rcases Nat.lt_or_ge j k with h|h
   ·exact .inl ⟨j,h,h2⟩
   have:j=k:=by omega
   subst this;exact .inr h2
theorem WK{t:Tst}{k:Nat}(hk:k≤5)(h:G9 t k=true):Hc t=true:=by
 obtain⟨j,h1,h2⟩:=(Kj t k).1 h;exact(Kj t 5).2 ⟨j,by omega,h2⟩
theorem WM{t:Tst}{k:Nat}(hk:k≤5)(h5:5≤k)(h:G9 t k=false):Hc t=false:=by
 obtain rfl:k=5:=by omega
 exact h
theorem Rl{list f:Int}(h:DG list f=true):1≤f∧f≤22:=by
 unfold DG CC at h
 (repeat' split at h)<;>simp at h<;>omega
theorem Rm{f:Int}(h:DH f=true):D5 f=false:=by
 unfold DH at h;unfold D5;simp at h ⊢;omega
theorem Rn{t:Tst}(h:Hc t=true):Rc t:=by
 obtain⟨j,_,h2⟩:=(Kj t 5).1 h;generalize (j:Int)+1=list at h2;unfold BS at h2;split at h2
 ·cases h2
 rename_i h3;split at h2
 ·cases h2
 rename_i h4;simp only[not_or,not_and]at h3 h4;have ha:=Rl (by simpa using h3.1);refine⟨ha.1,ha.2,?_,by omega,by omega⟩;by_cases ho:t.other=0
 ·exact .inl ho
 obtain⟨h5,h6,h7⟩:=h3.2 ho;have hb:=Rl (list:=list) (f:=t.other) (by simpa using h5);exact .inr ⟨hb.1,hb.2,Rm (by simpa using h7)⟩
def Je(y:Itm):Bool:= !decide (y.file=(0,0))
def J8(t:Tst)(c:Ctx):Bool:=
 if Hc t=false then false else if Fi t.fld=false∧Fi t.other=false then Eh t c Itm.zero else c.items.any fun y=>Je y&&Eh t c y
def Ml(t:Tst)(c:Ctx):Bool:=
 if Hc t=false∨F3 t.fld c=false∨t.other≠0∧F3 t.other c=false then false else if Fi t.fld=false∧Fi t.other=false then Jc t c Itm.zero else c.items.any fun y=>Je y&&Jc t c y
theorem Ro{α:Type}(p:α→Bool)(l:List α)(k:Nat){x:α}(hx:l[k]?=some x):(l.take (k+1)).any p=((l.take k).any p||p x):=by
 obtain⟨hk,e⟩:=Al.1 hx;rw[List.take_succ_eq_append_getElem hk,List.any_append,e];simp
theorem WN{α:Type}{p:α→Bool}{l:List α}{k:Nat}{x:α}(hx:l[k]?=some x)(h:p x=true):l.any p=true:=
 List.any_eq_true.2 ⟨x,Ar hx,h⟩
section
theorem WO(a b c d:Int)(w:World):(binOp .neq 26 (.agg #[.int .i64 a, .int .i64 b]) (.agg #[.int .i64 c, .int .i64 d])).run prog w= .ok (.bool (!decide ((a,b)=(c,d)))) w:=by
 rw[Ob .neq a b c d w (.inr rfl)];simp
theorem WP(t:Tst)(c:Ctx)(k:Cxs)(hn:c.items.length≤1000):AFn prog 113 [.agg (CM t), .agg (De c k)] (fun r=>r= .v (.bool (J8 t c))):=by
 refine enter Tryz.func113 rfl rfl rfl rfl rfl 0 rfl ?_;refine w_ (b_ (h:=b_ (h:=a_ (h:=e_ (w_ (a_ (h:=e_ (q_ (w_ (a_ (h:=e_ (Af (?_)))))))))))));refine BW (fun n s=>∃j:Nat,j≤5∧n=5 - j∧s=⟨look [(2, .bp 0 0),(3, .bp 1 0),(4, .v (.bool false)),(5, .v (.bool (G9 t j))),(6, .v (.int .i64 ((j:Int)+1)))],⟨[CM t,De c k],[]⟩⟩) (5) ((wk 2 0)) (⟨0,by omega,rfl,rfl⟩) ?_;rintro n s ⟨j,hj,rfl,rfl⟩;refine q_ (w_ (m_ (h:=EJ (h:=e_ (?_)))));refine A9 rfl (fun hb1=>?_) (fun hb1=>?_)
 ·have hc1:=bp hb1;refine AA (q_ (Af (AT (m_ (h:=m_ (h:=?_))))));refine AU false rfl rfl (fun hb2=>?_) (fun hb2=>?_)
  ·have hc2:=bp hb2;refine A3 (h:=A3 (h:=A3 (h:=A3 (h:=AD (h:=a_ (h:=AP (Ai (t_ (AT (m_ (h:=B5 (h:=a_ (h:=AP (?_))))))))))))));refine AK ?_;refine⟨_,_,?_,⟨j+1,by omega,rfl,rfl⟩,Ay 2 0 rfl rfl rfl rfl (by repeat (first|exact Sub.nil|refine B0 rfl rfl ?_|refine B2 ?_|refine B3 rfl ?_|refine B4 rfl ?_|(apply Sub.of;(focus exact rfl);(focus exact LeA.of_eq (vb (by simp[G9, *])));(focus exact rfl))))⟩;omega
  have hc2:=bp hb2;refine l_ (h:=m_ (h:=?_));refine Ax (AE (Rb _ _) ?_);rintro r rfl;refine AN (h:=AG (h:=a_ (h:=AP (Ai (t_ (AT (m_ (h:=B5 (h:=a_ (h:=AP (?_)))))))))));refine AK ?_;refine⟨_,_,?_,⟨j+1,by omega,rfl,rfl⟩,Ay 2 0 rfl rfl rfl rfl (by repeat (first|exact Sub.nil|refine B0 rfl rfl ?_|refine B2 ?_|refine B3 rfl ?_|refine B4 rfl ?_|(apply Sub.of;(focus exact rfl);(focus exact LeA.of_eq (vb (by simp[G9, *])));(focus exact rfl))))⟩;omega
 have hc1:=bp hb1;refine BH (Ah (Ah (BJ (t_ (q_ (w_ (m_ (h:=B7 (h:=e_ (?_))))))))));refine A9 rfl (fun hb3=>?_) (fun hb3=>?_)
 ·have hc3:=bp hb3;have hs:=WM hj (by omega) hc3;refine w_ (a_ (h:=e_ (A4 (A7 (?_)))));refine A8 ?_
  first|(exfalso;first|contradiction|omega)|(exact vb (by simp[J8,hs]))
 have hc3:=bp hb3;have hs:=WK hj hc3;have ht:=Rn hs;refine AA (q_ (?_));refine EU (⟨look [(2, .bp 0 0),(3, .bp 1 0),(4, .v (.bool false)),(31, .v (.bool (!Fi t.fld&& !Fi t.other)))],⟨[CM t,De c k],[]⟩⟩) ?_ ?_
 ·skip
  refine AT (f_ (h:=l_ (h:=?_)));refine A6 rfl (AE (RT _) ?_);rintro r rfl;refine B7 (h:=m_ (h:=?_));refine AU true rfl rfl (fun hb4=>?_) (fun hb4=>?_)
  ·have hc4:=bp hb4;refine f_ (h:=l_ (h:=?_));refine Ax (AE (RT _) ?_);rintro r rfl;refine B7 (h:=AD (h:=AP (?_)));refine AK ?_
   first|(exfalso;first|contradiction|omega)|exact Ay 2 0 rfl rfl rfl rfl (by repeat (first|exact Sub.nil|refine B0 rfl rfl ?_|refine B2 ?_|refine B3 rfl ?_|refine B4 rfl ?_|(apply Sub.of;(focus exact rfl);(focus exact LeA.of_eq (vb (by simp[*])));(focus exact rfl))))
  have hc4:=bp hb4;refine A3 (h:=A3 (h:=A3 (h:=A3 (h:=AG (h:=AP (?_))))));refine AK ?_
  first|(exfalso;first|contradiction|omega)|exact Ay 2 0 rfl rfl rfl rfl (by repeat (first|exact Sub.nil|refine B0 rfl rfl ?_|refine B2 ?_|refine B3 rfl ?_|refine B4 rfl ?_|(apply Sub.of;(focus exact rfl);(focus exact LeA.of_eq (vb (by simp[*])));(focus exact rfl))))
 skip
 refine A9 rfl (fun hb5=>?_) (fun hb5=>?_)
 ·have hc5:=bp hb5;simp at hc5;refine w_ (l_ (h:=l_ (h:=Ab (h:=?_))));refine A6 rfl (AE (Rd t c k Itm.zero ht) ?_);rintro r rfl;refine a_ (h:=e_ (A4 (A7 (?_))));refine A8 ?_
  first|(exfalso;first|contradiction|omega)|(exact vb (by simp[J8,hs,hc5]))
 have hc5:=bp hb5;have hi:¬(Fi t.fld=false∧Fi t.other=false):=by simpa using hc5
 refine AA (q_ (w_ (f_ (h:=l_ (h:=n_ (h:=m_ (h:=e_ (Af (?_)))))))));refine BW (fun n s=>∃j:Nat,j≤c.items.length∧n=c.items.length - j∧(c.items.take j).any (fun y=>Je y&&Eh t c y)=false∧s=⟨look [(2, .bp 0 0),(3, .bp 1 0),(37, .sl 13 (c.items.map Dd) none),(38, .v (.int .i64 ((c.items.map Dd).length:Int))),(39, .v (.int .i64 (j:Int)))],⟨[CM t,De c k],[]⟩⟩) (c.items.length) ((wk 2 0)) (⟨0,by omega,rfl,rfl,rfl⟩) ?_;rintro n s ⟨j,hj,rfl,ha,rfl⟩;refine w_ (B1 (h:=e_ (q_ (?_))));refine A9 rfl (fun hb6=>?_) (fun hb6=>?_)
 ·have hc6:=bp hb6;obtain⟨hlt,y,hy,hrow, -⟩:=Br Dd hc6;refine AA (q_ (Af (w_ (i_ (h:=l_ (h:=Aa (h:=s_ (h:=e_ (w_ (f_ (h:=l_ (h:=Ab (h:=?_)))))))))))));refine A6 rfl (Ed rfl rfl (by repeat constructor) (by repeat constructor) (fun w=>WO _ _ _ _ w) (by kernel_rfl) ?_);refine m_ (h:=?_);refine AU true rfl rfl (fun hb7=>?_) (fun hb7=>?_)
  ·have hc7:=bp hb7;refine l_ (h:=l_ (h:=l_ (h:=?_)));refine Ax (AE (Rd t c k y ht) ?_);rintro r rfl;refine AD (h:=e_ (?_));refine A9 rfl (fun hb8=>?_) (fun hb8=>?_)
   ·have hc8:=bp hb8;refine w_ (a_ (h:=e_ (A4 (AR (A7 (A7 (AR (A7 (?_)))))))));refine A8 ?_
    first|(exfalso;first|contradiction|omega)|(exact vb (by rw[J8,if_neg (by simp[hs]),if_neg hi,WN hy (by simp[Je, *])]))
   have hc8:=bp hb8;refine Av (Ai (t_ (AT (B5 (h:=m_ (h:=AP (?_)))))));refine AK ?_;refine⟨_,_,?_,⟨j+1,by omega,rfl,(by rw[Ro _ _ _ hy,ha];simp[Je, *]),rfl⟩,(wk 2 0)⟩;omega
  have hc7:=bp hb7;refine A3 (h:=A3 (h:=A3 (h:=A3 (h:=AG (h:=e_ (Bh (h:=Av (Ai (t_ (AT (B5 (h:=m_ (h:=AP (?_))))))))))))));refine AK ?_;refine⟨_,_,?_,⟨j+1,by omega,rfl,(by rw[Ro _ _ _ hy,ha];simp[Je, *]),rfl⟩,(wk 2 0)⟩;omega
 have hc6:=bp hb6;have e:=C5 Dd hj hc6;subst e;rw[List.take_length]at ha;refine BH (Ah (Ah (BJ (t_ (w_ (a_ (h:=e_ (A4 (?_)))))))));refine A8 ?_
 first|(exfalso;first|contradiction|omega)|(exact vb (by rw[J8,if_neg (by simp[hs]),if_neg hi,ha]))
end
theorem WQ{t:Tst}(h:Hc t=true)(h2:t.other≠0):D5 t.fld=false:=by
 obtain⟨j,_,h3⟩:=(Kj t 5).1 h;unfold BS at h3;split at h3
 ·cases h3
 rename_i h4;simp only[not_or,not_and]at h4;exact Rm (by simpa using(h4.2 h2).2.1)
theorem Rp{f:Int}{c:Ctx}(h1:1≤f)(h2:f≤22)(h3:D5 f=false):Bg f c=F3 f c:=by
 simp only[D5,decide_eq_false_iff_not]at h3;unfold Bg F3
 (repeat' split)<;>first|omega|(simp;omega)|(simp[*];done)|rfl
theorem WR{f:Int}{c:Ctx}(h:D5 f=true):F3 f c=true:=by
 simp only[D5,decide_eq_true_eq]at h;unfold F3;rw[if_neg (by omega)];simp;omega
theorem WS{t:Tst}{c:Ctx}(hs:Hc t=true)(y:Itm):Eh t c y=if F3 t.fld c=false∨t.other≠0∧F3 t.other c=false then false else Jc t c y:=by
 obtain⟨f1,f2,o, -, -⟩:=Rn hs;have h2:=WQ hs;by_cases ht:D5 t.fld=true
 ·have ho:t.other=0:=Classical.byContradiction fun e=>by simp[h2 e]at ht
  rw[if_neg (by simp[WR ht,ho])];simp[Eh,Jc,ht]
 have ht':D5 t.fld=false:=by simpa using ht
 have e1:=Rp (c:=c) f1 f2 ht';by_cases h0:t.other=0
 ·simp only[Eh,Jc,ht',e1,h0];cases F3 t.fld c<;>simp
 obtain⟨o1,o2,o3⟩:=o.resolve_left h0;have e2:=Rp (c:=c) o1 o2 o3;simp only[Eh,Jc,ht',e1,e2,h0];cases F3 t.fld c<;>cases F3 t.other c<;>simp[h0]
theorem Rq(t:Tst)(c:Ctx):J8 t c=Ml t c:=by
 unfold J8 Ml
 cases hs:Hc t with
 |false=>simp
 |true=>
   simp only[WS hs];by_cases hq:F3 t.fld c=false∨t.other≠0∧F3 t.other c=false
   ·simp[hq]
   simp[hq]
end Go.Proofs.YtbgnigjfkbmceaaGreatDoor
