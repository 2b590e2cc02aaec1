/-
  Part 5 of the proof of RulesExecutedP: what the statement's proof uses of the texts in wip/tpl.
-/
import Derived.Laws.StructEq
import Derived.Test.YtbgnigjfkbmceaaGreatDoorQc4
open Go.Proofs.Tryz (prog)
set_option maxRecDepth 10000
set_option maxHeartbeats 4000000
set_option linter.unusedVariables false
set_option linter.unusedSimpArgs false
namespace Go.Proofs.YtbgnigjfkbmceaaGreatDoor
open Go.RowKit
def E1(op a b:Int):Bool:=
 if op=1 then decide (a=b)else if op=2 then !decide (a=b)else if op=3 then decide (a<b)else if op=4 then decide (a≤b)else if op=5 then decide (b<a)
 else if op=6 then decide (b≤a)else if op=7 then !decide (Ef .i64 a b=0)else decide (Ef .i64 a b=b)
section
theorem SH(op a b:Int)(h1:1≤op)(h2:op≤8):AFn prog 223 [.v (.int .i64 op), .v (.int .i64 a), .v (.int .i64 b)] (fun r=>r= .v (.bool (E1 op a b))):=by
 refine enter Tryz.func223 rfl rfl rfl rfl rfl 0 rfl ?_;refine w_ (a_ (h:=e_ (q_ (w_ (m_ (h:=e_ (Ag (w_ (AD (h:=a_ (h:=e_ (?_))))))))))));refine A8 rfl (fun hb1=>?_) (fun hb1=>?_)
 ·have hc1:=bp hb1;refine w_ (m_ (h:=m_ (h:=AD (h:=a_ (h:=e_ (A4 (AK (A6 (?_)))))))));refine A9 ?_
  first|(exfalso;first|contradiction|omega)|(exact vb (by unfold E1;simp[*]))
 have hc1:=bp hb1;refine w_ (AD (h:=a_ (h:=e_ (?_))));refine A8 rfl (fun hb2=>?_) (fun hb2=>?_)
 ·have hc2:=bp hb2;refine w_ (m_ (h:=m_ (h:=Ap (h:=a_ (h:=e_ (A4 (AK (A6 (?_)))))))));refine A9 ?_
  first|(exfalso;first|contradiction|omega)|(exact vb (by unfold E1;simp[*]))
 have hc2:=bp hb2;refine w_ (AD (h:=a_ (h:=e_ (?_))));refine A8 rfl (fun hb3=>?_) (fun hb3=>?_)
 ·have hc3:=bp hb3;refine w_ (m_ (h:=m_ (h:=BB (h:=a_ (h:=e_ (A4 (AK (A6 (?_)))))))));refine A9 ?_
  first|(exfalso;first|contradiction|omega)|(exact vb (by unfold E1;simp[*]))
 have hc3:=bp hb3;refine w_ (AD (h:=a_ (h:=e_ (?_))));refine A8 rfl (fun hb4=>?_) (fun hb4=>?_)
 ·have hc4:=bp hb4;refine w_ (m_ (h:=m_ (h:=E6 (h:=a_ (h:=e_ (A4 (AK (A6 (?_)))))))));refine A9 ?_
  first|(exfalso;first|contradiction|omega)|(exact vb (by unfold E1;simp[*]))
 have hc4:=bp hb4;refine w_ (AD (h:=a_ (h:=e_ (?_))));refine A8 rfl (fun hb5=>?_) (fun hb5=>?_)
 ·have hc5:=bp hb5;refine w_ (m_ (h:=m_ (h:=Bl (h:=a_ (h:=e_ (A4 (AK (A6 (?_)))))))));refine A9 ?_
  first|(exfalso;first|contradiction|omega)|(exact vb (by unfold E1;simp[*]))
 have hc5:=bp hb5;refine w_ (AD (h:=a_ (h:=e_ (?_))));refine A8 rfl (fun hb6=>?_) (fun hb6=>?_)
 ·have hc6:=bp hb6;refine w_ (m_ (h:=m_ (h:=Cw (h:=a_ (h:=e_ (A4 (AK (A6 (?_)))))))));refine A9 ?_
  first|(exfalso;first|contradiction|omega)|(exact vb (by unfold E1;simp[*]))
 have hc6:=bp hb6;refine w_ (AD (h:=a_ (h:=e_ (?_))));refine A8 rfl (fun hb7=>?_) (fun hb7=>?_)
 ·have hc7:=bp hb7;refine w_ (m_ (h:=m_ (h:=DR (h:=Ap (h:=a_ (h:=e_ (A4 (AK (A6 (?_))))))))));refine A9 ?_
  first|(exfalso;first|contradiction|omega)|(exact vb (by unfold E1;simp[*]))
 have hc7:=bp hb7;refine w_ (AD (h:=a_ (h:=e_ (?_))));refine A8 rfl (fun hb8=>?_) (fun hb8=>?_)
 ·have hc8:=bp hb8;refine w_ (m_ (h:=m_ (h:=DR (h:=m_ (h:=AD (h:=a_ (h:=e_ (A4 (AK (A6 (?_)))))))))));refine A9 ?_
  first|(exfalso;first|contradiction|omega)|(exact vb (by unfold E1;simp[*]))
 have hc8:=bp hb8;refine Au (Ah (t_ (w_ (a_ (h:=e_ (A4 (?_)))))));refine A9 ?_
 first|(exfalso;first|contradiction|omega)|(exact vb (by unfold E1;simp[*]))
theorem SJ(op a b:Int)(h1:1≤op)(h2:op≤8):AFn prog 225 [.v (.int .i64 op), .v (.int .i64 a), .v (.int .i64 b)] (fun r=>r= .v (.bool (E1 op a b))):=by
 refine enter Tryz.func225 rfl rfl rfl rfl rfl 0 rfl ?_;refine w_ (a_ (h:=e_ (q_ (w_ (m_ (h:=e_ (Ag (w_ (AD (h:=a_ (h:=e_ (?_))))))))))));refine A8 rfl (fun hb1=>?_) (fun hb1=>?_)
 ·have hc1:=bp hb1;refine w_ (m_ (h:=m_ (h:=AD (h:=a_ (h:=e_ (A4 (AK (A6 (?_)))))))));refine A9 ?_
  first|(exfalso;first|contradiction|omega)|(exact vb (by unfold E1;simp[*]))
 have hc1:=bp hb1;refine w_ (AD (h:=a_ (h:=e_ (?_))));refine A8 rfl (fun hb2=>?_) (fun hb2=>?_)
 ·have hc2:=bp hb2;refine w_ (m_ (h:=m_ (h:=Ap (h:=a_ (h:=e_ (A4 (AK (A6 (?_)))))))));refine A9 ?_
  first|(exfalso;first|contradiction|omega)|(exact vb (by unfold E1;simp[*]))
 have hc2:=bp hb2;refine w_ (AD (h:=a_ (h:=e_ (?_))));refine A8 rfl (fun hb3=>?_) (fun hb3=>?_)
 ·have hc3:=bp hb3;refine w_ (m_ (h:=m_ (h:=BB (h:=a_ (h:=e_ (A4 (AK (A6 (?_)))))))));refine A9 ?_
  first|(exfalso;first|contradiction|omega)|(exact vb (by unfold E1;simp[*]))
 have hc3:=bp hb3;refine w_ (AD (h:=a_ (h:=e_ (?_))));refine A8 rfl (fun hb4=>?_) (fun hb4=>?_)
 ·have hc4:=bp hb4;refine w_ (m_ (h:=m_ (h:=E6 (h:=a_ (h:=e_ (A4 (AK (A6 (?_)))))))));refine A9 ?_
  first|(exfalso;first|contradiction|omega)|(exact vb (by unfold E1;simp[*]))
 have hc4:=bp hb4;refine w_ (AD (h:=a_ (h:=e_ (?_))));refine A8 rfl (fun hb5=>?_) (fun hb5=>?_)
 ·have hc5:=bp hb5;refine w_ (m_ (h:=m_ (h:=Bl (h:=a_ (h:=e_ (A4 (AK (A6 (?_)))))))));refine A9 ?_
  first|(exfalso;first|contradiction|omega)|(exact vb (by unfold E1;simp[*]))
 have hc5:=bp hb5;refine w_ (AD (h:=a_ (h:=e_ (?_))));refine A8 rfl (fun hb6=>?_) (fun hb6=>?_)
 ·have hc6:=bp hb6;refine w_ (m_ (h:=m_ (h:=Cw (h:=a_ (h:=e_ (A4 (AK (A6 (?_)))))))));refine A9 ?_
  first|(exfalso;first|contradiction|omega)|(exact vb (by unfold E1;simp[*]))
 have hc6:=bp hb6;refine w_ (AD (h:=a_ (h:=e_ (?_))));refine A8 rfl (fun hb7=>?_) (fun hb7=>?_)
 ·have hc7:=bp hb7;refine w_ (m_ (h:=m_ (h:=DR (h:=Ap (h:=a_ (h:=e_ (A4 (AK (A6 (?_))))))))));refine A9 ?_
  first|(exfalso;first|contradiction|omega)|(exact vb (by unfold E1;simp[*]))
 have hc7:=bp hb7;refine Au (Ah (t_ (w_ (m_ (h:=m_ (h:=DR (h:=m_ (h:=AD (h:=a_ (h:=e_ (A4 (?_))))))))))));refine A9 ?_
 first|(exfalso;first|contradiction|omega)|(exact vb (by unfold E1;simp[*]))
theorem SK(f:Int)(c:Ctx)(k:Cxs):AFn prog 163 [.v (.int .i64 f), .agg (D4 c k)] (fun r=>r= .v (.bool (DX f c))):=by
 refine enter Tryz.func163 rfl rfl rfl rfl rfl 0 rfl ?_;refine w_ (b_ (h:=a_ (h:=e_ (q_ (w_ (m_ (h:=Cw (h:=m_ (h:=?_)))))))));refine AW true rfl rfl (fun hb1=>?_) (fun hb1=>?_)
 ·have hc1:=bp hb1;refine m_ (h:=E6 (h:=AF (h:=e_ (?_))));refine A8 rfl (fun hb2=>?_) (fun hb2=>?_)
  ·have hc2:=bp hb2;refine w_ (f_ (h:=l_ (h:=AD (h:=a_ (h:=e_ (A4 (A6 (?_))))))));refine A9 ?_
   first|(exfalso;first|contradiction|omega)|(exact vb (by unfold DX;(repeat' split)<;>(try rw[Bool.eq_iff_iff])<;>(try simp[*])<;>(try omega)))
  have hc2:=bp hb2;refine AB (w_ (m_ (h:=Ap (h:=m_ (h:=?_)))));refine AW false rfl rfl (fun hb3=>?_) (fun hb3=>?_)
  ·have hc3:=bp hb3;refine A3 (h:=A3 (h:=A3 (h:=AF (h:=a_ (h:=e_ (A4 (?_)))))));refine A9 ?_
   first|(exfalso;first|contradiction|omega)|(exact vb (by unfold DX;(repeat' split)<;>(try rw[Bool.eq_iff_iff])<;>(try simp[*])<;>(try omega)))
  have hc3:=bp hb3;refine f_ (h:=l_ (h:=Ap (h:=AM (h:=a_ (h:=e_ (A4 (?_)))))));refine A9 ?_
  first|(exfalso;first|contradiction|omega)|(exact vb (by unfold DX;(repeat' split)<;>(try rw[Bool.eq_iff_iff])<;>(try simp[*])<;>(try omega)))
 have hc1:=bp hb1;refine A3 (h:=A3 (h:=AM (h:=e_ (Bp (h:=AB (w_ (m_ (h:=Ap (h:=m_ (h:=?_))))))))));refine AW false rfl rfl (fun hb4=>?_) (fun hb4=>?_)
 ·have hc4:=bp hb4;refine A3 (h:=A3 (h:=A3 (h:=AF (h:=a_ (h:=e_ (A4 (?_)))))));refine A9 ?_
  first|(exfalso;first|contradiction|omega)|(exact vb (by unfold DX;(repeat' split)<;>(try rw[Bool.eq_iff_iff])<;>(try simp[*])<;>(try omega)))
 have hc4:=bp hb4;refine f_ (h:=l_ (h:=Ap (h:=AM (h:=a_ (h:=e_ (A4 (?_)))))));refine A9 ?_
 first|(exfalso;first|contradiction|omega)|(exact vb (by unfold DX;(repeat' split)<;>(try rw[Bool.eq_iff_iff])<;>(try simp[*])<;>(try omega)))
theorem PJ(f:Int)(c:Ctx)(k:Cxs)(y:Itm):AFn prog 224 [.v (.int .i64 f), .agg (D4 c k), .agg (Ga y)] (fun r=>r= .v (.int .i64 (Bq f c y))):=by
 refine enter Tryz.func224 rfl rfl rfl rfl rfl 0 rfl ?_;refine w_ (b_ (h:=b_ (h:=a_ (h:=e_ (w_ (f_ (h:=l_ (h:=Al (h:=s_ (h:=e_ (q_ (w_ (m_ (h:=e_ (Ag (w_ (AD (h:=a_ (h:=e_ (?_))))))))))))))))))));refine A8 rfl (fun hb1=>?_) (fun hb1=>?_)
 ·have hc1:=bp hb1;refine w_ (f_ (h:=l_ (h:=a_ (h:=e_ (A4 (AK (A6 (?_))))))));refine A9 ?_
  first|(exfalso;first|contradiction|omega)|(exact vi (by unfold Bq;simp[*]))
 have hc1:=bp hb1;refine w_ (AD (h:=a_ (h:=e_ (?_))));refine A8 rfl (fun hb2=>?_) (fun hb2=>?_)
 ·have hc2:=bp hb2;refine w_ (f_ (h:=l_ (h:=a_ (h:=e_ (A4 (AK (A6 (?_))))))));refine A9 ?_
  first|(exfalso;first|contradiction|omega)|(exact vi (by unfold Bq;simp[*]))
 have hc2:=bp hb2;refine w_ (AD (h:=a_ (h:=e_ (?_))));refine A8 rfl (fun hb3=>?_) (fun hb3=>?_)
 ·have hc3:=bp hb3;refine w_ (f_ (h:=l_ (h:=a_ (h:=e_ (A4 (AK (A6 (?_))))))));refine A9 ?_
  first|(exfalso;first|contradiction|omega)|(exact vi (by unfold Bq;simp[*]))
 have hc3:=bp hb3;refine w_ (AD (h:=a_ (h:=e_ (?_))));refine A8 rfl (fun hb4=>?_) (fun hb4=>?_)
 ·have hc4:=bp hb4;refine w_ (f_ (h:=l_ (h:=a_ (h:=e_ (A4 (AK (A6 (?_))))))));refine A9 ?_
  first|(exfalso;first|contradiction|omega)|(exact vi (by unfold Bq;simp[*]))
 have hc4:=bp hb4;refine w_ (AD (h:=a_ (h:=e_ (?_))));refine A8 rfl (fun hb5=>?_) (fun hb5=>?_)
 ·have hc5:=bp hb5;refine w_ (f_ (h:=l_ (h:=a_ (h:=e_ (A4 (AK (A6 (?_))))))));refine A9 ?_
  first|(exfalso;first|contradiction|omega)|(exact vi (by unfold Bq;simp[*]))
 have hc5:=bp hb5;refine w_ (AD (h:=a_ (h:=e_ (?_))));refine A8 rfl (fun hb6=>?_) (fun hb6=>?_)
 ·have hc6:=bp hb6;refine w_ (f_ (h:=l_ (h:=a_ (h:=e_ (A4 (AK (A6 (?_))))))));refine A9 ?_
  first|(exfalso;first|contradiction|omega)|(exact vi (by unfold Bq;simp[*]))
 have hc6:=bp hb6;refine w_ (AD (h:=a_ (h:=e_ (?_))));refine A8 rfl (fun hb7=>?_) (fun hb7=>?_)
 ·have hc7:=bp hb7;refine w_ (f_ (h:=l_ (h:=a_ (h:=e_ (A4 (AK (A6 (?_))))))));refine A9 ?_
  first|(exfalso;first|contradiction|omega)|(exact vi (by unfold Bq;simp[*]))
 have hc7:=bp hb7;refine w_ (AD (h:=a_ (h:=e_ (?_))));refine A8 rfl (fun hb8=>?_) (fun hb8=>?_)
 ·have hc8:=bp hb8;refine w_ (f_ (h:=l_ (h:=a_ (h:=e_ (A4 (AK (A6 (?_))))))));refine A9 ?_
  first|(exfalso;first|contradiction|omega)|(exact vi (by unfold Bq;simp[*]))
 have hc8:=bp hb8;refine q_ (w_ (AD (h:=a_ (h:=e_ (?_)))));refine A8 rfl (fun hb9=>?_) (fun hb9=>?_)
 ·have hc9:=bp hb9;refine AB (B8 (h:=w_ (m_ (h:=Fd (h:=f_ (h:=f_ (h:=?_)))))))
  first|refine A7 rfl (BW (n:=0) (len:=4) (sz:=1) (by kernel_rfl) rfl rfl (by omega) rfl ?_)|refine A7 rfl (BW (n:=1) (len:=4) (sz:=1) (by kernel_rfl) rfl rfl (by omega) rfl ?_)|refine A7 rfl (BW (n:=2) (len:=4) (sz:=1) (by kernel_rfl) rfl rfl (by omega) rfl ?_)|refine A7 rfl (BW (n:=3) (len:=4) (sz:=1) (by kernel_rfl) rfl rfl (by omega) rfl ?_)
  refine l_ (h:=a_ (h:=e_ (A4 (AK (A6 (?_))))));refine A9 ?_
  first|(exfalso;first|contradiction|omega)|(exact vi (by unfold Bq;simp[*]))
 have hc9:=bp hb9;refine w_ (AD (h:=a_ (h:=e_ (?_))));refine A8 rfl (fun hb10=>?_) (fun hb10=>?_)
 ·have hc10:=bp hb10;refine AB (B8 (h:=w_ (m_ (h:=Fd (h:=f_ (h:=f_ (h:=?_)))))))
  first|refine A7 rfl (BW (n:=0) (len:=4) (sz:=1) (by kernel_rfl) rfl rfl (by omega) rfl ?_)|refine A7 rfl (BW (n:=1) (len:=4) (sz:=1) (by kernel_rfl) rfl rfl (by omega) rfl ?_)|refine A7 rfl (BW (n:=2) (len:=4) (sz:=1) (by kernel_rfl) rfl rfl (by omega) rfl ?_)|refine A7 rfl (BW (n:=3) (len:=4) (sz:=1) (by kernel_rfl) rfl rfl (by omega) rfl ?_)
  refine l_ (h:=a_ (h:=e_ (A4 (AK (A6 (?_))))));refine A9 ?_
  first|(exfalso;first|contradiction|omega)|(exact vi (by unfold Bq;simp[*]))
 have hc10:=bp hb10;refine w_ (AD (h:=a_ (h:=e_ (?_))));refine A8 rfl (fun hb11=>?_) (fun hb11=>?_)
 ·have hc11:=bp hb11;refine AB (B8 (h:=w_ (m_ (h:=Fd (h:=f_ (h:=f_ (h:=?_)))))))
  first|refine A7 rfl (BW (n:=0) (len:=4) (sz:=1) (by kernel_rfl) rfl rfl (by omega) rfl ?_)|refine A7 rfl (BW (n:=1) (len:=4) (sz:=1) (by kernel_rfl) rfl rfl (by omega) rfl ?_)|refine A7 rfl (BW (n:=2) (len:=4) (sz:=1) (by kernel_rfl) rfl rfl (by omega) rfl ?_)|refine A7 rfl (BW (n:=3) (len:=4) (sz:=1) (by kernel_rfl) rfl rfl (by omega) rfl ?_)
  refine l_ (h:=a_ (h:=e_ (A4 (AK (A6 (?_))))));refine A9 ?_
  first|(exfalso;first|contradiction|omega)|(exact vi (by unfold Bq;simp[*]))
 have hc11:=bp hb11;refine AR (AD (h:=a_ (h:=e_ (?_))));refine A8 rfl (fun hb12=>?_) (fun hb12=>?_)
 ·have hc12:=bp hb12;refine w_ (m_ (h:=Fd (h:=f_ (h:=f_ (h:=?_)))))
  first|refine A7 rfl (BW (n:=0) (len:=4) (sz:=1) (by kernel_rfl) rfl rfl (by omega) rfl ?_)|refine A7 rfl (BW (n:=1) (len:=4) (sz:=1) (by kernel_rfl) rfl rfl (by omega) rfl ?_)|refine A7 rfl (BW (n:=2) (len:=4) (sz:=1) (by kernel_rfl) rfl rfl (by omega) rfl ?_)|refine A7 rfl (BW (n:=3) (len:=4) (sz:=1) (by kernel_rfl) rfl rfl (by omega) rfl ?_)
  refine l_ (h:=a_ (h:=e_ (A4 (AK (A6 (?_))))));refine A9 ?_
  first|(exfalso;first|contradiction|omega)|(exact vi (by unfold Bq;simp[*]))
 have hc12:=bp hb12;refine w_ (AD (h:=a_ (h:=e_ (?_))));refine A8 rfl (fun hb13=>?_) (fun hb13=>?_)
 ·have hc13:=bp hb13;refine w_ (f_ (h:=l_ (h:=a_ (h:=e_ (A4 (AK (A6 (?_))))))));refine A9 ?_
  first|(exfalso;first|contradiction|omega)|(exact vi (by unfold Bq;simp[*]))
 have hc13:=bp hb13;refine w_ (AD (h:=a_ (h:=e_ (?_))));refine A8 rfl (fun hb14=>?_) (fun hb14=>?_)
 ·have hc14:=bp hb14;refine q_ (w_ (f_ (h:=l_ (h:=Cw (h:=e_ (?_))))));refine A8 rfl (fun hb15=>?_) (fun hb15=>?_)
  ·have hc15:=bp hb15;refine w_ (a_ (h:=e_ (A4 (A6 (AK (A6 (?_)))))));refine A9 ?_
   first|(exfalso;first|contradiction|omega)|(exact vi (by unfold Bq;simp[*]))
  have hc15:=bp hb15;refine AB (w_ (a_ (h:=e_ (A4 (AK (A6 (?_)))))));refine A9 ?_
  first|(exfalso;first|contradiction|omega)|(exact vi (by unfold Bq;simp[*]))
 have hc14:=bp hb14;refine w_ (AD (h:=a_ (h:=e_ (?_))));refine A8 rfl (fun hb16=>?_) (fun hb16=>?_)
 ·have hc16:=bp hb16;refine w_ (f_ (h:=f_ (h:=l_ (h:=a_ (h:=e_ (A4 (AK (A6 (?_)))))))));refine A9 ?_
  first|(exfalso;first|contradiction|omega)|(exact vi (by unfold Bq;simp[*]))
 have hc16:=bp hb16;refine w_ (AD (h:=a_ (h:=e_ (?_))));refine A8 rfl (fun hb17=>?_) (fun hb17=>?_)
 ·have hc17:=bp hb17;refine w_ (f_ (h:=f_ (h:=l_ (h:=a_ (h:=e_ (A4 (AK (A6 (?_)))))))));refine A9 ?_
  first|(exfalso;first|contradiction|omega)|(exact vi (by unfold Bq;simp[*]))
 have hc17:=bp hb17;refine w_ (AD (h:=a_ (h:=e_ (?_))));refine A8 rfl (fun hb18=>?_) (fun hb18=>?_)
 ·have hc18:=bp hb18;refine w_ (f_ (h:=l_ (h:=a_ (h:=e_ (A4 (AK (A6 (?_))))))));refine A9 ?_
  first|(exfalso;first|contradiction|omega)|(exact vi (by unfold Bq;simp[*]))
 have hc18:=bp hb18;refine w_ (AD (h:=a_ (h:=e_ (?_))));refine A8 rfl (fun hb19=>?_) (fun hb19=>?_)
 ·have hc19:=bp hb19;refine w_ (f_ (h:=l_ (h:=a_ (h:=e_ (A4 (AK (A6 (?_))))))));refine A9 ?_
  first|(exfalso;first|contradiction|omega)|(exact vi (by unfold Bq;simp[*]))
 have hc19:=bp hb19;refine w_ (AD (h:=a_ (h:=e_ (?_))));refine A8 rfl (fun hb20=>?_) (fun hb20=>?_)
 ·have hc20:=bp hb20;refine w_ (f_ (h:=l_ (h:=a_ (h:=e_ (A4 (AK (A6 (?_))))))));refine A9 ?_
  first|(exfalso;first|contradiction|omega)|(exact vi (by unfold Bq;simp[*]))
 have hc20:=bp hb20;refine Au (Ah (t_ (w_ (f_ (h:=l_ (h:=a_ (h:=e_ (A4 (?_)))))))));refine A9 ?_
 first|(exfalso;first|contradiction|omega)|(exact vi (by unfold Bq;simp[*]))
theorem X3(f:Int)(c:Ctx)(k:Cxs)(y:Itm)(h1:15≤f)(h2:f≤21):AFn prog 254 [.v (.int .i64 f), .agg (D4 c k), .agg (Ga y)] (fun r=>r= .tup [.v (.int .i64 (Bq f c y)), .v (.bool true)]):=by
 refine enter Tryz.func254 rfl rfl rfl rfl rfl 0 rfl ?_;refine w_ (b_ (h:=b_ (h:=a_ (h:=a_ (h:=e_ (q_ (w_ (m_ (h:=e_ (Ag (w_ (AD (h:=a_ (h:=e_ (?_)))))))))))))));refine A8 rfl (fun hb1=>?_) (fun hb1=>?_)
 ·have hc1:=bp hb1;refine w_ (f_ (h:=l_ (h:=a_ (h:=a_ (h:=e_ (A4 (AK (A6 (?_)))))))));refine A9 ?_
  first|(exfalso;first|contradiction|omega)|(exact congrArg (fun z=>AV.tup [.v (.int .i64 z), .v (.bool true)]) (by unfold Bq;simp[*]))
 have hc1:=bp hb1;refine w_ (AD (h:=a_ (h:=e_ (?_))));refine A8 rfl (fun hb2=>?_) (fun hb2=>?_)
 ·have hc2:=bp hb2;refine q_ (w_ (f_ (h:=l_ (h:=Cw (h:=e_ (?_))))));refine A8 rfl (fun hb3=>?_) (fun hb3=>?_)
  ·have hc3:=bp hb3;refine w_ (a_ (h:=a_ (h:=e_ (A4 (A6 (AK (A6 (?_))))))));refine A9 ?_
   first|(exfalso;first|contradiction|omega)|(exact congrArg (fun z=>AV.tup [.v (.int .i64 z), .v (.bool true)]) (by unfold Bq;simp[*]))
  have hc3:=bp hb3;refine AB (w_ (a_ (h:=a_ (h:=e_ (A4 (AK (A6 (?_))))))));refine A9 ?_
  first|(exfalso;first|contradiction|omega)|(exact congrArg (fun z=>AV.tup [.v (.int .i64 z), .v (.bool true)]) (by unfold Bq;simp[*]))
 have hc2:=bp hb2;refine w_ (AD (h:=a_ (h:=e_ (?_))));refine A8 rfl (fun hb4=>?_) (fun hb4=>?_)
 ·have hc4:=bp hb4;refine w_ (f_ (h:=f_ (h:=l_ (h:=a_ (h:=a_ (h:=e_ (A4 (AK (A6 (?_))))))))));refine A9 ?_
  first|(exfalso;first|contradiction|omega)|(exact congrArg (fun z=>AV.tup [.v (.int .i64 z), .v (.bool true)]) (by unfold Bq;simp[*]))
 have hc4:=bp hb4;refine w_ (AD (h:=a_ (h:=e_ (?_))));refine A8 rfl (fun hb5=>?_) (fun hb5=>?_)
 ·have hc5:=bp hb5;refine w_ (f_ (h:=f_ (h:=l_ (h:=a_ (h:=a_ (h:=e_ (A4 (AK (A6 (?_))))))))));refine A9 ?_
  first|(exfalso;first|contradiction|omega)|(exact congrArg (fun z=>AV.tup [.v (.int .i64 z), .v (.bool true)]) (by unfold Bq;simp[*]))
 have hc5:=bp hb5;refine w_ (AD (h:=a_ (h:=e_ (?_))));refine A8 rfl (fun hb6=>?_) (fun hb6=>?_)
 ·have hc6:=bp hb6;refine w_ (f_ (h:=l_ (h:=a_ (h:=a_ (h:=e_ (A4 (AK (A6 (?_)))))))));refine A9 ?_
  first|(exfalso;first|contradiction|omega)|(exact congrArg (fun z=>AV.tup [.v (.int .i64 z), .v (.bool true)]) (by unfold Bq;simp[*]))
 have hc6:=bp hb6;refine w_ (AD (h:=a_ (h:=e_ (?_))));refine A8 rfl (fun hb7=>?_) (fun hb7=>?_)
 ·have hc7:=bp hb7;refine w_ (f_ (h:=l_ (h:=a_ (h:=a_ (h:=e_ (A4 (AK (A6 (?_)))))))));refine A9 ?_
  first|(exfalso;first|contradiction|omega)|(exact congrArg (fun z=>AV.tup [.v (.int .i64 z), .v (.bool true)]) (by unfold Bq;simp[*]))
 have hc7:=bp hb7;refine w_ (AD (h:=a_ (h:=e_ (?_))));refine A8 rfl (fun hb8=>?_) (fun hb8=>?_)
 ·have hc8:=bp hb8;refine w_ (f_ (h:=l_ (h:=a_ (h:=a_ (h:=e_ (A4 (AK (A6 (?_)))))))));refine A9 ?_
  first|(exfalso;first|contradiction|omega)|(exact congrArg (fun z=>AV.tup [.v (.int .i64 z), .v (.bool true)]) (by unfold Bq;simp[*]))
 have hc8:=bp hb8;refine Au (Ah (t_ (w_ (a_ (h:=a_ (h:=e_ (A4 (?_))))))));refine A9 ?_
 first|(exfalso;first|contradiction|omega)|(exact congrArg (fun z=>AV.tup [.v (.int .i64 z), .v (.bool true)]) (by unfold Bq;simp[*]))
def NumP(f:Int)(c:Ctx)(y:Itm)(r:AV):Prop:=∃n,r= .tup [.v (.int .i64 n), .v (.bool (Bu f c))]∧(Bu f c=true→n=Bq f c y)
theorem NumP.mk{f n:Int}{c:Ctx}{y:Itm}{b:Bool}(hb:b=Bu f c)(hn:Bu f c=true→n=Bq f c y):NumP f c y (.tup [.v (.int .i64 n), .v (.bool b)]):=⟨n,by rw[hb],hn⟩
theorem SL(f:Int)(c:Ctx)(k:Cxs)(y:Itm)(h1:1≤f)(h2:f≤22)(ht:DW f=false):AFn prog 222 [.v (.int .i64 f), .agg (D4 c k), .agg (Ga y)] (NumP f c y):=by
 simp only[DW,decide_eq_false_iff_not]at ht;refine enter Tryz.func222 rfl rfl rfl rfl rfl 0 rfl ?_;refine w_ (b_ (h:=b_ (h:=a_ (h:=a_ (h:=e_ (q_ (w_ (m_ (h:=e_ (Ag (w_ (AD (h:=a_ (h:=e_ (?_)))))))))))))));refine A8 rfl (fun hb1=>?_) (fun hb1=>?_)
 ·have hc1:=bp hb1;refine w_ (f_ (h:=f_ (h:=l_ (h:=a_ (h:=a_ (h:=e_ (A4 (AK (A6 (?_))))))))));refine A9 ?_
  first|(exfalso;first|contradiction|omega)|(exact NumP.mk (by unfold Bu;(repeat' split)<;>(first|omega|(simp[*];done)|(simp;omega)|(simp at *;omega))) (fun hq=>by first|(unfold Bq;simp[*];done)|(unfold Bu at hq;simp[*]at hq;omega)|(unfold Bu at hq;simp[*]at hq)))
 have hc1:=bp hb1;refine w_ (AD (h:=a_ (h:=e_ (?_))));refine A8 rfl (fun hb2=>?_) (fun hb2=>?_)
 ·have hc2:=bp hb2;refine w_ (f_ (h:=f_ (h:=l_ (h:=a_ (h:=a_ (h:=e_ (A4 (AK (A6 (?_))))))))));refine A9 ?_
  first|(exfalso;first|contradiction|omega)|(exact NumP.mk (by unfold Bu;(repeat' split)<;>(first|omega|(simp[*];done)|(simp;omega)|(simp at *;omega))) (fun hq=>by first|(unfold Bq;simp[*];done)|(unfold Bu at hq;simp[*]at hq;omega)|(unfold Bu at hq;simp[*]at hq)))
 have hc2:=bp hb2;refine w_ (AD (h:=a_ (h:=e_ (?_))));refine A8 rfl (fun hb3=>?_) (fun hb3=>?_)
 ·have hc3:=bp hb3;refine w_ (f_ (h:=f_ (h:=l_ (h:=a_ (h:=a_ (h:=e_ (A4 (AK (A6 (?_))))))))));refine A9 ?_
  first|(exfalso;first|contradiction|omega)|(exact NumP.mk (by unfold Bu;(repeat' split)<;>(first|omega|(simp[*];done)|(simp;omega)|(simp at *;omega))) (fun hq=>by first|(unfold Bq;simp[*];done)|(unfold Bu at hq;simp[*]at hq;omega)|(unfold Bu at hq;simp[*]at hq)))
 have hc3:=bp hb3;refine w_ (AD (h:=a_ (h:=e_ (?_))));refine A8 rfl (fun hb4=>?_) (fun hb4=>?_)
 ·have hc4:=bp hb4;refine w_ (f_ (h:=f_ (h:=l_ (h:=a_ (h:=a_ (h:=e_ (A4 (AK (A6 (?_))))))))));refine A9 ?_
  first|(exfalso;first|contradiction|omega)|(exact NumP.mk (by unfold Bu;(repeat' split)<;>(first|omega|(simp[*];done)|(simp;omega)|(simp at *;omega))) (fun hq=>by first|(unfold Bq;simp[*];done)|(unfold Bu at hq;simp[*]at hq;omega)|(unfold Bu at hq;simp[*]at hq)))
 have hc4:=bp hb4;refine w_ (AD (h:=a_ (h:=e_ (?_))));refine A8 rfl (fun hb5=>?_) (fun hb5=>?_)
 ·have hc5:=bp hb5;refine w_ (f_ (h:=f_ (h:=l_ (h:=a_ (h:=a_ (h:=e_ (A4 (AK (A6 (?_))))))))));refine A9 ?_
  first|(exfalso;first|contradiction|omega)|(exact NumP.mk (by unfold Bu;(repeat' split)<;>(first|omega|(simp[*];done)|(simp;omega)|(simp at *;omega))) (fun hq=>by first|(unfold Bq;simp[*];done)|(unfold Bu at hq;simp[*]at hq;omega)|(unfold Bu at hq;simp[*]at hq)))
 have hc5:=bp hb5;refine w_ (AD (h:=a_ (h:=e_ (?_))));refine A8 rfl (fun hb6=>?_) (fun hb6=>?_)
 ·have hc6:=bp hb6;refine w_ (f_ (h:=f_ (h:=l_ (h:=a_ (h:=a_ (h:=e_ (A4 (AK (A6 (?_))))))))));refine A9 ?_
  first|(exfalso;first|contradiction|omega)|(exact NumP.mk (by unfold Bu;(repeat' split)<;>(first|omega|(simp[*];done)|(simp;omega)|(simp at *;omega))) (fun hq=>by first|(unfold Bq;simp[*];done)|(unfold Bu at hq;simp[*]at hq;omega)|(unfold Bu at hq;simp[*]at hq)))
 have hc6:=bp hb6;refine w_ (AD (h:=a_ (h:=e_ (?_))));refine A8 rfl (fun hb7=>?_) (fun hb7=>?_)
 ·have hc7:=bp hb7;refine w_ (f_ (h:=f_ (h:=l_ (h:=a_ (h:=a_ (h:=e_ (A4 (AK (A6 (?_))))))))));refine A9 ?_
  first|(exfalso;first|contradiction|omega)|(exact NumP.mk (by unfold Bu;(repeat' split)<;>(first|omega|(simp[*];done)|(simp;omega)|(simp at *;omega))) (fun hq=>by first|(unfold Bq;simp[*];done)|(unfold Bu at hq;simp[*]at hq;omega)|(unfold Bu at hq;simp[*]at hq)))
 have hc7:=bp hb7;refine w_ (AD (h:=a_ (h:=e_ (?_))));refine A8 rfl (fun hb8=>?_) (fun hb8=>?_)
 ·have hc8:=bp hb8;refine w_ (f_ (h:=f_ (h:=l_ (h:=a_ (h:=a_ (h:=e_ (A4 (AK (A6 (?_))))))))));refine A9 ?_
  first|(exfalso;first|contradiction|omega)|(exact NumP.mk (by unfold Bu;(repeat' split)<;>(first|omega|(simp[*];done)|(simp;omega)|(simp at *;omega))) (fun hq=>by first|(unfold Bq;simp[*];done)|(unfold Bu at hq;simp[*]at hq;omega)|(unfold Bu at hq;simp[*]at hq)))
 have hc8:=bp hb8;refine q_ (w_ (AD (h:=a_ (h:=e_ (?_)))));refine A8 rfl (fun hb9=>?_) (fun hb9=>?_)
 ·have hc9:=bp hb9;refine AB (B8 (h:=w_ (m_ (h:=Fd (h:=f_ (h:=f_ (h:=?_)))))))
  first|refine A7 rfl (BW (n:=0) (len:=4) (sz:=1) (by kernel_rfl) rfl rfl (by omega) rfl ?_)|refine A7 rfl (BW (n:=1) (len:=4) (sz:=1) (by kernel_rfl) rfl rfl (by omega) rfl ?_)|refine A7 rfl (BW (n:=2) (len:=4) (sz:=1) (by kernel_rfl) rfl rfl (by omega) rfl ?_)|refine A7 rfl (BW (n:=3) (len:=4) (sz:=1) (by kernel_rfl) rfl rfl (by omega) rfl ?_)
  refine l_ (h:=a_ (h:=a_ (h:=e_ (A4 (AK (A6 (?_)))))));refine A9 ?_
  first|(exfalso;first|contradiction|omega)|(exact NumP.mk (by unfold Bu;(repeat' split)<;>(first|omega|(simp[*];done)|(simp;omega)|(simp at *;omega))) (fun hq=>by first|(unfold Bq;simp[*];done)|(unfold Bu at hq;simp[*]at hq;omega)|(unfold Bu at hq;simp[*]at hq)))
 have hc9:=bp hb9;refine w_ (AD (h:=a_ (h:=e_ (?_))));refine A8 rfl (fun hb10=>?_) (fun hb10=>?_)
 ·have hc10:=bp hb10;refine AB (B8 (h:=w_ (m_ (h:=Fd (h:=f_ (h:=f_ (h:=?_)))))))
  first|refine A7 rfl (BW (n:=0) (len:=4) (sz:=1) (by kernel_rfl) rfl rfl (by omega) rfl ?_)|refine A7 rfl (BW (n:=1) (len:=4) (sz:=1) (by kernel_rfl) rfl rfl (by omega) rfl ?_)|refine A7 rfl (BW (n:=2) (len:=4) (sz:=1) (by kernel_rfl) rfl rfl (by omega) rfl ?_)|refine A7 rfl (BW (n:=3) (len:=4) (sz:=1) (by kernel_rfl) rfl rfl (by omega) rfl ?_)
  refine l_ (h:=a_ (h:=a_ (h:=e_ (A4 (AK (A6 (?_)))))));refine A9 ?_
  first|(exfalso;first|contradiction|omega)|(exact NumP.mk (by unfold Bu;(repeat' split)<;>(first|omega|(simp[*];done)|(simp;omega)|(simp at *;omega))) (fun hq=>by first|(unfold Bq;simp[*];done)|(unfold Bu at hq;simp[*]at hq;omega)|(unfold Bu at hq;simp[*]at hq)))
 have hc10:=bp hb10;refine w_ (AD (h:=a_ (h:=e_ (?_))));refine A8 rfl (fun hb11=>?_) (fun hb11=>?_)
 ·have hc11:=bp hb11;refine AB (B8 (h:=w_ (m_ (h:=Fd (h:=f_ (h:=f_ (h:=?_)))))))
  first|refine A7 rfl (BW (n:=0) (len:=4) (sz:=1) (by kernel_rfl) rfl rfl (by omega) rfl ?_)|refine A7 rfl (BW (n:=1) (len:=4) (sz:=1) (by kernel_rfl) rfl rfl (by omega) rfl ?_)|refine A7 rfl (BW (n:=2) (len:=4) (sz:=1) (by kernel_rfl) rfl rfl (by omega) rfl ?_)|refine A7 rfl (BW (n:=3) (len:=4) (sz:=1) (by kernel_rfl) rfl rfl (by omega) rfl ?_)
  refine l_ (h:=a_ (h:=a_ (h:=e_ (A4 (AK (A6 (?_)))))));refine A9 ?_
  first|(exfalso;first|contradiction|omega)|(exact NumP.mk (by unfold Bu;(repeat' split)<;>(first|omega|(simp[*];done)|(simp;omega)|(simp at *;omega))) (fun hq=>by first|(unfold Bq;simp[*];done)|(unfold Bu at hq;simp[*]at hq;omega)|(unfold Bu at hq;simp[*]at hq)))
 have hc11:=bp hb11;refine AR (AD (h:=a_ (h:=e_ (?_))));refine A8 rfl (fun hb12=>?_) (fun hb12=>?_)
 ·have hc12:=bp hb12;refine w_ (m_ (h:=Fd (h:=f_ (h:=f_ (h:=?_)))))
  first|refine A7 rfl (BW (n:=0) (len:=4) (sz:=1) (by kernel_rfl) rfl rfl (by omega) rfl ?_)|refine A7 rfl (BW (n:=1) (len:=4) (sz:=1) (by kernel_rfl) rfl rfl (by omega) rfl ?_)|refine A7 rfl (BW (n:=2) (len:=4) (sz:=1) (by kernel_rfl) rfl rfl (by omega) rfl ?_)|refine A7 rfl (BW (n:=3) (len:=4) (sz:=1) (by kernel_rfl) rfl rfl (by omega) rfl ?_)
  refine l_ (h:=a_ (h:=a_ (h:=e_ (A4 (AK (A6 (?_)))))));refine A9 ?_
  first|(exfalso;first|contradiction|omega)|(exact NumP.mk (by unfold Bu;(repeat' split)<;>(first|omega|(simp[*];done)|(simp;omega)|(simp at *;omega))) (fun hq=>by first|(unfold Bq;simp[*];done)|(unfold Bu at hq;simp[*]at hq;omega)|(unfold Bu at hq;simp[*]at hq)))
 have hc12:=bp hb12;refine w_ (AD (h:=a_ (h:=e_ (?_))));refine A8 rfl (fun hb13=>?_) (fun hb13=>?_)
 ·have hc13:=bp hb13;refine q_ (Cp 7 (h:=AO 0 (h:=AJ 1 (h:=AO 2 (h:=AJ 3 (h:=Lh 4 (h:=BO 5 (h:=BO 6 (h:=z_ (h:=t_ (A4 (AK (A6 (?_))))))))))))));refine A9 ?_
  first|(exfalso;first|contradiction|omega)|(exact NumP.mk (by unfold Bu;(repeat' split)<;>(first|omega|(simp[*];done)|(simp;omega)|(simp at *;omega))) (fun hq=>by first|(unfold Bq;simp[*];done)|(unfold Bu at hq;simp[*]at hq;omega)|(unfold Bu at hq;simp[*]at hq)))
 have hc13:=bp hb13;refine Au (Ah (t_ (q_ (w_ (f_ (h:=l_ (h:=Ap (h:=e_ (?_)))))))));refine A8 rfl (fun hb14=>?_) (fun hb14=>?_)
 ·have hc14:=bp hb14;refine w_ (a_ (h:=a_ (h:=e_ (A4 (A6 (?_))))));refine A9 ?_
  first|(exfalso;first|contradiction|omega)|(exact NumP.mk (by unfold Bu;(repeat' split)<;>(first|omega|(simp[*];done)|(simp;omega)|(simp at *;omega))) (fun hq=>by first|(unfold Bq;simp[*];done)|(unfold Bu at hq;simp[*]at hq;omega)|(unfold Bu at hq;simp[*]at hq)))
 have hc14:=bp hb14;refine AB (w_ (m_ (h:=l_ (h:=l_ (h:=?_)))));refine A7 rfl (AG (X3 f c k y (by omega) (by omega)) ?_);rintro r rfl;refine x_ (h:=x_ (h:=a_ (h:=a_ (h:=e_ (A4 (?_))))));refine A9 ?_
 first|(exfalso;first|contradiction|omega)|(exact NumP.mk (by unfold Bu;(repeat' split)<;>(first|omega|(simp[*];done)|(simp;omega)|(simp at *;omega))) (fun hq=>by first|(unfold Bq;simp[*];done)|(unfold Bu at hq;simp[*]at hq;omega)|(unfold Bu at hq;simp[*]at hq)))
end
theorem SM(s:AT):s=⟨#[]⟩↔s.size=0:=by
 constructor
 ·intro h;rw[h];rfl
 intro h
 cases s with
 |mk a=>
   have:a=#[]:=Array.eq_empty_of_size_eq_zero h;rw[this]
section
theorem SN(t:Tst)(list:Int):AFn prog 159 [.agg (C3 t), .v (.int .i64 list)] (fun r=>r= .v (.int .i64 (Bg t list))):=by
 have hz:=SM t.text;refine enter Tryz.func159 rfl rfl rfl rfl rfl 0 rfl ?_;refine w_ (b_ (h:=a_ (h:=e_ (q_ (w_ (m_ (h:=f_ (h:=l_ (h:=?_)))))))));refine A7 rfl (AG (SF _ _) ?_);rintro r rfl;refine B9 (h:=e_ (?_));refine A8 rfl (fun hb1=>?_) (fun hb1=>?_)
 ·have hc1:=bp hb1;refine w_ (a_ (h:=e_ (A4 (A6 (?_)))));refine A9 ?_
  first|(exfalso;first|contradiction|omega)|(exact vi (by unfold Bg;grind))
 have hc1:=bp hb1;refine AB (q_ (w_ (f_ (h:=l_ (h:=Ap (h:=m_ (h:=?_)))))));refine AW true rfl rfl (fun hb2=>?_) (fun hb2=>?_)
 ·have hc2:=bp hb2;refine m_ (h:=f_ (h:=l_ (h:=?_)));refine B4 (AG (SF _ _) ?_);rintro r rfl;refine B9 (h:=m_ (h:=?_));refine AW false rfl rfl (fun hb3=>?_) (fun hb3=>?_)
  ·have hc3:=bp hb3;refine A3 (h:=A3 (h:=A3 (h:=A3 (h:=AF (h:=m_ (h:=A3 (h:=A3 (h:=A3 (h:=A3 (h:=AF (h:=AF (h:=e_ (B8 (h:=w_ (a_ (h:=e_ (A4 (A6 (?_)))))))))))))))))));refine A9 ?_
   first|(exfalso;first|contradiction|omega)|(exact vi (by unfold Bg;grind))
  have hc3:=bp hb3;refine f_ (h:=l_ (h:=?_));refine B4 (AG (SD _) ?_);rintro r rfl;refine B9 (h:=AM (h:=m_ (h:=?_)));refine AW false rfl rfl (fun hb4=>?_) (fun hb4=>?_)
  ·have hc4:=bp hb4;refine A3 (h:=A3 (h:=A3 (h:=A3 (h:=AF (h:=AF (h:=e_ (B8 (h:=w_ (a_ (h:=e_ (A4 (A6 (?_)))))))))))));refine A9 ?_
   first|(exfalso;first|contradiction|omega)|(exact vi (by unfold Bg;grind))
  have hc4:=bp hb4;refine f_ (h:=l_ (h:=?_));refine B4 (AG (SD _) ?_);rintro r rfl;refine B9 (h:=AM (h:=AF (h:=e_ (?_))));refine A8 rfl (fun hb5=>?_) (fun hb5=>?_)
  ·have hc5:=bp hb5;refine w_ (a_ (h:=e_ (A4 (A6 (?_)))));refine A9 ?_
   first|(exfalso;first|contradiction|omega)|(exact vi (by unfold Bg;grind))
  have hc5:=bp hb5;refine AB (q_ (w_ (f_ (h:=l_ (h:=BB (h:=m_ (h:=?_)))))));refine AW false rfl rfl (fun hb6=>?_) (fun hb6=>?_)
  ·have hc6:=bp hb6;refine A3 (h:=A3 (h:=A3 (h:=AF (h:=e_ (B8 (h:=w_ (a_ (h:=e_ (A4 (A6 (?_)))))))))));refine A9 ?_
   first|(exfalso;first|contradiction|omega)|(exact vi (by unfold Bg;grind))
  have hc6:=bp hb6;refine f_ (h:=l_ (h:=Bl (h:=AM (h:=e_ (?_)))));refine A8 rfl (fun hb7=>?_) (fun hb7=>?_)
  ·have hc7:=bp hb7;refine w_ (a_ (h:=e_ (A4 (A6 (?_)))));refine A9 ?_
   first|(exfalso;first|contradiction|omega)|(exact vi (by unfold Bg;grind))
  have hc7:=bp hb7;refine AB (q_ (w_ (f_ (h:=l_ (h:=Ap (h:=m_ (h:=?_)))))));refine AW true rfl rfl (fun hb8=>?_) (fun hb8=>?_)
  ·have hc8:=bp hb8;refine f_ (h:=l_ (h:=Ap (h:=AF (h:=m_ (h:=?_)))));refine AW true rfl rfl (fun hb9=>?_) (fun hb9=>?_)
   ·have hc9:=bp hb9;refine f_ (h:=l_ (h:=?_));refine B4 (AG (Fe _) ?_);rintro r rfl;refine m_ (h:=?_);refine AW false rfl rfl (fun hb10=>?_) (fun hb10=>?_)
    ·have hc10:=bp hb10;refine A3 (h:=A3 (h:=A3 (h:=AF (h:=AF (h:=e_ (B8 (h:=w_ (a_ (h:=e_ (A4 (A6 (?_))))))))))));refine A9 ?_
     first|(exfalso;first|contradiction|omega)|(exact vi (by unfold Bg;grind))
    have hc10:=bp hb10;refine f_ (h:=l_ (h:=Ap (h:=AM (h:=AF (h:=e_ (B8 (h:=w_ (a_ (h:=e_ (A4 (A6 (?_))))))))))));refine A9 ?_
    first|(exfalso;first|contradiction|omega)|(exact vi (by unfold Bg;grind))
   have hc9:=bp hb9;refine A3 (h:=A3 (h:=A3 (h:=A3 (h:=AX (h:=AX (h:=AX (h:=A3 (h:=AM (h:=e_ (Bp (h:=AB (q_ (Ag (w_ (f_ (h:=l_ (h:=Ap (h:=m_ (h:=f_ (h:=l_ (h:=Ap (h:=m_ (h:=?_)))))))))))))))))))))));refine AW false rfl rfl (fun hb11=>?_) (fun hb11=>?_)
   ·have hc11:=bp hb11;refine A3 (h:=A3 (h:=A3 (h:=AF (h:=AF (h:=a_ (h:=e_ (B8 (h:=w_ (a_ (h:=e_ (A4 (AK (A6 (?_))))))))))))));refine A9 ?_
    first|(exfalso;first|contradiction|omega)|(exact vi (by unfold Bg;grind))
   have hc11:=bp hb11;refine f_ (h:=l_ (h:=Ap (h:=AM (h:=AF (h:=a_ (h:=e_ (?_)))))));refine A8 rfl (fun hb12=>?_) (fun hb12=>?_)
   ·have hc12:=bp hb12;refine w_ (a_ (h:=e_ (A4 (AK (A6 (?_))))));refine A9 ?_
    first|(exfalso;first|contradiction|omega)|(exact vi (by unfold Bg;grind))
   have hc12:=bp hb12;refine w_ (f_ (h:=l_ (h:=?_)));refine A7 rfl (AG (Fe _) ?_);rintro r rfl;refine m_ (h:=?_);refine AW true rfl rfl (fun hb13=>?_) (fun hb13=>?_)
   ·have hc13:=bp hb13;refine f_ (h:=l_ (h:=Ap (h:=m_ (h:=f_ (h:=l_ (h:=AD (h:=AM (h:=m_ (h:=A3 (h:=A3 (h:=A3 (h:=A3 (h:=AF (h:=AF (h:=a_ (h:=e_ (B8 (h:=w_ (a_ (h:=e_ (A4 (AK (A6 (?_))))))))))))))))))))))));refine A9 ?_
    first|(exfalso;first|contradiction|omega)|(exact vi (by unfold Bg;grind))
   have hc13:=bp hb13;refine A3 (h:=A3 (h:=A3 (h:=A3 (h:=AX (h:=AX (h:=AX (h:=A3 (h:=A3 (h:=AX (h:=AX (h:=AX (h:=AX (h:=A3 (h:=AM (h:=a_ (h:=e_ (Bp (h:=w_ (f_ (h:=l_ (h:=?_)))))))))))))))))))));refine A7 rfl (AG (Fe _) ?_);rintro r rfl;refine B9 (h:=m_ (h:=f_ (h:=l_ (h:=Ap (h:=AF (h:=a_ (h:=e_ (Bp (h:=Au (Ah (t_ (w_ (a_ (h:=e_ (A4 (?_))))))))))))))));refine A9 ?_
   first|(exfalso;first|contradiction|omega)|(exact vi (by unfold Bg;grind))
  have hc8:=bp hb8;refine A3 (h:=A3 (h:=A3 (h:=AM (h:=m_ (h:=A3 (h:=A3 (h:=A3 (h:=A3 (h:=AX (h:=AX (h:=AX (h:=A3 (h:=AM (h:=e_ (Bp (h:=AB (q_ (Ag (w_ (f_ (h:=l_ (h:=Ap (h:=m_ (h:=?_))))))))))))))))))))))));refine f_ (h:=l_ (h:=Ap (h:=m_ (h:=?_))));refine AW false rfl rfl (fun hb14=>?_) (fun hb14=>?_)
  ·have hc14:=bp hb14;refine A3 (h:=A3 (h:=A3 (h:=AF (h:=AF (h:=a_ (h:=e_ (B8 (h:=w_ (a_ (h:=e_ (A4 (AK (A6 (?_))))))))))))));refine A9 ?_
   first|(exfalso;first|contradiction|omega)|(exact vi (by unfold Bg;grind))
  have hc14:=bp hb14;refine f_ (h:=l_ (h:=Ap (h:=AM (h:=AF (h:=a_ (h:=e_ (?_)))))));refine A8 rfl (fun hb15=>?_) (fun hb15=>?_)
  ·have hc15:=bp hb15;refine w_ (a_ (h:=e_ (A4 (AK (A6 (?_))))));refine A9 ?_
   first|(exfalso;first|contradiction|omega)|(exact vi (by unfold Bg;grind))
  have hc15:=bp hb15;refine w_ (f_ (h:=l_ (h:=?_)));refine A7 rfl (AG (Fe _) ?_);rintro r rfl;refine m_ (h:=?_);refine AW true rfl rfl (fun hb16=>?_) (fun hb16=>?_)
  ·have hc16:=bp hb16;refine f_ (h:=l_ (h:=Ap (h:=m_ (h:=f_ (h:=l_ (h:=AD (h:=AM (h:=m_ (h:=A3 (h:=A3 (h:=A3 (h:=A3 (h:=AF (h:=AF (h:=a_ (h:=e_ (B8 (h:=w_ (a_ (h:=e_ (A4 (AK (A6 (?_))))))))))))))))))))))));refine A9 ?_
   first|(exfalso;first|contradiction|omega)|(exact vi (by unfold Bg;grind))
  have hc16:=bp hb16;refine A3 (h:=A3 (h:=A3 (h:=A3 (h:=AX (h:=AX (h:=AX (h:=A3 (h:=A3 (h:=AX (h:=AX (h:=AX (h:=AX (h:=A3 (h:=AM (h:=a_ (h:=e_ (Bp (h:=w_ (f_ (h:=l_ (h:=?_)))))))))))))))))))));refine A7 rfl (AG (Fe _) ?_);rintro r rfl;refine B9 (h:=m_ (h:=f_ (h:=l_ (h:=Ap (h:=AF (h:=a_ (h:=e_ (Bp (h:=Au (Ah (t_ (w_ (a_ (h:=e_ (A4 (?_))))))))))))))));refine A9 ?_
  first|(exfalso;first|contradiction|omega)|(exact vi (by unfold Bg;grind))
 have hc2:=bp hb2;refine A3 (h:=A3 (h:=A3 (h:=A3 (h:=A3 (h:=A3 (h:=AX (h:=AX (h:=AX (h:=AX (h:=A3 (h:=A3 (h:=AX (h:=AX (h:=AX (h:=AX (h:=A3 (h:=AM (h:=e_ (Bp (h:=AB (q_ (w_ (f_ (h:=?_))))))))))))))))))))))));refine l_ (h:=BB (h:=m_ (h:=?_)));refine AW false rfl rfl (fun hb17=>?_) (fun hb17=>?_)
 ·have hc17:=bp hb17;refine A3 (h:=A3 (h:=A3 (h:=AF (h:=e_ (B8 (h:=w_ (a_ (h:=e_ (A4 (A6 (?_)))))))))));refine A9 ?_
  first|(exfalso;first|contradiction|omega)|(exact vi (by unfold Bg;grind))
 have hc17:=bp hb17;refine f_ (h:=l_ (h:=Bl (h:=AM (h:=e_ (?_)))));refine A8 rfl (fun hb18=>?_) (fun hb18=>?_)
 ·have hc18:=bp hb18;refine w_ (a_ (h:=e_ (A4 (A6 (?_)))));refine A9 ?_
  first|(exfalso;first|contradiction|omega)|(exact vi (by unfold Bg;grind))
 have hc18:=bp hb18;refine AB (q_ (w_ (f_ (h:=l_ (h:=Ap (h:=m_ (h:=?_)))))));refine AW true rfl rfl (fun hb19=>?_) (fun hb19=>?_)
 ·have hc19:=bp hb19;refine f_ (h:=l_ (h:=Ap (h:=AF (h:=m_ (h:=?_)))));refine AW true rfl rfl (fun hb20=>?_) (fun hb20=>?_)
  ·have hc20:=bp hb20;refine f_ (h:=l_ (h:=?_));refine B4 (AG (Fe _) ?_);rintro r rfl;refine m_ (h:=?_);refine AW false rfl rfl (fun hb21=>?_) (fun hb21=>?_)
   ·have hc21:=bp hb21;refine A3 (h:=A3 (h:=A3 (h:=AF (h:=AF (h:=e_ (B8 (h:=w_ (a_ (h:=e_ (A4 (A6 (?_))))))))))));refine A9 ?_
    first|(exfalso;first|contradiction|omega)|(exact vi (by unfold Bg;grind))
   have hc21:=bp hb21;refine f_ (h:=l_ (h:=Ap (h:=AM (h:=AF (h:=e_ (Bp (h:=AB (q_ (Ag (w_ (f_ (h:=l_ (h:=Ap (h:=m_ (h:=A3 (h:=A3 (h:=A3 (h:=A3 (h:=AX (h:=AX (h:=AX (h:=A3 (h:=AM (h:=?_))))))))))))))))))))))));refine a_ (h:=e_ (Bp (h:=w_ (f_ (h:=l_ (h:=?_))))));refine A7 rfl (AG (Fe _) ?_);rintro r rfl;refine m_ (h:=A3 (h:=A3 (h:=A3 (h:=A3 (h:=AX (h:=AX (h:=AX (h:=A3 (h:=A3 (h:=AX (h:=AX (h:=AX (h:=AX (h:=A3 (h:=AM (h:=a_ (h:=e_ (Bp (h:=w_ (f_ (h:=l_ (h:=?_))))))))))))))))))))));refine A7 rfl (AG (Fe _) ?_);rintro r rfl;refine B9 (h:=m_ (h:=f_ (h:=l_ (h:=Ap (h:=AF (h:=a_ (h:=e_ (?_))))))));refine A8 rfl (fun hb22=>?_) (fun hb22=>?_)
   ·have hc22:=bp hb22;refine w_ (a_ (h:=e_ (A4 (AK (A6 (?_))))));refine A9 ?_
    first|(exfalso;first|contradiction|omega)|(exact vi (by unfold Bg;grind))
   have hc22:=bp hb22;refine Au (Ah (t_ (w_ (a_ (h:=e_ (A4 (?_)))))));refine A9 ?_
   first|(exfalso;first|contradiction|omega)|(exact vi (by unfold Bg;grind))
  have hc20:=bp hb20;refine A3 (h:=A3 (h:=A3 (h:=A3 (h:=AX (h:=AX (h:=AX (h:=A3 (h:=AM (h:=e_ (Bp (h:=AB (q_ (Ag (w_ (f_ (h:=l_ (h:=Ap (h:=m_ (h:=A3 (h:=A3 (h:=A3 (h:=A3 (h:=AX (h:=?_))))))))))))))))))))))));refine AX (h:=AX (h:=A3 (h:=AM (h:=a_ (h:=e_ (Bp (h:=w_ (f_ (h:=l_ (h:=?_))))))))));refine A7 rfl (AG (Fe _) ?_);rintro r rfl;refine m_ (h:=?_);refine AW true rfl rfl (fun hb23=>?_) (fun hb23=>?_)
  ·have hc23:=bp hb23;refine f_ (h:=l_ (h:=Ap (h:=m_ (h:=?_))));refine AW false rfl rfl (fun hb24=>?_) (fun hb24=>?_)
   ·have hc24:=bp hb24;refine A3 (h:=A3 (h:=A3 (h:=AF (h:=m_ (h:=A3 (h:=A3 (h:=A3 (h:=A3 (h:=AF (h:=AF (h:=a_ (h:=e_ (B8 (h:=w_ (a_ (h:=e_ (A4 (AK (A6 (?_))))))))))))))))))));refine A9 ?_
    first|(exfalso;first|contradiction|omega)|(exact vi (by unfold Bg;grind))
   have hc24:=bp hb24;refine f_ (h:=l_ (h:=AD (h:=AM (h:=m_ (h:=?_)))));refine AW false rfl rfl (fun hb25=>?_) (fun hb25=>?_)
   ·have hc25:=bp hb25;refine A3 (h:=A3 (h:=A3 (h:=A3 (h:=AF (h:=AF (h:=a_ (h:=e_ (B8 (h:=w_ (a_ (h:=e_ (A4 (AK (A6 (?_)))))))))))))));refine A9 ?_
    first|(exfalso;first|contradiction|omega)|(exact vi (by unfold Bg;grind))
   have hc25:=bp hb25;refine f_ (h:=l_ (h:=n_ (h:=Bl (h:=AM (h:=AF (h:=a_ (h:=e_ (?_))))))));refine A8 rfl (fun hb26=>?_) (fun hb26=>?_)
   ·have hc26:=bp hb26;refine w_ (a_ (h:=e_ (A4 (AK (A6 (?_))))));refine A9 ?_
    first|(exfalso;first|contradiction|omega)|(exact vi (by unfold Bg;grind))
   have hc26:=bp hb26;refine w_ (f_ (h:=l_ (h:=?_)));refine A7 rfl (AG (Fe _) ?_);rintro r rfl;refine B9 (h:=m_ (h:=A3 (h:=A3 (h:=A3 (h:=AM (h:=a_ (h:=e_ (Bp (h:=Au (Ah (t_ (w_ (a_ (h:=e_ (A4 (?_))))))))))))))));refine A9 ?_
   first|(exfalso;first|contradiction|omega)|(exact vi (by unfold Bg;grind))
  have hc23:=bp hb23;refine A3 (h:=A3 (h:=A3 (h:=A3 (h:=AX (h:=AX (h:=AX (h:=A3 (h:=A3 (h:=AX (h:=AX (h:=AX (h:=AX (h:=A3 (h:=AM (h:=a_ (h:=e_ (Bp (h:=w_ (f_ (h:=l_ (h:=?_)))))))))))))))))))));refine A7 rfl (AG (Fe _) ?_);rintro r rfl;refine B9 (h:=m_ (h:=f_ (h:=l_ (h:=Ap (h:=AF (h:=a_ (h:=e_ (?_))))))));refine A8 rfl (fun hb27=>?_) (fun hb27=>?_)
  ·have hc27:=bp hb27;refine w_ (a_ (h:=e_ (A4 (AK (A6 (?_))))));refine A9 ?_
   first|(exfalso;first|contradiction|omega)|(exact vi (by unfold Bg;grind))
  have hc27:=bp hb27;refine Au (Ah (t_ (w_ (a_ (h:=e_ (A4 (?_)))))));refine A9 ?_
  first|(exfalso;first|contradiction|omega)|(exact vi (by unfold Bg;grind))
 have hc19:=bp hb19;refine A3 (h:=A3 (h:=A3 (h:=AM (h:=m_ (h:=A3 (h:=A3 (h:=A3 (h:=A3 (h:=AX (h:=AX (h:=AX (h:=A3 (h:=AM (h:=e_ (Bp (h:=AB (q_ (Ag (w_ (f_ (h:=l_ (h:=Ap (h:=m_ (h:=?_))))))))))))))))))))))));refine A3 (h:=A3 (h:=A3 (h:=A3 (h:=AX (h:=AX (h:=AX (h:=A3 (h:=AM (h:=a_ (h:=e_ (Bp (h:=w_ (f_ (h:=l_ (h:=?_)))))))))))))));refine A7 rfl (AG (Fe _) ?_);rintro r rfl;refine m_ (h:=?_);refine AW true rfl rfl (fun hb28=>?_) (fun hb28=>?_)
 ·have hc28:=bp hb28;refine f_ (h:=l_ (h:=Ap (h:=m_ (h:=?_))));refine AW false rfl rfl (fun hb29=>?_) (fun hb29=>?_)
  ·have hc29:=bp hb29;refine A3 (h:=A3 (h:=A3 (h:=AF (h:=m_ (h:=A3 (h:=A3 (h:=A3 (h:=A3 (h:=AF (h:=AF (h:=a_ (h:=e_ (B8 (h:=w_ (a_ (h:=e_ (A4 (AK (A6 (?_))))))))))))))))))));refine A9 ?_
   first|(exfalso;first|contradiction|omega)|(exact vi (by unfold Bg;grind))
  have hc29:=bp hb29;refine f_ (h:=l_ (h:=AD (h:=AM (h:=m_ (h:=?_)))));refine AW false rfl rfl (fun hb30=>?_) (fun hb30=>?_)
  ·have hc30:=bp hb30;refine A3 (h:=A3 (h:=A3 (h:=A3 (h:=AF (h:=AF (h:=a_ (h:=e_ (B8 (h:=w_ (a_ (h:=e_ (A4 (AK (A6 (?_)))))))))))))));refine A9 ?_
   first|(exfalso;first|contradiction|omega)|(exact vi (by unfold Bg;grind))
  have hc30:=bp hb30;refine f_ (h:=l_ (h:=n_ (h:=Bl (h:=AM (h:=AF (h:=a_ (h:=e_ (?_))))))));refine A8 rfl (fun hb31=>?_) (fun hb31=>?_)
  ·have hc31:=bp hb31;refine w_ (a_ (h:=e_ (A4 (AK (A6 (?_))))));refine A9 ?_
   first|(exfalso;first|contradiction|omega)|(exact vi (by unfold Bg;grind))
  have hc31:=bp hb31;refine w_ (f_ (h:=l_ (h:=?_)));refine A7 rfl (AG (Fe _) ?_);rintro r rfl;refine B9 (h:=m_ (h:=A3 (h:=A3 (h:=A3 (h:=AM (h:=a_ (h:=e_ (Bp (h:=Au (Ah (t_ (w_ (a_ (h:=e_ (A4 (?_))))))))))))))));refine A9 ?_
  first|(exfalso;first|contradiction|omega)|(exact vi (by unfold Bg;grind))
 have hc28:=bp hb28;refine A3 (h:=A3 (h:=A3 (h:=A3 (h:=AX (h:=AX (h:=AX (h:=A3 (h:=A3 (h:=AX (h:=AX (h:=AX (h:=AX (h:=A3 (h:=AM (h:=a_ (h:=e_ (Bp (h:=w_ (f_ (h:=l_ (h:=?_)))))))))))))))))))));refine A7 rfl (AG (Fe _) ?_);rintro r rfl;refine B9 (h:=m_ (h:=f_ (h:=l_ (h:=Ap (h:=AF (h:=a_ (h:=e_ (?_))))))));refine A8 rfl (fun hb32=>?_) (fun hb32=>?_)
 ·have hc32:=bp hb32;refine w_ (a_ (h:=e_ (A4 (AK (A6 (?_))))));refine A9 ?_
  first|(exfalso;first|contradiction|omega)|(exact vi (by unfold Bg;grind))
 have hc32:=bp hb32;refine Au (Ah (t_ (w_ (a_ (h:=e_ (A4 (?_)))))));refine A9 ?_
 first|(exfalso;first|contradiction|omega)|(exact vi (by unfold Bg;grind))
theorem SO(t:Tst)(list:Int):AFn prog 155 [.agg (C3 t), .v (.int .i64 list)] (fun r=>r= .v (.int .i64 (Bg t list))):=by
 have hz:=SM t.text;have ho:DW t.fld=true→Dd t.fld=false:=by unfold DW Dd;simp;omega
 refine enter Tryz.func155 rfl rfl rfl rfl rfl 0 rfl ?_;refine w_ (b_ (h:=a_ (h:=e_ (q_ (w_ (m_ (h:=f_ (h:=l_ (h:=?_)))))))));refine A7 rfl (AG (SG _ _) ?_);rintro r rfl;refine B9 (h:=m_ (h:=?_));refine AW false rfl rfl (fun hb1=>?_) (fun hb1=>?_)
 ·have hc1:=bp hb1;refine A3 (h:=A3 (h:=A3 (h:=A3 (h:=AX (h:=AX (h:=AX (h:=AX (h:=AX (h:=AX (h:=AX (h:=AX (h:=AX (h:=AX (h:=AX (h:=AX (h:=AX (h:=AX (h:=AX (h:=AX (h:=AX (h:=A3 (h:=AF (h:=e_ (?_))))))))))))))))))))))));refine B8 (h:=w_ (a_ (h:=e_ (A4 (A6 (?_))))));refine A9 ?_
  first|(exfalso;first|contradiction|omega)|(exact vi (by unfold Bg;grind))
 have hc1:=bp hb1;refine f_ (h:=l_ (h:=Ap (h:=m_ (h:=?_))));refine AW true rfl rfl (fun hb2=>?_) (fun hb2=>?_)
 ·have hc2:=bp hb2;refine m_ (h:=f_ (h:=l_ (h:=?_)));refine B4 (AG (SG _ _) ?_);rintro r rfl;refine B9 (h:=m_ (h:=?_));refine AW false rfl rfl (fun hb3=>?_) (fun hb3=>?_)
  ·have hc3:=bp hb3;refine A3 (h:=A3 (h:=A3 (h:=A3 (h:=AF (h:=m_ (h:=A3 (h:=A3 (h:=A3 (h:=A3 (h:=AF (h:=AF (h:=AM (h:=e_ (B8 (h:=w_ (a_ (h:=e_ (A4 (A6 (?_))))))))))))))))))));refine A9 ?_
   first|(exfalso;first|contradiction|omega)|(exact vi (by unfold Bg;grind))
  have hc3:=bp hb3;refine f_ (h:=l_ (h:=?_));refine B4 (AG (SE _) ?_);rintro r rfl;refine B9 (h:=AM (h:=m_ (h:=?_)));refine AW false rfl rfl (fun hb4=>?_) (fun hb4=>?_)
  ·have hc4:=bp hb4;refine A3 (h:=A3 (h:=A3 (h:=A3 (h:=AF (h:=AF (h:=AM (h:=e_ (B8 (h:=w_ (a_ (h:=e_ (A4 (A6 (?_))))))))))))));refine A9 ?_
   first|(exfalso;first|contradiction|omega)|(exact vi (by unfold Bg;grind))
  have hc4:=bp hb4;refine f_ (h:=l_ (h:=?_));refine B4 (AG (SE _) ?_);rintro r rfl;refine B9 (h:=AM (h:=AF (h:=AM (h:=e_ (?_)))));refine A8 rfl (fun hb5=>?_) (fun hb5=>?_)
  ·have hc5:=bp hb5;refine w_ (a_ (h:=e_ (A4 (A6 (?_)))));refine A9 ?_
   first|(exfalso;first|contradiction|omega)|(exact vi (by unfold Bg;grind))
  have hc5:=bp hb5;refine AB (q_ (w_ (f_ (h:=l_ (h:=BB (h:=m_ (h:=?_)))))));refine AW false rfl rfl (fun hb6=>?_) (fun hb6=>?_)
  ·have hc6:=bp hb6;refine A3 (h:=A3 (h:=A3 (h:=AF (h:=m_ (h:=A3 (h:=A3 (h:=A3 (h:=A3 (h:=AX (h:=AX (h:=AX (h:=AX (h:=AX (h:=AX (h:=AX (h:=AX (h:=A3 (h:=AF (h:=e_ (B8 (h:=w_ (a_ (h:=e_ (?_))))))))))))))))))))))));refine A4 (A6 (?_));refine A9 ?_
   first|(exfalso;first|contradiction|omega)|(exact vi (by unfold Bg;grind))
  have hc6:=bp hb6;refine f_ (h:=l_ (h:=Bl (h:=AM (h:=m_ (h:=?_)))));refine AW false rfl rfl (fun hb7=>?_) (fun hb7=>?_)
  ·have hc7:=bp hb7;refine A3 (h:=A3 (h:=A3 (h:=A3 (h:=AX (h:=AX (h:=AX (h:=AX (h:=AX (h:=AX (h:=AX (h:=AX (h:=A3 (h:=AF (h:=e_ (B8 (h:=w_ (a_ (h:=e_ (A4 (A6 (?_)))))))))))))))))))));refine A9 ?_
   first|(exfalso;first|contradiction|omega)|(exact vi (by unfold Bg;grind))
  have hc7:=bp hb7;refine f_ (h:=l_ (h:=Bl (h:=m_ (h:=?_))));refine AW true rfl rfl (fun hb8=>?_) (fun hb8=>?_)
  ·have hc8:=bp hb8;refine f_ (h:=l_ (h:=?_));refine B4 (AG (J7 _) ?_);rintro r rfl;refine m_ (h:=?_);refine AW false rfl rfl (fun hb9=>?_) (fun hb9=>?_)
   ·have hc9:=bp hb9;refine A3 (h:=A3 (h:=A3 (h:=AF (h:=AF (h:=AM (h:=e_ (B8 (h:=w_ (a_ (h:=e_ (A4 (A6 (?_)))))))))))));refine A9 ?_
    first|(exfalso;first|contradiction|omega)|(exact vi (by unfold Bg;grind))
   have hc9:=bp hb9;refine f_ (h:=l_ (h:=Ap (h:=AM (h:=AF (h:=AM (h:=e_ (B8 (h:=w_ (a_ (h:=e_ (A4 (A6 (?_)))))))))))));refine A9 ?_
   first|(exfalso;first|contradiction|omega)|(exact vi (by unfold Bg;grind))
  have hc8:=bp hb8;refine A3 (h:=A3 (h:=A3 (h:=A3 (h:=AX (h:=AX (h:=AX (h:=A3 (h:=AM (h:=AM (h:=e_ (Bp (h:=AB (q_ (w_ (f_ (h:=l_ (h:=Ap (h:=m_ (h:=f_ (h:=l_ (h:=Ap (h:=m_ (h:=?_)))))))))))))))))))))));refine AW false rfl rfl (fun hb10=>?_) (fun hb10=>?_)
  ·have hc10:=bp hb10;refine A3 (h:=A3 (h:=A3 (h:=AF (h:=AF (h:=e_ (B8 (h:=w_ (a_ (h:=e_ (A4 (A6 (?_))))))))))));refine A9 ?_
   first|(exfalso;first|contradiction|omega)|(exact vi (by unfold Bg;grind))
  have hc10:=bp hb10;refine f_ (h:=l_ (h:=Ap (h:=AM (h:=AF (h:=e_ (?_))))));refine A8 rfl (fun hb11=>?_) (fun hb11=>?_)
  ·have hc11:=bp hb11;refine w_ (a_ (h:=e_ (A4 (A6 (?_)))));refine A9 ?_
   first|(exfalso;first|contradiction|omega)|(exact vi (by unfold Bg;grind))
  have hc11:=bp hb11;refine AB (q_ (w_ (f_ (h:=l_ (h:=AD (h:=m_ (h:=A3 (h:=A3 (h:=A3 (h:=AM (h:=m_ (h:=A3 (h:=A3 (h:=A3 (h:=A3 (h:=AX (h:=AX (h:=AX (h:=A3 (h:=A3 (h:=AX (h:=AX (h:=AX (h:=?_))))))))))))))))))))))));refine AX (h:=A3 (h:=AM (h:=m_ (h:=f_ (h:=l_ (h:=?_))))));refine B4 (AG (J7 _) ?_);rintro r rfl;refine B9 (h:=m_ (h:=?_));refine AW true rfl rfl (fun hb12=>?_) (fun hb12=>?_)
  ·have hc12:=bp hb12;refine f_ (h:=l_ (h:=Ap (h:=AF (h:=AM (h:=e_ (Bp (h:=AB (w_ (a_ (h:=e_ (A4 (?_))))))))))));refine A9 ?_
   first|(exfalso;first|contradiction|omega)|(exact vi (by unfold Bg;grind))
  have hc12:=bp hb12;refine A3 (h:=A3 (h:=A3 (h:=AM (h:=AM (h:=e_ (Bp (h:=AB (w_ (a_ (h:=e_ (A4 (?_))))))))))));refine A9 ?_
  first|(exfalso;first|contradiction|omega)|(exact vi (by unfold Bg;grind))
 have hc2:=bp hb2;refine A3 (h:=A3 (h:=A3 (h:=A3 (h:=A3 (h:=A3 (h:=AX (h:=AX (h:=AX (h:=AX (h:=A3 (h:=A3 (h:=AX (h:=AX (h:=AX (h:=AX (h:=A3 (h:=AM (h:=AM (h:=e_ (Bp (h:=AB (q_ (w_ (?_))))))))))))))))))))))));refine f_ (h:=l_ (h:=BB (h:=m_ (h:=?_))));refine AW false rfl rfl (fun hb13=>?_) (fun hb13=>?_)
 ·have hc13:=bp hb13;refine A3 (h:=A3 (h:=A3 (h:=AF (h:=m_ (h:=A3 (h:=A3 (h:=A3 (h:=A3 (h:=AX (h:=AX (h:=AX (h:=AX (h:=AX (h:=AX (h:=AX (h:=AX (h:=A3 (h:=AF (h:=e_ (B8 (h:=w_ (a_ (h:=e_ (?_))))))))))))))))))))))));refine A4 (A6 (?_));refine A9 ?_
  first|(exfalso;first|contradiction|omega)|(exact vi (by unfold Bg;grind))
 have hc13:=bp hb13;refine f_ (h:=l_ (h:=Bl (h:=AM (h:=m_ (h:=?_)))));refine AW false rfl rfl (fun hb14=>?_) (fun hb14=>?_)
 ·have hc14:=bp hb14;refine A3 (h:=A3 (h:=A3 (h:=A3 (h:=AX (h:=AX (h:=AX (h:=AX (h:=AX (h:=AX (h:=AX (h:=AX (h:=A3 (h:=AF (h:=e_ (B8 (h:=w_ (a_ (h:=e_ (A4 (A6 (?_)))))))))))))))))))));refine A9 ?_
  first|(exfalso;first|contradiction|omega)|(exact vi (by unfold Bg;grind))
 have hc14:=bp hb14;refine f_ (h:=l_ (h:=Bl (h:=m_ (h:=?_))));refine AW true rfl rfl (fun hb15=>?_) (fun hb15=>?_)
 ·have hc15:=bp hb15;refine f_ (h:=l_ (h:=?_));refine B4 (AG (J7 _) ?_);rintro r rfl;refine m_ (h:=?_);refine AW false rfl rfl (fun hb16=>?_) (fun hb16=>?_)
  ·have hc16:=bp hb16;refine A3 (h:=A3 (h:=A3 (h:=AF (h:=AF (h:=AM (h:=e_ (B8 (h:=w_ (a_ (h:=e_ (A4 (A6 (?_)))))))))))));refine A9 ?_
   first|(exfalso;first|contradiction|omega)|(exact vi (by unfold Bg;grind))
  have hc16:=bp hb16;refine f_ (h:=l_ (h:=Ap (h:=AM (h:=AF (h:=AM (h:=e_ (Bp (h:=AB (q_ (w_ (f_ (h:=l_ (h:=Ap (h:=m_ (h:=A3 (h:=A3 (h:=A3 (h:=A3 (h:=AX (h:=AX (h:=AX (h:=A3 (h:=AM (h:=?_))))))))))))))))))))))));refine e_ (Bp (h:=AB (q_ (w_ (f_ (h:=l_ (h:=AD (h:=m_ (h:=f_ (h:=l_ (h:=?_)))))))))));refine B4 (AG (J7 _) ?_);rintro r rfl;refine AF (h:=m_ (h:=A3 (h:=A3 (h:=A3 (h:=A3 (h:=AX (h:=AX (h:=AX (h:=A3 (h:=A3 (h:=AX (h:=AX (h:=AX (h:=AX (h:=A3 (h:=AM (h:=m_ (h:=f_ (h:=l_ (h:=?_))))))))))))))))))));refine B4 (AG (J7 _) ?_);rintro r rfl;refine B9 (h:=m_ (h:=f_ (h:=l_ (h:=Ap (h:=AF (h:=AM (h:=e_ (?_))))))));refine A8 rfl (fun hb17=>?_) (fun hb17=>?_)
  ·have hc17:=bp hb17;refine w_ (a_ (h:=e_ (A4 (A6 (?_)))));refine A9 ?_
   first|(exfalso;first|contradiction|omega)|(exact vi (by unfold Bg;grind))
  have hc17:=bp hb17;refine AB (w_ (a_ (h:=e_ (A4 (?_)))));refine A9 ?_
  first|(exfalso;first|contradiction|omega)|(exact vi (by unfold Bg;grind))
 have hc15:=bp hb15;refine A3 (h:=A3 (h:=A3 (h:=A3 (h:=AX (h:=AX (h:=AX (h:=A3 (h:=AM (h:=AM (h:=e_ (Bp (h:=AB (q_ (w_ (f_ (h:=l_ (h:=Ap (h:=m_ (h:=A3 (h:=A3 (h:=A3 (h:=A3 (h:=AX (h:=?_))))))))))))))))))))))));refine AX (h:=AX (h:=A3 (h:=AM (h:=e_ (Bp (h:=AB (q_ (w_ (f_ (h:=l_ (h:=AD (h:=m_ (h:=f_ (h:=l_ (h:=?_)))))))))))))));refine B4 (AG (J7 _) ?_);rintro r rfl;refine AF (h:=m_ (h:=?_));refine AW true rfl rfl (fun hb18=>?_) (fun hb18=>?_)
 ·have hc18:=bp hb18;refine f_ (h:=l_ (h:=Ap (h:=m_ (h:=?_))));refine AW false rfl rfl (fun hb19=>?_) (fun hb19=>?_)
  ·have hc19:=bp hb19;refine A3 (h:=A3 (h:=A3 (h:=AF (h:=m_ (h:=A3 (h:=A3 (h:=A3 (h:=A3 (h:=AF (h:=AF (h:=m_ (h:=A3 (h:=A3 (h:=A3 (h:=A3 (h:=A3 (h:=AX (h:=AX (h:=AX (h:=A3 (h:=AF (h:=e_ (B8 (h:=?_))))))))))))))))))))))));refine w_ (a_ (h:=e_ (A4 (A6 (?_)))));refine A9 ?_
   first|(exfalso;first|contradiction|omega)|(exact vi (by unfold Bg;grind))
  have hc19:=bp hb19;refine f_ (h:=l_ (h:=AD (h:=AM (h:=m_ (h:=?_)))));refine AW false rfl rfl (fun hb20=>?_) (fun hb20=>?_)
  ·have hc20:=bp hb20;refine A3 (h:=A3 (h:=A3 (h:=A3 (h:=AF (h:=AF (h:=m_ (h:=A3 (h:=A3 (h:=A3 (h:=A3 (h:=A3 (h:=AX (h:=AX (h:=AX (h:=A3 (h:=AF (h:=e_ (B8 (h:=w_ (a_ (h:=e_ (A4 (A6 (?_))))))))))))))))))))))));refine A9 ?_
   first|(exfalso;first|contradiction|omega)|(exact vi (by unfold Bg;grind))
  have hc20:=bp hb20;refine f_ (h:=l_ (h:=n_ (h:=Bl (h:=AM (h:=AF (h:=m_ (h:=?_)))))));refine AW false rfl rfl (fun hb21=>?_) (fun hb21=>?_)
  ·have hc21:=bp hb21;refine A3 (h:=A3 (h:=A3 (h:=A3 (h:=A3 (h:=AX (h:=AX (h:=AX (h:=A3 (h:=AF (h:=e_ (B8 (h:=w_ (a_ (h:=e_ (A4 (A6 (?_)))))))))))))))));refine A9 ?_
   first|(exfalso;first|contradiction|omega)|(exact vi (by unfold Bg;grind))
  have hc21:=bp hb21;refine f_ (h:=l_ (h:=?_));refine B4 (AG (J7 _) ?_);rintro r rfl;refine B9 (h:=m_ (h:=A3 (h:=A3 (h:=A3 (h:=AM (h:=AM (h:=e_ (Bp (h:=AB (w_ (a_ (h:=e_ (A4 (?_))))))))))))));refine A9 ?_
  first|(exfalso;first|contradiction|omega)|(exact vi (by unfold Bg;grind))
 have hc18:=bp hb18;refine A3 (h:=A3 (h:=A3 (h:=A3 (h:=AX (h:=AX (h:=AX (h:=A3 (h:=A3 (h:=AX (h:=AX (h:=AX (h:=AX (h:=A3 (h:=AM (h:=m_ (h:=f_ (h:=l_ (h:=?_))))))))))))))))));refine B4 (AG (J7 _) ?_);rintro r rfl;refine B9 (h:=m_ (h:=f_ (h:=l_ (h:=Ap (h:=AF (h:=AM (h:=e_ (?_))))))));refine A8 rfl (fun hb22=>?_) (fun hb22=>?_)
 ·have hc22:=bp hb22;refine w_ (a_ (h:=e_ (A4 (A6 (?_)))));refine A9 ?_
  first|(exfalso;first|contradiction|omega)|(exact vi (by unfold Bg;grind))
 have hc22:=bp hb22;refine AB (w_ (a_ (h:=e_ (A4 (?_)))));refine A9 ?_
 first|(exfalso;first|contradiction|omega)|(exact vi (by unfold Bg;grind))
def Gb(t:Tst)(c:Ctx):Bool:=decide ((if t.fld=14 then c.comm else c.exe)=t.text)==decide (t.op=1)
def Gd(t:Tst)(c:Ctx)(y:Itm):Bool:=
 if DW t.fld=true then Gb t c else E1 t.op (Bq t.fld c y) (if t.other=0 then t.num else Bq t.other c y)
def Fn(t:Tst)(c:Ctx)(y:Itm):Bool:=
 if DW t.fld=true then Gb t c else if Bu t.fld c=false then false else if t.other=0 then E1 t.op (Bq t.fld c y) t.num else if Bu t.other c=false then false else E1 t.op (Bq t.fld c y) (Bq t.other c y)
def PK(t:Tst):Prop:=1≤t.fld∧t.fld≤22∧(t.other=0∨1≤t.other∧t.other≤22∧DW t.other=false)∧1≤t.op∧t.op≤8
theorem SP(t:Tst)(c:Ctx)(k:Cxs)(y:Itm)(ht:PK t):AFn prog 161 [.agg (C3 t), .agg (D4 c k), .agg (Ga y)] (fun r=>r= .v (.bool (Fn t c y))):=by
 obtain⟨f1,f2,o1,p1,p2⟩:=ht;refine enter Tryz.func161 rfl rfl rfl rfl rfl 0 rfl ?_;refine w_ (b_ (h:=b_ (h:=b_ (h:=a_ (h:=e_ (q_ (w_ (f_ (h:=l_ (h:=?_))))))))));refine A7 rfl (AG (Fe _) ?_);rintro r rfl;refine e_ (?_);refine A8 rfl (fun hb1=>?_) (fun hb1=>?_)
 ·have hc1:=bp hb1;refine w_ (f_ (h:=f_ (h:=l_ (h:=a_ (h:=e_ (q_ (w_ (f_ (h:=l_ (h:=AD (h:=e_ (?_))))))))))));refine A8 rfl (fun hb2=>?_) (fun hb2=>?_)
  ·have hc2:=bp hb2;refine AR (f_ (h:=f_ (h:=l_ (h:=a_ (h:=e_ (w_ (m_ (h:=f_ (h:=l_ (h:=AD (h:=f_ (h:=l_ (h:=AD (h:=AD (h:=a_ (h:=e_ (A4 (A6 (?_)))))))))))))))))));refine A9 ?_
   first|(exfalso;first|contradiction|omega)|(exact vb (by unfold Fn Gb;simp_all))
  have hc2:=bp hb2;refine AB (w_ (m_ (h:=f_ (h:=l_ (h:=AD (h:=f_ (h:=l_ (h:=AD (h:=AD (h:=a_ (h:=e_ (A4 (A6 (?_))))))))))))));refine A9 ?_
  first|(exfalso;first|contradiction|omega)|(exact vb (by unfold Fn Gb;simp_all))
 have hc1:=bp hb1;refine AB (w_ (f_ (h:=l_ (h:=l_ (h:=l_ (h:=?_))))));refine A7 rfl (AG (SL t.fld c k y f1 f2 hc1) ?_);rintro r ⟨n1,rfl,hn1⟩;refine m_ (h:=x_ (h:=x_ (h:=a_ (h:=a_ (h:=e_ (q_ (w_ (m_ (h:=B9 (h:=e_ (?_)))))))))));refine A8 rfl (fun hb3=>?_) (fun hb3=>?_)
 ·have hc3:=bp hb3;refine w_ (a_ (h:=e_ (A4 (A6 (?_)))));refine A9 ?_
  first|(exfalso;first|contradiction|omega)|(exact vb (by unfold Fn Gb;simp_all))
 have hc3:=bp hb3;refine AB (w_ (f_ (h:=l_ (h:=a_ (h:=e_ (q_ (w_ (f_ (h:=l_ (h:=Ap (h:=e_ (?_))))))))))));refine A8 rfl (fun hb4=>?_) (fun hb4=>?_)
 ·have hc4:=bp hb4;refine w_ (f_ (h:=l_ (h:=l_ (h:=l_ (h:=?_)))));refine A7 rfl (AG (SL t.other c k y (by omega) (by omega) (o1.resolve_left hc4).2.2) ?_);rintro r ⟨n2,rfl,hn2⟩;refine m_ (h:=x_ (h:=x_ (h:=a_ (h:=a_ (h:=e_ (w_ (m_ (h:=B9 (h:=e_ (?_))))))))));refine A8 rfl (fun hb5=>?_) (fun hb5=>?_)
  ·have hc5:=bp hb5;refine w_ (a_ (h:=e_ (A4 (A6 (?_)))));refine A9 ?_
   first|(exfalso;first|contradiction|omega)|(exact vb (by unfold Fn Gb;simp_all))
  have hc5:=bp hb5;refine AB (w_ (f_ (h:=l_ (h:=m_ (h:=m_ (h:=?_))))));refine A7 rfl (AG (SH _ _ _ p1 p2) ?_);rintro r rfl;refine a_ (h:=e_ (A4 (?_)));refine A9 ?_
  first|(exfalso;first|contradiction|omega)|(exact vb (by unfold Fn Gb;simp_all))
 have hc4:=bp hb4;refine AB (w_ (f_ (h:=l_ (h:=m_ (h:=m_ (h:=?_))))));refine A7 rfl (AG (SH _ _ _ p1 p2) ?_);rintro r rfl;refine a_ (h:=e_ (A4 (?_)));refine A9 ?_
 first|(exfalso;first|contradiction|omega)|(exact vb (by unfold Fn Gb;simp_all))
theorem SQ(t:Tst)(c:Ctx)(k:Cxs)(y:Itm)(ht:PK t):AFn prog 165 [.agg (C3 t), .agg (D4 c k), .agg (Ga y)] (fun r=>r= .v (.bool (Gd t c y))):=by
 obtain⟨f1,f2,o1,p1,p2⟩:=ht;refine enter Tryz.func165 rfl rfl rfl rfl rfl 0 rfl ?_;refine w_ (b_ (h:=b_ (h:=b_ (h:=a_ (h:=e_ (q_ (w_ (f_ (h:=l_ (h:=?_))))))))));refine A7 rfl (AG (J7 _) ?_);rintro r rfl;refine e_ (?_);refine A8 rfl (fun hb1=>?_) (fun hb1=>?_)
 ·have hc1:=bp hb1;refine w_ (f_ (h:=f_ (h:=l_ (h:=a_ (h:=e_ (q_ (w_ (f_ (h:=l_ (h:=AD (h:=e_ (?_))))))))))));refine A8 rfl (fun hb2=>?_) (fun hb2=>?_)
  ·have hc2:=bp hb2;refine AR (f_ (h:=f_ (h:=l_ (h:=a_ (h:=e_ (w_ (m_ (h:=f_ (h:=l_ (h:=AD (h:=f_ (h:=l_ (h:=AD (h:=AD (h:=a_ (h:=e_ (A4 (A6 (?_)))))))))))))))))));refine A9 ?_
   first|(exfalso;first|contradiction|omega)|(exact vb (by unfold Gd Gb;simp_all))
  have hc2:=bp hb2;refine AB (w_ (m_ (h:=f_ (h:=l_ (h:=AD (h:=f_ (h:=l_ (h:=AD (h:=AD (h:=a_ (h:=e_ (A4 (A6 (?_))))))))))))));refine A9 ?_
  first|(exfalso;first|contradiction|omega)|(exact vb (by unfold Gd Gb;simp_all))
 have hc1:=bp hb1;refine AB (w_ (f_ (h:=l_ (h:=a_ (h:=e_ (q_ (w_ (f_ (h:=l_ (h:=Ap (h:=e_ (?_))))))))))));refine A8 rfl (fun hb3=>?_) (fun hb3=>?_)
 ·have hc3:=bp hb3;refine AR (f_ (h:=l_ (h:=l_ (h:=l_ (h:=?_)))));refine A7 rfl (AG (PJ _ c k y) ?_);rintro r rfl;refine a_ (h:=e_ (q_ (Cp 10 (h:=AO 0 (h:=AJ 1 (h:=AO 2 (h:=AJ 3 (h:=AJ 4 (h:=AJ 5 (h:=AU 7 (h:=?_)))))))))));refine c_ 6 rfl (AG (PJ _ c k y) ?_);rintro r rfl;refine o_ (h:=?_);refine c_ 8 rfl (AG (SJ _ _ _ p1 p2) ?_);rintro r rfl;refine o_ (h:=BO 9 (h:=z_ (h:=t_ (A4 (?_)))));refine A9 ?_
  first|(exfalso;first|contradiction|omega)|(exact vb (by unfold Gd Gb;simp_all))
 have hc3:=bp hb3;refine AB (q_ (Cp 10 (h:=AO 0 (h:=AJ 1 (h:=AO 2 (h:=AJ 3 (h:=AJ 4 (h:=AJ 5 (h:=AU 7 (h:=?_))))))))));refine c_ 6 rfl (AG (PJ _ c k y) ?_);rintro r rfl;refine o_ (h:=?_);refine c_ 8 rfl (AG (SJ _ _ _ p1 p2) ?_);rintro r rfl;refine o_ (h:=BO 9 (h:=z_ (h:=t_ (A4 (?_)))));refine A9 ?_
 first|(exfalso;first|contradiction|omega)|(exact vb (by unfold Gd Gb;simp_all))
end
theorem Ll{α:Type}{p:α→Bool}{l:List α}{j:Nat}{x:α}(hx:l[j]?=some x)(hp:p x=true)(h:∀i y,i<j→l[i]?=some y→p y=false):l.find? p=some x:=by
 have:=S5 hx hp h;rw[←S7,this]
 simpa using hx
theorem Lm{α:Type}{p:α→Bool}{l:List α}(h:∀i y,i<l.length→l[i]?=some y→p y=false):l.find? p=none:=by
 rw[List.find?_eq_none];intro x hx;obtain⟨i,hi,rfl⟩:=List.mem_iff_getElem.1 hx;simp[h i _ hi (BJ hi)]
theorem SR{f:Aj}{a:AQ}(h:Dz f a=true):CR f a=some (B5 f a):=by
 unfold Dz at h;unfold B5
 cases hn:CR f a with
 |none=>rw[hn]at h;cases h
 |some n=>rfl
theorem SS{f:Aj}{a:AQ}(h:Dz f a=false):CR f a=none:=by
 unfold Dz at h
 cases hn:CR f a with
 |none=>rfl
 |some n=>rw[hn]at h;cases h
section
theorem He(f:Aj)(a:AQ)(name:AT)(hf:FlsB f):AFn prog 134 [.agg (B0 f), .agg (AN a), .v (.string name)] (fun r=>r= .tup [.agg (AN (AZ f a name).1), .v (.int .i64 (AZ f a name).2)]):=by
 have hen:=SA hf a;refine enter Tryz.func134 rfl rfl rfl rfl rfl 0 rfl ?_;refine w_ (b_ (h:=b_ (h:=Al (h:=a_ (h:=e_ (w_ (l_ (h:=l_ (h:=?_)))))))));refine A7 rfl (AG (E0 f a hf) ?_);rintro r rfl;refine m_ (h:=x_ (h:=x_ (h:=Al (h:=s_ (h:=a_ (h:=e_ (q_ (w_ (m_ (h:=B9 (h:=e_ (?_))))))))))));refine A8 rfl (fun hb1=>?_) (fun hb1=>?_)
 ·have hc1:=bp hb1;have e:=SS hc1;refine w_ (Ak (h:=s_ (h:=a_ (h:=e_ (A4 (A6 (?_)))))));refine A9 ?_;rw[show AZ f a name=((0,0),2) by simp[AZ,e]];rfl
 have hc1:=bp hb1;have e:=SR hc1;refine AB (q_ (w_ (f_ (h:=l_ (h:=Ap (h:=e_ (?_)))))));refine A8 rfl (fun hb2=>?_) (fun hb2=>?_)
 ·have hc2:=bp hb2;refine w_ (Ak (h:=s_ (h:=a_ (h:=e_ (A4 (A6 (?_)))))));refine A9 ?_;rw[show AZ f a name=((0,0),20) by simp[AZ,e,hc2]];rfl
 have hc2:=bp hb2;refine AB (q_ (w_ (a_ (h:=e_ (Ag (?_))))));refine Be (fun m s=>∃j:Nat,j≤(B5 f a).entries.length∧m=(B5 f a).entries.length - j∧(∀i y,i<j→(B5 f a).entries[i]?=some y→decide (y.1=name)=false)∧s=⟨look [(2, .v (.string name)),(4, .bp 1 0),(6, .bp 2 0),(8, .bp 3 0),(10, .v (.int .i64 (j:Int)))],⟨[B0 f,AN a,[.v (.int .i64 0), .v (.int .i64 0)],Am (B5 f a)],[]⟩⟩) ((B5 f a).entries.length) ((wk 4 0)) (⟨0,by omega,rfl,fun i y hi=>by omega,rfl⟩) ?_;rintro m s ⟨j,hj,rfl,ha,rfl⟩;refine q_ (w_ (m_ (h:=f_ (h:=l_ (h:=n_ (h:=BB (h:=e_ (?_))))))));refine A8 rfl (fun hb3=>?_) (fun hb3=>?_)
 ·have hc3:=bp hb3;obtain⟨hlt,x,hy,hrow, -⟩:=C1 FA hc3;refine AB (q_ (Ag (w_ (f_ (h:=l_ (h:=m_ (h:=i_ (h:=f_ (h:=l_ (h:=m_ (h:=AD (h:=e_ (?_)))))))))))));refine A8 rfl (fun hb4=>?_) (fun hb4=>?_)
  ·have hc4:=bp hb4;refine q_ (Bf ([(0,B0 f),(1,AN a),(3,Am (B5 f a))]) 11 (h:=AO 0 (h:=AJ 1 (h:=AO 2 (h:=AJ 3 (h:=AU 4 (h:=Cg 5 (h:=AO 6 (h:=AJ 7 (h:=Hc 8 (h:=?_)))))))))));refine BH 9 rfl (BC rfl rfl rfl rfl rfl rfl (by repeat constructor) (by repeat constructor) ?_);refine o_ (h:=BO 10 (h:=z_ (h:=t_ (A4 (AK (A6 (A6 (AK (A6 (?_))))))))));refine A9 ?_;rw[show AZ f a name=((a.1,x.2),0) by simp only[AZ,e];rw[if_pos (by omega),Ll hy (by simpa using hc4) ha]];rfl
  have hc4:=bp hb4;refine Au (Ah (t_ (AR (m_ (h:=BD (h:=a_ (h:=AP (?_))))))));refine AE ?_;refine⟨_,_,?_,⟨j+1,by omega,rfl,F8 hy ha (by simpa using hc4),rfl⟩,(wk 4 0)⟩;omega
 have hc3:=bp hb3;have e3:=CA FA hj hc3;subst e3;refine BT (Ao (Ao (BU (t_ (w_ (Ak (h:=s_ (h:=a_ (h:=e_ (A4 (?_)))))))))));refine A9 ?_;rw[show AZ f a name=((0,0),2) by simp only[AZ,e];rw[if_pos (by omega),Lm ha]];rfl
end
theorem J8{P:Program}{ev:Operand→Option AV}{h:AH}{R:AV→AH→Prop}{d:Option Tmp}{ty:TypeId}{pos:String}{af:Array Edge}{gd:Option (Nat×Bool)}{T:TypeId}{x ix:Operand}{s:ByteArray}{n:Nat}{k:IntKind}{i:Int}(hu:P.underlying T=some .string)
    (hx:ev x=some (.v (.string s))) (hi:ev ix=some (.v (.int k i))) (hn:i=(n:Int)) (hlt:n<s.size) (hR:R (.v (.int .u8 (s[n].toNat:Int))) h):AStep P ⟨d, .index T x ix,ty,pos,af,gd⟩ ev h R:=by
 refine D1 (fun _ G w ec _ he=>?_) hR;have h1:=he x (by simp[Op.operands]) _ hx;have h2:=he ix (by simp[Op.operands]) _ hi;simp only[rep]at h1 h2;subst hn;refine⟨.int .u8 (s[n].toNat:Int),?_,by simp only[rep]⟩;have e:s[n]?=some s[n]:=getElem?_pos s n hlt;simp[execOp,h1,h2,Instr.index,asIntOf,run_underlying hu,e]
theorem Je(s:AT):FM s=if s.size<1∨12<s.size then false else if s=⟨#[46]⟩then false else if s=⟨#[46,46]⟩then false else s.data.toList.all J5:=by
 unfold FM;have e1:=NZ s ⟨#[46]⟩;have e2:=NZ s ⟨#[46,46]⟩;rw[show(⟨#[46]⟩:ByteArray).toList=[46] by rw[ByteArray.toList_eq]]at e1;rw[show(⟨#[46,46]⟩:ByteArray).toList=[46,46] by rw[ByteArray.toList_eq]]at e2;rw[e1,e2];simp only[decide_eq_true_eq]
theorem X4{c:UInt8}(h1:¬(c.toNat:Int)=0)(h2:¬(c.toNat:Int)=47):J5 c=true:=by
 unfold J5;simp;omega
section
theorem PL(s:AT)(hs:s.size≤100000):AFn prog 136 [.v (.string s)] (fun r=>r= .v (.bool (FM s))):=by
 refine enter Tryz.func136 rfl rfl rfl rfl rfl 0 rfl ?_;refine w_ (a_ (h:=e_ (q_ (w_ (m_ (h:=n_ (h:=BB (h:=m_ (h:=?_)))))))));refine AW false rfl rfl (fun hb1=>?_) (fun hb1=>?_)
 ·have hc1:=bp hb1;refine A3 (h:=A3 (h:=A3 (h:=AF (h:=m_ (h:=A3 (h:=A3 (h:=AF (h:=m_ (h:=A3 (h:=A3 (h:=AF (h:=e_ (B8 (h:=w_ (a_ (h:=e_ (A4 (A6 (?_)))))))))))))))))));refine A9 ?_;exact vb (by rw[Je,if_pos (by omega)])
 have hc1:=bp hb1;refine m_ (h:=n_ (h:=Bl (h:=AM (h:=m_ (h:=?_)))));refine AW false rfl rfl (fun hb2=>?_) (fun hb2=>?_)
 ·have hc2:=bp hb2;refine A3 (h:=A3 (h:=AF (h:=m_ (h:=A3 (h:=A3 (h:=AF (h:=e_ (B8 (h:=w_ (a_ (h:=e_ (A4 (A6 (?_))))))))))))));refine A9 ?_;exact vb (by rw[Je,if_pos (by omega)])
 have hc2:=bp hb2;refine m_ (h:=AD (h:=AM (h:=m_ (h:=?_))));refine AW false rfl rfl (fun hb3=>?_) (fun hb3=>?_)
 ·have hc3:=bp hb3;refine A3 (h:=A3 (h:=AF (h:=e_ (B8 (h:=w_ (a_ (h:=e_ (A4 (A6 (?_))))))))));refine A9 ?_;exact vb (by rw[Je,if_neg (by omega),if_pos hc3])
 have hc3:=bp hb3;refine m_ (h:=AD (h:=AM (h:=e_ (?_))));refine A8 rfl (fun hb4=>?_) (fun hb4=>?_)
 ·have hc4:=bp hb4;refine w_ (a_ (h:=e_ (A4 (A6 (?_)))));refine A9 ?_;exact vb (by rw[Je,if_neg (by omega),if_neg hc3,if_pos hc4])
 have hc4:=bp hb4;refine AB (q_ (w_ (a_ (h:=e_ (Ag (?_))))));refine Be (fun m t=>∃j:Nat,j≤s.size∧m=s.size - j∧(∀i (hi:i<s.size),i<j→J5 s[i]=true)∧t=⟨look [(0, .v (.string s)),(3, .v (.int .i64 (j:Int)))],⟨[],[]⟩⟩) (s.size) ((wk 0 0)) (⟨0,by omega,rfl,fun i _ hi=>by omega,rfl⟩) ?_;rintro m t ⟨j,hj,rfl,ha,rfl⟩;refine q_ (w_ (m_ (h:=m_ (h:=n_ (h:=BB (h:=e_ (?_)))))));refine A8 rfl (fun hb5=>?_) (fun hb5=>?_)
 ·have hc5:=bp hb5;have hlt:j<s.size:=by omega
  refine AB (q_ (Ag (w_ (m_ (h:=m_ (h:=?_))))));refine A7 rfl (J8 (n:=j) Tryz.underlying9 rfl rfl rfl hlt ?_);refine AD (h:=m_ (h:=?_));refine AW false rfl rfl (fun hb6=>?_) (fun hb6=>?_)
  ·have hc6:=bp hb6;refine A3 (h:=A3 (h:=A3 (h:=A3 (h:=AF (h:=e_ (B8 (h:=w_ (a_ (h:=e_ (A4 (AK (A6 (A6 (AK (A6 (?_))))))))))))))));refine A9 ?_;exact vb (by rw[Je,if_neg (by omega),if_neg hc3,if_neg hc4,PG hlt (by unfold J5;simp[hc6])])
  have hc6:=bp hb6;refine m_ (h:=m_ (h:=?_));refine B4 (J8 (n:=j) Tryz.underlying9 rfl rfl rfl hlt ?_);refine AD (h:=AM (h:=e_ (?_)));refine A8 rfl (fun hb7=>?_) (fun hb7=>?_)
  ·have hc7:=bp hb7;refine w_ (a_ (h:=e_ (A4 (AK (A6 (A6 (AK (A6 (?_)))))))));refine A9 ?_;exact vb (by rw[Je,if_neg (by omega),if_neg hc3,if_neg hc4,PG hlt (by unfold J5;simp[hc7])])
  have hc7:=bp hb7;refine Au (Ah (t_ (AR (m_ (h:=BD (h:=a_ (h:=AP (?_))))))));refine AE ?_;refine⟨_,_,?_,⟨j+1,by omega,rfl,S9 hlt ha (X4 hc6 hc7),rfl⟩,(wk 0 0)⟩;omega
 have hc5:=bp hb5;obtain rfl:j=s.size:=by omega
 refine BT (Ao (Ao (BU (t_ (w_ (a_ (h:=e_ (A4 (?_)))))))));refine A9 ?_;exact vb (by rw[Je,if_neg (by omega),if_neg hc3,if_neg hc4,S8 (fun i hi=>ha i hi hi)])
end
theorem X5(f:Aj)(a:AQ):J6 f a=decide (12≤(B5 f a).entries.length):=by
 unfold J6 B5;cases CR f a<;>simp[Nod.zero]
theorem X6(f:Aj)(a:AQ):Jc f a=decide ((B5 f a).entries.length=0):=by
 unfold Jc B5;cases CR f a<;>simp[Nod.zero]
theorem X7{f:Aj}{a:AQ}{k:Nat}{d:Dvc}{n:Nod}(hk:a.1=(k:Int))(hd:f[k]?=some d)(hn:CR f a=some n):GZ f a=Bn a.2 d.nodes:=by
 unfold GZ;rw[hn,hk,Ki,hd]
section
theorem X8(s:AT)(hs:s.size≤100000):AFn prog 258 [.v (.string s)] (fun r=>r= .v (.bool (Kj s))):=by
 refine enter Tryz.func258 rfl rfl rfl rfl rfl 0 rfl ?_;refine w_ (a_ (h:=e_ (q_ (w_ (a_ (h:=e_ (Ag (?_))))))));refine Be (fun m t=>∃j:Nat,j≤s.size∧m=s.size - j∧(∀i (hi:i<s.size),i<j→(!((s[i].toNat:Int)==0))=true)∧t=⟨look [(0, .v (.string s)),(3, .v (.int .i64 (j:Int)))],⟨[],[]⟩⟩) (s.size) ((wk 0 0)) (⟨0,by omega,rfl,fun i _ hi=>by omega,rfl⟩) ?_;rintro m t ⟨j,hj,rfl,ha,rfl⟩;refine q_ (w_ (m_ (h:=m_ (h:=n_ (h:=BB (h:=e_ (?_)))))));refine A8 rfl (fun hb1=>?_) (fun hb1=>?_)
 ·have hc1:=bp hb1;have hlt:j<s.size:=by omega
  refine AB (q_ (Ag (w_ (m_ (h:=m_ (h:=?_))))));refine A7 rfl (J8 (n:=j) Tryz.underlying9 rfl rfl rfl hlt ?_);refine AD (h:=e_ (?_));refine A8 rfl (fun hb2=>?_) (fun hb2=>?_)
  ·have hc2:=bp hb2;refine w_ (a_ (h:=e_ (A4 (AK (A6 (A6 (AK (A6 (?_)))))))));refine A9 ?_;exact vb (by unfold Kj;rw[PG hlt (by simp[hc2])];simp)
  have hc2:=bp hb2;refine Au (Ah (t_ (AR (m_ (h:=BD (h:=a_ (h:=AP (?_))))))));refine AE ?_;refine⟨_,_,?_,⟨j+1,by omega,rfl,S9 (p:=fun c=> !((c.toNat:Int)==0)) hlt ha (by simpa using hc2),rfl⟩,(wk 0 0)⟩;omega
 have hc1:=bp hb1;obtain rfl:j=s.size:=by omega
 have hal:=S8 (p:=fun c=> !((c.toNat:Int)==0)) (fun i hi=>ha i hi hi);refine BT (Ao (Ao (BU (t_ (w_ (m_ (h:=n_ (h:=Cw (h:=m_ (h:=?_))))))))));refine AW true rfl rfl (fun hb3=>?_) (fun hb3=>?_)
 ·have hc3:=bp hb3;refine m_ (h:=n_ (h:=E6 (h:=AF (h:=a_ (h:=e_ (A4 (?_)))))));refine A9 ?_;exact vb (by unfold Kj;rw[hal,Bool.eq_iff_iff];simp;omega)
 have hc3:=bp hb3;refine A3 (h:=A3 (h:=A3 (h:=AM (h:=a_ (h:=e_ (A4 (?_)))))));refine A9 ?_;exact vb (by unfold Kj;rw[hal,Bool.eq_iff_iff];simp;omega)
theorem Kl(f:Aj)(a:AQ)(name:AT)(hf:FlsB f)(hs:name.size≤100000):AFn prog 230 [.agg (B0 f), .agg (AN a), .v (.string name)] (fun r=>r= .v (.int .i64 (CC f a name))):=by
 refine enter Tryz.func230 rfl rfl rfl rfl rfl 0 rfl ?_;refine w_ (b_ (h:=b_ (h:=a_ (h:=e_ (w_ (l_ (h:=l_ (h:=?_))))))));refine A7 rfl (AG (E0 f a hf) ?_);rintro r rfl;refine m_ (h:=x_ (h:=x_ (h:=Al (h:=s_ (h:=a_ (h:=e_ (q_ (w_ (m_ (h:=B9 (h:=e_ (?_))))))))))));refine A8 rfl (fun hb1=>?_) (fun hb1=>?_)
 ·have hc1:=bp hb1;have e:=SS hc1;refine w_ (a_ (h:=e_ (A4 (A6 (?_)))));refine A9 ?_;exact vi (by simp[CC,e])
 have hc1:=bp hb1;have e:=SR hc1;refine AB (q_ (w_ (f_ (h:=l_ (h:=Ap (h:=e_ (?_)))))));refine A8 rfl (fun hb2=>?_) (fun hb2=>?_)
 ·have hc2:=bp hb2;refine w_ (a_ (h:=e_ (A4 (A6 (?_)))));refine A9 ?_;exact vi (by simp[CC,e,hc2])
 have hc2:=bp hb2;refine AB (q_ (w_ (m_ (h:=?_))));refine A7 rfl (AG (PL name hs) ?_);rintro r rfl;refine B9 (h:=e_ (?_));refine A8 rfl (fun hb3=>?_) (fun hb3=>?_)
 ·have hc3:=bp hb3;refine w_ (a_ (h:=e_ (A4 (A6 (?_)))));refine A9 ?_;exact vi (by simp only[CC,e];rw[if_pos (by omega),hc3];rfl)
 have hc3:=bp hb3;refine AB (w_ (a_ (h:=e_ (A4 (?_)))));refine A9 ?_;exact vi (by simp only[CC,e];rw[if_pos (by omega),hc3];rfl)
theorem PM(f:Aj)(a:AQ)(hf:FlsB f):AFn prog 231 [.agg (B0 f), .agg (AN a)] (fun r=>r= .v (.bool (J6 f a))):=by
 refine enter Tryz.func231 rfl rfl rfl rfl rfl 0 rfl ?_;refine w_ (b_ (h:=b_ (h:=a_ (h:=e_ (w_ (l_ (h:=l_ (h:=?_))))))));refine A7 rfl (AG (E0 f a hf) ?_);rintro r rfl;refine m_ (h:=x_ (h:=x_ (h:=Al (h:=s_ (h:=a_ (h:=e_ (w_ (f_ (h:=l_ (h:=n_ (h:=Cw (h:=a_ (h:=e_ (A4 (?_)))))))))))))));refine A9 ?_;exact vb (by rw[X5,Bool.eq_iff_iff];simp;omega)
theorem ST(f:Aj)(a:AQ)(hf:FlsB f):AFn prog 235 [.agg (B0 f), .agg (AN a)] (fun r=>r= .v (.bool (Jc f a))):=by
 refine enter Tryz.func235 rfl rfl rfl rfl rfl 0 rfl ?_;refine w_ (b_ (h:=b_ (h:=a_ (h:=e_ (w_ (l_ (h:=l_ (h:=?_))))))));refine A7 rfl (AG (E0 f a hf) ?_);rintro r rfl;refine m_ (h:=x_ (h:=x_ (h:=Al (h:=s_ (h:=a_ (h:=e_ (w_ (f_ (h:=l_ (h:=n_ (h:=AD (h:=a_ (h:=e_ (A4 (?_)))))))))))))));refine A9 ?_;exact vb (by rw[X6,Bool.eq_iff_iff];simp)
theorem SU(n:Nod)(hs:n.target.size≤100000):AFn prog 237 [.agg (Am n)] (fun r=>r= .v (.bool (FN n))):=by
 have ee:n.target.toList.isEmpty=decide (n.target=⟨#[]⟩):=by
  rw[←NZ n.target ⟨#[]⟩,show(⟨#[]⟩:ByteArray).toList=[] by rw[ByteArray.toList_eq]];cases n.target.toList<;>rfl
 refine enter Tryz.func237 rfl rfl rfl rfl rfl 0 rfl ?_;refine w_ (b_ (h:=a_ (h:=e_ (q_ (?_)))));refine FZ (⟨look [(1, .bp 0 0),(40, .v (.bool (decide (n.kind<1∨3<n.kind∨n.mode<0∨511<n.mode∨n.uid<0∨4294967295<n.uid∨n.gid<0∨4294967295<n.gid))))],⟨[Am n],[]⟩⟩) ?_ ?_
 ·skip
  refine AR (f_ (h:=l_ (h:=BB (h:=m_ (h:=?_)))));refine AW false rfl rfl (fun hb1=>?_) (fun hb1=>?_)
  ·have hc1:=bp hb1;refine A3 (h:=A3 (h:=A3 (h:=AF (h:=m_ (h:=A3 (h:=A3 (h:=A3 (h:=AF (h:=m_ (h:=A3 (h:=A3 (h:=A3 (h:=AF (h:=m_ (h:=A3 (h:=A3 (h:=A3 (h:=AF (h:=m_ (h:=A3 (h:=A3 (h:=A3 (h:=AF (h:=?_))))))))))))))))))))))));refine m_ (h:=A3 (h:=A3 (h:=A3 (h:=AF (h:=m_ (h:=A3 (h:=A3 (h:=A3 (h:=AF (h:=AP (?_)))))))))));refine AE ?_
   first|(exfalso;first|contradiction|omega)|exact Av 1 0 rfl rfl rfl rfl (by repeat (first|exact Sub.nil|refine Ax rfl rfl ?_|refine B1 ?_|refine B2 rfl ?_|refine B3 rfl ?_|(apply Sub.of;(focus exact rfl);(focus exact LeA.of_eq (vb (by rw[Bool.eq_iff_iff];simp;try omega)));(focus exact rfl))))
  have hc1:=bp hb1;refine f_ (h:=l_ (h:=Bl (h:=AM (h:=m_ (h:=?_)))));refine AW false rfl rfl (fun hb2=>?_) (fun hb2=>?_)
  ·have hc2:=bp hb2;refine A3 (h:=A3 (h:=A3 (h:=AF (h:=m_ (h:=A3 (h:=A3 (h:=A3 (h:=AF (h:=m_ (h:=A3 (h:=A3 (h:=A3 (h:=AF (h:=m_ (h:=A3 (h:=A3 (h:=A3 (h:=AF (h:=m_ (h:=A3 (h:=A3 (h:=A3 (h:=AF (h:=?_))))))))))))))))))))))));refine m_ (h:=A3 (h:=A3 (h:=A3 (h:=AF (h:=AP (?_))))));refine AE ?_
   first|(exfalso;first|contradiction|omega)|exact Av 1 0 rfl rfl rfl rfl (by repeat (first|exact Sub.nil|refine Ax rfl rfl ?_|refine B1 ?_|refine B2 rfl ?_|refine B3 rfl ?_|(apply Sub.of;(focus exact rfl);(focus exact LeA.of_eq (vb (by rw[Bool.eq_iff_iff];simp;try omega)));(focus exact rfl))))
  have hc2:=bp hb2;refine f_ (h:=l_ (h:=BB (h:=AM (h:=m_ (h:=?_)))));refine AW false rfl rfl (fun hb3=>?_) (fun hb3=>?_)
  ·have hc3:=bp hb3;refine A3 (h:=A3 (h:=A3 (h:=AF (h:=m_ (h:=A3 (h:=A3 (h:=A3 (h:=AF (h:=m_ (h:=A3 (h:=A3 (h:=A3 (h:=AF (h:=m_ (h:=A3 (h:=A3 (h:=A3 (h:=AF (h:=m_ (h:=A3 (h:=A3 (h:=A3 (h:=AF (h:=?_))))))))))))))))))))))));refine AP (?_);refine AE ?_
   first|(exfalso;first|contradiction|omega)|exact Av 1 0 rfl rfl rfl rfl (by repeat (first|exact Sub.nil|refine Ax rfl rfl ?_|refine B1 ?_|refine B2 rfl ?_|refine B3 rfl ?_|(apply Sub.of;(focus exact rfl);(focus exact LeA.of_eq (vb (by rw[Bool.eq_iff_iff];simp;try omega)));(focus exact rfl))))
  have hc3:=bp hb3;refine f_ (h:=l_ (h:=Bl (h:=AM (h:=m_ (h:=?_)))));refine AW false rfl rfl (fun hb4=>?_) (fun hb4=>?_)
  ·have hc4:=bp hb4;refine A3 (h:=A3 (h:=A3 (h:=AF (h:=m_ (h:=A3 (h:=A3 (h:=A3 (h:=AF (h:=m_ (h:=A3 (h:=A3 (h:=A3 (h:=AF (h:=m_ (h:=A3 (h:=A3 (h:=A3 (h:=AF (h:=AP (?_))))))))))))))))))));refine AE ?_
   first|(exfalso;first|contradiction|omega)|exact Av 1 0 rfl rfl rfl rfl (by repeat (first|exact Sub.nil|refine Ax rfl rfl ?_|refine B1 ?_|refine B2 rfl ?_|refine B3 rfl ?_|(apply Sub.of;(focus exact rfl);(focus exact LeA.of_eq (vb (by rw[Bool.eq_iff_iff];simp;try omega)));(focus exact rfl))))
  have hc4:=bp hb4;refine f_ (h:=l_ (h:=BB (h:=AM (h:=m_ (h:=?_)))));refine AW false rfl rfl (fun hb5=>?_) (fun hb5=>?_)
  ·have hc5:=bp hb5;refine A3 (h:=A3 (h:=A3 (h:=AF (h:=m_ (h:=A3 (h:=A3 (h:=A3 (h:=AF (h:=m_ (h:=A3 (h:=A3 (h:=A3 (h:=AF (h:=AP (?_)))))))))))))));refine AE ?_
   first|(exfalso;first|contradiction|omega)|exact Av 1 0 rfl rfl rfl rfl (by repeat (first|exact Sub.nil|refine Ax rfl rfl ?_|refine B1 ?_|refine B2 rfl ?_|refine B3 rfl ?_|(apply Sub.of;(focus exact rfl);(focus exact LeA.of_eq (vb (by rw[Bool.eq_iff_iff];simp;try omega)));(focus exact rfl))))
  have hc5:=bp hb5;refine f_ (h:=l_ (h:=Bl (h:=AM (h:=m_ (h:=?_)))));refine AW false rfl rfl (fun hb6=>?_) (fun hb6=>?_)
  ·have hc6:=bp hb6;refine A3 (h:=A3 (h:=A3 (h:=AF (h:=m_ (h:=A3 (h:=A3 (h:=A3 (h:=AF (h:=AP (?_))))))))));refine AE ?_
   first|(exfalso;first|contradiction|omega)|exact Av 1 0 rfl rfl rfl rfl (by repeat (first|exact Sub.nil|refine Ax rfl rfl ?_|refine B1 ?_|refine B2 rfl ?_|refine B3 rfl ?_|(apply Sub.of;(focus exact rfl);(focus exact LeA.of_eq (vb (by rw[Bool.eq_iff_iff];simp;try omega)));(focus exact rfl))))
  have hc6:=bp hb6;refine f_ (h:=l_ (h:=BB (h:=AM (h:=m_ (h:=?_)))));refine AW false rfl rfl (fun hb7=>?_) (fun hb7=>?_)
  ·have hc7:=bp hb7;refine A3 (h:=A3 (h:=A3 (h:=AF (h:=AP (?_)))));refine AE ?_
   first|(exfalso;first|contradiction|omega)|exact Av 1 0 rfl rfl rfl rfl (by repeat (first|exact Sub.nil|refine Ax rfl rfl ?_|refine B1 ?_|refine B2 rfl ?_|refine B3 rfl ?_|(apply Sub.of;(focus exact rfl);(focus exact LeA.of_eq (vb (by rw[Bool.eq_iff_iff];simp;try omega)));(focus exact rfl))))
  have hc7:=bp hb7;refine f_ (h:=l_ (h:=Bl (h:=AM (h:=AP (?_)))));refine AE ?_
  first|(exfalso;first|contradiction|omega)|exact Av 1 0 rfl rfl rfl rfl (by repeat (first|exact Sub.nil|refine Ax rfl rfl ?_|refine B1 ?_|refine B2 rfl ?_|refine B3 rfl ?_|(apply Sub.of;(focus exact rfl);(focus exact LeA.of_eq (vb (by rw[Bool.eq_iff_iff];simp;try omega)));(focus exact rfl))))
 skip
 refine A8 rfl (fun hb8=>?_) (fun hb8=>?_)
 ·have hc8:=bp hb8;refine w_ (a_ (h:=e_ (A4 (A6 (?_)))));refine A9 ?_;exact vb (by rw[FN,if_pos hc8])
 have hc8:=bp hb8;refine AB (q_ (w_ (f_ (h:=l_ (h:=AD (h:=e_ (?_)))))));refine A8 rfl (fun hb9=>?_) (fun hb9=>?_)
 ·have hc9:=bp hb9;refine w_ (f_ (h:=l_ (h:=?_)));refine A7 rfl (AG (X8 n.target hs) ?_);rintro r rfl;refine a_ (h:=e_ (A4 (A6 (?_))));refine A9 ?_;exact vb (by rw[FN,if_neg hc8,if_pos hc9])
 have hc9:=bp hb9;refine AB (w_ (f_ (h:=l_ (h:=AD (h:=a_ (h:=e_ (A4 (?_))))))));refine A9 ?_;exact vb (by rw[FN,if_neg hc8,if_neg hc9,ee])
theorem X9(f:Aj)(a:AQ)(hf:FlsB f):AFn prog 257 [.agg (B0 f), .agg (AN a)] (fun r=>r= .v (.int .i64 (GZ f a:Int))):=by
 refine enter Tryz.func257 rfl rfl rfl rfl rfl 0 rfl ?_;refine w_ (b_ (h:=b_ (h:=a_ (h:=e_ (q_ (w_ (l_ (h:=l_ (h:=?_)))))))));refine A7 rfl (AG (Jd f a hf) ?_);rintro r rfl;refine BB (h:=e_ (?_));refine A8 rfl (fun hb1=>?_) (fun hb1=>?_)
 ·have hc1:=bp hb1
  have e:CR f a=none:=by
   rcases J4 f a with h|⟨k,i,d,n, -, -, -, -,h, -⟩
   ·exact h.2
   exfalso;omega
  refine w_ (a_ (h:=e_ (A4 (A6 (?_)))));refine A9 ?_;exact vi (by simp[GZ,e])
 have hc1:=bp hb1;obtain⟨k,i,d,n,g1,g2,g3,g4,g5,g6⟩:=(J4 f a).resolve_left (fun h=>by omega);have hr1:(f.map Cc)[k]?=some (Cc d):=by rw[List.getElem?_map,g2];rfl
 have hdn:=hf.nodes d (Aw g2);refine AB (w_ (a_ (h:=e_ (w_ (f_ (h:=l_ (h:=f_ (h:=l_ (h:=?_)))))))));refine A7 rfl (Cl (n:=k) rfl rfl g1 hr1 ?_);refine f_ (h:=l_ (h:=a_ (h:=e_ (q_ (w_ (a_ (h:=e_ (Ag (?_)))))))));refine Be (fun m s=>∃j c:Nat,j≤d.nodes.length∧m=d.nodes.length - j∧c=Bn a.2 (d.nodes.take j)∧c≤1000 * j∧s=⟨look [(3, .bp 1 0),(5, .v (.int .i64 (c:Int))),(6, .sl 8 (d.nodes.map Am) none),(7, .v (.int .i64 (j:Int)))],⟨[B0 f,AN a],[]⟩⟩) (d.nodes.length) ((wk 2 0)) (⟨0,0,by omega,rfl,rfl,by omega,rfl⟩) ?_;rintro m s ⟨j,c,hj,rfl,hcn,hcb,rfl⟩;refine q_ (w_ (m_ (h:=m_ (h:=n_ (h:=BB (h:=e_ (?_)))))));refine A8 rfl (fun hb2=>?_) (fun hb2=>?_)
 ·have hc2:=bp hb2;obtain⟨hlt,x,hx,hrow, -⟩:=C1 Am hc2;have hen:=hf.ents d (Aw g2) x (Aw hx);refine AB (q_ (Ag (w_ (a_ (h:=e_ (Ag (?_)))))));refine Be (fun m s=>∃i c2:Nat,i≤x.entries.length∧m=x.entries.length - i∧c2=c+Cm a.2 (x.entries.take i)∧c2≤c+i∧s=⟨look [(3, .bp 1 0),(5, .v (.int .i64 (c2:Int))),(6, .sl 8 (d.nodes.map Am) none),(7, .v (.int .i64 (j:Int))),(8, .v (.int .i64 (i:Int)))],⟨[B0 f,AN a],[]⟩⟩) (x.entries.length) ((wk 2 0)) (⟨0,c,by omega,rfl,rfl,by omega,rfl⟩) ?_;rintro m s ⟨i,c2,hi,rfl,hc2n,hc2b,rfl⟩;refine q_ (w_ (m_ (h:=m_ (h:=m_ (h:=i_ (h:=f_ (h:=l_ (h:=n_ (h:=BB (h:=e_ (?_)))))))))));refine A8 rfl (fun hb3=>?_) (fun hb3=>?_)
  ·have hc3:=bp hb3;obtain⟨hlt3,y,hy,hrow3, -⟩:=C1 FA hc3;refine AB (q_ (Ag (q_ (Cp 12 (h:=AU 0 (h:=AU 1 (h:=Cg 2 (h:=AO 3 (h:=AJ 4 (h:=AU 5 (h:=Cg 6 (h:=AO 7 (h:=AJ 8 (h:=AO 9 (h:=AJ 10 (h:=H3 11 (h:=z_ (h:=t_ (?_)))))))))))))))))));refine A8 rfl (fun hb4=>?_) (fun hb4=>?_)
   ·have hc4:=bp hb4;refine AR (m_ (h:=BD (h:=a_ (h:=AP (Ah (t_ (AR (m_ (h:=BD (h:=a_ (h:=AP (?_))))))))))));refine AE ?_
    first|(refine⟨_,_,?_,⟨i+1,c2+1,by omega,rfl,?_,by omega,rfl⟩,(wk 2 0)⟩<;>first|omega|(rw[Na hy];simp[hc4];omega))|(refine⟨_,_,?_,⟨i+1,c2,by omega,rfl,?_,by omega,rfl⟩,(wk 2 0)⟩<;>first|omega|(rw[Na hy];simp[hc4];omega))
   have hc4:=bp hb4;refine Au (Ah (t_ (AR (m_ (h:=BD (h:=a_ (h:=AP (?_))))))));refine AE ?_
   first|(refine⟨_,_,?_,⟨i+1,c2+1,by omega,rfl,?_,by omega,rfl⟩,(wk 2 0)⟩<;>first|omega|(rw[Na hy];simp[hc4];omega))|(refine⟨_,_,?_,⟨i+1,c2,by omega,rfl,?_,by omega,rfl⟩,(wk 2 0)⟩<;>first|omega|(rw[Na hy];simp[hc4];omega))
  have hc3:=bp hb3;have e3:=CA FA hi hc3;subst e3;refine BT (Ao (Ao (BU (Ah (t_ (AR (m_ (h:=BD (h:=a_ (h:=AP (?_)))))))))));refine AE ?_;refine⟨_,_,?_,⟨j+1,c2,by omega,rfl,?_,?_,rfl⟩,(wk 2 0)⟩
  ·omega
  ·rw[hc2n,X0 hx,List.take_length];omega
  have:=Wz a.2 (x.entries.take x.entries.length);simp at this;omega
 have hc2:=bp hb2;have e2:=CA Am hj hc2;subst e2;refine BT (Ao (Ao (BU (t_ (w_ (m_ (h:=a_ (h:=e_ (A4 (?_))))))))));refine A9 ?_;exact vi (by rw[X7 g1 g2 g6,hcn,List.take_length])
end
def Fo(m:D9):List AV:=[.v (.int .i64 m.1), .v (.int .i64 m.2.1), .v (.int .i64 m.2.2)]
def BK(s:Spc):List AV:=[.sl 2 (s.files.map Cc) none, .sl 3 (s.mounts.map Fo) none]
structure SpcB(s:Spc):Prop where
 files:FlsB s.files
 few:s.mounts.length≤1000
def Cd(s:Spc)(dev:Int):Option AQ:=(s.mounts.find? fun m:D9=>decide (m.1=dev)).map (·.2)
def D2(s:Spc)(a:AQ):Option Int:=(s.mounts.find? fun m:D9=>decide (m.2=a)).map (·.1)
def Co(s:Spc)(dev:Int):Bool:=(Cd s dev).isSome||decide (dev=0)
section
theorem PN(op:BinOp)(a b c d:Int)(w:World):(op= .eql∨op= .neq)→(binOp op 26 (.agg #[.int .i64 a, .int .i64 b]) (.agg #[.int .i64 c, .int .i64 d])).run prog w= .ok (.bool (decide ((a,b)=(c,d))==decide (op= .eql))) w:=by
 have u3:=Tryz.underlying3;have a3:=Tryz.isAgg3;have z3:=Tryz.sizeOf3;have hS:prog.underlying 26=some (.struct (prog.fieldsOf 26)):=by kernel_rfl
 have hp:prog.stoodInHeld 26=false:=by kernel_rfl
 have e:∀w,(Op.equalIn 10000 26 (.agg #[.int .i64 a, .int .i64 b]) (.agg #[.int .i64 c, .int .i64 d])).run prog w= .ok (a==c&&b==d) w:=by
  intro w;rw[show(10000:Nat)=9999+1 from rfl,run_equalIn_agg w 9999 26 _ _ hS hp];simp only[Program.fieldsOf,Tryz.underlying26]
  go_simp
  by_cases h1:a=c<;>by_cases h2:b=d<;>simp[h1,h2]
 rintro(rfl|rfl)
 ·rw[run_eql_struct,e];by_cases h1:a=c<;>by_cases h2:b=d<;>simp[h1,h2]
 rw[run_neq_struct,e];by_cases h1:a=c<;>by_cases h2:b=d<;>simp[h1,h2]
theorem Nc(a b c d:Int)(w:World):(binOp .eql 26 (.agg #[.int .i64 a, .int .i64 b]) (.agg #[.int .i64 c, .int .i64 d])).run prog w= .ok (.bool (decide ((a,b)=(c,d)))) w:=by
 rw[PN .eql a b c d w (.inl rfl)];by_cases h:(a,b)=(c,d)<;>simp[h]
theorem SV(a b c d:Int)(w:World):(binOp .neq 26 (.agg #[.int .i64 a, .int .i64 b]) (.agg #[.int .i64 c, .int .i64 d])).run prog w= .ok (.bool (!decide ((a,b)=(c,d)))) w:=by
 rw[PN .neq a b c d w (.inr rfl)];by_cases h:(a,b)=(c,d)<;>simp[h]
theorem PO(s:Spc)(dev:Int)(hs:SpcB s):AFn prog 180 [.agg (BK s), .v (.int .i64 dev)] (fun r=>r= .tup [.agg (AN ((Cd s dev).getD (0,0))), .v (.bool (Cd s dev).isSome)]):=by
 have hfew:=hs.few;refine enter Tryz.func180 rfl rfl rfl rfl rfl 0 rfl ?_;refine w_ (b_ (h:=Al (h:=a_ (h:=e_ (q_ (w_ (a_ (h:=e_ (Ag (?_))))))))));refine Be (fun m t=>∃j:Nat,j≤s.mounts.length∧m=s.mounts.length - j∧(∀i y,i<j→s.mounts[i]?=some y→decide (y.1=dev)=false)∧t=⟨look [(1, .v (.int .i64 dev)),(2, .bp 0 0),(4, .bp 1 0),(6, .v (.int .i64 (j:Int)))],⟨[BK s,[.v (.int .i64 0), .v (.int .i64 0)]],[]⟩⟩) (s.mounts.length) ((wk 2 0)) (⟨0,by omega,rfl,fun i y hi=>by omega,rfl⟩) ?_;rintro m t ⟨j,hj,rfl,ha,rfl⟩;refine q_ (w_ (m_ (h:=f_ (h:=l_ (h:=n_ (h:=BB (h:=e_ (?_))))))));refine A8 rfl (fun hb1=>?_) (fun hb1=>?_)
 ·have hc1:=bp hb1;obtain⟨hlt,x,hy,hrow, -⟩:=C1 Fo hc1;refine AB (q_ (Ag (w_ (f_ (h:=l_ (h:=m_ (h:=i_ (h:=f_ (h:=l_ (h:=m_ (h:=AD (h:=e_ (?_)))))))))))));refine A8 rfl (fun hb2=>?_) (fun hb2=>?_)
  ·have hc2:=bp hb2;refine w_ (f_ (h:=l_ (h:=m_ (h:=i_ (h:=f_ (h:=l_ (h:=s_ (h:=a_ (h:=e_ (A4 (AK (A6 (A6 (AK (A6 (?_))))))))))))))));refine A9 ?_;rw[show Cd s dev=some x.2 by simp only[Cd];rw[Ll hy (by simpa using hc2) ha];rfl];rfl
  have hc2:=bp hb2;refine Au (Ah (t_ (AR (m_ (h:=BD (h:=a_ (h:=AP (?_))))))));refine AE ?_;refine⟨_,_,?_,⟨j+1,by omega,rfl,F8 hy ha (by simpa using hc2),rfl⟩,(wk 2 0)⟩;omega
 have hc1:=bp hb1;have e3:=CA Fo hj hc1;subst e3;refine BT (Ao (Ao (BU (t_ (w_ (Ak (h:=s_ (h:=a_ (h:=e_ (A4 (?_)))))))))));refine A9 ?_;rw[show Cd s dev=none by simp only[Cd];rw[Lm ha];rfl];rfl
theorem Ln(s:Spc)(dev:Int)(hs:SpcB s):AFn prog 124 [.agg (BK s), .v (.int .i64 dev)] (fun r=>r= .v (.bool (Co s dev))):=by
 refine enter Tryz.func124 rfl rfl rfl rfl rfl 0 rfl ?_;refine w_ (b_ (h:=a_ (h:=e_ (w_ (l_ (h:=m_ (h:=?_)))))));refine A7 rfl (AG (PO s dev hs) ?_);rintro r rfl;refine m_ (h:=x_ (h:=x_ (h:=Al (h:=s_ (h:=a_ (h:=e_ (w_ (m_ (h:=m_ (h:=?_))))))))));refine AW false rfl rfl (fun hb1=>?_) (fun hb1=>?_)
 ·have hc1:=bp hb1;refine A3 (h:=A3 (h:=AF (h:=a_ (h:=e_ (A4 (?_))))));refine A9 ?_;exact vb (by unfold Co;rw[hc1];simp)
 have hc1:=bp hb1;refine m_ (h:=AD (h:=AM (h:=a_ (h:=e_ (A4 (?_))))));refine A9 ?_;exact vb (by unfold Co;rw[hc1];simp)
theorem SW(s:Spc)(a:AQ)(hs:SpcB s):AFn prog 181 [.agg (BK s), .agg (AN a)] (fun r=>r= .tup [.v (.int .i64 ((D2 s a).getD 0)), .v (.bool (D2 s a).isSome)]):=by
 have hfew:=hs.few;refine enter Tryz.func181 rfl rfl rfl rfl rfl 0 rfl ?_;refine w_ (b_ (h:=b_ (h:=a_ (h:=a_ (h:=e_ (q_ (w_ (a_ (h:=e_ (Ag (?_)))))))))));refine Be (fun m t=>∃j:Nat,j≤s.mounts.length∧m=s.mounts.length - j∧(∀i y,i<j→s.mounts[i]?=some y→decide (y.2=a)=false)∧t=⟨look [(2, .bp 0 0),(3, .bp 1 0),(6, .v (.int .i64 (j:Int)))],⟨[BK s,AN a],[]⟩⟩) (s.mounts.length) ((wk 2 0)) (⟨0,by omega,rfl,fun i y hi=>by omega,rfl⟩) ?_;rintro m t ⟨j,hj,rfl,ha,rfl⟩;refine q_ (w_ (m_ (h:=f_ (h:=l_ (h:=n_ (h:=BB (h:=e_ (?_))))))));refine A8 rfl (fun hb1=>?_) (fun hb1=>?_)
 ·have hc1:=bp hb1;obtain⟨hlt,x,hy,hrow, -⟩:=C1 Fo hc1;refine AB (q_ (Ag (q_ (Cp 8 (h:=AO 0 (h:=AJ 1 (h:=AU 2 (h:=Cg 3 (h:=AO 4 (h:=AJ 5 (h:=AJ 6 (h:=?_))))))))))));refine Eg (i:=7) rfl (Ha rfl rfl (by repeat constructor) (by repeat constructor) (fun w=>Nc _ _ _ _ w) (by kernel_rfl) ⟨rfl,rfl⟩) ?_;refine z_ (h:=t_ (?_));refine A8 rfl (fun hb2=>?_) (fun hb2=>?_)
  ·have hc2:=bp hb2;refine w_ (f_ (h:=l_ (h:=m_ (h:=i_ (h:=f_ (h:=l_ (h:=a_ (h:=a_ (h:=e_ (A4 (AK (A6 (A6 (AK (A6 (?_))))))))))))))));refine A9 ?_;rw[show D2 s a=some x.1 by simp only[D2];rw[Ll hy (decide_eq_true hc2) ha];rfl];rfl
  have hc2:=bp hb2;refine Au (Ah (t_ (AR (m_ (h:=BD (h:=a_ (h:=AP (?_))))))));refine AE ?_;refine⟨_,_,?_,⟨j+1,by omega,rfl,F8 hy ha (decide_eq_false hc2),rfl⟩,(wk 2 0)⟩;omega
 have hc1:=bp hb1;have e3:=CA Fo hj hc1;subst e3;refine BT (Ao (Ao (BU (t_ (w_ (a_ (h:=a_ (h:=e_ (A4 (?_))))))))));refine A9 ?_;rw[show D2 s a=none by simp only[D2];rw[Lm ha];rfl];rfl
theorem SX(s:Spc)(a:AQ)(hs:SpcB s):AFn prog 125 [.agg (BK s), .agg (AN a)] (fun r=>r= .v (.bool (D2 s a).isSome)):=by
 refine enter Tryz.func125 rfl rfl rfl rfl rfl 0 rfl ?_;refine w_ (b_ (h:=b_ (h:=a_ (h:=e_ (w_ (l_ (h:=l_ (h:=?_))))))));refine A7 rfl (AG (SW s a hs) ?_);rintro r rfl;refine m_ (h:=x_ (h:=x_ (h:=a_ (h:=a_ (h:=e_ (w_ (m_ (h:=a_ (h:=e_ (A4 (?_)))))))))));refine A9 ?_;rfl
end
end Go.Proofs.YtbgnigjfkbmceaaGreatDoor
