/-
  Part 5 of the proof of FilterContextsP: what the statement's proof uses of the texts in wip/tpl.
-/
import Derived.Test.YtbgnigjfkbmceaaGreatDoorQb4
open Go.Proofs.Tryz (prog)
set_option maxRecDepth 10000
set_option maxHeartbeats 4000000
set_option linter.unusedVariables false
set_option linter.unusedSimpArgs false
namespace Go.Proofs.YtbgnigjfkbmceaaGreatDoor
open Go.RowKit
def DY(op a b:Int):Bool:=
 if op=1 then decide (a=b)else if op=2 then !decide (a=b)else if op=3 then decide (a<b)else if op=4 then decide (a≤b)else if op=5 then decide (b<a)
 else if op=6 then decide (b≤a)else if op=7 then !decide (Gf .i64 a b=0)else decide (Gf .i64 a b=b)
section
theorem Rh(op a b:Int)(h1:1≤op)(h2:op≤8):AFn prog 223 [.v (.int .i64 op), .v (.int .i64 a), .v (.int .i64 b)] (fun r=>r= .v (.bool (DY op a b))):=by
 refine enter Tryz.func223 rfl rfl rfl rfl rfl 0 rfl ?_;refine w_ (a_ (h:=e_ (q_ (w_ (m_ (h:=e_ (Ab (w_ (AK (h:=a_ (h:=e_ (?_))))))))))));refine A9 rfl (fun hb1=>?_) (fun hb1=>?_)
 ·have hc1:=bp hb1;refine w_ (m_ (h:=m_ (h:=AK (h:=a_ (h:=e_ (A4 (AN (A8 (?_)))))))));refine A7 ?_
  first|(exfalso;first|contradiction|omega)|(exact vb (by unfold DY;simp[*]))
 have hc1:=bp hb1;refine w_ (AK (h:=a_ (h:=e_ (?_))));refine A9 rfl (fun hb2=>?_) (fun hb2=>?_)
 ·have hc2:=bp hb2;refine w_ (m_ (h:=m_ (h:=Ao (h:=a_ (h:=e_ (A4 (AN (A8 (?_)))))))));refine A7 ?_
  first|(exfalso;first|contradiction|omega)|(exact vb (by unfold DY;simp[*]))
 have hc2:=bp hb2;refine w_ (AK (h:=a_ (h:=e_ (?_))));refine A9 rfl (fun hb3=>?_) (fun hb3=>?_)
 ·have hc3:=bp hb3;refine w_ (m_ (h:=m_ (h:=B4 (h:=a_ (h:=e_ (A4 (AN (A8 (?_)))))))));refine A7 ?_
  first|(exfalso;first|contradiction|omega)|(exact vb (by unfold DY;simp[*]))
 have hc3:=bp hb3;refine w_ (AK (h:=a_ (h:=e_ (?_))));refine A9 rfl (fun hb4=>?_) (fun hb4=>?_)
 ·have hc4:=bp hb4;refine w_ (m_ (h:=m_ (h:=Dn (h:=a_ (h:=e_ (A4 (AN (A8 (?_)))))))));refine A7 ?_
  first|(exfalso;first|contradiction|omega)|(exact vb (by unfold DY;simp[*]))
 have hc4:=bp hb4;refine w_ (AK (h:=a_ (h:=e_ (?_))));refine A9 rfl (fun hb5=>?_) (fun hb5=>?_)
 ·have hc5:=bp hb5;refine w_ (m_ (h:=m_ (h:=Ba (h:=a_ (h:=e_ (A4 (AN (A8 (?_)))))))));refine A7 ?_
  first|(exfalso;first|contradiction|omega)|(exact vb (by unfold DY;simp[*]))
 have hc5:=bp hb5;refine w_ (AK (h:=a_ (h:=e_ (?_))));refine A9 rfl (fun hb6=>?_) (fun hb6=>?_)
 ·have hc6:=bp hb6;refine w_ (m_ (h:=m_ (h:=Cm (h:=a_ (h:=e_ (A4 (AN (A8 (?_)))))))));refine A7 ?_
  first|(exfalso;first|contradiction|omega)|(exact vb (by unfold DY;simp[*]))
 have hc6:=bp hb6;refine w_ (AK (h:=a_ (h:=e_ (?_))));refine A9 rfl (fun hb7=>?_) (fun hb7=>?_)
 ·have hc7:=bp hb7;refine w_ (m_ (h:=m_ (h:=JN (h:=Ao (h:=a_ (h:=e_ (A4 (AN (A8 (?_))))))))));refine A7 ?_
  first|(exfalso;first|contradiction|omega)|(exact vb (by unfold DY;simp[*]))
 have hc7:=bp hb7;refine w_ (AK (h:=a_ (h:=e_ (?_))));refine A9 rfl (fun hb8=>?_) (fun hb8=>?_)
 ·have hc8:=bp hb8;refine w_ (m_ (h:=m_ (h:=JN (h:=m_ (h:=AK (h:=a_ (h:=e_ (A4 (AN (A8 (?_)))))))))));refine A7 ?_
  first|(exfalso;first|contradiction|omega)|(exact vb (by unfold DY;simp[*]))
 have hc8:=bp hb8;refine Aq (Ai (t_ (w_ (a_ (h:=e_ (A4 (?_)))))));refine A7 ?_
 first|(exfalso;first|contradiction|omega)|(exact vb (by unfold DY;simp[*]))
theorem Ri(op a b:Int)(h1:1≤op)(h2:op≤8):AFn prog 225 [.v (.int .i64 op), .v (.int .i64 a), .v (.int .i64 b)] (fun r=>r= .v (.bool (DY op a b))):=by
 refine enter Tryz.func225 rfl rfl rfl rfl rfl 0 rfl ?_;refine w_ (a_ (h:=e_ (q_ (w_ (m_ (h:=e_ (Ab (w_ (AK (h:=a_ (h:=e_ (?_))))))))))));refine A9 rfl (fun hb1=>?_) (fun hb1=>?_)
 ·have hc1:=bp hb1;refine w_ (m_ (h:=m_ (h:=AK (h:=a_ (h:=e_ (A4 (AN (A8 (?_)))))))));refine A7 ?_
  first|(exfalso;first|contradiction|omega)|(exact vb (by unfold DY;simp[*]))
 have hc1:=bp hb1;refine w_ (AK (h:=a_ (h:=e_ (?_))));refine A9 rfl (fun hb2=>?_) (fun hb2=>?_)
 ·have hc2:=bp hb2;refine w_ (m_ (h:=m_ (h:=Ao (h:=a_ (h:=e_ (A4 (AN (A8 (?_)))))))));refine A7 ?_
  first|(exfalso;first|contradiction|omega)|(exact vb (by unfold DY;simp[*]))
 have hc2:=bp hb2;refine w_ (AK (h:=a_ (h:=e_ (?_))));refine A9 rfl (fun hb3=>?_) (fun hb3=>?_)
 ·have hc3:=bp hb3;refine w_ (m_ (h:=m_ (h:=B4 (h:=a_ (h:=e_ (A4 (AN (A8 (?_)))))))));refine A7 ?_
  first|(exfalso;first|contradiction|omega)|(exact vb (by unfold DY;simp[*]))
 have hc3:=bp hb3;refine w_ (AK (h:=a_ (h:=e_ (?_))));refine A9 rfl (fun hb4=>?_) (fun hb4=>?_)
 ·have hc4:=bp hb4;refine w_ (m_ (h:=m_ (h:=Dn (h:=a_ (h:=e_ (A4 (AN (A8 (?_)))))))));refine A7 ?_
  first|(exfalso;first|contradiction|omega)|(exact vb (by unfold DY;simp[*]))
 have hc4:=bp hb4;refine w_ (AK (h:=a_ (h:=e_ (?_))));refine A9 rfl (fun hb5=>?_) (fun hb5=>?_)
 ·have hc5:=bp hb5;refine w_ (m_ (h:=m_ (h:=Ba (h:=a_ (h:=e_ (A4 (AN (A8 (?_)))))))));refine A7 ?_
  first|(exfalso;first|contradiction|omega)|(exact vb (by unfold DY;simp[*]))
 have hc5:=bp hb5;refine w_ (AK (h:=a_ (h:=e_ (?_))));refine A9 rfl (fun hb6=>?_) (fun hb6=>?_)
 ·have hc6:=bp hb6;refine w_ (m_ (h:=m_ (h:=Cm (h:=a_ (h:=e_ (A4 (AN (A8 (?_)))))))));refine A7 ?_
  first|(exfalso;first|contradiction|omega)|(exact vb (by unfold DY;simp[*]))
 have hc6:=bp hb6;refine w_ (AK (h:=a_ (h:=e_ (?_))));refine A9 rfl (fun hb7=>?_) (fun hb7=>?_)
 ·have hc7:=bp hb7;refine w_ (m_ (h:=m_ (h:=JN (h:=Ao (h:=a_ (h:=e_ (A4 (AN (A8 (?_))))))))));refine A7 ?_
  first|(exfalso;first|contradiction|omega)|(exact vb (by unfold DY;simp[*]))
 have hc7:=bp hb7;refine Aq (Ai (t_ (w_ (m_ (h:=m_ (h:=JN (h:=m_ (h:=AK (h:=a_ (h:=e_ (A4 (?_))))))))))));refine A7 ?_
 first|(exfalso;first|contradiction|omega)|(exact vb (by unfold DY;simp[*]))
theorem Rj(f:Int)(c:Ctx)(k:Cxs):AFn prog 163 [.v (.int .i64 f), .agg (Bf c k)] (fun r=>r= .v (.bool (D6 f c))):=by
 refine enter Tryz.func163 rfl rfl rfl rfl rfl 0 rfl ?_;refine w_ (b_ (h:=a_ (h:=e_ (q_ (w_ (m_ (h:=Cm (h:=m_ (h:=?_)))))))));refine AT true rfl rfl (fun hb1=>?_) (fun hb1=>?_)
 ·have hc1:=bp hb1;refine m_ (h:=Dn (h:=AA (h:=e_ (?_))));refine A9 rfl (fun hb2=>?_) (fun hb2=>?_)
  ·have hc2:=bp hb2;refine w_ (f_ (h:=l_ (h:=AK (h:=a_ (h:=e_ (A4 (A8 (?_))))))));refine A7 ?_
   first|(exfalso;first|contradiction|omega)|(exact vb (by unfold D6;(repeat' split)<;>(try rw[Bool.eq_iff_iff])<;>(try simp[*])<;>(try omega)))
  have hc2:=bp hb2;refine AD (w_ (m_ (h:=Ao (h:=m_ (h:=?_)))));refine AT false rfl rfl (fun hb3=>?_) (fun hb3=>?_)
  ·have hc3:=bp hb3;refine A3 (h:=A3 (h:=A3 (h:=AA (h:=a_ (h:=e_ (A4 (?_)))))));refine A7 ?_
   first|(exfalso;first|contradiction|omega)|(exact vb (by unfold D6;(repeat' split)<;>(try rw[Bool.eq_iff_iff])<;>(try simp[*])<;>(try omega)))
  have hc3:=bp hb3;refine f_ (h:=l_ (h:=Ao (h:=AE (h:=a_ (h:=e_ (A4 (?_)))))));refine A7 ?_
  first|(exfalso;first|contradiction|omega)|(exact vb (by unfold D6;(repeat' split)<;>(try rw[Bool.eq_iff_iff])<;>(try simp[*])<;>(try omega)))
 have hc1:=bp hb1;refine A3 (h:=A3 (h:=AE (h:=e_ (Bj (h:=AD (w_ (m_ (h:=Ao (h:=m_ (h:=?_))))))))));refine AT false rfl rfl (fun hb4=>?_) (fun hb4=>?_)
 ·have hc4:=bp hb4;refine A3 (h:=A3 (h:=A3 (h:=AA (h:=a_ (h:=e_ (A4 (?_)))))));refine A7 ?_
  first|(exfalso;first|contradiction|omega)|(exact vb (by unfold D6;(repeat' split)<;>(try rw[Bool.eq_iff_iff])<;>(try simp[*])<;>(try omega)))
 have hc4:=bp hb4;refine f_ (h:=l_ (h:=Ao (h:=AE (h:=a_ (h:=e_ (A4 (?_)))))));refine A7 ?_
 first|(exfalso;first|contradiction|omega)|(exact vb (by unfold D6;(repeat' split)<;>(try rw[Bool.eq_iff_iff])<;>(try simp[*])<;>(try omega)))
theorem Oh(f:Int)(c:Ctx)(k:Cxs)(y:Itm):AFn prog 224 [.v (.int .i64 f), .agg (Bf c k), .agg (CN y)] (fun r=>r= .v (.int .i64 (Bi f c y))):=by
 refine enter Tryz.func224 rfl rfl rfl rfl rfl 0 rfl ?_;refine w_ (b_ (h:=b_ (h:=a_ (h:=e_ (w_ (f_ (h:=l_ (h:=Aa (h:=s_ (h:=e_ (q_ (w_ (m_ (h:=e_ (Ab (w_ (AK (h:=a_ (h:=e_ (?_))))))))))))))))))));refine A9 rfl (fun hb1=>?_) (fun hb1=>?_)
 ·have hc1:=bp hb1;refine w_ (f_ (h:=l_ (h:=a_ (h:=e_ (A4 (AN (A8 (?_))))))));refine A7 ?_
  first|(exfalso;first|contradiction|omega)|(exact vi (by unfold Bi;simp[*]))
 have hc1:=bp hb1;refine w_ (AK (h:=a_ (h:=e_ (?_))));refine A9 rfl (fun hb2=>?_) (fun hb2=>?_)
 ·have hc2:=bp hb2;refine w_ (f_ (h:=l_ (h:=a_ (h:=e_ (A4 (AN (A8 (?_))))))));refine A7 ?_
  first|(exfalso;first|contradiction|omega)|(exact vi (by unfold Bi;simp[*]))
 have hc2:=bp hb2;refine w_ (AK (h:=a_ (h:=e_ (?_))));refine A9 rfl (fun hb3=>?_) (fun hb3=>?_)
 ·have hc3:=bp hb3;refine w_ (f_ (h:=l_ (h:=a_ (h:=e_ (A4 (AN (A8 (?_))))))));refine A7 ?_
  first|(exfalso;first|contradiction|omega)|(exact vi (by unfold Bi;simp[*]))
 have hc3:=bp hb3;refine w_ (AK (h:=a_ (h:=e_ (?_))));refine A9 rfl (fun hb4=>?_) (fun hb4=>?_)
 ·have hc4:=bp hb4;refine w_ (f_ (h:=l_ (h:=a_ (h:=e_ (A4 (AN (A8 (?_))))))));refine A7 ?_
  first|(exfalso;first|contradiction|omega)|(exact vi (by unfold Bi;simp[*]))
 have hc4:=bp hb4;refine w_ (AK (h:=a_ (h:=e_ (?_))));refine A9 rfl (fun hb5=>?_) (fun hb5=>?_)
 ·have hc5:=bp hb5;refine w_ (f_ (h:=l_ (h:=a_ (h:=e_ (A4 (AN (A8 (?_))))))));refine A7 ?_
  first|(exfalso;first|contradiction|omega)|(exact vi (by unfold Bi;simp[*]))
 have hc5:=bp hb5;refine w_ (AK (h:=a_ (h:=e_ (?_))));refine A9 rfl (fun hb6=>?_) (fun hb6=>?_)
 ·have hc6:=bp hb6;refine w_ (f_ (h:=l_ (h:=a_ (h:=e_ (A4 (AN (A8 (?_))))))));refine A7 ?_
  first|(exfalso;first|contradiction|omega)|(exact vi (by unfold Bi;simp[*]))
 have hc6:=bp hb6;refine w_ (AK (h:=a_ (h:=e_ (?_))));refine A9 rfl (fun hb7=>?_) (fun hb7=>?_)
 ·have hc7:=bp hb7;refine w_ (f_ (h:=l_ (h:=a_ (h:=e_ (A4 (AN (A8 (?_))))))));refine A7 ?_
  first|(exfalso;first|contradiction|omega)|(exact vi (by unfold Bi;simp[*]))
 have hc7:=bp hb7;refine w_ (AK (h:=a_ (h:=e_ (?_))));refine A9 rfl (fun hb8=>?_) (fun hb8=>?_)
 ·have hc8:=bp hb8;refine w_ (f_ (h:=l_ (h:=a_ (h:=e_ (A4 (AN (A8 (?_))))))));refine A7 ?_
  first|(exfalso;first|contradiction|omega)|(exact vi (by unfold Bi;simp[*]))
 have hc8:=bp hb8;refine q_ (w_ (AK (h:=a_ (h:=e_ (?_)))));refine A9 rfl (fun hb9=>?_) (fun hb9=>?_)
 ·have hc9:=bp hb9;refine AD (B6 (h:=w_ (m_ (h:=EN (h:=f_ (h:=f_ (h:=?_)))))))
  first|refine A6 rfl (CK (n:=0) (len:=4) (sz:=1) (by kernel_rfl) rfl rfl (by omega) rfl ?_)|refine A6 rfl (CK (n:=1) (len:=4) (sz:=1) (by kernel_rfl) rfl rfl (by omega) rfl ?_)|refine A6 rfl (CK (n:=2) (len:=4) (sz:=1) (by kernel_rfl) rfl rfl (by omega) rfl ?_)|refine A6 rfl (CK (n:=3) (len:=4) (sz:=1) (by kernel_rfl) rfl rfl (by omega) rfl ?_)
  refine l_ (h:=a_ (h:=e_ (A4 (AN (A8 (?_))))));refine A7 ?_
  first|(exfalso;first|contradiction|omega)|(exact vi (by unfold Bi;simp[*]))
 have hc9:=bp hb9;refine w_ (AK (h:=a_ (h:=e_ (?_))));refine A9 rfl (fun hb10=>?_) (fun hb10=>?_)
 ·have hc10:=bp hb10;refine AD (B6 (h:=w_ (m_ (h:=EN (h:=f_ (h:=f_ (h:=?_)))))))
  first|refine A6 rfl (CK (n:=0) (len:=4) (sz:=1) (by kernel_rfl) rfl rfl (by omega) rfl ?_)|refine A6 rfl (CK (n:=1) (len:=4) (sz:=1) (by kernel_rfl) rfl rfl (by omega) rfl ?_)|refine A6 rfl (CK (n:=2) (len:=4) (sz:=1) (by kernel_rfl) rfl rfl (by omega) rfl ?_)|refine A6 rfl (CK (n:=3) (len:=4) (sz:=1) (by kernel_rfl) rfl rfl (by omega) rfl ?_)
  refine l_ (h:=a_ (h:=e_ (A4 (AN (A8 (?_))))));refine A7 ?_
  first|(exfalso;first|contradiction|omega)|(exact vi (by unfold Bi;simp[*]))
 have hc10:=bp hb10;refine w_ (AK (h:=a_ (h:=e_ (?_))));refine A9 rfl (fun hb11=>?_) (fun hb11=>?_)
 ·have hc11:=bp hb11;refine AD (B6 (h:=w_ (m_ (h:=EN (h:=f_ (h:=f_ (h:=?_)))))))
  first|refine A6 rfl (CK (n:=0) (len:=4) (sz:=1) (by kernel_rfl) rfl rfl (by omega) rfl ?_)|refine A6 rfl (CK (n:=1) (len:=4) (sz:=1) (by kernel_rfl) rfl rfl (by omega) rfl ?_)|refine A6 rfl (CK (n:=2) (len:=4) (sz:=1) (by kernel_rfl) rfl rfl (by omega) rfl ?_)|refine A6 rfl (CK (n:=3) (len:=4) (sz:=1) (by kernel_rfl) rfl rfl (by omega) rfl ?_)
  refine l_ (h:=a_ (h:=e_ (A4 (AN (A8 (?_))))));refine A7 ?_
  first|(exfalso;first|contradiction|omega)|(exact vi (by unfold Bi;simp[*]))
 have hc11:=bp hb11;refine AR (AK (h:=a_ (h:=e_ (?_))));refine A9 rfl (fun hb12=>?_) (fun hb12=>?_)
 ·have hc12:=bp hb12;refine w_ (m_ (h:=EN (h:=f_ (h:=f_ (h:=?_)))))
  first|refine A6 rfl (CK (n:=0) (len:=4) (sz:=1) (by kernel_rfl) rfl rfl (by omega) rfl ?_)|refine A6 rfl (CK (n:=1) (len:=4) (sz:=1) (by kernel_rfl) rfl rfl (by omega) rfl ?_)|refine A6 rfl (CK (n:=2) (len:=4) (sz:=1) (by kernel_rfl) rfl rfl (by omega) rfl ?_)|refine A6 rfl (CK (n:=3) (len:=4) (sz:=1) (by kernel_rfl) rfl rfl (by omega) rfl ?_)
  refine l_ (h:=a_ (h:=e_ (A4 (AN (A8 (?_))))));refine A7 ?_
  first|(exfalso;first|contradiction|omega)|(exact vi (by unfold Bi;simp[*]))
 have hc12:=bp hb12;refine w_ (AK (h:=a_ (h:=e_ (?_))));refine A9 rfl (fun hb13=>?_) (fun hb13=>?_)
 ·have hc13:=bp hb13;refine w_ (f_ (h:=l_ (h:=a_ (h:=e_ (A4 (AN (A8 (?_))))))));refine A7 ?_
  first|(exfalso;first|contradiction|omega)|(exact vi (by unfold Bi;simp[*]))
 have hc13:=bp hb13;refine w_ (AK (h:=a_ (h:=e_ (?_))));refine A9 rfl (fun hb14=>?_) (fun hb14=>?_)
 ·have hc14:=bp hb14;refine q_ (w_ (f_ (h:=l_ (h:=Cm (h:=e_ (?_))))));refine A9 rfl (fun hb15=>?_) (fun hb15=>?_)
  ·have hc15:=bp hb15;refine w_ (a_ (h:=e_ (A4 (A8 (AN (A8 (?_)))))));refine A7 ?_
   first|(exfalso;first|contradiction|omega)|(exact vi (by unfold Bi;simp[*]))
  have hc15:=bp hb15;refine AD (w_ (a_ (h:=e_ (A4 (AN (A8 (?_)))))));refine A7 ?_
  first|(exfalso;first|contradiction|omega)|(exact vi (by unfold Bi;simp[*]))
 have hc14:=bp hb14;refine w_ (AK (h:=a_ (h:=e_ (?_))));refine A9 rfl (fun hb16=>?_) (fun hb16=>?_)
 ·have hc16:=bp hb16;refine w_ (f_ (h:=f_ (h:=l_ (h:=a_ (h:=e_ (A4 (AN (A8 (?_)))))))));refine A7 ?_
  first|(exfalso;first|contradiction|omega)|(exact vi (by unfold Bi;simp[*]))
 have hc16:=bp hb16;refine w_ (AK (h:=a_ (h:=e_ (?_))));refine A9 rfl (fun hb17=>?_) (fun hb17=>?_)
 ·have hc17:=bp hb17;refine w_ (f_ (h:=f_ (h:=l_ (h:=a_ (h:=e_ (A4 (AN (A8 (?_)))))))));refine A7 ?_
  first|(exfalso;first|contradiction|omega)|(exact vi (by unfold Bi;simp[*]))
 have hc17:=bp hb17;refine w_ (AK (h:=a_ (h:=e_ (?_))));refine A9 rfl (fun hb18=>?_) (fun hb18=>?_)
 ·have hc18:=bp hb18;refine w_ (f_ (h:=l_ (h:=a_ (h:=e_ (A4 (AN (A8 (?_))))))));refine A7 ?_
  first|(exfalso;first|contradiction|omega)|(exact vi (by unfold Bi;simp[*]))
 have hc18:=bp hb18;refine w_ (AK (h:=a_ (h:=e_ (?_))));refine A9 rfl (fun hb19=>?_) (fun hb19=>?_)
 ·have hc19:=bp hb19;refine w_ (f_ (h:=l_ (h:=a_ (h:=e_ (A4 (AN (A8 (?_))))))));refine A7 ?_
  first|(exfalso;first|contradiction|omega)|(exact vi (by unfold Bi;simp[*]))
 have hc19:=bp hb19;refine w_ (AK (h:=a_ (h:=e_ (?_))));refine A9 rfl (fun hb20=>?_) (fun hb20=>?_)
 ·have hc20:=bp hb20;refine w_ (f_ (h:=l_ (h:=a_ (h:=e_ (A4 (AN (A8 (?_))))))));refine A7 ?_
  first|(exfalso;first|contradiction|omega)|(exact vi (by unfold Bi;simp[*]))
 have hc20:=bp hb20;refine Aq (Ai (t_ (w_ (f_ (h:=l_ (h:=a_ (h:=e_ (A4 (?_)))))))));refine A7 ?_
 first|(exfalso;first|contradiction|omega)|(exact vi (by unfold Bi;simp[*]))
theorem WJ(f:Int)(c:Ctx)(k:Cxs)(y:Itm)(h1:15≤f)(h2:f≤21):AFn prog 254 [.v (.int .i64 f), .agg (Bf c k), .agg (CN y)] (fun r=>r= .tup [.v (.int .i64 (Bi f c y)), .v (.bool true)]):=by
 refine enter Tryz.func254 rfl rfl rfl rfl rfl 0 rfl ?_;refine w_ (b_ (h:=b_ (h:=a_ (h:=a_ (h:=e_ (q_ (w_ (m_ (h:=e_ (Ab (w_ (AK (h:=a_ (h:=e_ (?_)))))))))))))));refine A9 rfl (fun hb1=>?_) (fun hb1=>?_)
 ·have hc1:=bp hb1;refine w_ (f_ (h:=l_ (h:=a_ (h:=a_ (h:=e_ (A4 (AN (A8 (?_)))))))));refine A7 ?_
  first|(exfalso;first|contradiction|omega)|(exact congrArg (fun z=>AV.tup [.v (.int .i64 z), .v (.bool true)]) (by unfold Bi;simp[*]))
 have hc1:=bp hb1;refine w_ (AK (h:=a_ (h:=e_ (?_))));refine A9 rfl (fun hb2=>?_) (fun hb2=>?_)
 ·have hc2:=bp hb2;refine q_ (w_ (f_ (h:=l_ (h:=Cm (h:=e_ (?_))))));refine A9 rfl (fun hb3=>?_) (fun hb3=>?_)
  ·have hc3:=bp hb3;refine w_ (a_ (h:=a_ (h:=e_ (A4 (A8 (AN (A8 (?_))))))));refine A7 ?_
   first|(exfalso;first|contradiction|omega)|(exact congrArg (fun z=>AV.tup [.v (.int .i64 z), .v (.bool true)]) (by unfold Bi;simp[*]))
  have hc3:=bp hb3;refine AD (w_ (a_ (h:=a_ (h:=e_ (A4 (AN (A8 (?_))))))));refine A7 ?_
  first|(exfalso;first|contradiction|omega)|(exact congrArg (fun z=>AV.tup [.v (.int .i64 z), .v (.bool true)]) (by unfold Bi;simp[*]))
 have hc2:=bp hb2;refine w_ (AK (h:=a_ (h:=e_ (?_))));refine A9 rfl (fun hb4=>?_) (fun hb4=>?_)
 ·have hc4:=bp hb4;refine w_ (f_ (h:=f_ (h:=l_ (h:=a_ (h:=a_ (h:=e_ (A4 (AN (A8 (?_))))))))));refine A7 ?_
  first|(exfalso;first|contradiction|omega)|(exact congrArg (fun z=>AV.tup [.v (.int .i64 z), .v (.bool true)]) (by unfold Bi;simp[*]))
 have hc4:=bp hb4;refine w_ (AK (h:=a_ (h:=e_ (?_))));refine A9 rfl (fun hb5=>?_) (fun hb5=>?_)
 ·have hc5:=bp hb5;refine w_ (f_ (h:=f_ (h:=l_ (h:=a_ (h:=a_ (h:=e_ (A4 (AN (A8 (?_))))))))));refine A7 ?_
  first|(exfalso;first|contradiction|omega)|(exact congrArg (fun z=>AV.tup [.v (.int .i64 z), .v (.bool true)]) (by unfold Bi;simp[*]))
 have hc5:=bp hb5;refine w_ (AK (h:=a_ (h:=e_ (?_))));refine A9 rfl (fun hb6=>?_) (fun hb6=>?_)
 ·have hc6:=bp hb6;refine w_ (f_ (h:=l_ (h:=a_ (h:=a_ (h:=e_ (A4 (AN (A8 (?_)))))))));refine A7 ?_
  first|(exfalso;first|contradiction|omega)|(exact congrArg (fun z=>AV.tup [.v (.int .i64 z), .v (.bool true)]) (by unfold Bi;simp[*]))
 have hc6:=bp hb6;refine w_ (AK (h:=a_ (h:=e_ (?_))));refine A9 rfl (fun hb7=>?_) (fun hb7=>?_)
 ·have hc7:=bp hb7;refine w_ (f_ (h:=l_ (h:=a_ (h:=a_ (h:=e_ (A4 (AN (A8 (?_)))))))));refine A7 ?_
  first|(exfalso;first|contradiction|omega)|(exact congrArg (fun z=>AV.tup [.v (.int .i64 z), .v (.bool true)]) (by unfold Bi;simp[*]))
 have hc7:=bp hb7;refine w_ (AK (h:=a_ (h:=e_ (?_))));refine A9 rfl (fun hb8=>?_) (fun hb8=>?_)
 ·have hc8:=bp hb8;refine w_ (f_ (h:=l_ (h:=a_ (h:=a_ (h:=e_ (A4 (AN (A8 (?_)))))))));refine A7 ?_
  first|(exfalso;first|contradiction|omega)|(exact congrArg (fun z=>AV.tup [.v (.int .i64 z), .v (.bool true)]) (by unfold Bi;simp[*]))
 have hc8:=bp hb8;refine Aq (Ai (t_ (w_ (a_ (h:=a_ (h:=e_ (A4 (?_))))))));refine A7 ?_
 first|(exfalso;first|contradiction|omega)|(exact congrArg (fun z=>AV.tup [.v (.int .i64 z), .v (.bool true)]) (by unfold Bi;simp[*]))
def NumP(f:Int)(c:Ctx)(y:Itm)(r:AV):Prop:=∃n,r= .tup [.v (.int .i64 n), .v (.bool (Bk f c))]∧(Bk f c=true→n=Bi f c y)
theorem NumP.mk{f n:Int}{c:Ctx}{y:Itm}{b:Bool}(hb:b=Bk f c)(hn:Bk f c=true→n=Bi f c y):NumP f c y (.tup [.v (.int .i64 n), .v (.bool b)]):=⟨n,by rw[hb],hn⟩
theorem Rk(f:Int)(c:Ctx)(k:Cxs)(y:Itm)(h1:1≤f)(h2:f≤22)(ht:D5 f=false):AFn prog 222 [.v (.int .i64 f), .agg (Bf c k), .agg (CN y)] (NumP f c y):=by
 simp only[D5,decide_eq_false_iff_not]at ht;refine enter Tryz.func222 rfl rfl rfl rfl rfl 0 rfl ?_;refine w_ (b_ (h:=b_ (h:=a_ (h:=a_ (h:=e_ (q_ (w_ (m_ (h:=e_ (Ab (w_ (AK (h:=a_ (h:=e_ (?_)))))))))))))));refine A9 rfl (fun hb1=>?_) (fun hb1=>?_)
 ·have hc1:=bp hb1;refine w_ (f_ (h:=f_ (h:=l_ (h:=a_ (h:=a_ (h:=e_ (A4 (AN (A8 (?_))))))))));refine A7 ?_
  first|(exfalso;first|contradiction|omega)|(exact NumP.mk (by unfold Bk;(repeat' split)<;>(first|omega|(simp[*];done)|(simp;omega)|(simp at *;omega))) (fun hq=>by first|(unfold Bi;simp[*];done)|(unfold Bk at hq;simp[*]at hq;omega)|(unfold Bk at hq;simp[*]at hq)))
 have hc1:=bp hb1;refine w_ (AK (h:=a_ (h:=e_ (?_))));refine A9 rfl (fun hb2=>?_) (fun hb2=>?_)
 ·have hc2:=bp hb2;refine w_ (f_ (h:=f_ (h:=l_ (h:=a_ (h:=a_ (h:=e_ (A4 (AN (A8 (?_))))))))));refine A7 ?_
  first|(exfalso;first|contradiction|omega)|(exact NumP.mk (by unfold Bk;(repeat' split)<;>(first|omega|(simp[*];done)|(simp;omega)|(simp at *;omega))) (fun hq=>by first|(unfold Bi;simp[*];done)|(unfold Bk at hq;simp[*]at hq;omega)|(unfold Bk at hq;simp[*]at hq)))
 have hc2:=bp hb2;refine w_ (AK (h:=a_ (h:=e_ (?_))));refine A9 rfl (fun hb3=>?_) (fun hb3=>?_)
 ·have hc3:=bp hb3;refine w_ (f_ (h:=f_ (h:=l_ (h:=a_ (h:=a_ (h:=e_ (A4 (AN (A8 (?_))))))))));refine A7 ?_
  first|(exfalso;first|contradiction|omega)|(exact NumP.mk (by unfold Bk;(repeat' split)<;>(first|omega|(simp[*];done)|(simp;omega)|(simp at *;omega))) (fun hq=>by first|(unfold Bi;simp[*];done)|(unfold Bk at hq;simp[*]at hq;omega)|(unfold Bk at hq;simp[*]at hq)))
 have hc3:=bp hb3;refine w_ (AK (h:=a_ (h:=e_ (?_))));refine A9 rfl (fun hb4=>?_) (fun hb4=>?_)
 ·have hc4:=bp hb4;refine w_ (f_ (h:=f_ (h:=l_ (h:=a_ (h:=a_ (h:=e_ (A4 (AN (A8 (?_))))))))));refine A7 ?_
  first|(exfalso;first|contradiction|omega)|(exact NumP.mk (by unfold Bk;(repeat' split)<;>(first|omega|(simp[*];done)|(simp;omega)|(simp at *;omega))) (fun hq=>by first|(unfold Bi;simp[*];done)|(unfold Bk at hq;simp[*]at hq;omega)|(unfold Bk at hq;simp[*]at hq)))
 have hc4:=bp hb4;refine w_ (AK (h:=a_ (h:=e_ (?_))));refine A9 rfl (fun hb5=>?_) (fun hb5=>?_)
 ·have hc5:=bp hb5;refine w_ (f_ (h:=f_ (h:=l_ (h:=a_ (h:=a_ (h:=e_ (A4 (AN (A8 (?_))))))))));refine A7 ?_
  first|(exfalso;first|contradiction|omega)|(exact NumP.mk (by unfold Bk;(repeat' split)<;>(first|omega|(simp[*];done)|(simp;omega)|(simp at *;omega))) (fun hq=>by first|(unfold Bi;simp[*];done)|(unfold Bk at hq;simp[*]at hq;omega)|(unfold Bk at hq;simp[*]at hq)))
 have hc5:=bp hb5;refine w_ (AK (h:=a_ (h:=e_ (?_))));refine A9 rfl (fun hb6=>?_) (fun hb6=>?_)
 ·have hc6:=bp hb6;refine w_ (f_ (h:=f_ (h:=l_ (h:=a_ (h:=a_ (h:=e_ (A4 (AN (A8 (?_))))))))));refine A7 ?_
  first|(exfalso;first|contradiction|omega)|(exact NumP.mk (by unfold Bk;(repeat' split)<;>(first|omega|(simp[*];done)|(simp;omega)|(simp at *;omega))) (fun hq=>by first|(unfold Bi;simp[*];done)|(unfold Bk at hq;simp[*]at hq;omega)|(unfold Bk at hq;simp[*]at hq)))
 have hc6:=bp hb6;refine w_ (AK (h:=a_ (h:=e_ (?_))));refine A9 rfl (fun hb7=>?_) (fun hb7=>?_)
 ·have hc7:=bp hb7;refine w_ (f_ (h:=f_ (h:=l_ (h:=a_ (h:=a_ (h:=e_ (A4 (AN (A8 (?_))))))))));refine A7 ?_
  first|(exfalso;first|contradiction|omega)|(exact NumP.mk (by unfold Bk;(repeat' split)<;>(first|omega|(simp[*];done)|(simp;omega)|(simp at *;omega))) (fun hq=>by first|(unfold Bi;simp[*];done)|(unfold Bk at hq;simp[*]at hq;omega)|(unfold Bk at hq;simp[*]at hq)))
 have hc7:=bp hb7;refine w_ (AK (h:=a_ (h:=e_ (?_))));refine A9 rfl (fun hb8=>?_) (fun hb8=>?_)
 ·have hc8:=bp hb8;refine w_ (f_ (h:=f_ (h:=l_ (h:=a_ (h:=a_ (h:=e_ (A4 (AN (A8 (?_))))))))));refine A7 ?_
  first|(exfalso;first|contradiction|omega)|(exact NumP.mk (by unfold Bk;(repeat' split)<;>(first|omega|(simp[*];done)|(simp;omega)|(simp at *;omega))) (fun hq=>by first|(unfold Bi;simp[*];done)|(unfold Bk at hq;simp[*]at hq;omega)|(unfold Bk at hq;simp[*]at hq)))
 have hc8:=bp hb8;refine q_ (w_ (AK (h:=a_ (h:=e_ (?_)))));refine A9 rfl (fun hb9=>?_) (fun hb9=>?_)
 ·have hc9:=bp hb9;refine AD (B6 (h:=w_ (m_ (h:=EN (h:=f_ (h:=f_ (h:=?_)))))))
  first|refine A6 rfl (CK (n:=0) (len:=4) (sz:=1) (by kernel_rfl) rfl rfl (by omega) rfl ?_)|refine A6 rfl (CK (n:=1) (len:=4) (sz:=1) (by kernel_rfl) rfl rfl (by omega) rfl ?_)|refine A6 rfl (CK (n:=2) (len:=4) (sz:=1) (by kernel_rfl) rfl rfl (by omega) rfl ?_)|refine A6 rfl (CK (n:=3) (len:=4) (sz:=1) (by kernel_rfl) rfl rfl (by omega) rfl ?_)
  refine l_ (h:=a_ (h:=a_ (h:=e_ (A4 (AN (A8 (?_)))))));refine A7 ?_
  first|(exfalso;first|contradiction|omega)|(exact NumP.mk (by unfold Bk;(repeat' split)<;>(first|omega|(simp[*];done)|(simp;omega)|(simp at *;omega))) (fun hq=>by first|(unfold Bi;simp[*];done)|(unfold Bk at hq;simp[*]at hq;omega)|(unfold Bk at hq;simp[*]at hq)))
 have hc9:=bp hb9;refine w_ (AK (h:=a_ (h:=e_ (?_))));refine A9 rfl (fun hb10=>?_) (fun hb10=>?_)
 ·have hc10:=bp hb10;refine AD (B6 (h:=w_ (m_ (h:=EN (h:=f_ (h:=f_ (h:=?_)))))))
  first|refine A6 rfl (CK (n:=0) (len:=4) (sz:=1) (by kernel_rfl) rfl rfl (by omega) rfl ?_)|refine A6 rfl (CK (n:=1) (len:=4) (sz:=1) (by kernel_rfl) rfl rfl (by omega) rfl ?_)|refine A6 rfl (CK (n:=2) (len:=4) (sz:=1) (by kernel_rfl) rfl rfl (by omega) rfl ?_)|refine A6 rfl (CK (n:=3) (len:=4) (sz:=1) (by kernel_rfl) rfl rfl (by omega) rfl ?_)
  refine l_ (h:=a_ (h:=a_ (h:=e_ (A4 (AN (A8 (?_)))))));refine A7 ?_
  first|(exfalso;first|contradiction|omega)|(exact NumP.mk (by unfold Bk;(repeat' split)<;>(first|omega|(simp[*];done)|(simp;omega)|(simp at *;omega))) (fun hq=>by first|(unfold Bi;simp[*];done)|(unfold Bk at hq;simp[*]at hq;omega)|(unfold Bk at hq;simp[*]at hq)))
 have hc10:=bp hb10;refine w_ (AK (h:=a_ (h:=e_ (?_))));refine A9 rfl (fun hb11=>?_) (fun hb11=>?_)
 ·have hc11:=bp hb11;refine AD (B6 (h:=w_ (m_ (h:=EN (h:=f_ (h:=f_ (h:=?_)))))))
  first|refine A6 rfl (CK (n:=0) (len:=4) (sz:=1) (by kernel_rfl) rfl rfl (by omega) rfl ?_)|refine A6 rfl (CK (n:=1) (len:=4) (sz:=1) (by kernel_rfl) rfl rfl (by omega) rfl ?_)|refine A6 rfl (CK (n:=2) (len:=4) (sz:=1) (by kernel_rfl) rfl rfl (by omega) rfl ?_)|refine A6 rfl (CK (n:=3) (len:=4) (sz:=1) (by kernel_rfl) rfl rfl (by omega) rfl ?_)
  refine l_ (h:=a_ (h:=a_ (h:=e_ (A4 (AN (A8 (?_)))))));refine A7 ?_
  first|(exfalso;first|contradiction|omega)|(exact NumP.mk (by unfold Bk;(repeat' split)<;>(first|omega|(simp[*];done)|(simp;omega)|(simp at *;omega))) (fun hq=>by first|(unfold Bi;simp[*];done)|(unfold Bk at hq;simp[*]at hq;omega)|(unfold Bk at hq;simp[*]at hq)))
 have hc11:=bp hb11;refine AR (AK (h:=a_ (h:=e_ (?_))));refine A9 rfl (fun hb12=>?_) (fun hb12=>?_)
 ·have hc12:=bp hb12;refine w_ (m_ (h:=EN (h:=f_ (h:=f_ (h:=?_)))))
  first|refine A6 rfl (CK (n:=0) (len:=4) (sz:=1) (by kernel_rfl) rfl rfl (by omega) rfl ?_)|refine A6 rfl (CK (n:=1) (len:=4) (sz:=1) (by kernel_rfl) rfl rfl (by omega) rfl ?_)|refine A6 rfl (CK (n:=2) (len:=4) (sz:=1) (by kernel_rfl) rfl rfl (by omega) rfl ?_)|refine A6 rfl (CK (n:=3) (len:=4) (sz:=1) (by kernel_rfl) rfl rfl (by omega) rfl ?_)
  refine l_ (h:=a_ (h:=a_ (h:=e_ (A4 (AN (A8 (?_)))))));refine A7 ?_
  first|(exfalso;first|contradiction|omega)|(exact NumP.mk (by unfold Bk;(repeat' split)<;>(first|omega|(simp[*];done)|(simp;omega)|(simp at *;omega))) (fun hq=>by first|(unfold Bi;simp[*];done)|(unfold Bk at hq;simp[*]at hq;omega)|(unfold Bk at hq;simp[*]at hq)))
 have hc12:=bp hb12;refine w_ (AK (h:=a_ (h:=e_ (?_))));refine A9 rfl (fun hb13=>?_) (fun hb13=>?_)
 ·have hc13:=bp hb13;refine q_ (Cj 7 (h:=Aw 0 (h:=AO 1 (h:=Aw 2 (h:=AO 3 (h:=Ks 4 (h:=BL 5 (h:=BL 6 (h:=z_ (h:=t_ (A4 (AN (A8 (?_))))))))))))));refine A7 ?_
  first|(exfalso;first|contradiction|omega)|(exact NumP.mk (by unfold Bk;(repeat' split)<;>(first|omega|(simp[*];done)|(simp;omega)|(simp at *;omega))) (fun hq=>by first|(unfold Bi;simp[*];done)|(unfold Bk at hq;simp[*]at hq;omega)|(unfold Bk at hq;simp[*]at hq)))
 have hc13:=bp hb13;refine Aq (Ai (t_ (q_ (w_ (f_ (h:=l_ (h:=Ao (h:=e_ (?_)))))))));refine A9 rfl (fun hb14=>?_) (fun hb14=>?_)
 ·have hc14:=bp hb14;refine w_ (a_ (h:=a_ (h:=e_ (A4 (A8 (?_))))));refine A7 ?_
  first|(exfalso;first|contradiction|omega)|(exact NumP.mk (by unfold Bk;(repeat' split)<;>(first|omega|(simp[*];done)|(simp;omega)|(simp at *;omega))) (fun hq=>by first|(unfold Bi;simp[*];done)|(unfold Bk at hq;simp[*]at hq;omega)|(unfold Bk at hq;simp[*]at hq)))
 have hc14:=bp hb14;refine AD (w_ (m_ (h:=l_ (h:=l_ (h:=?_)))));refine A6 rfl (AB (WJ f c k y (by omega) (by omega)) ?_);rintro r rfl;refine x_ (h:=x_ (h:=a_ (h:=a_ (h:=e_ (A4 (?_))))));refine A7 ?_
 first|(exfalso;first|contradiction|omega)|(exact NumP.mk (by unfold Bk;(repeat' split)<;>(first|omega|(simp[*];done)|(simp;omega)|(simp at *;omega))) (fun hq=>by first|(unfold Bi;simp[*];done)|(unfold Bk at hq;simp[*]at hq;omega)|(unfold Bk at hq;simp[*]at hq)))
end
theorem Rl(s:AM):s=⟨#[]⟩↔s.size=0:=by
 constructor
 ·intro h;rw[h];rfl
 intro h
 cases s with
 |mk a=>
   have:a=#[]:=Array.eq_empty_of_size_eq_zero h;rw[this]
section
theorem Rm(t:Tst)(list:Int):AFn prog 159 [.agg (Bu t), .v (.int .i64 list)] (fun r=>r= .v (.int .i64 (BU t list))):=by
 have hz:=Rl t.text;refine enter Tryz.func159 rfl rfl rfl rfl rfl 0 rfl ?_;refine w_ (b_ (h:=a_ (h:=e_ (q_ (w_ (m_ (h:=f_ (h:=l_ (h:=?_)))))))));refine A6 rfl (AB (Rf _ _) ?_);rintro r rfl;refine B7 (h:=e_ (?_));refine A9 rfl (fun hb1=>?_) (fun hb1=>?_)
 ·have hc1:=bp hb1;refine w_ (a_ (h:=e_ (A4 (A8 (?_)))));refine A7 ?_
  first|(exfalso;first|contradiction|omega)|(exact vi (by unfold BU;grind))
 have hc1:=bp hb1;refine AD (q_ (w_ (f_ (h:=l_ (h:=Ao (h:=m_ (h:=?_)))))));refine AT true rfl rfl (fun hb2=>?_) (fun hb2=>?_)
 ·have hc2:=bp hb2;refine m_ (h:=f_ (h:=l_ (h:=?_)));refine B2 (AB (Rf _ _) ?_);rintro r rfl;refine B7 (h:=m_ (h:=?_));refine AT false rfl rfl (fun hb3=>?_) (fun hb3=>?_)
  ·have hc3:=bp hb3;refine A3 (h:=A3 (h:=A3 (h:=A3 (h:=AA (h:=m_ (h:=A3 (h:=A3 (h:=A3 (h:=A3 (h:=AA (h:=AA (h:=e_ (B6 (h:=w_ (a_ (h:=e_ (A4 (A8 (?_)))))))))))))))))));refine A7 ?_
   first|(exfalso;first|contradiction|omega)|(exact vi (by unfold BU;grind))
  have hc3:=bp hb3;refine f_ (h:=l_ (h:=?_));refine B2 (AB (Rd _) ?_);rintro r rfl;refine B7 (h:=AE (h:=m_ (h:=?_)));refine AT false rfl rfl (fun hb4=>?_) (fun hb4=>?_)
  ·have hc4:=bp hb4;refine A3 (h:=A3 (h:=A3 (h:=A3 (h:=AA (h:=AA (h:=e_ (B6 (h:=w_ (a_ (h:=e_ (A4 (A8 (?_)))))))))))));refine A7 ?_
   first|(exfalso;first|contradiction|omega)|(exact vi (by unfold BU;grind))
  have hc4:=bp hb4;refine f_ (h:=l_ (h:=?_));refine B2 (AB (Rd _) ?_);rintro r rfl;refine B7 (h:=AE (h:=AA (h:=e_ (?_))));refine A9 rfl (fun hb5=>?_) (fun hb5=>?_)
  ·have hc5:=bp hb5;refine w_ (a_ (h:=e_ (A4 (A8 (?_)))));refine A7 ?_
   first|(exfalso;first|contradiction|omega)|(exact vi (by unfold BU;grind))
  have hc5:=bp hb5;refine AD (q_ (w_ (f_ (h:=l_ (h:=B4 (h:=m_ (h:=?_)))))));refine AT false rfl rfl (fun hb6=>?_) (fun hb6=>?_)
  ·have hc6:=bp hb6;refine A3 (h:=A3 (h:=A3 (h:=AA (h:=e_ (B6 (h:=w_ (a_ (h:=e_ (A4 (A8 (?_)))))))))));refine A7 ?_
   first|(exfalso;first|contradiction|omega)|(exact vi (by unfold BU;grind))
  have hc6:=bp hb6;refine f_ (h:=l_ (h:=Ba (h:=AE (h:=e_ (?_)))));refine A9 rfl (fun hb7=>?_) (fun hb7=>?_)
  ·have hc7:=bp hb7;refine w_ (a_ (h:=e_ (A4 (A8 (?_)))));refine A7 ?_
   first|(exfalso;first|contradiction|omega)|(exact vi (by unfold BU;grind))
  have hc7:=bp hb7;refine AD (q_ (w_ (f_ (h:=l_ (h:=Ao (h:=m_ (h:=?_)))))));refine AT true rfl rfl (fun hb8=>?_) (fun hb8=>?_)
  ·have hc8:=bp hb8;refine f_ (h:=l_ (h:=Ao (h:=AA (h:=m_ (h:=?_)))));refine AT true rfl rfl (fun hb9=>?_) (fun hb9=>?_)
   ·have hc9:=bp hb9;refine f_ (h:=l_ (h:=?_));refine B2 (AB (Ed _) ?_);rintro r rfl;refine m_ (h:=?_);refine AT false rfl rfl (fun hb10=>?_) (fun hb10=>?_)
    ·have hc10:=bp hb10;refine A3 (h:=A3 (h:=A3 (h:=AA (h:=AA (h:=e_ (B6 (h:=w_ (a_ (h:=e_ (A4 (A8 (?_))))))))))));refine A7 ?_
     first|(exfalso;first|contradiction|omega)|(exact vi (by unfold BU;grind))
    have hc10:=bp hb10;refine f_ (h:=l_ (h:=Ao (h:=AE (h:=AA (h:=e_ (B6 (h:=w_ (a_ (h:=e_ (A4 (A8 (?_))))))))))));refine A7 ?_
    first|(exfalso;first|contradiction|omega)|(exact vi (by unfold BU;grind))
   have hc9:=bp hb9;refine A3 (h:=A3 (h:=A3 (h:=A3 (h:=AW (h:=AW (h:=AW (h:=A3 (h:=AE (h:=e_ (Bj (h:=AD (q_ (Ab (w_ (f_ (h:=l_ (h:=Ao (h:=m_ (h:=f_ (h:=l_ (h:=Ao (h:=m_ (h:=?_)))))))))))))))))))))));refine AT false rfl rfl (fun hb11=>?_) (fun hb11=>?_)
   ·have hc11:=bp hb11;refine A3 (h:=A3 (h:=A3 (h:=AA (h:=AA (h:=a_ (h:=e_ (B6 (h:=w_ (a_ (h:=e_ (A4 (AN (A8 (?_))))))))))))));refine A7 ?_
    first|(exfalso;first|contradiction|omega)|(exact vi (by unfold BU;grind))
   have hc11:=bp hb11;refine f_ (h:=l_ (h:=Ao (h:=AE (h:=AA (h:=a_ (h:=e_ (?_)))))));refine A9 rfl (fun hb12=>?_) (fun hb12=>?_)
   ·have hc12:=bp hb12;refine w_ (a_ (h:=e_ (A4 (AN (A8 (?_))))));refine A7 ?_
    first|(exfalso;first|contradiction|omega)|(exact vi (by unfold BU;grind))
   have hc12:=bp hb12;refine w_ (f_ (h:=l_ (h:=?_)));refine A6 rfl (AB (Ed _) ?_);rintro r rfl;refine m_ (h:=?_);refine AT true rfl rfl (fun hb13=>?_) (fun hb13=>?_)
   ·have hc13:=bp hb13;refine f_ (h:=l_ (h:=Ao (h:=m_ (h:=f_ (h:=l_ (h:=AK (h:=AE (h:=m_ (h:=A3 (h:=A3 (h:=A3 (h:=A3 (h:=AA (h:=AA (h:=a_ (h:=e_ (B6 (h:=w_ (a_ (h:=e_ (A4 (AN (A8 (?_))))))))))))))))))))))));refine A7 ?_
    first|(exfalso;first|contradiction|omega)|(exact vi (by unfold BU;grind))
   have hc13:=bp hb13;refine A3 (h:=A3 (h:=A3 (h:=A3 (h:=AW (h:=AW (h:=AW (h:=A3 (h:=A3 (h:=AW (h:=AW (h:=AW (h:=AW (h:=A3 (h:=AE (h:=a_ (h:=e_ (Bj (h:=w_ (f_ (h:=l_ (h:=?_)))))))))))))))))))));refine A6 rfl (AB (Ed _) ?_);rintro r rfl;refine B7 (h:=m_ (h:=f_ (h:=l_ (h:=Ao (h:=AA (h:=a_ (h:=e_ (Bj (h:=Aq (Ai (t_ (w_ (a_ (h:=e_ (A4 (?_))))))))))))))));refine A7 ?_
   first|(exfalso;first|contradiction|omega)|(exact vi (by unfold BU;grind))
  have hc8:=bp hb8;refine A3 (h:=A3 (h:=A3 (h:=AE (h:=m_ (h:=A3 (h:=A3 (h:=A3 (h:=A3 (h:=AW (h:=AW (h:=AW (h:=A3 (h:=AE (h:=e_ (Bj (h:=AD (q_ (Ab (w_ (f_ (h:=l_ (h:=Ao (h:=m_ (h:=?_))))))))))))))))))))))));refine f_ (h:=l_ (h:=Ao (h:=m_ (h:=?_))));refine AT false rfl rfl (fun hb14=>?_) (fun hb14=>?_)
  ·have hc14:=bp hb14;refine A3 (h:=A3 (h:=A3 (h:=AA (h:=AA (h:=a_ (h:=e_ (B6 (h:=w_ (a_ (h:=e_ (A4 (AN (A8 (?_))))))))))))));refine A7 ?_
   first|(exfalso;first|contradiction|omega)|(exact vi (by unfold BU;grind))
  have hc14:=bp hb14;refine f_ (h:=l_ (h:=Ao (h:=AE (h:=AA (h:=a_ (h:=e_ (?_)))))));refine A9 rfl (fun hb15=>?_) (fun hb15=>?_)
  ·have hc15:=bp hb15;refine w_ (a_ (h:=e_ (A4 (AN (A8 (?_))))));refine A7 ?_
   first|(exfalso;first|contradiction|omega)|(exact vi (by unfold BU;grind))
  have hc15:=bp hb15;refine w_ (f_ (h:=l_ (h:=?_)));refine A6 rfl (AB (Ed _) ?_);rintro r rfl;refine m_ (h:=?_);refine AT true rfl rfl (fun hb16=>?_) (fun hb16=>?_)
  ·have hc16:=bp hb16;refine f_ (h:=l_ (h:=Ao (h:=m_ (h:=f_ (h:=l_ (h:=AK (h:=AE (h:=m_ (h:=A3 (h:=A3 (h:=A3 (h:=A3 (h:=AA (h:=AA (h:=a_ (h:=e_ (B6 (h:=w_ (a_ (h:=e_ (A4 (AN (A8 (?_))))))))))))))))))))))));refine A7 ?_
   first|(exfalso;first|contradiction|omega)|(exact vi (by unfold BU;grind))
  have hc16:=bp hb16;refine A3 (h:=A3 (h:=A3 (h:=A3 (h:=AW (h:=AW (h:=AW (h:=A3 (h:=A3 (h:=AW (h:=AW (h:=AW (h:=AW (h:=A3 (h:=AE (h:=a_ (h:=e_ (Bj (h:=w_ (f_ (h:=l_ (h:=?_)))))))))))))))))))));refine A6 rfl (AB (Ed _) ?_);rintro r rfl;refine B7 (h:=m_ (h:=f_ (h:=l_ (h:=Ao (h:=AA (h:=a_ (h:=e_ (Bj (h:=Aq (Ai (t_ (w_ (a_ (h:=e_ (A4 (?_))))))))))))))));refine A7 ?_
  first|(exfalso;first|contradiction|omega)|(exact vi (by unfold BU;grind))
 have hc2:=bp hb2;refine A3 (h:=A3 (h:=A3 (h:=A3 (h:=A3 (h:=A3 (h:=AW (h:=AW (h:=AW (h:=AW (h:=A3 (h:=A3 (h:=AW (h:=AW (h:=AW (h:=AW (h:=A3 (h:=AE (h:=e_ (Bj (h:=AD (q_ (w_ (f_ (h:=?_))))))))))))))))))))))));refine l_ (h:=B4 (h:=m_ (h:=?_)));refine AT false rfl rfl (fun hb17=>?_) (fun hb17=>?_)
 ·have hc17:=bp hb17;refine A3 (h:=A3 (h:=A3 (h:=AA (h:=e_ (B6 (h:=w_ (a_ (h:=e_ (A4 (A8 (?_)))))))))));refine A7 ?_
  first|(exfalso;first|contradiction|omega)|(exact vi (by unfold BU;grind))
 have hc17:=bp hb17;refine f_ (h:=l_ (h:=Ba (h:=AE (h:=e_ (?_)))));refine A9 rfl (fun hb18=>?_) (fun hb18=>?_)
 ·have hc18:=bp hb18;refine w_ (a_ (h:=e_ (A4 (A8 (?_)))));refine A7 ?_
  first|(exfalso;first|contradiction|omega)|(exact vi (by unfold BU;grind))
 have hc18:=bp hb18;refine AD (q_ (w_ (f_ (h:=l_ (h:=Ao (h:=m_ (h:=?_)))))));refine AT true rfl rfl (fun hb19=>?_) (fun hb19=>?_)
 ·have hc19:=bp hb19;refine f_ (h:=l_ (h:=Ao (h:=AA (h:=m_ (h:=?_)))));refine AT true rfl rfl (fun hb20=>?_) (fun hb20=>?_)
  ·have hc20:=bp hb20;refine f_ (h:=l_ (h:=?_));refine B2 (AB (Ed _) ?_);rintro r rfl;refine m_ (h:=?_);refine AT false rfl rfl (fun hb21=>?_) (fun hb21=>?_)
   ·have hc21:=bp hb21;refine A3 (h:=A3 (h:=A3 (h:=AA (h:=AA (h:=e_ (B6 (h:=w_ (a_ (h:=e_ (A4 (A8 (?_))))))))))));refine A7 ?_
    first|(exfalso;first|contradiction|omega)|(exact vi (by unfold BU;grind))
   have hc21:=bp hb21;refine f_ (h:=l_ (h:=Ao (h:=AE (h:=AA (h:=e_ (Bj (h:=AD (q_ (Ab (w_ (f_ (h:=l_ (h:=Ao (h:=m_ (h:=A3 (h:=A3 (h:=A3 (h:=A3 (h:=AW (h:=AW (h:=AW (h:=A3 (h:=AE (h:=?_))))))))))))))))))))))));refine a_ (h:=e_ (Bj (h:=w_ (f_ (h:=l_ (h:=?_))))));refine A6 rfl (AB (Ed _) ?_);rintro r rfl;refine m_ (h:=A3 (h:=A3 (h:=A3 (h:=A3 (h:=AW (h:=AW (h:=AW (h:=A3 (h:=A3 (h:=AW (h:=AW (h:=AW (h:=AW (h:=A3 (h:=AE (h:=a_ (h:=e_ (Bj (h:=w_ (f_ (h:=l_ (h:=?_))))))))))))))))))))));refine A6 rfl (AB (Ed _) ?_);rintro r rfl;refine B7 (h:=m_ (h:=f_ (h:=l_ (h:=Ao (h:=AA (h:=a_ (h:=e_ (?_))))))));refine A9 rfl (fun hb22=>?_) (fun hb22=>?_)
   ·have hc22:=bp hb22;refine w_ (a_ (h:=e_ (A4 (AN (A8 (?_))))));refine A7 ?_
    first|(exfalso;first|contradiction|omega)|(exact vi (by unfold BU;grind))
   have hc22:=bp hb22;refine Aq (Ai (t_ (w_ (a_ (h:=e_ (A4 (?_)))))));refine A7 ?_
   first|(exfalso;first|contradiction|omega)|(exact vi (by unfold BU;grind))
  have hc20:=bp hb20;refine A3 (h:=A3 (h:=A3 (h:=A3 (h:=AW (h:=AW (h:=AW (h:=A3 (h:=AE (h:=e_ (Bj (h:=AD (q_ (Ab (w_ (f_ (h:=l_ (h:=Ao (h:=m_ (h:=A3 (h:=A3 (h:=A3 (h:=A3 (h:=AW (h:=?_))))))))))))))))))))))));refine AW (h:=AW (h:=A3 (h:=AE (h:=a_ (h:=e_ (Bj (h:=w_ (f_ (h:=l_ (h:=?_))))))))));refine A6 rfl (AB (Ed _) ?_);rintro r rfl;refine m_ (h:=?_);refine AT true rfl rfl (fun hb23=>?_) (fun hb23=>?_)
  ·have hc23:=bp hb23;refine f_ (h:=l_ (h:=Ao (h:=m_ (h:=?_))));refine AT false rfl rfl (fun hb24=>?_) (fun hb24=>?_)
   ·have hc24:=bp hb24;refine A3 (h:=A3 (h:=A3 (h:=AA (h:=m_ (h:=A3 (h:=A3 (h:=A3 (h:=A3 (h:=AA (h:=AA (h:=a_ (h:=e_ (B6 (h:=w_ (a_ (h:=e_ (A4 (AN (A8 (?_))))))))))))))))))));refine A7 ?_
    first|(exfalso;first|contradiction|omega)|(exact vi (by unfold BU;grind))
   have hc24:=bp hb24;refine f_ (h:=l_ (h:=AK (h:=AE (h:=m_ (h:=?_)))));refine AT false rfl rfl (fun hb25=>?_) (fun hb25=>?_)
   ·have hc25:=bp hb25;refine A3 (h:=A3 (h:=A3 (h:=A3 (h:=AA (h:=AA (h:=a_ (h:=e_ (B6 (h:=w_ (a_ (h:=e_ (A4 (AN (A8 (?_)))))))))))))));refine A7 ?_
    first|(exfalso;first|contradiction|omega)|(exact vi (by unfold BU;grind))
   have hc25:=bp hb25;refine f_ (h:=l_ (h:=n_ (h:=Ba (h:=AE (h:=AA (h:=a_ (h:=e_ (?_))))))));refine A9 rfl (fun hb26=>?_) (fun hb26=>?_)
   ·have hc26:=bp hb26;refine w_ (a_ (h:=e_ (A4 (AN (A8 (?_))))));refine A7 ?_
    first|(exfalso;first|contradiction|omega)|(exact vi (by unfold BU;grind))
   have hc26:=bp hb26;refine w_ (f_ (h:=l_ (h:=?_)));refine A6 rfl (AB (Ed _) ?_);rintro r rfl;refine B7 (h:=m_ (h:=A3 (h:=A3 (h:=A3 (h:=AE (h:=a_ (h:=e_ (Bj (h:=Aq (Ai (t_ (w_ (a_ (h:=e_ (A4 (?_))))))))))))))));refine A7 ?_
   first|(exfalso;first|contradiction|omega)|(exact vi (by unfold BU;grind))
  have hc23:=bp hb23;refine A3 (h:=A3 (h:=A3 (h:=A3 (h:=AW (h:=AW (h:=AW (h:=A3 (h:=A3 (h:=AW (h:=AW (h:=AW (h:=AW (h:=A3 (h:=AE (h:=a_ (h:=e_ (Bj (h:=w_ (f_ (h:=l_ (h:=?_)))))))))))))))))))));refine A6 rfl (AB (Ed _) ?_);rintro r rfl;refine B7 (h:=m_ (h:=f_ (h:=l_ (h:=Ao (h:=AA (h:=a_ (h:=e_ (?_))))))));refine A9 rfl (fun hb27=>?_) (fun hb27=>?_)
  ·have hc27:=bp hb27;refine w_ (a_ (h:=e_ (A4 (AN (A8 (?_))))));refine A7 ?_
   first|(exfalso;first|contradiction|omega)|(exact vi (by unfold BU;grind))
  have hc27:=bp hb27;refine Aq (Ai (t_ (w_ (a_ (h:=e_ (A4 (?_)))))));refine A7 ?_
  first|(exfalso;first|contradiction|omega)|(exact vi (by unfold BU;grind))
 have hc19:=bp hb19;refine A3 (h:=A3 (h:=A3 (h:=AE (h:=m_ (h:=A3 (h:=A3 (h:=A3 (h:=A3 (h:=AW (h:=AW (h:=AW (h:=A3 (h:=AE (h:=e_ (Bj (h:=AD (q_ (Ab (w_ (f_ (h:=l_ (h:=Ao (h:=m_ (h:=?_))))))))))))))))))))))));refine A3 (h:=A3 (h:=A3 (h:=A3 (h:=AW (h:=AW (h:=AW (h:=A3 (h:=AE (h:=a_ (h:=e_ (Bj (h:=w_ (f_ (h:=l_ (h:=?_)))))))))))))));refine A6 rfl (AB (Ed _) ?_);rintro r rfl;refine m_ (h:=?_);refine AT true rfl rfl (fun hb28=>?_) (fun hb28=>?_)
 ·have hc28:=bp hb28;refine f_ (h:=l_ (h:=Ao (h:=m_ (h:=?_))));refine AT false rfl rfl (fun hb29=>?_) (fun hb29=>?_)
  ·have hc29:=bp hb29;refine A3 (h:=A3 (h:=A3 (h:=AA (h:=m_ (h:=A3 (h:=A3 (h:=A3 (h:=A3 (h:=AA (h:=AA (h:=a_ (h:=e_ (B6 (h:=w_ (a_ (h:=e_ (A4 (AN (A8 (?_))))))))))))))))))));refine A7 ?_
   first|(exfalso;first|contradiction|omega)|(exact vi (by unfold BU;grind))
  have hc29:=bp hb29;refine f_ (h:=l_ (h:=AK (h:=AE (h:=m_ (h:=?_)))));refine AT false rfl rfl (fun hb30=>?_) (fun hb30=>?_)
  ·have hc30:=bp hb30;refine A3 (h:=A3 (h:=A3 (h:=A3 (h:=AA (h:=AA (h:=a_ (h:=e_ (B6 (h:=w_ (a_ (h:=e_ (A4 (AN (A8 (?_)))))))))))))));refine A7 ?_
   first|(exfalso;first|contradiction|omega)|(exact vi (by unfold BU;grind))
  have hc30:=bp hb30;refine f_ (h:=l_ (h:=n_ (h:=Ba (h:=AE (h:=AA (h:=a_ (h:=e_ (?_))))))));refine A9 rfl (fun hb31=>?_) (fun hb31=>?_)
  ·have hc31:=bp hb31;refine w_ (a_ (h:=e_ (A4 (AN (A8 (?_))))));refine A7 ?_
   first|(exfalso;first|contradiction|omega)|(exact vi (by unfold BU;grind))
  have hc31:=bp hb31;refine w_ (f_ (h:=l_ (h:=?_)));refine A6 rfl (AB (Ed _) ?_);rintro r rfl;refine B7 (h:=m_ (h:=A3 (h:=A3 (h:=A3 (h:=AE (h:=a_ (h:=e_ (Bj (h:=Aq (Ai (t_ (w_ (a_ (h:=e_ (A4 (?_))))))))))))))));refine A7 ?_
  first|(exfalso;first|contradiction|omega)|(exact vi (by unfold BU;grind))
 have hc28:=bp hb28;refine A3 (h:=A3 (h:=A3 (h:=A3 (h:=AW (h:=AW (h:=AW (h:=A3 (h:=A3 (h:=AW (h:=AW (h:=AW (h:=AW (h:=A3 (h:=AE (h:=a_ (h:=e_ (Bj (h:=w_ (f_ (h:=l_ (h:=?_)))))))))))))))))))));refine A6 rfl (AB (Ed _) ?_);rintro r rfl;refine B7 (h:=m_ (h:=f_ (h:=l_ (h:=Ao (h:=AA (h:=a_ (h:=e_ (?_))))))));refine A9 rfl (fun hb32=>?_) (fun hb32=>?_)
 ·have hc32:=bp hb32;refine w_ (a_ (h:=e_ (A4 (AN (A8 (?_))))));refine A7 ?_
  first|(exfalso;first|contradiction|omega)|(exact vi (by unfold BU;grind))
 have hc32:=bp hb32;refine Aq (Ai (t_ (w_ (a_ (h:=e_ (A4 (?_)))))));refine A7 ?_
 first|(exfalso;first|contradiction|omega)|(exact vi (by unfold BU;grind))
theorem Rn(t:Tst)(list:Int):AFn prog 155 [.agg (Bu t), .v (.int .i64 list)] (fun r=>r= .v (.int .i64 (BU t list))):=by
 have hz:=Rl t.text;have ho:D5 t.fld=true→DG t.fld=false:=by unfold D5 DG;simp;omega
 refine enter Tryz.func155 rfl rfl rfl rfl rfl 0 rfl ?_;refine w_ (b_ (h:=a_ (h:=e_ (q_ (w_ (m_ (h:=f_ (h:=l_ (h:=?_)))))))));refine A6 rfl (AB (Rg _ _) ?_);rintro r rfl;refine B7 (h:=m_ (h:=?_));refine AT false rfl rfl (fun hb1=>?_) (fun hb1=>?_)
 ·have hc1:=bp hb1;refine A3 (h:=A3 (h:=A3 (h:=A3 (h:=AW (h:=AW (h:=AW (h:=AW (h:=AW (h:=AW (h:=AW (h:=AW (h:=AW (h:=AW (h:=AW (h:=AW (h:=AW (h:=AW (h:=AW (h:=AW (h:=AW (h:=A3 (h:=AA (h:=e_ (?_))))))))))))))))))))))));refine B6 (h:=w_ (a_ (h:=e_ (A4 (A8 (?_))))));refine A7 ?_
  first|(exfalso;first|contradiction|omega)|(exact vi (by unfold BU;grind))
 have hc1:=bp hb1;refine f_ (h:=l_ (h:=Ao (h:=m_ (h:=?_))));refine AT true rfl rfl (fun hb2=>?_) (fun hb2=>?_)
 ·have hc2:=bp hb2;refine m_ (h:=f_ (h:=l_ (h:=?_)));refine B2 (AB (Rg _ _) ?_);rintro r rfl;refine B7 (h:=m_ (h:=?_));refine AT false rfl rfl (fun hb3=>?_) (fun hb3=>?_)
  ·have hc3:=bp hb3;refine A3 (h:=A3 (h:=A3 (h:=A3 (h:=AA (h:=m_ (h:=A3 (h:=A3 (h:=A3 (h:=A3 (h:=AA (h:=AA (h:=AE (h:=e_ (B6 (h:=w_ (a_ (h:=e_ (A4 (A8 (?_))))))))))))))))))));refine A7 ?_
   first|(exfalso;first|contradiction|omega)|(exact vi (by unfold BU;grind))
  have hc3:=bp hb3;refine f_ (h:=l_ (h:=?_));refine B2 (AB (Re _) ?_);rintro r rfl;refine B7 (h:=AE (h:=m_ (h:=?_)));refine AT false rfl rfl (fun hb4=>?_) (fun hb4=>?_)
  ·have hc4:=bp hb4;refine A3 (h:=A3 (h:=A3 (h:=A3 (h:=AA (h:=AA (h:=AE (h:=e_ (B6 (h:=w_ (a_ (h:=e_ (A4 (A8 (?_))))))))))))));refine A7 ?_
   first|(exfalso;first|contradiction|omega)|(exact vi (by unfold BU;grind))
  have hc4:=bp hb4;refine f_ (h:=l_ (h:=?_));refine B2 (AB (Re _) ?_);rintro r rfl;refine B7 (h:=AE (h:=AA (h:=AE (h:=e_ (?_)))));refine A9 rfl (fun hb5=>?_) (fun hb5=>?_)
  ·have hc5:=bp hb5;refine w_ (a_ (h:=e_ (A4 (A8 (?_)))));refine A7 ?_
   first|(exfalso;first|contradiction|omega)|(exact vi (by unfold BU;grind))
  have hc5:=bp hb5;refine AD (q_ (w_ (f_ (h:=l_ (h:=B4 (h:=m_ (h:=?_)))))));refine AT false rfl rfl (fun hb6=>?_) (fun hb6=>?_)
  ·have hc6:=bp hb6;refine A3 (h:=A3 (h:=A3 (h:=AA (h:=m_ (h:=A3 (h:=A3 (h:=A3 (h:=A3 (h:=AW (h:=AW (h:=AW (h:=AW (h:=AW (h:=AW (h:=AW (h:=AW (h:=A3 (h:=AA (h:=e_ (B6 (h:=w_ (a_ (h:=e_ (?_))))))))))))))))))))))));refine A4 (A8 (?_));refine A7 ?_
   first|(exfalso;first|contradiction|omega)|(exact vi (by unfold BU;grind))
  have hc6:=bp hb6;refine f_ (h:=l_ (h:=Ba (h:=AE (h:=m_ (h:=?_)))));refine AT false rfl rfl (fun hb7=>?_) (fun hb7=>?_)
  ·have hc7:=bp hb7;refine A3 (h:=A3 (h:=A3 (h:=A3 (h:=AW (h:=AW (h:=AW (h:=AW (h:=AW (h:=AW (h:=AW (h:=AW (h:=A3 (h:=AA (h:=e_ (B6 (h:=w_ (a_ (h:=e_ (A4 (A8 (?_)))))))))))))))))))));refine A7 ?_
   first|(exfalso;first|contradiction|omega)|(exact vi (by unfold BU;grind))
  have hc7:=bp hb7;refine f_ (h:=l_ (h:=Ba (h:=m_ (h:=?_))));refine AT true rfl rfl (fun hb8=>?_) (fun hb8=>?_)
  ·have hc8:=bp hb8;refine f_ (h:=l_ (h:=?_));refine B2 (AB (Gm _) ?_);rintro r rfl;refine m_ (h:=?_);refine AT false rfl rfl (fun hb9=>?_) (fun hb9=>?_)
   ·have hc9:=bp hb9;refine A3 (h:=A3 (h:=A3 (h:=AA (h:=AA (h:=AE (h:=e_ (B6 (h:=w_ (a_ (h:=e_ (A4 (A8 (?_)))))))))))));refine A7 ?_
    first|(exfalso;first|contradiction|omega)|(exact vi (by unfold BU;grind))
   have hc9:=bp hb9;refine f_ (h:=l_ (h:=Ao (h:=AE (h:=AA (h:=AE (h:=e_ (B6 (h:=w_ (a_ (h:=e_ (A4 (A8 (?_)))))))))))));refine A7 ?_
   first|(exfalso;first|contradiction|omega)|(exact vi (by unfold BU;grind))
  have hc8:=bp hb8;refine A3 (h:=A3 (h:=A3 (h:=A3 (h:=AW (h:=AW (h:=AW (h:=A3 (h:=AE (h:=AE (h:=e_ (Bj (h:=AD (q_ (w_ (f_ (h:=l_ (h:=Ao (h:=m_ (h:=f_ (h:=l_ (h:=Ao (h:=m_ (h:=?_)))))))))))))))))))))));refine AT false rfl rfl (fun hb10=>?_) (fun hb10=>?_)
  ·have hc10:=bp hb10;refine A3 (h:=A3 (h:=A3 (h:=AA (h:=AA (h:=e_ (B6 (h:=w_ (a_ (h:=e_ (A4 (A8 (?_))))))))))));refine A7 ?_
   first|(exfalso;first|contradiction|omega)|(exact vi (by unfold BU;grind))
  have hc10:=bp hb10;refine f_ (h:=l_ (h:=Ao (h:=AE (h:=AA (h:=e_ (?_))))));refine A9 rfl (fun hb11=>?_) (fun hb11=>?_)
  ·have hc11:=bp hb11;refine w_ (a_ (h:=e_ (A4 (A8 (?_)))));refine A7 ?_
   first|(exfalso;first|contradiction|omega)|(exact vi (by unfold BU;grind))
  have hc11:=bp hb11;refine AD (q_ (w_ (f_ (h:=l_ (h:=AK (h:=m_ (h:=A3 (h:=A3 (h:=A3 (h:=AE (h:=m_ (h:=A3 (h:=A3 (h:=A3 (h:=A3 (h:=AW (h:=AW (h:=AW (h:=A3 (h:=A3 (h:=AW (h:=AW (h:=AW (h:=?_))))))))))))))))))))))));refine AW (h:=A3 (h:=AE (h:=m_ (h:=f_ (h:=l_ (h:=?_))))));refine B2 (AB (Gm _) ?_);rintro r rfl;refine B7 (h:=m_ (h:=?_));refine AT true rfl rfl (fun hb12=>?_) (fun hb12=>?_)
  ·have hc12:=bp hb12;refine f_ (h:=l_ (h:=Ao (h:=AA (h:=AE (h:=e_ (Bj (h:=AD (w_ (a_ (h:=e_ (A4 (?_))))))))))));refine A7 ?_
   first|(exfalso;first|contradiction|omega)|(exact vi (by unfold BU;grind))
  have hc12:=bp hb12;refine A3 (h:=A3 (h:=A3 (h:=AE (h:=AE (h:=e_ (Bj (h:=AD (w_ (a_ (h:=e_ (A4 (?_))))))))))));refine A7 ?_
  first|(exfalso;first|contradiction|omega)|(exact vi (by unfold BU;grind))
 have hc2:=bp hb2;refine A3 (h:=A3 (h:=A3 (h:=A3 (h:=A3 (h:=A3 (h:=AW (h:=AW (h:=AW (h:=AW (h:=A3 (h:=A3 (h:=AW (h:=AW (h:=AW (h:=AW (h:=A3 (h:=AE (h:=AE (h:=e_ (Bj (h:=AD (q_ (w_ (?_))))))))))))))))))))))));refine f_ (h:=l_ (h:=B4 (h:=m_ (h:=?_))));refine AT false rfl rfl (fun hb13=>?_) (fun hb13=>?_)
 ·have hc13:=bp hb13;refine A3 (h:=A3 (h:=A3 (h:=AA (h:=m_ (h:=A3 (h:=A3 (h:=A3 (h:=A3 (h:=AW (h:=AW (h:=AW (h:=AW (h:=AW (h:=AW (h:=AW (h:=AW (h:=A3 (h:=AA (h:=e_ (B6 (h:=w_ (a_ (h:=e_ (?_))))))))))))))))))))))));refine A4 (A8 (?_));refine A7 ?_
  first|(exfalso;first|contradiction|omega)|(exact vi (by unfold BU;grind))
 have hc13:=bp hb13;refine f_ (h:=l_ (h:=Ba (h:=AE (h:=m_ (h:=?_)))));refine AT false rfl rfl (fun hb14=>?_) (fun hb14=>?_)
 ·have hc14:=bp hb14;refine A3 (h:=A3 (h:=A3 (h:=A3 (h:=AW (h:=AW (h:=AW (h:=AW (h:=AW (h:=AW (h:=AW (h:=AW (h:=A3 (h:=AA (h:=e_ (B6 (h:=w_ (a_ (h:=e_ (A4 (A8 (?_)))))))))))))))))))));refine A7 ?_
  first|(exfalso;first|contradiction|omega)|(exact vi (by unfold BU;grind))
 have hc14:=bp hb14;refine f_ (h:=l_ (h:=Ba (h:=m_ (h:=?_))));refine AT true rfl rfl (fun hb15=>?_) (fun hb15=>?_)
 ·have hc15:=bp hb15;refine f_ (h:=l_ (h:=?_));refine B2 (AB (Gm _) ?_);rintro r rfl;refine m_ (h:=?_);refine AT false rfl rfl (fun hb16=>?_) (fun hb16=>?_)
  ·have hc16:=bp hb16;refine A3 (h:=A3 (h:=A3 (h:=AA (h:=AA (h:=AE (h:=e_ (B6 (h:=w_ (a_ (h:=e_ (A4 (A8 (?_)))))))))))));refine A7 ?_
   first|(exfalso;first|contradiction|omega)|(exact vi (by unfold BU;grind))
  have hc16:=bp hb16;refine f_ (h:=l_ (h:=Ao (h:=AE (h:=AA (h:=AE (h:=e_ (Bj (h:=AD (q_ (w_ (f_ (h:=l_ (h:=Ao (h:=m_ (h:=A3 (h:=A3 (h:=A3 (h:=A3 (h:=AW (h:=AW (h:=AW (h:=A3 (h:=AE (h:=?_))))))))))))))))))))))));refine e_ (Bj (h:=AD (q_ (w_ (f_ (h:=l_ (h:=AK (h:=m_ (h:=f_ (h:=l_ (h:=?_)))))))))));refine B2 (AB (Gm _) ?_);rintro r rfl;refine AA (h:=m_ (h:=A3 (h:=A3 (h:=A3 (h:=A3 (h:=AW (h:=AW (h:=AW (h:=A3 (h:=A3 (h:=AW (h:=AW (h:=AW (h:=AW (h:=A3 (h:=AE (h:=m_ (h:=f_ (h:=l_ (h:=?_))))))))))))))))))));refine B2 (AB (Gm _) ?_);rintro r rfl;refine B7 (h:=m_ (h:=f_ (h:=l_ (h:=Ao (h:=AA (h:=AE (h:=e_ (?_))))))));refine A9 rfl (fun hb17=>?_) (fun hb17=>?_)
  ·have hc17:=bp hb17;refine w_ (a_ (h:=e_ (A4 (A8 (?_)))));refine A7 ?_
   first|(exfalso;first|contradiction|omega)|(exact vi (by unfold BU;grind))
  have hc17:=bp hb17;refine AD (w_ (a_ (h:=e_ (A4 (?_)))));refine A7 ?_
  first|(exfalso;first|contradiction|omega)|(exact vi (by unfold BU;grind))
 have hc15:=bp hb15;refine A3 (h:=A3 (h:=A3 (h:=A3 (h:=AW (h:=AW (h:=AW (h:=A3 (h:=AE (h:=AE (h:=e_ (Bj (h:=AD (q_ (w_ (f_ (h:=l_ (h:=Ao (h:=m_ (h:=A3 (h:=A3 (h:=A3 (h:=A3 (h:=AW (h:=?_))))))))))))))))))))))));refine AW (h:=AW (h:=A3 (h:=AE (h:=e_ (Bj (h:=AD (q_ (w_ (f_ (h:=l_ (h:=AK (h:=m_ (h:=f_ (h:=l_ (h:=?_)))))))))))))));refine B2 (AB (Gm _) ?_);rintro r rfl;refine AA (h:=m_ (h:=?_));refine AT true rfl rfl (fun hb18=>?_) (fun hb18=>?_)
 ·have hc18:=bp hb18;refine f_ (h:=l_ (h:=Ao (h:=m_ (h:=?_))));refine AT false rfl rfl (fun hb19=>?_) (fun hb19=>?_)
  ·have hc19:=bp hb19;refine A3 (h:=A3 (h:=A3 (h:=AA (h:=m_ (h:=A3 (h:=A3 (h:=A3 (h:=A3 (h:=AA (h:=AA (h:=m_ (h:=A3 (h:=A3 (h:=A3 (h:=A3 (h:=A3 (h:=AW (h:=AW (h:=AW (h:=A3 (h:=AA (h:=e_ (B6 (h:=?_))))))))))))))))))))))));refine w_ (a_ (h:=e_ (A4 (A8 (?_)))));refine A7 ?_
   first|(exfalso;first|contradiction|omega)|(exact vi (by unfold BU;grind))
  have hc19:=bp hb19;refine f_ (h:=l_ (h:=AK (h:=AE (h:=m_ (h:=?_)))));refine AT false rfl rfl (fun hb20=>?_) (fun hb20=>?_)
  ·have hc20:=bp hb20;refine A3 (h:=A3 (h:=A3 (h:=A3 (h:=AA (h:=AA (h:=m_ (h:=A3 (h:=A3 (h:=A3 (h:=A3 (h:=A3 (h:=AW (h:=AW (h:=AW (h:=A3 (h:=AA (h:=e_ (B6 (h:=w_ (a_ (h:=e_ (A4 (A8 (?_))))))))))))))))))))))));refine A7 ?_
   first|(exfalso;first|contradiction|omega)|(exact vi (by unfold BU;grind))
  have hc20:=bp hb20;refine f_ (h:=l_ (h:=n_ (h:=Ba (h:=AE (h:=AA (h:=m_ (h:=?_)))))));refine AT false rfl rfl (fun hb21=>?_) (fun hb21=>?_)
  ·have hc21:=bp hb21;refine A3 (h:=A3 (h:=A3 (h:=A3 (h:=A3 (h:=AW (h:=AW (h:=AW (h:=A3 (h:=AA (h:=e_ (B6 (h:=w_ (a_ (h:=e_ (A4 (A8 (?_)))))))))))))))));refine A7 ?_
   first|(exfalso;first|contradiction|omega)|(exact vi (by unfold BU;grind))
  have hc21:=bp hb21;refine f_ (h:=l_ (h:=?_));refine B2 (AB (Gm _) ?_);rintro r rfl;refine B7 (h:=m_ (h:=A3 (h:=A3 (h:=A3 (h:=AE (h:=AE (h:=e_ (Bj (h:=AD (w_ (a_ (h:=e_ (A4 (?_))))))))))))));refine A7 ?_
  first|(exfalso;first|contradiction|omega)|(exact vi (by unfold BU;grind))
 have hc18:=bp hb18;refine A3 (h:=A3 (h:=A3 (h:=A3 (h:=AW (h:=AW (h:=AW (h:=A3 (h:=A3 (h:=AW (h:=AW (h:=AW (h:=AW (h:=A3 (h:=AE (h:=m_ (h:=f_ (h:=l_ (h:=?_))))))))))))))))));refine B2 (AB (Gm _) ?_);rintro r rfl;refine B7 (h:=m_ (h:=f_ (h:=l_ (h:=Ao (h:=AA (h:=AE (h:=e_ (?_))))))));refine A9 rfl (fun hb22=>?_) (fun hb22=>?_)
 ·have hc22:=bp hb22;refine w_ (a_ (h:=e_ (A4 (A8 (?_)))));refine A7 ?_
  first|(exfalso;first|contradiction|omega)|(exact vi (by unfold BU;grind))
 have hc22:=bp hb22;refine AD (w_ (a_ (h:=e_ (A4 (?_)))));refine A7 ?_
 first|(exfalso;first|contradiction|omega)|(exact vi (by unfold BU;grind))
def Fc(t:Tst)(c:Ctx):Bool:=decide ((if t.fld=14 then c.comm else c.exe)=t.text)==decide (t.op=1)
def Fd(t:Tst)(c:Ctx)(y:Itm):Bool:=
 if D5 t.fld=true then Fc t c else DY t.op (Bi t.fld c y) (if t.other=0 then t.num else Bi t.other c y)
def Er(t:Tst)(c:Ctx)(y:Itm):Bool:=
 if D5 t.fld=true then Fc t c else if Bk t.fld c=false then false else if t.other=0 then DY t.op (Bi t.fld c y) t.num else if Bk t.other c=false then false else DY t.op (Bi t.fld c y) (Bi t.other c y)
def Oi(t:Tst):Prop:=1≤t.fld∧t.fld≤22∧(t.other=0∨1≤t.other∧t.other≤22∧D5 t.other=false)∧1≤t.op∧t.op≤8
theorem Ro(t:Tst)(c:Ctx)(k:Cxs)(y:Itm)(ht:Oi t):AFn prog 161 [.agg (Bu t), .agg (Bf c k), .agg (CN y)] (fun r=>r= .v (.bool (Er t c y))):=by
 obtain⟨f1,f2,o1,p1,p2⟩:=ht;refine enter Tryz.func161 rfl rfl rfl rfl rfl 0 rfl ?_;refine w_ (b_ (h:=b_ (h:=b_ (h:=a_ (h:=e_ (q_ (w_ (f_ (h:=l_ (h:=?_))))))))));refine A6 rfl (AB (Ed _) ?_);rintro r rfl;refine e_ (?_);refine A9 rfl (fun hb1=>?_) (fun hb1=>?_)
 ·have hc1:=bp hb1;refine w_ (f_ (h:=f_ (h:=l_ (h:=a_ (h:=e_ (q_ (w_ (f_ (h:=l_ (h:=AK (h:=e_ (?_))))))))))));refine A9 rfl (fun hb2=>?_) (fun hb2=>?_)
  ·have hc2:=bp hb2;refine AR (f_ (h:=f_ (h:=l_ (h:=a_ (h:=e_ (w_ (m_ (h:=f_ (h:=l_ (h:=AK (h:=f_ (h:=l_ (h:=AK (h:=AK (h:=a_ (h:=e_ (A4 (A8 (?_)))))))))))))))))));refine A7 ?_
   first|(exfalso;first|contradiction|omega)|(exact vb (by unfold Er Fc;simp_all))
  have hc2:=bp hb2;refine AD (w_ (m_ (h:=f_ (h:=l_ (h:=AK (h:=f_ (h:=l_ (h:=AK (h:=AK (h:=a_ (h:=e_ (A4 (A8 (?_))))))))))))));refine A7 ?_
  first|(exfalso;first|contradiction|omega)|(exact vb (by unfold Er Fc;simp_all))
 have hc1:=bp hb1;refine AD (w_ (f_ (h:=l_ (h:=l_ (h:=l_ (h:=?_))))));refine A6 rfl (AB (Rk t.fld c k y f1 f2 hc1) ?_);rintro r ⟨n1,rfl,hn1⟩;refine m_ (h:=x_ (h:=x_ (h:=a_ (h:=a_ (h:=e_ (q_ (w_ (m_ (h:=B7 (h:=e_ (?_)))))))))));refine A9 rfl (fun hb3=>?_) (fun hb3=>?_)
 ·have hc3:=bp hb3;refine w_ (a_ (h:=e_ (A4 (A8 (?_)))));refine A7 ?_
  first|(exfalso;first|contradiction|omega)|(exact vb (by unfold Er Fc;simp_all))
 have hc3:=bp hb3;refine AD (w_ (f_ (h:=l_ (h:=a_ (h:=e_ (q_ (w_ (f_ (h:=l_ (h:=Ao (h:=e_ (?_))))))))))));refine A9 rfl (fun hb4=>?_) (fun hb4=>?_)
 ·have hc4:=bp hb4;refine w_ (f_ (h:=l_ (h:=l_ (h:=l_ (h:=?_)))));refine A6 rfl (AB (Rk t.other c k y (by omega) (by omega) (o1.resolve_left hc4).2.2) ?_);rintro r ⟨n2,rfl,hn2⟩;refine m_ (h:=x_ (h:=x_ (h:=a_ (h:=a_ (h:=e_ (w_ (m_ (h:=B7 (h:=e_ (?_))))))))));refine A9 rfl (fun hb5=>?_) (fun hb5=>?_)
  ·have hc5:=bp hb5;refine w_ (a_ (h:=e_ (A4 (A8 (?_)))));refine A7 ?_
   first|(exfalso;first|contradiction|omega)|(exact vb (by unfold Er Fc;simp_all))
  have hc5:=bp hb5;refine AD (w_ (f_ (h:=l_ (h:=m_ (h:=m_ (h:=?_))))));refine A6 rfl (AB (Rh _ _ _ p1 p2) ?_);rintro r rfl;refine a_ (h:=e_ (A4 (?_)));refine A7 ?_
  first|(exfalso;first|contradiction|omega)|(exact vb (by unfold Er Fc;simp_all))
 have hc4:=bp hb4;refine AD (w_ (f_ (h:=l_ (h:=m_ (h:=m_ (h:=?_))))));refine A6 rfl (AB (Rh _ _ _ p1 p2) ?_);rintro r rfl;refine a_ (h:=e_ (A4 (?_)));refine A7 ?_
 first|(exfalso;first|contradiction|omega)|(exact vb (by unfold Er Fc;simp_all))
theorem Rp(t:Tst)(c:Ctx)(k:Cxs)(y:Itm)(ht:Oi t):AFn prog 165 [.agg (Bu t), .agg (Bf c k), .agg (CN y)] (fun r=>r= .v (.bool (Fd t c y))):=by
 obtain⟨f1,f2,o1,p1,p2⟩:=ht;refine enter Tryz.func165 rfl rfl rfl rfl rfl 0 rfl ?_;refine w_ (b_ (h:=b_ (h:=b_ (h:=a_ (h:=e_ (q_ (w_ (f_ (h:=l_ (h:=?_))))))))));refine A6 rfl (AB (Gm _) ?_);rintro r rfl;refine e_ (?_);refine A9 rfl (fun hb1=>?_) (fun hb1=>?_)
 ·have hc1:=bp hb1;refine w_ (f_ (h:=f_ (h:=l_ (h:=a_ (h:=e_ (q_ (w_ (f_ (h:=l_ (h:=AK (h:=e_ (?_))))))))))));refine A9 rfl (fun hb2=>?_) (fun hb2=>?_)
  ·have hc2:=bp hb2;refine AR (f_ (h:=f_ (h:=l_ (h:=a_ (h:=e_ (w_ (m_ (h:=f_ (h:=l_ (h:=AK (h:=f_ (h:=l_ (h:=AK (h:=AK (h:=a_ (h:=e_ (A4 (A8 (?_)))))))))))))))))));refine A7 ?_
   first|(exfalso;first|contradiction|omega)|(exact vb (by unfold Fd Fc;simp_all))
  have hc2:=bp hb2;refine AD (w_ (m_ (h:=f_ (h:=l_ (h:=AK (h:=f_ (h:=l_ (h:=AK (h:=AK (h:=a_ (h:=e_ (A4 (A8 (?_))))))))))))));refine A7 ?_
  first|(exfalso;first|contradiction|omega)|(exact vb (by unfold Fd Fc;simp_all))
 have hc1:=bp hb1;refine AD (w_ (f_ (h:=l_ (h:=a_ (h:=e_ (q_ (w_ (f_ (h:=l_ (h:=Ao (h:=e_ (?_))))))))))));refine A9 rfl (fun hb3=>?_) (fun hb3=>?_)
 ·have hc3:=bp hb3;refine AR (f_ (h:=l_ (h:=l_ (h:=l_ (h:=?_)))));refine A6 rfl (AB (Oh _ c k y) ?_);rintro r rfl;refine a_ (h:=e_ (q_ (Cj 10 (h:=Aw 0 (h:=AO 1 (h:=Aw 2 (h:=AO 3 (h:=AO 4 (h:=AO 5 (h:=Ac 7 (h:=?_)))))))))));refine c_ 6 rfl (AB (Oh _ c k y) ?_);rintro r rfl;refine o_ (h:=?_);refine c_ 8 rfl (AB (Ri _ _ _ p1 p2) ?_);rintro r rfl;refine o_ (h:=BL 9 (h:=z_ (h:=t_ (A4 (?_)))));refine A7 ?_
  first|(exfalso;first|contradiction|omega)|(exact vb (by unfold Fd Fc;simp_all))
 have hc3:=bp hb3;refine AD (q_ (Cj 10 (h:=Aw 0 (h:=AO 1 (h:=Aw 2 (h:=AO 3 (h:=AO 4 (h:=AO 5 (h:=Ac 7 (h:=?_))))))))));refine c_ 6 rfl (AB (Oh _ c k y) ?_);rintro r rfl;refine o_ (h:=?_);refine c_ 8 rfl (AB (Ri _ _ _ p1 p2) ?_);rintro r rfl;refine o_ (h:=BL 9 (h:=z_ (h:=t_ (A4 (?_)))));refine A7 ?_
 first|(exfalso;first|contradiction|omega)|(exact vb (by unfold Fd Fc;simp_all))
end
theorem Gp{α:Type}{p:α→Bool}{l:List α}{j:Nat}{x:α}(hx:l[j]?=some x)(hp:p x=true)(h:∀i y,i<j→l[i]?=some y→p y=false):l.find? p=some x:=by
 have:=RW hx hp h;rw[←RY,this]
 simpa using hx
theorem Gq{α:Type}{p:α→Bool}{l:List α}(h:∀i y,i<l.length→l[i]?=some y→p y=false):l.find? p=none:=by
 rw[List.find?_eq_none];intro x hx;obtain⟨i,hi,rfl⟩:=List.mem_iff_getElem.1 hx;simp[h i _ hi (BV hi)]
theorem Rq{f:Af}{a:AG}(h:Ck f a=true):Bp f a=some (Au f a):=by
 unfold Ck at h;unfold Au
 cases hn:Bp f a with
 |none=>rw[hn]at h;cases h
 |some n=>rfl
theorem Rr{f:Af}{a:AG}(h:Ck f a=false):Bp f a=none:=by
 unfold Ck at h
 cases hn:Bp f a with
 |none=>rfl
 |some n=>rw[hn]at h;cases h
section
theorem Hm(f:Af)(a:AG)(name:AM)(hf:FlsB f):AFn prog 134 [.agg (At f), .agg (AF a), .v (.string name)] (fun r=>r= .tup [.agg (AF (AU f a name).1), .v (.int .i64 (AU f a name).2)]):=by
 have hen:=Ku hf a;refine enter Tryz.func134 rfl rfl rfl rfl rfl 0 rfl ?_;refine w_ (b_ (h:=b_ (h:=Aa (h:=a_ (h:=e_ (w_ (l_ (h:=l_ (h:=?_)))))))));refine A6 rfl (AB (Ec f a hf) ?_);rintro r rfl;refine m_ (h:=x_ (h:=x_ (h:=Aa (h:=s_ (h:=a_ (h:=e_ (q_ (w_ (m_ (h:=B7 (h:=e_ (?_))))))))))));refine A9 rfl (fun hb1=>?_) (fun hb1=>?_)
 ·have hc1:=bp hb1;have e:=Rr hc1;refine w_ (AX (h:=s_ (h:=a_ (h:=e_ (A4 (A8 (?_)))))));refine A7 ?_;rw[show AU f a name=((0,0),2) by simp[AU,e]];rfl
 have hc1:=bp hb1;have e:=Rq hc1;refine AD (q_ (w_ (f_ (h:=l_ (h:=Ao (h:=e_ (?_)))))));refine A9 rfl (fun hb2=>?_) (fun hb2=>?_)
 ·have hc2:=bp hb2;refine w_ (AX (h:=s_ (h:=a_ (h:=e_ (A4 (A8 (?_)))))));refine A7 ?_;rw[show AU f a name=((0,0),20) by simp[AU,e,hc2]];rfl
 have hc2:=bp hb2;refine AD (q_ (w_ (a_ (h:=e_ (Ab (?_))))));refine BT (fun m s=>∃j:Nat,j≤(Au f a).entries.length∧m=(Au f a).entries.length - j∧(∀i y,i<j→(Au f a).entries[i]?=some y→decide (y.1=name)=false)∧s=⟨look [(2, .v (.string name)),(4, .bp 1 0),(6, .bp 2 0),(8, .bp 3 0),(10, .v (.int .i64 (j:Int)))],⟨[At f,AF a,[.v (.int .i64 0), .v (.int .i64 0)],Ap (Au f a)],[]⟩⟩) ((Au f a).entries.length) ((wk 4 0)) (⟨0,by omega,rfl,fun i y hi=>by omega,rfl⟩) ?_;rintro m s ⟨j,hj,rfl,ha,rfl⟩;refine q_ (w_ (m_ (h:=f_ (h:=l_ (h:=n_ (h:=B4 (h:=e_ (?_))))))));refine A9 rfl (fun hb3=>?_) (fun hb3=>?_)
 ·have hc3:=bp hb3;obtain⟨hlt,x,hy,hrow, -⟩:=Bt CG hc3;refine AD (q_ (Ab (w_ (f_ (h:=l_ (h:=m_ (h:=i_ (h:=f_ (h:=l_ (h:=m_ (h:=AK (h:=e_ (?_)))))))))))));refine A9 rfl (fun hb4=>?_) (fun hb4=>?_)
  ·have hc4:=bp hb4;refine q_ (C3 ([(0,At f),(1,AF a),(3,Ap (Au f a))]) 11 (h:=Aw 0 (h:=AO 1 (h:=Aw 2 (h:=AO 3 (h:=Ac 4 (h:=Cl 5 (h:=Aw 6 (h:=AO 7 (h:=Fa 8 (h:=?_)))))))))));refine Bd 9 rfl (BY rfl rfl rfl rfl rfl rfl (by repeat constructor) (by repeat constructor) ?_);refine o_ (h:=BL 10 (h:=z_ (h:=t_ (A4 (AN (A8 (A8 (AN (A8 (?_))))))))));refine A7 ?_;rw[show AU f a name=((a.1,x.2),0) by simp only[AU,e];rw[if_pos (by omega),Gp hy (by simpa using hc4) ha]];rfl
  have hc4:=bp hb4;refine Aq (Ai (t_ (AR (m_ (h:=B8 (h:=a_ (h:=AP (?_))))))));refine AJ ?_;refine⟨_,_,?_,⟨j+1,by omega,rfl,FA hy ha (by simpa using hc4),rfl⟩,(wk 4 0)⟩;omega
 have hc3:=bp hb3;have e3:=C9 CG hj hc3;subst e3;refine BF (Ah (Ah (BG (t_ (w_ (AX (h:=s_ (h:=a_ (h:=e_ (A4 (?_)))))))))));refine A7 ?_;rw[show AU f a name=((0,0),2) by simp only[AU,e];rw[if_pos (by omega),Gq ha]];rfl
end
theorem Hn{P:Program}{ev:Operand→Option AV}{h:AH}{R:AV→AH→Prop}{d:Option Tmp}{ty:TypeId}{pos:String}{af:Array Edge}{gd:Option (Nat×Bool)}{T:TypeId}{x ix:Operand}{s:ByteArray}{n:Nat}{k:IntKind}{i:Int}(hu:P.underlying T=some .string)
    (hx:ev x=some (.v (.string s))) (hi:ev ix=some (.v (.int k i))) (hn:i=(n:Int)) (hlt:n<s.size) (hR:R (.v (.int .u8 (s[n].toNat:Int))) h):AStep P ⟨d, .index T x ix,ty,pos,af,gd⟩ ev h R:=by
 refine Ch (fun _ G w ec _ he=>?_) hR;have h1:=he x (by simp[Op.operands]) _ hx;have h2:=he ix (by simp[Op.operands]) _ hi;simp only[rep]at h1 h2;subst hn;refine⟨.int .u8 (s[n].toNat:Int),?_,by simp only[rep]⟩;have e:s[n]?=some s[n]:=getElem?_pos s n hlt;simp[execOp,h1,h2,Instr.index,asIntOf,run_underlying hu,e]
theorem Ho(s:AM):D4 s=if s.size<1∨12<s.size then false else if s=⟨#[46]⟩then false else if s=⟨#[46,46]⟩then false else s.data.toList.all Gj:=by
 unfold D4;have e1:=Mj s ⟨#[46]⟩;have e2:=Mj s ⟨#[46,46]⟩;rw[show(⟨#[46]⟩:ByteArray).toList=[46] by rw[ByteArray.toList_eq]]at e1;rw[show(⟨#[46,46]⟩:ByteArray).toList=[46,46] by rw[ByteArray.toList_eq]]at e2;rw[e1,e2];simp only[decide_eq_true_eq]
theorem WK{c:UInt8}(h1:¬(c.toNat:Int)=0)(h2:¬(c.toNat:Int)=47):Gj c=true:=by
 unfold Gj;simp;omega
section
theorem Oj(s:AM)(hs:s.size≤100000):AFn prog 136 [.v (.string s)] (fun r=>r= .v (.bool (D4 s))):=by
 refine enter Tryz.func136 rfl rfl rfl rfl rfl 0 rfl ?_;refine w_ (a_ (h:=e_ (q_ (w_ (m_ (h:=n_ (h:=B4 (h:=m_ (h:=?_)))))))));refine AT false rfl rfl (fun hb1=>?_) (fun hb1=>?_)
 ·have hc1:=bp hb1;refine A3 (h:=A3 (h:=A3 (h:=AA (h:=m_ (h:=A3 (h:=A3 (h:=AA (h:=m_ (h:=A3 (h:=A3 (h:=AA (h:=e_ (B6 (h:=w_ (a_ (h:=e_ (A4 (A8 (?_)))))))))))))))))));refine A7 ?_;exact vb (by rw[Ho,if_pos (by omega)])
 have hc1:=bp hb1;refine m_ (h:=n_ (h:=Ba (h:=AE (h:=m_ (h:=?_)))));refine AT false rfl rfl (fun hb2=>?_) (fun hb2=>?_)
 ·have hc2:=bp hb2;refine A3 (h:=A3 (h:=AA (h:=m_ (h:=A3 (h:=A3 (h:=AA (h:=e_ (B6 (h:=w_ (a_ (h:=e_ (A4 (A8 (?_))))))))))))));refine A7 ?_;exact vb (by rw[Ho,if_pos (by omega)])
 have hc2:=bp hb2;refine m_ (h:=AK (h:=AE (h:=m_ (h:=?_))));refine AT false rfl rfl (fun hb3=>?_) (fun hb3=>?_)
 ·have hc3:=bp hb3;refine A3 (h:=A3 (h:=AA (h:=e_ (B6 (h:=w_ (a_ (h:=e_ (A4 (A8 (?_))))))))));refine A7 ?_;exact vb (by rw[Ho,if_neg (by omega),if_pos hc3])
 have hc3:=bp hb3;refine m_ (h:=AK (h:=AE (h:=e_ (?_))));refine A9 rfl (fun hb4=>?_) (fun hb4=>?_)
 ·have hc4:=bp hb4;refine w_ (a_ (h:=e_ (A4 (A8 (?_)))));refine A7 ?_;exact vb (by rw[Ho,if_neg (by omega),if_neg hc3,if_pos hc4])
 have hc4:=bp hb4;refine AD (q_ (w_ (a_ (h:=e_ (Ab (?_))))));refine BT (fun m t=>∃j:Nat,j≤s.size∧m=s.size - j∧(∀i (hi:i<s.size),i<j→Gj s[i]=true)∧t=⟨look [(0, .v (.string s)),(3, .v (.int .i64 (j:Int)))],⟨[],[]⟩⟩) (s.size) ((wk 0 0)) (⟨0,by omega,rfl,fun i _ hi=>by omega,rfl⟩) ?_;rintro m t ⟨j,hj,rfl,ha,rfl⟩;refine q_ (w_ (m_ (h:=m_ (h:=n_ (h:=B4 (h:=e_ (?_)))))));refine A9 rfl (fun hb5=>?_) (fun hb5=>?_)
 ·have hc5:=bp hb5;have hlt:j<s.size:=by omega
  refine AD (q_ (Ab (w_ (m_ (h:=m_ (h:=?_))))));refine A6 rfl (Hn (n:=j) Tryz.underlying9 rfl rfl rfl hlt ?_);refine AK (h:=m_ (h:=?_));refine AT false rfl rfl (fun hb6=>?_) (fun hb6=>?_)
  ·have hc6:=bp hb6;refine A3 (h:=A3 (h:=A3 (h:=A3 (h:=AA (h:=e_ (B6 (h:=w_ (a_ (h:=e_ (A4 (AN (A8 (A8 (AN (A8 (?_))))))))))))))));refine A7 ?_;exact vb (by rw[Ho,if_neg (by omega),if_neg hc3,if_neg hc4,Of hlt (by unfold Gj;simp[hc6])])
  have hc6:=bp hb6;refine m_ (h:=m_ (h:=?_));refine B2 (Hn (n:=j) Tryz.underlying9 rfl rfl rfl hlt ?_);refine AK (h:=AE (h:=e_ (?_)));refine A9 rfl (fun hb7=>?_) (fun hb7=>?_)
  ·have hc7:=bp hb7;refine w_ (a_ (h:=e_ (A4 (AN (A8 (A8 (AN (A8 (?_)))))))));refine A7 ?_;exact vb (by rw[Ho,if_neg (by omega),if_neg hc3,if_neg hc4,Of hlt (by unfold Gj;simp[hc7])])
  have hc7:=bp hb7;refine Aq (Ai (t_ (AR (m_ (h:=B8 (h:=a_ (h:=AP (?_))))))));refine AJ ?_;refine⟨_,_,?_,⟨j+1,by omega,rfl,Ra hlt ha (WK hc6 hc7),rfl⟩,(wk 0 0)⟩;omega
 have hc5:=bp hb5;obtain rfl:j=s.size:=by omega
 refine BF (Ah (Ah (BG (t_ (w_ (a_ (h:=e_ (A4 (?_)))))))));refine A7 ?_;exact vb (by rw[Ho,if_neg (by omega),if_neg hc3,if_neg hc4,RZ (fun i hi=>ha i hi hi)])
end
theorem WM(f:Af)(a:AG):Gk f a=decide (12≤(Au f a).entries.length):=by
 unfold Gk Au;cases Bp f a<;>simp[Nod.zero]
theorem WN(f:Af)(a:AG):Hk f a=decide ((Au f a).entries.length=0):=by
 unfold Hk Au;cases Bp f a<;>simp[Nod.zero]
theorem WO{f:Af}{a:AG}{k:Nat}{d:Dvc}{n:Nod}(hk:a.1=(k:Int))(hd:f[k]?=some d)(hn:Bp f a=some n):Fb f a=Bc a.2 d.nodes:=by
 unfold Fb;rw[hn,hk,JP,hd]
section
theorem WP(s:AM)(hs:s.size≤100000):AFn prog 258 [.v (.string s)] (fun r=>r= .v (.bool (JQ s))):=by
 refine enter Tryz.func258 rfl rfl rfl rfl rfl 0 rfl ?_;refine w_ (a_ (h:=e_ (q_ (w_ (a_ (h:=e_ (Ab (?_))))))));refine BT (fun m t=>∃j:Nat,j≤s.size∧m=s.size - j∧(∀i (hi:i<s.size),i<j→(!((s[i].toNat:Int)==0))=true)∧t=⟨look [(0, .v (.string s)),(3, .v (.int .i64 (j:Int)))],⟨[],[]⟩⟩) (s.size) ((wk 0 0)) (⟨0,by omega,rfl,fun i _ hi=>by omega,rfl⟩) ?_;rintro m t ⟨j,hj,rfl,ha,rfl⟩;refine q_ (w_ (m_ (h:=m_ (h:=n_ (h:=B4 (h:=e_ (?_)))))));refine A9 rfl (fun hb1=>?_) (fun hb1=>?_)
 ·have hc1:=bp hb1;have hlt:j<s.size:=by omega
  refine AD (q_ (Ab (w_ (m_ (h:=m_ (h:=?_))))));refine A6 rfl (Hn (n:=j) Tryz.underlying9 rfl rfl rfl hlt ?_);refine AK (h:=e_ (?_));refine A9 rfl (fun hb2=>?_) (fun hb2=>?_)
  ·have hc2:=bp hb2;refine w_ (a_ (h:=e_ (A4 (AN (A8 (A8 (AN (A8 (?_)))))))));refine A7 ?_;exact vb (by unfold JQ;rw[Of hlt (by simp[hc2])];simp)
  have hc2:=bp hb2;refine Aq (Ai (t_ (AR (m_ (h:=B8 (h:=a_ (h:=AP (?_))))))));refine AJ ?_;refine⟨_,_,?_,⟨j+1,by omega,rfl,Ra (p:=fun c=> !((c.toNat:Int)==0)) hlt ha (by simpa using hc2),rfl⟩,(wk 0 0)⟩;omega
 have hc1:=bp hb1;obtain rfl:j=s.size:=by omega
 have hal:=RZ (p:=fun c=> !((c.toNat:Int)==0)) (fun i hi=>ha i hi hi);refine BF (Ah (Ah (BG (t_ (w_ (m_ (h:=n_ (h:=Cm (h:=m_ (h:=?_))))))))));refine AT true rfl rfl (fun hb3=>?_) (fun hb3=>?_)
 ·have hc3:=bp hb3;refine m_ (h:=n_ (h:=Dn (h:=AA (h:=a_ (h:=e_ (A4 (?_)))))));refine A7 ?_;exact vb (by unfold JQ;rw[hal,Bool.eq_iff_iff];simp;omega)
 have hc3:=bp hb3;refine A3 (h:=A3 (h:=A3 (h:=AE (h:=a_ (h:=e_ (A4 (?_)))))));refine A7 ?_;exact vb (by unfold JQ;rw[hal,Bool.eq_iff_iff];simp;omega)
theorem Jv(f:Af)(a:AG)(name:AM)(hf:FlsB f)(hs:name.size≤100000):AFn prog 230 [.agg (At f), .agg (AF a), .v (.string name)] (fun r=>r= .v (.int .i64 (CF f a name))):=by
 refine enter Tryz.func230 rfl rfl rfl rfl rfl 0 rfl ?_;refine w_ (b_ (h:=b_ (h:=a_ (h:=e_ (w_ (l_ (h:=l_ (h:=?_))))))));refine A6 rfl (AB (Ec f a hf) ?_);rintro r rfl;refine m_ (h:=x_ (h:=x_ (h:=Aa (h:=s_ (h:=a_ (h:=e_ (q_ (w_ (m_ (h:=B7 (h:=e_ (?_))))))))))));refine A9 rfl (fun hb1=>?_) (fun hb1=>?_)
 ·have hc1:=bp hb1;have e:=Rr hc1;refine w_ (a_ (h:=e_ (A4 (A8 (?_)))));refine A7 ?_;exact vi (by simp[CF,e])
 have hc1:=bp hb1;have e:=Rq hc1;refine AD (q_ (w_ (f_ (h:=l_ (h:=Ao (h:=e_ (?_)))))));refine A9 rfl (fun hb2=>?_) (fun hb2=>?_)
 ·have hc2:=bp hb2;refine w_ (a_ (h:=e_ (A4 (A8 (?_)))));refine A7 ?_;exact vi (by simp[CF,e,hc2])
 have hc2:=bp hb2;refine AD (q_ (w_ (m_ (h:=?_))));refine A6 rfl (AB (Oj name hs) ?_);rintro r rfl;refine B7 (h:=e_ (?_));refine A9 rfl (fun hb3=>?_) (fun hb3=>?_)
 ·have hc3:=bp hb3;refine w_ (a_ (h:=e_ (A4 (A8 (?_)))));refine A7 ?_;exact vi (by simp only[CF,e];rw[if_pos (by omega),hc3];rfl)
 have hc3:=bp hb3;refine AD (w_ (a_ (h:=e_ (A4 (?_)))));refine A7 ?_;exact vi (by simp only[CF,e];rw[if_pos (by omega),hc3];rfl)
theorem Ok(f:Af)(a:AG)(hf:FlsB f):AFn prog 231 [.agg (At f), .agg (AF a)] (fun r=>r= .v (.bool (Gk f a))):=by
 refine enter Tryz.func231 rfl rfl rfl rfl rfl 0 rfl ?_;refine w_ (b_ (h:=b_ (h:=a_ (h:=e_ (w_ (l_ (h:=l_ (h:=?_))))))));refine A6 rfl (AB (Ec f a hf) ?_);rintro r rfl;refine m_ (h:=x_ (h:=x_ (h:=Aa (h:=s_ (h:=a_ (h:=e_ (w_ (f_ (h:=l_ (h:=n_ (h:=Cm (h:=a_ (h:=e_ (A4 (?_)))))))))))))));refine A7 ?_;exact vb (by rw[WM,Bool.eq_iff_iff];simp;omega)
theorem Rs(f:Af)(a:AG)(hf:FlsB f):AFn prog 235 [.agg (At f), .agg (AF a)] (fun r=>r= .v (.bool (Hk f a))):=by
 refine enter Tryz.func235 rfl rfl rfl rfl rfl 0 rfl ?_;refine w_ (b_ (h:=b_ (h:=a_ (h:=e_ (w_ (l_ (h:=l_ (h:=?_))))))));refine A6 rfl (AB (Ec f a hf) ?_);rintro r rfl;refine m_ (h:=x_ (h:=x_ (h:=Aa (h:=s_ (h:=a_ (h:=e_ (w_ (f_ (h:=l_ (h:=n_ (h:=AK (h:=a_ (h:=e_ (A4 (?_)))))))))))))));refine A7 ?_;exact vb (by rw[WN,Bool.eq_iff_iff];simp)
theorem Rt(n:Nod)(hs:n.target.size≤100000):AFn prog 237 [.agg (Ap n)] (fun r=>r= .v (.bool (EF n))):=by
 have ee:n.target.toList.isEmpty=decide (n.target=⟨#[]⟩):=by
  rw[←Mj n.target ⟨#[]⟩,show(⟨#[]⟩:ByteArray).toList=[] by rw[ByteArray.toList_eq]];cases n.target.toList<;>rfl
 refine enter Tryz.func237 rfl rfl rfl rfl rfl 0 rfl ?_;refine w_ (b_ (h:=a_ (h:=e_ (q_ (?_)))));refine Dt (⟨look [(1, .bp 0 0),(40, .v (.bool (decide (n.kind<1∨3<n.kind∨n.mode<0∨511<n.mode∨n.uid<0∨4294967295<n.uid∨n.gid<0∨4294967295<n.gid))))],⟨[Ap n],[]⟩⟩) ?_ ?_
 ·skip
  refine AR (f_ (h:=l_ (h:=B4 (h:=m_ (h:=?_)))));refine AT false rfl rfl (fun hb1=>?_) (fun hb1=>?_)
  ·have hc1:=bp hb1;refine A3 (h:=A3 (h:=A3 (h:=AA (h:=m_ (h:=A3 (h:=A3 (h:=A3 (h:=AA (h:=m_ (h:=A3 (h:=A3 (h:=A3 (h:=AA (h:=m_ (h:=A3 (h:=A3 (h:=A3 (h:=AA (h:=m_ (h:=A3 (h:=A3 (h:=A3 (h:=AA (h:=?_))))))))))))))))))))))));refine m_ (h:=A3 (h:=A3 (h:=A3 (h:=AA (h:=m_ (h:=A3 (h:=A3 (h:=A3 (h:=AA (h:=AP (?_)))))))))));refine AJ ?_
   first|(exfalso;first|contradiction|omega)|exact Ar 1 0 rfl rfl rfl rfl (by repeat (first|exact Sub.nil|refine As rfl rfl ?_|refine Ay ?_|refine Az rfl ?_|refine B0 rfl ?_|(apply Sub.of;(focus exact rfl);(focus exact LeA.of_eq (vb (by rw[Bool.eq_iff_iff];simp;try omega)));(focus exact rfl))))
  have hc1:=bp hb1;refine f_ (h:=l_ (h:=Ba (h:=AE (h:=m_ (h:=?_)))));refine AT false rfl rfl (fun hb2=>?_) (fun hb2=>?_)
  ·have hc2:=bp hb2;refine A3 (h:=A3 (h:=A3 (h:=AA (h:=m_ (h:=A3 (h:=A3 (h:=A3 (h:=AA (h:=m_ (h:=A3 (h:=A3 (h:=A3 (h:=AA (h:=m_ (h:=A3 (h:=A3 (h:=A3 (h:=AA (h:=m_ (h:=A3 (h:=A3 (h:=A3 (h:=AA (h:=?_))))))))))))))))))))))));refine m_ (h:=A3 (h:=A3 (h:=A3 (h:=AA (h:=AP (?_))))));refine AJ ?_
   first|(exfalso;first|contradiction|omega)|exact Ar 1 0 rfl rfl rfl rfl (by repeat (first|exact Sub.nil|refine As rfl rfl ?_|refine Ay ?_|refine Az rfl ?_|refine B0 rfl ?_|(apply Sub.of;(focus exact rfl);(focus exact LeA.of_eq (vb (by rw[Bool.eq_iff_iff];simp;try omega)));(focus exact rfl))))
  have hc2:=bp hb2;refine f_ (h:=l_ (h:=B4 (h:=AE (h:=m_ (h:=?_)))));refine AT false rfl rfl (fun hb3=>?_) (fun hb3=>?_)
  ·have hc3:=bp hb3;refine A3 (h:=A3 (h:=A3 (h:=AA (h:=m_ (h:=A3 (h:=A3 (h:=A3 (h:=AA (h:=m_ (h:=A3 (h:=A3 (h:=A3 (h:=AA (h:=m_ (h:=A3 (h:=A3 (h:=A3 (h:=AA (h:=m_ (h:=A3 (h:=A3 (h:=A3 (h:=AA (h:=?_))))))))))))))))))))))));refine AP (?_);refine AJ ?_
   first|(exfalso;first|contradiction|omega)|exact Ar 1 0 rfl rfl rfl rfl (by repeat (first|exact Sub.nil|refine As rfl rfl ?_|refine Ay ?_|refine Az rfl ?_|refine B0 rfl ?_|(apply Sub.of;(focus exact rfl);(focus exact LeA.of_eq (vb (by rw[Bool.eq_iff_iff];simp;try omega)));(focus exact rfl))))
  have hc3:=bp hb3;refine f_ (h:=l_ (h:=Ba (h:=AE (h:=m_ (h:=?_)))));refine AT false rfl rfl (fun hb4=>?_) (fun hb4=>?_)
  ·have hc4:=bp hb4;refine A3 (h:=A3 (h:=A3 (h:=AA (h:=m_ (h:=A3 (h:=A3 (h:=A3 (h:=AA (h:=m_ (h:=A3 (h:=A3 (h:=A3 (h:=AA (h:=m_ (h:=A3 (h:=A3 (h:=A3 (h:=AA (h:=AP (?_))))))))))))))))))));refine AJ ?_
   first|(exfalso;first|contradiction|omega)|exact Ar 1 0 rfl rfl rfl rfl (by repeat (first|exact Sub.nil|refine As rfl rfl ?_|refine Ay ?_|refine Az rfl ?_|refine B0 rfl ?_|(apply Sub.of;(focus exact rfl);(focus exact LeA.of_eq (vb (by rw[Bool.eq_iff_iff];simp;try omega)));(focus exact rfl))))
  have hc4:=bp hb4;refine f_ (h:=l_ (h:=B4 (h:=AE (h:=m_ (h:=?_)))));refine AT false rfl rfl (fun hb5=>?_) (fun hb5=>?_)
  ·have hc5:=bp hb5;refine A3 (h:=A3 (h:=A3 (h:=AA (h:=m_ (h:=A3 (h:=A3 (h:=A3 (h:=AA (h:=m_ (h:=A3 (h:=A3 (h:=A3 (h:=AA (h:=AP (?_)))))))))))))));refine AJ ?_
   first|(exfalso;first|contradiction|omega)|exact Ar 1 0 rfl rfl rfl rfl (by repeat (first|exact Sub.nil|refine As rfl rfl ?_|refine Ay ?_|refine Az rfl ?_|refine B0 rfl ?_|(apply Sub.of;(focus exact rfl);(focus exact LeA.of_eq (vb (by rw[Bool.eq_iff_iff];simp;try omega)));(focus exact rfl))))
  have hc5:=bp hb5;refine f_ (h:=l_ (h:=Ba (h:=AE (h:=m_ (h:=?_)))));refine AT false rfl rfl (fun hb6=>?_) (fun hb6=>?_)
  ·have hc6:=bp hb6;refine A3 (h:=A3 (h:=A3 (h:=AA (h:=m_ (h:=A3 (h:=A3 (h:=A3 (h:=AA (h:=AP (?_))))))))));refine AJ ?_
   first|(exfalso;first|contradiction|omega)|exact Ar 1 0 rfl rfl rfl rfl (by repeat (first|exact Sub.nil|refine As rfl rfl ?_|refine Ay ?_|refine Az rfl ?_|refine B0 rfl ?_|(apply Sub.of;(focus exact rfl);(focus exact LeA.of_eq (vb (by rw[Bool.eq_iff_iff];simp;try omega)));(focus exact rfl))))
  have hc6:=bp hb6;refine f_ (h:=l_ (h:=B4 (h:=AE (h:=m_ (h:=?_)))));refine AT false rfl rfl (fun hb7=>?_) (fun hb7=>?_)
  ·have hc7:=bp hb7;refine A3 (h:=A3 (h:=A3 (h:=AA (h:=AP (?_)))));refine AJ ?_
   first|(exfalso;first|contradiction|omega)|exact Ar 1 0 rfl rfl rfl rfl (by repeat (first|exact Sub.nil|refine As rfl rfl ?_|refine Ay ?_|refine Az rfl ?_|refine B0 rfl ?_|(apply Sub.of;(focus exact rfl);(focus exact LeA.of_eq (vb (by rw[Bool.eq_iff_iff];simp;try omega)));(focus exact rfl))))
  have hc7:=bp hb7;refine f_ (h:=l_ (h:=Ba (h:=AE (h:=AP (?_)))));refine AJ ?_
  first|(exfalso;first|contradiction|omega)|exact Ar 1 0 rfl rfl rfl rfl (by repeat (first|exact Sub.nil|refine As rfl rfl ?_|refine Ay ?_|refine Az rfl ?_|refine B0 rfl ?_|(apply Sub.of;(focus exact rfl);(focus exact LeA.of_eq (vb (by rw[Bool.eq_iff_iff];simp;try omega)));(focus exact rfl))))
 skip
 refine A9 rfl (fun hb8=>?_) (fun hb8=>?_)
 ·have hc8:=bp hb8;refine w_ (a_ (h:=e_ (A4 (A8 (?_)))));refine A7 ?_;exact vb (by rw[EF,if_pos hc8])
 have hc8:=bp hb8;refine AD (q_ (w_ (f_ (h:=l_ (h:=AK (h:=e_ (?_)))))));refine A9 rfl (fun hb9=>?_) (fun hb9=>?_)
 ·have hc9:=bp hb9;refine w_ (f_ (h:=l_ (h:=?_)));refine A6 rfl (AB (WP n.target hs) ?_);rintro r rfl;refine a_ (h:=e_ (A4 (A8 (?_))));refine A7 ?_;exact vb (by rw[EF,if_neg hc8,if_pos hc9])
 have hc9:=bp hb9;refine AD (w_ (f_ (h:=l_ (h:=AK (h:=a_ (h:=e_ (A4 (?_))))))));refine A7 ?_;exact vb (by rw[EF,if_neg hc8,if_neg hc9,ee])
theorem WQ(f:Af)(a:AG)(hf:FlsB f):AFn prog 257 [.agg (At f), .agg (AF a)] (fun r=>r= .v (.int .i64 (Fb f a:Int))):=by
 refine enter Tryz.func257 rfl rfl rfl rfl rfl 0 rfl ?_;refine w_ (b_ (h:=b_ (h:=a_ (h:=e_ (q_ (w_ (l_ (h:=l_ (h:=?_)))))))));refine A6 rfl (AB (Hl f a hf) ?_);rintro r rfl;refine B4 (h:=e_ (?_));refine A9 rfl (fun hb1=>?_) (fun hb1=>?_)
 ·have hc1:=bp hb1
  have e:Bp f a=none:=by
   rcases Gi f a with h|⟨k,i,d,n, -, -, -, -,h, -⟩
   ·exact h.2
   exfalso;omega
  refine w_ (a_ (h:=e_ (A4 (A8 (?_)))));refine A7 ?_;exact vi (by simp[Fb,e])
 have hc1:=bp hb1;obtain⟨k,i,d,n,g1,g2,g3,g4,g5,g6⟩:=(Gi f a).resolve_left (fun h=>by omega);have hr1:(f.map Bo)[k]?=some (Bo d):=by rw[List.getElem?_map,g2];rfl
 have hdn:=hf.nodes d (B1 g2);refine AD (w_ (a_ (h:=e_ (w_ (f_ (h:=l_ (h:=f_ (h:=l_ (h:=?_)))))))));refine A6 rfl (DX (n:=k) rfl rfl g1 hr1 ?_);refine f_ (h:=l_ (h:=a_ (h:=e_ (q_ (w_ (a_ (h:=e_ (Ab (?_)))))))));refine BT (fun m s=>∃j c:Nat,j≤d.nodes.length∧m=d.nodes.length - j∧c=Bc a.2 (d.nodes.take j)∧c≤1000 * j∧s=⟨look [(3, .bp 1 0),(5, .v (.int .i64 (c:Int))),(6, .sl 8 (d.nodes.map Ap) none),(7, .v (.int .i64 (j:Int)))],⟨[At f,AF a],[]⟩⟩) (d.nodes.length) ((wk 2 0)) (⟨0,0,by omega,rfl,rfl,by omega,rfl⟩) ?_;rintro m s ⟨j,c,hj,rfl,hcn,hcb,rfl⟩;refine q_ (w_ (m_ (h:=m_ (h:=n_ (h:=B4 (h:=e_ (?_)))))));refine A9 rfl (fun hb2=>?_) (fun hb2=>?_)
 ·have hc2:=bp hb2;obtain⟨hlt,x,hx,hrow, -⟩:=Bt Ap hc2;have hen:=hf.ents d (B1 g2) x (B1 hx);refine AD (q_ (Ab (w_ (a_ (h:=e_ (Ab (?_)))))));refine BT (fun m s=>∃i c2:Nat,i≤x.entries.length∧m=x.entries.length - i∧c2=c+CV a.2 (x.entries.take i)∧c2≤c+i∧s=⟨look [(3, .bp 1 0),(5, .v (.int .i64 (c2:Int))),(6, .sl 8 (d.nodes.map Ap) none),(7, .v (.int .i64 (j:Int))),(8, .v (.int .i64 (i:Int)))],⟨[At f,AF a],[]⟩⟩) (x.entries.length) ((wk 2 0)) (⟨0,c,by omega,rfl,rfl,by omega,rfl⟩) ?_;rintro m s ⟨i,c2,hi,rfl,hc2n,hc2b,rfl⟩;refine q_ (w_ (m_ (h:=m_ (h:=m_ (h:=i_ (h:=f_ (h:=l_ (h:=n_ (h:=B4 (h:=e_ (?_)))))))))));refine A9 rfl (fun hb3=>?_) (fun hb3=>?_)
  ·have hc3:=bp hb3;obtain⟨hlt3,y,hy,hrow3, -⟩:=Bt CG hc3;refine AD (q_ (Ab (q_ (Cj 12 (h:=Ac 0 (h:=Ac 1 (h:=Cl 2 (h:=Aw 3 (h:=AO 4 (h:=Ac 5 (h:=Cl 6 (h:=Aw 7 (h:=AO 8 (h:=Aw 9 (h:=AO 10 (h:=Eb 11 (h:=z_ (h:=t_ (?_)))))))))))))))))));refine A9 rfl (fun hb4=>?_) (fun hb4=>?_)
   ·have hc4:=bp hb4;refine AR (m_ (h:=B8 (h:=a_ (h:=AP (Ai (t_ (AR (m_ (h:=B8 (h:=a_ (h:=AP (?_))))))))))));refine AJ ?_
    first|(refine⟨_,_,?_,⟨i+1,c2+1,by omega,rfl,?_,by omega,rfl⟩,(wk 2 0)⟩<;>first|omega|(rw[Mk hy];simp[hc4];omega))|(refine⟨_,_,?_,⟨i+1,c2,by omega,rfl,?_,by omega,rfl⟩,(wk 2 0)⟩<;>first|omega|(rw[Mk hy];simp[hc4];omega))
   have hc4:=bp hb4;refine Aq (Ai (t_ (AR (m_ (h:=B8 (h:=a_ (h:=AP (?_))))))));refine AJ ?_
   first|(refine⟨_,_,?_,⟨i+1,c2+1,by omega,rfl,?_,by omega,rfl⟩,(wk 2 0)⟩<;>first|omega|(rw[Mk hy];simp[hc4];omega))|(refine⟨_,_,?_,⟨i+1,c2,by omega,rfl,?_,by omega,rfl⟩,(wk 2 0)⟩<;>first|omega|(rw[Mk hy];simp[hc4];omega))
  have hc3:=bp hb3;have e3:=C9 CG hi hc3;subst e3;refine BF (Ah (Ah (BG (Ai (t_ (AR (m_ (h:=B8 (h:=a_ (h:=AP (?_)))))))))));refine AJ ?_;refine⟨_,_,?_,⟨j+1,c2,by omega,rfl,?_,?_,rfl⟩,(wk 2 0)⟩
  ·omega
  ·rw[hc2n,WH hx,List.take_length];omega
  have:=WG a.2 (x.entries.take x.entries.length);simp at this;omega
 have hc2:=bp hb2;have e2:=C9 Ap hj hc2;subst e2;refine BF (Ah (Ah (BG (t_ (w_ (m_ (h:=a_ (h:=e_ (A4 (?_))))))))));refine A7 ?_;exact vi (by rw[WO g1 g2 g6,hcn,List.take_length])
end
end Go.Proofs.YtbgnigjfkbmceaaGreatDoor
