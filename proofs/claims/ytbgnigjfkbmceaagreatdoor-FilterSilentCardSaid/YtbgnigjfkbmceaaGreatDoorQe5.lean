/-
  Part 5 of the proof of FilterSilentP: what the statement's proof uses of the texts in wip/tpl.
-/
import Derived.Laws.StructEq
import Derived.Test.YtbgnigjfkbmceaaGreatDoorQe4
open Go.Proofs.Tryz (prog)
set_option maxRecDepth 10000
set_option maxHeartbeats 4000000
set_option linter.unusedVariables false
set_option linter.unusedSimpArgs false
namespace Go.Proofs.YtbgnigjfkbmceaaGreatDoor
open Go.RowKit
def KL(op a b:Int):Bool:=
 if op=1 then decide (a=b)else if op=2 then !decide (a=b)else if op=3 then decide (a<b)else if op=4 then decide (a≤b)else if op=5 then decide (b<a)
 else if op=6 then decide (b≤a)else if op=7 then !decide (GD .i64 a b=0)else decide (GD .i64 a b=b)
section
theorem VW(op a b:Int)(h1:1≤op)(h2:op≤8):AFn prog 223 [.v (.int .i64 op), .v (.int .i64 a), .v (.int .i64 b)] (fun r=>r= .v (.bool (KL op a b))):=by
 refine enter Tryz.func223 rfl rfl rfl rfl rfl 0 rfl ?_;refine w_ (Bn (h:=e_ (BK (Ar (h:=?_)))));refine A4 rfl (fun hb1 hc1=>?_) (fun hb1 hc1=>?_)
 ·refine AX (h:=D9 (h:=BA (h:=?_)));refine A6 ?_
  first|(exfalso;first|contradiction|omega)|(exact vb (by unfold KL;simp[*]))
 refine Ar (h:=?_);refine A4 rfl (fun hb2 hc2=>?_) (fun hb2 hc2=>?_)
 ·refine E9 (h:=HA (h:=BA (h:=?_)));refine A6 ?_
  first|(exfalso;first|contradiction|omega)|(exact vb (by unfold KL;simp[*]))
 refine Ar (h:=?_);refine A4 rfl (fun hb3 hc3=>?_) (fun hb3 hc3=>?_)
 ·refine E9 (h:=Jn (h:=BA (h:=?_)));refine A6 ?_
  first|(exfalso;first|contradiction|omega)|(exact vb (by unfold KL;simp[*]))
 refine Ar (h:=?_);refine A4 rfl (fun hb4 hc4=>?_) (fun hb4 hc4=>?_)
 ·refine E9 (h:=Gg (h:=BA (h:=?_)));refine A6 ?_
  first|(exfalso;first|contradiction|omega)|(exact vb (by unfold KL;simp[*]))
 refine Ar (h:=?_);refine A4 rfl (fun hb5 hc5=>?_) (fun hb5 hc5=>?_)
 ·refine E9 (h:=E6 (h:=BA (h:=?_)));refine A6 ?_
  first|(exfalso;first|contradiction|omega)|(exact vb (by unfold KL;simp[*]))
 refine Ar (h:=?_);refine A4 rfl (fun hb6 hc6=>?_) (fun hb6 hc6=>?_)
 ·refine E9 (h:=E7 (h:=BA (h:=?_)));refine A6 ?_
  first|(exfalso;first|contradiction|omega)|(exact vb (by unfold KL;simp[*]))
 refine Ar (h:=?_);refine A4 rfl (fun hb7 hc7=>?_) (fun hb7 hc7=>?_)
 ·refine E9 (h:=Eu (h:=HA (h:=BA (h:=?_))));refine A6 ?_
  first|(exfalso;first|contradiction|omega)|(exact vb (by unfold KL;simp[*]))
 refine Ar (h:=?_);refine A4 rfl (fun hb8 hc8=>?_) (fun hb8 hc8=>?_)
 ·refine E9 (h:=Eu (h:=D9 (h:=BA (h:=?_))));refine A6 ?_
  first|(exfalso;first|contradiction|omega)|(exact vb (by unfold KL;simp[*]))
 refine FE (h:=?_);refine A6 ?_
 (exfalso;first|contradiction|omega)
theorem bK(f:Int)(c:Ctx)(k:Cxs)(y:Itm)(h1:15≤f)(h2:f≤21):AFn prog 254 [.v (.int .i64 f), .agg (D5 c k), .agg (FT y)] (fun r=>r= .tup [.v (.int .i64 (Dh f c y)), .v (.bool true)]):=by
 refine enter Tryz.func254 rfl rfl rfl rfl rfl 0 rfl ?_;refine Fd (h:=a_ (h:=Bn (h:=e_ (BK (Ar (h:=?_))))));refine A4 rfl (fun hb1 hc1=>?_) (fun hb1 hc1=>?_)
 ·refine B0 (h:=Fg (h:=?_));refine A6 ?_
  first|(exfalso;first|contradiction|omega)|(exact congrArg (fun z=>AV.tup [.v (.int .i64 z), .v (.bool true)]) (by unfold Dh;simp[*]))
 refine Ar (h:=?_);refine A4 rfl (fun hb2 hc2=>?_) (fun hb2 hc2=>?_)
 ·refine Fe (h:=E7 (h:=e_ (?_)));refine A4 rfl (fun hb3 hc3=>?_) (fun hb3 hc3=>?_)
  ·refine w_ (EO (h:=D1 (h:=?_)));refine A6 ?_
   first|(exfalso;first|contradiction|omega)|(exact congrArg (fun z=>AV.tup [.v (.int .i64 z), .v (.bool true)]) (by unfold Dh;simp[*]))
  refine AF (w_ (Fg (h:=?_)));refine A6 ?_
  first|(exfalso;first|contradiction|omega)|(exact congrArg (fun z=>AV.tup [.v (.int .i64 z), .v (.bool true)]) (by unfold Dh;simp[*]))
 refine Ar (h:=?_);refine A4 rfl (fun hb4 hc4=>?_) (fun hb4 hc4=>?_)
 ·refine w_ (Dp (h:=Fg (h:=?_)));refine A6 ?_
  first|(exfalso;first|contradiction|omega)|(exact congrArg (fun z=>AV.tup [.v (.int .i64 z), .v (.bool true)]) (by unfold Dh;simp[*]))
 refine Ar (h:=?_);refine A4 rfl (fun hb5 hc5=>?_) (fun hb5 hc5=>?_)
 ·refine w_ (Dp (h:=Fg (h:=?_)));refine A6 ?_
  first|(exfalso;first|contradiction|omega)|(exact congrArg (fun z=>AV.tup [.v (.int .i64 z), .v (.bool true)]) (by unfold Dh;simp[*]))
 refine Ar (h:=?_);refine A4 rfl (fun hb6 hc6=>?_) (fun hb6 hc6=>?_)
 ·refine B0 (h:=Fg (h:=?_));refine A6 ?_
  first|(exfalso;first|contradiction|omega)|(exact congrArg (fun z=>AV.tup [.v (.int .i64 z), .v (.bool true)]) (by unfold Dh;simp[*]))
 refine Ar (h:=?_);refine A4 rfl (fun hb7 hc7=>?_) (fun hb7 hc7=>?_)
 ·refine B0 (h:=Fg (h:=?_));refine A6 ?_
  first|(exfalso;first|contradiction|omega)|(exact congrArg (fun z=>AV.tup [.v (.int .i64 z), .v (.bool true)]) (by unfold Dh;simp[*]))
 refine Ar (h:=?_);refine A4 rfl (fun hb8 hc8=>?_) (fun hb8 hc8=>?_)
 ·refine B0 (h:=Fg (h:=?_));refine A6 ?_
  first|(exfalso;first|contradiction|omega)|(exact congrArg (fun z=>AV.tup [.v (.int .i64 z), .v (.bool true)]) (by unfold Dh;simp[*]))
 refine BD (BE (t_ (w_ (a_ (h:=B8 (h:=?_))))));refine A6 ?_
 (exfalso;first|contradiction|omega)
def NumP(f:Int)(c:Ctx)(y:Itm)(r:AV):Prop:=∃n,r= .tup [.v (.int .i64 n), .v (.bool (Br f c))]∧(Br f c=true→n=Dh f c y)
theorem NumP.mk{f n:Int}{c:Ctx}{y:Itm}{b:Bool}(hb:b=Br f c)(hn:Br f c=true→n=Dh f c y):NumP f c y (.tup [.v (.int .i64 n), .v (.bool b)]):=⟨n,by rw[hb],hn⟩
theorem VX(f:Int)(c:Ctx)(k:Cxs)(y:Itm)(h1:1≤f)(h2:f≤22)(ht:EY f=false):AFn prog 222 [.v (.int .i64 f), .agg (D5 c k), .agg (FT y)] (NumP f c y):=by
 simp only[EY,decide_eq_false_iff_not]at ht;refine enter Tryz.func222 rfl rfl rfl rfl rfl 0 rfl ?_;refine Fd (h:=a_ (h:=Bn (h:=e_ (BK (Ar (h:=?_))))));refine A4 rfl (fun hb1 hc1=>?_) (fun hb1 hc1=>?_)
 ·refine w_ (Dp (h:=Fg (h:=?_)));refine A6 ?_
  first|(exfalso;first|contradiction|omega)|(exact NumP.mk (by unfold Br;(repeat' split)<;>(first|omega|(simp[*];done)|(simp;omega)|(simp at *;omega))) (fun hq=>by first|(unfold Dh;simp[*];done)|(unfold Br at hq;simp[*]at hq;omega)|(unfold Br at hq;simp[*]at hq)))
 refine Ar (h:=?_);refine A4 rfl (fun hb2 hc2=>?_) (fun hb2 hc2=>?_)
 ·refine w_ (Dp (h:=Fg (h:=?_)));refine A6 ?_
  first|(exfalso;first|contradiction|omega)|(exact NumP.mk (by unfold Br;(repeat' split)<;>(first|omega|(simp[*];done)|(simp;omega)|(simp at *;omega))) (fun hq=>by first|(unfold Dh;simp[*];done)|(unfold Br at hq;simp[*]at hq;omega)|(unfold Br at hq;simp[*]at hq)))
 refine Ar (h:=?_);refine A4 rfl (fun hb3 hc3=>?_) (fun hb3 hc3=>?_)
 ·refine w_ (Dp (h:=Fg (h:=?_)));refine A6 ?_
  first|(exfalso;first|contradiction|omega)|(exact NumP.mk (by unfold Br;(repeat' split)<;>(first|omega|(simp[*];done)|(simp;omega)|(simp at *;omega))) (fun hq=>by first|(unfold Dh;simp[*];done)|(unfold Br at hq;simp[*]at hq;omega)|(unfold Br at hq;simp[*]at hq)))
 refine Ar (h:=?_);refine A4 rfl (fun hb4 hc4=>?_) (fun hb4 hc4=>?_)
 ·refine w_ (Dp (h:=Fg (h:=?_)));refine A6 ?_
  first|(exfalso;first|contradiction|omega)|(exact NumP.mk (by unfold Br;(repeat' split)<;>(first|omega|(simp[*];done)|(simp;omega)|(simp at *;omega))) (fun hq=>by first|(unfold Dh;simp[*];done)|(unfold Br at hq;simp[*]at hq;omega)|(unfold Br at hq;simp[*]at hq)))
 refine Ar (h:=?_);refine A4 rfl (fun hb5 hc5=>?_) (fun hb5 hc5=>?_)
 ·refine w_ (Dp (h:=Fg (h:=?_)));refine A6 ?_
  first|(exfalso;first|contradiction|omega)|(exact NumP.mk (by unfold Br;(repeat' split)<;>(first|omega|(simp[*];done)|(simp;omega)|(simp at *;omega))) (fun hq=>by first|(unfold Dh;simp[*];done)|(unfold Br at hq;simp[*]at hq;omega)|(unfold Br at hq;simp[*]at hq)))
 refine Ar (h:=?_);refine A4 rfl (fun hb6 hc6=>?_) (fun hb6 hc6=>?_)
 ·refine w_ (Dp (h:=Fg (h:=?_)));refine A6 ?_
  first|(exfalso;first|contradiction|omega)|(exact NumP.mk (by unfold Br;(repeat' split)<;>(first|omega|(simp[*];done)|(simp;omega)|(simp at *;omega))) (fun hq=>by first|(unfold Dh;simp[*];done)|(unfold Br at hq;simp[*]at hq;omega)|(unfold Br at hq;simp[*]at hq)))
 refine Ar (h:=?_);refine A4 rfl (fun hb7 hc7=>?_) (fun hb7 hc7=>?_)
 ·refine w_ (Dp (h:=Fg (h:=?_)));refine A6 ?_
  first|(exfalso;first|contradiction|omega)|(exact NumP.mk (by unfold Br;(repeat' split)<;>(first|omega|(simp[*];done)|(simp;omega)|(simp at *;omega))) (fun hq=>by first|(unfold Dh;simp[*];done)|(unfold Br at hq;simp[*]at hq;omega)|(unfold Br at hq;simp[*]at hq)))
 refine Ar (h:=?_);refine A4 rfl (fun hb8 hc8=>?_) (fun hb8 hc8=>?_)
 ·refine w_ (Dp (h:=Fg (h:=?_)));refine A6 ?_
  first|(exfalso;first|contradiction|omega)|(exact NumP.mk (by unfold Br;(repeat' split)<;>(first|omega|(simp[*];done)|(simp;omega)|(simp at *;omega))) (fun hq=>by first|(unfold Dh;simp[*];done)|(unfold Br at hq;simp[*]at hq;omega)|(unfold Br at hq;simp[*]at hq)))
 refine q_ (Ar (h:=?_));refine A4 rfl (fun hb9 hc9=>?_) (fun hb9 hc9=>?_)
 ·refine AF (CX (h:=AX (h:=Kf (h:=f_ (h:=f_ (h:=?_))))));refine A3 rfl (Bw (n:=0) (len:=4) (sz:=1) (by kernel_rfl) rfl rfl (by omega) rfl ?_);refine l_ (h:=Fg (h:=?_));refine A6 ?_
  first|(exfalso;first|contradiction|omega)|(exact NumP.mk (by unfold Br;(repeat' split)<;>(first|omega|(simp[*];done)|(simp;omega)|(simp at *;omega))) (fun hq=>by first|(unfold Dh;simp[*];done)|(unfold Br at hq;simp[*]at hq;omega)|(unfold Br at hq;simp[*]at hq)))
 refine Ar (h:=?_);refine A4 rfl (fun hb10 hc10=>?_) (fun hb10 hc10=>?_)
 ·refine AF (CX (h:=AX (h:=Kf (h:=f_ (h:=f_ (h:=?_))))))
  first|refine A3 rfl (Bw (n:=0) (len:=4) (sz:=1) (by kernel_rfl) rfl rfl (by omega) rfl ?_)|refine A3 rfl (Bw (n:=1) (len:=4) (sz:=1) (by kernel_rfl) rfl rfl (by omega) rfl ?_)
  refine l_ (h:=Fg (h:=?_));refine A6 ?_
  first|(exfalso;first|contradiction|omega)|(exact NumP.mk (by unfold Br;(repeat' split)<;>(first|omega|(simp[*];done)|(simp;omega)|(simp at *;omega))) (fun hq=>by first|(unfold Dh;simp[*];done)|(unfold Br at hq;simp[*]at hq;omega)|(unfold Br at hq;simp[*]at hq)))
 refine Ar (h:=?_);refine A4 rfl (fun hb11 hc11=>?_) (fun hb11 hc11=>?_)
 ·refine AF (CX (h:=AX (h:=Kf (h:=f_ (h:=f_ (h:=?_))))))
  first|refine A3 rfl (Bw (n:=0) (len:=4) (sz:=1) (by kernel_rfl) rfl rfl (by omega) rfl ?_)|refine A3 rfl (Bw (n:=1) (len:=4) (sz:=1) (by kernel_rfl) rfl rfl (by omega) rfl ?_)|refine A3 rfl (Bw (n:=2) (len:=4) (sz:=1) (by kernel_rfl) rfl rfl (by omega) rfl ?_)
  refine l_ (h:=Fg (h:=?_));refine A6 ?_
  first|(exfalso;first|contradiction|omega)|(exact NumP.mk (by unfold Br;(repeat' split)<;>(first|omega|(simp[*];done)|(simp;omega)|(simp at *;omega))) (fun hq=>by first|(unfold Dh;simp[*];done)|(unfold Br at hq;simp[*]at hq;omega)|(unfold Br at hq;simp[*]at hq)))
 refine Aw (EW (h:=?_));refine A4 rfl (fun hb12 hc12=>?_) (fun hb12 hc12=>?_)
 ·refine AX (h:=Kf (h:=f_ (h:=f_ (h:=?_))))
  first|refine A3 rfl (Bw (n:=0) (len:=4) (sz:=1) (by kernel_rfl) rfl rfl (by omega) rfl ?_)|refine A3 rfl (Bw (n:=1) (len:=4) (sz:=1) (by kernel_rfl) rfl rfl (by omega) rfl ?_)|refine A3 rfl (Bw (n:=2) (len:=4) (sz:=1) (by kernel_rfl) rfl rfl (by omega) rfl ?_)|refine A3 rfl (Bw (n:=3) (len:=4) (sz:=1) (by kernel_rfl) rfl rfl (by omega) rfl ?_)
  refine l_ (h:=Fg (h:=?_));refine A6 ?_
  first|(exfalso;first|contradiction|omega)|(exact NumP.mk (by unfold Br;(repeat' split)<;>(first|omega|(simp[*];done)|(simp;omega)|(simp at *;omega))) (fun hq=>by first|(unfold Dh;simp[*];done)|(unfold Br at hq;simp[*]at hq;omega)|(unfold Br at hq;simp[*]at hq)))
 refine Ar (h:=?_);refine A4 rfl (fun hb13 hc13=>?_) (fun hb13 hc13=>?_)
 ·refine q_ (Dd 7 (h:=AD 0 (h:=A9 1 (h:=AD 2 (h:=A9 3 (h:=Oe 4 (h:=BB 5 (h:=BB 6 (h:=z_ (h:=t_ (B5 (L6 (Ba (?_))))))))))))));refine A6 ?_
  first|(exfalso;first|contradiction|omega)|(exact NumP.mk (by unfold Br;(repeat' split)<;>(first|omega|(simp[*];done)|(simp;omega)|(simp at *;omega))) (fun hq=>by first|(unfold Dh;simp[*];done)|(unfold Br at hq;simp[*]at hq;omega)|(unfold Br at hq;simp[*]at hq)))
 refine BD (BE (t_ (Fe (h:=Bo (h:=?_)))));refine A4 rfl (fun hb14 hc14=>?_) (fun hb14 hc14=>?_)
 ·refine w_ (EO (h:=?_));refine A6 ?_
  first|(exfalso;first|contradiction|omega)|(exact NumP.mk (by unfold Br;(repeat' split)<;>(first|omega|(simp[*];done)|(simp;omega)|(simp at *;omega))) (fun hq=>by first|(unfold Dh;simp[*];done)|(unfold Br at hq;simp[*]at hq;omega)|(unfold Br at hq;simp[*]at hq)))
 refine AF (AX (h:=Hz (h:=?_)));refine A3 rfl (A8 (bK f c k y (by omega) (by omega)) ?_);rintro r rfl;refine Kg (h:=a_ (h:=B8 (h:=?_)));refine A6 ?_
 first|(exfalso;first|contradiction|omega)|(exact NumP.mk (by unfold Br;(repeat' split)<;>(first|omega|(simp[*];done)|(simp;omega)|(simp at *;omega))) (fun hq=>by first|(unfold Dh;simp[*];done)|(unfold Br at hq;simp[*]at hq;omega)|(unfold Br at hq;simp[*]at hq)))
end
theorem VY(s:AE):s=⟨#[]⟩↔s.size=0:=by
 constructor
 ·intro h;rw[h];rfl
 intro h
 cases s with
 |mk a=>
   have:a=#[]:=Array.eq_empty_of_size_eq_zero h;rw[this]
section
theorem VZ(t:Tst)(list:Int):AFn prog 159 [.agg (Cu t), .v (.int .i64 list)] (fun r=>r= .v (.int .i64 (BX t list))):=by
 have hz:=VY t.text;refine enter Tryz.func159 rfl rfl rfl rfl rfl 0 rfl ?_;refine Ef (h:=Bn (h:=Aa (h:=?_)));refine A3 rfl (A8 (VU _ _) ?_);rintro r rfl;refine DA (h:=?_);refine A4 rfl (fun hb1 hc1=>?_) (fun hb1 hc1=>?_)
 ·refine BL (h:=?_);refine A6 ?_
  first|(exfalso;first|contradiction|omega)|(exact vi (by unfold BX;grind))
 refine DQ (h:=FP (h:=?_));refine AJ true rfl rfl (fun hb2 hc2=>?_) (fun hb2 hc2=>?_)
 ·refine m_ (h:=Aa (h:=?_));refine Aq (A8 (VU _ _) ?_);rintro r rfl;refine Eh (h:=?_);refine AJ false rfl rfl (fun hb3 hc3=>?_) (fun hb3 hc3=>?_)
  ·refine BT (h:=Bz (h:=Fh (h:=FS (h:=?_))));refine A6 ?_
   first|(exfalso;first|contradiction|omega)|(exact vi (by unfold BX;grind))
  refine Aa (h:=?_);refine Aq (A8 (VS _) ?_);rintro r rfl;refine DP (h:=Be (h:=?_));refine AJ false rfl rfl (fun hb4 hc4=>?_) (fun hb4 hc4=>?_)
  ·refine Fh (h:=FS (h:=?_));refine A6 ?_
   first|(exfalso;first|contradiction|omega)|(exact vi (by unfold BX;grind))
  refine Aa (h:=?_);refine Aq (A8 (VS _) ?_);rintro r rfl;refine DP (h:=Bx (h:=DY (h:=?_)));refine A4 rfl (fun hb5 hc5=>?_) (fun hb5 hc5=>?_)
  ·refine BL (h:=?_);refine A6 ?_
   first|(exfalso;first|contradiction|omega)|(exact vi (by unfold BX;grind))
  refine DQ (h:=DZ (h:=?_));refine AJ false rfl rfl (fun hb6 hc6=>?_) (fun hb6 hc6=>?_)
  ·refine ER (h:=KJ (h:=Ba (?_)));refine A6 ?_
   first|(exfalso;first|contradiction|omega)|(exact vi (by unfold BX;grind))
  refine J0 (h:=CH (h:=?_));refine A4 rfl (fun hb7 hc7=>?_) (fun hb7 hc7=>?_)
  ·refine BL (h:=?_);refine A6 ?_
   first|(exfalso;first|contradiction|omega)|(exact vi (by unfold BX;grind))
  refine DQ (h:=FP (h:=?_));refine AJ true rfl rfl (fun hb8 hc8=>?_) (fun hb8 hc8=>?_)
  ·refine C6 (h:=Bz (h:=?_));refine AJ true rfl rfl (fun hb9 hc9=>?_) (fun hb9 hc9=>?_)
   ·refine Aa (h:=?_);refine Aq (A8 (J4 _) ?_);rintro r rfl;refine m_ (h:=?_);refine AJ false rfl rfl (fun hb10 hc10=>?_) (fun hb10 hc10=>?_)
    ·refine Gj (h:=FS (h:=?_));refine A6 ?_
     first|(exfalso;first|contradiction|omega)|(exact vi (by unfold BX;grind))
    refine C6 (h:=Bx (h:=FS (h:=?_)));refine A6 ?_
    first|(exfalso;first|contradiction|omega)|(exact vi (by unfold BX;grind))
   refine GH (h:=Dc (h:=FQ (h:=C0 (h:=B0 (h:=FP (h:=C6 (h:=m_ (h:=?_))))))));refine AJ false rfl rfl (fun hb11 hc11=>?_) (fun hb11 hc11=>?_)
   ·refine Gj (h:=EP (h:=D3 (h:=?_)));refine A6 ?_
    first|(exfalso;first|contradiction|omega)|(exact vi (by unfold BX;grind))
   refine C6 (h:=Bx (h:=EP (h:=?_)));refine A4 rfl (fun hb12 hc12=>?_) (fun hb12 hc12=>?_)
   ·refine Bh (h:=?_);refine A6 ?_
    first|(exfalso;first|contradiction|omega)|(exact vi (by unfold BX;grind))
   refine B0 (h:=?_);refine A3 rfl (A8 (J4 _) ?_);rintro r rfl;refine m_ (h:=?_);refine AJ true rfl rfl (fun hb13 hc13=>?_) (fun hb13 hc13=>?_)
   ·refine C6 (h:=m_ (h:=Cs (h:=Be (h:=Fh (h:=EP (h:=D3 (h:=?_)))))));refine A6 ?_
    first|(exfalso;first|contradiction|omega)|(exact vi (by unfold BX;grind))
   refine GH (h:=B7 (h:=JJ (h:=Bx (h:=Fy (h:=B0 (h:=?_))))));refine A3 rfl (A8 (J4 _) ?_);rintro r rfl;refine Eh (h:=C6 (h:=EP (h:=Hv (h:=FE (h:=?_)))));refine A6 ?_
   first|(exfalso;first|contradiction|omega)|(exact vi (by unfold BX;grind))
  refine Fv (h:=GH (h:=Dc (h:=FQ (h:=C0 (h:=B0 (h:=FP (h:=?_)))))));refine C6 (h:=m_ (h:=?_));refine AJ false rfl rfl (fun hb14 hc14=>?_) (fun hb14 hc14=>?_)
  ·refine Gj (h:=EP (h:=D3 (h:=?_)));refine A6 ?_
   first|(exfalso;first|contradiction|omega)|(exact vi (by unfold BX;grind))
  refine C6 (h:=Bx (h:=EP (h:=?_)));refine A4 rfl (fun hb15 hc15=>?_) (fun hb15 hc15=>?_)
  ·refine Bh (h:=?_);refine A6 ?_
   first|(exfalso;first|contradiction|omega)|(exact vi (by unfold BX;grind))
  refine B0 (h:=?_);refine A3 rfl (A8 (J4 _) ?_);rintro r rfl;refine m_ (h:=?_);refine AJ true rfl rfl (fun hb16 hc16=>?_) (fun hb16 hc16=>?_)
  ·refine C6 (h:=m_ (h:=Cs (h:=Be (h:=Fh (h:=EP (h:=D3 (h:=?_)))))));refine A6 ?_
   first|(exfalso;first|contradiction|omega)|(exact vi (by unfold BX;grind))
  refine GH (h:=B7 (h:=JJ (h:=Bx (h:=Fy (h:=B0 (h:=?_))))));refine A3 rfl (A8 (J4 _) ?_);rintro r rfl;refine Eh (h:=C6 (h:=EP (h:=Hv (h:=FE (h:=?_)))));refine A6 ?_
  first|(exfalso;first|contradiction|omega)|(exact vi (by unfold BX;grind))
 refine BT (h:=B7 (h:=L8 (h:=B7 (h:=JJ (h:=FQ (h:=FD (h:=w_ (f_ (h:=?_)))))))));refine l_ (h:=DZ (h:=?_));refine AJ false rfl rfl (fun hb17 hc17=>?_) (fun hb17 hc17=>?_)
 ·refine ER (h:=KJ (h:=Ba (?_)));refine A6 ?_
  first|(exfalso;first|contradiction|omega)|(exact vi (by unfold BX;grind))
 refine J0 (h:=CH (h:=?_));refine A4 rfl (fun hb18 hc18=>?_) (fun hb18 hc18=>?_)
 ·refine BL (h:=?_);refine A6 ?_
  first|(exfalso;first|contradiction|omega)|(exact vi (by unfold BX;grind))
 refine DQ (h:=FP (h:=?_));refine AJ true rfl rfl (fun hb19 hc19=>?_) (fun hb19 hc19=>?_)
 ·refine C6 (h:=Bz (h:=?_));refine AJ true rfl rfl (fun hb20 hc20=>?_) (fun hb20 hc20=>?_)
  ·refine Aa (h:=?_);refine Aq (A8 (J4 _) ?_);rintro r rfl;refine m_ (h:=?_);refine AJ false rfl rfl (fun hb21 hc21=>?_) (fun hb21 hc21=>?_)
   ·refine Gj (h:=FS (h:=?_));refine A6 ?_
    first|(exfalso;first|contradiction|omega)|(exact vi (by unfold BX;grind))
   refine C6 (h:=Bx (h:=DY (h:=Hv (h:=C0 (h:=B0 (h:=FP (h:=GH (h:=Dc (h:=Bx (h:=?_))))))))));refine Fy (h:=B0 (h:=?_));refine A3 rfl (A8 (J4 _) ?_);rintro r rfl;refine m_ (h:=GH (h:=B7 (h:=JJ (h:=Bx (h:=Fy (h:=B0 (h:=?_)))))));refine A3 rfl (A8 (J4 _) ?_);rintro r rfl;refine Eh (h:=C6 (h:=EP (h:=?_)));refine A4 rfl (fun hb22 hc22=>?_) (fun hb22 hc22=>?_)
   ·refine Bh (h:=?_);refine A6 ?_
    first|(exfalso;first|contradiction|omega)|(exact vi (by unfold BX;grind))
   refine FE (h:=?_);refine A6 ?_
   first|(exfalso;first|contradiction|omega)|(exact vi (by unfold BX;grind))
  refine GH (h:=Dc (h:=FQ (h:=C0 (h:=B0 (h:=FP (h:=BT (h:=MG (h:=?_))))))));refine Ms (h:=Dc (h:=Bx (h:=Fy (h:=B0 (h:=?_)))));refine A3 rfl (A8 (J4 _) ?_);rintro r rfl;refine m_ (h:=?_);refine AJ true rfl rfl (fun hb23 hc23=>?_) (fun hb23 hc23=>?_)
  ·refine C6 (h:=m_ (h:=?_));refine AJ false rfl rfl (fun hb24 hc24=>?_) (fun hb24 hc24=>?_)
   ·refine Cg (h:=Fh (h:=EP (h:=D3 (h:=?_))));refine A6 ?_
    first|(exfalso;first|contradiction|omega)|(exact vi (by unfold BX;grind))
   refine Cs (h:=Be (h:=?_));refine AJ false rfl rfl (fun hb25 hc25=>?_) (fun hb25 hc25=>?_)
   ·refine Fh (h:=EP (h:=D3 (h:=?_)));refine A6 ?_
    first|(exfalso;first|contradiction|omega)|(exact vi (by unfold BX;grind))
   refine GG (h:=E6 (h:=Bx (h:=EP (h:=?_))));refine A4 rfl (fun hb26 hc26=>?_) (fun hb26 hc26=>?_)
   ·refine Bh (h:=?_);refine A6 ?_
    first|(exfalso;first|contradiction|omega)|(exact vi (by unfold BX;grind))
   refine B0 (h:=?_);refine A3 rfl (A8 (J4 _) ?_);rintro r rfl;refine Eh (h:=D8 (h:=Fy (h:=FE (h:=?_))));refine A6 ?_
   first|(exfalso;first|contradiction|omega)|(exact vi (by unfold BX;grind))
  refine GH (h:=B7 (h:=JJ (h:=Bx (h:=Fy (h:=B0 (h:=?_))))));refine A3 rfl (A8 (J4 _) ?_);rintro r rfl;refine Eh (h:=C6 (h:=EP (h:=?_)));refine A4 rfl (fun hb27 hc27=>?_) (fun hb27 hc27=>?_)
  ·refine Bh (h:=?_);refine A6 ?_
   first|(exfalso;first|contradiction|omega)|(exact vi (by unfold BX;grind))
  refine FE (h:=?_);refine A6 ?_
  first|(exfalso;first|contradiction|omega)|(exact vi (by unfold BX;grind))
 refine Fv (h:=GH (h:=Dc (h:=FQ (h:=C0 (h:=B0 (h:=FP (h:=?_)))))));refine GH (h:=Dc (h:=Bx (h:=Fy (h:=B0 (h:=?_)))));refine A3 rfl (A8 (J4 _) ?_);rintro r rfl;refine m_ (h:=?_);refine AJ true rfl rfl (fun hb28 hc28=>?_) (fun hb28 hc28=>?_)
 ·refine C6 (h:=m_ (h:=?_));refine AJ false rfl rfl (fun hb29 hc29=>?_) (fun hb29 hc29=>?_)
  ·refine Cg (h:=Fh (h:=EP (h:=D3 (h:=?_))));refine A6 ?_
   first|(exfalso;first|contradiction|omega)|(exact vi (by unfold BX;grind))
  refine Cs (h:=Be (h:=?_));refine AJ false rfl rfl (fun hb30 hc30=>?_) (fun hb30 hc30=>?_)
  ·refine Fh (h:=EP (h:=D3 (h:=?_)));refine A6 ?_
   first|(exfalso;first|contradiction|omega)|(exact vi (by unfold BX;grind))
  refine GG (h:=E6 (h:=Bx (h:=EP (h:=?_))));refine A4 rfl (fun hb31 hc31=>?_) (fun hb31 hc31=>?_)
  ·refine Bh (h:=?_);refine A6 ?_
   first|(exfalso;first|contradiction|omega)|(exact vi (by unfold BX;grind))
  refine B0 (h:=?_);refine A3 rfl (A8 (J4 _) ?_);rintro r rfl;refine Eh (h:=D8 (h:=Fy (h:=FE (h:=?_))));refine A6 ?_
  first|(exfalso;first|contradiction|omega)|(exact vi (by unfold BX;grind))
 refine GH (h:=B7 (h:=JJ (h:=Bx (h:=Fy (h:=B0 (h:=?_))))));refine A3 rfl (A8 (J4 _) ?_);rintro r rfl;refine Eh (h:=C6 (h:=EP (h:=?_)));refine A4 rfl (fun hb32 hc32=>?_) (fun hb32 hc32=>?_)
 ·refine Bh (h:=?_);refine A6 ?_
  first|(exfalso;first|contradiction|omega)|(exact vi (by unfold BX;grind))
 refine FE (h:=?_);refine A6 ?_
 first|(exfalso;first|contradiction|omega)|(exact vi (by unfold BX;grind))
theorem bL(t:Tst)(list:Int):AFn prog 155 [.agg (Cu t), .v (.int .i64 list)] (fun r=>r= .v (.int .i64 (BX t list))):=by
 have hz:=VY t.text;have ho:EY t.fld=true→Ej t.fld=false:=by unfold EY Ej;simp;omega
 refine enter Tryz.func155 rfl rfl rfl rfl rfl 0 rfl ?_;refine Ef (h:=Bn (h:=Aa (h:=?_)));refine A3 rfl (A8 (VV _ _) ?_);rintro r rfl;refine Eh (h:=?_);refine AJ false rfl rfl (fun hb1 hc1=>?_) (fun hb1 hc1=>?_)
 ·refine BT (h:=L8 (h:=L8 (h:=L8 (h:=Ms (h:=Lb (h:=Dc (h:=DY (h:=?_))))))));refine KJ (h:=Ba (?_));refine A6 ?_
  first|(exfalso;first|contradiction|omega)|(exact vi (by unfold BX;grind))
 refine C6 (h:=m_ (h:=?_));refine AJ true rfl rfl (fun hb2 hc2=>?_) (fun hb2 hc2=>?_)
 ·refine m_ (h:=Aa (h:=?_));refine Aq (A8 (VV _ _) ?_);rintro r rfl;refine Eh (h:=?_);refine AJ false rfl rfl (fun hb3 hc3=>?_) (fun hb3 hc3=>?_)
  ·refine BT (h:=Bz (h:=Fh (h:=CZ (h:=CH (h:=KJ (h:=Ba (?_)))))));refine A6 ?_
   first|(exfalso;first|contradiction|omega)|(exact vi (by unfold BX;grind))
  refine Aa (h:=?_);refine Aq (A8 (VT _) ?_);rintro r rfl;refine DP (h:=Be (h:=?_));refine AJ false rfl rfl (fun hb4 hc4=>?_) (fun hb4 hc4=>?_)
  ·refine Fh (h:=CZ (h:=CH (h:=KJ (h:=Ba (?_)))));refine A6 ?_
   first|(exfalso;first|contradiction|omega)|(exact vi (by unfold BX;grind))
  refine Aa (h:=?_);refine Aq (A8 (VT _) ?_);rintro r rfl;refine DP (h:=Bx (h:=CZ (h:=CH (h:=?_))));refine A4 rfl (fun hb5 hc5=>?_) (fun hb5 hc5=>?_)
  ·refine BL (h:=?_);refine A6 ?_
   first|(exfalso;first|contradiction|omega)|(exact vi (by unfold BX;grind))
  refine DQ (h:=DZ (h:=?_));refine AJ false rfl rfl (fun hb6 hc6=>?_) (fun hb6 hc6=>?_)
  ·refine Cg (h:=BT (h:=L8 (h:=JJ (h:=DY (h:=CX (h:=DG (h:=?_)))))));refine B5 (Ba (?_));refine A6 ?_
   first|(exfalso;first|contradiction|omega)|(exact vi (by unfold BX;grind))
  refine J0 (h:=Be (h:=?_));refine AJ false rfl rfl (fun hb7 hc7=>?_) (fun hb7 hc7=>?_)
  ·refine BT (h:=L8 (h:=JJ (h:=FS (h:=?_))));refine A6 ?_
   first|(exfalso;first|contradiction|omega)|(exact vi (by unfold BX;grind))
  refine J0 (h:=m_ (h:=?_));refine AJ true rfl rfl (fun hb8 hc8=>?_) (fun hb8 hc8=>?_)
  ·refine Aa (h:=?_);refine Aq (A8 (MM _) ?_);rintro r rfl;refine m_ (h:=?_);refine AJ false rfl rfl (fun hb9 hc9=>?_) (fun hb9 hc9=>?_)
   ·refine Gj (h:=CZ (h:=CH (h:=KJ (h:=Ba (?_)))));refine A6 ?_
    first|(exfalso;first|contradiction|omega)|(exact vi (by unfold BX;grind))
   refine C6 (h:=Bx (h:=CZ (h:=CH (h:=KJ (h:=Ba (?_))))));refine A6 ?_
   first|(exfalso;first|contradiction|omega)|(exact vi (by unfold BX;grind))
  refine GH (h:=Dc (h:=Bx (h:=FQ (h:=DQ (h:=FP (h:=C6 (h:=m_ (h:=?_))))))));refine AJ false rfl rfl (fun hb10 hc10=>?_) (fun hb10 hc10=>?_)
  ·refine Gj (h:=FS (h:=?_));refine A6 ?_
   first|(exfalso;first|contradiction|omega)|(exact vi (by unfold BX;grind))
  refine C6 (h:=Bx (h:=DY (h:=?_)));refine A4 rfl (fun hb11 hc11=>?_) (fun hb11 hc11=>?_)
  ·refine BL (h:=?_);refine A6 ?_
   first|(exfalso;first|contradiction|omega)|(exact vi (by unfold BX;grind))
  refine DQ (h:=Dy (h:=Fv (h:=GH (h:=B7 (h:=Lb (h:=?_))))));refine MG (h:=Dc (h:=Be (h:=Aa (h:=?_))));refine Aq (A8 (MM _) ?_);rintro r rfl;refine Eh (h:=?_);refine AJ true rfl rfl (fun hb12 hc12=>?_) (fun hb12 hc12=>?_)
  ·refine C6 (h:=CZ (h:=FQ (h:=AF (Jo (h:=?_)))));refine A6 ?_
   first|(exfalso;first|contradiction|omega)|(exact vi (by unfold BX;grind))
  refine D8 (h:=FQ (h:=AF (Jo (h:=?_))));refine A6 ?_
  first|(exfalso;first|contradiction|omega)|(exact vi (by unfold BX;grind))
 refine BT (h:=B7 (h:=L8 (h:=B7 (h:=JJ (h:=Bx (h:=FQ (h:=FD (h:=w_ (?_)))))))));refine Aa (h:=DZ (h:=?_));refine AJ false rfl rfl (fun hb13 hc13=>?_) (fun hb13 hc13=>?_)
 ·refine Cg (h:=BT (h:=L8 (h:=JJ (h:=DY (h:=CX (h:=DG (h:=?_)))))));refine B5 (Ba (?_));refine A6 ?_
  first|(exfalso;first|contradiction|omega)|(exact vi (by unfold BX;grind))
 refine J0 (h:=Be (h:=?_));refine AJ false rfl rfl (fun hb14 hc14=>?_) (fun hb14 hc14=>?_)
 ·refine BT (h:=L8 (h:=JJ (h:=FS (h:=?_))));refine A6 ?_
  first|(exfalso;first|contradiction|omega)|(exact vi (by unfold BX;grind))
 refine J0 (h:=m_ (h:=?_));refine AJ true rfl rfl (fun hb15 hc15=>?_) (fun hb15 hc15=>?_)
 ·refine Aa (h:=?_);refine Aq (A8 (MM _) ?_);rintro r rfl;refine m_ (h:=?_);refine AJ false rfl rfl (fun hb16 hc16=>?_) (fun hb16 hc16=>?_)
  ·refine Gj (h:=CZ (h:=CH (h:=KJ (h:=Ba (?_)))));refine A6 ?_
   first|(exfalso;first|contradiction|omega)|(exact vi (by unfold BX;grind))
  refine C6 (h:=Bx (h:=CZ (h:=FQ (h:=DQ (h:=FP (h:=GH (h:=Dc (h:=Bx (h:=?_)))))))));refine e_ (Hv (h:=DQ (h:=Dy (h:=Aa (h:=?_)))));refine Aq (A8 (MM _) ?_);rintro r rfl;refine Bz (h:=GH (h:=B7 (h:=JJ (h:=Be (h:=Aa (h:=?_))))));refine Aq (A8 (MM _) ?_);rintro r rfl;refine Eh (h:=C6 (h:=CZ (h:=CH (h:=?_))));refine A4 rfl (fun hb17 hc17=>?_) (fun hb17 hc17=>?_)
  ·refine BL (h:=?_);refine A6 ?_
   first|(exfalso;first|contradiction|omega)|(exact vi (by unfold BX;grind))
  refine AF (Jo (h:=?_));refine A6 ?_
  first|(exfalso;first|contradiction|omega)|(exact vi (by unfold BX;grind))
 refine GH (h:=Dc (h:=Bx (h:=FQ (h:=DQ (h:=FP (h:=BT (h:=MG (h:=?_))))))));refine Ms (h:=Dc (h:=FQ (h:=DQ (h:=Dy (h:=Aa (h:=?_))))));refine Aq (A8 (MM _) ?_);rintro r rfl;refine Bz (h:=?_);refine AJ true rfl rfl (fun hb18 hc18=>?_) (fun hb18 hc18=>?_)
 ·refine C6 (h:=m_ (h:=?_));refine AJ false rfl rfl (fun hb19 hc19=>?_) (fun hb19 hc19=>?_)
  ·refine Cg (h:=Fh (h:=Bz (h:=B7 (h:=HG (h:=Lb (h:=Dc (h:=DY (h:=CX (h:=?_)))))))));refine BL (h:=?_);refine A6 ?_
   first|(exfalso;first|contradiction|omega)|(exact vi (by unfold BX;grind))
  refine Cs (h:=Be (h:=?_));refine AJ false rfl rfl (fun hb20 hc20=>?_) (fun hb20 hc20=>?_)
  ·refine Fh (h:=Bz (h:=B7 (h:=HG (h:=Lb (h:=Dc (h:=FS (h:=?_)))))));refine A6 ?_
   first|(exfalso;first|contradiction|omega)|(exact vi (by unfold BX;grind))
  refine GG (h:=E6 (h:=Bx (h:=Bz (h:=?_))));refine AJ false rfl rfl (fun hb21 hc21=>?_) (fun hb21 hc21=>?_)
  ·refine B7 (h:=HG (h:=Lb (h:=Dc (h:=FS (h:=?_)))));refine A6 ?_
   first|(exfalso;first|contradiction|omega)|(exact vi (by unfold BX;grind))
  refine Aa (h:=?_);refine Aq (A8 (MM _) ?_);rintro r rfl;refine Eh (h:=D8 (h:=FQ (h:=AF (Jo (h:=?_)))));refine A6 ?_
  first|(exfalso;first|contradiction|omega)|(exact vi (by unfold BX;grind))
 refine GH (h:=B7 (h:=JJ (h:=Be (h:=Aa (h:=?_)))));refine Aq (A8 (MM _) ?_);rintro r rfl;refine Eh (h:=C6 (h:=CZ (h:=CH (h:=?_))));refine A4 rfl (fun hb22 hc22=>?_) (fun hb22 hc22=>?_)
 ·refine BL (h:=?_);refine A6 ?_
  first|(exfalso;first|contradiction|omega)|(exact vi (by unfold BX;grind))
 refine AF (Jo (h:=?_));refine A6 ?_
 first|(exfalso;first|contradiction|omega)|(exact vi (by unfold BX;grind))
def MN(t:Tst)(c:Ctx):Bool:=decide ((if t.fld=14 then c.comm else c.exe)=t.text)==decide (t.op=1)
def Ng(t:Tst)(c:Ctx)(y:Itm):Bool:=
 if EY t.fld=true then MN t c else KL t.op (Dh t.fld c y) (if t.other=0 then t.num else Dh t.other c y)
def JO(t:Tst)(c:Ctx)(y:Itm):Bool:=
 if EY t.fld=true then MN t c else if Br t.fld c=false then false else if t.other=0 then KL t.op (Dh t.fld c y) t.num else if Br t.other c=false then false else KL t.op (Dh t.fld c y) (Dh t.other c y)
def Va(t:Tst):Prop:=1≤t.fld∧t.fld≤22∧(t.other=0∨1≤t.other∧t.other≤22∧EY t.other=false)∧1≤t.op∧t.op≤8
theorem Vb(t:Tst)(c:Ctx)(k:Cxs)(y:Itm)(ht:Va t):AFn prog 161 [.agg (Cu t), .agg (D5 c k), .agg (FT y)] (fun r=>r= .v (.bool (JO t c y))):=by
 obtain⟨f1,f2,o1,p1,p2⟩:=ht;refine enter Tryz.func161 rfl rfl rfl rfl rfl 0 rfl ?_;refine Fd (h:=b_ (h:=J1 (h:=?_)));refine A3 rfl (A8 (J4 _) ?_);rintro r rfl;refine e_ (?_);refine A4 rfl (fun hb1 hc1=>?_) (fun hb1 hc1=>?_)
 ·refine w_ (Dp (h:=J1 (h:=BN (h:=?_))));refine A4 rfl (fun hb2 hc2=>?_) (fun hb2 hc2=>?_)
  ·refine Aw (Dp (h:=Bu (h:=Cs (h:=Cs (h:=EG (h:=E8 (h:=?_)))))));refine A6 ?_
   first|(exfalso;first|contradiction|omega)|(exact vb (by unfold JO MN;simp_all))
  refine AF (AX (h:=Cs (h:=Cs (h:=EG (h:=E8 (h:=?_))))));refine A6 ?_
  first|(exfalso;first|contradiction|omega)|(exact vb (by unfold JO MN;simp_all))
 refine AF (B0 (h:=Hz (h:=?_)));refine A3 rfl (A8 (VX t.fld c k y f1 f2 hc1) ?_);rintro r ⟨n1,rfl,hn1⟩;refine GF (h:=a_ (h:=Bn (h:=DA (h:=?_))));refine A4 rfl (fun hb3 hc3=>?_) (fun hb3 hc3=>?_)
 ·refine BL (h:=?_);refine A6 ?_
  first|(exfalso;first|contradiction|omega)|(exact vb (by unfold JO MN;simp_all))
 refine AF (B0 (h:=J1 (h:=Bo (h:=?_))));refine A4 rfl (fun hb4 hc4=>?_) (fun hb4 hc4=>?_)
 ·refine B0 (h:=Hz (h:=?_));refine A3 rfl (A8 (VX t.other c k y (by omega) (by omega) (o1.resolve_left hc4).2.2) ?_);rintro r ⟨n2,rfl,hn2⟩;refine GF (h:=a_ (h:=Bu (h:=DA (h:=?_))));refine A4 rfl (fun hb5 hc5=>?_) (fun hb5 hc5=>?_)
  ·refine BL (h:=?_);refine A6 ?_
   first|(exfalso;first|contradiction|omega)|(exact vb (by unfold JO MN;simp_all))
  refine AF (B0 (h:=m_ (h:=m_ (h:=?_))));refine A3 rfl (A8 (VW _ _ _ p1 p2) ?_);rintro r rfl;refine B8 (h:=?_);refine A6 ?_
  first|(exfalso;first|contradiction|omega)|(exact vb (by unfold JO MN;simp_all))
 refine AF (B0 (h:=m_ (h:=m_ (h:=?_))));refine A3 rfl (A8 (VW _ _ _ p1 p2) ?_);rintro r rfl;refine B8 (h:=?_);refine A6 ?_
 first|(exfalso;first|contradiction|omega)|(exact vb (by unfold JO MN;simp_all))
end
theorem Mw{α:Type}{p:α→Bool}{l:List α}{j:Nat}{x:α}(hx:l[j]?=some x)(hp:p x=true)(h:∀i y,i<j→l[i]?=some y→p y=false):l.find? p=some x:=by
 have:=VM hx hp h;rw[←VO,this]
 simpa using hx
theorem Mx{α:Type}{p:α→Bool}{l:List α}(h:∀i y,i<l.length→l[i]?=some y→p y=false):l.find? p=none:=by
 rw[List.find?_eq_none];intro x hx;obtain⟨i,hi,rfl⟩:=List.mem_iff_getElem.1 hx;simp[h i _ hi (B2 hi)]
theorem Vc{f:AR}{a:AB}(h:Du f a=true):CE f a=some (Ac f a):=by
 unfold Du at h;unfold Ac
 cases hn:CE f a with
 |none=>rw[hn]at h;cases h
 |some n=>rfl
theorem Vd{f:AR}{a:AB}(h:Du f a=false):CE f a=none:=by
 unfold Du at h
 cases hn:CE f a with
 |none=>rfl
 |some n=>rw[hn]at h;cases h
section
theorem Kk(f:AR)(a:AB)(name:AE)(hf:FlsB f):AFn prog 134 [.agg (Al f), .agg (AA a), .v (.string name)] (fun r=>r= .tup [.agg (AA (AK f a name).1), .v (.int .i64 (AK f a name).2)]):=by
 have hen:=SZ hf a;refine enter Tryz.func134 rfl rfl rfl rfl rfl 0 rfl ?_;refine Ff (h:=B4 (h:=CN (h:=?_)));refine A3 rfl (A8 (FF f a hf) ?_);rintro r rfl;refine Gr (h:=?_);refine A4 rfl (fun hb1 hc1=>?_) (fun hb1 hc1=>?_)
 ·have e:=Vd hc1;refine Bq (h:=?_);refine A6 ?_;rw[show AK f a name=((0,0),2) by simp[AK,e]];rfl
 have e:=Vc hc1;refine DQ (h:=Bo (h:=?_));refine A4 rfl (fun hb2 hc2=>?_) (fun hb2 hc2=>?_)
 ·refine Bq (h:=?_);refine A6 ?_;rw[show AK f a name=((0,0),20) by simp[AK,e,hc2]];rfl
 refine AF (Ca (h:=?_));refine BU (fun m s=>∃j:Nat,j≤(Ac f a).entries.length∧m=(Ac f a).entries.length - j∧(∀i y,i<j→(Ac f a).entries[i]?=some y→decide (y.1=name)=false)∧s=⟨look [(2, .v (.string name)),(4, .bp 1 0),(6, .bp 2 0),(8, .bp 3 0),(10, .v (.int .i64 (j:Int)))],⟨[Al f,AA a,[.v (.int .i64 0), .v (.int .i64 0)],AZ (Ac f a)],[]⟩⟩) ((Ac f a).entries.length) ((wk 4 0)) (⟨0,by omega,rfl,fun i y hi=>by omega,rfl⟩) ?_;rintro m s ⟨j,hj,rfl,ha,rfl⟩;refine Gs (h:=?_);refine A4 rfl (fun hb3 hc3=>?_) (fun hb3 hc3=>?_)
 ·obtain⟨hlt,x,hy,hrow, -⟩:=C1 Dt hc3;refine C0 (h:=Gt (h:=Fx (h:=BN (h:=?_))));refine A4 rfl (fun hb4 hc4=>?_) (fun hb4 hc4=>?_)
  ·refine q_ (BO ([(0,Al f),(1,AA a),(3,AZ (Ac f a))]) 11 (h:=AD 0 (h:=A9 1 (h:=AD 2 (h:=A9 3 (h:=AG 4 (h:=De 5 (h:=AD 6 (h:=A9 7 (h:=JE 8 (h:=?_)))))))))));refine B6 9 (h:=BB 10 (h:=z_ (h:=t_ (B5 (L6 (Ba (Ba (L6 (Ba (?_))))))))));refine A6 ?_;rw[show AK f a name=((a.1,x.2),0) by simp only[AK,e];rw[if_pos (by omega),Mw hy (by simpa using hc4) ha]];rfl
  refine DH (h:=?_);refine⟨_,_,?_,⟨j+1,by omega,rfl,GL hy ha (by simpa using hc4),rfl⟩,(wk 4 0)⟩;omega
 have e3:=CF Dt hj hc3;subst e3;refine CJ (h:=Jp (h:=B8 (h:=?_)));refine A6 ?_;rw[show AK f a name=((0,0),2) by simp only[AK,e];rw[if_pos (by omega),Mx ha]];rfl
end
theorem Lg{P:Program}{ev:Operand→Option AV}{h:AH}{R:AV→AH→Prop}{d:Option Tmp}{ty:TypeId}{pos:String}{af:Array Edge}{gd:Option (Nat×Bool)}{T:TypeId}{x ix:Operand}{s:ByteArray}{n:Nat}{k:IntKind}{i:Int}(hu:P.underlying T=some .string)
    (hx:ev x=some (.v (.string s))) (hi:ev ix=some (.v (.int k i))) (hn:i=(n:Int)) (hlt:n<s.size) (hR:R (.v (.int .u8 (s[n].toNat:Int))) h):AStep P ⟨d, .index T x ix,ty,pos,af,gd⟩ ev h R:=by
 refine DO (fun _ G w ec _ he=>?_) hR;have h1:=he x (by simp[Op.operands]) _ hx;have h2:=he ix (by simp[Op.operands]) _ hi;simp only[rep]at h1 h2;subst hn;refine⟨.int .u8 (s[n].toNat:Int),?_,by simp only[rep]⟩;have e:s[n]?=some s[n]:=getElem?_pos s n hlt;simp[execOp,h1,h2,Instr.index,asIntOf,run_underlying hu,e]
theorem MO(s:AE):Hc s=if s.size<1∨12<s.size then false else if s=⟨#[46]⟩then false else if s=⟨#[46,46]⟩then false else s.data.toList.all Le:=by
 unfold Hc;have e1:=Qk s ⟨#[46]⟩;have e2:=Qk s ⟨#[46,46]⟩;rw[show(⟨#[46]⟩:ByteArray).toList=[46] by rw[ByteArray.toList_eq]]at e1;rw[show(⟨#[46,46]⟩:ByteArray).toList=[46,46] by rw[ByteArray.toList_eq]]at e2;rw[e1,e2];simp only[decide_eq_true_eq]
theorem bM{c:UInt8}(h1:¬(c.toNat:Int)=0)(h2:¬(c.toNat:Int)=47):Le c=true:=by
 unfold Le;simp;omega
section
theorem Sa(s:AE)(hs:s.size≤100000):AFn prog 136 [.v (.string s)] (fun r=>r= .v (.bool (Hc s))):=by
 refine enter Tryz.func136 rfl rfl rfl rfl rfl 0 rfl ?_;refine w_ (Bn (h:=n_ (h:=DZ (h:=?_))));refine AJ false rfl rfl (fun hb1 hc1=>?_) (fun hb1 hc1=>?_)
 ·refine Cg (h:=B7 (h:=Bz (h:=B7 (h:=FS (h:=?_)))));refine A6 ?_;exact vb (by rw[MO,if_pos (by omega)])
 refine m_ (h:=Gu (h:=Be (h:=?_)));refine AJ false rfl rfl (fun hb2 hc2=>?_) (fun hb2 hc2=>?_)
 ·refine B7 (h:=Bz (h:=B7 (h:=FS (h:=?_))));refine A6 ?_;exact vb (by rw[MO,if_pos (by omega)])
 refine D9 (h:=Be (h:=?_));refine AJ false rfl rfl (fun hb3 hc3=>?_) (fun hb3 hc3=>?_)
 ·refine B7 (h:=FS (h:=?_));refine A6 ?_;exact vb (by rw[MO,if_neg (by omega),if_pos hc3])
 refine D9 (h:=CH (h:=?_));refine A4 rfl (fun hb4 hc4=>?_) (fun hb4 hc4=>?_)
 ·refine BL (h:=?_);refine A6 ?_;exact vb (by rw[MO,if_neg (by omega),if_neg hc3,if_pos hc4])
 refine AF (Ca (h:=?_));refine BU (fun m t=>∃j:Nat,j≤s.size∧m=s.size - j∧(∀i (hi:i<s.size),i<j→Le s[i]=true)∧t=⟨look [(0, .v (.string s)),(3, .v (.int .i64 (j:Int)))],⟨[],[]⟩⟩) (s.size) ((wk 0 0)) (⟨0,by omega,rfl,fun i _ hi=>by omega,rfl⟩) ?_;rintro m t ⟨j,hj,rfl,ha,rfl⟩;refine Dq (h:=Gm (h:=?_));refine A4 rfl (fun hb5 hc5=>?_) (fun hb5 hc5=>?_)
 ·have hlt:j<s.size:=by omega
  refine C0 (h:=E9 (h:=?_));refine A3 rfl (Lg (n:=j) Tryz.underlying9 rfl rfl rfl hlt ?_);refine Dy (h:=?_);refine AJ false rfl rfl (fun hb6 hc6=>?_) (fun hb6 hc6=>?_)
  ·refine BT (h:=DY (h:=D3 (h:=CT (h:=?_))));refine A6 ?_;exact vb (by rw[MO,if_neg (by omega),if_neg hc3,if_neg hc4,SW hlt (by unfold Le;simp[hc6])])
  refine m_ (h:=m_ (h:=?_));refine Aq (Lg (n:=j) Tryz.underlying9 rfl rfl rfl hlt ?_);refine EG (h:=CH (h:=?_));refine A4 rfl (fun hb7 hc7=>?_) (fun hb7 hc7=>?_)
  ·refine Bh (h:=CT (h:=?_));refine A6 ?_;exact vb (by rw[MO,if_neg (by omega),if_neg hc3,if_neg hc4,SW hlt (by unfold Le;simp[hc7])])
  refine DH (h:=?_);refine⟨_,_,?_,⟨j+1,by omega,rfl,VQ hlt ha (bM hc6 hc7),rfl⟩,(wk 0 0)⟩;omega
 obtain rfl:j=s.size:=by omega
 refine HQ (h:=?_);refine A6 ?_;exact vb (by rw[MO,if_neg (by omega),if_neg hc3,if_neg hc4,VP (fun i hi=>ha i hi hi)])
end
theorem bN(f:AR)(a:AB):Lf f a=decide (12≤(Ac f a).entries.length):=by
 unfold Lf Ac;cases CE f a<;>simp[Nod.zero]
theorem bO(f:AR)(a:AB):MJ f a=decide ((Ac f a).entries.length=0):=by
 unfold MJ Ac;cases CE f a<;>simp[Nod.zero]
theorem bP{f:AR}{a:AB}{k:Nat}{d:Dvc}{n:Nod}(hk:a.1=(k:Int))(hd:f[k]?=some d)(hn:CE f a=some n):KK f a=Bj a.2 d.nodes:=by
 unfold KK;rw[hn,hk,Mv,hd]
section
theorem bQ(s:AE)(hs:s.size≤100000):AFn prog 258 [.v (.string s)] (fun r=>r= .v (.bool (Nd s))):=by
 refine enter Tryz.func258 rfl rfl rfl rfl rfl 0 rfl ?_;refine DG (h:=Ca (h:=?_));refine BU (fun m t=>∃j:Nat,j≤s.size∧m=s.size - j∧(∀i (hi:i<s.size),i<j→(!((s[i].toNat:Int)==0))=true)∧t=⟨look [(0, .v (.string s)),(3, .v (.int .i64 (j:Int)))],⟨[],[]⟩⟩) (s.size) ((wk 0 0)) (⟨0,by omega,rfl,fun i _ hi=>by omega,rfl⟩) ?_;rintro m t ⟨j,hj,rfl,ha,rfl⟩;refine Dq (h:=Gm (h:=?_));refine A4 rfl (fun hb1 hc1=>?_) (fun hb1 hc1=>?_)
 ·have hlt:j<s.size:=by omega
  refine C0 (h:=E9 (h:=?_));refine A3 rfl (Lg (n:=j) Tryz.underlying9 rfl rfl rfl hlt ?_);refine BN (h:=?_);refine A4 rfl (fun hb2 hc2=>?_) (fun hb2 hc2=>?_)
  ·refine Bh (h:=CT (h:=?_));refine A6 ?_;exact vb (by unfold Nd;rw[SW hlt (by simp[hc2])];simp)
  refine DH (h:=?_);refine⟨_,_,?_,⟨j+1,by omega,rfl,VQ (p:=fun c=> !((c.toNat:Int)==0)) hlt ha (by simpa using hc2),rfl⟩,(wk 0 0)⟩;omega
 obtain rfl:j=s.size:=by omega
 have hal:=VP (p:=fun c=> !((c.toNat:Int)==0)) (fun i hi=>ha i hi hi);refine CJ (h:=AX (h:=n_ (h:=E7 (h:=m_ (h:=?_)))));refine AJ true rfl rfl (fun hb3 hc3=>?_) (fun hb3 hc3=>?_)
 ·refine m_ (h:=n_ (h:=Gg (h:=Gp (h:=?_))));refine A6 ?_;exact vb (by unfold Nd;rw[hal,Bool.eq_iff_iff];simp;omega)
 refine Gq (h:=?_);refine A6 ?_;exact vb (by unfold Nd;rw[hal,Bool.eq_iff_iff];simp;omega)
theorem Nh(f:AR)(a:AB)(name:AE)(hf:FlsB f)(hs:name.size≤100000):AFn prog 230 [.agg (Al f), .agg (AA a), .v (.string name)] (fun r=>r= .v (.int .i64 (Cb f a name))):=by
 refine enter Tryz.func230 rfl rfl rfl rfl rfl 0 rfl ?_;refine Gl (h:=CN (h:=?_));refine A3 rfl (A8 (FF f a hf) ?_);rintro r rfl;refine Gr (h:=?_);refine A4 rfl (fun hb1 hc1=>?_) (fun hb1 hc1=>?_)
 ·have e:=Vd hc1;refine BL (h:=?_);refine A6 ?_;exact vi (by simp[Cb,e])
 have e:=Vc hc1;refine DQ (h:=Bo (h:=?_));refine A4 rfl (fun hb2 hc2=>?_) (fun hb2 hc2=>?_)
 ·refine BL (h:=?_);refine A6 ?_;exact vi (by simp[Cb,e,hc2])
 refine Ds (h:=?_);refine A3 rfl (A8 (Sa name hs) ?_);rintro r rfl;refine DA (h:=?_);refine A4 rfl (fun hb3 hc3=>?_) (fun hb3 hc3=>?_)
 ·refine BL (h:=?_);refine A6 ?_;exact vi (by simp only[Cb,e];rw[if_pos (by omega),hc3];rfl)
 refine AF (Jo (h:=?_));refine A6 ?_;exact vi (by simp only[Cb,e];rw[if_pos (by omega),hc3];rfl)
theorem Sb(f:AR)(a:AB)(hf:FlsB f):AFn prog 231 [.agg (Al f), .agg (AA a)] (fun r=>r= .v (.bool (Lf f a))):=by
 refine enter Tryz.func231 rfl rfl rfl rfl rfl 0 rfl ?_;refine Gl (h:=CN (h:=?_));refine A3 rfl (A8 (FF f a hf) ?_);rintro r rfl;refine FC (h:=B4 (h:=B0 (h:=n_ (h:=E7 (h:=B8 (h:=?_))))));refine A6 ?_;exact vb (by rw[bN,Bool.eq_iff_iff];simp;omega)
theorem Ve(f:AR)(a:AB)(hf:FlsB f):AFn prog 235 [.agg (Al f), .agg (AA a)] (fun r=>r= .v (.bool (MJ f a))):=by
 refine enter Tryz.func235 rfl rfl rfl rfl rfl 0 rfl ?_;refine Gl (h:=CN (h:=?_));refine A3 rfl (A8 (FF f a hf) ?_);rintro r rfl;refine FC (h:=B4 (h:=B0 (h:=n_ (h:=EG (h:=B8 (h:=?_))))));refine A6 ?_;exact vb (by rw[bO,Bool.eq_iff_iff];simp)
theorem Vf(n:Nod)(hs:n.target.size≤100000):AFn prog 237 [.agg (AZ n)] (fun r=>r= .v (.bool (Hd n))):=by
 have ee:n.target.toList.isEmpty=decide (n.target=⟨#[]⟩):=by
  rw[←Qk n.target ⟨#[]⟩,show(⟨#[]⟩:ByteArray).toList=[] by rw[ByteArray.toList_eq]];cases n.target.toList<;>rfl
 refine enter Tryz.func237 rfl rfl rfl rfl rfl 0 rfl ?_;refine Ef (h:=B4 (h:=q_ (?_)));refine Kd (⟨look [(1, .bp 0 0),(40, .v (.bool (decide (n.kind<1∨3<n.kind∨n.mode<0∨511<n.mode∨n.uid<0∨4294967295<n.uid∨n.gid<0∨4294967295<n.gid))))],⟨[AZ n],[]⟩⟩) ?_ ?_
 ·skip
  refine Aw (Aa (h:=DZ (h:=?_)));refine AJ false rfl rfl (fun hb1 hc1=>?_) (fun hb1 hc1=>?_)
  ·refine Cg (h:=Cg (h:=Cg (h:=Cg (h:=Gj (h:=?_)))));refine m_ (h:=Cg (h:=J2 (h:=?_)))
   first|(exfalso;first|contradiction|omega)|exact Ao 1 0 rfl rfl rfl rfl (by repeat (first|exact Sub.nil|refine Ap rfl rfl ?_|refine At ?_|refine Au rfl ?_|refine Av rfl ?_|(apply Sub.of;(focus exact rfl);(focus exact LeA.of_eq (vb (by rw[Bool.eq_iff_iff];simp;try omega)));(focus exact rfl))))
  refine J0 (h:=Be (h:=?_));refine AJ false rfl rfl (fun hb2 hc2=>?_) (fun hb2 hc2=>?_)
  ·refine Cg (h:=Cg (h:=Cg (h:=Cg (h:=Gj (h:=?_)))));refine m_ (h:=J2 (h:=?_))
   first|(exfalso;first|contradiction|omega)|exact Ao 1 0 rfl rfl rfl rfl (by repeat (first|exact Sub.nil|refine Ap rfl rfl ?_|refine At ?_|refine Au rfl ?_|refine Av rfl ?_|(apply Sub.of;(focus exact rfl);(focus exact LeA.of_eq (vb (by rw[Bool.eq_iff_iff];simp;try omega)));(focus exact rfl))))
  refine Aa (h:=Jn (h:=Be (h:=?_)));refine AJ false rfl rfl (fun hb3 hc3=>?_) (fun hb3 hc3=>?_)
  ·refine Cg (h:=Cg (h:=Cg (h:=Cg (h:=Gj (h:=?_)))));refine DC (h:=?_)
   first|(exfalso;first|contradiction|omega)|exact Ao 1 0 rfl rfl rfl rfl (by repeat (first|exact Sub.nil|refine Ap rfl rfl ?_|refine At ?_|refine Au rfl ?_|refine Av rfl ?_|(apply Sub.of;(focus exact rfl);(focus exact LeA.of_eq (vb (by rw[Bool.eq_iff_iff];simp;try omega)));(focus exact rfl))))
  refine J0 (h:=Be (h:=?_));refine AJ false rfl rfl (fun hb4 hc4=>?_) (fun hb4 hc4=>?_)
  ·refine Cg (h:=Cg (h:=Cg (h:=J2 (h:=?_))))
   first|(exfalso;first|contradiction|omega)|exact Ao 1 0 rfl rfl rfl rfl (by repeat (first|exact Sub.nil|refine Ap rfl rfl ?_|refine At ?_|refine Au rfl ?_|refine Av rfl ?_|(apply Sub.of;(focus exact rfl);(focus exact LeA.of_eq (vb (by rw[Bool.eq_iff_iff];simp;try omega)));(focus exact rfl))))
  refine Aa (h:=Jn (h:=Be (h:=?_)));refine AJ false rfl rfl (fun hb5 hc5=>?_) (fun hb5 hc5=>?_)
  ·refine Cg (h:=Cg (h:=J2 (h:=?_)))
   first|(exfalso;first|contradiction|omega)|exact Ao 1 0 rfl rfl rfl rfl (by repeat (first|exact Sub.nil|refine Ap rfl rfl ?_|refine At ?_|refine Au rfl ?_|refine Av rfl ?_|(apply Sub.of;(focus exact rfl);(focus exact LeA.of_eq (vb (by rw[Bool.eq_iff_iff];simp;try omega)));(focus exact rfl))))
  refine J0 (h:=Be (h:=?_));refine AJ false rfl rfl (fun hb6 hc6=>?_) (fun hb6 hc6=>?_)
  ·refine Cg (h:=J2 (h:=?_))
   first|(exfalso;first|contradiction|omega)|exact Ao 1 0 rfl rfl rfl rfl (by repeat (first|exact Sub.nil|refine Ap rfl rfl ?_|refine At ?_|refine Au rfl ?_|refine Av rfl ?_|(apply Sub.of;(focus exact rfl);(focus exact LeA.of_eq (vb (by rw[Bool.eq_iff_iff];simp;try omega)));(focus exact rfl))))
  refine Aa (h:=Jn (h:=Be (h:=?_)));refine AJ false rfl rfl (fun hb7 hc7=>?_) (fun hb7 hc7=>?_)
  ·refine J2 (h:=?_)
   first|(exfalso;first|contradiction|omega)|exact Ao 1 0 rfl rfl rfl rfl (by repeat (first|exact Sub.nil|refine Ap rfl rfl ?_|refine At ?_|refine Au rfl ?_|refine Av rfl ?_|(apply Sub.of;(focus exact rfl);(focus exact LeA.of_eq (vb (by rw[Bool.eq_iff_iff];simp;try omega)));(focus exact rfl))))
  refine J0 (h:=Fi (h:=?_))
  first|(exfalso;first|contradiction|omega)|exact Ao 1 0 rfl rfl rfl rfl (by repeat (first|exact Sub.nil|refine Ap rfl rfl ?_|refine At ?_|refine Au rfl ?_|refine Av rfl ?_|(apply Sub.of;(focus exact rfl);(focus exact LeA.of_eq (vb (by rw[Bool.eq_iff_iff];simp;try omega)));(focus exact rfl))))
 skip
 refine A4 rfl (fun hb8 hc8=>?_) (fun hb8 hc8=>?_)
 ·refine BL (h:=?_);refine A6 ?_;exact vb (by rw[Hd,if_pos hc8])
 refine DQ (h:=BN (h:=?_));refine A4 rfl (fun hb9 hc9=>?_) (fun hb9 hc9=>?_)
 ·refine B0 (h:=?_);refine A3 rfl (A8 (bQ n.target hs) ?_);rintro r rfl;refine E8 (h:=?_);refine A6 ?_;exact vb (by rw[Hd,if_neg hc8,if_pos hc9])
 refine AF (B0 (h:=EG (h:=B8 (h:=?_))));refine A6 ?_;exact vb (by rw[Hd,if_neg hc8,if_neg hc9,ee])
theorem bR(f:AR)(a:AB)(hf:FlsB f):AFn prog 257 [.agg (Al f), .agg (AA a)] (fun r=>r= .v (.int .i64 (KK f a:Int))):=by
 refine enter Tryz.func257 rfl rfl rfl rfl rfl 0 rfl ?_;refine Gl (h:=q_ (CN (h:=?_)));refine A3 rfl (A8 (ML f a hf) ?_);rintro r rfl;refine D2 (h:=?_);refine A4 rfl (fun hb1 hc1=>?_) (fun hb1 hc1=>?_)
 ·have e:CE f a=none:=by
   rcases Ld f a with h|⟨k,i,d,n, -, -, -, -,h, -⟩
   ·exact h.2
   exfalso;omega
  refine BL (h:=?_);refine A6 ?_;exact vi (by simp[KK,e])
 obtain⟨k,i,d,n,g1,g2,g3,g4,g5,g6⟩:=(Ld f a).resolve_left (fun h=>by omega);have hr1:(f.map Cc)[k]?=some (Cc d):=by rw[List.getElem?_map,g2];rfl
 have hdn:=hf.nodes d (Aj g2);refine AF (DG (h:=Hy (h:=?_)));refine A3 rfl (D7 (n:=k) rfl rfl g1 hr1 ?_);refine Aa (h:=B4 (h:=Ca (h:=?_)));refine BU (fun m s=>∃j c:Nat,j≤d.nodes.length∧m=d.nodes.length - j∧c=Bj a.2 (d.nodes.take j)∧c≤1000 * j∧s=⟨look [(3, .bp 1 0),(5, .v (.int .i64 (c:Int))),(6, .sl 8 (d.nodes.map AZ) none),(7, .v (.int .i64 (j:Int)))],⟨[Al f,AA a],[]⟩⟩) (d.nodes.length) ((wk 2 0)) (⟨0,0,by omega,rfl,rfl,by omega,rfl⟩) ?_;rintro m s ⟨j,c,hj,rfl,hcn,hcb,rfl⟩;refine Dq (h:=Gm (h:=?_));refine A4 rfl (fun hb2 hc2=>?_) (fun hb2 hc2=>?_)
 ·obtain⟨hlt,x,hx,hrow, -⟩:=C1 AZ hc2;have hen:=hf.ents d (Aj g2) x (Aj hx);refine C0 (h:=Nc (h:=?_));refine BU (fun m s=>∃i c2:Nat,i≤x.entries.length∧m=x.entries.length - i∧c2=c+DJ a.2 (x.entries.take i)∧c2≤c+i∧s=⟨look [(3, .bp 1 0),(5, .v (.int .i64 (c2:Int))),(6, .sl 8 (d.nodes.map AZ) none),(7, .v (.int .i64 (j:Int))),(8, .v (.int .i64 (i:Int)))],⟨[Al f,AA a],[]⟩⟩) (x.entries.length) ((wk 2 0)) (⟨0,c,by omega,rfl,rfl,by omega,rfl⟩) ?_;rintro m s ⟨i,c2,hi,rfl,hc2n,hc2b,rfl⟩;refine Dq (h:=Fw (h:=GG (h:=D2 (h:=?_))));refine A4 rfl (fun hb3 hc3=>?_) (fun hb3 hc3=>?_)
  ·obtain⟨hlt3,y,hy,hrow3, -⟩:=C1 Dt hc3;refine AF (q_ (BK (q_ (Dd 12 (h:=AG 0 (h:=AG 1 (h:=De 2 (h:=AD 3 (h:=A9 4 (h:=AG 5 (h:=De 6 (h:=AD 7 (h:=A9 8 (h:=AD 9 (h:=A9 10 (h:=Jm 11 (h:=z_ (h:=t_ (?_)))))))))))))))))));refine A4 rfl (fun hb4 hc4=>?_) (fun hb4 hc4=>?_)
   ·refine Mt (h:=Eg (h:=?_))
    (refine⟨_,_,?_,⟨i+1,c2+1,by omega,rfl,?_,by omega,rfl⟩,(wk 2 0)⟩<;>first|omega|(rw[SX hy];simp[hc4];omega))
   refine DH (h:=?_)
   first|(refine⟨_,_,?_,⟨i+1,c2+1,by omega,rfl,?_,by omega,rfl⟩,(wk 2 0)⟩<;>first|omega|(rw[SX hy];simp[hc4];omega))|(refine⟨_,_,?_,⟨i+1,c2,by omega,rfl,?_,by omega,rfl⟩,(wk 2 0)⟩<;>first|omega|(rw[SX hy];simp[hc4];omega))
  have e3:=CF Dt hi hc3;subst e3;refine Kh (h:=Eg (h:=?_));refine⟨_,_,?_,⟨j+1,c2,by omega,rfl,?_,?_,rfl⟩,(wk 2 0)⟩
  ·omega
  ·rw[hc2n,bJ hx,List.take_length];omega
  have:=bH a.2 (x.entries.take x.entries.length);simp at this;omega
 have e2:=CF AZ hj hc2;subst e2;refine CJ (h:=EA (h:=?_));refine A6 ?_;exact vi (by rw[bP g1 g2 g6,hcn,List.take_length])
end
def GM(m:E0):List AV:=[.v (.int .i64 m.1), .v (.int .i64 m.2.1), .v (.int .i64 m.2.2)]
def AY(s:Spc):List AV:=[.sl 2 (s.files.map Cc) none, .sl 3 (s.mounts.map GM) none]
structure SpcB(s:Spc):Prop where
 files:FlsB s.files
 few:s.mounts.length≤1000
def C8(s:Spc)(dev:Int):Option AB:=(s.mounts.find? fun m:E0=>decide (m.1=dev)).map (·.2)
def Di(s:Spc)(a:AB):Option Int:=(s.mounts.find? fun m:E0=>decide (m.2=a)).map (·.1)
def DL(s:Spc)(dev:Int):Bool:=(C8 s dev).isSome||decide (dev=0)
section
theorem Sc(op:BinOp)(a b c d:Int)(w:World):(op= .eql∨op= .neq)→(binOp op 26 (.agg #[.int .i64 a, .int .i64 b]) (.agg #[.int .i64 c, .int .i64 d])).run prog w= .ok (.bool (decide ((a,b)=(c,d))==decide (op= .eql))) w:=by
 have u3:=Tryz.underlying3;have a3:=Tryz.isAgg3;have z3:=Tryz.sizeOf3;have hS:prog.underlying 26=some (.struct (prog.fieldsOf 26)):=by kernel_rfl
 have hp:prog.stoodInHeld 26=false:=by kernel_rfl
 have e:∀w,(Op.equalIn 10000 26 (.agg #[.int .i64 a, .int .i64 b]) (.agg #[.int .i64 c, .int .i64 d])).run prog w= .ok (a==c&&b==d) w:=by
  intro w;rw[show(10000:Nat)=9999+1 from rfl,run_equalIn_agg w 9999 26 _ _ hS hp];simp only[Program.fieldsOf,Tryz.underlying26]
  go_simp
  by_cases h1:a=c<;>by_cases h2:b=d<;>simp[h1,h2]
 rintro(rfl|rfl)
 ·rw[run_eql_struct,e];by_cases h1:a=c<;>by_cases h2:b=d<;>simp[h1,h2]
 rw[run_neq_struct,e];by_cases h1:a=c<;>by_cases h2:b=d<;>simp[h1,h2]
theorem Of(a b c d:Int)(w:World):(binOp .eql 26 (.agg #[.int .i64 a, .int .i64 b]) (.agg #[.int .i64 c, .int .i64 d])).run prog w= .ok (.bool (decide ((a,b)=(c,d)))) w:=by
 rw[Sc .eql a b c d w (.inl rfl)];by_cases h:(a,b)=(c,d)<;>simp[h]
theorem Sd(a b c d:Int)(w:World):(binOp .neq 26 (.agg #[.int .i64 a, .int .i64 b]) (.agg #[.int .i64 c, .int .i64 d])).run prog w= .ok (.bool (!decide ((a,b)=(c,d)))) w:=by
 rw[Sc .neq a b c d w (.inr rfl)];by_cases h:(a,b)=(c,d)<;>simp[h]
theorem Se(s:Spc)(dev:Int)(hs:SpcB s):AFn prog 180 [.agg (AY s), .v (.int .i64 dev)] (fun r=>r= .tup [.agg (AA ((C8 s dev).getD (0,0))), .v (.bool (C8 s dev).isSome)]):=by
 have hfew:=hs.few;refine enter Tryz.func180 rfl rfl rfl rfl rfl 0 rfl ?_;refine EH (h:=B4 (h:=Ca (h:=?_)));refine BU (fun m t=>∃j:Nat,j≤s.mounts.length∧m=s.mounts.length - j∧(∀i y,i<j→s.mounts[i]?=some y→decide (y.1=dev)=false)∧t=⟨look [(1, .v (.int .i64 dev)),(2, .bp 0 0),(4, .bp 1 0),(6, .v (.int .i64 (j:Int)))],⟨[AY s,[.v (.int .i64 0), .v (.int .i64 0)]],[]⟩⟩) (s.mounts.length) ((wk 2 0)) (⟨0,by omega,rfl,fun i y hi=>by omega,rfl⟩) ?_;rintro m t ⟨j,hj,rfl,ha,rfl⟩;refine Gs (h:=?_);refine A4 rfl (fun hb1 hc1=>?_) (fun hb1 hc1=>?_)
 ·obtain⟨hlt,x,hy,hrow, -⟩:=C1 GM hc1;refine C0 (h:=Gt (h:=Fx (h:=BN (h:=?_))));refine A4 rfl (fun hb2 hc2=>?_) (fun hb2 hc2=>?_)
  ·refine Gt (h:=Aa (h:=s_ (h:=BA (h:=CT (h:=?_)))));refine A6 ?_;rw[show C8 s dev=some x.2 by simp only[C8];rw[Mw hy (by simpa using hc2) ha];rfl];rfl
  refine DH (h:=?_);refine⟨_,_,?_,⟨j+1,by omega,rfl,GL hy ha (by simpa using hc2),rfl⟩,(wk 2 0)⟩;omega
 have e3:=CF GM hj hc1;subst e3;refine CJ (h:=Jp (h:=B8 (h:=?_)));refine A6 ?_;rw[show C8 s dev=none by simp only[C8];rw[Mx ha];rfl];rfl
theorem Og(s:Spc)(dev:Int)(hs:SpcB s):AFn prog 124 [.agg (AY s), .v (.int .i64 dev)] (fun r=>r= .v (.bool (DL s dev))):=by
 refine enter Tryz.func124 rfl rfl rfl rfl rfl 0 rfl ?_;refine Ef (h:=B4 (h:=FR (h:=?_)));refine A3 rfl (A8 (Se s dev hs) ?_);rintro r rfl;refine FC (h:=Bu (h:=m_ (h:=?_)));refine AJ false rfl rfl (fun hb1 hc1=>?_) (fun hb1 hc1=>?_)
 ·refine B7 (h:=Gp (h:=?_));refine A6 ?_;exact vb (by unfold DL;rw[hc1];simp)
 refine D9 (h:=Bx (h:=B8 (h:=?_)));refine A6 ?_;exact vb (by unfold DL;rw[hc1];simp)
theorem Vg(s:Spc)(a:AB)(hs:SpcB s):AFn prog 181 [.agg (AY s), .agg (AA a)] (fun r=>r= .tup [.v (.int .i64 ((Di s a).getD 0)), .v (.bool (Di s a).isSome)]):=by
 have hfew:=hs.few;refine enter Tryz.func181 rfl rfl rfl rfl rfl 0 rfl ?_;refine Fd (h:=a_ (h:=B4 (h:=Ca (h:=?_))));refine BU (fun m t=>∃j:Nat,j≤s.mounts.length∧m=s.mounts.length - j∧(∀i y,i<j→s.mounts[i]?=some y→decide (y.2=a)=false)∧t=⟨look [(2, .bp 0 0),(3, .bp 1 0),(6, .v (.int .i64 (j:Int)))],⟨[AY s,AA a],[]⟩⟩) (s.mounts.length) ((wk 2 0)) (⟨0,by omega,rfl,fun i y hi=>by omega,rfl⟩) ?_;rintro m t ⟨j,hj,rfl,ha,rfl⟩;refine Gs (h:=?_);refine A4 rfl (fun hb1 hc1=>?_) (fun hb1 hc1=>?_)
 ·obtain⟨hlt,x,hy,hrow, -⟩:=C1 GM hc1;refine AF (q_ (BK (q_ (Dd 8 (h:=AD 0 (h:=A9 1 (h:=AG 2 (h:=De 3 (h:=AD 4 (h:=A9 5 (h:=A9 6 (h:=?_))))))))))));refine FO (i:=7) rfl (JB rfl rfl (by repeat constructor) (by repeat constructor) (fun w=>Of _ _ _ _ w) (by kernel_rfl) ⟨rfl,rfl⟩) ?_;refine z_ (h:=t_ (?_));refine A4 rfl (fun hb2 hc2=>?_) (fun hb2 hc2=>?_)
  ·refine Gt (h:=Aa (h:=Fg (h:=CT (h:=?_))));refine A6 ?_;rw[show Di s a=some x.1 by simp only[Di];rw[Mw hy (decide_eq_true hc2) ha];rfl];rfl
  refine DH (h:=?_);refine⟨_,_,?_,⟨j+1,by omega,rfl,GL hy ha (decide_eq_false hc2),rfl⟩,(wk 2 0)⟩;omega
 have e3:=CF GM hj hc1;subst e3;refine CJ (h:=w_ (a_ (h:=B8 (h:=?_))));refine A6 ?_;rw[show Di s a=none by simp only[Di];rw[Mx ha];rfl];rfl
theorem Vh(s:Spc)(a:AB)(hs:SpcB s):AFn prog 125 [.agg (AY s), .agg (AA a)] (fun r=>r= .v (.bool (Di s a).isSome)):=by
 refine enter Tryz.func125 rfl rfl rfl rfl rfl 0 rfl ?_;refine Gl (h:=CN (h:=?_));refine A3 rfl (A8 (Vg s a hs) ?_);rintro r rfl;refine GF (h:=a_ (h:=Bu (h:=B8 (h:=?_))));refine A6 ?_;rfl
theorem bS(s:Spc)(dev:Int)(hs:SpcB s):AFn prog 229 [.agg (AY s), .v (.int .i64 dev)] (fun r=>r= .tup [.agg (AA ((C8 s dev).getD (0,0))), .v (.bool (C8 s dev).isSome)]):=by
 have hfew:=hs.few;refine enter Tryz.func229 rfl rfl rfl rfl rfl 0 rfl ?_;refine EH (h:=J1 (h:=JK (h:=e_ (BK (?_)))));refine BU (fun m t=>∃j:Nat,j≤s.mounts.length∧m=s.mounts.length - j∧(∀i y,i<j→s.mounts[i]?=some y→decide (y.1=dev)=false)∧t=⟨look [(1, .v (.int .i64 dev)),(4, .bp 1 0),(9, .sl 3 (s.mounts.map GM) none),(10, .v (.int .i64 ((s.mounts.map GM).length:Int))),(11, .v (.int .i64 (j:Int)))],⟨[AY s,[.v (.int .i64 0), .v (.int .i64 0)]],[]⟩⟩) (s.mounts.length) ((wk 2 0)) (⟨0,by omega,rfl,fun i y hi=>by omega,rfl⟩) ?_;rintro m t ⟨j,hj,rfl,ha,rfl⟩;refine w_ (D2 (h:=q_ (?_)));refine A4 rfl (fun hb1 hc1=>?_) (fun hb1 hc1=>?_)
 ·obtain⟨hlt,x,hy,hrow, -⟩:=C1 GM hc1;refine C0 (h:=w_ (i_ (h:=JH (h:=B0 (h:=m_ (h:=BN (h:=?_)))))));refine A4 rfl (fun hb2 hc2=>?_) (fun hb2 hc2=>?_)
  ·refine B0 (h:=s_ (h:=BA (h:=CT (h:=?_))));refine A6 ?_;rw[show C8 s dev=some x.2 by simp only[C8];rw[Mw hy (by simpa using hc2) ha];rfl];rfl
  refine BD (BE (t_ (Aw (J3 (h:=?_)))));refine⟨_,_,?_,⟨j+1,by omega,rfl,GL hy ha (by simpa using hc2),rfl⟩,(wk 2 0)⟩;omega
 have e3:=CF GM hj hc1;subst e3;refine CJ (h:=Jp (h:=B8 (h:=?_)));refine A6 ?_;rw[show C8 s dev=none by simp only[C8];rw[Mx ha];rfl];rfl
end
def L9(t:Tst):Nat→Bool
 |0=>false
 |k+1=>L9 t k||decide (BX t ((k:Int)+1)=0)
def MP(t:Tst):Bool:=L9 t 5
theorem Oh(t:Tst):∀k,L9 t k=true↔∃j:Nat,j<k∧BX t ((j:Int)+1)=0
 |0=>by simp[L9]
 |k+1=>by
   simp only[L9,Bool.or_eq_true,Oh t k,decide_eq_true_eq];constructor
   ·rintro(⟨j,h1,h2⟩|h)
    ·exact⟨j,by omega,h2⟩
    exact⟨k,by omega,h⟩
   rintro⟨j,h1,h2⟩;rcases Nat.lt_or_ge j k with h|h
   ·exact .inl ⟨j,h,h2⟩
   have:j=k:=by omega
   subst this;exact .inr h2
theorem bT{t:Tst}{k:Nat}(hk:k≤5)(h:L9 t k=true):MP t=true:=by
 obtain⟨j,h1,h2⟩:=(Oh t k).1 h;exact(Oh t 5).2 ⟨j,by omega,h2⟩
theorem bU{t:Tst}{k:Nat}(hk:k≤5)(h5:5≤k)(h:L9 t k=false):MP t=false:=by
 obtain rfl:k=5:=by omega
 exact h
theorem Vi{list f:Int}(h:Ei list f=true):1≤f∧f≤22:=by
 unfold Ei Co at h
 (repeat' split at h)<;>simp at h<;>omega
theorem Vj{f:Int}(h:Ej f=true):EY f=false:=by
 unfold Ej at h;unfold EY;simp at h ⊢;omega
theorem Vk{t:Tst}(h:MP t=true):Va t:=by
 obtain⟨j,_,h2⟩:=(Oh t 5).1 h;generalize (j:Int)+1=list at h2;unfold BX at h2;split at h2
 ·cases h2
 rename_i h3;split at h2
 ·cases h2
 rename_i h4;simp only[not_or,not_and]at h3 h4;have ha:=Vi (by simpa using h3.1);refine⟨ha.1,ha.2,?_,by omega,by omega⟩;by_cases ho:t.other=0
 ·exact .inl ho
 obtain⟨h5,h6,h7⟩:=h3.2 ho;have hb:=Vi (list:=list) (f:=t.other) (by simpa using h5);exact .inr ⟨hb.1,hb.2,Vj (by simpa using h7)⟩
def Ni(y:Itm):Bool:= !decide (y.file=(0,0))
def My(t:Tst)(c:Ctx):Bool:=
 if MP t=false then false else if Kj t.fld=false∧Kj t.other=false then JO t c Itm.zero else c.items.any fun y=>Ni y&&JO t c y
def Qm(t:Tst)(c:Ctx):Bool:=
 if MP t=false∨Jq t.fld c=false∨t.other≠0∧Jq t.other c=false then false else if Kj t.fld=false∧Kj t.other=false then Ng t c Itm.zero else c.items.any fun y=>Ni y&&Ng t c y
theorem Vl{α:Type}(p:α→Bool)(l:List α)(k:Nat){x:α}(hx:l[k]?=some x):(l.take (k+1)).any p=((l.take k).any p||p x):=by
 obtain⟨hk,e⟩:=Ab.1 hx;rw[List.take_succ_eq_append_getElem hk,List.any_append,e];simp
theorem bV{α:Type}{p:α→Bool}{l:List α}{k:Nat}{x:α}(hx:l[k]?=some x)(h:p x=true):l.any p=true:=
 List.any_eq_true.2 ⟨x,Aj hx,h⟩
section
theorem bW(a b c d:Int)(w:World):(binOp .neq 26 (.agg #[.int .i64 a, .int .i64 b]) (.agg #[.int .i64 c, .int .i64 d])).run prog w= .ok (.bool (!decide ((a,b)=(c,d)))) w:=by
 rw[Sc .neq a b c d w (.inr rfl)];simp
theorem bX(t:Tst)(c:Ctx)(k:Cxs)(hn:c.items.length≤1000):AFn prog 113 [.agg (Cu t), .agg (D5 c k)] (fun r=>r= .v (.bool (My t c))):=by
 refine enter Tryz.func113 rfl rfl rfl rfl rfl 0 rfl ?_;refine Gl (h:=DG (h:=Ca (h:=?_)));refine BU (fun n s=>∃j:Nat,j≤5∧n=5 - j∧s=⟨look [(2, .bp 0 0),(3, .bp 1 0),(4, .v (.bool false)),(5, .v (.bool (L9 t j))),(6, .v (.int .i64 ((j:Int)+1)))],⟨[Cu t,D5 c k],[]⟩⟩) (5) ((wk 2 0)) (⟨0,by omega,rfl,rfl⟩) ?_;rintro n s ⟨j,hj,rfl,rfl⟩;refine Bk (h:=Gg (h:=e_ (?_)));refine A4 rfl (fun hb1 hc1=>?_) (fun hb1 hc1=>?_)
 ·refine C0 (h:=EQ (h:=?_));refine AJ false rfl rfl (fun hb2 hc2=>?_) (fun hb2 hc2=>?_)
  ·refine Fh (h:=Gk (h:=Eg (h:=?_)));refine⟨_,_,?_,⟨j+1,by omega,rfl,rfl⟩,Ao 2 0 rfl rfl rfl rfl (by repeat (first|exact Sub.nil|refine Ap rfl rfl ?_|refine At ?_|refine Au rfl ?_|refine Av rfl ?_|(apply Sub.of;(focus exact rfl);(focus exact LeA.of_eq (vb (by simp[L9, *])));(focus exact rfl))))⟩;omega
  refine Gv (h:=?_);refine Aq (A8 (VZ _ _) ?_);rintro r rfl;refine EG (h:=Bx (h:=Gk (h:=Eg (h:=?_))));refine⟨_,_,?_,⟨j+1,by omega,rfl,rfl⟩,Ao 2 0 rfl rfl rfl rfl (by repeat (first|exact Sub.nil|refine Ap rfl rfl ?_|refine At ?_|refine Au rfl ?_|refine Av rfl ?_|(apply Sub.of;(focus exact rfl);(focus exact LeA.of_eq (vb (by simp[L9, *])));(focus exact rfl))))⟩;omega
 refine CJ (h:=Bk (h:=DA (h:=?_)));refine A4 rfl (fun hb3 hc3=>?_) (fun hb3 hc3=>?_)
 ·have hs:=bU hj (by omega) hc3;refine BL (h:=?_);refine A6 ?_
  first|(exfalso;first|contradiction|omega)|(exact vb (by simp[My,hs]))
 have hs:=bT hj hc3;have ht:=Vk hs;refine FD (h:=?_);refine Kd (⟨look [(2, .bp 0 0),(3, .bp 1 0),(4, .v (.bool false)),(31, .v (.bool (!Kj t.fld&& !Kj t.other)))],⟨[Cu t,D5 c k],[]⟩⟩) ?_ ?_
 ·skip
  refine Aw (Aa (h:=?_));refine A3 rfl (A8 (VR _) ?_);rintro r rfl;refine Eh (h:=?_);refine AJ true rfl rfl (fun hb4 hc4=>?_) (fun hb4 hc4=>?_)
  ·refine Aa (h:=?_);refine Aq (A8 (VR _) ?_);rintro r rfl;refine DP (h:=JL (h:=?_))
   first|(exfalso;first|contradiction|omega)|exact Ao 2 0 rfl rfl rfl rfl (by repeat (first|exact Sub.nil|refine Ap rfl rfl ?_|refine At ?_|refine Au rfl ?_|refine Av rfl ?_|(apply Sub.of;(focus exact rfl);(focus exact LeA.of_eq (vb (by simp[*])));(focus exact rfl))))
  refine BT (h:=Fi (h:=?_))
  first|(exfalso;first|contradiction|omega)|exact Ao 2 0 rfl rfl rfl rfl (by repeat (first|exact Sub.nil|refine Ap rfl rfl ?_|refine At ?_|refine Au rfl ?_|refine Av rfl ?_|(apply Sub.of;(focus exact rfl);(focus exact LeA.of_eq (vb (by simp[*])));(focus exact rfl))))
 skip
 refine A4 rfl (fun hb5 hc5=>?_) (fun hb5 hc5=>?_)
 ·simp at hc5;refine CN (h:=Bi (h:=?_));refine A3 rfl (A8 (Vb t c k Itm.zero ht) ?_);rintro r rfl;refine E8 (h:=?_);refine A6 ?_
  first|(exfalso;first|contradiction|omega)|(exact vb (by simp[My,hs,hc5]))
 have hi:¬(Kj t.fld=false∧Kj t.other=false):=by simpa using hc5
 refine DQ (h:=JK (h:=e_ (BK (?_))));refine BU (fun n s=>∃j:Nat,j≤c.items.length∧n=c.items.length - j∧(c.items.take j).any (fun y=>Ni y&&JO t c y)=false∧s=⟨look [(2, .bp 0 0),(3, .bp 1 0),(37, .sl 13 (c.items.map FT) none),(38, .v (.int .i64 ((c.items.map FT).length:Int))),(39, .v (.int .i64 (j:Int)))],⟨[Cu t,D5 c k],[]⟩⟩) (c.items.length) ((wk 2 0)) (⟨0,by omega,rfl,rfl,rfl⟩) ?_;rintro n s ⟨j,hj,rfl,ha,rfl⟩;refine w_ (D2 (h:=q_ (?_)));refine A4 rfl (fun hb6 hc6=>?_) (fun hb6 hc6=>?_)
 ·obtain⟨hlt,y,hy,hrow, -⟩:=C1 FT hc6;refine C0 (h:=w_ (i_ (h:=JH (h:=B0 (h:=Bi (h:=?_))))));refine A3 rfl (JB rfl rfl (by repeat constructor) (by repeat constructor) (fun w=>bW _ _ _ _ w) (by kernel_rfl) ?_);refine m_ (h:=?_);refine AJ true rfl rfl (fun hb7 hc7=>?_) (fun hb7 hc7=>?_)
  ·refine Hz (h:=l_ (h:=?_));refine Aq (A8 (Vb t c k y ht) ?_);rintro r rfl;refine DY (h:=?_);refine A4 rfl (fun hb8 hc8=>?_) (fun hb8 hc8=>?_)
   ·refine Bh (h:=CT (h:=?_));refine A6 ?_
    first|(exfalso;first|contradiction|omega)|(exact vb (by rw[My,if_neg (by simp[hs]),if_neg hi,bV hy (by simp[Ni, *])]))
   refine BD (BE (t_ (Aw (J3 (h:=?_)))));refine⟨_,_,?_,⟨j+1,by omega,rfl,(by rw[Vl _ _ _ hy,ha];simp[Ni, *]),rfl⟩,(wk 2 0)⟩;omega
  refine BT (h:=FQ (h:=BD (BE (t_ (Aw (J3 (h:=?_)))))));refine⟨_,_,?_,⟨j+1,by omega,rfl,(by rw[Vl _ _ _ hy,ha];simp[Ni, *]),rfl⟩,(wk 2 0)⟩;omega
 have e:=CF FT hj hc6;subst e;rw[List.take_length]at ha;refine HQ (h:=?_);refine A6 ?_
 first|(exfalso;first|contradiction|omega)|(exact vb (by rw[My,if_neg (by simp[hs]),if_neg hi,ha]))
end
theorem bY{t:Tst}(h:MP t=true)(h2:t.other≠0):EY t.fld=false:=by
 obtain⟨j,_,h3⟩:=(Oh t 5).1 h;unfold BX at h3;split at h3
 ·cases h3
 rename_i h4;simp only[not_or,not_and]at h4;exact Vj (by simpa using(h4.2 h2).2.1)
theorem Vm{f:Int}{c:Ctx}(h1:1≤f)(h2:f≤22)(h3:EY f=false):Br f c=Jq f c:=by
 simp only[EY,decide_eq_false_iff_not]at h3;unfold Br Jq
 (repeat' split)<;>first|omega|(simp;omega)|(simp[*];done)|rfl
theorem bZ{f:Int}{c:Ctx}(h:EY f=true):Jq f c=true:=by
 simp only[EY,decide_eq_true_eq]at h;unfold Jq;rw[if_neg (by omega)];simp;omega
theorem c8{t:Tst}{c:Ctx}(hs:MP t=true)(y:Itm):JO t c y=if Jq t.fld c=false∨t.other≠0∧Jq t.other c=false then false else Ng t c y:=by
 obtain⟨f1,f2,o, -, -⟩:=Vk hs;have h2:=bY hs;by_cases ht:EY t.fld=true
 ·have ho:t.other=0:=Classical.byContradiction fun e=>by simp[h2 e]at ht
  rw[if_neg (by simp[bZ ht,ho])];simp[JO,Ng,ht]
 have ht':EY t.fld=false:=by simpa using ht
 have e1:=Vm (c:=c) f1 f2 ht';by_cases h0:t.other=0
 ·simp only[JO,Ng,ht',e1,h0];cases Jq t.fld c<;>simp
 obtain⟨o1,o2,o3⟩:=o.resolve_left h0;have e2:=Vm (c:=c) o1 o2 o3;simp only[JO,Ng,ht',e1,e2,h0];cases Jq t.fld c<;>cases Jq t.other c<;>simp[h0]
theorem Vn(t:Tst)(c:Ctx):My t c=Qm t c:=by
 unfold My Qm
 cases hs:MP t with
 |false=>simp
 |true=>
   simp only[c8 hs];by_cases hq:Jq t.fld c=false∨t.other≠0∧Jq t.other c=false
   ·simp[hq]
   simp[hq]
end Go.Proofs.YtbgnigjfkbmceaaGreatDoor
