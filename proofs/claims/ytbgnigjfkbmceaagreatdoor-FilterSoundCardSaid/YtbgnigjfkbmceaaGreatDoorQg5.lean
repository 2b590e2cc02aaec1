/-
  Part 5 of the proof of FilterSoundP: what the statement's proof uses of the texts in wip/tpl.
-/
import Derived.Laws.StructEq
import Derived.Test.YtbgnigjfkbmceaaGreatDoorQg4
open Go.Proofs.Tryz (prog)
set_option maxRecDepth 10000
set_option maxHeartbeats 4000000
set_option linter.unusedVariables false
set_option linter.unusedSimpArgs false
namespace Go.Proofs.YtbgnigjfkbmceaaGreatDoor
open Go.RowKit
def Gv(op a b:Int):Bool:=
 if op=1 then decide (a=b)else if op=2 then !decide (a=b)else if op=3 then decide (a<b)else if op=4 then decide (a≤b)else if op=5 then decide (b<a)
 else if op=6 then decide (b≤a)else if op=7 then !decide (JG .i64 a b=0)else decide (JG .i64 a b=b)
section
theorem Sv(op a b:Int)(h1:1≤op)(h2:op≤8):AFn prog 223 [.v (.int .i64 op), .v (.int .i64 a), .v (.int .i64 b)] (fun r=>r= .v (.bool (Gv op a b))):=by
 refine enter Tryz.func223 rfl rfl rfl rfl rfl 0 rfl ?_;refine w_ (Bi (h:=e_ (BL (B6 (h:=?_)))));refine A6 rfl (fun hb1 hc1=>?_) (fun hb1 hc1=>?_)
 ·refine Aa (h:=CX (h:=BK (h:=?_)));refine A4 ?_
  first|(exfalso;first|contradiction|omega)|(exact vb (by unfold Gv;simp[*]))
 refine B6 (h:=?_);refine A6 rfl (fun hb2 hc2=>?_) (fun hb2 hc2=>?_)
 ·refine EJ (h:=Gs (h:=BK (h:=?_)));refine A4 ?_
  first|(exfalso;first|contradiction|omega)|(exact vb (by unfold Gv;simp[*]))
 refine B6 (h:=?_);refine A6 rfl (fun hb3 hc3=>?_) (fun hb3 hc3=>?_)
 ·refine EJ (h:=Hs (h:=BK (h:=?_)));refine A4 ?_
  first|(exfalso;first|contradiction|omega)|(exact vb (by unfold Gv;simp[*]))
 refine B6 (h:=?_);refine A6 rfl (fun hb4 hc4=>?_) (fun hb4 hc4=>?_)
 ·refine EJ (h:=FL (h:=BK (h:=?_)));refine A4 ?_
  first|(exfalso;first|contradiction|omega)|(exact vb (by unfold Gv;simp[*]))
 refine B6 (h:=?_);refine A6 rfl (fun hb5 hc5=>?_) (fun hb5 hc5=>?_)
 ·refine EJ (h:=Fk (h:=BK (h:=?_)));refine A4 ?_
  first|(exfalso;first|contradiction|omega)|(exact vb (by unfold Gv;simp[*]))
 refine B6 (h:=?_);refine A6 rfl (fun hb6 hc6=>?_) (fun hb6 hc6=>?_)
 ·refine EJ (h:=E5 (h:=BK (h:=?_)));refine A4 ?_
  first|(exfalso;first|contradiction|omega)|(exact vb (by unfold Gv;simp[*]))
 refine B6 (h:=?_);refine A6 rfl (fun hb7 hc7=>?_) (fun hb7 hc7=>?_)
 ·refine EJ (h:=O2 (h:=Gs (h:=BK (h:=?_))));refine A4 ?_
  first|(exfalso;first|contradiction|omega)|(exact vb (by unfold Gv;simp[*]))
 refine B6 (h:=?_);refine A6 rfl (fun hb8 hc8=>?_) (fun hb8 hc8=>?_)
 ·refine EJ (h:=O2 (h:=CX (h:=BK (h:=?_))));refine A4 ?_
  first|(exfalso;first|contradiction|omega)|(exact vb (by unfold Gv;simp[*]))
 refine As (Am (EX (h:=?_)));refine A4 ?_
 (exfalso;first|contradiction|omega)
theorem XZ(f:Int)(c:Ctx)(k:Cxs)(y:Itm)(h1:15≤f)(h2:f≤21):AFn prog 254 [.v (.int .i64 f), .agg (EB c k), .agg (EA y)] (fun r=>r= .tup [.v (.int .i64 (Cn f c y)), .v (.bool true)]):=by
 refine enter Tryz.func254 rfl rfl rfl rfl rfl 0 rfl ?_;refine EV (h:=a_ (h:=Bi (h:=e_ (BL (B6 (h:=?_))))));refine A6 rfl (fun hb1 hc1=>?_) (fun hb1 hc1=>?_)
 ·refine Ah (h:=EK (h:=?_));refine A4 ?_
  first|(exfalso;first|contradiction|omega)|(exact congrArg (fun z=>AV.tup [.v (.int .i64 z), .v (.bool true)]) (by unfold Cn;simp[*]))
 refine B6 (h:=?_);refine A6 rfl (fun hb2 hc2=>?_) (fun hb2 hc2=>?_)
 ·refine F7 (h:=E5 (h:=e_ (?_)));refine A6 rfl (fun hb3 hc3=>?_) (fun hb3 hc3=>?_)
  ·refine w_ (KS (h:=Bj (h:=?_)));refine A4 ?_
   first|(exfalso;first|contradiction|omega)|(exact congrArg (fun z=>AV.tup [.v (.int .i64 z), .v (.bool true)]) (by unfold Cn;simp[*]))
  refine AK (w_ (EK (h:=?_)));refine A4 ?_
  first|(exfalso;first|contradiction|omega)|(exact congrArg (fun z=>AV.tup [.v (.int .i64 z), .v (.bool true)]) (by unfold Cn;simp[*]))
 refine B6 (h:=?_);refine A6 rfl (fun hb4 hc4=>?_) (fun hb4 hc4=>?_)
 ·refine w_ (Fy (h:=EK (h:=?_)));refine A4 ?_
  first|(exfalso;first|contradiction|omega)|(exact congrArg (fun z=>AV.tup [.v (.int .i64 z), .v (.bool true)]) (by unfold Cn;simp[*]))
 refine B6 (h:=?_);refine A6 rfl (fun hb5 hc5=>?_) (fun hb5 hc5=>?_)
 ·refine w_ (Fy (h:=EK (h:=?_)));refine A4 ?_
  first|(exfalso;first|contradiction|omega)|(exact congrArg (fun z=>AV.tup [.v (.int .i64 z), .v (.bool true)]) (by unfold Cn;simp[*]))
 refine B6 (h:=?_);refine A6 rfl (fun hb6 hc6=>?_) (fun hb6 hc6=>?_)
 ·refine Ah (h:=EK (h:=?_));refine A4 ?_
  first|(exfalso;first|contradiction|omega)|(exact congrArg (fun z=>AV.tup [.v (.int .i64 z), .v (.bool true)]) (by unfold Cn;simp[*]))
 refine B6 (h:=?_);refine A6 rfl (fun hb7 hc7=>?_) (fun hb7 hc7=>?_)
 ·refine Ah (h:=EK (h:=?_));refine A4 ?_
  first|(exfalso;first|contradiction|omega)|(exact congrArg (fun z=>AV.tup [.v (.int .i64 z), .v (.bool true)]) (by unfold Cn;simp[*]))
 refine B6 (h:=?_);refine A6 rfl (fun hb8 hc8=>?_) (fun hb8 hc8=>?_)
 ·refine Ah (h:=EK (h:=?_));refine A4 ?_
  first|(exfalso;first|contradiction|omega)|(exact congrArg (fun z=>AV.tup [.v (.int .i64 z), .v (.bool true)]) (by unfold Cn;simp[*]))
 refine As (Am (t_ (w_ (KS (h:=?_)))));refine A4 ?_
 (exfalso;first|contradiction|omega)
def NumP(f:Int)(c:Ctx)(y:Itm)(r:AV):Prop:=∃n,r= .tup [.v (.int .i64 n), .v (.bool (BW f c))]∧(BW f c=true→n=Cn f c y)
theorem NumP.mk{f n:Int}{c:Ctx}{y:Itm}{b:Bool}(hb:b=BW f c)(hn:BW f c=true→n=Cn f c y):NumP f c y (.tup [.v (.int .i64 n), .v (.bool b)]):=⟨n,by rw[hb],hn⟩
theorem Sw(f:Int)(c:Ctx)(k:Cxs)(y:Itm)(h1:1≤f)(h2:f≤22)(ht:DM f=false):AFn prog 222 [.v (.int .i64 f), .agg (EB c k), .agg (EA y)] (NumP f c y):=by
 simp only[DM,decide_eq_false_iff_not]at ht;refine enter Tryz.func222 rfl rfl rfl rfl rfl 0 rfl ?_;refine EV (h:=a_ (h:=Bi (h:=e_ (BL (B6 (h:=?_))))));refine A6 rfl (fun hb1 hc1=>?_) (fun hb1 hc1=>?_)
 ·refine w_ (Fy (h:=EK (h:=?_)));refine A4 ?_
  first|(exfalso;first|contradiction|omega)|(exact NumP.mk (by unfold BW;(repeat' split)<;>(first|omega|(simp[*];done)|(simp;omega)|(simp at *;omega))) (fun hq=>by first|(unfold Cn;simp[*];done)|(unfold BW at hq;simp[*]at hq;omega)|(unfold BW at hq;simp[*]at hq)))
 refine B6 (h:=?_);refine A6 rfl (fun hb2 hc2=>?_) (fun hb2 hc2=>?_)
 ·refine w_ (Fy (h:=EK (h:=?_)));refine A4 ?_
  first|(exfalso;first|contradiction|omega)|(exact NumP.mk (by unfold BW;(repeat' split)<;>(first|omega|(simp[*];done)|(simp;omega)|(simp at *;omega))) (fun hq=>by first|(unfold Cn;simp[*];done)|(unfold BW at hq;simp[*]at hq;omega)|(unfold BW at hq;simp[*]at hq)))
 refine B6 (h:=?_);refine A6 rfl (fun hb3 hc3=>?_) (fun hb3 hc3=>?_)
 ·refine w_ (Fy (h:=EK (h:=?_)));refine A4 ?_
  first|(exfalso;first|contradiction|omega)|(exact NumP.mk (by unfold BW;(repeat' split)<;>(first|omega|(simp[*];done)|(simp;omega)|(simp at *;omega))) (fun hq=>by first|(unfold Cn;simp[*];done)|(unfold BW at hq;simp[*]at hq;omega)|(unfold BW at hq;simp[*]at hq)))
 refine B6 (h:=?_);refine A6 rfl (fun hb4 hc4=>?_) (fun hb4 hc4=>?_)
 ·refine w_ (Fy (h:=EK (h:=?_)));refine A4 ?_
  first|(exfalso;first|contradiction|omega)|(exact NumP.mk (by unfold BW;(repeat' split)<;>(first|omega|(simp[*];done)|(simp;omega)|(simp at *;omega))) (fun hq=>by first|(unfold Cn;simp[*];done)|(unfold BW at hq;simp[*]at hq;omega)|(unfold BW at hq;simp[*]at hq)))
 refine B6 (h:=?_);refine A6 rfl (fun hb5 hc5=>?_) (fun hb5 hc5=>?_)
 ·refine w_ (Fy (h:=EK (h:=?_)));refine A4 ?_
  first|(exfalso;first|contradiction|omega)|(exact NumP.mk (by unfold BW;(repeat' split)<;>(first|omega|(simp[*];done)|(simp;omega)|(simp at *;omega))) (fun hq=>by first|(unfold Cn;simp[*];done)|(unfold BW at hq;simp[*]at hq;omega)|(unfold BW at hq;simp[*]at hq)))
 refine B6 (h:=?_);refine A6 rfl (fun hb6 hc6=>?_) (fun hb6 hc6=>?_)
 ·refine w_ (Fy (h:=EK (h:=?_)));refine A4 ?_
  first|(exfalso;first|contradiction|omega)|(exact NumP.mk (by unfold BW;(repeat' split)<;>(first|omega|(simp[*];done)|(simp;omega)|(simp at *;omega))) (fun hq=>by first|(unfold Cn;simp[*];done)|(unfold BW at hq;simp[*]at hq;omega)|(unfold BW at hq;simp[*]at hq)))
 refine B6 (h:=?_);refine A6 rfl (fun hb7 hc7=>?_) (fun hb7 hc7=>?_)
 ·refine w_ (Fy (h:=EK (h:=?_)));refine A4 ?_
  first|(exfalso;first|contradiction|omega)|(exact NumP.mk (by unfold BW;(repeat' split)<;>(first|omega|(simp[*];done)|(simp;omega)|(simp at *;omega))) (fun hq=>by first|(unfold Cn;simp[*];done)|(unfold BW at hq;simp[*]at hq;omega)|(unfold BW at hq;simp[*]at hq)))
 refine B6 (h:=?_);refine A6 rfl (fun hb8 hc8=>?_) (fun hb8 hc8=>?_)
 ·refine w_ (Fy (h:=EK (h:=?_)));refine A4 ?_
  first|(exfalso;first|contradiction|omega)|(exact NumP.mk (by unfold BW;(repeat' split)<;>(first|omega|(simp[*];done)|(simp;omega)|(simp at *;omega))) (fun hq=>by first|(unfold Cn;simp[*];done)|(unfold BW at hq;simp[*]at hq;omega)|(unfold BW at hq;simp[*]at hq)))
 refine q_ (B6 (h:=?_));refine A6 rfl (fun hb9 hc9=>?_) (fun hb9 hc9=>?_)
 ·refine AK (Cz (h:=Aa (h:=Hr (h:=f_ (h:=f_ (h:=?_))))));refine A3 rfl (Hn (n:=0) (len:=4) (sz:=1) (by kernel_rfl) rfl rfl (by omega) rfl ?_);refine l_ (h:=EK (h:=?_));refine A4 ?_
  first|(exfalso;first|contradiction|omega)|(exact NumP.mk (by unfold BW;(repeat' split)<;>(first|omega|(simp[*];done)|(simp;omega)|(simp at *;omega))) (fun hq=>by first|(unfold Cn;simp[*];done)|(unfold BW at hq;simp[*]at hq;omega)|(unfold BW at hq;simp[*]at hq)))
 refine B6 (h:=?_);refine A6 rfl (fun hb10 hc10=>?_) (fun hb10 hc10=>?_)
 ·refine AK (Cz (h:=Aa (h:=Hr (h:=f_ (h:=f_ (h:=?_))))))
  first|refine A3 rfl (Hn (n:=0) (len:=4) (sz:=1) (by kernel_rfl) rfl rfl (by omega) rfl ?_)|refine A3 rfl (Hn (n:=1) (len:=4) (sz:=1) (by kernel_rfl) rfl rfl (by omega) rfl ?_)
  refine l_ (h:=EK (h:=?_));refine A4 ?_
  first|(exfalso;first|contradiction|omega)|(exact NumP.mk (by unfold BW;(repeat' split)<;>(first|omega|(simp[*];done)|(simp;omega)|(simp at *;omega))) (fun hq=>by first|(unfold Cn;simp[*];done)|(unfold BW at hq;simp[*]at hq;omega)|(unfold BW at hq;simp[*]at hq)))
 refine B6 (h:=?_);refine A6 rfl (fun hb11 hc11=>?_) (fun hb11 hc11=>?_)
 ·refine AK (Cz (h:=Aa (h:=Hr (h:=f_ (h:=f_ (h:=?_))))))
  first|refine A3 rfl (Hn (n:=0) (len:=4) (sz:=1) (by kernel_rfl) rfl rfl (by omega) rfl ?_)|refine A3 rfl (Hn (n:=1) (len:=4) (sz:=1) (by kernel_rfl) rfl rfl (by omega) rfl ?_)|refine A3 rfl (Hn (n:=2) (len:=4) (sz:=1) (by kernel_rfl) rfl rfl (by omega) rfl ?_)
  refine l_ (h:=EK (h:=?_));refine A4 ?_
  first|(exfalso;first|contradiction|omega)|(exact NumP.mk (by unfold BW;(repeat' split)<;>(first|omega|(simp[*];done)|(simp;omega)|(simp at *;omega))) (fun hq=>by first|(unfold Cn;simp[*];done)|(unfold BW at hq;simp[*]at hq;omega)|(unfold BW at hq;simp[*]at hq)))
 refine B2 (HG (h:=?_));refine A6 rfl (fun hb12 hc12=>?_) (fun hb12 hc12=>?_)
 ·refine Aa (h:=Hr (h:=f_ (h:=f_ (h:=?_))))
  first|refine A3 rfl (Hn (n:=0) (len:=4) (sz:=1) (by kernel_rfl) rfl rfl (by omega) rfl ?_)|refine A3 rfl (Hn (n:=1) (len:=4) (sz:=1) (by kernel_rfl) rfl rfl (by omega) rfl ?_)|refine A3 rfl (Hn (n:=2) (len:=4) (sz:=1) (by kernel_rfl) rfl rfl (by omega) rfl ?_)|refine A3 rfl (Hn (n:=3) (len:=4) (sz:=1) (by kernel_rfl) rfl rfl (by omega) rfl ?_)
  refine l_ (h:=EK (h:=?_));refine A4 ?_
  first|(exfalso;first|contradiction|omega)|(exact NumP.mk (by unfold BW;(repeat' split)<;>(first|omega|(simp[*];done)|(simp;omega)|(simp at *;omega))) (fun hq=>by first|(unfold Cn;simp[*];done)|(unfold BW at hq;simp[*]at hq;omega)|(unfold BW at hq;simp[*]at hq)))
 refine B6 (h:=?_);refine A6 rfl (fun hb13 hc13=>?_) (fun hb13 hc13=>?_)
 ·refine q_ (E4 7 (h:=Ar 0 (h:=AD 1 (h:=Ar 2 (h:=AD 3 (h:=O1 4 (h:=BM 5 (h:=BM 6 (h:=z_ (h:=t_ (Ax (Gl (BS (?_))))))))))))));refine A4 ?_
  first|(exfalso;first|contradiction|omega)|(exact NumP.mk (by unfold BW;(repeat' split)<;>(first|omega|(simp[*];done)|(simp;omega)|(simp at *;omega))) (fun hq=>by first|(unfold Cn;simp[*];done)|(unfold BW at hq;simp[*]at hq;omega)|(unfold BW at hq;simp[*]at hq)))
 refine As (Am (t_ (F7 (h:=C6 (h:=?_)))));refine A6 rfl (fun hb14 hc14=>?_) (fun hb14 hc14=>?_)
 ·refine w_ (Du (h:=?_));refine A4 ?_
  first|(exfalso;first|contradiction|omega)|(exact NumP.mk (by unfold BW;(repeat' split)<;>(first|omega|(simp[*];done)|(simp;omega)|(simp at *;omega))) (fun hq=>by first|(unfold Cn;simp[*];done)|(unfold BW at hq;simp[*]at hq;omega)|(unfold BW at hq;simp[*]at hq)))
 refine AK (Aa (h:=Em (h:=?_)));refine A3 rfl (AA (XZ f c k y (by omega) (by omega)) ?_);rintro r rfl;refine Pu (h:=KS (h:=?_));refine A4 ?_
 first|(exfalso;first|contradiction|omega)|(exact NumP.mk (by unfold BW;(repeat' split)<;>(first|omega|(simp[*];done)|(simp;omega)|(simp at *;omega))) (fun hq=>by first|(unfold Cn;simp[*];done)|(unfold BW at hq;simp[*]at hq;omega)|(unfold BW at hq;simp[*]at hq)))
end
theorem Sx(s:AB):s=⟨#[]⟩↔s.size=0:=by
 constructor
 ·intro h;rw[h];rfl
 intro h
 cases s with
 |mk a=>
   have:a=#[]:=Array.eq_empty_of_size_eq_zero h;rw[this]
section
theorem Sy(t:Tst)(list:Int):AFn prog 159 [.agg (CB t), .v (.int .i64 list)] (fun r=>r= .v (.int .i64 (B9 t list))):=by
 have hz:=Sx t.text;refine enter Tryz.func159 rfl rfl rfl rfl rfl 0 rfl ?_;refine w_ (b_ (h:=Bi (h:=AN (h:=?_))));refine A3 rfl (AA (Ss _ _) ?_);rintro r rfl;refine Dj (h:=?_);refine A6 rfl (fun hb1 hc1=>?_) (fun hb1 hc1=>?_)
 ·refine Bd (h:=?_);refine A4 ?_
  first|(exfalso;first|contradiction|omega)|(exact vi (by unfold B9;grind))
 refine D0 (h:=E7 (h:=?_));refine AF true rfl rfl (fun hb2 hc2=>?_) (fun hb2 hc2=>?_)
 ·refine m_ (h:=AN (h:=?_));refine Af (AA (Ss _ _) ?_);rintro r rfl;refine Dw (h:=?_);refine AF false rfl rfl (fun hb3 hc3=>?_) (fun hb3 hc3=>?_)
  ·refine BF (h:=BY (h:=Fl (h:=F8 (h:=?_))));refine A4 ?_
   first|(exfalso;first|contradiction|omega)|(exact vi (by unfold B9;grind))
  refine AN (h:=?_);refine Af (AA (Sq _) ?_);rintro r rfl;refine Dd (h:=BQ (h:=?_));refine AF false rfl rfl (fun hb4 hc4=>?_) (fun hb4 hc4=>?_)
  ·refine Fl (h:=F8 (h:=?_));refine A4 ?_
   first|(exfalso;first|contradiction|omega)|(exact vi (by unfold B9;grind))
  refine AN (h:=?_);refine Af (AA (Sq _) ?_);rintro r rfl;refine Dd (h:=C0 (h:=Cl (h:=?_)));refine A6 rfl (fun hb5 hc5=>?_) (fun hb5 hc5=>?_)
  ·refine Bd (h:=?_);refine A4 ?_
   first|(exfalso;first|contradiction|omega)|(exact vi (by unfold B9;grind))
  refine D0 (h:=DS (h:=?_));refine AF false rfl rfl (fun hb6 hc6=>?_) (fun hb6 hc6=>?_)
  ·refine Ce (h:=e_ (GO (h:=?_)));refine A4 ?_
   first|(exfalso;first|contradiction|omega)|(exact vi (by unfold B9;grind))
  refine Fz (h:=C1 (h:=?_));refine A6 rfl (fun hb7 hc7=>?_) (fun hb7 hc7=>?_)
  ·refine Bd (h:=?_);refine A4 ?_
   first|(exfalso;first|contradiction|omega)|(exact vi (by unfold B9;grind))
  refine D0 (h:=E7 (h:=?_));refine AF true rfl rfl (fun hb8 hc8=>?_) (fun hb8 hc8=>?_)
  ·refine Bg (h:=BY (h:=?_));refine AF true rfl rfl (fun hb9 hc9=>?_) (fun hb9 hc9=>?_)
   ·refine AN (h:=?_);refine Af (AA (Fn _) ?_);rintro r rfl;refine m_ (h:=?_);refine AF false rfl rfl (fun hb10 hc10=>?_) (fun hb10 hc10=>?_)
    ·refine Ce (h:=F8 (h:=?_));refine A4 ?_
     first|(exfalso;first|contradiction|omega)|(exact vi (by unfold B9;grind))
    refine Bg (h:=C0 (h:=F8 (h:=?_)));refine A4 ?_
    first|(exfalso;first|contradiction|omega)|(exact vi (by unfold B9;grind))
   refine Eo (h:=Cp (h:=D7 (h:=Bk (h:=Ah (h:=E7 (h:=Bg (h:=m_ (h:=?_))))))));refine AF false rfl rfl (fun hb11 hc11=>?_) (fun hb11 hc11=>?_)
   ·refine Ce (h:=DE (h:=Cv (h:=?_)));refine A4 ?_
    first|(exfalso;first|contradiction|omega)|(exact vi (by unfold B9;grind))
   refine Bg (h:=C0 (h:=DE (h:=?_)));refine A6 rfl (fun hb12 hc12=>?_) (fun hb12 hc12=>?_)
   ·refine Cw (h:=?_);refine A4 ?_
    first|(exfalso;first|contradiction|omega)|(exact vi (by unfold B9;grind))
   refine Ah (h:=?_);refine A3 rfl (AA (Fn _) ?_);rintro r rfl;refine m_ (h:=?_);refine AF true rfl rfl (fun hb13 hc13=>?_) (fun hb13 hc13=>?_)
   ·refine Bg (h:=m_ (h:=CW (h:=BQ (h:=Fl (h:=DE (h:=Cv (h:=?_)))))));refine A4 ?_
    first|(exfalso;first|contradiction|omega)|(exact vi (by unfold B9;grind))
   refine Eo (h:=B1 (h:=G0 (h:=FO (h:=Ah (h:=?_)))));refine A3 rfl (AA (Fn _) ?_);rintro r rfl;refine Dw (h:=Bg (h:=DE (h:=KP (h:=As (Am (EX (h:=?_)))))));refine A4 ?_
   first|(exfalso;first|contradiction|omega)|(exact vi (by unfold B9;grind))
  refine EZ (h:=Eo (h:=Cp (h:=D7 (h:=Bk (h:=Ah (h:=E7 (h:=?_)))))));refine Bg (h:=m_ (h:=?_));refine AF false rfl rfl (fun hb14 hc14=>?_) (fun hb14 hc14=>?_)
  ·refine Ce (h:=DE (h:=Cv (h:=?_)));refine A4 ?_
   first|(exfalso;first|contradiction|omega)|(exact vi (by unfold B9;grind))
  refine Bg (h:=C0 (h:=DE (h:=?_)));refine A6 rfl (fun hb15 hc15=>?_) (fun hb15 hc15=>?_)
  ·refine Cw (h:=?_);refine A4 ?_
   first|(exfalso;first|contradiction|omega)|(exact vi (by unfold B9;grind))
  refine Ah (h:=?_);refine A3 rfl (AA (Fn _) ?_);rintro r rfl;refine m_ (h:=?_);refine AF true rfl rfl (fun hb16 hc16=>?_) (fun hb16 hc16=>?_)
  ·refine Bg (h:=m_ (h:=CW (h:=BQ (h:=Fl (h:=DE (h:=Cv (h:=?_)))))));refine A4 ?_
   first|(exfalso;first|contradiction|omega)|(exact vi (by unfold B9;grind))
  refine Eo (h:=B1 (h:=G0 (h:=FO (h:=Ah (h:=?_)))));refine A3 rfl (AA (Fn _) ?_);rintro r rfl;refine Dw (h:=Bg (h:=DE (h:=KP (h:=As (Am (EX (h:=?_)))))));refine A4 ?_
  first|(exfalso;first|contradiction|omega)|(exact vi (by unfold B9;grind))
 refine BF (h:=B1 (h:=Ht (h:=B1 (h:=G0 (h:=D7 (h:=FR (h:=w_ (f_ (h:=?_)))))))));refine l_ (h:=DS (h:=?_));refine AF false rfl rfl (fun hb17 hc17=>?_) (fun hb17 hc17=>?_)
 ·refine Ce (h:=e_ (GO (h:=?_)));refine A4 ?_
  first|(exfalso;first|contradiction|omega)|(exact vi (by unfold B9;grind))
 refine Fz (h:=C1 (h:=?_));refine A6 rfl (fun hb18 hc18=>?_) (fun hb18 hc18=>?_)
 ·refine Bd (h:=?_);refine A4 ?_
  first|(exfalso;first|contradiction|omega)|(exact vi (by unfold B9;grind))
 refine D0 (h:=E7 (h:=?_));refine AF true rfl rfl (fun hb19 hc19=>?_) (fun hb19 hc19=>?_)
 ·refine Bg (h:=BY (h:=?_));refine AF true rfl rfl (fun hb20 hc20=>?_) (fun hb20 hc20=>?_)
  ·refine AN (h:=?_);refine Af (AA (Fn _) ?_);rintro r rfl;refine m_ (h:=?_);refine AF false rfl rfl (fun hb21 hc21=>?_) (fun hb21 hc21=>?_)
   ·refine Ce (h:=F8 (h:=?_));refine A4 ?_
    first|(exfalso;first|contradiction|omega)|(exact vi (by unfold B9;grind))
   refine Bg (h:=C0 (h:=Cl (h:=KP (h:=Bk (h:=Ah (h:=E7 (h:=Eo (h:=Cp (h:=C0 (h:=?_))))))))));refine O3 (h:=Ah (h:=?_));refine A3 rfl (AA (Fn _) ?_);rintro r rfl;refine m_ (h:=Eo (h:=B1 (h:=G0 (h:=FO (h:=Ah (h:=?_))))));refine A3 rfl (AA (Fn _) ?_);rintro r rfl;refine Dw (h:=Bg (h:=DE (h:=?_)));refine A6 rfl (fun hb22 hc22=>?_) (fun hb22 hc22=>?_)
   ·refine Cw (h:=?_);refine A4 ?_
    first|(exfalso;first|contradiction|omega)|(exact vi (by unfold B9;grind))
   refine As (Am (EX (h:=?_)));refine A4 ?_
   first|(exfalso;first|contradiction|omega)|(exact vi (by unfold B9;grind))
  refine Eo (h:=Cp (h:=D7 (h:=Bk (h:=Ah (h:=E7 (h:=BF (h:=Jk (h:=?_))))))));refine LC (h:=Cp (h:=FO (h:=Ah (h:=?_))));refine A3 rfl (AA (Fn _) ?_);rintro r rfl;refine m_ (h:=?_);refine AF true rfl rfl (fun hb23 hc23=>?_) (fun hb23 hc23=>?_)
  ·refine Bg (h:=m_ (h:=?_));refine AF false rfl rfl (fun hb24 hc24=>?_) (fun hb24 hc24=>?_)
   ·refine EW (h:=Fl (h:=DE (h:=Cv (h:=?_))));refine A4 ?_
    first|(exfalso;first|contradiction|omega)|(exact vi (by unfold B9;grind))
   refine CW (h:=BQ (h:=?_));refine AF false rfl rfl (fun hb25 hc25=>?_) (fun hb25 hc25=>?_)
   ·refine Fl (h:=DE (h:=Cv (h:=?_)));refine A4 ?_
    first|(exfalso;first|contradiction|omega)|(exact vi (by unfold B9;grind))
   refine Ct (h:=Fk (h:=C0 (h:=DE (h:=?_))));refine A6 rfl (fun hb26 hc26=>?_) (fun hb26 hc26=>?_)
   ·refine Cw (h:=?_);refine A4 ?_
    first|(exfalso;first|contradiction|omega)|(exact vi (by unfold B9;grind))
   refine Ah (h:=?_);refine A3 rfl (AA (Fn _) ?_);rintro r rfl;refine Dw (h:=Cu (h:=O3 (h:=As (Am (EX (h:=?_))))));refine A4 ?_
   first|(exfalso;first|contradiction|omega)|(exact vi (by unfold B9;grind))
  refine Eo (h:=B1 (h:=G0 (h:=FO (h:=Ah (h:=?_)))));refine A3 rfl (AA (Fn _) ?_);rintro r rfl;refine Dw (h:=Bg (h:=DE (h:=?_)));refine A6 rfl (fun hb27 hc27=>?_) (fun hb27 hc27=>?_)
  ·refine Cw (h:=?_);refine A4 ?_
   first|(exfalso;first|contradiction|omega)|(exact vi (by unfold B9;grind))
  refine As (Am (EX (h:=?_)));refine A4 ?_
  first|(exfalso;first|contradiction|omega)|(exact vi (by unfold B9;grind))
 refine EZ (h:=Eo (h:=Cp (h:=D7 (h:=Bk (h:=Ah (h:=E7 (h:=?_)))))));refine Eo (h:=Cp (h:=FO (h:=Ah (h:=?_))));refine A3 rfl (AA (Fn _) ?_);rintro r rfl;refine m_ (h:=?_);refine AF true rfl rfl (fun hb28 hc28=>?_) (fun hb28 hc28=>?_)
 ·refine Bg (h:=m_ (h:=?_));refine AF false rfl rfl (fun hb29 hc29=>?_) (fun hb29 hc29=>?_)
  ·refine EW (h:=Fl (h:=DE (h:=Cv (h:=?_))));refine A4 ?_
   first|(exfalso;first|contradiction|omega)|(exact vi (by unfold B9;grind))
  refine CW (h:=BQ (h:=?_));refine AF false rfl rfl (fun hb30 hc30=>?_) (fun hb30 hc30=>?_)
  ·refine Fl (h:=DE (h:=Cv (h:=?_)));refine A4 ?_
   first|(exfalso;first|contradiction|omega)|(exact vi (by unfold B9;grind))
  refine Ct (h:=Fk (h:=C0 (h:=DE (h:=?_))));refine A6 rfl (fun hb31 hc31=>?_) (fun hb31 hc31=>?_)
  ·refine Cw (h:=?_);refine A4 ?_
   first|(exfalso;first|contradiction|omega)|(exact vi (by unfold B9;grind))
  refine Ah (h:=?_);refine A3 rfl (AA (Fn _) ?_);rintro r rfl;refine Dw (h:=Cu (h:=O3 (h:=As (Am (EX (h:=?_))))));refine A4 ?_
  first|(exfalso;first|contradiction|omega)|(exact vi (by unfold B9;grind))
 refine Eo (h:=B1 (h:=G0 (h:=FO (h:=Ah (h:=?_)))));refine A3 rfl (AA (Fn _) ?_);rintro r rfl;refine Dw (h:=Bg (h:=DE (h:=?_)));refine A6 rfl (fun hb32 hc32=>?_) (fun hb32 hc32=>?_)
 ·refine Cw (h:=?_);refine A4 ?_
  first|(exfalso;first|contradiction|omega)|(exact vi (by unfold B9;grind))
 refine As (Am (EX (h:=?_)));refine A4 ?_
 first|(exfalso;first|contradiction|omega)|(exact vi (by unfold B9;grind))
theorem Xa(t:Tst)(list:Int):AFn prog 155 [.agg (CB t), .v (.int .i64 list)] (fun r=>r= .v (.int .i64 (B9 t list))):=by
 have hz:=Sx t.text;have ho:DM t.fld=true→DW t.fld=false:=by unfold DM DW;simp;omega
 refine enter Tryz.func155 rfl rfl rfl rfl rfl 0 rfl ?_;refine w_ (b_ (h:=Bi (h:=AN (h:=?_))));refine A3 rfl (AA (Su _ _) ?_);rintro r rfl;refine Dw (h:=?_);refine AF false rfl rfl (fun hb1 hc1=>?_) (fun hb1 hc1=>?_)
 ·refine BF (h:=Ht (h:=Ht (h:=Ht (h:=LC (h:=Jm (h:=Cp (h:=Cl (h:=?_))))))));refine GO (h:=?_);refine A4 ?_
  first|(exfalso;first|contradiction|omega)|(exact vi (by unfold B9;grind))
 refine Bg (h:=m_ (h:=?_));refine AF true rfl rfl (fun hb2 hc2=>?_) (fun hb2 hc2=>?_)
 ·refine m_ (h:=AN (h:=?_));refine Af (AA (Su _ _) ?_);rintro r rfl;refine Dw (h:=?_);refine AF false rfl rfl (fun hb3 hc3=>?_) (fun hb3 hc3=>?_)
  ·refine BF (h:=BY (h:=Fl (h:=Bc (h:=C1 (h:=GO (h:=?_))))));refine A4 ?_
   first|(exfalso;first|contradiction|omega)|(exact vi (by unfold B9;grind))
  refine AN (h:=?_);refine Af (AA (Sr _) ?_);rintro r rfl;refine Dd (h:=BQ (h:=?_));refine AF false rfl rfl (fun hb4 hc4=>?_) (fun hb4 hc4=>?_)
  ·refine Fl (h:=Bc (h:=C1 (h:=GO (h:=?_))));refine A4 ?_
   first|(exfalso;first|contradiction|omega)|(exact vi (by unfold B9;grind))
  refine AN (h:=?_);refine Af (AA (Sr _) ?_);rintro r rfl;refine Dd (h:=C0 (h:=Bc (h:=C1 (h:=?_))));refine A6 rfl (fun hb5 hc5=>?_) (fun hb5 hc5=>?_)
  ·refine Bd (h:=?_);refine A4 ?_
   first|(exfalso;first|contradiction|omega)|(exact vi (by unfold B9;grind))
  refine D0 (h:=DS (h:=?_));refine AF false rfl rfl (fun hb6 hc6=>?_) (fun hb6 hc6=>?_)
  ·refine EW (h:=BF (h:=Ht (h:=G0 (h:=Cl (h:=Cz (h:=Df (h:=?_)))))));refine Ax (BS (?_));refine A4 ?_
   first|(exfalso;first|contradiction|omega)|(exact vi (by unfold B9;grind))
  refine Fz (h:=BQ (h:=?_));refine AF false rfl rfl (fun hb7 hc7=>?_) (fun hb7 hc7=>?_)
  ·refine BF (h:=Ht (h:=G0 (h:=F8 (h:=?_))));refine A4 ?_
   first|(exfalso;first|contradiction|omega)|(exact vi (by unfold B9;grind))
  refine Fz (h:=m_ (h:=?_));refine AF true rfl rfl (fun hb8 hc8=>?_) (fun hb8 hc8=>?_)
  ·refine AN (h:=?_);refine Af (AA (Jq _) ?_);rintro r rfl;refine m_ (h:=?_);refine AF false rfl rfl (fun hb9 hc9=>?_) (fun hb9 hc9=>?_)
   ·refine Ce (h:=Bc (h:=C1 (h:=GO (h:=?_))));refine A4 ?_
    first|(exfalso;first|contradiction|omega)|(exact vi (by unfold B9;grind))
   refine Bg (h:=C0 (h:=Bc (h:=C1 (h:=GO (h:=?_)))));refine A4 ?_
   first|(exfalso;first|contradiction|omega)|(exact vi (by unfold B9;grind))
  refine Eo (h:=Cp (h:=C0 (h:=D7 (h:=D0 (h:=E7 (h:=Bg (h:=m_ (h:=?_))))))));refine AF false rfl rfl (fun hb10 hc10=>?_) (fun hb10 hc10=>?_)
  ·refine Ce (h:=F8 (h:=?_));refine A4 ?_
   first|(exfalso;first|contradiction|omega)|(exact vi (by unfold B9;grind))
  refine Bg (h:=C0 (h:=Cl (h:=?_)));refine A6 rfl (fun hb11 hc11=>?_) (fun hb11 hc11=>?_)
  ·refine Bd (h:=?_);refine A4 ?_
   first|(exfalso;first|contradiction|omega)|(exact vi (by unfold B9;grind))
  refine D0 (h:=DT (h:=EZ (h:=Eo (h:=B1 (h:=Jm (h:=?_))))));refine Jk (h:=Cp (h:=BQ (h:=AN (h:=?_))));refine Af (AA (Jq _) ?_);rintro r rfl;refine Dw (h:=?_);refine AF true rfl rfl (fun hb12 hc12=>?_) (fun hb12 hc12=>?_)
  ·refine Bg (h:=Bc (h:=D7 (h:=AK (Gt (h:=?_)))));refine A4 ?_
   first|(exfalso;first|contradiction|omega)|(exact vi (by unfold B9;grind))
  refine Cu (h:=D7 (h:=AK (Gt (h:=?_))));refine A4 ?_
  first|(exfalso;first|contradiction|omega)|(exact vi (by unfold B9;grind))
 refine BF (h:=B1 (h:=Ht (h:=B1 (h:=G0 (h:=C0 (h:=D7 (h:=FR (h:=w_ (?_)))))))));refine AN (h:=DS (h:=?_));refine AF false rfl rfl (fun hb13 hc13=>?_) (fun hb13 hc13=>?_)
 ·refine EW (h:=BF (h:=Ht (h:=G0 (h:=Cl (h:=Cz (h:=Df (h:=?_)))))));refine Ax (BS (?_));refine A4 ?_
  first|(exfalso;first|contradiction|omega)|(exact vi (by unfold B9;grind))
 refine Fz (h:=BQ (h:=?_));refine AF false rfl rfl (fun hb14 hc14=>?_) (fun hb14 hc14=>?_)
 ·refine BF (h:=Ht (h:=G0 (h:=F8 (h:=?_))));refine A4 ?_
  first|(exfalso;first|contradiction|omega)|(exact vi (by unfold B9;grind))
 refine Fz (h:=m_ (h:=?_));refine AF true rfl rfl (fun hb15 hc15=>?_) (fun hb15 hc15=>?_)
 ·refine AN (h:=?_);refine Af (AA (Jq _) ?_);rintro r rfl;refine m_ (h:=?_);refine AF false rfl rfl (fun hb16 hc16=>?_) (fun hb16 hc16=>?_)
  ·refine Ce (h:=Bc (h:=C1 (h:=GO (h:=?_))));refine A4 ?_
   first|(exfalso;first|contradiction|omega)|(exact vi (by unfold B9;grind))
  refine Bg (h:=C0 (h:=Bc (h:=D7 (h:=D0 (h:=E7 (h:=Eo (h:=Cp (h:=C0 (h:=?_)))))))));refine e_ (KP (h:=D0 (h:=DT (h:=AN (h:=?_)))));refine Af (AA (Jq _) ?_);rintro r rfl;refine BY (h:=Eo (h:=B1 (h:=G0 (h:=BQ (h:=AN (h:=?_))))));refine Af (AA (Jq _) ?_);rintro r rfl;refine Dw (h:=Bg (h:=Bc (h:=C1 (h:=?_))));refine A6 rfl (fun hb17 hc17=>?_) (fun hb17 hc17=>?_)
  ·refine Bd (h:=?_);refine A4 ?_
   first|(exfalso;first|contradiction|omega)|(exact vi (by unfold B9;grind))
  refine AK (Gt (h:=?_));refine A4 ?_
  first|(exfalso;first|contradiction|omega)|(exact vi (by unfold B9;grind))
 refine Eo (h:=Cp (h:=C0 (h:=D7 (h:=D0 (h:=E7 (h:=BF (h:=Jk (h:=?_))))))));refine LC (h:=Cp (h:=D7 (h:=D0 (h:=DT (h:=AN (h:=?_))))));refine Af (AA (Jq _) ?_);rintro r rfl;refine BY (h:=?_);refine AF true rfl rfl (fun hb18 hc18=>?_) (fun hb18 hc18=>?_)
 ·refine Bg (h:=m_ (h:=?_));refine AF false rfl rfl (fun hb19 hc19=>?_) (fun hb19 hc19=>?_)
  ·refine EW (h:=Fl (h:=BY (h:=EU (h:=Jm (h:=Cp (h:=Cl (h:=Cz (h:=?_))))))));refine Bd (h:=?_);refine A4 ?_
   first|(exfalso;first|contradiction|omega)|(exact vi (by unfold B9;grind))
  refine CW (h:=BQ (h:=?_));refine AF false rfl rfl (fun hb20 hc20=>?_) (fun hb20 hc20=>?_)
  ·refine Fl (h:=BY (h:=EU (h:=Jm (h:=Cp (h:=F8 (h:=?_))))));refine A4 ?_
   first|(exfalso;first|contradiction|omega)|(exact vi (by unfold B9;grind))
  refine Ct (h:=Fk (h:=C0 (h:=BY (h:=?_))));refine AF false rfl rfl (fun hb21 hc21=>?_) (fun hb21 hc21=>?_)
  ·refine EU (h:=Jm (h:=Cp (h:=F8 (h:=?_))));refine A4 ?_
   first|(exfalso;first|contradiction|omega)|(exact vi (by unfold B9;grind))
  refine AN (h:=?_);refine Af (AA (Jq _) ?_);rintro r rfl;refine Dw (h:=Cu (h:=D7 (h:=AK (Gt (h:=?_)))));refine A4 ?_
  first|(exfalso;first|contradiction|omega)|(exact vi (by unfold B9;grind))
 refine Eo (h:=B1 (h:=G0 (h:=BQ (h:=AN (h:=?_)))));refine Af (AA (Jq _) ?_);rintro r rfl;refine Dw (h:=Bg (h:=Bc (h:=C1 (h:=?_))));refine A6 rfl (fun hb22 hc22=>?_) (fun hb22 hc22=>?_)
 ·refine Bd (h:=?_);refine A4 ?_
  first|(exfalso;first|contradiction|omega)|(exact vi (by unfold B9;grind))
 refine AK (Gt (h:=?_));refine A4 ?_
 first|(exfalso;first|contradiction|omega)|(exact vi (by unfold B9;grind))
def Jr(t:Tst)(c:Ctx):Bool:=decide ((if t.fld=14 then c.comm else c.exe)=t.text)==decide (t.op=1)
def LG(t:Tst)(c:Ctx)(y:Itm):Bool:=
 if DM t.fld=true then Jr t c else Gv t.op (Cn t.fld c y) (if t.other=0 then t.num else Cn t.other c y)
def G8(t:Tst)(c:Ctx)(y:Itm):Bool:=
 if DM t.fld=true then Jr t c else if BW t.fld c=false then false else if t.other=0 then Gv t.op (Cn t.fld c y) t.num else if BW t.other c=false then false else Gv t.op (Cn t.fld c y) (Cn t.other c y)
def Sz(t:Tst):Prop:=1≤t.fld∧t.fld≤22∧(t.other=0∨1≤t.other∧t.other≤22∧DM t.other=false)∧1≤t.op∧t.op≤8
theorem T0(t:Tst)(c:Ctx)(k:Cxs)(y:Itm)(ht:Sz t):AFn prog 161 [.agg (CB t), .agg (EB c k), .agg (EA y)] (fun r=>r= .v (.bool (G8 t c y))):=by
 obtain⟨f1,f2,o1,p1,p2⟩:=ht;refine enter Tryz.func161 rfl rfl rfl rfl rfl 0 rfl ?_;refine EV (h:=b_ (h:=G2 (h:=?_)));refine A3 rfl (AA (Fn _) ?_);rintro r rfl;refine e_ (?_);refine A6 rfl (fun hb1 hc1=>?_) (fun hb1 hc1=>?_)
 ·refine w_ (Fy (h:=G2 (h:=C2 (h:=?_))));refine A6 rfl (fun hb2 hc2=>?_) (fun hb2 hc2=>?_)
  ·refine B2 (Fy (h:=BJ (h:=CW (h:=CW (h:=ET (h:=At (h:=BS (?_))))))));refine A4 ?_
   first|(exfalso;first|contradiction|omega)|(exact vb (by unfold G8 Jr;simp_all))
  refine AK (Aa (h:=CW (h:=CW (h:=ET (h:=At (h:=BS (?_)))))));refine A4 ?_
  first|(exfalso;first|contradiction|omega)|(exact vb (by unfold G8 Jr;simp_all))
 refine AK (Ah (h:=Em (h:=?_)));refine A3 rfl (AA (Sw t.fld c k y f1 f2 hc1) ?_);rintro r ⟨n1,rfl,hn1⟩;refine Fx (h:=a_ (h:=Bi (h:=Dj (h:=?_))));refine A6 rfl (fun hb3 hc3=>?_) (fun hb3 hc3=>?_)
 ·refine Bd (h:=?_);refine A4 ?_
  first|(exfalso;first|contradiction|omega)|(exact vb (by unfold G8 Jr;simp_all))
 refine AK (Ah (h:=G2 (h:=C6 (h:=?_))));refine A6 rfl (fun hb4 hc4=>?_) (fun hb4 hc4=>?_)
 ·refine Ah (h:=Em (h:=?_));refine A3 rfl (AA (Sw t.other c k y (by omega) (by omega) (o1.resolve_left hc4).2.2) ?_);rintro r ⟨n2,rfl,hn2⟩;refine Fx (h:=a_ (h:=BJ (h:=Dj (h:=?_))));refine A6 rfl (fun hb5 hc5=>?_) (fun hb5 hc5=>?_)
  ·refine Bd (h:=?_);refine A4 ?_
   first|(exfalso;first|contradiction|omega)|(exact vb (by unfold G8 Jr;simp_all))
  refine AK (Ah (h:=DF (h:=?_)));refine A3 rfl (AA (Sv _ _ _ p1 p2) ?_);rintro r rfl;refine At (h:=?_);refine A4 ?_
  first|(exfalso;first|contradiction|omega)|(exact vb (by unfold G8 Jr;simp_all))
 refine AK (Ah (h:=DF (h:=?_)));refine A3 rfl (AA (Sv _ _ _ p1 p2) ?_);rintro r rfl;refine At (h:=?_);refine A4 ?_
 first|(exfalso;first|contradiction|omega)|(exact vb (by unfold G8 Jr;simp_all))
end
theorem KX{α:Type}{p:α→Bool}{l:List α}{j:Nat}{x:α}(hx:l[j]?=some x)(hp:p x=true)(h:∀i y,i<j→l[i]?=some y→p y=false):l.find? p=some x:=by
 have:=Sj hx hp h;rw[←Sl,this]
 simpa using hx
theorem KY{α:Type}{p:α→Bool}{l:List α}(h:∀i y,i<l.length→l[i]?=some y→p y=false):l.find? p=none:=by
 rw[List.find?_eq_none];intro x hx;obtain⟨i,hi,rfl⟩:=List.mem_iff_getElem.1 hx;simp[h i _ hi (BA hi)]
theorem T1{f:AM}{a:A7}(h:Cm f a=true):Ba f a=some (Ai f a):=by
 unfold Cm at h;unfold Ai
 cases hn:Ba f a with
 |none=>rw[hn]at h;cases h
 |some n=>rfl
theorem T2{f:AM}{a:A7}(h:Cm f a=false):Ba f a=none:=by
 unfold Cm at h
 cases hn:Ba f a with
 |none=>rfl
 |some n=>rw[hn]at h;cases h
section
theorem JN(f:AM)(a:A7)(name:AB)(hf:FlsB f):AFn prog 134 [.agg (AW f), .agg (A8 a), .v (.string name)] (fun r=>r= .tup [.agg (A8 (AG f a name).1), .v (.int .i64 (AG f a name).2)]):=by
 have hen:=O7 hf a;refine enter Tryz.func134 rfl rfl rfl rfl rfl 0 rfl ?_;refine FM (h:=B5 (h:=Bl (h:=?_)));refine A3 rfl (AA (G7 f a hf) ?_);rintro r rfl;refine Ea (h:=Dj (h:=?_));refine A6 rfl (fun hb1 hc1=>?_) (fun hb1 hc1=>?_)
 ·have e:=T2 hc1;refine Cf (h:=?_);refine A4 ?_;rw[show AG f a name=((0,0),2) by simp[AG,e]];rfl
 have e:=T1 hc1;refine D0 (h:=C6 (h:=?_));refine A6 rfl (fun hb2 hc2=>?_) (fun hb2 hc2=>?_)
 ·refine Cf (h:=?_);refine A4 ?_;rw[show AG f a name=((0,0),20) by simp[AG,e,hc2]];rfl
 refine AK (D8 (h:=?_));refine BX (fun m s=>∃j:Nat,j≤(Ai f a).entries.length∧m=(Ai f a).entries.length - j∧(∀i y,i<j→(Ai f a).entries[i]?=some y→decide (y.1=name)=false)∧s=⟨look [(2, .v (.string name)),(4, .bp 1 0),(6, .bp 2 0),(8, .bp 3 0),(10, .v (.int .i64 (j:Int)))],⟨[AW f,A8 a,[.v (.int .i64 0), .v (.int .i64 0)],AU (Ai f a)],[]⟩⟩) ((Ai f a).entries.length) ((wk 4 0)) (⟨0,by omega,rfl,fun i y hi=>by omega,rfl⟩) ?_;rintro m s ⟨j,hj,rfl,ha,rfl⟩;refine BD (h:=Ct (h:=BZ (h:=?_)));refine A6 rfl (fun hb3 hc3=>?_) (fun hb3 hc3=>?_)
 ·obtain⟨hlt,x,hy,hrow, -⟩:=Bw CT hc3;refine Bk (h:=G3 (h:=i_ (h:=AN (h:=CX (h:=e_ (?_))))));refine A6 rfl (fun hb4 hc4=>?_) (fun hb4 hc4=>?_)
  ·refine q_ (Bz ([(0,AW f),(1,A8 a),(3,AU (Ai f a))]) 11 (h:=Ar 0 (h:=AD 1 (h:=Ar 2 (h:=AD 3 (h:=Ac 4 (h:=FK 5 (h:=Ar 6 (h:=AD 7 (h:=Hq 8 (h:=?_)))))))))));refine CG 9 (h:=BM 10 (h:=z_ (h:=t_ (Ax (Gl (BS (BS (Gl (BS (?_))))))))));refine A4 ?_;rw[show AG f a name=((a.1,x.2),0) by simp only[AG,e];rw[if_pos (by omega),KX hy (by simpa using hc4) ha]];rfl
  refine Di (h:=?_);refine⟨_,_,?_,⟨j+1,by omega,rfl,Hu hy ha (by simpa using hc4),rfl⟩,(wk 4 0)⟩;omega
 have e3:=CS CT hj hc3;subst e3;refine Cg (h:=KT (h:=?_));refine A4 ?_;rw[show AG f a name=((0,0),2) by simp only[AG,e];rw[if_pos (by omega),KY ha]];rfl
end
theorem Js{P:Program}{ev:Operand→Option AV}{h:AH}{R:AV→AH→Prop}{d:Option Tmp}{ty:TypeId}{pos:String}{af:Array Edge}{gd:Option (Nat×Bool)}{T:TypeId}{x ix:Operand}{s:ByteArray}{n:Nat}{k:IntKind}{i:Int}(hu:P.underlying T=some .string)
    (hx:ev x=some (.v (.string s))) (hi:ev ix=some (.v (.int k i))) (hn:i=(n:Int)) (hlt:n<s.size) (hR:R (.v (.int .u8 (s[n].toNat:Int))) h):AStep P ⟨d, .index T x ix,ty,pos,af,gd⟩ ev h R:=by
 refine Cc (fun _ G w ec _ he=>?_) hR;have h1:=he x (by simp[Op.operands]) _ hx;have h2:=he ix (by simp[Op.operands]) _ hi;simp only[rep]at h1 h2;subst hn;refine⟨.int .u8 (s[n].toNat:Int),?_,by simp only[rep]⟩;have e:s[n]?=some s[n]:=getElem?_pos s n hlt;simp[execOp,h1,h2,Instr.index,asIntOf,run_underlying hu,e]
theorem Jt(s:AB):Dl s=if s.size<1∨12<s.size then false else if s=⟨#[46]⟩then false else if s=⟨#[46,46]⟩then false else s.data.toList.all JL:=by
 unfold Dl;have e1:=O5 s ⟨#[46]⟩;have e2:=O5 s ⟨#[46,46]⟩;rw[show(⟨#[46]⟩:ByteArray).toList=[46] by rw[ByteArray.toList_eq]]at e1;rw[show(⟨#[46,46]⟩:ByteArray).toList=[46,46] by rw[ByteArray.toList_eq]]at e2;rw[e1,e2];simp only[decide_eq_true_eq]
theorem Xb{c:UInt8}(h1:¬(c.toNat:Int)=0)(h2:¬(c.toNat:Int)=47):JL c=true:=by
 unfold JL;simp;omega
section
theorem O8(s:AB)(hs:s.size≤100000):AFn prog 136 [.v (.string s)] (fun r=>r= .v (.bool (Dl s))):=by
 refine enter Tryz.func136 rfl rfl rfl rfl rfl 0 rfl ?_;refine w_ (Bi (h:=n_ (h:=DS (h:=?_))));refine AF false rfl rfl (fun hb1 hc1=>?_) (fun hb1 hc1=>?_)
 ·refine EW (h:=B1 (h:=BY (h:=B1 (h:=F8 (h:=?_)))));refine A4 ?_;exact vb (by rw[Jt,if_pos (by omega)])
 refine m_ (h:=n_ (h:=Fk (h:=BQ (h:=?_))));refine AF false rfl rfl (fun hb2 hc2=>?_) (fun hb2 hc2=>?_)
 ·refine B1 (h:=BY (h:=B1 (h:=F8 (h:=?_))));refine A4 ?_;exact vb (by rw[Jt,if_pos (by omega)])
 refine CX (h:=BQ (h:=?_));refine AF false rfl rfl (fun hb3 hc3=>?_) (fun hb3 hc3=>?_)
 ·refine B1 (h:=F8 (h:=?_));refine A4 ?_;exact vb (by rw[Jt,if_neg (by omega),if_pos hc3])
 refine CX (h:=C1 (h:=?_));refine A6 rfl (fun hb4 hc4=>?_) (fun hb4 hc4=>?_)
 ·refine Bd (h:=?_);refine A4 ?_;exact vb (by rw[Jt,if_neg (by omega),if_neg hc3,if_pos hc4])
 refine AK (D8 (h:=?_));refine BX (fun m t=>∃j:Nat,j≤s.size∧m=s.size - j∧(∀i (hi:i<s.size),i<j→JL s[i]=true)∧t=⟨look [(0, .v (.string s)),(3, .v (.int .i64 (j:Int)))],⟨[],[]⟩⟩) (s.size) ((wk 0 0)) (⟨0,by omega,rfl,fun i _ hi=>by omega,rfl⟩) ?_;rintro m t ⟨j,hj,rfl,ha,rfl⟩;refine Dv (h:=n_ (h:=BZ (h:=?_)));refine A6 rfl (fun hb5 hc5=>?_) (fun hb5 hc5=>?_)
 ·have hlt:j<s.size:=by omega
  refine Bk (h:=EJ (h:=?_));refine A3 rfl (Js (n:=j) Tryz.underlying9 rfl rfl rfl hlt ?_);refine DT (h:=?_);refine AF false rfl rfl (fun hb6 hc6=>?_) (fun hb6 hc6=>?_)
  ·refine BF (h:=Cl (h:=Cv (h:=Bj (h:=?_))));refine A4 ?_;exact vb (by rw[Jt,if_neg (by omega),if_neg hc3,if_neg hc4,Py hlt (by unfold JL;simp[hc6])])
  refine DF (h:=?_);refine Af (Js (n:=j) Tryz.underlying9 rfl rfl rfl hlt ?_);refine ET (h:=C1 (h:=?_));refine A6 rfl (fun hb7 hc7=>?_) (fun hb7 hc7=>?_)
  ·refine Cw (h:=Bj (h:=?_));refine A4 ?_;exact vb (by rw[Jt,if_neg (by omega),if_neg hc3,if_neg hc4,Py hlt (by unfold JL;simp[hc7])])
  refine Di (h:=?_);refine⟨_,_,?_,⟨j+1,by omega,rfl,Sn hlt ha (Xb hc6 hc7),rfl⟩,(wk 0 0)⟩;omega
 obtain rfl:j=s.size:=by omega
 refine FS (h:=?_);refine A4 ?_;exact vb (by rw[Jt,if_neg (by omega),if_neg hc3,if_neg hc4,Sm (fun i hi=>ha i hi hi)])
end
theorem Xc(f:AM)(a:A7):JM f a=decide (12≤(Ai f a).entries.length):=by
 unfold JM Ai;cases Ba f a<;>simp[Nod.zero]
theorem Xd(f:AM)(a:A7):Jn f a=decide ((Ai f a).entries.length=0):=by
 unfold Jn Ai;cases Ba f a<;>simp[Nod.zero]
theorem Xe{f:AM}{a:A7}{k:Nat}{d:Dvc}{n:Nod}(hk:a.1=(k:Int))(hd:f[k]?=some d)(hn:Ba f a=some n):Gu f a=BN a.2 d.nodes:=by
 unfold Gu;rw[hn,hk,KV,hd]
section
theorem Xf(s:AB)(hs:s.size≤100000):AFn prog 258 [.v (.string s)] (fun r=>r= .v (.bool (LE s))):=by
 refine enter Tryz.func258 rfl rfl rfl rfl rfl 0 rfl ?_;refine Df (h:=D8 (h:=?_));refine BX (fun m t=>∃j:Nat,j≤s.size∧m=s.size - j∧(∀i (hi:i<s.size),i<j→(!((s[i].toNat:Int)==0))=true)∧t=⟨look [(0, .v (.string s)),(3, .v (.int .i64 (j:Int)))],⟨[],[]⟩⟩) (s.size) ((wk 0 0)) (⟨0,by omega,rfl,fun i _ hi=>by omega,rfl⟩) ?_;rintro m t ⟨j,hj,rfl,ha,rfl⟩;refine Dv (h:=n_ (h:=BZ (h:=?_)));refine A6 rfl (fun hb1 hc1=>?_) (fun hb1 hc1=>?_)
 ·have hlt:j<s.size:=by omega
  refine Bk (h:=EJ (h:=?_));refine A3 rfl (Js (n:=j) Tryz.underlying9 rfl rfl rfl hlt ?_);refine C2 (h:=?_);refine A6 rfl (fun hb2 hc2=>?_) (fun hb2 hc2=>?_)
  ·refine Cw (h:=Bj (h:=?_));refine A4 ?_;exact vb (by unfold LE;rw[Py hlt (by simp[hc2])];simp)
  refine Di (h:=?_);refine⟨_,_,?_,⟨j+1,by omega,rfl,Sn (p:=fun c=> !((c.toNat:Int)==0)) hlt ha (by simpa using hc2),rfl⟩,(wk 0 0)⟩;omega
 obtain rfl:j=s.size:=by omega
 have hal:=Sm (p:=fun c=> !((c.toNat:Int)==0)) (fun i hi=>ha i hi hi);refine Cg (h:=Aa (h:=n_ (h:=E5 (h:=m_ (h:=?_)))));refine AF true rfl rfl (fun hb3 hc3=>?_) (fun hb3 hc3=>?_)
 ·refine m_ (h:=n_ (h:=FL (h:=FN (h:=?_))));refine A4 ?_;exact vb (by unfold LE;rw[hal,Bool.eq_iff_iff];simp;omega)
 refine Cu (h:=At (h:=?_));refine A4 ?_;exact vb (by unfold LE;rw[hal,Bool.eq_iff_iff];simp;omega)
theorem LH(f:AM)(a:A7)(name:AB)(hf:FlsB f)(hs:name.size≤100000):AFn prog 230 [.agg (AW f), .agg (A8 a), .v (.string name)] (fun r=>r= .v (.int .i64 (C7 f a name))):=by
 refine enter Tryz.func230 rfl rfl rfl rfl rfl 0 rfl ?_;refine Dg (h:=Bl (h:=?_));refine A3 rfl (AA (G7 f a hf) ?_);rintro r rfl;refine Ea (h:=Dj (h:=?_));refine A6 rfl (fun hb1 hc1=>?_) (fun hb1 hc1=>?_)
 ·have e:=T2 hc1;refine Bd (h:=?_);refine A4 ?_;exact vi (by simp[C7,e])
 have e:=T1 hc1;refine D0 (h:=C6 (h:=?_));refine A6 rfl (fun hb2 hc2=>?_) (fun hb2 hc2=>?_)
 ·refine Bd (h:=?_);refine A4 ?_;exact vi (by simp[C7,e,hc2])
 refine AK (BD (h:=?_));refine A3 rfl (AA (O8 name hs) ?_);rintro r rfl;refine Dj (h:=?_);refine A6 rfl (fun hb3 hc3=>?_) (fun hb3 hc3=>?_)
 ·refine Bd (h:=?_);refine A4 ?_;exact vi (by simp only[C7,e];rw[if_pos (by omega),hc3];rfl)
 refine AK (Gt (h:=?_));refine A4 ?_;exact vi (by simp only[C7,e];rw[if_pos (by omega),hc3];rfl)
theorem Q1(f:AM)(a:A7)(hf:FlsB f):AFn prog 231 [.agg (AW f), .agg (A8 a)] (fun r=>r= .v (.bool (JM f a))):=by
 refine enter Tryz.func231 rfl rfl rfl rfl rfl 0 rfl ?_;refine Dg (h:=Bl (h:=?_));refine A3 rfl (AA (G7 f a hf) ?_);rintro r rfl;refine Dt (h:=B5 (h:=Ah (h:=n_ (h:=E5 (h:=At (h:=?_))))));refine A4 ?_;exact vb (by rw[Xc,Bool.eq_iff_iff];simp;omega)
theorem T3(f:AM)(a:A7)(hf:FlsB f):AFn prog 235 [.agg (AW f), .agg (A8 a)] (fun r=>r= .v (.bool (Jn f a))):=by
 refine enter Tryz.func235 rfl rfl rfl rfl rfl 0 rfl ?_;refine Dg (h:=Bl (h:=?_));refine A3 rfl (AA (G7 f a hf) ?_);rintro r rfl;refine Dt (h:=B5 (h:=Ah (h:=n_ (h:=ET (h:=At (h:=?_))))));refine A4 ?_;exact vb (by rw[Xd,Bool.eq_iff_iff];simp)
theorem T4(n:Nod)(hs:n.target.size≤100000):AFn prog 237 [.agg (AU n)] (fun r=>r= .v (.bool (FU n))):=by
 have ee:n.target.toList.isEmpty=decide (n.target=⟨#[]⟩):=by
  rw[←O5 n.target ⟨#[]⟩,show(⟨#[]⟩:ByteArray).toList=[] by rw[ByteArray.toList_eq]];cases n.target.toList<;>rfl
 refine enter Tryz.func237 rfl rfl rfl rfl rfl 0 rfl ?_;refine w_ (b_ (h:=B5 (h:=q_ (?_))));refine H9 (⟨look [(1, .bp 0 0),(40, .v (.bool (decide (n.kind<1∨3<n.kind∨n.mode<0∨511<n.mode∨n.uid<0∨4294967295<n.uid∨n.gid<0∨4294967295<n.gid))))],⟨[AU n],[]⟩⟩) ?_ ?_
 ·skip
  refine B2 (AN (h:=DS (h:=?_)));refine AF false rfl rfl (fun hb1 hc1=>?_) (fun hb1 hc1=>?_)
  ·refine EW (h:=EW (h:=EW (h:=G4 (h:=?_))));refine m_ (h:=G4 (h:=Bq (h:=?_)))
   first|(exfalso;first|contradiction|omega)|exact Aj 1 0 rfl rfl rfl rfl (by repeat (first|exact Sub.nil|refine Ak rfl rfl ?_|refine Ao ?_|refine Ap rfl ?_|refine Aq rfl ?_|(apply Sub.of;(focus exact rfl);(focus exact LeA.of_eq (vb (by rw[Bool.eq_iff_iff];simp;try omega)));(focus exact rfl))))
  refine Fz (h:=BQ (h:=?_));refine AF false rfl rfl (fun hb2 hc2=>?_) (fun hb2 hc2=>?_)
  ·refine EW (h:=EW (h:=EW (h:=G4 (h:=?_))));refine m_ (h:=Ce (h:=Bq (h:=?_)))
   first|(exfalso;first|contradiction|omega)|exact Aj 1 0 rfl rfl rfl rfl (by repeat (first|exact Sub.nil|refine Ak rfl rfl ?_|refine Ao ?_|refine Ap rfl ?_|refine Aq rfl ?_|(apply Sub.of;(focus exact rfl);(focus exact LeA.of_eq (vb (by rw[Bool.eq_iff_iff];simp;try omega)));(focus exact rfl))))
  refine AN (h:=Hs (h:=BQ (h:=?_)));refine AF false rfl rfl (fun hb3 hc3=>?_) (fun hb3 hc3=>?_)
  ·refine EW (h:=EW (h:=EW (h:=G4 (h:=?_))));refine Bq (h:=?_)
   first|(exfalso;first|contradiction|omega)|exact Aj 1 0 rfl rfl rfl rfl (by repeat (first|exact Sub.nil|refine Ak rfl rfl ?_|refine Ao ?_|refine Ap rfl ?_|refine Aq rfl ?_|(apply Sub.of;(focus exact rfl);(focus exact LeA.of_eq (vb (by rw[Bool.eq_iff_iff];simp;try omega)));(focus exact rfl))))
  refine Fz (h:=BQ (h:=?_));refine AF false rfl rfl (fun hb4 hc4=>?_) (fun hb4 hc4=>?_)
  ·refine EW (h:=EW (h:=G4 (h:=Bq (h:=?_))))
   first|(exfalso;first|contradiction|omega)|exact Aj 1 0 rfl rfl rfl rfl (by repeat (first|exact Sub.nil|refine Ak rfl rfl ?_|refine Ao ?_|refine Ap rfl ?_|refine Aq rfl ?_|(apply Sub.of;(focus exact rfl);(focus exact LeA.of_eq (vb (by rw[Bool.eq_iff_iff];simp;try omega)));(focus exact rfl))))
  refine AN (h:=Hs (h:=BQ (h:=?_)));refine AF false rfl rfl (fun hb5 hc5=>?_) (fun hb5 hc5=>?_)
  ·refine EW (h:=G4 (h:=Bq (h:=?_)))
   first|(exfalso;first|contradiction|omega)|exact Aj 1 0 rfl rfl rfl rfl (by repeat (first|exact Sub.nil|refine Ak rfl rfl ?_|refine Ao ?_|refine Ap rfl ?_|refine Aq rfl ?_|(apply Sub.of;(focus exact rfl);(focus exact LeA.of_eq (vb (by rw[Bool.eq_iff_iff];simp;try omega)));(focus exact rfl))))
  refine Fz (h:=BQ (h:=?_));refine AF false rfl rfl (fun hb6 hc6=>?_) (fun hb6 hc6=>?_)
  ·refine G4 (h:=Bq (h:=?_))
   first|(exfalso;first|contradiction|omega)|exact Aj 1 0 rfl rfl rfl rfl (by repeat (first|exact Sub.nil|refine Ak rfl rfl ?_|refine Ao ?_|refine Ap rfl ?_|refine Aq rfl ?_|(apply Sub.of;(focus exact rfl);(focus exact LeA.of_eq (vb (by rw[Bool.eq_iff_iff];simp;try omega)));(focus exact rfl))))
  refine AN (h:=Hs (h:=BQ (h:=?_)));refine AF false rfl rfl (fun hb7 hc7=>?_) (fun hb7 hc7=>?_)
  ·refine Ce (h:=Bq (h:=?_))
   first|(exfalso;first|contradiction|omega)|exact Aj 1 0 rfl rfl rfl rfl (by repeat (first|exact Sub.nil|refine Ak rfl rfl ?_|refine Ao ?_|refine Ap rfl ?_|refine Aq rfl ?_|(apply Sub.of;(focus exact rfl);(focus exact LeA.of_eq (vb (by rw[Bool.eq_iff_iff];simp;try omega)));(focus exact rfl))))
  refine Fz (h:=G5 (h:=?_))
  first|(exfalso;first|contradiction|omega)|exact Aj 1 0 rfl rfl rfl rfl (by repeat (first|exact Sub.nil|refine Ak rfl rfl ?_|refine Ao ?_|refine Ap rfl ?_|refine Aq rfl ?_|(apply Sub.of;(focus exact rfl);(focus exact LeA.of_eq (vb (by rw[Bool.eq_iff_iff];simp;try omega)));(focus exact rfl))))
 skip
 refine A6 rfl (fun hb8 hc8=>?_) (fun hb8 hc8=>?_)
 ·refine Bd (h:=?_);refine A4 ?_;exact vb (by rw[FU,if_pos hc8])
 refine D0 (h:=C2 (h:=?_));refine A6 rfl (fun hb9 hc9=>?_) (fun hb9 hc9=>?_)
 ·refine Ah (h:=?_);refine A3 rfl (AA (Xf n.target hs) ?_);rintro r rfl;refine At (h:=BS (?_));refine A4 ?_;exact vb (by rw[FU,if_neg hc8,if_pos hc9])
 refine AK (Ah (h:=ET (h:=At (h:=?_))));refine A4 ?_;exact vb (by rw[FU,if_neg hc8,if_neg hc9,ee])
theorem Xg(f:AM)(a:A7)(hf:FlsB f):AFn prog 257 [.agg (AW f), .agg (A8 a)] (fun r=>r= .v (.int .i64 (Gu f a:Int))):=by
 refine enter Tryz.func257 rfl rfl rfl rfl rfl 0 rfl ?_;refine Dg (h:=q_ (Bl (h:=?_)));refine A3 rfl (AA (Jp f a hf) ?_);rintro r rfl;refine BZ (h:=?_);refine A6 rfl (fun hb1 hc1=>?_) (fun hb1 hc1=>?_)
 ·have e:Ba f a=none:=by
   rcases JK f a with h|⟨k,i,d,n, -, -, -, -,h, -⟩
   ·exact h.2
   exfalso;omega
  refine Bd (h:=?_);refine A4 ?_;exact vi (by simp[Gu,e])
 obtain⟨k,i,d,n,g1,g2,g3,g4,g5,g6⟩:=(JK f a).resolve_left (fun h=>by omega);have hr1:(f.map Bn)[k]?=some (Bn d):=by rw[List.getElem?_map,g2];rfl
 have hdn:=hf.nodes d (AT g2);refine AK (Df (h:=Ah (h:=AN (h:=?_))));refine A3 rfl (EF (n:=k) rfl rfl g1 hr1 ?_);refine AN (h:=B5 (h:=D8 (h:=?_)));refine BX (fun m s=>∃j c:Nat,j≤d.nodes.length∧m=d.nodes.length - j∧c=BN a.2 (d.nodes.take j)∧c≤1000 * j∧s=⟨look [(3, .bp 1 0),(5, .v (.int .i64 (c:Int))),(6, .sl 8 (d.nodes.map AU) none),(7, .v (.int .i64 (j:Int)))],⟨[AW f,A8 a],[]⟩⟩) (d.nodes.length) ((wk 2 0)) (⟨0,0,by omega,rfl,rfl,by omega,rfl⟩) ?_;rintro m s ⟨j,c,hj,rfl,hcn,hcb,rfl⟩;refine Dv (h:=n_ (h:=BZ (h:=?_)));refine A6 rfl (fun hb2 hc2=>?_) (fun hb2 hc2=>?_)
 ·obtain⟨hlt,x,hx,hrow, -⟩:=Bw AU hc2;have hen:=hf.ents d (AT g2) x (AT hx);refine Bk (h:=Si (h:=?_));refine BX (fun m s=>∃i c2:Nat,i≤x.entries.length∧m=x.entries.length - i∧c2=c+CQ a.2 (x.entries.take i)∧c2≤c+i∧s=⟨look [(3, .bp 1 0),(5, .v (.int .i64 (c2:Int))),(6, .sl 8 (d.nodes.map AU) none),(7, .v (.int .i64 (j:Int))),(8, .v (.int .i64 (i:Int)))],⟨[AW f,A8 a],[]⟩⟩) (x.entries.length) ((wk 2 0)) (⟨0,c,by omega,rfl,rfl,by omega,rfl⟩) ?_;rintro m s ⟨i,c2,hi,rfl,hc2n,hc2b,rfl⟩;refine BD (h:=DF (h:=i_ (h:=Ct (h:=BZ (h:=?_)))));refine A6 rfl (fun hb3 hc3=>?_) (fun hb3 hc3=>?_)
  ·obtain⟨hlt3,y,hy,hrow3, -⟩:=Bw CT hc3;refine AK (q_ (BL (q_ (E4 12 (h:=Ac 0 (h:=Ac 1 (h:=FK 2 (h:=Ar 3 (h:=AD 4 (h:=Ac 5 (h:=FK 6 (h:=Ar 7 (h:=AD 8 (h:=Ar 9 (h:=AD 10 (h:=Fj 11 (h:=z_ (h:=t_ (?_)))))))))))))))))));refine A6 rfl (fun hb4 hc4=>?_) (fun hb4 hc4=>?_)
   ·refine LD (h:=EH (h:=?_))
    (refine⟨_,_,?_,⟨i+1,c2+1,by omega,rfl,?_,by omega,rfl⟩,(wk 2 0)⟩<;>first|omega|(rw[Pz hy];simp[hc4];omega))
   refine Di (h:=?_)
   first|(refine⟨_,_,?_,⟨i+1,c2+1,by omega,rfl,?_,by omega,rfl⟩,(wk 2 0)⟩<;>first|omega|(rw[Pz hy];simp[hc4];omega))|(refine⟨_,_,?_,⟨i+1,c2,by omega,rfl,?_,by omega,rfl⟩,(wk 2 0)⟩<;>first|omega|(rw[Pz hy];simp[hc4];omega))
  have e3:=CS CT hi hc3;subst e3;refine MG (h:=EH (h:=?_));refine⟨_,_,?_,⟨j+1,c2,by omega,rfl,?_,?_,rfl⟩,(wk 2 0)⟩
  ·omega
  ·rw[hc2n,XY hx,List.take_length];omega
  have:=XX a.2 (x.entries.take x.entries.length);simp at this;omega
 have e2:=CS AU hj hc2;subst e2;refine Cg (h:=Aa (h:=At (h:=?_)));refine A4 ?_;exact vi (by rw[Xe g1 g2 g6,hcn,List.take_length])
end
def GR(m:DU):List AV:=[.v (.int .i64 m.1), .v (.int .i64 m.2.1), .v (.int .i64 m.2.2)]
def AQ(s:Spc):List AV:=[.sl 2 (s.files.map Bn) none, .sl 3 (s.mounts.map GR) none]
structure SpcB(s:Spc):Prop where
 files:FlsB s.files
 few:s.mounts.length≤1000
def Bb(s:Spc)(dev:Int):Option A7:=(s.mounts.find? fun m:DU=>decide (m.1=dev)).map (·.2)
def CJ(s:Spc)(a:A7):Option Int:=(s.mounts.find? fun m:DU=>decide (m.2=a)).map (·.1)
def C9(s:Spc)(dev:Int):Bool:=(Bb s dev).isSome||decide (dev=0)
section
theorem Q2(op:BinOp)(a b c d:Int)(w:World):(op= .eql∨op= .neq)→(binOp op 26 (.agg #[.int .i64 a, .int .i64 b]) (.agg #[.int .i64 c, .int .i64 d])).run prog w= .ok (.bool (decide ((a,b)=(c,d))==decide (op= .eql))) w:=by
 have u3:=Tryz.underlying3;have a3:=Tryz.isAgg3;have z3:=Tryz.sizeOf3;have hS:prog.underlying 26=some (.struct (prog.fieldsOf 26)):=by kernel_rfl
 have hp:prog.stoodInHeld 26=false:=by kernel_rfl
 have e:∀w,(Op.equalIn 10000 26 (.agg #[.int .i64 a, .int .i64 b]) (.agg #[.int .i64 c, .int .i64 d])).run prog w= .ok (a==c&&b==d) w:=by
  intro w;rw[show(10000:Nat)=9999+1 from rfl,run_equalIn_agg w 9999 26 _ _ hS hp];simp only[Program.fieldsOf,Tryz.underlying26]
  go_simp
  by_cases h1:a=c<;>by_cases h2:b=d<;>simp[h1,h2]
 rintro(rfl|rfl)
 ·rw[run_eql_struct,e];by_cases h1:a=c<;>by_cases h2:b=d<;>simp[h1,h2]
 rw[run_neq_struct,e];by_cases h1:a=c<;>by_cases h2:b=d<;>simp[h1,h2]
theorem O9(a b c d:Int)(w:World):(binOp .eql 26 (.agg #[.int .i64 a, .int .i64 b]) (.agg #[.int .i64 c, .int .i64 d])).run prog w= .ok (.bool (decide ((a,b)=(c,d)))) w:=by
 rw[Q2 .eql a b c d w (.inl rfl)];by_cases h:(a,b)=(c,d)<;>simp[h]
theorem T5(a b c d:Int)(w:World):(binOp .neq 26 (.agg #[.int .i64 a, .int .i64 b]) (.agg #[.int .i64 c, .int .i64 d])).run prog w= .ok (.bool (!decide ((a,b)=(c,d)))) w:=by
 rw[Q2 .neq a b c d w (.inr rfl)];by_cases h:(a,b)=(c,d)<;>simp[h]
theorem Q3(s:Spc)(dev:Int)(hs:SpcB s):AFn prog 180 [.agg (AQ s), .v (.int .i64 dev)] (fun r=>r= .tup [.agg (A8 ((Bb s dev).getD (0,0))), .v (.bool (Bb s dev).isSome)]):=by
 have hfew:=hs.few;refine enter Tryz.func180 rfl rfl rfl rfl rfl 0 rfl ?_;refine w_ (EL (h:=B5 (h:=D8 (h:=?_))));refine BX (fun m t=>∃j:Nat,j≤s.mounts.length∧m=s.mounts.length - j∧(∀i y,i<j→s.mounts[i]?=some y→decide (y.1=dev)=false)∧t=⟨look [(1, .v (.int .i64 dev)),(2, .bp 0 0),(4, .bp 1 0),(6, .v (.int .i64 (j:Int)))],⟨[AQ s,[.v (.int .i64 0), .v (.int .i64 0)]],[]⟩⟩) (s.mounts.length) ((wk 2 0)) (⟨0,by omega,rfl,fun i y hi=>by omega,rfl⟩) ?_;rintro m t ⟨j,hj,rfl,ha,rfl⟩;refine BD (h:=Ct (h:=BZ (h:=?_)));refine A6 rfl (fun hb1 hc1=>?_) (fun hb1 hc1=>?_)
 ·obtain⟨hlt,x,hy,hrow, -⟩:=Bw GR hc1;refine Bk (h:=G3 (h:=i_ (h:=AN (h:=CX (h:=e_ (?_))))));refine A6 rfl (fun hb2 hc2=>?_) (fun hb2 hc2=>?_)
  ·refine G3 (h:=i_ (h:=AN (h:=s_ (h:=BK (h:=Bj (h:=?_))))));refine A4 ?_;rw[show Bb s dev=some x.2 by simp only[Bb];rw[KX hy (by simpa using hc2) ha];rfl];rfl
  refine Di (h:=?_);refine⟨_,_,?_,⟨j+1,by omega,rfl,Hu hy ha (by simpa using hc2),rfl⟩,(wk 2 0)⟩;omega
 have e3:=CS GR hj hc1;subst e3;refine Cg (h:=KT (h:=?_));refine A4 ?_;rw[show Bb s dev=none by simp only[Bb];rw[KY ha];rfl];rfl
theorem OA(s:Spc)(dev:Int)(hs:SpcB s):AFn prog 124 [.agg (AQ s), .v (.int .i64 dev)] (fun r=>r= .v (.bool (C9 s dev))):=by
 refine enter Tryz.func124 rfl rfl rfl rfl rfl 0 rfl ?_;refine w_ (b_ (h:=B5 (h:=Be (h:=m_ (h:=?_)))));refine A3 rfl (AA (Q3 s dev hs) ?_);rintro r rfl;refine Dt (h:=BJ (h:=m_ (h:=?_)));refine AF false rfl rfl (fun hb1 hc1=>?_) (fun hb1 hc1=>?_)
 ·refine B1 (h:=FN (h:=?_));refine A4 ?_;exact vb (by unfold C9;rw[hc1];simp)
 refine CX (h:=EY (h:=?_));refine A4 ?_;exact vb (by unfold C9;rw[hc1];simp)
theorem T6(s:Spc)(a:A7)(hs:SpcB s):AFn prog 181 [.agg (AQ s), .agg (A8 a)] (fun r=>r= .tup [.v (.int .i64 ((CJ s a).getD 0)), .v (.bool (CJ s a).isSome)]):=by
 have hfew:=hs.few;refine enter Tryz.func181 rfl rfl rfl rfl rfl 0 rfl ?_;refine EV (h:=a_ (h:=B5 (h:=D8 (h:=?_))));refine BX (fun m t=>∃j:Nat,j≤s.mounts.length∧m=s.mounts.length - j∧(∀i y,i<j→s.mounts[i]?=some y→decide (y.2=a)=false)∧t=⟨look [(2, .bp 0 0),(3, .bp 1 0),(6, .v (.int .i64 (j:Int)))],⟨[AQ s,A8 a],[]⟩⟩) (s.mounts.length) ((wk 2 0)) (⟨0,by omega,rfl,fun i y hi=>by omega,rfl⟩) ?_;rintro m t ⟨j,hj,rfl,ha,rfl⟩;refine BD (h:=Ct (h:=BZ (h:=?_)));refine A6 rfl (fun hb1 hc1=>?_) (fun hb1 hc1=>?_)
 ·obtain⟨hlt,x,hy,hrow, -⟩:=Bw GR hc1;refine AK (q_ (BL (q_ (E4 8 (h:=Ar 0 (h:=AD 1 (h:=Ac 2 (h:=FK 3 (h:=Ar 4 (h:=AD 5 (h:=AD 6 (h:=?_))))))))))));refine Ft (i:=7) rfl (Ff rfl rfl (by repeat constructor) (by repeat constructor) (fun w=>O9 _ _ _ _ w) (by kernel_rfl) ⟨rfl,rfl⟩) ?_;refine z_ (h:=t_ (?_));refine A6 rfl (fun hb2 hc2=>?_) (fun hb2 hc2=>?_)
  ·refine G3 (h:=i_ (h:=AN (h:=EK (h:=Bj (h:=?_)))));refine A4 ?_;rw[show CJ s a=some x.1 by simp only[CJ];rw[KX hy (decide_eq_true hc2) ha];rfl];rfl
  refine Di (h:=?_);refine⟨_,_,?_,⟨j+1,by omega,rfl,Hu hy ha (decide_eq_false hc2),rfl⟩,(wk 2 0)⟩;omega
 have e3:=CS GR hj hc1;subst e3;refine Cg (h:=w_ (KS (h:=?_)));refine A4 ?_;rw[show CJ s a=none by simp only[CJ];rw[KY ha];rfl];rfl
theorem Xh(s:Spc)(a:A7)(hs:SpcB s):AFn prog 125 [.agg (AQ s), .agg (A8 a)] (fun r=>r= .v (.bool (CJ s a).isSome)):=by
 refine enter Tryz.func125 rfl rfl rfl rfl rfl 0 rfl ?_;refine Dg (h:=Bl (h:=?_));refine A3 rfl (AA (T6 s a hs) ?_);rintro r rfl;refine Fx (h:=a_ (h:=BJ (h:=At (h:=?_))));refine A4 ?_;rfl
theorem T7(s:Spc)(dev:Int)(hs:SpcB s):AFn prog 229 [.agg (AQ s), .v (.int .i64 dev)] (fun r=>r= .tup [.agg (A8 ((Bb s dev).getD (0,0))), .v (.bool (Bb s dev).isSome)]):=by
 have hfew:=hs.few;refine enter Tryz.func229 rfl rfl rfl rfl rfl 0 rfl ?_;refine w_ (EL (h:=G2 (h:=Fm (h:=e_ (BL (?_))))));refine BX (fun m t=>∃j:Nat,j≤s.mounts.length∧m=s.mounts.length - j∧(∀i y,i<j→s.mounts[i]?=some y→decide (y.1=dev)=false)∧t=⟨look [(1, .v (.int .i64 dev)),(4, .bp 1 0),(9, .sl 3 (s.mounts.map GR) none),(10, .v (.int .i64 ((s.mounts.map GR).length:Int))),(11, .v (.int .i64 (j:Int)))],⟨[AQ s,[.v (.int .i64 0), .v (.int .i64 0)]],[]⟩⟩) (s.mounts.length) ((wk 2 0)) (⟨0,by omega,rfl,fun i y hi=>by omega,rfl⟩) ?_;rintro m t ⟨j,hj,rfl,ha,rfl⟩;refine w_ (BZ (h:=q_ (?_)));refine A6 rfl (fun hb1 hc1=>?_) (fun hb1 hc1=>?_)
 ·obtain⟨hlt,x,hy,hrow, -⟩:=Bw GR hc1;refine Bk (h:=w_ (Dh (h:=CY (h:=Ah (h:=CX (h:=e_ (?_)))))));refine A6 rfl (fun hb2 hc2=>?_) (fun hb2 hc2=>?_)
  ·refine Ah (h:=s_ (h:=BK (h:=Bj (h:=?_))));refine A4 ?_;rw[show Bb s dev=some x.2 by simp only[Bb];rw[KX hy (by simpa using hc2) ha];rfl];rfl
  refine As (Am (t_ (B2 (Es (h:=?_)))));refine⟨_,_,?_,⟨j+1,by omega,rfl,Hu hy ha (by simpa using hc2),rfl⟩,(wk 2 0)⟩;omega
 have e3:=CS GR hj hc1;subst e3;refine Cg (h:=KT (h:=?_));refine A4 ?_;rw[show Bb s dev=none by simp only[Bb];rw[KY ha];rfl];rfl
theorem Xi(s:Spc)(dev:Int)(hs:SpcB s):AFn prog 187 [.agg (AQ s), .v (.int .i64 dev)] (fun r=>r= .v (.bool (C9 s dev))):=by
 refine enter Tryz.func187 rfl rfl rfl rfl rfl 0 rfl ?_;refine w_ (b_ (h:=Bi (h:=C2 (h:=?_))));refine A6 rfl (fun hb1 hc1=>?_) (fun hb1 hc1=>?_)
 ·refine Bd (h:=?_);refine A4 ?_;exact vb (by unfold C9;simp[hc1])
 refine AK (Be (h:=m_ (h:=?_)));refine A3 rfl (AA (T7 s dev hs) ?_);rintro r rfl;refine Dt (h:=BJ (h:=At (h:=?_)));refine A4 ?_;exact vb (by unfold C9;simp[hc1])
end
def Hw(t:Tst):Nat→Bool
 |0=>false
 |k+1=>Hw t k||decide (B9 t ((k:Int)+1)=0)
def Ju(t:Tst):Bool:=Hw t 5
theorem MJ(t:Tst):∀k,Hw t k=true↔∃j:Nat,j<k∧B9 t ((j:Int)+1)=0
 |0=>by simp[Hw]
 |k+1=>by
   simp only[Hw,Bool.or_eq_true,MJ t k,decide_eq_true_eq];constructor
   ·rintro(⟨j,h1,h2⟩|h)
    ·exact⟨j,by omega,h2⟩
    exact⟨k,by omega,h⟩
   rintro⟨j,h1,h2⟩;rcases Nat.lt_or_ge j k with h|h
   ·exact .inl ⟨j,h,h2⟩
   have:j=k:=by omega
   subst this;exact .inr h2
theorem Xj{t:Tst}{k:Nat}(hk:k≤5)(h:Hw t k=true):Ju t=true:=by
 obtain⟨j,h1,h2⟩:=(MJ t k).1 h;exact(MJ t 5).2 ⟨j,by omega,h2⟩
theorem Xk{t:Tst}{k:Nat}(hk:k≤5)(h5:5≤k)(h:Hw t k=false):Ju t=false:=by
 obtain rfl:k=5:=by omega
 exact h
theorem T8{list f:Int}(h:DV list f=true):1≤f∧f≤22:=by
 unfold DV C8 at h
 (repeat' split at h)<;>simp at h<;>omega
theorem TA{f:Int}(h:DW f=true):DM f=false:=by
 unfold DW at h;unfold DM;simp at h ⊢;omega
theorem TB{t:Tst}(h:Ju t=true):Sz t:=by
 obtain⟨j,_,h2⟩:=(MJ t 5).1 h;generalize (j:Int)+1=list at h2;unfold B9 at h2;split at h2
 ·cases h2
 rename_i h3;split at h2
 ·cases h2
 rename_i h4;simp only[not_or,not_and]at h3 h4;have ha:=T8 (by simpa using h3.1);refine⟨ha.1,ha.2,?_,by omega,by omega⟩;by_cases ho:t.other=0
 ·exact .inl ho
 obtain⟨h5,h6,h7⟩:=h3.2 ho;have hb:=T8 (list:=list) (f:=t.other) (by simpa using h5);exact .inr ⟨hb.1,hb.2,TA (by simpa using h7)⟩
def LJ(y:Itm):Bool:= !decide (y.file=(0,0))
def KZ(t:Tst)(c:Ctx):Bool:=
 if Ju t=false then false else if HL t.fld=false∧HL t.other=false then G8 t c Itm.zero else c.items.any fun y=>LJ y&&G8 t c y
def OB(t:Tst)(c:Ctx):Bool:=
 if Ju t=false∨GQ t.fld c=false∨t.other≠0∧GQ t.other c=false then false else if HL t.fld=false∧HL t.other=false then LG t c Itm.zero else c.items.any fun y=>LJ y&&LG t c y
theorem TC{α:Type}(p:α→Bool)(l:List α)(k:Nat){x:α}(hx:l[k]?=some x):(l.take (k+1)).any p=((l.take k).any p||p x):=by
 obtain⟨hk,e⟩:=AP.1 hx;rw[List.take_succ_eq_append_getElem hk,List.any_append,e];simp
theorem Xl{α:Type}{p:α→Bool}{l:List α}{k:Nat}{x:α}(hx:l[k]?=some x)(h:p x=true):l.any p=true:=
 List.any_eq_true.2 ⟨x,AT hx,h⟩
section
theorem Xm(a b c d:Int)(w:World):(binOp .neq 26 (.agg #[.int .i64 a, .int .i64 b]) (.agg #[.int .i64 c, .int .i64 d])).run prog w= .ok (.bool (!decide ((a,b)=(c,d)))) w:=by
 rw[Q2 .neq a b c d w (.inr rfl)];simp
theorem Xn(t:Tst)(c:Ctx)(k:Cxs)(hn:c.items.length≤1000):AFn prog 113 [.agg (CB t), .agg (EB c k)] (fun r=>r= .v (.bool (KZ t c))):=by
 refine enter Tryz.func113 rfl rfl rfl rfl rfl 0 rfl ?_;refine Dg (h:=Df (h:=D8 (h:=?_)));refine BX (fun n s=>∃j:Nat,j≤5∧n=5 - j∧s=⟨look [(2, .bp 0 0),(3, .bp 1 0),(4, .v (.bool false)),(5, .v (.bool (Hw t j))),(6, .v (.int .i64 ((j:Int)+1)))],⟨[CB t,EB c k],[]⟩⟩) (5) ((wk 2 0)) (⟨0,by omega,rfl,rfl⟩) ?_;rintro n s ⟨j,hj,rfl,rfl⟩;refine BD (h:=FL (h:=e_ (?_)));refine A6 rfl (fun hb1 hc1=>?_) (fun hb1 hc1=>?_)
 ·refine Bk (h:=BV (h:=m_ (h:=?_)));refine AF false rfl rfl (fun hb2 hc2=>?_) (fun hb2 hc2=>?_)
  ·refine Fl (h:=EG (h:=EH (h:=?_)));refine⟨_,_,?_,⟨j+1,by omega,rfl,rfl⟩,Aj 2 0 rfl rfl rfl rfl (by repeat (first|exact Sub.nil|refine Ak rfl rfl ?_|refine Ao ?_|refine Ap rfl ?_|refine Aq rfl ?_|(apply Sub.of;(focus exact rfl);(focus exact LeA.of_eq (vb (by simp[Hw, *])));(focus exact rfl))))⟩;omega
  refine l_ (h:=m_ (h:=?_));refine Af (AA (Sy _ _) ?_);rintro r rfl;refine ET (h:=C0 (h:=EG (h:=EH (h:=?_))));refine⟨_,_,?_,⟨j+1,by omega,rfl,rfl⟩,Aj 2 0 rfl rfl rfl rfl (by repeat (first|exact Sub.nil|refine Ak rfl rfl ?_|refine Ao ?_|refine Ap rfl ?_|refine Aq rfl ?_|(apply Sub.of;(focus exact rfl);(focus exact LeA.of_eq (vb (by simp[Hw, *])));(focus exact rfl))))⟩;omega
 refine Cg (h:=BD (h:=Dj (h:=?_)));refine A6 rfl (fun hb3 hc3=>?_) (fun hb3 hc3=>?_)
 ·have hs:=Xk hj (by omega) hc3;refine Bd (h:=?_);refine A4 ?_
  first|(exfalso;first|contradiction|omega)|(exact vb (by simp[KZ,hs]))
 have hs:=Xj hj hc3;have ht:=TB hs;refine FR (h:=?_);refine H9 (⟨look [(2, .bp 0 0),(3, .bp 1 0),(4, .v (.bool false)),(31, .v (.bool (!HL t.fld&& !HL t.other)))],⟨[CB t,EB c k],[]⟩⟩) ?_ ?_
 ·skip
  refine B2 (AN (h:=?_));refine A3 rfl (AA (So _) ?_);rintro r rfl;refine Dw (h:=?_);refine AF true rfl rfl (fun hb4 hc4=>?_) (fun hb4 hc4=>?_)
  ·refine AN (h:=?_);refine Af (AA (So _) ?_);rintro r rfl;refine Dd (h:=Bc (h:=Bq (h:=?_)))
   first|(exfalso;first|contradiction|omega)|exact Aj 2 0 rfl rfl rfl rfl (by repeat (first|exact Sub.nil|refine Ak rfl rfl ?_|refine Ao ?_|refine Ap rfl ?_|refine Aq rfl ?_|(apply Sub.of;(focus exact rfl);(focus exact LeA.of_eq (vb (by simp[*])));(focus exact rfl))))
  refine BF (h:=G5 (h:=?_))
  first|(exfalso;first|contradiction|omega)|exact Aj 2 0 rfl rfl rfl rfl (by repeat (first|exact Sub.nil|refine Ak rfl rfl ?_|refine Ao ?_|refine Ap rfl ?_|refine Aq rfl ?_|(apply Sub.of;(focus exact rfl);(focus exact LeA.of_eq (vb (by simp[*])));(focus exact rfl))))
 skip
 refine A6 rfl (fun hb5 hc5=>?_) (fun hb5 hc5=>?_)
 ·simp at hc5;refine Bl (h:=Ck (h:=?_));refine A3 rfl (AA (T0 t c k Itm.zero ht) ?_);rintro r rfl;refine At (h:=BS (?_));refine A4 ?_
  first|(exfalso;first|contradiction|omega)|(exact vb (by simp[KZ,hs,hc5]))
 have hi:¬(HL t.fld=false∧HL t.other=false):=by simpa using hc5
 refine D0 (h:=Fm (h:=e_ (BL (?_))));refine BX (fun n s=>∃j:Nat,j≤c.items.length∧n=c.items.length - j∧(c.items.take j).any (fun y=>LJ y&&G8 t c y)=false∧s=⟨look [(2, .bp 0 0),(3, .bp 1 0),(37, .sl 13 (c.items.map EA) none),(38, .v (.int .i64 ((c.items.map EA).length:Int))),(39, .v (.int .i64 (j:Int)))],⟨[CB t,EB c k],[]⟩⟩) (c.items.length) ((wk 2 0)) (⟨0,by omega,rfl,rfl,rfl⟩) ?_;rintro n s ⟨j,hj,rfl,ha,rfl⟩;refine w_ (BZ (h:=q_ (?_)));refine A6 rfl (fun hb6 hc6=>?_) (fun hb6 hc6=>?_)
 ·obtain⟨hlt,y,hy,hrow, -⟩:=Bw EA hc6;refine Bk (h:=w_ (Dh (h:=CY (h:=Ah (h:=Ck (h:=?_))))));refine A3 rfl (Ff rfl rfl (by repeat constructor) (by repeat constructor) (fun w=>Xm _ _ _ _ w) (by kernel_rfl) ?_);refine m_ (h:=?_);refine AF true rfl rfl (fun hb7 hc7=>?_) (fun hb7 hc7=>?_)
  ·refine Em (h:=l_ (h:=?_));refine Af (AA (T0 t c k y ht) ?_);rintro r rfl;refine Cl (h:=?_);refine A6 rfl (fun hb8 hc8=>?_) (fun hb8 hc8=>?_)
   ·refine Cw (h:=Bj (h:=?_));refine A4 ?_
    first|(exfalso;first|contradiction|omega)|(exact vb (by rw[KZ,if_neg (by simp[hs]),if_neg hi,Xl hy (by simp[LJ, *])]))
   refine As (Am (t_ (B2 (Es (h:=?_)))));refine⟨_,_,?_,⟨j+1,by omega,rfl,(by rw[TC _ _ _ hy,ha];simp[LJ, *]),rfl⟩,(wk 2 0)⟩;omega
  refine BF (h:=D7 (h:=As (Am (t_ (B2 (Es (h:=?_)))))));refine⟨_,_,?_,⟨j+1,by omega,rfl,(by rw[TC _ _ _ hy,ha];simp[LJ, *]),rfl⟩,(wk 2 0)⟩;omega
 have e:=CS EA hj hc6;subst e;rw[List.take_length]at ha;refine FS (h:=?_);refine A4 ?_
 first|(exfalso;first|contradiction|omega)|(exact vb (by rw[KZ,if_neg (by simp[hs]),if_neg hi,ha]))
end
theorem Xo{t:Tst}(h:Ju t=true)(h2:t.other≠0):DM t.fld=false:=by
 obtain⟨j,_,h3⟩:=(MJ t 5).1 h;unfold B9 at h3;split at h3
 ·cases h3
 rename_i h4;simp only[not_or,not_and]at h4;exact TA (by simpa using(h4.2 h2).2.1)
theorem TD{f:Int}{c:Ctx}(h1:1≤f)(h2:f≤22)(h3:DM f=false):BW f c=GQ f c:=by
 simp only[DM,decide_eq_false_iff_not]at h3;unfold BW GQ
 (repeat' split)<;>first|omega|(simp;omega)|(simp[*];done)|rfl
theorem Xp{f:Int}{c:Ctx}(h:DM f=true):GQ f c=true:=by
 simp only[DM,decide_eq_true_eq]at h;unfold GQ;rw[if_neg (by omega)];simp;omega
theorem Xq{t:Tst}{c:Ctx}(hs:Ju t=true)(y:Itm):G8 t c y=if GQ t.fld c=false∨t.other≠0∧GQ t.other c=false then false else LG t c y:=by
 obtain⟨f1,f2,o, -, -⟩:=TB hs;have h2:=Xo hs;by_cases ht:DM t.fld=true
 ·have ho:t.other=0:=Classical.byContradiction fun e=>by simp[h2 e]at ht
  rw[if_neg (by simp[Xp ht,ho])];simp[G8,LG,ht]
 have ht':DM t.fld=false:=by simpa using ht
 have e1:=TD (c:=c) f1 f2 ht';by_cases h0:t.other=0
 ·simp only[G8,LG,ht',e1,h0];cases GQ t.fld c<;>simp
 obtain⟨o1,o2,o3⟩:=o.resolve_left h0;have e2:=TD (c:=c) o1 o2 o3;simp only[G8,LG,ht',e1,e2,h0];cases GQ t.fld c<;>cases GQ t.other c<;>simp[h0]
theorem TE(t:Tst)(c:Ctx):KZ t c=OB t c:=by
 unfold KZ OB
 cases hs:Ju t with
 |false=>simp
 |true=>
   simp only[Xq hs];by_cases hq:GQ t.fld c=false∨t.other≠0∧GQ t.other c=false
   ·simp[hq]
   simp[hq]
end Go.Proofs.YtbgnigjfkbmceaaGreatDoor
