/-
  Part 5 of the proof of FilterFollowsP: what the statement's proof uses of the texts in wip/tpl.
-/
import Derived.Laws.StructEq
import Derived.Test.YtbgnigjfkbmceaaGreatDoorQi4
open Go.Proofs.Tryz (prog)
set_option maxRecDepth 10000
set_option maxHeartbeats 4000000
set_option linter.unusedVariables false
set_option linter.unusedSimpArgs false
namespace Go.Proofs.YtbgnigjfkbmceaaGreatDoor
open Go.RowKit
def Kf(op a b:Int):Bool:=
 if op=1 then decide (a=b)else if op=2 then !decide (a=b)else if op=3 then decide (a<b)else if op=4 then decide (a≤b)else if op=5 then decide (b<a)
 else if op=6 then decide (b≤a)else if op=7 then !decide (Gf .i64 a b=0)else decide (Gf .i64 a b=b)
section
theorem WJ(op a b:Int)(h1:1≤op)(h2:op≤8):AFn prog 223 [.v (.int .i64 op), .v (.int .i64 a), .v (.int .i64 b)] (fun r=>r= .v (.bool (Kf op a b))):=by
 refine enter Tryz.func223 rfl rfl rfl rfl rfl 0 rfl ?_;refine w_ (Bw (h:=e_ (BH (B1 (h:=?_)))));refine A4 rfl (fun hb1 hc1=>?_) (fun hb1 hc1=>?_)
 ·refine Aa (h:=DD (h:=BC (h:=?_)));refine A6 ?_
  first|(exfalso;first|contradiction|omega)|(exact vb (by unfold Kf;simp[*]))
 refine B1 (h:=?_);refine A4 rfl (fun hb2 hc2=>?_) (fun hb2 hc2=>?_)
 ·refine E9 (h:=GH (h:=BC (h:=?_)));refine A6 ?_
  first|(exfalso;first|contradiction|omega)|(exact vb (by unfold Kf;simp[*]))
 refine B1 (h:=?_);refine A4 rfl (fun hb3 hc3=>?_) (fun hb3 hc3=>?_)
 ·refine E9 (h:=K8 (h:=BC (h:=?_)));refine A6 ?_
  first|(exfalso;first|contradiction|omega)|(exact vb (by unfold Kf;simp[*]))
 refine B1 (h:=?_);refine A4 rfl (fun hb4 hc4=>?_) (fun hb4 hc4=>?_)
 ·refine E9 (h:=HA (h:=BC (h:=?_)));refine A6 ?_
  first|(exfalso;first|contradiction|omega)|(exact vb (by unfold Kf;simp[*]))
 refine B1 (h:=?_);refine A4 rfl (fun hb5 hc5=>?_) (fun hb5 hc5=>?_)
 ·refine E9 (h:=E6 (h:=BC (h:=?_)));refine A6 ?_
  first|(exfalso;first|contradiction|omega)|(exact vb (by unfold Kf;simp[*]))
 refine B1 (h:=?_);refine A4 rfl (fun hb6 hc6=>?_) (fun hb6 hc6=>?_)
 ·refine E9 (h:=EJ (h:=BC (h:=?_)));refine A6 ?_
  first|(exfalso;first|contradiction|omega)|(exact vb (by unfold Kf;simp[*]))
 refine B1 (h:=?_);refine A4 rfl (fun hb7 hc7=>?_) (fun hb7 hc7=>?_)
 ·refine E9 (h:=FC (h:=GH (h:=BC (h:=?_))));refine A6 ?_
  first|(exfalso;first|contradiction|omega)|(exact vb (by unfold Kf;simp[*]))
 refine B1 (h:=?_);refine A4 rfl (fun hb8 hc8=>?_) (fun hb8 hc8=>?_)
 ·refine E9 (h:=FC (h:=DD (h:=BC (h:=?_))));refine A6 ?_
  first|(exfalso;first|contradiction|omega)|(exact vb (by unfold Kf;simp[*]))
 refine Er (h:=?_);refine A6 ?_
 (exfalso;first|contradiction|omega)
theorem eB(f:Int)(c:Ctx)(k:Cxs)(y:Itm)(h1:15≤f)(h2:f≤21):AFn prog 254 [.v (.int .i64 f), .agg (Fm c k), .agg (Fl y)] (fun r=>r= .tup [.v (.int .i64 (Dm f c y)), .v (.bool true)]):=by
 refine enter Tryz.func254 rfl rfl rfl rfl rfl 0 rfl ?_;refine Dh (h:=a_ (h:=Bw (h:=e_ (BH (B1 (h:=?_))))));refine A4 rfl (fun hb1 hc1=>?_) (fun hb1 hc1=>?_)
 ·refine Az (h:=Ft (h:=?_));refine A6 ?_
  first|(exfalso;first|contradiction|omega)|(exact congrArg (fun z=>AV.tup [.v (.int .i64 z), .v (.bool true)]) (by unfold Dm;simp[*]))
 refine B1 (h:=?_);refine A4 rfl (fun hb2 hc2=>?_) (fun hb2 hc2=>?_)
 ·refine Ci (h:=EJ (h:=e_ (?_)));refine A4 rfl (fun hb3 hc3=>?_) (fun hb3 hc3=>?_)
  ·refine w_ (EU (h:=Cv (h:=?_)));refine A6 ?_
   first|(exfalso;first|contradiction|omega)|(exact congrArg (fun z=>AV.tup [.v (.int .i64 z), .v (.bool true)]) (by unfold Dm;simp[*]))
  refine AG (w_ (Ft (h:=?_)));refine A6 ?_
  first|(exfalso;first|contradiction|omega)|(exact congrArg (fun z=>AV.tup [.v (.int .i64 z), .v (.bool true)]) (by unfold Dm;simp[*]))
 refine B1 (h:=?_);refine A4 rfl (fun hb4 hc4=>?_) (fun hb4 hc4=>?_)
 ·refine w_ (ET (h:=Ft (h:=?_)));refine A6 ?_
  first|(exfalso;first|contradiction|omega)|(exact congrArg (fun z=>AV.tup [.v (.int .i64 z), .v (.bool true)]) (by unfold Dm;simp[*]))
 refine B1 (h:=?_);refine A4 rfl (fun hb5 hc5=>?_) (fun hb5 hc5=>?_)
 ·refine w_ (ET (h:=Ft (h:=?_)));refine A6 ?_
  first|(exfalso;first|contradiction|omega)|(exact congrArg (fun z=>AV.tup [.v (.int .i64 z), .v (.bool true)]) (by unfold Dm;simp[*]))
 refine B1 (h:=?_);refine A4 rfl (fun hb6 hc6=>?_) (fun hb6 hc6=>?_)
 ·refine Az (h:=Ft (h:=?_));refine A6 ?_
  first|(exfalso;first|contradiction|omega)|(exact congrArg (fun z=>AV.tup [.v (.int .i64 z), .v (.bool true)]) (by unfold Dm;simp[*]))
 refine B1 (h:=?_);refine A4 rfl (fun hb7 hc7=>?_) (fun hb7 hc7=>?_)
 ·refine Az (h:=Ft (h:=?_));refine A6 ?_
  first|(exfalso;first|contradiction|omega)|(exact congrArg (fun z=>AV.tup [.v (.int .i64 z), .v (.bool true)]) (by unfold Dm;simp[*]))
 refine B1 (h:=?_);refine A4 rfl (fun hb8 hc8=>?_) (fun hb8 hc8=>?_)
 ·refine Az (h:=Ft (h:=?_));refine A6 ?_
  first|(exfalso;first|contradiction|omega)|(exact congrArg (fun z=>AV.tup [.v (.int .i64 z), .v (.bool true)]) (by unfold Dm;simp[*]))
 refine BF (BB (t_ (w_ (a_ (h:=BJ (h:=?_))))));refine A6 ?_
 (exfalso;first|contradiction|omega)
def NumP(f:Int)(c:Ctx)(y:Itm)(r:AV):Prop:=∃n,r= .tup [.v (.int .i64 n), .v (.bool (C3 f c))]∧(C3 f c=true→n=Dm f c y)
theorem NumP.mk{f n:Int}{c:Ctx}{y:Itm}{b:Bool}(hb:b=C3 f c)(hn:C3 f c=true→n=Dm f c y):NumP f c y (.tup [.v (.int .i64 n), .v (.bool b)]):=⟨n,by rw[hb],hn⟩
theorem WK(f:Int)(c:Ctx)(k:Cxs)(y:Itm)(h1:1≤f)(h2:f≤22)(ht:Ei f=false):AFn prog 222 [.v (.int .i64 f), .agg (Fm c k), .agg (Fl y)] (NumP f c y):=by
 simp only[Ei,decide_eq_false_iff_not]at ht;refine enter Tryz.func222 rfl rfl rfl rfl rfl 0 rfl ?_;refine Dh (h:=a_ (h:=Bw (h:=e_ (BH (B1 (h:=?_))))));refine A4 rfl (fun hb1 hc1=>?_) (fun hb1 hc1=>?_)
 ·refine w_ (ET (h:=Ft (h:=?_)));refine A6 ?_
  first|(exfalso;first|contradiction|omega)|(exact NumP.mk (by unfold C3;(repeat' split)<;>(first|omega|(simp[*];done)|(simp;omega)|(simp at *;omega))) (fun hq=>by first|(unfold Dm;simp[*];done)|(unfold C3 at hq;simp[*]at hq;omega)|(unfold C3 at hq;simp[*]at hq)))
 refine B1 (h:=?_);refine A4 rfl (fun hb2 hc2=>?_) (fun hb2 hc2=>?_)
 ·refine w_ (ET (h:=Ft (h:=?_)));refine A6 ?_
  first|(exfalso;first|contradiction|omega)|(exact NumP.mk (by unfold C3;(repeat' split)<;>(first|omega|(simp[*];done)|(simp;omega)|(simp at *;omega))) (fun hq=>by first|(unfold Dm;simp[*];done)|(unfold C3 at hq;simp[*]at hq;omega)|(unfold C3 at hq;simp[*]at hq)))
 refine B1 (h:=?_);refine A4 rfl (fun hb3 hc3=>?_) (fun hb3 hc3=>?_)
 ·refine w_ (ET (h:=Ft (h:=?_)));refine A6 ?_
  first|(exfalso;first|contradiction|omega)|(exact NumP.mk (by unfold C3;(repeat' split)<;>(first|omega|(simp[*];done)|(simp;omega)|(simp at *;omega))) (fun hq=>by first|(unfold Dm;simp[*];done)|(unfold C3 at hq;simp[*]at hq;omega)|(unfold C3 at hq;simp[*]at hq)))
 refine B1 (h:=?_);refine A4 rfl (fun hb4 hc4=>?_) (fun hb4 hc4=>?_)
 ·refine w_ (ET (h:=Ft (h:=?_)));refine A6 ?_
  first|(exfalso;first|contradiction|omega)|(exact NumP.mk (by unfold C3;(repeat' split)<;>(first|omega|(simp[*];done)|(simp;omega)|(simp at *;omega))) (fun hq=>by first|(unfold Dm;simp[*];done)|(unfold C3 at hq;simp[*]at hq;omega)|(unfold C3 at hq;simp[*]at hq)))
 refine B1 (h:=?_);refine A4 rfl (fun hb5 hc5=>?_) (fun hb5 hc5=>?_)
 ·refine w_ (ET (h:=Ft (h:=?_)));refine A6 ?_
  first|(exfalso;first|contradiction|omega)|(exact NumP.mk (by unfold C3;(repeat' split)<;>(first|omega|(simp[*];done)|(simp;omega)|(simp at *;omega))) (fun hq=>by first|(unfold Dm;simp[*];done)|(unfold C3 at hq;simp[*]at hq;omega)|(unfold C3 at hq;simp[*]at hq)))
 refine B1 (h:=?_);refine A4 rfl (fun hb6 hc6=>?_) (fun hb6 hc6=>?_)
 ·refine w_ (ET (h:=Ft (h:=?_)));refine A6 ?_
  first|(exfalso;first|contradiction|omega)|(exact NumP.mk (by unfold C3;(repeat' split)<;>(first|omega|(simp[*];done)|(simp;omega)|(simp at *;omega))) (fun hq=>by first|(unfold Dm;simp[*];done)|(unfold C3 at hq;simp[*]at hq;omega)|(unfold C3 at hq;simp[*]at hq)))
 refine B1 (h:=?_);refine A4 rfl (fun hb7 hc7=>?_) (fun hb7 hc7=>?_)
 ·refine w_ (ET (h:=Ft (h:=?_)));refine A6 ?_
  first|(exfalso;first|contradiction|omega)|(exact NumP.mk (by unfold C3;(repeat' split)<;>(first|omega|(simp[*];done)|(simp;omega)|(simp at *;omega))) (fun hq=>by first|(unfold Dm;simp[*];done)|(unfold C3 at hq;simp[*]at hq;omega)|(unfold C3 at hq;simp[*]at hq)))
 refine B1 (h:=?_);refine A4 rfl (fun hb8 hc8=>?_) (fun hb8 hc8=>?_)
 ·refine w_ (ET (h:=Ft (h:=?_)));refine A6 ?_
  first|(exfalso;first|contradiction|omega)|(exact NumP.mk (by unfold C3;(repeat' split)<;>(first|omega|(simp[*];done)|(simp;omega)|(simp at *;omega))) (fun hq=>by first|(unfold Dm;simp[*];done)|(unfold C3 at hq;simp[*]at hq;omega)|(unfold C3 at hq;simp[*]at hq)))
 refine q_ (B1 (h:=?_));refine A4 rfl (fun hb9 hc9=>?_) (fun hb9 hc9=>?_)
 ·refine AG (Fr (h:=Aa (h:=L4 (h:=f_ (h:=f_ (h:=?_))))));refine A3 rfl (CB (n:=0) (len:=4) (sz:=1) (by kernel_rfl) rfl rfl (by omega) rfl ?_);refine l_ (h:=Ft (h:=?_));refine A6 ?_
  first|(exfalso;first|contradiction|omega)|(exact NumP.mk (by unfold C3;(repeat' split)<;>(first|omega|(simp[*];done)|(simp;omega)|(simp at *;omega))) (fun hq=>by first|(unfold Dm;simp[*];done)|(unfold C3 at hq;simp[*]at hq;omega)|(unfold C3 at hq;simp[*]at hq)))
 refine B1 (h:=?_);refine A4 rfl (fun hb10 hc10=>?_) (fun hb10 hc10=>?_)
 ·refine AG (Fr (h:=Aa (h:=L4 (h:=f_ (h:=f_ (h:=?_))))))
  first|refine A3 rfl (CB (n:=0) (len:=4) (sz:=1) (by kernel_rfl) rfl rfl (by omega) rfl ?_)|refine A3 rfl (CB (n:=1) (len:=4) (sz:=1) (by kernel_rfl) rfl rfl (by omega) rfl ?_)
  refine l_ (h:=Ft (h:=?_));refine A6 ?_
  first|(exfalso;first|contradiction|omega)|(exact NumP.mk (by unfold C3;(repeat' split)<;>(first|omega|(simp[*];done)|(simp;omega)|(simp at *;omega))) (fun hq=>by first|(unfold Dm;simp[*];done)|(unfold C3 at hq;simp[*]at hq;omega)|(unfold C3 at hq;simp[*]at hq)))
 refine B1 (h:=?_);refine A4 rfl (fun hb11 hc11=>?_) (fun hb11 hc11=>?_)
 ·refine AG (Fr (h:=Aa (h:=L4 (h:=f_ (h:=f_ (h:=?_))))))
  first|refine A3 rfl (CB (n:=0) (len:=4) (sz:=1) (by kernel_rfl) rfl rfl (by omega) rfl ?_)|refine A3 rfl (CB (n:=1) (len:=4) (sz:=1) (by kernel_rfl) rfl rfl (by omega) rfl ?_)|refine A3 rfl (CB (n:=2) (len:=4) (sz:=1) (by kernel_rfl) rfl rfl (by omega) rfl ?_)
  refine l_ (h:=Ft (h:=?_));refine A6 ?_
  first|(exfalso;first|contradiction|omega)|(exact NumP.mk (by unfold C3;(repeat' split)<;>(first|omega|(simp[*];done)|(simp;omega)|(simp at *;omega))) (fun hq=>by first|(unfold Dm;simp[*];done)|(unfold C3 at hq;simp[*]at hq;omega)|(unfold C3 at hq;simp[*]at hq)))
 refine Av (Ed (h:=?_));refine A4 rfl (fun hb12 hc12=>?_) (fun hb12 hc12=>?_)
 ·refine Aa (h:=L4 (h:=f_ (h:=f_ (h:=?_))))
  first|refine A3 rfl (CB (n:=0) (len:=4) (sz:=1) (by kernel_rfl) rfl rfl (by omega) rfl ?_)|refine A3 rfl (CB (n:=1) (len:=4) (sz:=1) (by kernel_rfl) rfl rfl (by omega) rfl ?_)|refine A3 rfl (CB (n:=2) (len:=4) (sz:=1) (by kernel_rfl) rfl rfl (by omega) rfl ?_)|refine A3 rfl (CB (n:=3) (len:=4) (sz:=1) (by kernel_rfl) rfl rfl (by omega) rfl ?_)
  refine l_ (h:=Ft (h:=?_));refine A6 ?_
  first|(exfalso;first|contradiction|omega)|(exact NumP.mk (by unfold C3;(repeat' split)<;>(first|omega|(simp[*];done)|(simp;omega)|(simp at *;omega))) (fun hq=>by first|(unfold Dm;simp[*];done)|(unfold C3 at hq;simp[*]at hq;omega)|(unfold C3 at hq;simp[*]at hq)))
 refine B1 (h:=?_);refine A4 rfl (fun hb13 hc13=>?_) (fun hb13 hc13=>?_)
 ·refine q_ (Db 7 (h:=AD 0 (h:=AA 1 (h:=AD 2 (h:=AA 3 (h:=NG 4 (h:=BE 5 (h:=BE 6 (h:=z_ (h:=t_ (B8 (K2 (Bu (?_))))))))))))));refine A6 ?_
  first|(exfalso;first|contradiction|omega)|(exact NumP.mk (by unfold C3;(repeat' split)<;>(first|omega|(simp[*];done)|(simp;omega)|(simp at *;omega))) (fun hq=>by first|(unfold Dm;simp[*];done)|(unfold C3 at hq;simp[*]at hq;omega)|(unfold C3 at hq;simp[*]at hq)))
 refine BF (BB (t_ (Ci (h:=Bn (h:=?_)))));refine A4 rfl (fun hb14 hc14=>?_) (fun hb14 hc14=>?_)
 ·refine w_ (EU (h:=?_));refine A6 ?_
  first|(exfalso;first|contradiction|omega)|(exact NumP.mk (by unfold C3;(repeat' split)<;>(first|omega|(simp[*];done)|(simp;omega)|(simp at *;omega))) (fun hq=>by first|(unfold Dm;simp[*];done)|(unfold C3 at hq;simp[*]at hq;omega)|(unfold C3 at hq;simp[*]at hq)))
 refine AG (Aa (h:=GL (h:=?_)));refine A3 rfl (A8 (eB f c k y (by omega) (by omega)) ?_);rintro r rfl;refine L5 (h:=a_ (h:=BJ (h:=?_)));refine A6 ?_
 first|(exfalso;first|contradiction|omega)|(exact NumP.mk (by unfold C3;(repeat' split)<;>(first|omega|(simp[*];done)|(simp;omega)|(simp at *;omega))) (fun hq=>by first|(unfold Dm;simp[*];done)|(unfold C3 at hq;simp[*]at hq;omega)|(unfold C3 at hq;simp[*]at hq)))
end
theorem WM(s:AE):s=⟨#[]⟩↔s.size=0:=by
 constructor
 ·intro h;rw[h];rfl
 intro h
 cases s with
 |mk a=>
   have:a=#[]:=Array.eq_empty_of_size_eq_zero h;rw[this]
section
theorem WO(t:Tst)(list:Int):AFn prog 159 [.agg (Cy t), .v (.int .i64 list)] (fun r=>r= .v (.int .i64 (Ba t list))):=by
 have hz:=WM t.text;refine enter Tryz.func159 rfl rfl rfl rfl rfl 0 rfl ?_;refine C6 (h:=Bw (h:=Ab (h:=?_)));refine A3 rfl (A8 (WG _ _) ?_);rintro r rfl;refine DE (h:=?_);refine A4 rfl (fun hb1 hc1=>?_) (fun hb1 hc1=>?_)
 ·refine BA (h:=?_);refine A6 ?_
  first|(exfalso;first|contradiction|omega)|(exact vi (by unfold Ba;grind))
 refine D8 (h:=FW (h:=?_));refine AJ true rfl rfl (fun hb2 hc2=>?_) (fun hb2 hc2=>?_)
 ·refine m_ (h:=Ab (h:=?_));refine As (A8 (WG _ _) ?_);rintro r rfl;refine EV (h:=?_);refine AJ false rfl rfl (fun hb3 hc3=>?_) (fun hb3 hc3=>?_)
  ·refine BT (h:=C7 (h:=Fi (h:=FE (h:=?_))));refine A6 ?_
   first|(exfalso;first|contradiction|omega)|(exact vi (by unfold Ba;grind))
  refine Ab (h:=?_);refine As (A8 (WE _) ?_);rintro r rfl;refine Cr (h:=Bh (h:=?_));refine AJ false rfl rfl (fun hb4 hc4=>?_) (fun hb4 hc4=>?_)
  ·refine Fi (h:=FE (h:=?_));refine A6 ?_
   first|(exfalso;first|contradiction|omega)|(exact vi (by unfold Ba;grind))
  refine Ab (h:=?_);refine As (A8 (WE _) ?_);rintro r rfl;refine Cr (h:=Bp (h:=Bj (h:=e_ (?_))));refine A4 rfl (fun hb5 hc5=>?_) (fun hb5 hc5=>?_)
  ·refine BA (h:=?_);refine A6 ?_
   first|(exfalso;first|contradiction|omega)|(exact vi (by unfold Ba;grind))
  refine D8 (h:=Di (h:=?_));refine AJ false rfl rfl (fun hb6 hc6=>?_) (fun hb6 hc6=>?_)
  ·refine EK (h:=BA (h:=?_));refine A6 ?_
   first|(exfalso;first|contradiction|omega)|(exact vi (by unfold Ba;grind))
  refine JL (h:=CV (h:=?_));refine A4 rfl (fun hb7 hc7=>?_) (fun hb7 hc7=>?_)
  ·refine BA (h:=?_);refine A6 ?_
   first|(exfalso;first|contradiction|omega)|(exact vi (by unfold Ba;grind))
  refine D8 (h:=FW (h:=?_));refine AJ true rfl rfl (fun hb8 hc8=>?_) (fun hb8 hc8=>?_)
  ·refine D5 (h:=C7 (h:=?_));refine AJ true rfl rfl (fun hb9 hc9=>?_) (fun hb9 hc9=>?_)
   ·refine Ab (h:=?_);refine As (A8 (JP _) ?_);rintro r rfl;refine m_ (h:=?_);refine AJ false rfl rfl (fun hb10 hc10=>?_) (fun hb10 hc10=>?_)
    ·refine Hr (h:=FE (h:=?_));refine A6 ?_
     first|(exfalso;first|contradiction|omega)|(exact vi (by unfold Ba;grind))
    refine D5 (h:=Bp (h:=FE (h:=?_)));refine A6 ?_
    first|(exfalso;first|contradiction|omega)|(exact vi (by unfold Ba;grind))
   refine Gl (h:=Dg (h:=Fj (h:=C2 (h:=Az (h:=FW (h:=JM (h:=?_)))))));refine AJ false rfl rfl (fun hb11 hc11=>?_) (fun hb11 hc11=>?_)
   ·refine Hr (h:=EW (h:=Eg (h:=?_)));refine A6 ?_
    first|(exfalso;first|contradiction|omega)|(exact vi (by unfold Ba;grind))
   refine D5 (h:=Bp (h:=EW (h:=?_)));refine A4 rfl (fun hb12 hc12=>?_) (fun hb12 hc12=>?_)
   ·refine Bl (h:=?_);refine A6 ?_
    first|(exfalso;first|contradiction|omega)|(exact vi (by unfold Ba;grind))
   refine Az (h:=?_);refine A3 rfl (A8 (JP _) ?_);rintro r rfl;refine m_ (h:=?_);refine AJ true rfl rfl (fun hb13 hc13=>?_) (fun hb13 hc13=>?_)
   ·refine JM (h:=Cx (h:=Bh (h:=Fi (h:=EW (h:=Eg (h:=?_))))));refine A6 ?_
    first|(exfalso;first|contradiction|omega)|(exact vi (by unfold Ba;grind))
   refine Gl (h:=BD (h:=Jc (h:=Bp (h:=GM (h:=Az (h:=?_))))));refine A3 rfl (A8 (JP _) ?_);rintro r rfl;refine EV (h:=D5 (h:=EW (h:=JH (h:=Er (h:=?_)))));refine A6 ?_
   first|(exfalso;first|contradiction|omega)|(exact vi (by unfold Ba;grind))
  refine Fh (h:=Gl (h:=Dg (h:=Fj (h:=C2 (h:=Az (h:=FW (h:=?_)))))));refine JM (h:=?_);refine AJ false rfl rfl (fun hb14 hc14=>?_) (fun hb14 hc14=>?_)
  ·refine Hr (h:=EW (h:=Eg (h:=?_)));refine A6 ?_
   first|(exfalso;first|contradiction|omega)|(exact vi (by unfold Ba;grind))
  refine D5 (h:=Bp (h:=EW (h:=?_)));refine A4 rfl (fun hb15 hc15=>?_) (fun hb15 hc15=>?_)
  ·refine Bl (h:=?_);refine A6 ?_
   first|(exfalso;first|contradiction|omega)|(exact vi (by unfold Ba;grind))
  refine Az (h:=?_);refine A3 rfl (A8 (JP _) ?_);rintro r rfl;refine m_ (h:=?_);refine AJ true rfl rfl (fun hb16 hc16=>?_) (fun hb16 hc16=>?_)
  ·refine JM (h:=Cx (h:=Bh (h:=Fi (h:=EW (h:=Eg (h:=?_))))));refine A6 ?_
   first|(exfalso;first|contradiction|omega)|(exact vi (by unfold Ba;grind))
  refine Gl (h:=BD (h:=Jc (h:=Bp (h:=GM (h:=Az (h:=?_))))));refine A3 rfl (A8 (JP _) ?_);rintro r rfl;refine EV (h:=D5 (h:=EW (h:=JH (h:=Er (h:=?_)))));refine A6 ?_
  first|(exfalso;first|contradiction|omega)|(exact vi (by unfold Ba;grind))
 refine BT (h:=BD (h:=LV (h:=BD (h:=Jc (h:=Fj (h:=FY (h:=w_ (f_ (h:=?_)))))))));refine l_ (h:=Di (h:=?_));refine AJ false rfl rfl (fun hb17 hc17=>?_) (fun hb17 hc17=>?_)
 ·refine EK (h:=BA (h:=?_));refine A6 ?_
  first|(exfalso;first|contradiction|omega)|(exact vi (by unfold Ba;grind))
 refine JL (h:=CV (h:=?_));refine A4 rfl (fun hb18 hc18=>?_) (fun hb18 hc18=>?_)
 ·refine BA (h:=?_);refine A6 ?_
  first|(exfalso;first|contradiction|omega)|(exact vi (by unfold Ba;grind))
 refine D8 (h:=FW (h:=?_));refine AJ true rfl rfl (fun hb19 hc19=>?_) (fun hb19 hc19=>?_)
 ·refine D5 (h:=C7 (h:=?_));refine AJ true rfl rfl (fun hb20 hc20=>?_) (fun hb20 hc20=>?_)
  ·refine Ab (h:=?_);refine As (A8 (JP _) ?_);rintro r rfl;refine m_ (h:=?_);refine AJ false rfl rfl (fun hb21 hc21=>?_) (fun hb21 hc21=>?_)
   ·refine Hr (h:=FE (h:=?_));refine A6 ?_
    first|(exfalso;first|contradiction|omega)|(exact vi (by unfold Ba;grind))
   refine D5 (h:=Bp (h:=Bj (h:=e_ (JH (h:=C2 (h:=Az (h:=FW (h:=Gl (h:=Dg (h:=Bp (h:=?_)))))))))));refine GM (h:=Az (h:=?_));refine A3 rfl (A8 (JP _) ?_);rintro r rfl;refine m_ (h:=Gl (h:=BD (h:=Jc (h:=Bp (h:=GM (h:=Az (h:=?_)))))));refine A3 rfl (A8 (JP _) ?_);rintro r rfl;refine EV (h:=D5 (h:=EW (h:=?_)));refine A4 rfl (fun hb22 hc22=>?_) (fun hb22 hc22=>?_)
   ·refine Bl (h:=?_);refine A6 ?_
    first|(exfalso;first|contradiction|omega)|(exact vi (by unfold Ba;grind))
   refine Er (h:=?_);refine A6 ?_
   first|(exfalso;first|contradiction|omega)|(exact vi (by unfold Ba;grind))
  refine Gl (h:=Dg (h:=Fj (h:=C2 (h:=Az (h:=FW (h:=BT (h:=Ma (h:=?_))))))));refine NJ (h:=Dg (h:=Bp (h:=GM (h:=Az (h:=?_)))));refine A3 rfl (A8 (JP _) ?_);rintro r rfl;refine m_ (h:=?_);refine AJ true rfl rfl (fun hb23 hc23=>?_) (fun hb23 hc23=>?_)
  ·refine JM (h:=?_);refine AJ false rfl rfl (fun hb24 hc24=>?_) (fun hb24 hc24=>?_)
   ·refine Ch (h:=Fi (h:=EW (h:=Eg (h:=?_))));refine A6 ?_
    first|(exfalso;first|contradiction|omega)|(exact vi (by unfold Ba;grind))
   refine Cx (h:=Bh (h:=?_));refine AJ false rfl rfl (fun hb25 hc25=>?_) (fun hb25 hc25=>?_)
   ·refine Fi (h:=EW (h:=Eg (h:=?_)));refine A6 ?_
    first|(exfalso;first|contradiction|omega)|(exact vi (by unfold Ba;grind))
   refine Ef (h:=E6 (h:=Bp (h:=EW (h:=?_))));refine A4 rfl (fun hb26 hc26=>?_) (fun hb26 hc26=>?_)
   ·refine Bl (h:=?_);refine A6 ?_
    first|(exfalso;first|contradiction|omega)|(exact vi (by unfold Ba;grind))
   refine Az (h:=?_);refine A3 rfl (A8 (JP _) ?_);rintro r rfl;refine EV (h:=DC (h:=GM (h:=Er (h:=?_))));refine A6 ?_
   first|(exfalso;first|contradiction|omega)|(exact vi (by unfold Ba;grind))
  refine Gl (h:=BD (h:=Jc (h:=Bp (h:=GM (h:=Az (h:=?_))))));refine A3 rfl (A8 (JP _) ?_);rintro r rfl;refine EV (h:=D5 (h:=EW (h:=?_)));refine A4 rfl (fun hb27 hc27=>?_) (fun hb27 hc27=>?_)
  ·refine Bl (h:=?_);refine A6 ?_
   first|(exfalso;first|contradiction|omega)|(exact vi (by unfold Ba;grind))
  refine Er (h:=?_);refine A6 ?_
  first|(exfalso;first|contradiction|omega)|(exact vi (by unfold Ba;grind))
 refine Fh (h:=Gl (h:=Dg (h:=Fj (h:=C2 (h:=Az (h:=FW (h:=?_)))))));refine Gl (h:=Dg (h:=Bp (h:=GM (h:=Az (h:=?_)))));refine A3 rfl (A8 (JP _) ?_);rintro r rfl;refine m_ (h:=?_);refine AJ true rfl rfl (fun hb28 hc28=>?_) (fun hb28 hc28=>?_)
 ·refine JM (h:=?_);refine AJ false rfl rfl (fun hb29 hc29=>?_) (fun hb29 hc29=>?_)
  ·refine Ch (h:=Fi (h:=EW (h:=Eg (h:=?_))));refine A6 ?_
   first|(exfalso;first|contradiction|omega)|(exact vi (by unfold Ba;grind))
  refine Cx (h:=Bh (h:=?_));refine AJ false rfl rfl (fun hb30 hc30=>?_) (fun hb30 hc30=>?_)
  ·refine Fi (h:=EW (h:=Eg (h:=?_)));refine A6 ?_
   first|(exfalso;first|contradiction|omega)|(exact vi (by unfold Ba;grind))
  refine Ef (h:=E6 (h:=Bp (h:=EW (h:=?_))));refine A4 rfl (fun hb31 hc31=>?_) (fun hb31 hc31=>?_)
  ·refine Bl (h:=?_);refine A6 ?_
   first|(exfalso;first|contradiction|omega)|(exact vi (by unfold Ba;grind))
  refine Az (h:=?_);refine A3 rfl (A8 (JP _) ?_);rintro r rfl;refine EV (h:=DC (h:=GM (h:=Er (h:=?_))));refine A6 ?_
  first|(exfalso;first|contradiction|omega)|(exact vi (by unfold Ba;grind))
 refine Gl (h:=BD (h:=Jc (h:=Bp (h:=GM (h:=Az (h:=?_))))));refine A3 rfl (A8 (JP _) ?_);rintro r rfl;refine EV (h:=D5 (h:=EW (h:=?_)));refine A4 rfl (fun hb32 hc32=>?_) (fun hb32 hc32=>?_)
 ·refine Bl (h:=?_);refine A6 ?_
  first|(exfalso;first|contradiction|omega)|(exact vi (by unfold Ba;grind))
 refine Er (h:=?_);refine A6 ?_
 first|(exfalso;first|contradiction|omega)|(exact vi (by unfold Ba;grind))
theorem eC(t:Tst)(list:Int):AFn prog 155 [.agg (Cy t), .v (.int .i64 list)] (fun r=>r= .v (.int .i64 (Ba t list))):=by
 have hz:=WM t.text;have ho:Ei t.fld=true→Et t.fld=false:=by unfold Ei Et;simp;omega
 refine enter Tryz.func155 rfl rfl rfl rfl rfl 0 rfl ?_;refine C6 (h:=Bw (h:=Ab (h:=?_)));refine A3 rfl (A8 (WH _ _) ?_);rintro r rfl;refine EV (h:=?_);refine AJ false rfl rfl (fun hb1 hc1=>?_) (fun hb1 hc1=>?_)
 ·refine BT (h:=LV (h:=LV (h:=LV (h:=NJ (h:=Lx (h:=Dg (h:=Bj (h:=e_ (?_)))))))));refine Fr (h:=BA (h:=?_));refine A6 ?_
  first|(exfalso;first|contradiction|omega)|(exact vi (by unfold Ba;grind))
 refine JM (h:=?_);refine AJ true rfl rfl (fun hb2 hc2=>?_) (fun hb2 hc2=>?_)
 ·refine m_ (h:=Ab (h:=?_));refine As (A8 (WH _ _) ?_);rintro r rfl;refine EV (h:=?_);refine AJ false rfl rfl (fun hb3 hc3=>?_) (fun hb3 hc3=>?_)
  ·refine BT (h:=C7 (h:=Fi (h:=Bj (h:=Bp (h:=NL (h:=BA (h:=?_)))))));refine A6 ?_
   first|(exfalso;first|contradiction|omega)|(exact vi (by unfold Ba;grind))
  refine Ab (h:=?_);refine As (A8 (WF _) ?_);rintro r rfl;refine Cr (h:=Bh (h:=?_));refine AJ false rfl rfl (fun hb4 hc4=>?_) (fun hb4 hc4=>?_)
  ·refine Fi (h:=Bj (h:=Bp (h:=NL (h:=BA (h:=?_)))));refine A6 ?_
   first|(exfalso;first|contradiction|omega)|(exact vi (by unfold Ba;grind))
  refine Ab (h:=?_);refine As (A8 (WF _) ?_);rintro r rfl;refine Cr (h:=Bp (h:=Bj (h:=CV (h:=?_))));refine A4 rfl (fun hb5 hc5=>?_) (fun hb5 hc5=>?_)
  ·refine BA (h:=?_);refine A6 ?_
   first|(exfalso;first|contradiction|omega)|(exact vi (by unfold Ba;grind))
  refine D8 (h:=Di (h:=?_));refine AJ false rfl rfl (fun hb6 hc6=>?_) (fun hb6 hc6=>?_)
  ·refine Ch (h:=BT (h:=LV (h:=Jc (h:=K9 (h:=Cw (h:=?_))))));refine B8 (Bu (?_));refine A6 ?_
   first|(exfalso;first|contradiction|omega)|(exact vi (by unfold Ba;grind))
  refine JL (h:=Bh (h:=?_));refine AJ false rfl rfl (fun hb7 hc7=>?_) (fun hb7 hc7=>?_)
  ·refine BT (h:=LV (h:=Jc (h:=FE (h:=?_))));refine A6 ?_
   first|(exfalso;first|contradiction|omega)|(exact vi (by unfold Ba;grind))
  refine JL (h:=m_ (h:=?_));refine AJ true rfl rfl (fun hb8 hc8=>?_) (fun hb8 hc8=>?_)
  ·refine Ab (h:=?_);refine As (A8 (Mf _) ?_);rintro r rfl;refine m_ (h:=?_);refine AJ false rfl rfl (fun hb9 hc9=>?_) (fun hb9 hc9=>?_)
   ·refine Hr (h:=Bj (h:=Bp (h:=NL (h:=BA (h:=?_)))));refine A6 ?_
    first|(exfalso;first|contradiction|omega)|(exact vi (by unfold Ba;grind))
   refine D5 (h:=Bp (h:=Bj (h:=Bp (h:=NL (h:=BA (h:=?_))))));refine A6 ?_
   first|(exfalso;first|contradiction|omega)|(exact vi (by unfold Ba;grind))
  refine Gl (h:=Dg (h:=Bp (h:=Fj (h:=D8 (h:=FW (h:=JM (h:=?_)))))));refine AJ false rfl rfl (fun hb10 hc10=>?_) (fun hb10 hc10=>?_)
  ·refine Hr (h:=FE (h:=?_));refine A6 ?_
   first|(exfalso;first|contradiction|omega)|(exact vi (by unfold Ba;grind))
  refine D5 (h:=Bp (h:=Bj (h:=e_ (?_))));refine A4 rfl (fun hb11 hc11=>?_) (fun hb11 hc11=>?_)
  ·refine BA (h:=?_);refine A6 ?_
   first|(exfalso;first|contradiction|omega)|(exact vi (by unfold Ba;grind))
  refine D8 (h:=E1 (h:=Fh (h:=Gl (h:=BD (h:=Lx (h:=?_))))));refine Ma (h:=Dg (h:=Bh (h:=Ab (h:=?_))));refine As (A8 (Mf _) ?_);rintro r rfl;refine EV (h:=?_);refine AJ true rfl rfl (fun hb12 hc12=>?_) (fun hb12 hc12=>?_)
  ·refine D5 (h:=Bj (h:=Fj (h:=AG (Kc (h:=?_)))));refine A6 ?_
   first|(exfalso;first|contradiction|omega)|(exact vi (by unfold Ba;grind))
  refine DC (h:=Fj (h:=AG (Kc (h:=?_))));refine A6 ?_
  first|(exfalso;first|contradiction|omega)|(exact vi (by unfold Ba;grind))
 refine BT (h:=BD (h:=LV (h:=BD (h:=Jc (h:=Bp (h:=Fj (h:=FY (h:=w_ (?_)))))))));refine Ab (h:=Di (h:=?_));refine AJ false rfl rfl (fun hb13 hc13=>?_) (fun hb13 hc13=>?_)
 ·refine Ch (h:=BT (h:=LV (h:=Jc (h:=K9 (h:=Cw (h:=?_))))));refine B8 (Bu (?_));refine A6 ?_
  first|(exfalso;first|contradiction|omega)|(exact vi (by unfold Ba;grind))
 refine JL (h:=Bh (h:=?_));refine AJ false rfl rfl (fun hb14 hc14=>?_) (fun hb14 hc14=>?_)
 ·refine BT (h:=LV (h:=Jc (h:=FE (h:=?_))));refine A6 ?_
  first|(exfalso;first|contradiction|omega)|(exact vi (by unfold Ba;grind))
 refine JL (h:=m_ (h:=?_));refine AJ true rfl rfl (fun hb15 hc15=>?_) (fun hb15 hc15=>?_)
 ·refine Ab (h:=?_);refine As (A8 (Mf _) ?_);rintro r rfl;refine m_ (h:=?_);refine AJ false rfl rfl (fun hb16 hc16=>?_) (fun hb16 hc16=>?_)
  ·refine Hr (h:=Bj (h:=Bp (h:=NL (h:=BA (h:=?_)))));refine A6 ?_
   first|(exfalso;first|contradiction|omega)|(exact vi (by unfold Ba;grind))
  refine D5 (h:=Bp (h:=Bj (h:=Fj (h:=D8 (h:=FW (h:=Gl (h:=Dg (h:=Bp (h:=?_)))))))));refine e_ (JH (h:=D8 (h:=E1 (h:=Ab (h:=?_)))));refine As (A8 (Mf _) ?_);rintro r rfl;refine C7 (h:=Gl (h:=BD (h:=Jc (h:=Bh (h:=Ab (h:=?_))))));refine As (A8 (Mf _) ?_);rintro r rfl;refine EV (h:=D5 (h:=Bj (h:=CV (h:=?_))));refine A4 rfl (fun hb17 hc17=>?_) (fun hb17 hc17=>?_)
  ·refine BA (h:=?_);refine A6 ?_
   first|(exfalso;first|contradiction|omega)|(exact vi (by unfold Ba;grind))
  refine AG (Kc (h:=?_));refine A6 ?_
  first|(exfalso;first|contradiction|omega)|(exact vi (by unfold Ba;grind))
 refine Gl (h:=Dg (h:=Bp (h:=Fj (h:=D8 (h:=FW (h:=BT (h:=Ma (h:=?_))))))));refine NJ (h:=Dg (h:=Fj (h:=D8 (h:=E1 (h:=Ab (h:=?_))))));refine As (A8 (Mf _) ?_);rintro r rfl;refine C7 (h:=?_);refine AJ true rfl rfl (fun hb18 hc18=>?_) (fun hb18 hc18=>?_)
 ·refine JM (h:=?_);refine AJ false rfl rfl (fun hb19 hc19=>?_) (fun hb19 hc19=>?_)
  ·refine Ch (h:=Fi (h:=C7 (h:=BD (h:=Hq (h:=Lx (h:=Dg (h:=K9 (h:=?_))))))));refine BA (h:=?_);refine A6 ?_
   first|(exfalso;first|contradiction|omega)|(exact vi (by unfold Ba;grind))
  refine Cx (h:=Bh (h:=?_));refine AJ false rfl rfl (fun hb20 hc20=>?_) (fun hb20 hc20=>?_)
  ·refine Fi (h:=C7 (h:=BD (h:=Hq (h:=Lx (h:=Dg (h:=FE (h:=?_)))))));refine A6 ?_
   first|(exfalso;first|contradiction|omega)|(exact vi (by unfold Ba;grind))
  refine Ef (h:=E6 (h:=Bp (h:=C7 (h:=?_))));refine AJ false rfl rfl (fun hb21 hc21=>?_) (fun hb21 hc21=>?_)
  ·refine BD (h:=Hq (h:=Lx (h:=Dg (h:=FE (h:=?_)))));refine A6 ?_
   first|(exfalso;first|contradiction|omega)|(exact vi (by unfold Ba;grind))
  refine Ab (h:=?_);refine As (A8 (Mf _) ?_);rintro r rfl;refine EV (h:=DC (h:=Fj (h:=AG (Kc (h:=?_)))));refine A6 ?_
  first|(exfalso;first|contradiction|omega)|(exact vi (by unfold Ba;grind))
 refine Gl (h:=BD (h:=Jc (h:=Bh (h:=Ab (h:=?_)))));refine As (A8 (Mf _) ?_);rintro r rfl;refine EV (h:=D5 (h:=Bj (h:=CV (h:=?_))));refine A4 rfl (fun hb22 hc22=>?_) (fun hb22 hc22=>?_)
 ·refine BA (h:=?_);refine A6 ?_
  first|(exfalso;first|contradiction|omega)|(exact vi (by unfold Ba;grind))
 refine AG (Kc (h:=?_));refine A6 ?_
 first|(exfalso;first|contradiction|omega)|(exact vi (by unfold Ba;grind))
def Mg(t:Tst)(c:Ctx):Bool:=decide ((if t.fld=14 then c.comm else c.exe)=t.text)==decide (t.op=1)
def O9(t:Tst)(c:Ctx)(y:Itm):Bool:=
 if Ei t.fld=true then Mg t c else Kf t.op (Dm t.fld c y) (if t.other=0 then t.num else Dm t.other c y)
def Jg(t:Tst)(c:Ctx)(y:Itm):Bool:=
 if Ei t.fld=true then Mg t c else if C3 t.fld c=false then false else if t.other=0 then Kf t.op (Dm t.fld c y) t.num else if C3 t.other c=false then false else Kf t.op (Dm t.fld c y) (Dm t.other c y)
def WP(t:Tst):Prop:=1≤t.fld∧t.fld≤22∧(t.other=0∨1≤t.other∧t.other≤22∧Ei t.other=false)∧1≤t.op∧t.op≤8
theorem WQ(t:Tst)(c:Ctx)(k:Cxs)(y:Itm)(ht:WP t):AFn prog 161 [.agg (Cy t), .agg (Fm c k), .agg (Fl y)] (fun r=>r= .v (.bool (Jg t c y))):=by
 obtain⟨f1,f2,o1,p1,p2⟩:=ht;refine enter Tryz.func161 rfl rfl rfl rfl rfl 0 rfl ?_;refine Dh (h:=b_ (h:=B7 (h:=Ci (h:=?_))));refine A3 rfl (A8 (JP _) ?_);rintro r rfl;refine e_ (?_);refine A4 rfl (fun hb1 hc1=>?_) (fun hb1 hc1=>?_)
 ·refine w_ (ET (h:=B7 (h:=Ci (h:=BN (h:=?_)))));refine A4 rfl (fun hb2 hc2=>?_) (fun hb2 hc2=>?_)
  ·refine Av (ET (h:=C4 (h:=Cx (h:=Cx (h:=EH (h:=E8 (h:=?_)))))));refine A6 ?_
   first|(exfalso;first|contradiction|omega)|(exact vb (by unfold Jg Mg;simp_all))
  refine AG (Aa (h:=Cx (h:=Cx (h:=EH (h:=E8 (h:=?_))))));refine A6 ?_
  first|(exfalso;first|contradiction|omega)|(exact vb (by unfold Jg Mg;simp_all))
 refine AG (Az (h:=GL (h:=?_)));refine A3 rfl (A8 (WK t.fld c k y f1 f2 hc1) ?_);rintro r ⟨n1,rfl,hn1⟩;refine GJ (h:=a_ (h:=Bw (h:=DE (h:=?_))));refine A4 rfl (fun hb3 hc3=>?_) (fun hb3 hc3=>?_)
 ·refine BA (h:=?_);refine A6 ?_
  first|(exfalso;first|contradiction|omega)|(exact vb (by unfold Jg Mg;simp_all))
 refine AG (Az (h:=B7 (h:=Ci (h:=Bn (h:=?_)))));refine A4 rfl (fun hb4 hc4=>?_) (fun hb4 hc4=>?_)
 ·refine Az (h:=GL (h:=?_));refine A3 rfl (A8 (WK t.other c k y (by omega) (by omega) (o1.resolve_left hc4).2.2) ?_);rintro r ⟨n2,rfl,hn2⟩;refine GJ (h:=a_ (h:=C4 (h:=DE (h:=?_))));refine A4 rfl (fun hb5 hc5=>?_) (fun hb5 hc5=>?_)
  ·refine BA (h:=?_);refine A6 ?_
   first|(exfalso;first|contradiction|omega)|(exact vb (by unfold Jg Mg;simp_all))
  refine AG (Az (h:=Jd (h:=?_)));refine A3 rfl (A8 (WJ _ _ _ p1 p2) ?_);rintro r rfl;refine BJ (h:=?_);refine A6 ?_
  first|(exfalso;first|contradiction|omega)|(exact vb (by unfold Jg Mg;simp_all))
 refine AG (Az (h:=Jd (h:=?_)));refine A3 rfl (A8 (WJ _ _ _ p1 p2) ?_);rintro r rfl;refine BJ (h:=?_);refine A6 ?_
 first|(exfalso;first|contradiction|omega)|(exact vb (by unfold Jg Mg;simp_all))
end
theorem Mh{α:Type}{p:α→Bool}{l:List α}{j:Nat}{x:α}(hx:l[j]?=some x)(hp:p x=true)(h:∀i y,i<j→l[i]?=some y→p y=false):l.find? p=some x:=by
 have:=W7 hx hp h;rw[←W9,this]
 simpa using hx
theorem Mi{α:Type}{p:α→Bool}{l:List α}(h:∀i y,i<l.length→l[i]?=some y→p y=false):l.find? p=none:=by
 rw[List.find?_eq_none];intro x hx;obtain⟨i,hi,rfl⟩:=List.mem_iff_getElem.1 hx;simp[h i _ hi (B3 hi)]
theorem WR{f:AR}{a:A9}(h:Dc f a=true):C8 f a=some (Ah f a):=by
 unfold Dc at h;unfold Ah
 cases hn:C8 f a with
 |none=>rw[hn]at h;cases h
 |some n=>rfl
theorem WS{f:AR}{a:A9}(h:Dc f a=false):C8 f a=none:=by
 unfold Dc at h
 cases hn:C8 f a with
 |none=>rfl
 |some n=>rw[hn]at h;cases h
section
theorem Kg(f:AR)(a:A9)(name:AE)(hf:FlsB f):AFn prog 134 [.agg (Ao f), .agg (AB a), .v (.string name)] (fun r=>r= .tup [.agg (AB (AK f a name).1), .v (.int .i64 (AK f a name).2)]):=by
 have hen:=RG hf a;refine enter Tryz.func134 rfl rfl rfl rfl rfl 0 rfl ?_;refine Jb (h:=CG (h:=?_));refine A3 rfl (A8 (FZ f a hf) ?_);rintro r rfl;refine Gm (h:=?_);refine A4 rfl (fun hb1 hc1=>?_) (fun hb1 hc1=>?_)
 ·have e:=WS hc1;refine Br (h:=?_);refine A6 ?_;rw[show AK f a name=((0,0),2) by simp[AK,e]];rfl
 have e:=WR hc1;refine D8 (h:=Bn (h:=?_));refine A4 rfl (fun hb2 hc2=>?_) (fun hb2 hc2=>?_)
 ·refine Br (h:=?_);refine A6 ?_;rw[show AK f a name=((0,0),20) by simp[AK,e,hc2]];rfl
 refine AG (CW (h:=?_));refine BR (fun m s=>∃j:Nat,j≤(Ah f a).entries.length∧m=(Ah f a).entries.length - j∧(∀i y,i<j→(Ah f a).entries[i]?=some y→decide (y.1=name)=false)∧s=⟨look [(2, .v (.string name)),(4, .bp 1 0),(6, .bp 2 0),(8, .bp 3 0),(10, .v (.int .i64 (j:Int)))],⟨[Ao f,AB a,[.v (.int .i64 0), .v (.int .i64 0)],Ac (Ah f a)],[]⟩⟩) ((Ah f a).entries.length) ((wk 4 0)) (⟨0,by omega,rfl,fun i y hi=>by omega,rfl⟩) ?_;rintro m s ⟨j,hj,rfl,ha,rfl⟩;refine GN (h:=?_);refine A4 rfl (fun hb3 hc3=>?_) (fun hb3 hc3=>?_)
 ·obtain⟨hlt,x,hy,hrow, -⟩:=Bz DO hc3;refine C2 (h:=Fu (h:=Gj (h:=BN (h:=?_))));refine A4 rfl (fun hb4 hc4=>?_) (fun hb4 hc4=>?_)
  ·refine q_ (BS ([(0,Ao f),(1,AB a),(3,Ac (Ah f a))]) 11 (h:=AD 0 (h:=AA 1 (h:=AD 2 (h:=AA 3 (h:=AF 4 (h:=DK 5 (h:=AD 6 (h:=AA 7 (h:=LU 8 (h:=?_)))))))))));refine Ak 9 (h:=BE 10 (h:=z_ (h:=t_ (B8 (K2 (Bu (Bu (K2 (Bu (?_))))))))));refine A6 ?_;rw[show AK f a name=((a.1,x.2),0) by simp only[AK,e];rw[if_pos (by omega),Mh hy (by simpa using hc4) ha]];rfl
  refine DL (h:=?_);refine⟨_,_,?_,⟨j+1,by omega,rfl,GP hy ha (by simpa using hc4),rfl⟩,(wk 4 0)⟩;omega
 have e3:=CD DO hj hc3;subst e3;refine CK (h:=w_ (E0 (h:=BJ (h:=?_))));refine A6 ?_;rw[show AK f a name=((0,0),2) by simp only[AK,e];rw[if_pos (by omega),Mi ha]];rfl
end
theorem M2{P:Program}{ev:Operand→Option AV}{h:AH}{R:AV→AH→Prop}{d:Option Tmp}{ty:TypeId}{pos:String}{af:Array Edge}{gd:Option (Nat×Bool)}{T:TypeId}{x ix:Operand}{s:ByteArray}{n:Nat}{k:IntKind}{i:Int}(hu:P.underlying T=some .string)
    (hx:ev x=some (.v (.string s))) (hi:ev ix=some (.v (.int k i))) (hn:i=(n:Int)) (hlt:n<s.size) (hR:R (.v (.int .u8 (s[n].toNat:Int))) h):AStep P ⟨d, .index T x ix,ty,pos,af,gd⟩ ev h R:=by
 refine DR (fun _ G w ec _ he=>?_) hR;have h1:=he x (by simp[Op.operands]) _ hx;have h2:=he ix (by simp[Op.operands]) _ hi;simp only[rep]at h1 h2;subst hn;refine⟨.int .u8 (s[n].toNat:Int),?_,by simp only[rep]⟩;have e:s[n]?=some s[n]:=getElem?_pos s n hlt;simp[execOp,h1,h2,Instr.index,asIntOf,run_underlying hu,e]
theorem Mj(s:AE):Fk s=if s.size<1∨12<s.size then false else if s=⟨#[46]⟩then false else if s=⟨#[46,46]⟩then false else s.data.toList.all M0:=by
 unfold Fk;have e1:=RE s ⟨#[46]⟩;have e2:=RE s ⟨#[46,46]⟩;rw[show(⟨#[46]⟩:ByteArray).toList=[46] by rw[ByteArray.toList_eq]]at e1;rw[show(⟨#[46,46]⟩:ByteArray).toList=[46,46] by rw[ByteArray.toList_eq]]at e2;rw[e1,e2];simp only[decide_eq_true_eq]
theorem eD{c:UInt8}(h1:¬(c.toNat:Int)=0)(h2:¬(c.toNat:Int)=47):M0 c=true:=by
 unfold M0;simp;omega
section
theorem T7(s:AE)(hs:s.size≤100000):AFn prog 136 [.v (.string s)] (fun r=>r= .v (.bool (Fk s))):=by
 refine enter Tryz.func136 rfl rfl rfl rfl rfl 0 rfl ?_;refine w_ (Bw (h:=n_ (h:=Di (h:=?_))));refine AJ false rfl rfl (fun hb1 hc1=>?_) (fun hb1 hc1=>?_)
 ·refine Ch (h:=BD (h:=C7 (h:=BD (h:=FE (h:=?_)))));refine A6 ?_;exact vb (by rw[Mj,if_pos (by omega)])
 refine m_ (h:=HQ (h:=Bh (h:=?_)));refine AJ false rfl rfl (fun hb2 hc2=>?_) (fun hb2 hc2=>?_)
 ·refine BD (h:=C7 (h:=BD (h:=FE (h:=?_))));refine A6 ?_;exact vb (by rw[Mj,if_pos (by omega)])
 refine DD (h:=Bh (h:=?_));refine AJ false rfl rfl (fun hb3 hc3=>?_) (fun hb3 hc3=>?_)
 ·refine BD (h:=FE (h:=?_));refine A6 ?_;exact vb (by rw[Mj,if_neg (by omega),if_pos hc3])
 refine DD (h:=CV (h:=?_));refine A4 rfl (fun hb4 hc4=>?_) (fun hb4 hc4=>?_)
 ·refine BA (h:=?_);refine A6 ?_;exact vb (by rw[Mj,if_neg (by omega),if_neg hc3,if_pos hc4])
 refine AG (CW (h:=?_));refine BR (fun m t=>∃j:Nat,j≤s.size∧m=s.size - j∧(∀i (hi:i<s.size),i<j→M0 s[i]=true)∧t=⟨look [(0, .v (.string s)),(3, .v (.int .i64 (j:Int)))],⟨[],[]⟩⟩) (s.size) ((wk 0 0)) (⟨0,by omega,rfl,fun i _ hi=>by omega,rfl⟩) ?_;rintro m t ⟨j,hj,rfl,ha,rfl⟩;refine Du (h:=Ht (h:=?_));refine A4 rfl (fun hb5 hc5=>?_) (fun hb5 hc5=>?_)
 ·have hlt:j<s.size:=by omega
  refine C2 (h:=E9 (h:=?_));refine A3 rfl (M2 (n:=j) Tryz.underlying9 rfl rfl rfl hlt ?_);refine E1 (h:=?_);refine AJ false rfl rfl (fun hb6 hc6=>?_) (fun hb6 hc6=>?_)
  ·refine BT (h:=K9 (h:=HU (h:=?_)));refine A6 ?_;exact vb (by rw[Mj,if_neg (by omega),if_neg hc3,if_neg hc4,T4 hlt (by unfold M0;simp[hc6])])
  refine Jd (h:=?_);refine As (M2 (n:=j) Tryz.underlying9 rfl rfl rfl hlt ?_);refine EH (h:=CV (h:=?_));refine A4 rfl (fun hb7 hc7=>?_) (fun hb7 hc7=>?_)
  ·refine HU (h:=?_);refine A6 ?_;exact vb (by rw[Mj,if_neg (by omega),if_neg hc3,if_neg hc4,T4 hlt (by unfold M0;simp[hc7])])
  refine DL (h:=?_);refine⟨_,_,?_,⟨j+1,by omega,rfl,WC hlt ha (eD hc6 hc7),rfl⟩,(wk 0 0)⟩;omega
 obtain rfl:j=s.size:=by omega
 refine GK (h:=?_);refine A6 ?_;exact vb (by rw[Mj,if_neg (by omega),if_neg hc3,if_neg hc4,WB (fun i hi=>ha i hi hi)])
end
theorem eE(f:AR)(a:A9):M1 f a=decide (12≤(Ah f a).entries.length):=by
 unfold M1 Ah;cases C8 f a<;>simp[Nod.zero]
theorem eG(f:AR)(a:A9):Mc f a=decide ((Ah f a).entries.length=0):=by
 unfold Mc Ah;cases C8 f a<;>simp[Nod.zero]
theorem eH{f:AR}{a:A9}{k:Nat}{d:Dvc}{n:Nod}(hk:a.1=(k:Int))(hd:f[k]?=some d)(hn:C8 f a=some n):Kd f a=Bt a.2 d.nodes:=by
 unfold Kd;rw[hn,hk,NN,hd]
section
theorem eJ(s:AE)(hs:s.size≤100000):AFn prog 258 [.v (.string s)] (fun r=>r= .v (.bool (O7 s))):=by
 refine enter Tryz.func258 rfl rfl rfl rfl rfl 0 rfl ?_;refine Cw (h:=CW (h:=?_));refine BR (fun m t=>∃j:Nat,j≤s.size∧m=s.size - j∧(∀i (hi:i<s.size),i<j→(!((s[i].toNat:Int)==0))=true)∧t=⟨look [(0, .v (.string s)),(3, .v (.int .i64 (j:Int)))],⟨[],[]⟩⟩) (s.size) ((wk 0 0)) (⟨0,by omega,rfl,fun i _ hi=>by omega,rfl⟩) ?_;rintro m t ⟨j,hj,rfl,ha,rfl⟩;refine Du (h:=Ht (h:=?_));refine A4 rfl (fun hb1 hc1=>?_) (fun hb1 hc1=>?_)
 ·have hlt:j<s.size:=by omega
  refine C2 (h:=E9 (h:=?_));refine A3 rfl (M2 (n:=j) Tryz.underlying9 rfl rfl rfl hlt ?_);refine BN (h:=?_);refine A4 rfl (fun hb2 hc2=>?_) (fun hb2 hc2=>?_)
  ·refine HU (h:=?_);refine A6 ?_;exact vb (by unfold O7;rw[T4 hlt (by simp[hc2])];simp)
  refine DL (h:=?_);refine⟨_,_,?_,⟨j+1,by omega,rfl,WC (p:=fun c=> !((c.toNat:Int)==0)) hlt ha (by simpa using hc2),rfl⟩,(wk 0 0)⟩;omega
 obtain rfl:j=s.size:=by omega
 have hal:=WB (p:=fun c=> !((c.toNat:Int)==0)) (fun i hi=>ha i hi hi);refine CK (h:=Aa (h:=n_ (h:=EJ (h:=m_ (h:=?_)))));refine AJ true rfl rfl (fun hb3 hc3=>?_) (fun hb3 hc3=>?_)
 ·refine m_ (h:=n_ (h:=HA (h:=Gk (h:=?_))));refine A6 ?_;exact vb (by unfold O7;rw[hal,Bool.eq_iff_iff];simp;omega)
 refine Hv (h:=?_);refine A6 ?_;exact vb (by unfold O7;rw[hal,Bool.eq_iff_iff];simp;omega)
theorem OA(f:AR)(a:A9)(name:AE)(hf:FlsB f)(hs:name.size≤100000):AFn prog 230 [.agg (Ao f), .agg (AB a), .v (.string name)] (fun r=>r= .v (.int .i64 (Cc f a name))):=by
 refine enter Tryz.func230 rfl rfl rfl rfl rfl 0 rfl ?_;refine FV (h:=CG (h:=?_));refine A3 rfl (A8 (FZ f a hf) ?_);rintro r rfl;refine Gm (h:=?_);refine A4 rfl (fun hb1 hc1=>?_) (fun hb1 hc1=>?_)
 ·have e:=WS hc1;refine BA (h:=?_);refine A6 ?_;exact vi (by simp[Cc,e])
 have e:=WR hc1;refine D8 (h:=Bn (h:=?_));refine A4 rfl (fun hb2 hc2=>?_) (fun hb2 hc2=>?_)
 ·refine BA (h:=?_);refine A6 ?_;exact vi (by simp[Cc,e,hc2])
 refine Dl (h:=?_);refine A3 rfl (A8 (T7 name hs) ?_);rintro r rfl;refine DE (h:=?_);refine A4 rfl (fun hb3 hc3=>?_) (fun hb3 hc3=>?_)
 ·refine BA (h:=?_);refine A6 ?_;exact vi (by simp only[Cc,e];rw[if_pos (by omega),hc3];rfl)
 refine AG (Kc (h:=?_));refine A6 ?_;exact vi (by simp only[Cc,e];rw[if_pos (by omega),hc3];rfl)
theorem T8(f:AR)(a:A9)(hf:FlsB f):AFn prog 231 [.agg (Ao f), .agg (AB a)] (fun r=>r= .v (.bool (M1 f a))):=by
 refine enter Tryz.func231 rfl rfl rfl rfl rfl 0 rfl ?_;refine FV (h:=CG (h:=?_));refine A3 rfl (A8 (FZ f a hf) ?_);rintro r rfl;refine Ee (h:=B7 (h:=Az (h:=n_ (h:=EJ (h:=BJ (h:=?_))))));refine A6 ?_;exact vb (by rw[eE,Bool.eq_iff_iff];simp;omega)
theorem WT(f:AR)(a:A9)(hf:FlsB f):AFn prog 235 [.agg (Ao f), .agg (AB a)] (fun r=>r= .v (.bool (Mc f a))):=by
 refine enter Tryz.func235 rfl rfl rfl rfl rfl 0 rfl ?_;refine FV (h:=CG (h:=?_));refine A3 rfl (A8 (FZ f a hf) ?_);rintro r rfl;refine Ee (h:=B7 (h:=Az (h:=n_ (h:=EH (h:=BJ (h:=?_))))));refine A6 ?_;exact vb (by rw[eG,Bool.eq_iff_iff];simp)
theorem WU(n:Nod)(hs:n.target.size≤100000):AFn prog 237 [.agg (Ac n)] (fun r=>r= .v (.bool (Hz n))):=by
 have ee:n.target.toList.isEmpty=decide (n.target=⟨#[]⟩):=by
  rw[←RE n.target ⟨#[]⟩,show(⟨#[]⟩:ByteArray).toList=[] by rw[ByteArray.toList_eq]];cases n.target.toList<;>rfl
 refine enter Tryz.func237 rfl rfl rfl rfl rfl 0 rfl ?_;refine C6 (h:=B7 (h:=q_ (?_)));refine L3 (⟨look [(1, .bp 0 0),(40, .v (.bool (decide (n.kind<1∨3<n.kind∨n.mode<0∨511<n.mode∨n.uid<0∨4294967295<n.uid∨n.gid<0∨4294967295<n.gid))))],⟨[Ac n],[]⟩⟩) ?_ ?_
 ·skip
  refine Av (Ab (h:=Di (h:=?_)));refine AJ false rfl rfl (fun hb1 hc1=>?_) (fun hb1 hc1=>?_)
  ·refine Ch (h:=Ch (h:=Ch (h:=Ch (h:=Hr (h:=?_)))));refine m_ (h:=Ch (h:=JN (h:=?_)))
   first|(exfalso;first|contradiction|omega)|exact Ai 1 0 rfl rfl rfl rfl (by repeat (first|exact Sub.nil|refine Aj rfl rfl ?_|refine Ap ?_|refine Aq rfl ?_|refine Ar rfl ?_|(apply Sub.of;(focus exact rfl);(focus exact LeA.of_eq (vb (by rw[Bool.eq_iff_iff];simp;try omega)));(focus exact rfl))))
  refine JL (h:=Bh (h:=?_));refine AJ false rfl rfl (fun hb2 hc2=>?_) (fun hb2 hc2=>?_)
  ·refine Ch (h:=Ch (h:=Ch (h:=Ch (h:=Hr (h:=?_)))));refine m_ (h:=JN (h:=?_))
   first|(exfalso;first|contradiction|omega)|exact Ai 1 0 rfl rfl rfl rfl (by repeat (first|exact Sub.nil|refine Aj rfl rfl ?_|refine Ap ?_|refine Aq rfl ?_|refine Ar rfl ?_|(apply Sub.of;(focus exact rfl);(focus exact LeA.of_eq (vb (by rw[Bool.eq_iff_iff];simp;try omega)));(focus exact rfl))))
  refine Ab (h:=K8 (h:=Bh (h:=?_)));refine AJ false rfl rfl (fun hb3 hc3=>?_) (fun hb3 hc3=>?_)
  ·refine Ch (h:=Ch (h:=Ch (h:=Ch (h:=Hr (h:=?_)))));refine D6 (h:=?_)
   first|(exfalso;first|contradiction|omega)|exact Ai 1 0 rfl rfl rfl rfl (by repeat (first|exact Sub.nil|refine Aj rfl rfl ?_|refine Ap ?_|refine Aq rfl ?_|refine Ar rfl ?_|(apply Sub.of;(focus exact rfl);(focus exact LeA.of_eq (vb (by rw[Bool.eq_iff_iff];simp;try omega)));(focus exact rfl))))
  refine JL (h:=Bh (h:=?_));refine AJ false rfl rfl (fun hb4 hc4=>?_) (fun hb4 hc4=>?_)
  ·refine Ch (h:=Ch (h:=Ch (h:=JN (h:=?_))))
   first|(exfalso;first|contradiction|omega)|exact Ai 1 0 rfl rfl rfl rfl (by repeat (first|exact Sub.nil|refine Aj rfl rfl ?_|refine Ap ?_|refine Aq rfl ?_|refine Ar rfl ?_|(apply Sub.of;(focus exact rfl);(focus exact LeA.of_eq (vb (by rw[Bool.eq_iff_iff];simp;try omega)));(focus exact rfl))))
  refine Ab (h:=K8 (h:=Bh (h:=?_)));refine AJ false rfl rfl (fun hb5 hc5=>?_) (fun hb5 hc5=>?_)
  ·refine Ch (h:=Ch (h:=JN (h:=?_)))
   first|(exfalso;first|contradiction|omega)|exact Ai 1 0 rfl rfl rfl rfl (by repeat (first|exact Sub.nil|refine Aj rfl rfl ?_|refine Ap ?_|refine Aq rfl ?_|refine Ar rfl ?_|(apply Sub.of;(focus exact rfl);(focus exact LeA.of_eq (vb (by rw[Bool.eq_iff_iff];simp;try omega)));(focus exact rfl))))
  refine JL (h:=Bh (h:=?_));refine AJ false rfl rfl (fun hb6 hc6=>?_) (fun hb6 hc6=>?_)
  ·refine Ch (h:=JN (h:=?_))
   first|(exfalso;first|contradiction|omega)|exact Ai 1 0 rfl rfl rfl rfl (by repeat (first|exact Sub.nil|refine Aj rfl rfl ?_|refine Ap ?_|refine Aq rfl ?_|refine Ar rfl ?_|(apply Sub.of;(focus exact rfl);(focus exact LeA.of_eq (vb (by rw[Bool.eq_iff_iff];simp;try omega)));(focus exact rfl))))
  refine Ab (h:=K8 (h:=Bh (h:=?_)));refine AJ false rfl rfl (fun hb7 hc7=>?_) (fun hb7 hc7=>?_)
  ·refine JN (h:=?_)
   first|(exfalso;first|contradiction|omega)|exact Ai 1 0 rfl rfl rfl rfl (by repeat (first|exact Sub.nil|refine Aj rfl rfl ?_|refine Ap ?_|refine Aq rfl ?_|refine Ar rfl ?_|(apply Sub.of;(focus exact rfl);(focus exact LeA.of_eq (vb (by rw[Bool.eq_iff_iff];simp;try omega)));(focus exact rfl))))
  refine JL (h:=FX (h:=?_))
  first|(exfalso;first|contradiction|omega)|exact Ai 1 0 rfl rfl rfl rfl (by repeat (first|exact Sub.nil|refine Aj rfl rfl ?_|refine Ap ?_|refine Aq rfl ?_|refine Ar rfl ?_|(apply Sub.of;(focus exact rfl);(focus exact LeA.of_eq (vb (by rw[Bool.eq_iff_iff];simp;try omega)));(focus exact rfl))))
 skip
 refine A4 rfl (fun hb8 hc8=>?_) (fun hb8 hc8=>?_)
 ·refine BA (h:=?_);refine A6 ?_;exact vb (by rw[Hz,if_pos hc8])
 refine D8 (h:=BN (h:=?_));refine A4 rfl (fun hb9 hc9=>?_) (fun hb9 hc9=>?_)
 ·refine Az (h:=?_);refine A3 rfl (A8 (eJ n.target hs) ?_);rintro r rfl;refine E8 (h:=?_);refine A6 ?_;exact vb (by rw[Hz,if_neg hc8,if_pos hc9])
 refine AG (Az (h:=EH (h:=BJ (h:=?_))));refine A6 ?_;exact vb (by rw[Hz,if_neg hc8,if_neg hc9,ee])
theorem eK(f:AR)(a:A9)(hf:FlsB f):AFn prog 257 [.agg (Ao f), .agg (AB a)] (fun r=>r= .v (.int .i64 (Kd f a:Int))):=by
 refine enter Tryz.func257 rfl rfl rfl rfl rfl 0 rfl ?_;refine FV (h:=q_ (CG (h:=?_)));refine A3 rfl (A8 (Me f a hf) ?_);rintro r rfl;refine Cj (h:=?_);refine A4 rfl (fun hb1 hc1=>?_) (fun hb1 hc1=>?_)
 ·have e:C8 f a=none:=by
   rcases Lz f a with h|⟨k,i,d,n, -, -, -, -,h, -⟩
   ·exact h.2
   exfalso;omega
  refine BA (h:=?_);refine A6 ?_;exact vi (by simp[Kd,e])
 obtain⟨k,i,d,n,g1,g2,g3,g4,g5,g6⟩:=(Lz f a).resolve_left (fun h=>by omega);have hr1:(f.map Cd)[k]?=some (Cd d):=by rw[List.getElem?_map,g2];rfl
 have hdn:=hf.nodes d (Ag g2);refine AG (Cw (h:=Hs (h:=?_)));refine A3 rfl (DA (n:=k) rfl rfl g1 hr1 ?_);refine Ab (h:=B7 (h:=CW (h:=?_)));refine BR (fun m s=>∃j c:Nat,j≤d.nodes.length∧m=d.nodes.length - j∧c=Bt a.2 (d.nodes.take j)∧c≤1000 * j∧s=⟨look [(3, .bp 1 0),(5, .v (.int .i64 (c:Int))),(6, .sl 8 (d.nodes.map Ac) none),(7, .v (.int .i64 (j:Int)))],⟨[Ao f,AB a],[]⟩⟩) (d.nodes.length) ((wk 2 0)) (⟨0,0,by omega,rfl,rfl,by omega,rfl⟩) ?_;rintro m s ⟨j,c,hj,rfl,hcn,hcb,rfl⟩;refine Du (h:=Ht (h:=?_));refine A4 rfl (fun hb2 hc2=>?_) (fun hb2 hc2=>?_)
 ·obtain⟨hlt,x,hx,hrow, -⟩:=Bz Ac hc2;have hen:=hf.ents d (Ag g2) x (Ag hx);refine C2 (h:=O6 (h:=?_));refine BR (fun m s=>∃i c2:Nat,i≤x.entries.length∧m=x.entries.length - i∧c2=c+DM a.2 (x.entries.take i)∧c2≤c+i∧s=⟨look [(3, .bp 1 0),(5, .v (.int .i64 (c2:Int))),(6, .sl 8 (d.nodes.map Ac) none),(7, .v (.int .i64 (j:Int))),(8, .v (.int .i64 (i:Int)))],⟨[Ao f,AB a],[]⟩⟩) (x.entries.length) ((wk 2 0)) (⟨0,c,by omega,rfl,rfl,by omega,rfl⟩) ?_;rintro m s ⟨i,c2,hi,rfl,hc2n,hc2b,rfl⟩;refine Du (h:=JJ (h:=Ef (h:=Cj (h:=?_))));refine A4 rfl (fun hb3 hc3=>?_) (fun hb3 hc3=>?_)
  ·obtain⟨hlt3,y,hy,hrow3, -⟩:=Bz DO hc3;refine AG (q_ (BH (q_ (Db 12 (h:=AF 0 (h:=AF 1 (h:=DK 2 (h:=AD 3 (h:=AA 4 (h:=AF 5 (h:=DK 6 (h:=AD 7 (h:=AA 8 (h:=AD 9 (h:=AA 10 (h:=K7 11 (h:=z_ (h:=t_ (?_)))))))))))))))))));refine A4 rfl (fun hb4 hc4=>?_) (fun hb4 hc4=>?_)
   ·refine NK (h:=FD (h:=?_))
    (refine⟨_,_,?_,⟨i+1,c2+1,by omega,rfl,?_,by omega,rfl⟩,(wk 2 0)⟩<;>first|omega|(rw[T5 hy];simp[hc4];omega))
   refine DL (h:=?_)
   first|(refine⟨_,_,?_,⟨i+1,c2+1,by omega,rfl,?_,by omega,rfl⟩,(wk 2 0)⟩<;>first|omega|(rw[T5 hy];simp[hc4];omega))|(refine⟨_,_,?_,⟨i+1,c2,by omega,rfl,?_,by omega,rfl⟩,(wk 2 0)⟩<;>first|omega|(rw[T5 hy];simp[hc4];omega))
  have e3:=CD DO hi hc3;subst e3;refine L6 (h:=FD (h:=?_));refine⟨_,_,?_,⟨j+1,c2,by omega,rfl,?_,?_,rfl⟩,(wk 2 0)⟩
  ·omega
  ·rw[hc2n,dZ hx,List.take_length];omega
  have:=dY a.2 (x.entries.take x.entries.length);simp at this;omega
 have e2:=CD Ac hj hc2;subst e2;refine CK (h:=EA (h:=?_));refine A6 ?_;exact vi (by rw[eH g1 g2 g6,hcn,List.take_length])
end
def Gt(m:Dv):List AV:=[.v (.int .i64 m.1), .v (.int .i64 m.2.1), .v (.int .i64 m.2.2)]
def AT(s:Spc):List AV:=[.sl 2 (s.files.map Cd) none, .sl 3 (s.mounts.map Gt) none]
structure SpcB(s:Spc):Prop where
 files:FlsB s.files
 few:s.mounts.length≤1000
def CE(s:Spc)(dev:Int):Option A9:=(s.mounts.find? fun m:Dv=>decide (m.1=dev)).map (·.2)
def CS(s:Spc)(a:A9):Option Int:=(s.mounts.find? fun m:Dv=>decide (m.2=a)).map (·.1)
def CO(s:Spc)(dev:Int):Bool:=(CE s dev).isSome||decide (dev=0)
section
theorem TA(op:BinOp)(a b c d:Int)(w:World):(op= .eql∨op= .neq)→(binOp op 26 (.agg #[.int .i64 a, .int .i64 b]) (.agg #[.int .i64 c, .int .i64 d])).run prog w= .ok (.bool (decide ((a,b)=(c,d))==decide (op= .eql))) w:=by
 have u3:=Tryz.underlying3;have a3:=Tryz.isAgg3;have z3:=Tryz.sizeOf3;have hS:prog.underlying 26=some (.struct (prog.fieldsOf 26)):=by kernel_rfl
 have hp:prog.stoodInHeld 26=false:=by kernel_rfl
 have e:∀w,(Op.equalIn 10000 26 (.agg #[.int .i64 a, .int .i64 b]) (.agg #[.int .i64 c, .int .i64 d])).run prog w= .ok (a==c&&b==d) w:=by
  intro w;rw[show(10000:Nat)=9999+1 from rfl,run_equalIn_agg w 9999 26 _ _ hS hp];simp only[Program.fieldsOf,Tryz.underlying26]
  go_simp
  by_cases h1:a=c<;>by_cases h2:b=d<;>simp[h1,h2]
 rintro(rfl|rfl)
 ·rw[run_eql_struct,e];by_cases h1:a=c<;>by_cases h2:b=d<;>simp[h1,h2]
 rw[run_neq_struct,e];by_cases h1:a=c<;>by_cases h2:b=d<;>simp[h1,h2]
theorem PG(a b c d:Int)(w:World):(binOp .eql 26 (.agg #[.int .i64 a, .int .i64 b]) (.agg #[.int .i64 c, .int .i64 d])).run prog w= .ok (.bool (decide ((a,b)=(c,d)))) w:=by
 rw[TA .eql a b c d w (.inl rfl)];by_cases h:(a,b)=(c,d)<;>simp[h]
theorem TB(a b c d:Int)(w:World):(binOp .neq 26 (.agg #[.int .i64 a, .int .i64 b]) (.agg #[.int .i64 c, .int .i64 d])).run prog w= .ok (.bool (!decide ((a,b)=(c,d)))) w:=by
 rw[TA .neq a b c d w (.inr rfl)];by_cases h:(a,b)=(c,d)<;>simp[h]
theorem TC(s:Spc)(dev:Int)(hs:SpcB s):AFn prog 180 [.agg (AT s), .v (.int .i64 dev)] (fun r=>r= .tup [.agg (AB ((CE s dev).getD (0,0))), .v (.bool (CE s dev).isSome)]):=by
 have hfew:=hs.few;refine enter Tryz.func180 rfl rfl rfl rfl rfl 0 rfl ?_;refine C6 (h:=Ja (h:=CW (h:=?_)));refine BR (fun m t=>∃j:Nat,j≤s.mounts.length∧m=s.mounts.length - j∧(∀i y,i<j→s.mounts[i]?=some y→decide (y.1=dev)=false)∧t=⟨look [(1, .v (.int .i64 dev)),(2, .bp 0 0),(4, .bp 1 0),(6, .v (.int .i64 (j:Int)))],⟨[AT s,[.v (.int .i64 0), .v (.int .i64 0)]],[]⟩⟩) (s.mounts.length) ((wk 2 0)) (⟨0,by omega,rfl,fun i y hi=>by omega,rfl⟩) ?_;rintro m t ⟨j,hj,rfl,ha,rfl⟩;refine GN (h:=?_);refine A4 rfl (fun hb1 hc1=>?_) (fun hb1 hc1=>?_)
 ·obtain⟨hlt,x,hy,hrow, -⟩:=Bz Gt hc1;refine C2 (h:=Fu (h:=Gj (h:=BN (h:=?_))));refine A4 rfl (fun hb2 hc2=>?_) (fun hb2 hc2=>?_)
  ·refine Fu (h:=Ab (h:=s_ (h:=BC (h:=EB (h:=?_)))));refine A6 ?_;rw[show CE s dev=some x.2 by simp only[CE];rw[Mh hy (by simpa using hc2) ha];rfl];rfl
  refine DL (h:=?_);refine⟨_,_,?_,⟨j+1,by omega,rfl,GP hy ha (by simpa using hc2),rfl⟩,(wk 2 0)⟩;omega
 have e3:=CD Gt hj hc1;subst e3;refine CK (h:=w_ (E0 (h:=BJ (h:=?_))));refine A6 ?_;rw[show CE s dev=none by simp only[CE];rw[Mi ha];rfl];rfl
theorem OB(s:Spc)(dev:Int)(hs:SpcB s):AFn prog 124 [.agg (AT s), .v (.int .i64 dev)] (fun r=>r= .v (.bool (CO s dev))):=by
 refine enter Tryz.func124 rfl rfl rfl rfl rfl 0 rfl ?_;refine C6 (h:=B7 (h:=FF (h:=?_)));refine A3 rfl (A8 (TC s dev hs) ?_);rintro r rfl;refine Ee (h:=C4 (h:=m_ (h:=?_)));refine AJ false rfl rfl (fun hb1 hc1=>?_) (fun hb1 hc1=>?_)
 ·refine BD (h:=Gk (h:=?_));refine A6 ?_;exact vb (by unfold CO;rw[hc1];simp)
 refine DD (h:=Bp (h:=BJ (h:=?_)));refine A6 ?_;exact vb (by unfold CO;rw[hc1];simp)
theorem WV(s:Spc)(a:A9)(hs:SpcB s):AFn prog 181 [.agg (AT s), .agg (AB a)] (fun r=>r= .tup [.v (.int .i64 ((CS s a).getD 0)), .v (.bool (CS s a).isSome)]):=by
 have hfew:=hs.few;refine enter Tryz.func181 rfl rfl rfl rfl rfl 0 rfl ?_;refine Dh (h:=a_ (h:=B7 (h:=CW (h:=?_))));refine BR (fun m t=>∃j:Nat,j≤s.mounts.length∧m=s.mounts.length - j∧(∀i y,i<j→s.mounts[i]?=some y→decide (y.2=a)=false)∧t=⟨look [(2, .bp 0 0),(3, .bp 1 0),(6, .v (.int .i64 (j:Int)))],⟨[AT s,AB a],[]⟩⟩) (s.mounts.length) ((wk 2 0)) (⟨0,by omega,rfl,fun i y hi=>by omega,rfl⟩) ?_;rintro m t ⟨j,hj,rfl,ha,rfl⟩;refine GN (h:=?_);refine A4 rfl (fun hb1 hc1=>?_) (fun hb1 hc1=>?_)
 ·obtain⟨hlt,x,hy,hrow, -⟩:=Bz Gt hc1;refine AG (q_ (BH (q_ (Db 8 (h:=AD 0 (h:=AA 1 (h:=AF 2 (h:=DK 3 (h:=AD 4 (h:=AA 5 (h:=AA 6 (h:=?_))))))))))));refine GF (i:=7) rfl (JE rfl rfl (by repeat constructor) (by repeat constructor) (fun w=>PG _ _ _ _ w) (by kernel_rfl) ⟨rfl,rfl⟩) ?_;refine z_ (h:=t_ (?_));refine A4 rfl (fun hb2 hc2=>?_) (fun hb2 hc2=>?_)
  ·refine Fu (h:=Ab (h:=Ft (h:=EB (h:=?_))));refine A6 ?_;rw[show CS s a=some x.1 by simp only[CS];rw[Mh hy (decide_eq_true hc2) ha];rfl];rfl
  refine DL (h:=?_);refine⟨_,_,?_,⟨j+1,by omega,rfl,GP hy ha (decide_eq_false hc2),rfl⟩,(wk 2 0)⟩;omega
 have e3:=CD Gt hj hc1;subst e3;refine CK (h:=w_ (a_ (h:=BJ (h:=?_))));refine A6 ?_;rw[show CS s a=none by simp only[CS];rw[Mi ha];rfl];rfl
theorem WW(s:Spc)(a:A9)(hs:SpcB s):AFn prog 125 [.agg (AT s), .agg (AB a)] (fun r=>r= .v (.bool (CS s a).isSome)):=by
 refine enter Tryz.func125 rfl rfl rfl rfl rfl 0 rfl ?_;refine FV (h:=CG (h:=?_));refine A3 rfl (A8 (WV s a hs) ?_);rintro r rfl;refine GJ (h:=a_ (h:=C4 (h:=BJ (h:=?_))));refine A6 ?_;rfl
theorem WX(s:Spc)(dev:Int)(hs:SpcB s):AFn prog 229 [.agg (AT s), .v (.int .i64 dev)] (fun r=>r= .tup [.agg (AB ((CE s dev).getD (0,0))), .v (.bool (CE s dev).isSome)]):=by
 have hfew:=hs.few;refine enter Tryz.func229 rfl rfl rfl rfl rfl 0 rfl ?_;refine C6 (h:=Ja (h:=Ci (h:=Ha (h:=e_ (BH (?_))))));refine BR (fun m t=>∃j:Nat,j≤s.mounts.length∧m=s.mounts.length - j∧(∀i y,i<j→s.mounts[i]?=some y→decide (y.1=dev)=false)∧t=⟨look [(1, .v (.int .i64 dev)),(4, .bp 1 0),(9, .sl 3 (s.mounts.map Gt) none),(10, .v (.int .i64 ((s.mounts.map Gt).length:Int))),(11, .v (.int .i64 (j:Int)))],⟨[AT s,[.v (.int .i64 0), .v (.int .i64 0)]],[]⟩⟩) (s.mounts.length) ((wk 2 0)) (⟨0,by omega,rfl,fun i y hi=>by omega,rfl⟩) ?_;rintro m t ⟨j,hj,rfl,ha,rfl⟩;refine w_ (Cj (h:=q_ (?_)));refine A4 rfl (fun hb1 hc1=>?_) (fun hb1 hc1=>?_)
 ·obtain⟨hlt,x,hy,hrow, -⟩:=Bz Gt hc1;refine C2 (h:=w_ (i_ (h:=Hu (h:=Az (h:=m_ (h:=BN (h:=?_)))))));refine A4 rfl (fun hb2 hc2=>?_) (fun hb2 hc2=>?_)
  ·refine Az (h:=s_ (h:=BC (h:=EB (h:=?_))));refine A6 ?_;rw[show CE s dev=some x.2 by simp only[CE];rw[Mh hy (by simpa using hc2) ha];rfl];rfl
  refine BF (BB (t_ (Av (Gp (h:=?_)))));refine⟨_,_,?_,⟨j+1,by omega,rfl,GP hy ha (by simpa using hc2),rfl⟩,(wk 2 0)⟩;omega
 have e3:=CD Gt hj hc1;subst e3;refine CK (h:=w_ (E0 (h:=BJ (h:=?_))));refine A6 ?_;rw[show CE s dev=none by simp only[CE];rw[Mi ha];rfl];rfl
theorem eL(s:Spc)(dev:Int)(hs:SpcB s):AFn prog 187 [.agg (AT s), .v (.int .i64 dev)] (fun r=>r= .v (.bool (CO s dev))):=by
 refine enter Tryz.func187 rfl rfl rfl rfl rfl 0 rfl ?_;refine C6 (h:=Bw (h:=BN (h:=?_)));refine A4 rfl (fun hb1 hc1=>?_) (fun hb1 hc1=>?_)
 ·refine BA (h:=?_);refine A6 ?_;exact vb (by unfold CO;simp[hc1])
 refine AG (FF (h:=?_));refine A3 rfl (A8 (WX s dev hs) ?_);rintro r rfl;refine Ee (h:=C4 (h:=BJ (h:=?_)));refine A6 ?_;exact vb (by unfold CO;simp[hc1])
end
def LW(t:Tst):Nat→Bool
 |0=>false
 |k+1=>LW t k||decide (Ba t ((k:Int)+1)=0)
def Mk(t:Tst):Bool:=LW t 5
theorem PH(t:Tst):∀k,LW t k=true↔∃j:Nat,j<k∧Ba t ((j:Int)+1)=0
 |0=>by simp[LW]
 |k+1=>by
   simp only[LW,Bool.or_eq_true,PH t k,decide_eq_true_eq];constructor
   ·rintro(⟨j,h1,h2⟩|h)
    ·exact⟨j,by omega,h2⟩
    exact⟨k,by omega,h⟩
   rintro⟨j,h1,h2⟩;rcases Nat.lt_or_ge j k with h|h
   ·exact .inl ⟨j,h,h2⟩
   have:j=k:=by omega
   subst this;exact .inr h2
theorem eM{t:Tst}{k:Nat}(hk:k≤5)(h:LW t k=true):Mk t=true:=by
 obtain⟨j,h1,h2⟩:=(PH t k).1 h;exact(PH t 5).2 ⟨j,by omega,h2⟩
theorem eN{t:Tst}{k:Nat}(hk:k≤5)(h5:5≤k)(h:LW t k=false):Mk t=false:=by
 obtain rfl:k=5:=by omega
 exact h
theorem WY{list f:Int}(h:Es list f=true):1≤f∧f≤22:=by
 unfold Es Cs at h
 (repeat' split at h)<;>simp at h<;>omega
theorem WZ{f:Int}(h:Et f=true):Ei f=false:=by
 unfold Et at h;unfold Ei;simp at h ⊢;omega
theorem Wa{t:Tst}(h:Mk t=true):WP t:=by
 obtain⟨j,_,h2⟩:=(PH t 5).1 h;generalize (j:Int)+1=list at h2;unfold Ba at h2;split at h2
 ·cases h2
 rename_i h3;split at h2
 ·cases h2
 rename_i h4;simp only[not_or,not_and]at h3 h4;have ha:=WY (by simpa using h3.1);refine⟨ha.1,ha.2,?_,by omega,by omega⟩;by_cases ho:t.other=0
 ·exact .inl ho
 obtain⟨h5,h6,h7⟩:=h3.2 ho;have hb:=WY (list:=list) (f:=t.other) (by simpa using h5);exact .inr ⟨hb.1,hb.2,WZ (by simpa using h7)⟩
def OC(y:Itm):Bool:= !decide (y.file=(0,0))
def NO(t:Tst)(c:Ctx):Bool:=
 if Mk t=false then false else if L7 t.fld=false∧L7 t.other=false then Jg t c Itm.zero else c.items.any fun y=>OC y&&Jg t c y
def RH(t:Tst)(c:Ctx):Bool:=
 if Mk t=false∨KA t.fld c=false∨t.other≠0∧KA t.other c=false then false else if L7 t.fld=false∧L7 t.other=false then O9 t c Itm.zero else c.items.any fun y=>OC y&&O9 t c y
theorem Wb{α:Type}(p:α→Bool)(l:List α)(k:Nat){x:α}(hx:l[k]?=some x):(l.take (k+1)).any p=((l.take k).any p||p x):=by
 obtain⟨hk,e⟩:=Af.1 hx;rw[List.take_succ_eq_append_getElem hk,List.any_append,e];simp
theorem eO{α:Type}{p:α→Bool}{l:List α}{k:Nat}{x:α}(hx:l[k]?=some x)(h:p x=true):l.any p=true:=
 List.any_eq_true.2 ⟨x,Ag hx,h⟩
section
theorem eQ(a b c d:Int)(w:World):(binOp .neq 26 (.agg #[.int .i64 a, .int .i64 b]) (.agg #[.int .i64 c, .int .i64 d])).run prog w= .ok (.bool (!decide ((a,b)=(c,d)))) w:=by
 rw[TA .neq a b c d w (.inr rfl)];simp
theorem eR(t:Tst)(c:Ctx)(k:Cxs)(hn:c.items.length≤1000):AFn prog 113 [.agg (Cy t), .agg (Fm c k)] (fun r=>r= .v (.bool (NO t c))):=by
 refine enter Tryz.func113 rfl rfl rfl rfl rfl 0 rfl ?_;refine FV (h:=Cw (h:=CW (h:=?_)));refine BR (fun n s=>∃j:Nat,j≤5∧n=5 - j∧s=⟨look [(2, .bp 0 0),(3, .bp 1 0),(4, .v (.bool false)),(5, .v (.bool (LW t j))),(6, .v (.int .i64 ((j:Int)+1)))],⟨[Cy t,Fm c k],[]⟩⟩) (5) ((wk 2 0)) (⟨0,by omega,rfl,rfl⟩) ?_;rintro n s ⟨j,hj,rfl,rfl⟩;refine Bv (h:=HA (h:=e_ (?_)));refine A4 rfl (fun hb1 hc1=>?_) (fun hb1 hc1=>?_)
 ·refine C2 (h:=EX (h:=?_));refine AJ false rfl rfl (fun hb2 hc2=>?_) (fun hb2 hc2=>?_)
  ·refine Fi (h:=HG (h:=FD (h:=?_)));refine⟨_,_,?_,⟨j+1,by omega,rfl,rfl⟩,Ai 2 0 rfl rfl rfl rfl (by repeat (first|exact Sub.nil|refine Aj rfl rfl ?_|refine Ap ?_|refine Aq rfl ?_|refine Ar rfl ?_|(apply Sub.of;(focus exact rfl);(focus exact LeA.of_eq (vb (by simp[LW, *])));(focus exact rfl))))⟩;omega
  refine Gq (h:=?_);refine As (A8 (WO _ _) ?_);rintro r rfl;refine EH (h:=Bp (h:=HG (h:=FD (h:=?_))));refine⟨_,_,?_,⟨j+1,by omega,rfl,rfl⟩,Ai 2 0 rfl rfl rfl rfl (by repeat (first|exact Sub.nil|refine Aj rfl rfl ?_|refine Ap ?_|refine Aq rfl ?_|refine Ar rfl ?_|(apply Sub.of;(focus exact rfl);(focus exact LeA.of_eq (vb (by simp[LW, *])));(focus exact rfl))))⟩;omega
 refine CK (h:=Bv (h:=DE (h:=?_)));refine A4 rfl (fun hb3 hc3=>?_) (fun hb3 hc3=>?_)
 ·have hs:=eN hj (by omega) hc3;refine BA (h:=?_);refine A6 ?_
  first|(exfalso;first|contradiction|omega)|(exact vb (by simp[NO,hs]))
 have hs:=eM hj hc3;have ht:=Wa hs;refine FY (h:=?_);refine L3 (⟨look [(2, .bp 0 0),(3, .bp 1 0),(4, .v (.bool false)),(31, .v (.bool (!L7 t.fld&& !L7 t.other)))],⟨[Cy t,Fm c k],[]⟩⟩) ?_ ?_
 ·skip
  refine Av (Ab (h:=?_));refine A3 rfl (A8 (WD _) ?_);rintro r rfl;refine EV (h:=?_);refine AJ true rfl rfl (fun hb4 hc4=>?_) (fun hb4 hc4=>?_)
  ·refine Ab (h:=?_);refine As (A8 (WD _) ?_);rintro r rfl;refine Cr (h:=Je (h:=?_))
   first|(exfalso;first|contradiction|omega)|exact Ai 2 0 rfl rfl rfl rfl (by repeat (first|exact Sub.nil|refine Aj rfl rfl ?_|refine Ap ?_|refine Aq rfl ?_|refine Ar rfl ?_|(apply Sub.of;(focus exact rfl);(focus exact LeA.of_eq (vb (by simp[*])));(focus exact rfl))))
  refine BT (h:=FX (h:=?_))
  first|(exfalso;first|contradiction|omega)|exact Ai 2 0 rfl rfl rfl rfl (by repeat (first|exact Sub.nil|refine Aj rfl rfl ?_|refine Ap ?_|refine Aq rfl ?_|refine Ar rfl ?_|(apply Sub.of;(focus exact rfl);(focus exact LeA.of_eq (vb (by simp[*])));(focus exact rfl))))
 skip
 refine A4 rfl (fun hb5 hc5=>?_) (fun hb5 hc5=>?_)
 ·simp at hc5;refine CG (h:=Bq (h:=?_));refine A3 rfl (A8 (WQ t c k Itm.zero ht) ?_);rintro r rfl;refine E8 (h:=?_);refine A6 ?_
  first|(exfalso;first|contradiction|omega)|(exact vb (by simp[NO,hs,hc5]))
 have hi:¬(L7 t.fld=false∧L7 t.other=false):=by simpa using hc5
 refine D8 (h:=Ha (h:=e_ (BH (?_))));refine BR (fun n s=>∃j:Nat,j≤c.items.length∧n=c.items.length - j∧(c.items.take j).any (fun y=>OC y&&Jg t c y)=false∧s=⟨look [(2, .bp 0 0),(3, .bp 1 0),(37, .sl 13 (c.items.map Fl) none),(38, .v (.int .i64 ((c.items.map Fl).length:Int))),(39, .v (.int .i64 (j:Int)))],⟨[Cy t,Fm c k],[]⟩⟩) (c.items.length) ((wk 2 0)) (⟨0,by omega,rfl,rfl,rfl⟩) ?_;rintro n s ⟨j,hj,rfl,ha,rfl⟩;refine w_ (Cj (h:=q_ (?_)));refine A4 rfl (fun hb6 hc6=>?_) (fun hb6 hc6=>?_)
 ·obtain⟨hlt,y,hy,hrow, -⟩:=Bz Fl hc6;refine C2 (h:=w_ (i_ (h:=Hu (h:=Az (h:=Bq (h:=?_))))));refine A3 rfl (JE rfl rfl (by repeat constructor) (by repeat constructor) (fun w=>eQ _ _ _ _ w) (by kernel_rfl) ?_);refine m_ (h:=?_);refine AJ true rfl rfl (fun hb7 hc7=>?_) (fun hb7 hc7=>?_)
  ·refine GL (h:=l_ (h:=?_));refine As (A8 (WQ t c k y ht) ?_);rintro r rfl;refine Bj (h:=e_ (?_));refine A4 rfl (fun hb8 hc8=>?_) (fun hb8 hc8=>?_)
   ·refine HU (h:=?_);refine A6 ?_
    first|(exfalso;first|contradiction|omega)|(exact vb (by rw[NO,if_neg (by simp[hs]),if_neg hi,eO hy (by simp[OC, *])]))
   refine BF (BB (t_ (Av (Gp (h:=?_)))));refine⟨_,_,?_,⟨j+1,by omega,rfl,(by rw[Wb _ _ _ hy,ha];simp[OC, *]),rfl⟩,(wk 2 0)⟩;omega
  refine BT (h:=Fj (h:=BF (BB (t_ (Av (Gp (h:=?_)))))));refine⟨_,_,?_,⟨j+1,by omega,rfl,(by rw[Wb _ _ _ hy,ha];simp[OC, *]),rfl⟩,(wk 2 0)⟩;omega
 have e:=CD Fl hj hc6;subst e;rw[List.take_length]at ha;refine GK (h:=?_);refine A6 ?_
 first|(exfalso;first|contradiction|omega)|(exact vb (by rw[NO,if_neg (by simp[hs]),if_neg hi,ha]))
end
theorem eS{t:Tst}(h:Mk t=true)(h2:t.other≠0):Ei t.fld=false:=by
 obtain⟨j,_,h3⟩:=(PH t 5).1 h;unfold Ba at h3;split at h3
 ·cases h3
 rename_i h4;simp only[not_or,not_and]at h4;exact WZ (by simpa using(h4.2 h2).2.1)
theorem Wc{f:Int}{c:Ctx}(h1:1≤f)(h2:f≤22)(h3:Ei f=false):C3 f c=KA f c:=by
 simp only[Ei,decide_eq_false_iff_not]at h3;unfold C3 KA
 (repeat' split)<;>first|omega|(simp;omega)|(simp[*];done)|rfl
theorem eT{f:Int}{c:Ctx}(h:Ei f=true):KA f c=true:=by
 simp only[Ei,decide_eq_true_eq]at h;unfold KA;rw[if_neg (by omega)];simp;omega
theorem eU{t:Tst}{c:Ctx}(hs:Mk t=true)(y:Itm):Jg t c y=if KA t.fld c=false∨t.other≠0∧KA t.other c=false then false else O9 t c y:=by
 obtain⟨f1,f2,o, -, -⟩:=Wa hs;have h2:=eS hs;by_cases ht:Ei t.fld=true
 ·have ho:t.other=0:=Classical.byContradiction fun e=>by simp[h2 e]at ht
  rw[if_neg (by simp[eT ht,ho])];simp[Jg,O9,ht]
 have ht':Ei t.fld=false:=by simpa using ht
 have e1:=Wc (c:=c) f1 f2 ht';by_cases h0:t.other=0
 ·simp only[Jg,O9,ht',e1,h0];cases KA t.fld c<;>simp
 obtain⟨o1,o2,o3⟩:=o.resolve_left h0;have e2:=Wc (c:=c) o1 o2 o3;simp only[Jg,O9,ht',e1,e2,h0];cases KA t.fld c<;>cases KA t.other c<;>simp[h0]
theorem Wd(t:Tst)(c:Ctx):NO t c=RH t c:=by
 unfold NO RH
 cases hs:Mk t with
 |false=>simp
 |true=>
   simp only[eU hs];by_cases hq:KA t.fld c=false∨t.other≠0∧KA t.other c=false
   ·simp[hq]
   simp[hq]
end Go.Proofs.YtbgnigjfkbmceaaGreatDoor
