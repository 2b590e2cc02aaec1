/-
  Part 16 of the proof of FilterContextsP: what the statement's proof uses of the texts in wip/tpl.
-/
import Derived.Test.YtbgnigjfkbmceaaGreatDoorQb15
open Go.Proofs.Tryz (prog)
set_option maxRecDepth 10000
set_option maxHeartbeats 4000000
set_option linter.unusedVariables false
set_option linter.unusedSimpArgs false
namespace Go.Proofs.YtbgnigjfkbmceaaGreatDoor
open Go.RowKit
theorem Nm(a:Int):0≤IntKind.u64.wrap a∧IntKind.u64.wrap a<18446744073709551616:=by
 simp only[IntKind.wrap,IntKind.signed,IntKind.bits];simp;omega
theorem Uj(a b:Int):0≤MP .u64 a b∧MP .u64 a b<18446744073709551616:=Nm _
theorem eL(a b:Int):0≤MQ .u64 a b∧MQ .u64 a b<18446744073709551616:=Nm _
section
theorem Uk(l:List Int)(a:Nat)(ha:a≤100000000000):GenF prog 82 l a [] 40 (fun r=>∃m:Int,r= .v (.int .u64 m)∧0≤m∧m<18446744073709551616):=by
 refine enter Tryz.func82 rfl rfl rfl rfl rfl 1 rfl ?_;refine w_ (a_ (h:=e_ (q_ (w_ (m_ (h:=?_))))));refine A6 rfl (Ag 0 (hc:=Gn l _ (6) (by omega) (by omega)) (hR:=?_));rintro r a1 ha1 ⟨k1,rfl,p1,q1,o1⟩;refine⟨rfl,_,(by repeat constructor),?_⟩;refine e_ (Ab (w_ (AK (h:=a_ (h:=e_ (?_))))));refine A9 rfl (fun hb1=>?_) (fun hb1=>?_)
 ·have hc1:=bp hb1;refine w_ (a_ (h:=e_ (A4 (AN (A8 (?_))))));refine Av none (h5:=(AZ _)) (h6:=⟨_,rfl,rfl,a1,by omega,rfl,_,rfl,by omega,by omega⟩)
 have hc1:=bp hb1;refine w_ (AK (h:=a_ (h:=e_ (?_))));refine A9 rfl (fun hb2=>?_) (fun hb2=>?_)
 ·have hc2:=bp hb2;refine w_ (m_ (h:=?_));refine A6 rfl (Ag 0 (hc:=Gn l _ (32) (by omega) (by omega)) (hR:=?_));rintro r a2 ha2 ⟨k2,rfl,p2,q2,o2⟩;refine⟨rfl,_,(by repeat constructor),?_⟩
  first|refine A6 rfl (JF rfl Tryz.underlying3 Tryz.underlying113 ?_)|refine A6 rfl (JF rfl Tryz.underlying3 Tryz.underlying80 ?_)
  refine A6 rfl (RA rfl rfl (Nm _).1 ?_);refine a_ (h:=e_ (A4 (AN (A8 (?_)))));refine Av none (h5:=(AZ _)) (h6:=⟨_,rfl,rfl,a2,by omega,rfl,_,rfl,eL _ _⟩)
 have hc2:=bp hb2;refine Aq (Ai (t_ (w_ (a_ (h:=e_ (q_ (w_ (a_ (h:=e_ (Ab (?_)))))))))));refine BT (fun n s=>∃(j a1:Nat) (m:Int),j≤32∧n=32 - j∧a1≤a+1+j∧0≤m∧m<18446744073709551616∧s=⟨look [(0, .bp 0 0),(3, .v (.int .u64 m)),(4, .v (.int .i64 (j:Int)))],⟨[Cc l a1],[]⟩⟩) (32) ((wk 1 0)) (⟨0,a1,0,by omega,rfl,by omega,by omega,by omega,rfl⟩) ?_;rintro n s ⟨j,b1,m,hj,rfl,hb1,hm1,hm2,rfl⟩;refine q_ (w_ (m_ (h:=B4 (h:=e_ (?_)))));refine A9 rfl (fun hb3=>?_) (fun hb3=>?_)
 ·have hc3:=bp hb3;refine AD (q_ (Ab (AR (m_ (h:=m_ (h:=?_))))));refine A6 rfl (Ag 0 (hc:=Gn l _ (2) (by omega) (by omega)) (hR:=?_));rintro r a3 ha3 ⟨k3,rfl,p3,q3,o3⟩;refine⟨rfl,_,(by repeat constructor),?_⟩
  first|refine A6 rfl (JF rfl Tryz.underlying3 Tryz.underlying113 ?_)|refine A6 rfl (JF rfl Tryz.underlying3 Tryz.underlying80 ?_)
  refine m_ (h:=?_)
  first|refine A6 rfl (JF rfl Tryz.underlying3 Tryz.underlying113 ?_)|refine A6 rfl (JF rfl Tryz.underlying3 Tryz.underlying80 ?_)
  refine A6 rfl (RA rfl rfl (Nm _).1 ?_);refine WD (h:=a_ (h:=AP (Ai (t_ (AR (m_ (h:=B8 (h:=a_ (h:=AP (?_))))))))));refine AJ ?_;refine⟨_,_,?_,⟨j+1,_,_,by omega,rfl,?_,(Uj _ _).1,(Uj _ _).2,rfl⟩,(wk 1 0)⟩<;>omega
 have hc3:=bp hb3;refine BF (Ah (Ah (BG (t_ (w_ (m_ (h:=a_ (h:=e_ (A4 (?_))))))))));refine Av none (h5:=(AZ _)) (h6:=⟨_,rfl,rfl,b1,by omega,rfl,m,rfl,hm1,hm2⟩)
theorem eM(l:List Int)(a:Nat)(list:Int)(ha:a≤100000000000):GenF prog 83 l a [.v (.int .i64 list)] 20 (fun r=>∃t:Tst,r= .agg (Bu t)):=by
 refine enter Tryz.func83 rfl rfl rfl rfl rfl 1 rfl ?_;refine w_ (Aa (h:=e_ (w_ (m_ (h:=?_)))));refine A6 rfl (Ag 0 (hc:=CH l _ (1) (8) (by omega) (by omega) (by omega) (by omega)) (hR:=?_));rintro r a1 ha1 ⟨k1,rfl,p1,q1⟩;refine⟨rfl,_,(by repeat constructor),?_⟩;refine m_ (h:=?_);refine A6 rfl (Ag 0 (hc:=CH l _ (1) (8) (by omega) (by omega) (by omega) (by omega)) (hR:=?_));rintro r a2 ha2 ⟨k2,rfl,p2,q2⟩;refine⟨rfl,_,(by repeat constructor),?_⟩;refine m_ (h:=BX (h:=?_));refine A6 rfl (Ag 0 (hc:=Ce l _ _ (fun _=>true) (by omega) (by rfl) (by rfl) (by rfl)) (hR:=?_));rintro r a3 ha3 ⟨k3,rfl,p3⟩;refine⟨rfl,_,(by repeat constructor),?_⟩;refine AX (h:=Aa (h:=s_ (h:=e_ (w_ (m_ (h:=?_))))));refine A6 rfl (Ag 0 (hc:=Gn l _ (8) (by omega) (by omega)) (hR:=?_));rintro r a4 ha4 ⟨k4,rfl,p4,q4,o4⟩;refine⟨rfl,_,(by repeat constructor),?_⟩;refine a_ (h:=e_ (?_));refine Bx (fun s=>∃(b:Nat) (f o n ot:Int) (t:ByteArray),b≤a+8∧s=⟨look [(0, .bp 0 0),(4, .bp 1 0),(5, .bp 2 0)],⟨[Cc l b,[.v (.int .i64 0), .v (.int .i64 0), .v (.int .i64 0), .v (.string ⟨#[]⟩), .v (.int .i64 0)],[.v (.int .i64 f), .v (.int .i64 o), .v (.int .i64 n), .v (.string t), .v (.int .i64 ot)]],[]⟩⟩) ?_ ?_
 ·skip
  refine Ab (w_ (m_ (h:=AK (h:=a_ (h:=e_ (?_))))));refine A9 rfl (fun hb1=>?_) (fun hb1=>?_)
  ·have hc1:=bp hb1;refine AR (m_ (h:=?_));refine A6 rfl (Ag 0 (hc:=CH l _ (13) (14) (by omega) (by omega) (by omega) (by omega)) (hR:=?_));rintro r a5 ha5 ⟨k5,rfl,p5,q5⟩;refine⟨rfl,_,(by repeat constructor),?_⟩;refine m_ (h:=?_);refine A6 rfl (Ag 0 (hc:=CH l _ (1) (2) (by omega) (by omega) (by omega) (by omega)) (hR:=?_));rintro r a6 ha6 ⟨k6,rfl,p6,q6⟩;refine⟨rfl,_,(by repeat constructor),?_⟩;refine m_ (h:=BX (h:=?_));refine A6 rfl (Ag 0 (hc:=GU l _ _ (fun _=>true) (by omega) (by rfl) (by rfl) (by rfl)) (hR:=?_));rintro r a7 ha7 ⟨k7,rfl,p7⟩;refine⟨rfl,_,(by repeat constructor),?_⟩;refine AX (h:=s_ (h:=AP (Ai (?_))));refine AJ ?_;refine⟨_,⟨_,_,_,_,_,_,?_,rfl⟩,(wk 3 0)⟩<;>omega
  have hc1:=bp hb1;refine w_ (m_ (h:=AK (h:=a_ (h:=e_ (?_)))));refine A9 rfl (fun hb2=>?_) (fun hb2=>?_)
  ·have hc2:=bp hb2;refine AR (m_ (h:=?_));refine A6 rfl (Ag 0 (hc:=CH l _ (3) (7) (by omega) (by omega) (by omega) (by omega)) (hR:=?_));rintro r a8 ha8 ⟨k8,rfl,p8,q8⟩;refine⟨rfl,_,(by repeat constructor),?_⟩;refine m_ (h:=?_);refine A6 rfl (Ag 0 (hc:=CH l _ (1) (2) (by omega) (by omega) (by omega) (by omega)) (hR:=?_));rintro r a9 ha9 ⟨k9,rfl,p9,q9⟩;refine⟨rfl,_,(by repeat constructor),?_⟩;refine m_ (h:=?_);refine A6 rfl (Ag 0 (hc:=CH l _ (3) (7) (by omega) (by omega) (by omega) (by omega)) (hR:=?_));rintro r a10 ha10 ⟨k10,rfl,p10,q10⟩;refine⟨rfl,_,(by repeat constructor),?_⟩;refine AX (h:=s_ (h:=AP (Ai (?_))));refine AJ ?_;refine⟨_,⟨_,_,_,_,_,_,?_,rfl⟩,(wk 3 0)⟩<;>omega
  have hc2:=bp hb2;refine w_ (m_ (h:=AK (h:=m_ (h:=?_))));refine AT true rfl rfl (fun hb3=>?_) (fun hb3=>?_)
  ·have hc3:=bp hb3;refine m_ (h:=AK (h:=AA (h:=a_ (h:=e_ (?_)))));refine A9 rfl (fun hb4=>?_) (fun hb4=>?_)
   ·have hc4:=bp hb4;refine AR (m_ (h:=?_));refine A6 rfl (Ag 0 (hc:=CH l _ (19) (20) (by omega) (by omega) (by omega) (by omega)) (hR:=?_));rintro r a11 ha11 ⟨k11,rfl,p11,q11⟩;refine⟨rfl,_,(by repeat constructor),?_⟩;refine m_ (h:=?_);refine A6 rfl (Ag 0 (hc:=CH l _ (1) (2) (by omega) (by omega) (by omega) (by omega)) (hR:=?_));rintro r a12 ha12 ⟨k12,rfl,p12,q12⟩;refine⟨rfl,_,(by repeat constructor),?_⟩;refine m_ (h:=BX (h:=?_));refine A6 rfl (Ag 0 (hc:=Ce l _ _ (fun _=>true) (by omega) (by rfl) (by rfl) (by rfl)) (hR:=?_));rintro r a13 ha13 ⟨k13,rfl,p13⟩;refine⟨rfl,_,(by repeat constructor),?_⟩;refine AX (h:=s_ (h:=AP (Ai (?_))));refine AJ ?_;refine⟨_,⟨_,_,_,_,_,_,?_,rfl⟩,(wk 3 0)⟩<;>omega
   have hc4:=bp hb4;refine w_ (m_ (h:=B4 (h:=m_ (h:=?_))));refine AT true rfl rfl (fun hb5=>?_) (fun hb5=>?_)
   ·have hc5:=bp hb5;refine m_ (h:=AK (h:=AA (h:=a_ (h:=e_ (Bj (h:=w_ (m_ (h:=B4 (h:=m_ (h:=m_ (h:=AK (h:=AA (h:=a_ (h:=e_ (?_)))))))))))))));refine A9 rfl (fun hb6=>?_) (fun hb6=>?_)
    ·have hc6:=bp hb6;refine AR (m_ (h:=?_));refine A6 rfl (Ag 0 (hc:=CH l _ (9) (12) (by omega) (by omega) (by omega) (by omega)) (hR:=?_));rintro r a14 ha14 ⟨k14,rfl,p14,q14⟩;refine⟨rfl,_,(by repeat constructor),?_⟩;refine f_ (h:=s_ (h:=AP (Ai (?_))));refine AJ ?_;refine⟨_,⟨_,_,_,_,_,_,?_,rfl⟩,(wk 3 0)⟩<;>omega
    have hc6:=bp hb6;refine w_ (m_ (h:=B4 (h:=m_ (h:=?_))));refine AT true rfl rfl (fun hb7=>?_) (fun hb7=>?_)
    ·have hc7:=bp hb7;refine m_ (h:=AK (h:=AA (h:=a_ (h:=e_ (?_)))));refine A9 rfl (fun hb8=>?_) (fun hb8=>?_)
     ·have hc8:=bp hb8;refine AR (m_ (h:=?_));refine A6 rfl (Ag 0 (hc:=CH l _ (1) (6) (by omega) (by omega) (by omega) (by omega)) (hR:=?_));rintro r a15 ha15 ⟨k15,rfl,p15,q15⟩;refine⟨rfl,_,(by repeat constructor),?_⟩;refine m_ (h:=BX (h:=?_));refine A6 rfl (Ag 0 (hc:=Ce l _ _ (fun _=>true) (by omega) (by rfl) (by rfl) (by rfl)) (hR:=?_));rintro r a16 ha16 ⟨k16,rfl,p16⟩;refine⟨rfl,_,(by repeat constructor),?_⟩;refine AX (h:=s_ (h:=AP (Ai (?_))));refine AJ ?_;refine⟨_,⟨_,_,_,_,_,_,?_,rfl⟩,(wk 3 0)⟩<;>omega
     have hc8:=bp hb8;refine Aq (Ai (?_));refine AJ ?_;refine⟨_,⟨_,_,_,_,_,_,?_,rfl⟩,(wk 3 0)⟩<;>omega
    have hc7:=bp hb7;refine A3 (h:=A3 (h:=AE (h:=a_ (h:=e_ (Bj (h:=Aq (Ai (?_))))))));refine AJ ?_;refine⟨_,⟨_,_,_,_,_,_,?_,rfl⟩,(wk 3 0)⟩<;>omega
   have hc5:=bp hb5;refine A3 (h:=A3 (h:=AE (h:=a_ (h:=e_ (Bj (h:=w_ (m_ (h:=B4 (h:=m_ (h:=A3 (h:=A3 (h:=AE (h:=a_ (h:=e_ (Bj (h:=w_ (m_ (h:=B4 (h:=m_ (h:=?_))))))))))))))))))));refine AT true rfl rfl (fun hb9=>?_) (fun hb9=>?_)
   ·have hc9:=bp hb9;refine m_ (h:=AK (h:=AA (h:=a_ (h:=e_ (?_)))));refine A9 rfl (fun hb10=>?_) (fun hb10=>?_)
    ·have hc10:=bp hb10;refine AR (m_ (h:=?_));refine A6 rfl (Ag 0 (hc:=CH l _ (1) (6) (by omega) (by omega) (by omega) (by omega)) (hR:=?_));rintro r a17 ha17 ⟨k17,rfl,p17,q17⟩;refine⟨rfl,_,(by repeat constructor),?_⟩;refine m_ (h:=BX (h:=?_));refine A6 rfl (Ag 0 (hc:=Ce l _ _ (fun _=>true) (by omega) (by rfl) (by rfl) (by rfl)) (hR:=?_));rintro r a18 ha18 ⟨k18,rfl,FS⟩;refine⟨rfl,_,(by repeat constructor),?_⟩;refine AX (h:=s_ (h:=AP (Ai (?_))));refine AJ ?_;refine⟨_,⟨_,_,_,_,_,_,?_,rfl⟩,(wk 3 0)⟩<;>omega
    have hc10:=bp hb10;refine Aq (Ai (?_));refine AJ ?_;refine⟨_,⟨_,_,_,_,_,_,?_,rfl⟩,(wk 3 0)⟩<;>omega
   have hc9:=bp hb9;refine A3 (h:=A3 (h:=AE (h:=a_ (h:=e_ (Bj (h:=Aq (Ai (?_))))))));refine AJ ?_;refine⟨_,⟨_,_,_,_,_,_,?_,rfl⟩,(wk 3 0)⟩<;>omega
  have hc3:=bp hb3;refine A3 (h:=A3 (h:=AE (h:=a_ (h:=e_ (Bj (h:=w_ (m_ (h:=B4 (h:=m_ (h:=?_))))))))));refine AT true rfl rfl (fun hb11=>?_) (fun hb11=>?_)
  ·have hc11:=bp hb11;refine m_ (h:=AK (h:=AA (h:=a_ (h:=e_ (?_)))));refine A9 rfl (fun hb12=>?_) (fun hb12=>?_)
   ·have hc12:=bp hb12;refine AR (m_ (h:=?_));refine A6 rfl (Ag 0 (hc:=CH l _ (15) (21) (by omega) (by omega) (by omega) (by omega)) (hR:=?_));rintro r a19 ha19 ⟨k19,rfl,p19,q19⟩;refine⟨rfl,_,(by repeat constructor),?_⟩;refine m_ (h:=BX (h:=?_));refine A6 rfl (Ag 0 (hc:=Ce l _ _ (fun _=>true) (by omega) (by rfl) (by rfl) (by rfl)) (hR:=?_));rintro r a20 ha20 ⟨k20,rfl,p20⟩;refine⟨rfl,_,(by repeat constructor),?_⟩;refine f_ (h:=s_ (h:=f_ (h:=s_ (h:=AP (Ai (?_))))));refine AJ ?_;refine⟨_,⟨_,_,_,_,_,_,?_,rfl⟩,(wk 3 0)⟩<;>omega
   have hc12:=bp hb12;refine w_ (m_ (h:=B4 (h:=m_ (h:=m_ (h:=AK (h:=AA (h:=a_ (h:=e_ (?_)))))))));refine A9 rfl (fun hb13=>?_) (fun hb13=>?_)
   ·have hc13:=bp hb13;refine AR (m_ (h:=?_));refine A6 rfl (Ag 0 (hc:=CH l _ (9) (12) (by omega) (by omega) (by omega) (by omega)) (hR:=?_));rintro r a21 ha21 ⟨k21,rfl,p21,q21⟩;refine⟨rfl,_,(by repeat constructor),?_⟩;refine f_ (h:=s_ (h:=AP (Ai (?_))));refine AJ ?_;refine⟨_,⟨_,_,_,_,_,_,?_,rfl⟩,(wk 3 0)⟩<;>omega
   have hc13:=bp hb13;refine w_ (m_ (h:=B4 (h:=m_ (h:=?_))));refine AT true rfl rfl (fun hb14=>?_) (fun hb14=>?_)
   ·have hc14:=bp hb14;refine m_ (h:=AK (h:=AA (h:=a_ (h:=e_ (?_)))));refine A9 rfl (fun hb15=>?_) (fun hb15=>?_)
    ·have hc15:=bp hb15;refine AR (m_ (h:=?_));refine A6 rfl (Ag 0 (hc:=CH l _ (1) (6) (by omega) (by omega) (by omega) (by omega)) (hR:=?_));rintro r a22 ha22 ⟨k22,rfl,p22,q22⟩;refine⟨rfl,_,(by repeat constructor),?_⟩;refine m_ (h:=BX (h:=?_));refine A6 rfl (Ag 0 (hc:=Ce l _ _ (fun _=>true) (by omega) (by rfl) (by rfl) (by rfl)) (hR:=?_));rintro r a23 ha23 ⟨k23,rfl,p23⟩;refine⟨rfl,_,(by repeat constructor),?_⟩;refine AX (h:=s_ (h:=AP (Ai (?_))));refine AJ ?_;refine⟨_,⟨_,_,_,_,_,_,?_,rfl⟩,(wk 3 0)⟩<;>omega
    have hc15:=bp hb15;refine Aq (Ai (?_));refine AJ ?_;refine⟨_,⟨_,_,_,_,_,_,?_,rfl⟩,(wk 3 0)⟩<;>omega
   have hc14:=bp hb14;refine A3 (h:=A3 (h:=AE (h:=a_ (h:=e_ (Bj (h:=Aq (Ai (?_))))))));refine AJ ?_;refine⟨_,⟨_,_,_,_,_,_,?_,rfl⟩,(wk 3 0)⟩<;>omega
  have hc11:=bp hb11;refine A3 (h:=A3 (h:=AE (h:=a_ (h:=e_ (Bj (h:=w_ (m_ (h:=B4 (h:=m_ (h:=A3 (h:=A3 (h:=AE (h:=a_ (h:=e_ (Bj (h:=w_ (m_ (h:=B4 (h:=m_ (h:=?_))))))))))))))))))));refine AT true rfl rfl (fun hb16=>?_) (fun hb16=>?_)
  ·have hc16:=bp hb16;refine m_ (h:=AK (h:=AA (h:=a_ (h:=e_ (?_)))));refine A9 rfl (fun hb17=>?_) (fun hb17=>?_)
   ·have hc17:=bp hb17;refine AR (m_ (h:=?_));refine A6 rfl (Ag 0 (hc:=CH l _ (1) (6) (by omega) (by omega) (by omega) (by omega)) (hR:=?_));rintro r a24 ha24 ⟨k24,rfl,p24,q24⟩;refine⟨rfl,_,(by repeat constructor),?_⟩;refine m_ (h:=BX (h:=?_));refine A6 rfl (Ag 0 (hc:=Ce l _ _ (fun _=>true) (by omega) (by rfl) (by rfl) (by rfl)) (hR:=?_));rintro r a25 ha25 ⟨k25,rfl,p25⟩;refine⟨rfl,_,(by repeat constructor),?_⟩;refine AX (h:=s_ (h:=AP (Ai (?_))));refine AJ ?_;refine⟨_,⟨_,_,_,_,_,_,?_,rfl⟩,(wk 3 0)⟩<;>omega
   have hc17:=bp hb17;refine Aq (Ai (?_));refine AJ ?_;refine⟨_,⟨_,_,_,_,_,_,?_,rfl⟩,(wk 3 0)⟩<;>omega
  have hc16:=bp hb16;refine A3 (h:=A3 (h:=AE (h:=a_ (h:=e_ (Bj (h:=Aq (Ai (?_))))))));refine AJ ?_;refine⟨_,⟨_,_,_,_,_,_,?_,rfl⟩,(wk 3 0)⟩<;>omega
 rintro s ⟨b,f,o,n,ot,t,hb,rfl⟩;refine q_ (w_ (m_ (h:=?_)));refine A6 rfl (Ag 0 (hc:=Gn l _ (24) (by omega) (by omega)) (hR:=?_));rintro r a26 ha26 ⟨k26,rfl,p26,q26,o26⟩;refine⟨rfl,_,(by repeat constructor),?_⟩;refine AK (h:=e_ (?_));refine A9 rfl (fun hb18=>?_) (fun hb18=>?_)
 ·have hc18:=bp hb18;refine AR (m_ (h:=?_));refine A6 rfl (Ag 0 (hc:=CH l _ (0) (24) (by omega) (by omega) (by omega) (by omega)) (hR:=?_));rintro r a27 ha27 ⟨k27,rfl,p27,q27⟩;refine⟨rfl,_,(by repeat constructor),?_⟩;refine m_ (h:=?_);refine A6 rfl (Ag 0 (hc:=CH l _ (0) (9) (by omega) (by omega) (by omega) (by omega)) (hR:=?_));rintro r a28 ha28 ⟨k28,rfl,p28,q28⟩;refine⟨rfl,_,(by repeat constructor),?_⟩;refine f_ (h:=s_ (h:=f_ (h:=s_ (h:=e_ (w_ (l_ (h:=s_ (h:=e_ (A4 (?_))))))))));refine Av none (h5:=(AZ _)) (h6:=⟨_,rfl,rfl,_,?_,rfl,⟨_,_,_,_,_⟩,rfl⟩)<;>omega
 have hc18:=bp hb18;refine AD (w_ (l_ (h:=s_ (h:=e_ (A4 (?_))))));refine Av none (h5:=(AZ _)) (h6:=⟨_,rfl,rfl,_,?_,rfl,⟨_,_,_,_,_⟩,rfl⟩)<;>omega
end
theorem Ul{α:Type}{p:Nat→α→Bool}:∀{l:List α} {i:Nat},(∀k x,l[k]?=some x→p (i+k) x=false)→CX p l i= -1
 |[],_,_=>rfl
 |x::xs,i,h=>by
   rw[CX,if_neg (by simpa using h 0 x rfl)]
   exact Ul fun k y hy=>by
    have:=h (k+1) y (by simpa using hy)
    rwa [show i+1+k=i+(k+1) by omega]
theorem QN{l:List Rul}{r:Rul}:ET l r<0↔r∉l:=by
 constructor
 ·intro h hm;obtain⟨k,hk⟩:=List.getElem?_of_mem hm;rcases Int.lt_or_le (ET l r) 0 with h1|h1
  ·clear h
   have:∀(l:List Rul) (i k:Nat),l[k]?=some r→0≤CX (fun _ x=>decide (x=r)) l i:=by
    intro l
    induction l with
    |nil=>intro i k hk;simp at hk
    |cons x xs ih=>
      intro i k hk;rw[CX];split
      ·omega
      rename_i hne
      cases k with
      |zero=>simp at hk;simp[hk]at hne
      |succ k=>exact ih (i+1) k (by simpa using hk)
   have:=this l 0 k hk;unfold ET at h1;omega
  omega
 intro h
 have:ET l r= -1:=Ul fun k x hx=>by
  simp only[decide_eq_false_iff_not];rintro rfl;exact h (B1 hx)
 omega
theorem Um:∀(l pre:List Rul),Ex pre l=0↔(∀x∈l,BE x=0∧x∉pre)∧l.Nodup
 |[],pre=>by simp[Ex]
 |r::rs,pre=>by
   rw[Ex];by_cases h1:BE r=0
   ·rw[if_neg (by simpa using h1)];by_cases h2:0≤ET pre r
    ·rw[if_pos h2];have h3:r∈pre:=Classical.byContradiction fun h=>by have:=QN.2 h;omega
     exact⟨fun h=>absurd h (by decide),fun h=>absurd h3 (h.1 r (by simp)).2⟩
    rw[if_neg h2,Um rs (pre++[r])];have h3:r∉pre:=QN.1 (by omega);constructor
    ·rintro⟨k1,k2⟩;refine⟨?_,?_⟩
     ·intro x hx;rcases List.mem_cons.1 hx with rfl|hx
      ·exact⟨h1,h3⟩
      exact⟨(k1 x hx).1,fun hm=>(k1 x hx).2 (by simp[hm])⟩
     exact List.nodup_cons.2 ⟨fun hm=>(k1 r hm).2 (by simp),k2⟩
    rintro⟨k1,k2⟩;obtain⟨k3,k4⟩:=List.nodup_cons.1 k2;refine⟨fun x hx=>⟨(k1 x (by simp[hx])).1,fun hm=>?_⟩,k4⟩;rcases List.mem_append.1 hm with hm|hm
    ·exact(k1 x (by simp[hx])).2 hm
    rw[List.mem_singleton.1 hm]at hx;exact k3 hx
   rw[if_pos (by simpa using h1)];constructor
   ·intro h;exact absurd h h1
   intro h;exact absurd (h.1 r (by simp)).1 h1
theorem Nn(l:List Rul):Cv l=0↔l.length≤24∧(∀x∈l,BE x=0)∧l.Nodup:=by
 unfold Cv;split
 ·simp;omega
 rw[Um];simp;omega
structure LstOk(l:List Rul)(n:Nat):Prop where
 chk:Cv l=0
 ins:∀r∈l,DA r
 len:l.length≤n
theorem LstOk.nil(n:Nat):LstOk [] n:=⟨(Nn []).2 (by simp),by simp,by simp⟩
theorem LstOk.add{l:List Rul}{n:Nat}{r:Rul}{f:Bool}(h:LstOk l n)(hr:DA r)(he:(CO l r f).2=0):LstOk (CO l r f).1 (n+1):=by
 unfold CO at he ⊢;rw[if_neg (by rw[h.chk];simp)]at he ⊢;split at he
 ·rename_i h1;exact absurd he h1
 rename_i h1;rw[if_neg h1];split at he
 ·cases he
 rename_i h2;rw[if_neg h2];split at he
 ·cases he
 rename_i h3;rw[if_neg h3];have hm:r∉l:=QN.1 (by omega);obtain⟨c1,c2,c3⟩:=(Nn l).1 h.chk;have h1':BE r=0:=by simpa using h1
 cases f
 ·refine⟨(Nn _).2 ⟨by simp;omega,?_,?_⟩,?_,?_⟩
  ·intro x hx;rcases(by simpa using hx:x∈l∨x=r)with hx|hx
   ·exact c2 x hx
   rw[hx];exact h1'
  ·simp only[Bool.false_eq_true,if_false];exact List.nodup_append.2 ⟨c3,by simp,fun a ha b hb=>by rw[List.mem_singleton.1 hb];rintro rfl;exact hm ha⟩
  ·intro x hx;rcases(by simpa using hx:x∈l∨x=r)with hx|hx
   ·exact h.ins x hx
   rw[hx];exact hr
  have:=h.len;simp;omega
 refine⟨(Nn _).2 ⟨by simp;omega,?_,?_⟩,?_,?_⟩
 ·intro x hx;rcases(by simpa using hx:x=r∨x∈l)with hx|hx
  ·rw[hx];exact h1'
  exact c2 x hx
 ·simp only[if_true];exact List.nodup_cons.2 ⟨hm,c3⟩
 ·intro x hx;rcases(by simpa using hx:x=r∨x∈l)with hx|hx
  ·rw[hx];exact hr
  exact h.ins x hx
 have:=h.len;simp;omega
theorem LstOk.mono{l:List Rul}{n m:Nat}(h:LstOk l n)(hm:n≤m):LstOk l m:=⟨h.chk,h.ins,Nat.le_trans h.len hm⟩
def Ln:Rul:=⟨3,1,4294967295,[],0,⟨#[]⟩,0,⟨#[]⟩⟩
theorem eN:DA Ln:=by unfold DA Ln;simp;decide
theorem eO:BE Ln=0:=by decide
section
theorem eQ(l:List Int)(a:Nat)(ha:a≤10000000000):GenF prog 40 l a [] 200 (fun r=>∃x:Rul,DA x∧r= .agg (Ak x)):=by
 refine enter Tryz.func40 rfl rfl rfl rfl rfl 1 rfl ?_;refine w_ (Aa (h:=e_ (w_ (m_ (h:=BX (h:=?_))))));refine A6 rfl (Ag 0 (hc:=Ce l _ _ (fun _=>true) (by omega) (by rfl) (by rfl) (by rfl)) (hR:=?_));rintro r a1 ha1 ⟨k1,rfl,p1⟩;refine⟨rfl,_,(by repeat constructor),?_⟩;refine m_ (h:=BX (h:=?_));refine A6 rfl (Ag 0 (hc:=Ce l _ _ (fun _=>true) (by omega) (by rfl) (by rfl) (by rfl)) (hR:=?_));rintro r a2 ha2 ⟨k2,rfl,p2⟩;refine⟨rfl,_,(by repeat constructor),?_⟩;refine m_ (h:=BX (h:=?_));refine A6 rfl (Ag 0 (hc:=GU l _ _ (fun _=>true) (by omega) (by rfl) (by rfl) (by rfl)) (hR:=?_));rintro r a3 ha3 ⟨k3,rfl,p3⟩;refine⟨rfl,_,(by repeat constructor),?_⟩;refine AX (h:=Aa (h:=s_ (h:=e_ (?_))));refine Bx (fun s=>∃(b:Nat) (li ac ca:Int) (key:ByteArray),b≤a+50∧0≤ca∧ca<18446744073709551616∧s=⟨look [(0, .bp 0 0),(2, .bp 1 0),(3, .bp 2 0)],⟨[Cc l b,[.v (.int .i64 0), .v (.int .i64 0), .v (.int .u64 0), .v (.slice none 0 0), .v (.int .i64 0), .v (.string ⟨#[]⟩), .v (.int .i64 0), .v (.string ⟨#[]⟩)],[.v (.int .i64 li), .v (.int .i64 ac), .v (.int .u64 ca), .v (.slice none 0 0), .v (.int .i64 0), .v (.string ⟨#[]⟩), .v (.int .i64 0), .v (.string key)]],[]⟩⟩) ?_ ?_
 ·skip
  refine w_ (f_ (h:=l_ (h:=AK (h:=m_ (h:=?_)))));refine AT false rfl rfl (fun hb1=>?_) (fun hb1=>?_)
  ·have hc1:=bp hb1;refine A3 (h:=A3 (h:=A3 (h:=AA (h:=e_ (B6 (h:=w_ (m_ (h:=?_))))))));refine A6 rfl (Ag 0 (hc:=Uk l _ (by omega)) (hR:=?_));rintro r a4 ha4 ⟨k4,rfl,p4,q4⟩;refine⟨rfl,_,(by repeat constructor),?_⟩;refine f_ (h:=s_ (h:=e_ (q_ (w_ (m_ (h:=?_))))));refine A6 rfl (Ag 0 (hc:=Gn l _ (3) (by omega) (by omega)) (hR:=?_));rintro r a5 ha5 ⟨k5,rfl,p5,q5,o5⟩;refine⟨rfl,_,(by repeat constructor),?_⟩;refine Ba (h:=e_ (?_));refine A9 rfl (fun hb2=>?_) (fun hb2=>?_)
   ·have hc2:=bp hb2;refine AR (f_ (h:=s_ (h:=e_ (w_ (f_ (h:=l_ (h:=AK (h:=e_ (?_)))))))));refine A9 rfl (fun hb3=>?_) (fun hb3=>?_)
    ·have hc3:=bp hb3;refine AR (f_ (h:=s_ (h:=AP (?_))));refine AJ ?_;refine⟨_,⟨_,_,_,_,_,?_,?_,?_,rfl⟩,(wk 3 0)⟩<;>omega
    have hc3:=bp hb3;refine Aq (?_);refine AJ ?_;refine⟨_,⟨_,_,_,_,_,?_,?_,?_,rfl⟩,(wk 3 0)⟩<;>omega
   have hc2:=bp hb2;refine AD (w_ (f_ (h:=l_ (h:=AK (h:=e_ (?_))))));refine A9 rfl (fun hb4=>?_) (fun hb4=>?_)
   ·have hc4:=bp hb4;refine AR (f_ (h:=s_ (h:=AP (?_))));refine AJ ?_;refine⟨_,⟨_,_,_,_,_,?_,?_,?_,rfl⟩,(wk 3 0)⟩<;>omega
   have hc4:=bp hb4;refine Aq (?_);refine AJ ?_;refine⟨_,⟨_,_,_,_,_,?_,?_,?_,rfl⟩,(wk 3 0)⟩<;>omega
  have hc1:=bp hb1;refine f_ (h:=l_ (h:=AK (h:=AE (h:=e_ (?_)))));refine A9 rfl (fun hb5=>?_) (fun hb5=>?_)
  ·have hc5:=bp hb5;refine w_ (m_ (h:=?_));refine A6 rfl (Ag 0 (hc:=Uk l _ (by omega)) (hR:=?_));rintro r a6 ha6 ⟨k6,rfl,p6,q6⟩;refine⟨rfl,_,(by repeat constructor),?_⟩;refine f_ (h:=s_ (h:=e_ (q_ (w_ (m_ (h:=?_))))));refine A6 rfl (Ag 0 (hc:=Gn l _ (3) (by omega) (by omega)) (hR:=?_));rintro r a7 ha7 ⟨k7,rfl,p7,q7,o7⟩;refine⟨rfl,_,(by repeat constructor),?_⟩;refine Ba (h:=e_ (?_));refine A9 rfl (fun hb6=>?_) (fun hb6=>?_)
   ·have hc6:=bp hb6;refine AR (f_ (h:=s_ (h:=e_ (w_ (f_ (h:=l_ (h:=AK (h:=e_ (?_)))))))));refine A9 rfl (fun hb7=>?_) (fun hb7=>?_)
    ·have hc7:=bp hb7;refine AR (f_ (h:=s_ (h:=AP (?_))));refine AJ ?_;refine⟨_,⟨_,_,_,_,_,?_,?_,?_,rfl⟩,(wk 3 0)⟩<;>omega
    have hc7:=bp hb7;refine Aq (?_);refine AJ ?_;refine⟨_,⟨_,_,_,_,_,?_,?_,?_,rfl⟩,(wk 3 0)⟩<;>omega
   have hc6:=bp hb6;refine AD (w_ (f_ (h:=l_ (h:=AK (h:=e_ (?_))))));refine A9 rfl (fun hb8=>?_) (fun hb8=>?_)
   ·have hc8:=bp hb8;refine AR (f_ (h:=s_ (h:=AP (?_))));refine AJ ?_;refine⟨_,⟨_,_,_,_,_,?_,?_,?_,rfl⟩,(wk 3 0)⟩<;>omega
   have hc8:=bp hb8;refine Aq (?_);refine AJ ?_;refine⟨_,⟨_,_,_,_,_,?_,?_,?_,rfl⟩,(wk 3 0)⟩<;>omega
  have hc5:=bp hb5;refine Aq (?_);refine AJ ?_;refine⟨_,⟨_,_,_,_,_,?_,?_,?_,rfl⟩,(wk 3 0)⟩<;>omega
 rintro s ⟨b,li,ac,ca,key,hb,hca1,hca2,rfl⟩;refine q_ (w_ (m_ (h:=BX (h:=?_))));refine A6 rfl (Ag 0 (hc:=Ce l _ _ (fun z=>decide (0≤z∧z≤3)) (by omega) (by rfl) (by rfl) (by rfl)) (hR:=?_));rintro r a8 ha8 ⟨k8,rfl,p8⟩;refine⟨rfl,_,(by repeat constructor),?_⟩;obtain⟨hz1,hz2⟩:=of_decide_eq_true p8;obtain⟨m,rfl⟩:=Int.eq_ofNat_of_zero_le (show 0≤k8 by omega);refine a_ (h:=e_ (Ab (?_)));refine JJ 2 3 115 5 rfl rfl (by repeat constructor) (by repeat constructor) (by repeat constructor) ?_;refine BT (fun n s=>∃(j b1:Nat) (ts:List Tst),j≤m∧n=j∧b1≤b+1+20 * (m - j)∧ts.length=m - j∧s=⟨look [(0, .bp 0 0),(2, .bp 1 0),(3, .bp 2 0),(4, .v (.int .i64 (j:Int)))],⟨[Cc l b1,[.v (.int .i64 0), .v (.int .i64 0), .v (.int .u64 0), .v (.slice none 0 0), .v (.int .i64 0), .v (.string ⟨#[]⟩), .v (.int .i64 0), .v (.string ⟨#[]⟩)],[.v (.int .i64 li), .v (.int .i64 ac), .v (.int .u64 ca), .sl 5 (ts.map Bu) (some 0), .v (.int .i64 0), .v (.string ⟨#[]⟩), .v (.int .i64 0), .v (.string key)]],[(115,5,ts.map Bu)]⟩⟩) (m) ((wk 3 1)) (⟨m,_,[],by omega,rfl,by omega,by simp,rfl⟩) ?_;rintro n s ⟨j,b1,ts,hj,hn,hb1,hts,rfl⟩;subst n;refine q_ (w_ (m_ (h:=Ba (h:=e_ (?_)))));refine A9 rfl (fun hb9=>?_) (fun hb9=>?_)
 ·have hc9:=bp hb9;refine AD (q_ (Ab (C3 ([(1,[.v (.int .i64 0), .v (.int .i64 0), .v (.int .u64 0), .v (.slice none 0 0), .v (.int .i64 0), .v (.string ⟨#[]⟩), .v (.int .i64 0), .v (.string ⟨#[]⟩)]),(2,[.v (.int .i64 li), .v (.int .i64 ac), .v (.int .u64 ca), .sl 5 (ts.map Bu) (some 0), .v (.int .i64 0), .v (.string ⟨#[]⟩), .v (.int .i64 0), .v (.string key)])]) 9 (h:=Aw 0 (h:=AO 1 (h:=Ac 2 (h:=Aw 3 (h:=AO 4 (h:=?_)))))))));refine c_ 5 rfl (Ag 0 (hc:=eM l _ _ (by omega)) (hR:=?_));rintro r a9 ha9 ⟨T9,rfl⟩;refine⟨rfl,_,(by repeat constructor),?_⟩;refine o_ (h:=Hi 6 (h:=?_))
  first|refine c_ 7 rfl (E2 rfl rfl rfl (by simp<;>omega) (by repeat constructor) ?_)|refine c_ 7 rfl (E3 rfl rfl (by simp<;>omega) (by repeat constructor) ?_)
  refine o_ (h:=Aw 8 (h:=?_));refine Bd 9 rfl (BY rfl rfl rfl rfl rfl rfl (by repeat constructor) (by repeat constructor) ?_);refine o_ (h:=z_ (h:=Ai (t_ (AR (m_ (h:=EN (h:=a_ (h:=AP (?_)))))))));refine AJ ?_;obtain⟨j,rfl⟩:∃i,j=i+1:=⟨j - 1,by omega⟩;refine⟨_,_,?_,⟨j,_,ts++[T9],by omega,rfl,?_,?_,rfl⟩,(by rw[List.map_append];exact Ar 3 1 rfl rfl rfl rfl (by repeat (first|exact Sub.nil|refine As rfl rfl ?_|(apply Sub.of;(focus exact rfl);(focus exact LeA.of_eq (vi (by omega)));(focus exact rfl)))))⟩
  ·omega
  ·omega
  simp;omega
 have hc9:=bp hb9;refine BF (Ah (Ah (BG (t_ (?_)))));refine Bx (fun s=>∃(b2:Nat) (wa pe:Int) (pa:ByteArray),b2≤a+140∧pa.size≤60∧s=⟨look [(0, .bp 0 0),(2, .bp 1 0),(3, .bp 2 0)],⟨[Cc l b2,[.v (.int .i64 0), .v (.int .i64 0), .v (.int .u64 0), .v (.slice none 0 0), .v (.int .i64 0), .v (.string ⟨#[]⟩), .v (.int .i64 0), .v (.string ⟨#[]⟩)],[.v (.int .i64 li), .v (.int .i64 ac), .v (.int .u64 ca), .sl 5 (ts.map Bu) (some 0), .v (.int .i64 wa), .v (.string pa), .v (.int .i64 pe), .v (.string key)]],[(115,5,ts.map Bu)]⟩⟩) ?_ ?_
 ·skip
  refine w_ (f_ (h:=l_ (h:=AK (h:=m_ (h:=?_)))));refine AT true rfl rfl (fun hb10=>?_) (fun hb10=>?_)
  ·have hc10:=bp hb10;refine m_ (h:=?_);refine B2 (Ag 0 (hc:=Gn l _ (3) (by omega) (by omega)) (hR:=?_));rintro r a10 ha10 ⟨k10,rfl,p10,q10,o10⟩;refine⟨rfl,_,(by repeat constructor),?_⟩;refine AK (h:=AA (h:=e_ (?_)));refine A9 rfl (fun hb11=>?_) (fun hb11=>?_)
   ·have hc11:=bp hb11;refine w_ (m_ (h:=?_));refine A6 rfl (Ag 0 (hc:=CH l _ (1) (2) (by omega) (by omega) (by omega) (by omega)) (hR:=?_));rintro r a11 ha11 ⟨k11,rfl,p11,q11⟩;refine⟨rfl,_,(by repeat constructor),?_⟩;refine m_ (h:=?_);refine A6 rfl (Ag 0 (hc:=Uh l _ (by omega)) (hR:=?_));rintro r a12 ha12 ⟨k12,rfl,p12⟩;refine⟨rfl,_,(by repeat constructor),?_⟩;refine m_ (h:=?_);refine A6 rfl (Ag 0 (hc:=CH l _ (1) (15) (by omega) (by omega) (by omega) (by omega)) (hR:=?_));rintro r a13 ha13 ⟨k13,rfl,p13,q13⟩;refine⟨rfl,_,(by repeat constructor),?_⟩;refine f_ (h:=s_ (h:=f_ (h:=s_ (h:=f_ (h:=s_ (h:=e_ (w_ (m_ (h:=?_)))))))));refine A6 rfl (Ag 0 (hc:=Gn l _ (8) (by omega) (by omega)) (hR:=?_));rintro r a14 ha14 ⟨k14,rfl,p14,q14,o14⟩;refine⟨rfl,_,(by repeat constructor),?_⟩;refine AK (h:=e_ (?_));refine A9 rfl (fun hb12=>?_) (fun hb12=>?_)
    ·have hc12:=bp hb12;refine AR (f_ (h:=s_ (h:=AP (?_))));refine AJ ?_;refine⟨_,⟨_,_,_,_,?_,?_,rfl⟩,(wk 3 1)⟩<;>first|omega|exact B9 rfl
    have hc12:=bp hb12;refine Aq (?_);refine AJ ?_;refine⟨_,⟨_,_,_,_,?_,?_,rfl⟩,(wk 3 1)⟩<;>first|omega|exact B9 rfl
   have hc11:=bp hb11;refine Aq (?_);refine AJ ?_;refine⟨_,⟨_,_,_,_,?_,?_,rfl⟩,(wk 3 1)⟩<;>first|omega|exact B9 rfl
  have hc10:=bp hb10;refine A3 (h:=A3 (h:=A3 (h:=AE (h:=e_ (Bj (h:=Aq (?_)))))));refine AJ ?_;refine⟨_,⟨_,_,_,_,?_,?_,rfl⟩,(wk 3 1)⟩<;>first|omega|exact B9 rfl
 rintro s ⟨b2,wa,pe,pa,hb2,hpa,rfl⟩;refine q_ (w_ (m_ (h:=?_)));refine A6 rfl (Ag 0 (hc:=Gn l _ (24) (by omega) (by omega)) (hR:=?_));rintro r a15 ha15 ⟨k15,rfl,p15,q15,o15⟩;refine⟨rfl,_,(by repeat constructor),?_⟩;refine AK (h:=e_ (?_));refine A9 rfl (fun hb13=>?_) (fun hb13=>?_)
 ·have hc13:=bp hb13;refine AR (m_ (h:=?_));refine A6 rfl (Ag 0 (hc:=CH l _ (-1) (16) (by omega) (by omega) (by omega) (by omega)) (hR:=?_));rintro r a16 ha16 ⟨k16,rfl,p16,q16⟩;refine⟨rfl,_,(by repeat constructor),?_⟩;refine m_ (h:=?_);refine A6 rfl (Ag 0 (hc:=CH l _ (0) (6) (by omega) (by omega) (by omega) (by omega)) (hR:=?_));rintro r a17 ha17 ⟨k17,rfl,p17,q17⟩;refine⟨rfl,_,(by repeat constructor),?_⟩;refine m_ (h:=?_);refine A6 rfl (Ag 0 (hc:=CH l _ (0) (3) (by omega) (by omega) (by omega) (by omega)) (hR:=?_));rintro r a18 ha18 ⟨k18,rfl,FS,q18⟩;refine⟨rfl,_,(by repeat constructor),?_⟩;refine f_ (h:=s_ (h:=f_ (h:=s_ (h:=f_ (h:=s_ (h:=e_ (w_ (l_ (h:=s_ (h:=e_ (A4 (?_))))))))))));refine Av none (h5:=(AZ _)) (h6:=⟨_,rfl,rfl,_,?_,rfl,⟨_,_,_,ts,_,pa,_,_⟩,⟨hca1,hca2,Nat.le_trans hpa (by decide),by show ts.length≤1000;omega⟩,rfl⟩)<;>omega
 have hc13:=bp hb13;refine AD (w_ (l_ (h:=s_ (h:=e_ (A4 (?_))))));refine Av none (h5:=(AZ _)) (h6:=⟨_,rfl,rfl,_,?_,rfl,⟨_,_,_,ts,_,pa,_,_⟩,⟨hca1,hca2,Nat.le_trans hpa (by decide),by show ts.length≤1000;omega⟩,rfl⟩)<;>omega
end
structure PolOk(s:Spc)(p:Pol)(n:Nat):Prop where
 lst:LstOk p.rules n
 wat:p.wats=EV s p.rules
 ok:∀r∈p.rules,(Ca s r).2=0
theorem PolOk.nil(s:Spc)(n:Nat):PolOk s Ei n:=⟨LstOk.nil n,rfl,by simp[Ei]⟩
theorem PolOk.mono{s:Spc}{p:Pol}{n m:Nat}(h:PolOk s p n)(hm:n≤m):PolOk s p m:=⟨h.lst.mono hm,h.wat,h.ok⟩
theorem PolOk.len{s:Spc}{p:Pol}{n:Nat}(h:PolOk s p n):p.wats.length=p.rules.length:=by rw[h.wat];simp[EV]
theorem Un{l:List Rul}{r:Rul}{f:Bool}(h:(CO l r f).2=0):(CO l r f).1=if f=true then r::l else l++[r]:=by
 unfold CO at h ⊢;by_cases c1:Cv l≠0
 ·rw[if_pos c1]at h;exact absurd h c1
 rw[if_neg c1]at h ⊢;by_cases c2:BE r≠0
 ·rw[if_pos c2]at h;exact absurd h c2
 rw[if_neg c2]at h ⊢;by_cases c3:0≤ET l r
 ·rw[if_pos c3]at h;cases h
 rw[if_neg c3]at h ⊢;by_cases c4:24≤(l.length:Int)
 ·rw[if_pos c4]at h;cases h
 rw[if_neg c4]
theorem PolOk.add{s:Spc}{p:Pol}{n:Nat}{r:Rul}{f:Bool}(h:PolOk s p n)(hr:DA r)(he:(EU s p r f).2=0):PolOk s (EU s p r f).1 (n+1):=by
 unfold EU at he ⊢;by_cases c1:(CO p.rules r f).2≠0
 ·rw[if_pos c1]at he;exact absurd he c1
 rw[if_neg c1]at he ⊢;by_cases c2:(Ca s r).2≠0
 ·rw[if_pos c2]at he;exact absurd he c2
 rw[if_neg c2];have d1:(CO p.rules r f).2=0:=by simpa using c1
 have d2:(Ca s r).2=0:=by simpa using c2
 refine⟨h.lst.add hr d1,?_,?_⟩
 ·simp only[Un d1,h.wat];cases f<;>simp[EV]
 intro x hx;simp only[Un d1]at hx
 have:x=r∨x∈p.rules:=by
  cases f
  ·exact(by simpa using hx:x∈p.rules∨x=r).symm
  simpa using hx
 rcases this with rfl|hx
 ·exact d2
 exact h.ok x hx
section
theorem Uo(l:List Int)(a:Nat)(ha:a≤1000000000):GenF prog 56 l a [] 1600 (fun r=>∃x:Rul,DA x∧BE x=0∧r= .agg (Ak x)):=by
 refine enter Tryz.func56 rfl rfl rfl rfl rfl 1 rfl ?_;refine w_ (Aa (h:=e_ (q_ (w_ (a_ (h:=e_ (Ab (?_))))))));refine BT (fun n s=>∃(j b:Nat),j≤8∧n=8 - j∧b≤a+200 * j∧s=⟨look [(0, .bp 0 0),(2, .bp 1 0),(3, .v (.int .i64 (j:Int)))],⟨[Cc l b,[.v (.int .i64 0), .v (.int .i64 0), .v (.int .u64 0), .v (.slice none 0 0), .v (.int .i64 0), .v (.string ⟨#[]⟩), .v (.int .i64 0), .v (.string ⟨#[]⟩)]],[]⟩⟩) (8) ((wk 2 0)) (⟨0,a,by omega,rfl,by omega,rfl⟩) ?_;rintro n s ⟨j,b,hj,rfl,hb,rfl⟩;refine q_ (w_ (m_ (h:=B4 (h:=e_ (?_)))));refine A9 rfl (fun hb1=>?_) (fun hb1=>?_)
 ·have hc1:=bp hb1;refine AD (q_ (Ab (w_ (m_ (h:=?_)))));refine A6 rfl (Ag 0 (hc:=eQ l _ (by omega)) (hR:=?_));rintro r a1 ha1 ⟨x,hx,rfl⟩;refine⟨rfl,_,(by repeat constructor),?_⟩;refine Aa (h:=s_ (h:=e_ (w_ (l_ (h:=?_)))));refine A6 rfl (AB (Ni x hx) ?_);rintro r rfl;refine AK (h:=e_ (?_));refine A9 rfl (fun hb2=>?_) (fun hb2=>?_)
  ·have hc2:=bp hb2;refine w_ (l_ (h:=s_ (h:=e_ (A4 (AN (A8 (A8 (AN (A8 (?_))))))))));refine Av none (h5:=(AZ _)) (h6:=⟨_,rfl,rfl,_,?_,rfl,x,hx,hc2,rfl⟩)<;>omega
  have hc2:=bp hb2;refine Aq (Ai (t_ (AR (m_ (h:=B8 (h:=a_ (h:=AP (?_))))))));refine AJ ?_;refine⟨_,_,?_,⟨j+1,_,by omega,rfl,?_,rfl⟩,(wk 2 0)⟩<;>omega
 have hc1:=bp hb1;refine BF (Ah (Ah (BG (t_ (w_ (AX (h:=s_ (h:=e_ (A4 (?_))))))))));refine Av (r:= .agg (Ak Ln)) none (h5:=(by repeat (first|exact AZ _|exact LeA.nil _|exact LeL.refl _|refine LeA.agg ?_|refine LeA.tup ?_|exact LeL.nil|refine LeL.cons ?_ ?_|exact LeA.any _))) (h6:=⟨_,rfl,rfl,b,by omega,rfl,Ln,eN,eO,rfl⟩)
end
theorem eR:LeL [.v (.slice none 0 0), .v (.slice none 0 0)] (Bb Ei):=by
 show LeL _ [.sl 8 [] none, .sl 6 [] none];exact LeL.cons (LeA.nil _) (LeL.cons (LeA.nil _) LeL.nil)
section
theorem eS(l:List Int)(a m:Nat)(s:Spc)(ha:a≤100000000)(hm:m≤20)(hv:SpcV s)(hmm:s.mounts.length≤1000):GenF prog 20 l a [.agg (Aj s), .v (.int .i64 (m:Int))] 50000 (fun r=>∃p:Pol,PolOk s p 20∧r= .agg (Bb p)):=by
 refine enter Tryz.func20 rfl rfl rfl rfl rfl 1 rfl ?_;refine w_ (b_ (h:=Aa (h:=e_ (w_ (Aa (h:=e_ (q_ (w_ (m_ (h:=m_ (h:=B8 (h:=?_))))))))))));refine A6 rfl (Ag 0 (hc:=Gn l _ ((m:Int)+1) (by omega) (by omega)) (hR:=?_));rintro r a1 ha1 ⟨k1,rfl,p1,q1,o1⟩;refine⟨rfl,_,(by repeat constructor),?_⟩;obtain⟨m0,rfl⟩:=Int.eq_ofNat_of_zero_le p1;have hm0:m0≤20:=by omega
 refine a_ (h:=e_ (Ab (?_)));refine BT (fun n S=>∃(j b:Nat) (p:Pol),j≤m0∧n=j∧b≤a+1+1700 * (m0 - j)∧PolOk s p (m0 - j)∧S=⟨look [(0, .bp 0 0),(4, .bp 1 0),(6, .bp 2 0),(7, .bp 3 0),(8, .v (.int .i64 (j:Int)))],⟨[Cc l b,Aj s,[.v (.slice none 0 0), .v (.slice none 0 0)],Bb p],[]⟩⟩) (m0) (Weak.trans (cO 3 rfl eR) ((wk 4 0))) (⟨m0,_,Ei,by omega,rfl,by omega,PolOk.nil _ _,rfl⟩) ?_;rintro n S ⟨j,b,p,hj,hn,hb,hp,rfl⟩;subst n;refine q_ (w_ (m_ (h:=Ba (h:=e_ (?_)))));refine A9 rfl (fun hb1=>?_) (fun hb1=>?_)
 ·have hc1:=bp hb1;refine AD (q_ (Ab (?_)));refine Bx (fun S=>∃(b1:Nat) (x:Rul) (f:Bool),b1≤a+1+1700 * (m0 - j)+1610∧DA x∧S=⟨look [(0, .bp 0 0),(4, .bp 1 0),(6, .bp 2 0),(7, .bp 3 0),(8, .v (.int .i64 (j:Int))),(9, .bp 4 0),(10, .v (.int .i64 (EU s p x f).2))],⟨[Cc l b1,Aj s,[.v (.slice none 0 0), .v (.slice none 0 0)],Bb p,Bb (EU s p x f).1],[]⟩⟩) ?_ ?_
  ·skip
   refine C3 ([(1,Aj s),(2,[.v (.slice none 0 0), .v (.slice none 0 0)]),(3,Bb p)]) 14 (h:=?_)
   first|refine AO 0 (h:=?_)|refine BN 0 rfl (fun _ hS=>DZ (row:=Bb p) rfl (kb hS rfl) (B9 rfl) rfl ⟨rfl,rfl⟩) ?_|refine BN 0 rfl (fun _ hS=>DZ (row:=Aj s) rfl (kb hS rfl) (B9 rfl) rfl ⟨rfl,rfl⟩) ?_
   first|refine AO 1 (h:=?_)|refine BN 1 rfl (fun _ hS=>DZ (row:=Bb p) rfl (kb hS rfl) (B9 rfl) rfl ⟨rfl,rfl⟩) ?_|refine BN 1 rfl (fun _ hS=>DZ (row:=Aj s) rfl (kb hS rfl) (B9 rfl) rfl ⟨rfl,rfl⟩) ?_
   refine Ac 2 (h:=Ac 4 (h:=?_));refine GH 3 11 rfl rfl ?_ ?_
   ·refine Ag 0 (hc:=Uo l _ (by omega)) (hR:=?_);rintro r a2 ha2 ⟨x,hx,hg,rfl⟩;refine⟨rfl,_,(by repeat constructor),?_⟩;refine o_ (h:=?_);refine GH 5 11 rfl rfl ?_ ?_
    ·refine Ag 0 (hc:=Gn l _ (4) (by omega) (by omega)) (hR:=?_);rintro r a3 ha3 ⟨k3,rfl,p3,q3,o3⟩;refine⟨rfl,_,(by repeat constructor),?_⟩;refine o_ (h:=?_);refine Eb 6 (h:=?_);refine GH 7 11 rfl rfl ?_ ?_
     ·refine AB (Nl s p x hv hmm (by have:=hp.lst.len;omega) hp.len hp.lst.ins hx _) ?_;rintro r rfl;refine o_ (h:=?_);refine Ac 8 (h:=By 9 (h:=By 10 (h:=?_)));refine c_ 11 rfl (Dv (by repeat constructor) ?_);refine o_ (h:=?_);refine Bd 12 rfl (BY rfl rfl rfl rfl rfl rfl (by repeat constructor) (by repeat constructor) ?_);refine o_ (h:=BL 13 (h:=z_ (h:=?_)));refine AJ ?_;exact⟨_,⟨_,x,_,(by omega),hx,rfl⟩,Ar 5 0 rfl rfl rfl rfl ((by repeat (first|exact Sub.nil|refine As rfl rfl ?_|refine Ay ?_|refine Az rfl ?_|refine B0 rfl ?_)))⟩
     refine Dv (by repeat constructor) ?_;refine o_ (h:=?_);refine c_ 7 rfl (AB (Nl s p x hv hmm (by have:=hp.lst.len;omega) hp.len hp.lst.ins hx _) ?_);rintro r rfl;refine o_ (h:=Ac 8 (h:=By 9 (h:=By 10 (h:=?_))));refine Bd 12 rfl (BY rfl rfl rfl rfl rfl rfl (by repeat constructor) (by repeat constructor) ?_);refine o_ (h:=BL 13 (h:=z_ (h:=?_)));refine AJ ?_;exact⟨_,⟨_,x,_,(by omega),hx,rfl⟩,Ar 5 0 rfl rfl rfl rfl ((by repeat (first|exact Sub.nil|refine As rfl rfl ?_|refine Ay ?_|refine Az rfl ?_|refine B0 rfl ?_)))⟩
    refine Dv (by repeat constructor) ?_;refine o_ (h:=?_);refine c_ 5 rfl (Ag 0 (hc:=Gn l _ (4) (by omega) (by omega)) (hR:=?_));rintro r a4 ha4 ⟨k4,rfl,p4,q4,o4⟩;refine⟨rfl,_,(by repeat constructor),?_⟩;refine o_ (h:=Eb 6 (h:=?_));refine c_ 7 rfl (AB (Nl s p x hv hmm (by have:=hp.lst.len;omega) hp.len hp.lst.ins hx _) ?_);rintro r rfl;refine o_ (h:=Ac 8 (h:=By 9 (h:=By 10 (h:=?_))));refine Bd 12 rfl (BY rfl rfl rfl rfl rfl rfl (by repeat constructor) (by repeat constructor) ?_);refine o_ (h:=BL 13 (h:=z_ (h:=?_)));refine AJ ?_;exact⟨_,⟨_,x,_,(by omega),hx,rfl⟩,Ar 5 0 rfl rfl rfl rfl ((by repeat (first|exact Sub.nil|refine As rfl rfl ?_|refine Ay ?_|refine Az rfl ?_|refine B0 rfl ?_)))⟩
   refine Dv (by repeat constructor) ?_;refine o_ (h:=?_);refine c_ 3 rfl (Ag 0 (hc:=Uo l _ (by omega)) (hR:=?_));rintro r a5 ha5 ⟨x,hx,hg,rfl⟩;refine⟨rfl,_,(by repeat constructor),?_⟩;refine o_ (h:=?_);refine c_ 5 rfl (Ag 0 (hc:=Gn l _ (4) (by omega) (by omega)) (hR:=?_));rintro r a6 ha6 ⟨k6,rfl,p6,q6,o6⟩;refine⟨rfl,_,(by repeat constructor),?_⟩;refine o_ (h:=Eb 6 (h:=?_));refine c_ 7 rfl (AB (Nl s p x hv hmm (by have:=hp.lst.len;omega) hp.len hp.lst.ins hx _) ?_);rintro r rfl;refine o_ (h:=Ac 8 (h:=By 9 (h:=By 10 (h:=?_))));refine Bd 12 rfl (BY rfl rfl rfl rfl rfl rfl (by repeat constructor) (by repeat constructor) ?_);refine o_ (h:=BL 13 (h:=z_ (h:=?_)));refine AJ ?_;exact⟨_,⟨_,x,_,(by omega),hx,rfl⟩,Ar 5 0 rfl rfl rfl rfl ((by repeat (first|exact Sub.nil|refine As rfl rfl ?_|refine Ay ?_|refine Az rfl ?_|refine B0 rfl ?_)))⟩
  rintro S ⟨b1,x,f,hb1,hx,rfl⟩;refine w_ (m_ (h:=AK (h:=e_ (?_))));refine A9 rfl (fun hb2=>?_) (fun hb2=>?_)
  ·have hc2:=bp hb2;have hp2:=hp.add (f:=f) hx (by simpa using hc2);refine AR (l_ (h:=s_ (h:=AP (Ai (t_ (AR (m_ (h:=EN (h:=a_ (h:=AP (?_)))))))))));refine AJ ?_;obtain⟨j,rfl⟩:∃i,j=i+1:=⟨j - 1,by omega⟩;refine⟨_,_,?_,⟨j,_,_,by omega,rfl,?_,hp2.mono (by omega),rfl⟩,Ar 4 0 rfl rfl rfl rfl (by repeat (first|exact Sub.nil|refine As rfl rfl ?_|(apply Sub.of;(focus exact rfl);(focus exact LeA.of_eq (vi (by omega)));(focus exact rfl))))⟩<;>omega
  have hc2:=bp hb2;have hp2:=hp.mono (Nat.le_succ _);refine Aq (Ai (t_ (AR (m_ (h:=EN (h:=a_ (h:=AP (?_))))))));refine AJ ?_;obtain⟨j,rfl⟩:∃i,j=i+1:=⟨j - 1,by omega⟩;refine⟨_,_,?_,⟨j,_,_,by omega,rfl,?_,hp2.mono (by omega),rfl⟩,Ar 4 0 rfl rfl rfl rfl (by repeat (first|exact Sub.nil|refine As rfl rfl ?_|(apply Sub.of;(focus exact rfl);(focus exact LeA.of_eq (vi (by omega)));(focus exact rfl))))⟩<;>omega
 have hc1:=bp hb1;refine BF (Ah (Ah (BG (t_ (w_ (l_ (h:=s_ (h:=e_ (A4 (?_))))))))));refine Av none (h5:=(AZ _)) (h6:=⟨_,rfl,rfl,b,by omega,rfl,p,hp.mono (by omega),rfl⟩)
end
structure Vdt where
 sel:Bool
 rule:Int
 key:AM
deriving DecidableEq
def EB(v:Vdt):List AV:=[.v (.bool v.sel), .v (.int .i64 v.rule), .v (.string v.key)]
def J5:Vdt:=⟨false, -1,⟨#[]⟩⟩
def Ej(l:List Rul)(i:Int):Vdt:=if i<0 then J5 else match l[i.toNat]? with|some r=>⟨decide (r.action=1),i,r.key⟩|none=>J5
theorem Up{l:List Rul}{i:Nat}{r:Rul}(h:l[i]?=some r):Ej l (i:Int)=⟨decide (r.action=1),(i:Int),r.key⟩:=by
 rw[Ej,if_neg (by omega),Int.toNat_natCast,h]
theorem Np{l:List Rul}{i:Int}(h:i<0):Ej l i=J5:=by rw[Ej,if_pos h]
def H0(l:List Rul)(i:Int):Prop:=i<0∨∃(k:Nat) (r:Rul),i=(k:Int)∧l[k]?=some r
theorem Uq{α:Type}{p:Nat→α→Bool}:∀{l:List α} {i:Nat},CX p l i<0∨∃(k:Nat) (r:α),CX p l i=((i+k:Nat):Int)∧l[k]?=some r
 |[],_=> .inl (by simp[CX])
 |x::xs,i=>by
   rw[CX];split
   ·exact .inr ⟨0,x,rfl,rfl⟩
   rcases Uq (p:=p) (l:=xs) (i:=i+1)with h|⟨k,r,h1,h2⟩
   ·exact .inl h
   exact .inr ⟨k+1,r,by rw[h1];congr 1;omega,by simpa using h2⟩
theorem GZ(p:Nat→Rul→Bool)(l:List Rul):H0 l (CX p l 0):=by
 rcases Uq (p:=p) (l:=l) (i:=0)with h|⟨k,r,h1,h2⟩
 ·exact .inl h
 exact .inr ⟨k,r,by rw[h1,Nat.zero_add],h2⟩
def QO(c:Ctx):Ctx:={c with phase:=1,ext:=0,items:=[]}
def Jf(p:Pol)(c:Ctx):Int:=CX (DH 2 [] (QO c)) p.rules 0
def Ur(p:Pol)(c:Ctx):Int:=CX (DH 1 [] c) p.rules 0
def QP(p:Pol)(c:Ctx):Int:=CX (DH 4 [] c) p.rules 0
section
theorem eT(p:Pol)(i:Int)(hi:i<0):AFn prog 67 [.agg (Bb p), .v (.int .i64 i)] (fun r=>r= .agg (EB J5)):=by
 refine enter Tryz.func67 rfl rfl rfl rfl rfl 0 rfl ?_;refine w_ (b_ (h:=Aa (h:=e_ (q_ (w_ (m_ (h:=B4 (h:=e_ (?_)))))))));refine A9 rfl (fun hb1=>?_) (fun hb1=>?_)
 ·have hc1:=bp hb1;refine w_ (AX (h:=s_ (h:=e_ (A4 (A8 (?_))))));refine A7 ?_;rfl
 have hc1:=bp hb1;exfalso;first|contradiction|omega
theorem eU(p:Pol)(k:Nat)(r:Rul)(hr:p.rules[k]?=some r)(h1:p.rules.length≤1000):AFn prog 67 [.agg (Bb p), .v (.int .i64 (k:Int))] (fun x=>x= .agg (EB ⟨decide (r.action=1),(k:Int),r.key⟩)):=by
 have hrow:(p.rules.map Ak)[k]?=some (Ak r):=by rw[List.getElem?_map,hr];rfl
 have hlt:k<p.rules.length:=(Al.1 hr).1;refine enter Tryz.func67 rfl rfl rfl rfl rfl 0 rfl ?_;refine w_ (b_ (h:=Aa (h:=e_ (q_ (w_ (m_ (h:=B4 (h:=e_ (?_)))))))));refine A9 rfl (fun hb1=>?_) (fun hb1=>?_)
 ·have hc1:=bp hb1;exfalso;first|contradiction|omega
 have hc1:=bp hb1;refine AD (w_ (f_ (h:=l_ (h:=m_ (h:=i_ (h:=l_ (h:=Aa (h:=s_ (h:=e_ (w_ (f_ (h:=l_ (h:=AK (h:=m_ (h:=f_ (h:=l_ (h:=AX (h:=s_ (h:=e_ (A4 (?_)))))))))))))))))))));refine A7 ?_;rfl
theorem Lo(p:Pol)(i:Int)(hi:H0 p.rules i)(h1:p.rules.length≤1000):AFn prog 67 [.agg (Bb p), .v (.int .i64 i)] (fun r=>r= .agg (EB (Ej p.rules i))):=by
 rcases hi with hi|⟨k,r,rfl,hr⟩
 ·rw[Np hi];exact eT p i hi
 rw[Up hr];exact eU p k r hr h1
theorem QQ:AFn prog 69 [] (fun r=>r= .agg (EB J5)):=by
 refine enter Tryz.func69 rfl rfl rfl rfl rfl 0 rfl ?_;refine w_ (Aa (h:=e_ (w_ (AX (h:=s_ (h:=e_ (A4 (?_))))))));refine A7 ?_;rfl
theorem eV(p:Pol)(i:Int)(hi:i<0):AFn prog 68 [.agg (Bb p), .v (.int .i64 i)] (fun r=>r= .agg (EB J5)):=by
 refine enter Tryz.func68 rfl rfl rfl rfl rfl 0 rfl ?_;refine w_ (b_ (h:=Aa (h:=e_ (q_ (w_ (m_ (h:=B4 (h:=e_ (?_)))))))));refine A9 rfl (fun hb1=>?_) (fun hb1=>?_)
 ·have hc1:=bp hb1;refine w_ (?_);refine A6 rfl (AB (QQ) ?_);rintro r rfl;refine s_ (h:=e_ (A4 (A8 (?_))));refine A7 ?_;rfl
 have hc1:=bp hb1;exfalso;first|contradiction|omega
theorem eW(p:Pol)(k:Nat)(r:Rul)(hr:p.rules[k]?=some r)(h1:p.rules.length≤1000):AFn prog 68 [.agg (Bb p), .v (.int .i64 (k:Int))] (fun x=>x= .agg (EB ⟨decide (r.action=1),(k:Int),r.key⟩)):=by
 have hrow:(p.rules.map Ak)[k]?=some (Ak r):=by rw[List.getElem?_map,hr];rfl
 have hlt:k<p.rules.length:=(Al.1 hr).1;refine enter Tryz.func68 rfl rfl rfl rfl rfl 0 rfl ?_;refine w_ (b_ (h:=Aa (h:=e_ (q_ (w_ (m_ (h:=B4 (h:=e_ (?_)))))))));refine A9 rfl (fun hb1=>?_) (fun hb1=>?_)
 ·have hc1:=bp hb1;exfalso;first|contradiction|omega
 have hc1:=bp hb1;refine AD (q_ (C3 ([(0,Bb p)]) 16 (h:=Aw 0 (h:=AO 1 (h:=Ac 2 (h:=Cl 3 (h:=Aw 4 (h:=AO 5 (h:=Eb 6 (h:=Ac 7 (h:=Aw 8 (h:=AO 9 (h:=Ac 10 (h:=Cl 11 (h:=Aw 12 (h:=AO 13 (h:=Fa 14 (h:=?_))))))))))))))))));refine Bd 15 rfl (BY rfl rfl rfl rfl rfl rfl (by repeat constructor) (by repeat constructor) ?_);refine o_ (h:=z_ (h:=t_ (A4 (?_))));refine A7 ?_;rfl
theorem QR(p:Pol)(i:Int)(hi:H0 p.rules i)(h1:p.rules.length≤1000):AFn prog 68 [.agg (Bb p), .v (.int .i64 i)] (fun r=>r= .agg (EB (Ej p.rules i))):=by
 rcases hi with hi|⟨k,r,rfl,hr⟩
 ·rw[Np hi];exact eV p i hi
 rw[Up hr];exact eW p k r hr h1
variable (p:Pol)(c:Ctx)(k:Cxs)(h1:p.rules.length≤1000)(ht:∀r∈p.rules,r.tests.length≤1000)
include h1 ht
theorem Us:AFn prog 22 [.agg (Bb p), .agg (Bf c k)] (fun r=>r= .tup [.agg (EB (Ej p.rules (Jf p c))), .v (.bool (decide (0≤Jf p c)))]):=by
 refine enter Tryz.func22 rfl rfl rfl rfl rfl 0 rfl ?_;refine w_ (b_ (h:=b_ (h:=Aa (h:=a_ (h:=e_ (w_ (f_ (h:=s_ (h:=f_ (h:=s_ (h:=f_ (h:=s_ (h:=e_ (w_ (f_ (h:=l_ (h:=l_ (h:=?_))))))))))))))))));refine A6 rfl (AB (Kx p.rules 2 [] (QO c) k h1 (BR _) ht) ?_);rintro r rfl;refine a_ (h:=e_ (w_ (l_ (h:=m_ (h:=?_)))));refine A6 rfl (AB (Lo p _ (GZ _ _) h1) ?_);rintro r rfl;refine m_ (h:=Cm (h:=s_ (h:=a_ (h:=e_ (A4 (?_))))));refine A7 ?_;rfl
theorem Ut:AFn prog 23 [.agg (Bb p), .agg (Bf c k)] (fun r=>r= .tup [.agg (EB (Ej p.rules (Jf p c))), .v (.bool (decide (0≤Jf p c)))]):=by
 refine enter Tryz.func23 rfl rfl rfl rfl rfl 0 rfl ?_;refine w_ (b_ (h:=b_ (h:=Aa (h:=a_ (h:=e_ (w_ (f_ (h:=s_ (h:=f_ (h:=s_ (h:=f_ (h:=s_ (h:=e_ (w_ (f_ (h:=l_ (h:=l_ (h:=?_))))))))))))))))));refine A6 rfl (AB (Ky p.rules 2 [] (QO c) k h1 (BR _) ht) ?_);rintro r rfl;refine a_ (h:=e_ (w_ (l_ (h:=m_ (h:=?_)))));refine A6 rfl (AB (QR p _ (GZ _ _) h1) ?_);rintro r rfl;refine m_ (h:=Cm (h:=s_ (h:=a_ (h:=e_ (A4 (?_))))));refine A7 ?_;rfl
end
theorem Uu{s:Spc}{a b:AG}(h:Ax s.files b=false):decide (a∈BH s (BQ s.files) b)=false:=by
 have e:BH s (BQ s.files) b=[]:=by
  cases BQ s.files with
  |zero=>rfl
  |succ k=>unfold BH;rw[h];rfl
 rw[e];rfl
section
variable {ev:Operand→Option AV}{h:AH}{R:AV→AH→Prop}{d:Option Tmp}{ty:TypeId}{pos:String}{af:Array Edge}{gd:Option (Nat×Bool)}
theorem eX{x ix:Operand}{a b:AG}(j:Nat)(hx:ev x=some (.agg [.v (.int .i64 a.1), .v (.int .i64 a.2), .v (.int .i64 b.1), .v (.int .i64 b.2)]))(hi:ev ix=some (.v (.int .i64 (j:Int))))(hj:j<2)(hR:R (.agg (AF (if j=0 then a else b))) h):AStep prog ⟨d, .index 176 x ix,ty,pos,af,gd⟩ ev h R:=by
 refine Ch (fun _ G w ec _ he=>?_) hR;have h1:=he x (by simp[Op.operands]) _ hx;have h2:=he ix (by simp[Op.operands]) _ hi;simp only[rep]at h1 h2;obtain⟨ys,h3,h4⟩:=h1;simp only[AY,rep]at h4;obtain⟨v1,q1,rfl,rfl,v2,q2,rfl,rfl,v3,q3,rfl,rfl,v4,q4,rfl,rfl,rfl⟩:=h4;have u1:=Tryz.underlying176;have u2:=Tryz.isAgg26;have u3:=Tryz.sizeOf26
 match j,hj with
 |0,_=>
   refine⟨.agg #[.int .i64 a.1, .int .i64 a.2],?_,by simp[rep,AY,AF]⟩;simp[execOp,h2,h3,Instr.index,asIntOf,part]
 |1,_=>
   refine⟨.agg #[.int .i64 b.1, .int .i64 b.2],?_,by simp[rep,AY,AF]⟩;simp[execOp,h2,h3,Instr.index,asIntOf,part]
end
theorem Ey{s:Spc}{w:Wch}{d f:AG}{n:AM}(hk:w.kind=1):Bw s w d n f=((!decide (w.file=(0,0))&&decide (w.file=f))||(!decide (n=⟨#[]⟩)&&decide (d=w.dir)&&decide (n=w.name))):=by
 unfold Bw;rw[if_pos hk];have e1:decide (w.file≠(0,0))= !decide (w.file=(0,0)):=by simp
 have e2:decide (n≠⟨#[]⟩)= !decide (n=⟨#[]⟩):=by simp
 have e3:decide (f=w.file)=decide (w.file=f):=decide_eq_decide.2 ⟨Eq.symm,Eq.symm⟩;rw[e1,e2,e3]
section
theorem eY(s:Spc)(w:Wch)(y:Itm)(hs:SpcB s):AFn prog 73 [.agg (Aj s), .agg (Cs w), .agg (Je y)] (fun r=>r= .v (.bool (Bw s w y.dir y.name y.file))):=by
 refine enter Tryz.func73 rfl rfl rfl rfl rfl 0 rfl ?_;refine w_ (b_ (h:=b_ (h:=b_ (h:=a_ (h:=e_ (q_ (w_ (f_ (h:=l_ (h:=e_ (Ab (w_ (AK (h:=a_ (h:=e_ (?_))))))))))))))));refine A9 rfl (fun hb1=>?_) (fun hb1=>?_)
 ·have hc1:=bp hb1;refine q_ (?_);refine Bx (fun S=>S=⟨look [(3, .bp 0 0),(4, .bp 1 0),(5, .bp 2 0),(23, .v (.bool (!decide (w.file=(0,0))&&decide (w.file=y.file))))],⟨[Aj s,Cs w,Je y],[]⟩⟩) ?_ ?_
  ·skip
   refine AR (f_ (h:=l_ (h:=AX (h:=?_))));refine A6 rfl (E4 rfl rfl (by repeat constructor) (by repeat constructor) (fun W=>UW w.file (0,0) W) (by kernel_rfl) ?_);refine m_ (h:=?_);refine AT true rfl rfl (fun hb2=>?_) (fun hb2=>?_)
   ·have hc2:=bp hb2;refine f_ (h:=l_ (h:=f_ (h:=l_ (h:=?_))));refine B2 (E4 rfl rfl (by repeat constructor) (by repeat constructor) (fun W=>Lm w.file y.file W) (by kernel_rfl) ?_);refine AA (h:=AP (?_));refine AJ ?_;exact⟨_,rfl,D1 3 0 rfl⟩
   have hc2:=bp hb2;refine A3 (h:=A3 (h:=A3 (h:=A3 (h:=A3 (h:=AE (h:=AP (?_)))))));refine AJ ?_;exact⟨_,rfl,D1 3 0 rfl⟩
  rintro S rfl;refine A9 rfl (fun hb3=>?_) (fun hb3=>?_)
  ·have hc3:=bp hb3;refine w_ (a_ (h:=e_ (A4 (A8 (AN (A8 (?_)))))));refine A7 ?_
   first|(exfalso;first|contradiction|omega)|(exact vb (by first|(rw[Ey hc1,hc3];simp[*];done)|(rw[Ey hc1,hc3];rfl)|(have hj3:j=0∨j=1:=(by omega);rcases hj3 with rfl|rfl<;>simp_all [Bw];done)|(simp[Bw,hj1 (by omega),hj2 (by omega), *];done)|(simp[Bw, *];done)))
  have hc3:=bp hb3;refine AD (w_ (f_ (h:=l_ (h:=Ao (h:=m_ (h:=?_))))));refine AT true rfl rfl (fun hb4=>?_) (fun hb4=>?_)
  ·have hc4:=bp hb4;refine f_ (h:=l_ (h:=f_ (h:=l_ (h:=?_))));refine B2 (E4 rfl rfl (by repeat constructor) (by repeat constructor) (fun W=>Lm y.dir w.dir W) (by kernel_rfl) ?_);refine AA (h:=m_ (h:=?_));refine AT true rfl rfl (fun hb5=>?_) (fun hb5=>?_)
   ·have hc5:=bp hb5;refine f_ (h:=l_ (h:=f_ (h:=l_ (h:=AK (h:=AA (h:=a_ (h:=e_ (A4 (AN (A8 (?_)))))))))));refine A7 ?_
    first|(exfalso;first|contradiction|omega)|(exact vb (by first|(rw[Ey hc1,hc3];simp[*];done)|(rw[Ey hc1,hc3];rfl)|(have hj3:j=0∨j=1:=(by omega);rcases hj3 with rfl|rfl<;>simp_all [Bw];done)|(simp[Bw,hj1 (by omega),hj2 (by omega), *];done)|(simp[Bw, *];done)))
   have hc5:=bp hb5;refine A3 (h:=A3 (h:=A3 (h:=A3 (h:=A3 (h:=AE (h:=a_ (h:=e_ (A4 (AN (A8 (?_)))))))))));refine A7 ?_
   first|(exfalso;first|contradiction|omega)|(exact vb (by first|(rw[Ey hc1,hc3];simp[*];done)|(rw[Ey hc1,hc3];rfl)|(have hj3:j=0∨j=1:=(by omega);rcases hj3 with rfl|rfl<;>simp_all [Bw];done)|(simp[Bw,hj1 (by omega),hj2 (by omega), *];done)|(simp[Bw, *];done)))
  have hc4:=bp hb4;refine A3 (h:=A3 (h:=A3 (h:=A3 (h:=A3 (h:=AE (h:=m_ (h:=A3 (h:=A3 (h:=A3 (h:=A3 (h:=A3 (h:=AE (h:=a_ (h:=e_ (A4 (AN (A8 (?_))))))))))))))))));refine A7 ?_
  first|(exfalso;first|contradiction|omega)|(exact vb (by first|(rw[Ey hc1,hc3];simp[*];done)|(rw[Ey hc1,hc3];rfl)|(have hj3:j=0∨j=1:=(by omega);rcases hj3 with rfl|rfl<;>simp_all [Bw];done)|(simp[Bw,hj1 (by omega),hj2 (by omega), *];done)|(simp[Bw, *];done)))
 have hc1:=bp hb1;refine w_ (AK (h:=a_ (h:=e_ (?_))));refine A9 rfl (fun hb6=>?_) (fun hb6=>?_)
 ·have hc6:=bp hb6;refine w_ (f_ (h:=l_ (h:=f_ (h:=l_ (h:=AX (h:=m_ (h:=e_ (Ab (?_)))))))));refine BT (fun m S=>∃j:Nat,j≤2∧m=2 - j∧(0<j→D9 s w.file y.dir=false)∧(1<j→D9 s w.file y.file=false)∧S=⟨look [(3, .bp 0 0),(4, .bp 1 0),(5, .bp 2 0),(47, .agg [.v (.int .i64 y.dir.1), .v (.int .i64 y.dir.2), .v (.int .i64 y.file.1), .v (.int .i64 y.file.2)]),(48, .v (.int .i64 (j:Int)))],⟨[Aj s,Cs w,Je y],[]⟩⟩) (2) ((wk 3 0)) (⟨0,by omega,rfl,fun q=>by omega,fun q=>by omega,rfl⟩) ?_;rintro m S ⟨j,hj,rfl,hj1,hj2,rfl⟩;refine w_ (B4 (h:=e_ (q_ (?_))));refine A9 rfl (fun hb7=>?_) (fun hb7=>?_)
  ·have hc7:=bp hb7;refine AD (q_ (Ab (?_)));refine Bx (fun S=>∃z,z=(if j=0 then y.dir else y.file)∧S=⟨look [(3, .bp 0 0),(4, .bp 1 0),(5, .bp 2 0),(8, .bp 3 0),(47, .agg [.v (.int .i64 y.dir.1), .v (.int .i64 y.dir.2), .v (.int .i64 y.file.1), .v (.int .i64 y.file.2)]),(48, .v (.int .i64 (j:Int)))],⟨[Aj s,Cs w,Je y,AF z],[]⟩⟩) ?_ ?_
   ·skip
    refine AR (?_);refine A6 rfl (eX j rfl rfl (by omega) ?_);refine Aa (h:=s_ (h:=AP (?_)));refine AJ ?_;exact⟨_,⟨_,rfl,rfl⟩,Ar 4 0 rfl rfl rfl rfl ((by repeat (first|exact Sub.nil|refine As rfl rfl ?_|refine Ay ?_|refine Az rfl ?_|refine B0 rfl ?_)))⟩
   rintro S ⟨z,hz,rfl⟩;refine Bx (fun S=>S=⟨look [(3, .bp 0 0),(4, .bp 1 0),(5, .bp 2 0),(47, .agg [.v (.int .i64 y.dir.1), .v (.int .i64 y.dir.2), .v (.int .i64 y.file.1), .v (.int .i64 y.file.2)]),(48, .v (.int .i64 (j:Int))),(60, .v (.bool (D9 s w.file z)))],⟨[Aj s,Cs w,Je y],[]⟩⟩) ?_ ?_
   ·skip
    refine AR (l_ (h:=l_ (h:=?_)));refine A6 rfl (AB (UY s z hs) ?_);rintro r rfl;refine m_ (h:=?_);refine AT true rfl rfl (fun hb8=>?_) (fun hb8=>?_)
    ·have hc8:=bp hb8;refine l_ (h:=f_ (h:=l_ (h:=l_ (h:=?_))));refine B2 (AB (Yy s hs w.file z) ?_);rintro r rfl;refine AA (h:=AP (?_));refine AJ ?_;refine⟨_,rfl,Ar 3 0 rfl rfl rfl rfl (by repeat (first|exact Sub.nil|refine As rfl rfl ?_|(apply Sub.of;(focus exact rfl);(focus exact LeA.of_eq (vb (by first|rfl|exact(Uu ‹_›).symm)));(focus exact rfl))))⟩
    have hc8:=bp hb8;refine A3 (h:=A3 (h:=A3 (h:=A3 (h:=A3 (h:=AE (h:=AP (?_)))))));refine AJ ?_;refine⟨_,rfl,Ar 3 0 rfl rfl rfl rfl (by repeat (first|exact Sub.nil|refine As rfl rfl ?_|(apply Sub.of;(focus exact rfl);(focus exact LeA.of_eq (vb (by first|rfl|exact(Uu ‹_›).symm)));(focus exact rfl))))⟩
   rintro S rfl;refine A9 rfl (fun hb9=>?_) (fun hb9=>?_)
   ·have hc9:=bp hb9;refine w_ (a_ (h:=e_ (A4 (AN (A8 (A8 (AN (AN (A8 (?_))))))))));refine A7 ?_
    first|(exfalso;first|contradiction|omega)|(exact vb (by first|(rw[Ey hc1,hc3];simp[*];done)|(rw[Ey hc1,hc3];rfl)|(have hj3:j=0∨j=1:=(by omega);rcases hj3 with rfl|rfl<;>simp_all [Bw];done)|(simp[Bw,hj1 (by omega),hj2 (by omega), *];done)|(simp[Bw, *];done)))
   have hc9:=bp hb9;refine Aq (Ai (t_ (AR (B8 (h:=m_ (h:=AP (?_)))))));refine AJ ?_;have hj3:j=0∨j=1:=by omega
   refine⟨_,_,?_,⟨j+1,by omega,rfl,?_,?_,rfl⟩,Ar 3 0 rfl rfl rfl rfl ((by repeat (first|exact Sub.nil|refine As rfl rfl ?_|refine Ay ?_|refine Az rfl ?_|refine B0 rfl ?_)))⟩
   ·omega
   ·intro _;rcases hj3 with rfl|rfl
    ·rw[if_pos rfl]at hz;rw[←hz];assumption
    exact hj1 (by omega)
   intro q;rcases hj3 with rfl|rfl
   ·omega
   rw[if_neg (by omega)]at hz;rw[←hz];assumption
  have hc7:=bp hb7;refine BF (Ah (Ah (BG (Ai (t_ (w_ (a_ (h:=e_ (A4 (?_))))))))));refine A7 ?_
  first|(exfalso;first|contradiction|omega)|(exact vb (by first|(rw[Ey hc1,hc3];simp[*];done)|(rw[Ey hc1,hc3];rfl)|(have hj3:j=0∨j=1:=(by omega);rcases hj3 with rfl|rfl<;>simp_all [Bw];done)|(simp[Bw,hj1 (by omega),hj2 (by omega), *];done)|(simp[Bw, *];done)))
 have hc6:=bp hb6;refine Aq (Ai (t_ (w_ (a_ (h:=e_ (A4 (?_)))))));refine A7 ?_
 first|(exfalso;first|contradiction|omega)|(exact vb (by first|(rw[Ey hc1,hc3];simp[*];done)|(rw[Ey hc1,hc3];rfl)|(have hj3:j=0∨j=1:=(by omega);rcases hj3 with rfl|rfl<;>simp_all [Bw];done)|(simp[Bw,hj1 (by omega),hj2 (by omega), *];done)|(simp[Bw, *];done)))
theorem eZ(s:Spc)(w:Wch)(y:Itm)(hs:SpcB s)(hw:w.kind=2→SpcV s):AFn prog 74 [.agg (Aj s), .agg (Cs w), .agg (Je y)] (fun r=>r= .v (.bool (Bw s w y.dir y.name y.file))):=by
 refine enter Tryz.func74 rfl rfl rfl rfl rfl 0 rfl ?_;refine w_ (b_ (h:=b_ (h:=b_ (h:=a_ (h:=e_ (q_ (w_ (f_ (h:=l_ (h:=e_ (Ab (w_ (AK (h:=a_ (h:=e_ (?_))))))))))))))));refine A9 rfl (fun hb1=>?_) (fun hb1=>?_)
 ·have hc1:=bp hb1;refine w_ (f_ (h:=l_ (h:=AX (h:=?_))));refine A6 rfl (E4 rfl rfl (by repeat constructor) (by repeat constructor) (fun W=>UW w.file (0,0) W) (by kernel_rfl) ?_);refine m_ (h:=?_);refine AT true rfl rfl (fun hb2=>?_) (fun hb2=>?_)
  ·have hc2:=bp hb2;refine f_ (h:=l_ (h:=f_ (h:=l_ (h:=?_))));refine B2 (E4 rfl rfl (by repeat constructor) (by repeat constructor) (fun W=>Lm y.file w.file W) (by kernel_rfl) ?_);refine AA (h:=m_ (h:=?_));refine AT false rfl rfl (fun hb3=>?_) (fun hb3=>?_)
   ·have hc3:=bp hb3;refine A3 (h:=A3 (h:=A3 (h:=A3 (h:=AW (h:=AW (h:=AW (h:=AW (h:=AW (h:=A3 (h:=A3 (h:=AW (h:=AW (h:=AW (h:=AW (h:=AW (h:=A3 (h:=AA (h:=a_ (h:=e_ (A4 (AN (A8 (?_)))))))))))))))))))))));refine A7 ?_
    first|(exfalso;first|contradiction|omega)|(exact vb (by first|(simp[Bw,D9, *];done)|(simp[Bw,D9, *,eq_comm];done)))
   have hc3:=bp hb3;refine f_ (h:=l_ (h:=Ao (h:=m_ (h:=?_))));refine AT true rfl rfl (fun hb4=>?_) (fun hb4=>?_)
   ·have hc4:=bp hb4;refine f_ (h:=l_ (h:=f_ (h:=l_ (h:=?_))));refine B2 (E4 rfl rfl (by repeat constructor) (by repeat constructor) (fun W=>Lm y.dir w.dir W) (by kernel_rfl) ?_);refine AA (h:=m_ (h:=?_));refine AT true rfl rfl (fun hb5=>?_) (fun hb5=>?_)
    ·have hc5:=bp hb5;refine f_ (h:=l_ (h:=f_ (h:=l_ (h:=AK (h:=AA (h:=AE (h:=a_ (h:=e_ (A4 (AN (A8 (?_))))))))))));refine A7 ?_
     first|(exfalso;first|contradiction|omega)|(exact vb (by first|(simp[Bw,D9, *];done)|(simp[Bw,D9, *,eq_comm];done)))
    have hc5:=bp hb5;refine A3 (h:=A3 (h:=A3 (h:=A3 (h:=A3 (h:=AE (h:=AE (h:=a_ (h:=e_ (A4 (AN (A8 (?_))))))))))));refine A7 ?_
    first|(exfalso;first|contradiction|omega)|(exact vb (by first|(simp[Bw,D9, *];done)|(simp[Bw,D9, *,eq_comm];done)))
   have hc4:=bp hb4;refine A3 (h:=A3 (h:=A3 (h:=A3 (h:=A3 (h:=AE (h:=m_ (h:=A3 (h:=A3 (h:=A3 (h:=A3 (h:=A3 (h:=AE (h:=AE (h:=a_ (h:=e_ (A4 (AN (A8 (?_)))))))))))))))))));refine A7 ?_
   first|(exfalso;first|contradiction|omega)|(exact vb (by first|(simp[Bw,D9, *];done)|(simp[Bw,D9, *,eq_comm];done)))
  have hc2:=bp hb2;refine A3 (h:=A3 (h:=A3 (h:=A3 (h:=A3 (h:=AE (h:=m_ (h:=f_ (h:=l_ (h:=Ao (h:=m_ (h:=?_)))))))))));refine AT true rfl rfl (fun hb6=>?_) (fun hb6=>?_)
  ·have hc6:=bp hb6;refine f_ (h:=l_ (h:=f_ (h:=l_ (h:=?_))));refine B2 (E4 rfl rfl (by repeat constructor) (by repeat constructor) (fun W=>Lm y.dir w.dir W) (by kernel_rfl) ?_);refine AA (h:=m_ (h:=?_));refine AT true rfl rfl (fun hb7=>?_) (fun hb7=>?_)
   ·have hc7:=bp hb7;refine f_ (h:=l_ (h:=f_ (h:=l_ (h:=AK (h:=AA (h:=AE (h:=a_ (h:=e_ (A4 (AN (A8 (?_))))))))))));refine A7 ?_
    first|(exfalso;first|contradiction|omega)|(exact vb (by first|(simp[Bw,D9, *];done)|(simp[Bw,D9, *,eq_comm];done)))
   have hc7:=bp hb7;refine A3 (h:=A3 (h:=A3 (h:=A3 (h:=A3 (h:=AE (h:=AE (h:=a_ (h:=e_ (A4 (AN (A8 (?_))))))))))));refine A7 ?_
   first|(exfalso;first|contradiction|omega)|(exact vb (by first|(simp[Bw,D9, *];done)|(simp[Bw,D9, *,eq_comm];done)))
  have hc6:=bp hb6;refine A3 (h:=A3 (h:=A3 (h:=A3 (h:=A3 (h:=AE (h:=m_ (h:=A3 (h:=A3 (h:=A3 (h:=A3 (h:=A3 (h:=AE (h:=AE (h:=a_ (h:=e_ (A4 (AN (A8 (?_)))))))))))))))))));refine A7 ?_
  first|(exfalso;first|contradiction|omega)|(exact vb (by first|(simp[Bw,D9, *];done)|(simp[Bw,D9, *,eq_comm];done)))
 have hc1:=bp hb1;refine w_ (AK (h:=a_ (h:=e_ (?_))));refine A9 rfl (fun hb8=>?_) (fun hb8=>?_)
 ·have hc8:=bp hb8;have hv:=hw hc8;have hmo:BQ s.files≤5000:=by have:=Pw hv.files;omega
  refine w_ (l_ (h:=f_ (h:=l_ (h:=f_ (h:=l_ (h:=?_))))));refine A6 rfl (AB (Te hs hv hmo w.file y.dir) ?_);rintro r rfl;refine m_ (h:=?_);refine AT false rfl rfl (fun hb9=>?_) (fun hb9=>?_)
  ·have hc9:=bp hb9;refine A3 (h:=A3 (h:=A3 (h:=A3 (h:=A3 (h:=A3 (h:=AA (h:=a_ (h:=e_ (A4 (AN (A8 (?_))))))))))));refine A7 ?_
   first|(exfalso;first|contradiction|omega)|(exact vb (by first|(simp[Bw,D9, *];done)|(simp[Bw,D9, *,eq_comm];done)))
  have hc9:=bp hb9;refine l_ (h:=f_ (h:=l_ (h:=f_ (h:=l_ (h:=?_)))));refine B2 (AB (Te hs hv hmo w.file y.file) ?_);rintro r rfl;refine AE (h:=a_ (h:=e_ (A4 (AN (A8 (?_))))));refine A7 ?_
  first|(exfalso;first|contradiction|omega)|(exact vb (by first|(simp[Bw,D9, *];done)|(simp[Bw,D9, *,eq_comm];done)))
 have hc8:=bp hb8;refine Aq (Ai (t_ (w_ (a_ (h:=e_ (A4 (?_)))))));refine A7 ?_
 first|(exfalso;first|contradiction|omega)|(exact vb (by first|(simp[Bw,D9, *];done)|(simp[Bw,D9, *,eq_comm];done)))
end
def qF(s:Spc)(r:Rul)(w:Wch)(x:Itm):Bool:=decide (Gf .i64 x.perm r.perm≠0)&&Bw s w x.dir x.name x.file
def J6(s:Spc)(r:Rul)(w:Wch)(items:List Itm):Bool:=decide (r.watch≠0)&&items.any (qF s r w)
def Ek(s:Spc)(p:Pol)(items:List Itm):List Bool:=List.zipWith (fun r w=>J6 s r w items) p.rules p.wats
theorem Uv{s:Spc}{p:Pol}{items:List Itm}{j:Nat}{r:Rul}{w:Wch}(hr:p.rules[j]?=some r)(hw:p.wats[j]?=some w):(Ek s p items)[j]?=some (J6 s r w items):=by
 simp[Ek,List.getElem?_zipWith,hr,hw]
theorem Uw{s:Spc}{p:Pol}{items:List Itm}(h:p.wats.length=p.rules.length):(Ek s p items).length=p.rules.length:=by simp[Ek,h]
theorem Ux{α:Type}(q:α→Bool):∀(l:List α) (i:Nat),decide (0≤CX (fun _ x=>q x) l i)=l.any q
 |[],_=>rfl
 |x::xs,i=>by
   rw[CX,List.any_cons];split
   ·rename_i h;rw[h];simp
   rename_i h;rw[Ux q xs (i+1)];simp[h]
def Nq(b:Bool):AV:= .v (.bool b)
def HB(L:List Bool)(j:Nat):List AV:=(L.take j++List.replicate (L.length - j) false).map Nq
theorem f6(L:List Bool){j:Nat}(h:j≤L.length):(HB L j).length=L.length:=by simp[HB];omega
theorem f8(L:List Bool):HB L 0=List.replicate L.length (.v (.bool false)):=by simp[HB,Nq]
theorem f9{L:List Bool}{j:Nat}{b:Bool}(h:L[j]?=some b):(HB L j).set j (.v (.bool b))=HB L (j+1):=by
 obtain⟨hj,e⟩:=Al.1 h;unfold HB;rw[show(AV.v (.bool b))=Nq b from rfl,←List.map_set,List.take_succ_eq_append_getElem hj,e,show L.length - j=(L.length - (j+1))+1 by omega,List.replicate_succ]
 congr 1
 rw[List.set_append_right _ _ (by simp;omega)];simp[show min j L.length=j by omega]
theorem Uy{L:List Bool}{j:Nat}(h:L[j]?=some false):HB L j=HB L (j+1):=by
 obtain⟨hj,e⟩:=Al.1 h;unfold HB;rw[List.take_succ_eq_append_getElem hj,e,show L.length - j=(L.length - (j+1))+1 by omega,List.replicate_succ,List.append_assoc];rfl
theorem Uz{G:Gh}{w:World}{u:Value}:∀n:Nat,AY G w (List.replicate n (.v u)) (List.replicate n u)
 |0=>by simp[AY]
 |n+1=>by
   simp only[List.replicate_succ,AY,rep];exact⟨_,_,rfl,rfl,Uz n⟩
section
variable {P:Program}{ev:Operand→Option AV}{h:AH}{R:AV→AH→Prop}{d:Option Tmp}{ty:TypeId}{pos:String}{af:Array Edge}{gd:Option (Nat×Bool)}
theorem fA{T:TypeId}{x y:Operand}{E bytes m k:Nat}{i j:Int}{u:Value}{bx':List (List AV)}[hE:Elm P T E 1 bytes][hzr:Zer P E [.v u]](hx:ev x=some (.v (.int .i64 i)))(hy:ev y=some (.v (.int .i64 j)))(hi:i=(m:Int))(hj:j=(m:Int))(hm0:0<m)(hm:m≤1000000)
    (hset:SnocAt h.bx (List.replicate m (.v u)) k bx') (hR:R (.bs k 0 1 m m) ⟨bx',h.tk⟩):AStep P ⟨d, .makeSlice T x y,ty,pos,af,gd⟩ ev h R:=by
 intro E' G w ec hr he;have k1:=he x (by simp[Op.operands]) _ hx;have k2:=he y (by simp[Op.operands]) _ hy;simp only[rep]at k1 k2;subst hi hj;obtain⟨hu,inf,z,hinf,hz,hzs,hs,hby,hp⟩:=E1 hE.eq;have hw:IntKind.i64.wrap (m:Int)=m:=IntWalk.i64_in _ (by omega)
 have hbig:¬(inf.bytes:Int) * (m:Int)>2 ^ 48:=by
  have h1:inf.bytes * m≤100000 * 1000000:=Nat.mul_le_mul (by rw[hby];exact hE.few) (by omega);have h2:((inf.bytes * m:Nat):Int)≤100000000000:=by omega
  rw[Int.natCast_mul]at h2;omega
 have hneg:¬((m:Int)<0):=by omega
 obtain⟨zs,z1,z2,z3⟩:=hzr.eq;obtain⟨inf',z',k3,k4,k5⟩:=M3 z1;rw[hinf]at k3;injection k3 with k3;subst k3;rw[hz]at k4;injection k4 with k4;subst k4
 obtain⟨v,rfl⟩:∃v,zs=[v]:=by
  match zs,z2 with
  |[v],_=>exact⟨v,rfl⟩
 obtain rfl:v=u:=by simpa using z2
 have hone:v.oneCell'=true:=by simpa using z3
 have hcells:((Array.range (m * 1)).map fun x=>z.cells[x % z.cells.size]!)=(List.replicate m v).toArray:=by
  rw[k5];apply Array.ext
  ·simp
  intro i h1 h2;simp[Nat.mod_one]
 have hrun:(Instr.makeSlice T (.int .i64 m) (.int .i64 m)).run P w= .ok (.slice (some ⟨w.heap.size,0,none⟩) m m) (w.alloc (.cells (List.replicate m v).toArray E)):=by
  rw[←hcells];have h0:¬m=0:=by omega
  have hnb:(inf.bytes:Int) * (m:Int)≤2 ^ 48:=by omega
  simp[Instr.makeSlice,run_underlying hu,asInt,asIntOf,typeInfo,hinf,hw,hneg,sizeOf,hs,h0,newRow,zeroValue,hz];omega
 obtain⟨G',s1,s2,s3⟩:=Jn (T:=E) hr (Uz (u:=v) m) (fun q hq=>by rw[List.eq_of_mem_replicate hq];exact hone) hset;simp only[rep]at s3;obtain⟨b',s4,s5⟩:=s3;simp only[execOp,k1,k2,Sem.run_bind,hrun,Result.andThen_ok,Sem.run_pure];refine⟨_,_,G',hR,s1,s2,?_⟩;simp only[rep];injection s5 with s5;injection s5 with s5;injection s5 with s5;exact⟨b',s4,by rw[s5],B3 _,by unfold maxLen;omega⟩
end
section
theorem fB(s:Spc)(r:Rul)(w:Wch)(x:Itm)(hs:SpcB s):AFn prog 72 [.agg (CN x), .fp (Ak r), .fp (Aj s), .fp (Cs w)] (fun y=>y= .v (.bool (qF s r w x))):=by
 refine enter Tryz.func72 rfl rfl rfl rfl rfl 0 rfl ?_;refine w_ (b_ (h:=a_ (h:=e_ (w_ (f_ (h:=l_ (h:=f_ (h:=l_ (h:=JN (h:=Ao (h:=m_ (h:=?_))))))))))));refine AT true rfl rfl (fun hb1=>?_) (fun hb1=>?_)
 ·have hc1:=bp hb1;refine l_ (h:=l_ (h:=l_ (h:=?_)));refine B2 (AB (eY s w x hs) ?_);rintro r rfl;refine AA (h:=a_ (h:=e_ (A4 (?_))));refine A7 ?_
  first|(exfalso;first|contradiction|omega)|(exact vb (by simp_all [qF]))
 have hc1:=bp hb1;refine A3 (h:=A3 (h:=A3 (h:=A3 (h:=AE (h:=a_ (h:=e_ (A4 (?_))))))));refine A7 ?_
 first|(exfalso;first|contradiction|omega)|(exact vb (by simp_all [qF]))
theorem fC(l:List Itm)(hl:l.length≤1000)(q:Itm→Bool)(f:FuncId)(caps:List AV)[Fun prog f](hcl:Fq caps=true)(hbl:BA 0 0 (.fn f caps)=true)
    (hp:∀x,AFn prog f ([.agg (CN x)]++caps) (fun y=>y= .v (.bool (q x)))):AFn prog 118 [.sl 13 (l.map CN) none, .fn f caps] (fun r=>r= .v (.int .i64 (CX (fun _ x=>q x) l 0))):=by
 refine enter Tryz.func118 rfl rfl rfl rfl rfl 0 rfl ?_;refine w_ (a_ (h:=e_ (q_ (w_ (m_ (h:=n_ (h:=m_ (h:=e_ (Ab (?_))))))))));refine BT (fun m t=>∃j:Nat,j≤l.length∧m=l.length - j∧CX (fun _ x=>q x) (l.drop j) j=CX (fun _ x=>q x) l 0∧t=⟨look [(0, .sl 13 (l.map CN) none),(1, .fn f caps),(7, .v (.int .i64 ((l.map CN).length:Int))),(8, .v (.int .i64 (j:Int)))],⟨[],[]⟩⟩) (l.length) (Ar 0 0 rfl rfl rfl rfl (by repeat (first|exact Sub.nil|refine As rfl rfl ?_|refine Sub.cons _ _ _ rfl hbl ?_|refine Ay ?_|refine Az rfl ?_|refine B0 rfl ?_))) (⟨0,by omega,rfl,rfl,rfl⟩) ?_;rintro m t ⟨j,hj,rfl,ha,rfl⟩;refine w_ (B4 (h:=e_ (q_ (?_))));refine A9 rfl (fun hb1=>?_) (fun hb1=>?_)
 ·have hc1:=bp hb1;obtain⟨hlt,x,hy,hrow, -⟩:=Bt CN hc1;refine AD (q_ (Ab (w_ (m_ (h:=a_ (h:=e_ (w_ (m_ (h:=m_ (h:=m_ (h:=i_ (h:=l_ (h:=?_)))))))))))));refine A6 rfl (OJ (cy:=[]) rfl (by repeat (first|exact Args.nil|refine Args.cons _ _ _ _ _ rfl (GE rfl) ?_|refine Args.cons _ _ _ _ _ rfl (Hc _) ?_|refine Args.cons _ _ _ _ _ rfl (Ge _) ?_|refine Args.cons _ _ _ _ _ rfl (Hf rfl (by repeat (first|exact AZ _|exact LeA.nil _|exact LeL.refl _|refine LeA.agg ?_|refine LeA.tup ?_|exact LeL.nil|refine LeL.cons ?_ ?_|exact LeA.any _))) ?_)) hcl rfl (hp x) ?_);rintro y rfl;refine e_ (?_);refine A9 rfl (fun hb2=>?_) (fun hb2=>?_)
  ·have hc2:=bp hb2;refine w_ (m_ (h:=a_ (h:=e_ (A4 (AN (A8 (A8 (AN (A8 (?_))))))))));refine A7 ?_
   first|(exfalso;first|contradiction|omega)|(exact vi (by rw[←ha,Hp hy,if_pos hc2]))
  have hc2:=bp hb2;refine Aq (Ai (t_ (AR (B8 (h:=m_ (h:=AP (?_)))))));refine AJ ?_;refine⟨_,_,?_,⟨j+1,by omega,rfl,(by rw[←ha,Hp hy];simp[*]),rfl⟩,Ar 0 0 rfl rfl rfl rfl (by repeat (first|exact Sub.nil|refine As rfl rfl ?_|refine Sub.cons _ _ _ rfl hbl ?_|refine Ay ?_|refine Az rfl ?_|refine B0 rfl ?_))⟩;omega
 have hc1:=bp hb1;have e3:=C9 CN hj hc1;subst e3;refine BF (Ah (Ah (BG (t_ (w_ (a_ (h:=e_ (A4 (?_)))))))));refine A7 ?_
 first|(exfalso;first|contradiction|omega)|(exact vi (by rw[←ha,Mo]))
theorem fD(l:List Itm)(hl:l.length≤1000)(q:Itm→Bool)(f:FuncId)(caps:List AV)[Fun prog f](hcl:Fq caps=true)(hbl:BA 0 0 (.fn f caps)=true)
    (hp:∀x,AFn prog f ([.agg (CN x)]++caps) (fun y=>y= .v (.bool (q x)))):AFn prog 71 [.sl 13 (l.map CN) none, .fn f caps] (fun r=>r= .v (.bool (l.any q))):=by
 refine enter Tryz.func71 rfl rfl rfl rfl rfl 0 rfl ?_;refine w_ (a_ (h:=e_ (w_ (m_ (h:=m_ (h:=?_))))));refine A6 rfl (R3 rfl (by repeat (first|exact Args.nil|refine Args.cons _ _ _ _ _ rfl (GE (by first|rfl|exact hcl)) ?_)) (fC l hl q f caps hcl hbl hp) ?_);rintro y rfl;refine Cm (h:=a_ (h:=e_ (A4 (?_))));refine A7 ?_;exact vb (Ux q l 0)
end
theorem V0:RowF 1 D7:=⟨fun _=>rfl,fun b y hy=> .inl ⟨.bool b,by simpa[D7]using hy⟩,by decide⟩
theorem V1:∀L:List Bool,(L.map D7).flatten=L.map Nq
 |[]=>rfl
 |x::xs=>by simp only[List.map_cons,List.flatten_cons,V1 xs];rfl
theorem V2{L:List Bool}{j:Nat}(h:j≤L.length):HB L j=LB 1 D7 (L.take j++List.replicate (L.length - j) false) L.length:=by
 unfold LB CC HB;rw[V1];simp;omega
theorem fE(L:List Bool):HB L L.length=LB 1 D7 L L.length:=by
 rw[V2 (B3 _)];simp
theorem Lp{L:List Bool}{j n m:Nat}(h:j≤L.length):BB n m (HB L j)=true:=by rw[V2 h];exact QB V0
theorem fF{L:List Bool}{j:Nat}{b:Bool}(h:L[j]?=some b):SetAt (HB L j) (0+j * 1) (CJ (.v (.bool b))) (HB L (j+1)):=by
 have hj:j<L.length:=(Al.1 h).1;rw[←f9 h,show 0+j * 1=j by omega];exact SetAt.put1 (by rw[f6 L (by omega)];exact hj)
section
theorem fG(s:Spc)(p:Pol)(items:List Itm)(h0:p.rules=[]):AFn prog 32 [.agg (Bb p), .agg (Aj s), .sl 13 (items.map CN) none] (fun r=>r= .sl 1 ((Ek s p items).map D7) none):=by
 rw[show Ek s p items=[] by simp[Ek,h0],show Bb p=[.sl 8 [] none, .sl 6 (p.wats.map Cs) none] by simp[Bb,h0]];refine enter Tryz.func32 rfl rfl rfl rfl rfl 0 rfl ?_;refine w_ (b_ (h:=b_ (h:=a_ (h:=e_ (w_ (f_ (h:=l_ (h:=n_ (h:=?_)))))))));refine A6 rfl (OL rfl rfl (by decide) (by repeat constructor) ?_);refine a_ (h:=e_ (q_ (w_ (f_ (h:=l_ (h:=n_ (h:=m_ (h:=e_ (Ab (?_))))))))));refine BT (fun n S=>n=0∧S=⟨look [(7, .sl 1 [] (some 0)),(17, .v (.int .i64 0)),(18, .v (.int .i64 0))],⟨[[.sl 8 [] none, .sl 6 (p.wats.map Cs) none],Aj s],[(4,1,[])]⟩⟩) (0) ((wk 2 1)) (⟨rfl,rfl⟩) ?_;rintro n S ⟨rfl,rfl⟩;refine w_ (B4 (h:=e_ (q_ (?_))));refine A9 rfl (fun hb1=>?_) (fun hb1=>?_)
 ·have hc1:=bp hb1;simp at hc1
 have hc1:=bp hb1;refine BF (Ah (Ah (BG (t_ (w_ (m_ (h:=a_ (h:=e_ (A4 (?_))))))))));refine A7 ?_;rfl
theorem fH(s:Spc)(p:Pol)(items:List Itm)(hs:SpcB s)(h0:0<p.rules.length)(h1:p.rules.length≤1000)(h2:p.wats.length=p.rules.length)(hit:items.length≤1000)(L:List Bool)(hL:Ek s p items=L):AFn prog 32 [.agg (Bb p), .agg (Aj s), .sl 13 (items.map CN) none] (fun r=>r= .sl 1 (L.map D7) none):=by
 have hlen:L.length=p.rules.length:=by rw[←hL];exact Uw h2
 refine enter Tryz.func32 rfl rfl rfl rfl rfl 0 rfl ?_;refine w_ (b_ (h:=b_ (h:=a_ (h:=e_ (w_ (f_ (h:=l_ (h:=n_ (h:=?_)))))))));refine A6 rfl (fA (m:=L.length) rfl rfl (by simp[hlen]) (by simp[hlen]) (by omega) (by omega) (by repeat constructor) ?_);refine a_ (h:=e_ (q_ (w_ (f_ (h:=l_ (h:=n_ (h:=m_ (h:=e_ (Ab (?_))))))))));refine BT (fun n S=>∃j:Nat,j≤p.rules.length∧n=p.rules.length - j∧S=⟨look [(2, .sl 13 (items.map CN) none),(3, .bp 0 0),(4, .bp 1 0),(7, .bs 2 0 1 L.length L.length),(16, .sl 8 (p.rules.map Ak) none),(17, .v (.int .i64 ((p.rules.map Ak).length:Int))),(18, .v (.int .i64 (j:Int)))],⟨[Bb p,Aj s,HB L j],[]⟩⟩) (p.rules.length) (by rw[←f8];exact C4 3 0 (by simp[BK,Lp,Bb,Aj,BB,BA])) (⟨0,BR _,rfl,rfl⟩) ?_;rintro n S ⟨j,hj,rfl,rfl⟩;refine w_ (B4 (h:=e_ (q_ (?_))));refine A9 rfl (fun hb1=>?_) (fun hb1=>?_)
 ·have hc1:=bp hb1;obtain⟨hlt,r,hy,hrow, -⟩:=Bt Ak hc1;obtain⟨w,hyw⟩:∃w,p.wats[j]?=some w:=⟨_,BV (by omega)⟩;have hLj:=Uv (s:=s) (items:=items) hy hyw;rw[hL]at hLj;refine AD (q_ (Ab (w_ (m_ (h:=i_ (h:=l_ (h:=Aa (h:=a_ (h:=s_ (h:=e_ (q_ (w_ (f_ (h:=l_ (h:=AK (h:=e_ (?_)))))))))))))))));refine A9 rfl (fun hb2=>?_) (fun hb2=>?_)
  ·have hc2:=bp hb2;have hb0:L[j]?=some false:=by rw[hLj];simp_all [J6]
   refine BF (Ah (BG (t_ (AR (B8 (h:=m_ (h:=AP (?_))))))));refine AJ ?_;refine⟨_,_,?_,⟨j+1,by omega,rfl,rfl⟩,?_⟩
   ·omega
   first|(rw[←Uy hb0];exact C4 3 0 (by simp[BK,Lp (L:=L) (j:=j) (by omega),Bb,Aj,BB,BA]))|exact C4 3 0 (by simp[BK,Lp (L:=L) (j:=j+1) (by omega),Bb,Aj,BB,BA])
  have hc2:=bp hb2;have hb2:L[j]?=some (items.any (qF s r w)):=by rw[hLj];simp_all [J6]
  refine AD (w_ (l_ (h:=m_ (h:=?_))));refine A6 rfl (AB (dY p j w (by omega) hyw) ?_);rintro r rfl;refine Aa (h:=s_ (h:=e_ (AR (m_ (h:=m_ (h:=m_ (h:=Ob (h:=?_))))))));refine A6 rfl (OR rfl (by repeat (first|exact ArgsL.nil|refine ArgsL.cons _ _ _ _ _ rfl rfl ?_)) (fD items hit (qF s r w) 72 [.fp (Ak r), .fp (Aj s), .fp (Cs w)] rfl rfl fun x=>fB s r w x hs) ?_);rintro x rfl;refine⟨rfl,?_⟩;refine A6 rfl (DQ (m:=j) rfl rfl rfl (by omega) ?_);refine Ki (BY (row':=HB L (j+1)) rfl rfl rfl rfl rfl rfl (fF hb2) (by repeat constructor) ?_);refine AP (Ai (t_ (AR (B8 (h:=m_ (h:=AP (?_)))))));refine AJ ?_;refine⟨_,_,?_,⟨j+1,by omega,rfl,rfl⟩,?_⟩
  ·omega
  first|(rw[←Uy hb0];exact C4 3 0 (by simp[BK,Lp (L:=L) (j:=j) (by omega),Bb,Aj,BB,BA]))|exact C4 3 0 (by simp[BK,Lp (L:=L) (j:=j+1) (by omega),Bb,Aj,BB,BA])
 have hc1:=bp hb1;have e:=C9 Ak hj hc1;subst e;refine BF (Ah (Ah (BG (t_ (?_)))));refine Bx (fun S=>S=⟨look [(6, .sl 1 (L.map D7) none)],⟨[Bb p,Aj s],[]⟩⟩) ?_ ?_
 ·skip
  refine AR (m_ (h:=a_ (h:=AP (?_))));refine AJ ?_;rw[←hlen,fE];exact⟨_,rfl,F7 2 1 rfl rfl (.cons _ _ _ _ rfl (LeA.of_eq (Zf V0 rfl rfl (B3 _))) .nil)⟩
 rintro S rfl;refine A4 (?_);refine A7 ?_;rfl
theorem fJ(s:Spc)(p:Pol)(items:List Itm)(hv:SpcV s)(hs:SpcB s)(h1:p.rules.length≤1000)(h2:p.wats.length=p.rules.length)(hit:items.length≤1000)(L:List Bool)(hL:Ek s p items=L):AFn prog 33 [.agg (Bb p), .agg (Aj s), .sl 13 (items.map CN) none] (fun r=>r= .sl 1 (L.map D7) none):=by
 have hlen:L.length=p.rules.length:=by rw[←hL];exact Uw h2
 refine enter Tryz.func33 rfl rfl rfl rfl rfl 0 rfl ?_;refine w_ (b_ (h:=b_ (h:=a_ (h:=e_ (w_ (a_ (h:=e_ (q_ (w_ (a_ (h:=e_ (Ab (?_)))))))))))));refine Jr 7 4 1 rfl (by repeat constructor) ?_;refine BT (fun n S=>∃j:Nat,j≤p.rules.length∧n=p.rules.length - j∧S=⟨look [(2, .sl 13 (items.map CN) none),(3, .bp 0 0),(4, .bp 1 0),(7, .sl 1 ((L.take j).map D7) (some 0)),(8, .v (.int .i64 (j:Int)))],⟨[Bb p,Aj s],[(4,1,(L.take j).map D7)]⟩⟩) (p.rules.length) ((wk 2 1)) (⟨0,BR _,rfl,rfl⟩) ?_;rintro n S ⟨j,hj,rfl,rfl⟩;refine q_ (w_ (m_ (h:=f_ (h:=l_ (h:=n_ (h:=B4 (h:=e_ (?_))))))));refine A9 rfl (fun hb1=>?_) (fun hb1=>?_)
 ·have hc1:=bp hb1;obtain⟨hlt,r,hy,hrow, -⟩:=Bt Ak hc1;obtain⟨w,hyw⟩:∃w,p.wats[j]?=some w:=⟨_,BV (by omega)⟩;have hroww:(p.wats.map Cs)[j]?=some (Cs w):=by rw[List.getElem?_map,hyw];rfl
  have hLj:=Uv (s:=s) (items:=items) hy hyw;rw[hL]at hLj;refine AD (q_ (Ab (w_ (a_ (h:=e_ (q_ (w_ (a_ (h:=e_ (Ab (?_)))))))))));refine BT (fun n S=>∃k:Nat,k≤items.length∧n=items.length - k∧(r.watch=0→k=0)∧S=⟨look [(2, .sl 13 (items.map CN) none),(3, .bp 0 0),(4, .bp 1 0),(7, .sl 1 ((L.take j).map D7) (some 0)),(8, .v (.int .i64 (j:Int))),(9, .v (.bool ((items.take k).any (qF s r w)))),(10, .v (.int .i64 (k:Int)))],⟨[Bb p,Aj s],[(4,1,(L.take j).map D7)]⟩⟩) (items.length) ((wk 2 1)) (⟨0,BR _,rfl,fun _=>rfl,rfl⟩) ?_;rintro n S ⟨k,hk,rfl,hk0,rfl⟩;refine q_ (?_);refine Bx (fun S=>S=⟨look [(2, .sl 13 (items.map CN) none),(3, .bp 0 0),(4, .bp 1 0),(7, .sl 1 ((L.take j).map D7) (some 0)),(8, .v (.int .i64 (j:Int))),(9, .v (.bool ((items.take k).any (qF s r w)))),(10, .v (.int .i64 (k:Int))),(30, .v (.bool (decide ((k:Int)<(items.length:Int))&& !decide (r.watch=0))))],⟨[Bb p,Aj s],[(4,1,(L.take j).map D7)]⟩⟩) ?_ ?_
  ·skip
   refine AR (m_ (h:=m_ (h:=n_ (h:=B4 (h:=m_ (h:=?_))))));refine AT true rfl rfl (fun hb2=>?_) (fun hb2=>?_)
   ·have hc2:=bp hb2;refine f_ (h:=l_ (h:=m_ (h:=i_ (h:=f_ (h:=l_ (h:=Ao (h:=AA (h:=AP (?_)))))))));refine AJ ?_;exact⟨_,rfl,Ar 2 1 rfl rfl rfl rfl (by repeat (first|exact Sub.nil|refine As rfl rfl ?_|refine Ay ?_|refine Az rfl ?_|refine B0 rfl ?_|(apply Sub.of;(focus exact rfl);(focus exact LeA.of_eq (vb (by first|(simp_all;done)|(simp_all;omega))));(focus exact rfl))))⟩
   have hc2:=bp hb2;refine A3 (h:=A3 (h:=A3 (h:=A3 (h:=A3 (h:=A3 (h:=A3 (h:=AE (h:=AP (?_)))))))));refine AJ ?_;exact⟨_,rfl,Ar 2 1 rfl rfl rfl rfl (by repeat (first|exact Sub.nil|refine As rfl rfl ?_|refine Ay ?_|refine Az rfl ?_|refine B0 rfl ?_|(apply Sub.of;(focus exact rfl);(focus exact LeA.of_eq (vb (by first|(simp_all;done)|(simp_all;omega))));(focus exact rfl))))⟩
  rintro S rfl;refine A9 rfl (fun hb3=>?_) (fun hb3=>?_)
  ·have hc3:=bp hb3;have hk2:k<items.length∧¬r.watch=0:=by simpa using hc3
   obtain⟨x,hx⟩:∃x,items[k]?=some x:=⟨_,BV hk2.1⟩;have hrowx:(items.map CN)[k]?=some (CN x):=by rw[List.getElem?_map,hx];rfl
   refine AD (q_ (Ab (Cj 30 (h:=Ac 0 (h:=Ac 1 (h:=?_))))));refine EJ (j:=1) rfl (fun hb4=>?_) (fun hb4=>?_)
   ·have hc4:=bp hb4;refine B5 2 (h:=B5 3 (h:=B5 4 (h:=B5 5 (h:=B5 6 (h:=B5 7 (h:=B5 8 (h:=B5 9 (h:=B5 10 (h:=B5 11 (h:=B5 12 (h:=B5 13 (h:=B5 14 (h:=B5 15 (h:=B5 16 (h:=B5 17 (h:=B5 18 (h:=B5 19 (h:=B5 20 (h:=B5 21 (h:=B5 22 (h:=B5 23 (h:=B5 24 (h:=B5 25 (h:=?_))))))))))))))))))))))));refine B5 26 (h:=B5 27 (h:=E5 28 (h:=BL 29 (h:=z_ (h:=Ai (t_ (AR (m_ (h:=B8 (h:=a_ (h:=AP (?_))))))))))));refine AJ ?_;refine⟨_,_,?_,⟨k+1,by omega,rfl,fun c=>absurd c hk2.2,rfl⟩,?_⟩
    ·omega
    rw[QM hx];exact Ar 2 1 rfl rfl rfl rfl (by repeat (first|exact Sub.nil|refine As rfl rfl ?_|refine Ay ?_|refine Az rfl ?_|refine B0 rfl ?_|(apply Sub.of;(focus exact rfl);(focus exact LeA.of_eq (vb (by simp_all [qF])));(focus exact rfl))))
   have hc4:=bp hb4;refine Ac 2 (h:=Ac 3 (h:=Cl 4 (h:=Aw 5 (h:=AO 6 (h:=Aw 7 (h:=AO 8 (h:=Ac 9 (h:=Cl 10 (h:=Aw 11 (h:=AO 12 (h:=WC 13 (h:=Ks 14 (h:=Ac 15 (h:=?_))))))))))))));refine EJ (j:=15) rfl (fun hb5=>?_) (fun hb5=>?_)
   ·have hc5:=bp hb5;refine AO 16 (h:=Aw 17 (h:=AO 18 (h:=Ac 19 (h:=Cl 20 (h:=AO 21 (h:=Ac 22 (h:=Ac 23 (h:=Cl 24 (h:=AO 25 (h:=?_))))))))));refine c_ 26 rfl (AB (eZ s w x hs fun _=>hv) ?_);rintro r rfl;refine o_ (h:=E5 27 (h:=Fs 28 (h:=BL 29 (h:=z_ (h:=Ai (t_ (AR (m_ (h:=B8 (h:=a_ (h:=AP (?_))))))))))));refine AJ ?_;refine⟨_,_,?_,⟨k+1,by omega,rfl,fun c=>absurd c hk2.2,rfl⟩,?_⟩
    ·omega
    rw[QM hx];exact Ar 2 1 rfl rfl rfl rfl (by repeat (first|exact Sub.nil|refine As rfl rfl ?_|refine Ay ?_|refine Az rfl ?_|refine B0 rfl ?_|(apply Sub.of;(focus exact rfl);(focus exact LeA.of_eq (vb (by simp_all [qF])));(focus exact rfl))))
   have hc5:=bp hb5;refine B5 16 (h:=B5 17 (h:=B5 18 (h:=B5 19 (h:=B5 20 (h:=B5 21 (h:=B5 22 (h:=B5 23 (h:=B5 24 (h:=B5 25 (h:=B5 26 (h:=Fs 27 (h:=Fs 28 (h:=BL 29 (h:=z_ (h:=Ai (t_ (AR (m_ (h:=B8 (h:=a_ (h:=AP (?_))))))))))))))))))))));refine AJ ?_;refine⟨_,_,?_,⟨k+1,by omega,rfl,fun c=>absurd c hk2.2,rfl⟩,?_⟩
   ·omega
   rw[QM hx];exact Ar 2 1 rfl rfl rfl rfl (by repeat (first|exact Sub.nil|refine As rfl rfl ?_|refine Ay ?_|refine Az rfl ?_|refine B0 rfl ?_|(apply Sub.of;(focus exact rfl);(focus exact LeA.of_eq (vb (by simp_all [qF])));(focus exact rfl))))
  have hc3:=bp hb3
  have hex:(items.take k).any (qF s r w)=J6 s r w items:=by
   by_cases c:r.watch=0
   ·rw[hk0 c];simp[J6,c]
   have:items.length≤k:=by
    have h9:=hc3;simp[c]at h9;omega
   rw[List.take_of_length_le this];simp[J6,c]
  rw[hex];refine BF (Ah (Ah (BG (t_ (AR (m_ (h:=m_ (h:=BX (h:=Dm (h:=a_ (h:=AP (Ai (t_ (AR (m_ (h:=B8 (h:=a_ (h:=AP (?_)))))))))))))))))));refine AJ ?_;refine⟨_,_,?_,⟨j+1,by omega,rfl,rfl⟩,?_⟩
  ·omega
  rw[List.take_add_one,hLj,List.map_append];exact(wk 2 1)
 have hc1:=bp hb1;have e:=C9 Ak hj hc1;subst e;rw[←hlen,List.take_length];refine BF (Ah (Ah (BG (t_ (w_ (m_ (h:=a_ (h:=e_ (A4 (?_))))))))));refine A7 ?_;rfl
end
def Lq(c:Ctx):Ctx:={c with phase:=2}
def Jg(s:Spc)(p:Pol)(c:Ctx):Int:=CX (DH 3 (Ek s p c.items) (Lq c)) p.rules 0
def FQ(s:Spc)(p:Pol)(c:Ctx):Vdt:=if c.audited=false then J5 else if 0≤Jf p c then Ej p.rules (Jf p c)else Ej p.rules (Jg s p c)
section
theorem fK(s:Spc)(p:Pol)(items:List Itm)(hs:SpcB s)(h1:p.rules.length≤1000)(h2:p.wats.length=p.rules.length)(hit:items.length≤1000):AFn prog 32 [.agg (Bb p), .agg (Aj s), .sl 13 (items.map CN) none] (fun r=>r= .sl 1 ((Ek s p items).map D7) none):=by
 rcases Nat.eq_zero_or_pos p.rules.length with h0|h0
 ·exact fG s p items (Ct h0)
 exact fH s p items hs h0 h1 h2 hit _ rfl
variable (s:Spc)(p:Pol)(c:Ctx)(k:Cxs)(hs:SpcB s)(h1:p.rules.length≤1000)(h2:p.wats.length=p.rules.length)(ht:∀r∈p.rules,r.tests.length≤1000)(hit:c.items.length≤1000)
include hs h1 h2 ht hit
theorem V3:AFn prog 24 [.agg (Bb p), .agg (Aj s), .agg (Bf c k)] (fun r=>r= .agg (EB (Ej p.rules (Jg s p c)))):=by
 refine enter Tryz.func24 rfl rfl rfl rfl rfl 0 rfl ?_;refine w_ (b_ (h:=b_ (h:=b_ (h:=Aa (h:=e_ (w_ (f_ (h:=s_ (h:=e_ (q_ (C3 ([(0,Bb p),(1,Aj s),(2,Bf (Lq c) k)]) 12 (h:=AO 0 (h:=Aw 1 (h:=AO 2 (h:=AO 3 (h:=AO 4 (h:=Aw 5 (h:=AO 6 (h:=AO 8 (h:=?_))))))))))))))))))));refine c_ 7 rfl (AB (fK s p c.items hs h1 h2 hit) ?_);rintro r rfl;refine o_ (h:=?_);refine c_ 9 rfl (AB (Kx p.rules 3 (Ek s p c.items) (Lq c) k h1 hit ht) ?_);rintro r rfl;refine o_ (h:=?_);refine c_ 10 rfl (AB (Lo p (Jg s p c) (GZ _ _) h1) ?_);rintro r rfl;refine o_ (h:=?_);refine Bd 11 rfl (BY rfl rfl rfl rfl rfl rfl (by repeat constructor) (by repeat constructor) ?_);refine o_ (h:=z_ (h:=t_ (A4 (?_))));refine A7 ?_;rfl
theorem QS:AFn prog 26 [.agg (Bb p), .agg (Aj s), .agg (Bf c k)] (fun r=>r= .agg (EB (FQ s p c))):=by
 refine enter Tryz.func26 rfl rfl rfl rfl rfl 0 rfl ?_;refine w_ (b_ (h:=b_ (h:=b_ (h:=Aa (h:=e_ (q_ (w_ (f_ (h:=f_ (h:=l_ (h:=B7 (h:=e_ (?_)))))))))))));refine A9 rfl (fun hb1=>?_) (fun hb1=>?_)
 ·have hc1:=bp hb1;have k1:c.audited=false:=by simpa using hc1
  refine w_ (l_ (h:=?_));refine A6 rfl (AB (Lo p (-1) (.inl (by decide)) h1) ?_);rintro r rfl;refine s_ (h:=e_ (A4 (A8 (?_))));refine A7 ?_;rw[FQ,if_pos k1,←Np (l:=p.rules) (i:= -1) (by decide)];rfl
 have hc1:=bp hb1;have k1:¬c.audited=false:=by simpa using hc1
 refine AD (q_ (w_ (l_ (h:=l_ (h:=?_)))));refine A6 rfl (AB (Us p c k h1 ht) ?_);rintro r rfl;refine m_ (h:=x_ (h:=x_ (h:=Aa (h:=s_ (h:=a_ (h:=e_ (w_ (m_ (h:=e_ (?_))))))))));refine A9 rfl (fun hb2=>?_) (fun hb2=>?_)
 ·have hc2:=bp hb2;refine w_ (l_ (h:=s_ (h:=e_ (A4 (A8 (?_))))));refine A7 ?_;rw[FQ,if_neg k1,if_pos (by simpa using hc2)];rfl
 have hc2:=bp hb2;refine AD (w_ (l_ (h:=l_ (h:=l_ (h:=?_)))));refine A6 rfl (AB (V3 s p c k hs h1 h2 ht hit) ?_);rintro r rfl;refine s_ (h:=e_ (A4 (?_)));refine A7 ?_;rw[FQ,if_neg k1,if_neg (by simpa using hc2)];rfl
variable (hv:SpcV s)
include hv
theorem V4:AFn prog 25 [.agg (Bb p), .agg (Aj s), .agg (Bf c k)] (fun r=>r= .agg (EB (Ej p.rules (Jg s p c)))):=by
 refine enter Tryz.func25 rfl rfl rfl rfl rfl 0 rfl ?_;refine w_ (b_ (h:=b_ (h:=b_ (h:=Aa (h:=e_ (w_ (f_ (h:=s_ (h:=e_ (q_ (C3 ([(0,Bb p),(1,Aj s),(2,Bf (Lq c) k)]) 12 (h:=AO 0 (h:=Aw 1 (h:=AO 2 (h:=AO 3 (h:=AO 4 (h:=Aw 5 (h:=AO 6 (h:=AO 8 (h:=?_))))))))))))))))))));refine c_ 7 rfl (AB (fJ s p c.items hv hs h1 h2 hit _ rfl) ?_);rintro r rfl;refine o_ (h:=?_);refine c_ 9 rfl (AB (Ky p.rules 3 (Ek s p c.items) (Lq c) k h1 hit ht) ?_);rintro r rfl;refine o_ (h:=?_);refine c_ 10 rfl (AB (QR p (Jg s p c) (GZ _ _) h1) ?_);rintro r rfl;refine o_ (h:=?_);refine Bd 11 rfl (BY rfl rfl rfl rfl rfl rfl (by repeat constructor) (by repeat constructor) ?_);refine o_ (h:=z_ (h:=t_ (A4 (?_))));refine A7 ?_;rfl
theorem fL:AFn prog 27 [.agg (Bb p), .agg (Aj s), .agg (Bf c k)] (fun r=>r= .agg (EB (FQ s p c))):=by
 refine enter Tryz.func27 rfl rfl rfl rfl rfl 0 rfl ?_;refine w_ (b_ (h:=b_ (h:=b_ (h:=Aa (h:=e_ (q_ (w_ (f_ (h:=f_ (h:=l_ (h:=B7 (h:=e_ (?_)))))))))))));refine A9 rfl (fun hb1=>?_) (fun hb1=>?_)
 ·have hc1:=bp hb1;have k1:c.audited=false:=by simpa using hc1
  refine w_ (?_);refine A6 rfl (AB (QQ) ?_);rintro r rfl;refine s_ (h:=e_ (A4 (A8 (?_))));refine A7 ?_;rw[FQ,if_pos k1];rfl
 have hc1:=bp hb1;have k1:¬c.audited=false:=by simpa using hc1
 refine AD (q_ (w_ (l_ (h:=l_ (h:=?_)))));refine A6 rfl (AB (Ut p c k h1 ht) ?_);rintro r rfl;refine m_ (h:=x_ (h:=x_ (h:=Aa (h:=s_ (h:=a_ (h:=e_ (w_ (m_ (h:=e_ (?_))))))))));refine A9 rfl (fun hb2=>?_) (fun hb2=>?_)
 ·have hc2:=bp hb2;refine w_ (l_ (h:=s_ (h:=e_ (A4 (A8 (?_))))));refine A7 ?_;rw[FQ,if_neg k1,if_pos (by simpa using hc2)];rfl
 have hc2:=bp hb2;refine AD (w_ (l_ (h:=l_ (h:=l_ (h:=?_)))));refine A6 rfl (AB (V4 s p c k hs h1 h2 ht hit hv) ?_);rintro r rfl;refine s_ (h:=e_ (A4 (?_)));refine A7 ?_;rw[FQ,if_neg k1,if_neg (by simpa using hc2)];rfl
end
end Go.Proofs.YtbgnigjfkbmceaaGreatDoor
