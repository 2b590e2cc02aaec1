/-
  Part 15 of the proof of RulesExecutedP: what the statement's proof uses of the texts in wip/tpl.
-/
import Derived.Test.YtbgnigjfkbmceaaGreatDoorQc14
open Go.Proofs.Tryz (prog)
set_option maxRecDepth 10000
set_option maxHeartbeats 4000000
set_option linter.unusedVariables false
set_option linter.unusedSimpArgs false
namespace Go.Proofs.YtbgnigjfkbmceaaGreatDoor
open Go.RowKit
theorem MV(a:Int):0≤IntKind.u64.wrap a∧IntKind.u64.wrap a<18446744073709551616:=by
 simp only[IntKind.wrap,IntKind.signed,IntKind.bits];simp;omega
theorem VQ(a b:Int):0≤NE .u64 a b∧NE .u64 a b<18446744073709551616:=MV _
theorem dN(a b:Int):0≤NF .u64 a b∧NF .u64 a b<18446744073709551616:=MV _
section
theorem VR(l:List Int)(a:Nat)(ha:a≤100000000000):GenF prog 82 l a [] 40 (fun r=>∃m:Int,r= .v (.int .u64 m)∧0≤m∧m<18446744073709551616):=by
 refine enter Tryz.func82 rfl rfl rfl rfl rfl 1 rfl ?_;refine w_ (a_ (h:=e_ (q_ (w_ (m_ (h:=?_))))));refine A7 rfl (BE 0 (hc:=Gn l _ (6) (by omega) (by omega)) (hR:=?_));rintro r a1 ha1 ⟨k1,rfl,p1,q1,o1⟩;refine⟨rfl,_,(by repeat constructor),?_⟩;refine e_ (Ag (w_ (AD (h:=a_ (h:=e_ (?_))))));refine A8 rfl (fun hb1=>?_) (fun hb1=>?_)
 ·have hc1:=bp hb1;refine w_ (a_ (h:=e_ (A4 (AK (A6 (?_))))));refine Ai none (h5:=(AA _)) (h6:=⟨_,rfl,rfl,a1,by omega,rfl,_,rfl,by omega,by omega⟩)
 have hc1:=bp hb1;refine w_ (AD (h:=a_ (h:=e_ (?_))));refine A8 rfl (fun hb2=>?_) (fun hb2=>?_)
 ·have hc2:=bp hb2;refine w_ (m_ (h:=?_));refine A7 rfl (BE 0 (hc:=Gn l _ (32) (by omega) (by omega)) (hR:=?_));rintro r a2 ha2 ⟨k2,rfl,p2,q2,o2⟩;refine⟨rfl,_,(by repeat constructor),?_⟩
  first|refine A7 rfl (Jb rfl Tryz.underlying3 Tryz.underlying113 ?_)|refine A7 rfl (Jb rfl Tryz.underlying3 Tryz.underlying80 ?_)
  refine A7 rfl (Ri rfl rfl (MV _).1 ?_);refine a_ (h:=e_ (A4 (AK (A6 (?_)))));refine Ai none (h5:=(AA _)) (h6:=⟨_,rfl,rfl,a2,by omega,rfl,_,rfl,dN _ _⟩)
 have hc2:=bp hb2;refine Au (Ah (t_ (w_ (a_ (h:=e_ (q_ (w_ (a_ (h:=e_ (Ag (?_)))))))))));refine Be (fun n s=>∃(j a1:Nat) (m:Int),j≤32∧n=32 - j∧a1≤a+1+j∧0≤m∧m<18446744073709551616∧s=⟨look [(0, .bp 0 0),(3, .v (.int .u64 m)),(4, .v (.int .i64 (j:Int)))],⟨[DU l a1],[]⟩⟩) (32) ((wk 1 0)) (⟨0,a1,0,by omega,rfl,by omega,by omega,by omega,rfl⟩) ?_;rintro n s ⟨j,b1,m,hj,rfl,hb1,hm1,hm2,rfl⟩;refine q_ (w_ (m_ (h:=BB (h:=e_ (?_)))));refine A8 rfl (fun hb3=>?_) (fun hb3=>?_)
 ·have hc3:=bp hb3;refine AB (q_ (Ag (AR (m_ (h:=m_ (h:=?_))))));refine A7 rfl (BE 0 (hc:=Gn l _ (2) (by omega) (by omega)) (hR:=?_));rintro r a3 ha3 ⟨k3,rfl,p3,q3,o3⟩;refine⟨rfl,_,(by repeat constructor),?_⟩
  first|refine A7 rfl (Jb rfl Tryz.underlying3 Tryz.underlying113 ?_)|refine A7 rfl (Jb rfl Tryz.underlying3 Tryz.underlying80 ?_)
  refine m_ (h:=?_)
  first|refine A7 rfl (Jb rfl Tryz.underlying3 Tryz.underlying113 ?_)|refine A7 rfl (Jb rfl Tryz.underlying3 Tryz.underlying80 ?_)
  refine A7 rfl (Ri rfl rfl (MV _).1 ?_);refine Ww (h:=a_ (h:=AP (Ah (t_ (AR (m_ (h:=BD (h:=a_ (h:=AP (?_))))))))));refine AE ?_;refine⟨_,_,?_,⟨j+1,_,_,by omega,rfl,?_,(VQ _ _).1,(VQ _ _).2,rfl⟩,(wk 1 0)⟩<;>omega
 have hc3:=bp hb3;refine BT (Ao (Ao (BU (t_ (w_ (m_ (h:=a_ (h:=e_ (A4 (?_))))))))));refine Ai none (h5:=(AA _)) (h6:=⟨_,rfl,rfl,b1,by omega,rfl,m,rfl,hm1,hm2⟩)
theorem dO(l:List Int)(a:Nat)(list:Int)(ha:a≤100000000000):GenF prog 83 l a [.v (.int .i64 list)] 20 (fun r=>∃t:Tst,r= .agg (C3 t)):=by
 refine enter Tryz.func83 rfl rfl rfl rfl rfl 1 rfl ?_;refine w_ (Al (h:=e_ (w_ (m_ (h:=?_)))));refine A7 rfl (BE 0 (hc:=DA l _ (1) (8) (by omega) (by omega) (by omega) (by omega)) (hR:=?_));rintro r a1 ha1 ⟨k1,rfl,p1,q1⟩;refine⟨rfl,_,(by repeat constructor),?_⟩;refine m_ (h:=?_);refine A7 rfl (BE 0 (hc:=DA l _ (1) (8) (by omega) (by omega) (by omega) (by omega)) (hR:=?_));rintro r a2 ha2 ⟨k2,rfl,p2,q2⟩;refine⟨rfl,_,(by repeat constructor),?_⟩;refine m_ (h:=Bd (h:=?_));refine A7 rfl (BE 0 (hc:=El l _ _ (fun _=>true) (by omega) (by rfl) (by rfl) (by rfl)) (hR:=?_));rintro r a3 ha3 ⟨k3,rfl,p3⟩;refine⟨rfl,_,(by repeat constructor),?_⟩;refine Ak (h:=Al (h:=s_ (h:=e_ (w_ (m_ (h:=?_))))));refine A7 rfl (BE 0 (hc:=Gn l _ (8) (by omega) (by omega)) (hR:=?_));rintro r a4 ha4 ⟨k4,rfl,p4,q4,o4⟩;refine⟨rfl,_,(by repeat constructor),?_⟩;refine a_ (h:=e_ (?_));refine BR (fun s=>∃(b:Nat) (f o n ot:Int) (t:ByteArray),b≤a+8∧s=⟨look [(0, .bp 0 0),(4, .bp 1 0),(5, .bp 2 0)],⟨[DU l b,[.v (.int .i64 0), .v (.int .i64 0), .v (.int .i64 0), .v (.string ⟨#[]⟩), .v (.int .i64 0)],[.v (.int .i64 f), .v (.int .i64 o), .v (.int .i64 n), .v (.string t), .v (.int .i64 ot)]],[]⟩⟩) ?_ ?_
 ·skip
  refine Ag (w_ (m_ (h:=AD (h:=a_ (h:=e_ (?_))))));refine A8 rfl (fun hb1=>?_) (fun hb1=>?_)
  ·have hc1:=bp hb1;refine AR (m_ (h:=?_));refine A7 rfl (BE 0 (hc:=DA l _ (13) (14) (by omega) (by omega) (by omega) (by omega)) (hR:=?_));rintro r a5 ha5 ⟨k5,rfl,p5,q5⟩;refine⟨rfl,_,(by repeat constructor),?_⟩;refine m_ (h:=?_);refine A7 rfl (BE 0 (hc:=DA l _ (1) (2) (by omega) (by omega) (by omega) (by omega)) (hR:=?_));rintro r a6 ha6 ⟨k6,rfl,p6,q6⟩;refine⟨rfl,_,(by repeat constructor),?_⟩;refine m_ (h:=Bd (h:=?_));refine A7 rfl (BE 0 (hc:=Jl l _ _ (fun _=>true) (by omega) (by rfl) (by rfl) (by rfl)) (hR:=?_));rintro r a7 ha7 ⟨k7,rfl,p7⟩;refine⟨rfl,_,(by repeat constructor),?_⟩;refine Ak (h:=s_ (h:=AP (Ah (?_))));refine AE ?_;refine⟨_,⟨_,_,_,_,_,_,?_,rfl⟩,(wk 3 0)⟩<;>omega
  have hc1:=bp hb1;refine w_ (m_ (h:=AD (h:=a_ (h:=e_ (?_)))));refine A8 rfl (fun hb2=>?_) (fun hb2=>?_)
  ·have hc2:=bp hb2;refine AR (m_ (h:=?_));refine A7 rfl (BE 0 (hc:=DA l _ (3) (7) (by omega) (by omega) (by omega) (by omega)) (hR:=?_));rintro r a8 ha8 ⟨k8,rfl,p8,q8⟩;refine⟨rfl,_,(by repeat constructor),?_⟩;refine m_ (h:=?_);refine A7 rfl (BE 0 (hc:=DA l _ (1) (2) (by omega) (by omega) (by omega) (by omega)) (hR:=?_));rintro r a9 ha9 ⟨k9,rfl,p9,q9⟩;refine⟨rfl,_,(by repeat constructor),?_⟩;refine m_ (h:=?_);refine A7 rfl (BE 0 (hc:=DA l _ (3) (7) (by omega) (by omega) (by omega) (by omega)) (hR:=?_));rintro r a10 ha10 ⟨k10,rfl,p10,q10⟩;refine⟨rfl,_,(by repeat constructor),?_⟩;refine Ak (h:=s_ (h:=AP (Ah (?_))));refine AE ?_;refine⟨_,⟨_,_,_,_,_,_,?_,rfl⟩,(wk 3 0)⟩<;>omega
  have hc2:=bp hb2;refine w_ (m_ (h:=AD (h:=m_ (h:=?_))));refine AW true rfl rfl (fun hb3=>?_) (fun hb3=>?_)
  ·have hc3:=bp hb3;refine m_ (h:=AD (h:=AF (h:=a_ (h:=e_ (?_)))));refine A8 rfl (fun hb4=>?_) (fun hb4=>?_)
   ·have hc4:=bp hb4;refine AR (m_ (h:=?_));refine A7 rfl (BE 0 (hc:=DA l _ (19) (20) (by omega) (by omega) (by omega) (by omega)) (hR:=?_));rintro r a11 ha11 ⟨k11,rfl,p11,q11⟩;refine⟨rfl,_,(by repeat constructor),?_⟩;refine m_ (h:=?_);refine A7 rfl (BE 0 (hc:=DA l _ (1) (2) (by omega) (by omega) (by omega) (by omega)) (hR:=?_));rintro r a12 ha12 ⟨k12,rfl,p12,q12⟩;refine⟨rfl,_,(by repeat constructor),?_⟩;refine m_ (h:=Bd (h:=?_));refine A7 rfl (BE 0 (hc:=El l _ _ (fun _=>true) (by omega) (by rfl) (by rfl) (by rfl)) (hR:=?_));rintro r a13 ha13 ⟨k13,rfl,p13⟩;refine⟨rfl,_,(by repeat constructor),?_⟩;refine Ak (h:=s_ (h:=AP (Ah (?_))));refine AE ?_;refine⟨_,⟨_,_,_,_,_,_,?_,rfl⟩,(wk 3 0)⟩<;>omega
   have hc4:=bp hb4;refine w_ (m_ (h:=BB (h:=m_ (h:=?_))));refine AW true rfl rfl (fun hb5=>?_) (fun hb5=>?_)
   ·have hc5:=bp hb5;refine m_ (h:=AD (h:=AF (h:=a_ (h:=e_ (Bp (h:=w_ (m_ (h:=BB (h:=m_ (h:=m_ (h:=AD (h:=AF (h:=a_ (h:=e_ (?_)))))))))))))));refine A8 rfl (fun hb6=>?_) (fun hb6=>?_)
    ·have hc6:=bp hb6;refine AR (m_ (h:=?_));refine A7 rfl (BE 0 (hc:=DA l _ (9) (12) (by omega) (by omega) (by omega) (by omega)) (hR:=?_));rintro r a14 ha14 ⟨k14,rfl,p14,q14⟩;refine⟨rfl,_,(by repeat constructor),?_⟩;refine f_ (h:=s_ (h:=AP (Ah (?_))));refine AE ?_;refine⟨_,⟨_,_,_,_,_,_,?_,rfl⟩,(wk 3 0)⟩<;>omega
    have hc6:=bp hb6;refine w_ (m_ (h:=BB (h:=m_ (h:=?_))));refine AW true rfl rfl (fun hb7=>?_) (fun hb7=>?_)
    ·have hc7:=bp hb7;refine m_ (h:=AD (h:=AF (h:=a_ (h:=e_ (?_)))));refine A8 rfl (fun hb8=>?_) (fun hb8=>?_)
     ·have hc8:=bp hb8;refine AR (m_ (h:=?_));refine A7 rfl (BE 0 (hc:=DA l _ (1) (6) (by omega) (by omega) (by omega) (by omega)) (hR:=?_));rintro r a15 ha15 ⟨k15,rfl,p15,q15⟩;refine⟨rfl,_,(by repeat constructor),?_⟩;refine m_ (h:=Bd (h:=?_));refine A7 rfl (BE 0 (hc:=El l _ _ (fun _=>true) (by omega) (by rfl) (by rfl) (by rfl)) (hR:=?_));rintro r a16 ha16 ⟨k16,rfl,p16⟩;refine⟨rfl,_,(by repeat constructor),?_⟩;refine Ak (h:=s_ (h:=AP (Ah (?_))));refine AE ?_;refine⟨_,⟨_,_,_,_,_,_,?_,rfl⟩,(wk 3 0)⟩<;>omega
     have hc8:=bp hb8;refine Au (Ah (?_));refine AE ?_;refine⟨_,⟨_,_,_,_,_,_,?_,rfl⟩,(wk 3 0)⟩<;>omega
    have hc7:=bp hb7;refine A3 (h:=A3 (h:=AM (h:=a_ (h:=e_ (Bp (h:=Au (Ah (?_))))))));refine AE ?_;refine⟨_,⟨_,_,_,_,_,_,?_,rfl⟩,(wk 3 0)⟩<;>omega
   have hc5:=bp hb5;refine A3 (h:=A3 (h:=AM (h:=a_ (h:=e_ (Bp (h:=w_ (m_ (h:=BB (h:=m_ (h:=A3 (h:=A3 (h:=AM (h:=a_ (h:=e_ (Bp (h:=w_ (m_ (h:=BB (h:=m_ (h:=?_))))))))))))))))))));refine AW true rfl rfl (fun hb9=>?_) (fun hb9=>?_)
   ·have hc9:=bp hb9;refine m_ (h:=AD (h:=AF (h:=a_ (h:=e_ (?_)))));refine A8 rfl (fun hb10=>?_) (fun hb10=>?_)
    ·have hc10:=bp hb10;refine AR (m_ (h:=?_));refine A7 rfl (BE 0 (hc:=DA l _ (1) (6) (by omega) (by omega) (by omega) (by omega)) (hR:=?_));rintro r a17 ha17 ⟨k17,rfl,p17,q17⟩;refine⟨rfl,_,(by repeat constructor),?_⟩;refine m_ (h:=Bd (h:=?_));refine A7 rfl (BE 0 (hc:=El l _ _ (fun _=>true) (by omega) (by rfl) (by rfl) (by rfl)) (hR:=?_));rintro r a18 ha18 ⟨k18,rfl,p18⟩;refine⟨rfl,_,(by repeat constructor),?_⟩;refine Ak (h:=s_ (h:=AP (Ah (?_))));refine AE ?_;refine⟨_,⟨_,_,_,_,_,_,?_,rfl⟩,(wk 3 0)⟩<;>omega
    have hc10:=bp hb10;refine Au (Ah (?_));refine AE ?_;refine⟨_,⟨_,_,_,_,_,_,?_,rfl⟩,(wk 3 0)⟩<;>omega
   have hc9:=bp hb9;refine A3 (h:=A3 (h:=AM (h:=a_ (h:=e_ (Bp (h:=Au (Ah (?_))))))));refine AE ?_;refine⟨_,⟨_,_,_,_,_,_,?_,rfl⟩,(wk 3 0)⟩<;>omega
  have hc3:=bp hb3;refine A3 (h:=A3 (h:=AM (h:=a_ (h:=e_ (Bp (h:=w_ (m_ (h:=BB (h:=m_ (h:=?_))))))))));refine AW true rfl rfl (fun hb11=>?_) (fun hb11=>?_)
  ·have hc11:=bp hb11;refine m_ (h:=AD (h:=AF (h:=a_ (h:=e_ (?_)))));refine A8 rfl (fun hb12=>?_) (fun hb12=>?_)
   ·have hc12:=bp hb12;refine AR (m_ (h:=?_));refine A7 rfl (BE 0 (hc:=DA l _ (15) (21) (by omega) (by omega) (by omega) (by omega)) (hR:=?_));rintro r a19 ha19 ⟨k19,rfl,p19,q19⟩;refine⟨rfl,_,(by repeat constructor),?_⟩;refine m_ (h:=Bd (h:=?_));refine A7 rfl (BE 0 (hc:=El l _ _ (fun _=>true) (by omega) (by rfl) (by rfl) (by rfl)) (hR:=?_));rintro r a20 ha20 ⟨k20,rfl,p20⟩;refine⟨rfl,_,(by repeat constructor),?_⟩;refine f_ (h:=s_ (h:=f_ (h:=s_ (h:=AP (Ah (?_))))));refine AE ?_;refine⟨_,⟨_,_,_,_,_,_,?_,rfl⟩,(wk 3 0)⟩<;>omega
   have hc12:=bp hb12;refine w_ (m_ (h:=BB (h:=m_ (h:=m_ (h:=AD (h:=AF (h:=a_ (h:=e_ (?_)))))))));refine A8 rfl (fun hb13=>?_) (fun hb13=>?_)
   ·have hc13:=bp hb13;refine AR (m_ (h:=?_));refine A7 rfl (BE 0 (hc:=DA l _ (9) (12) (by omega) (by omega) (by omega) (by omega)) (hR:=?_));rintro r a21 ha21 ⟨k21,rfl,p21,q21⟩;refine⟨rfl,_,(by repeat constructor),?_⟩;refine f_ (h:=s_ (h:=AP (Ah (?_))));refine AE ?_;refine⟨_,⟨_,_,_,_,_,_,?_,rfl⟩,(wk 3 0)⟩<;>omega
   have hc13:=bp hb13;refine w_ (m_ (h:=BB (h:=m_ (h:=?_))));refine AW true rfl rfl (fun hb14=>?_) (fun hb14=>?_)
   ·have hc14:=bp hb14;refine m_ (h:=AD (h:=AF (h:=a_ (h:=e_ (?_)))));refine A8 rfl (fun hb15=>?_) (fun hb15=>?_)
    ·have hc15:=bp hb15;refine AR (m_ (h:=?_));refine A7 rfl (BE 0 (hc:=DA l _ (1) (6) (by omega) (by omega) (by omega) (by omega)) (hR:=?_));rintro r a22 ha22 ⟨k22,rfl,p22,q22⟩;refine⟨rfl,_,(by repeat constructor),?_⟩;refine m_ (h:=Bd (h:=?_));refine A7 rfl (BE 0 (hc:=El l _ _ (fun _=>true) (by omega) (by rfl) (by rfl) (by rfl)) (hR:=?_));rintro r a23 ha23 ⟨k23,rfl,p23⟩;refine⟨rfl,_,(by repeat constructor),?_⟩;refine Ak (h:=s_ (h:=AP (Ah (?_))));refine AE ?_;refine⟨_,⟨_,_,_,_,_,_,?_,rfl⟩,(wk 3 0)⟩<;>omega
    have hc15:=bp hb15;refine Au (Ah (?_));refine AE ?_;refine⟨_,⟨_,_,_,_,_,_,?_,rfl⟩,(wk 3 0)⟩<;>omega
   have hc14:=bp hb14;refine A3 (h:=A3 (h:=AM (h:=a_ (h:=e_ (Bp (h:=Au (Ah (?_))))))));refine AE ?_;refine⟨_,⟨_,_,_,_,_,_,?_,rfl⟩,(wk 3 0)⟩<;>omega
  have hc11:=bp hb11;refine A3 (h:=A3 (h:=AM (h:=a_ (h:=e_ (Bp (h:=w_ (m_ (h:=BB (h:=m_ (h:=A3 (h:=A3 (h:=AM (h:=a_ (h:=e_ (Bp (h:=w_ (m_ (h:=BB (h:=m_ (h:=?_))))))))))))))))))));refine AW true rfl rfl (fun hb16=>?_) (fun hb16=>?_)
  ·have hc16:=bp hb16;refine m_ (h:=AD (h:=AF (h:=a_ (h:=e_ (?_)))));refine A8 rfl (fun hb17=>?_) (fun hb17=>?_)
   ·have hc17:=bp hb17;refine AR (m_ (h:=?_));refine A7 rfl (BE 0 (hc:=DA l _ (1) (6) (by omega) (by omega) (by omega) (by omega)) (hR:=?_));rintro r a24 ha24 ⟨k24,rfl,p24,q24⟩;refine⟨rfl,_,(by repeat constructor),?_⟩;refine m_ (h:=Bd (h:=?_));refine A7 rfl (BE 0 (hc:=El l _ _ (fun _=>true) (by omega) (by rfl) (by rfl) (by rfl)) (hR:=?_));rintro r a25 ha25 ⟨k25,rfl,p25⟩;refine⟨rfl,_,(by repeat constructor),?_⟩;refine Ak (h:=s_ (h:=AP (Ah (?_))));refine AE ?_;refine⟨_,⟨_,_,_,_,_,_,?_,rfl⟩,(wk 3 0)⟩<;>omega
   have hc17:=bp hb17;refine Au (Ah (?_));refine AE ?_;refine⟨_,⟨_,_,_,_,_,_,?_,rfl⟩,(wk 3 0)⟩<;>omega
  have hc16:=bp hb16;refine A3 (h:=A3 (h:=AM (h:=a_ (h:=e_ (Bp (h:=Au (Ah (?_))))))));refine AE ?_;refine⟨_,⟨_,_,_,_,_,_,?_,rfl⟩,(wk 3 0)⟩<;>omega
 rintro s ⟨b,f,o,n,ot,t,hb,rfl⟩;refine q_ (w_ (m_ (h:=?_)));refine A7 rfl (BE 0 (hc:=Gn l _ (24) (by omega) (by omega)) (hR:=?_));rintro r a26 ha26 ⟨k26,rfl,p26,q26,o26⟩;refine⟨rfl,_,(by repeat constructor),?_⟩;refine AD (h:=e_ (?_));refine A8 rfl (fun hb18=>?_) (fun hb18=>?_)
 ·have hc18:=bp hb18;refine AR (m_ (h:=?_));refine A7 rfl (BE 0 (hc:=DA l _ (0) (24) (by omega) (by omega) (by omega) (by omega)) (hR:=?_));rintro r a27 ha27 ⟨k27,rfl,p27,q27⟩;refine⟨rfl,_,(by repeat constructor),?_⟩;refine m_ (h:=?_);refine A7 rfl (BE 0 (hc:=DA l _ (0) (9) (by omega) (by omega) (by omega) (by omega)) (hR:=?_));rintro r a28 ha28 ⟨k28,rfl,p28,q28⟩;refine⟨rfl,_,(by repeat constructor),?_⟩;refine f_ (h:=s_ (h:=f_ (h:=s_ (h:=e_ (w_ (l_ (h:=s_ (h:=e_ (A4 (?_))))))))));refine Ai none (h5:=(AA _)) (h6:=⟨_,rfl,rfl,_,?_,rfl,⟨_,_,_,_,_⟩,rfl⟩)<;>omega
 have hc18:=bp hb18;refine AB (w_ (l_ (h:=s_ (h:=e_ (A4 (?_))))));refine Ai none (h5:=(AA _)) (h6:=⟨_,rfl,rfl,_,?_,rfl,⟨_,_,_,_,_⟩,rfl⟩)<;>omega
end
theorem VS{α:Type}{p:Nat→α→Bool}:∀{l:List α} {i:Nat},(∀k x,l[k]?=some x→p (i+k) x=false)→E7 p l i= -1
 |[],_,_=>rfl
 |x::xs,i,h=>by
   rw[E7,if_neg (by simpa using h 0 x rfl)]
   exact VS fun k y hy=>by
    have:=h (k+1) y (by simpa using hy)
    rwa [show i+1+k=i+(k+1) by omega]
theorem Qu{l:List Rul}{r:Rul}:GO l r<0↔r∉l:=by
 constructor
 ·intro h hm;obtain⟨k,hk⟩:=List.getElem?_of_mem hm;rcases Int.lt_or_le (GO l r) 0 with h1|h1
  ·clear h
   have:∀(l:List Rul) (i k:Nat),l[k]?=some r→0≤E7 (fun _ x=>decide (x=r)) l i:=by
    intro l
    induction l with
    |nil=>intro i k hk;simp at hk
    |cons x xs ih=>
      intro i k hk;rw[E7];split
      ·omega
      rename_i hne
      cases k with
      |zero=>simp at hk;simp[hk]at hne
      |succ k=>exact ih (i+1) k (by simpa using hk)
   have:=this l 0 k hk;unfold GO at h1;omega
  omega
 intro h
 have:GO l r= -1:=VS fun k x hx=>by
  simp only[decide_eq_false_iff_not];rintro rfl;exact h (Aw hx)
 omega
theorem VT:∀(l pre:List Rul),G2 pre l=0↔(∀x∈l,BQ x=0∧x∉pre)∧l.Nodup
 |[],pre=>by simp[G2]
 |r::rs,pre=>by
   rw[G2];by_cases h1:BQ r=0
   ·rw[if_neg (by simpa using h1)];by_cases h2:0≤GO pre r
    ·rw[if_pos h2];have h3:r∈pre:=Classical.byContradiction fun h=>by have:=Qu.2 h;omega
     exact⟨fun h=>absurd h (by decide),fun h=>absurd h3 (h.1 r (by simp)).2⟩
    rw[if_neg h2,VT rs (pre++[r])];have h3:r∉pre:=Qu.1 (by omega);constructor
    ·rintro⟨k1,k2⟩;refine⟨?_,?_⟩
     ·intro x hx;rcases List.mem_cons.1 hx with rfl|hx
      ·exact⟨h1,h3⟩
      exact⟨(k1 x hx).1,fun hm=>(k1 x hx).2 (by simp[hm])⟩
     exact List.nodup_cons.2 ⟨fun hm=>(k1 r hm).2 (by simp),k2⟩
    rintro⟨k1,k2⟩;obtain⟨k3,k4⟩:=List.nodup_cons.1 k2;refine⟨fun x hx=>⟨(k1 x (by simp[hx])).1,fun hm=>?_⟩,k4⟩;rcases List.mem_append.1 hm with hm|hm
    ·exact(k1 x (by simp[hx])).2 hm
    rw[List.mem_singleton.1 hm]at hx;exact k3 hx
   rw[if_pos (by simpa using h1)];constructor
   ·intro h;exact absurd h h1
   intro h;exact absurd (h.1 r (by simp)).1 h1
theorem OQ(l:List Rul):FF l=0↔l.length≤24∧(∀x∈l,BQ x=0)∧l.Nodup:=by
 unfold FF;split
 ·simp;omega
 rw[VT];simp;omega
structure LstOk(l:List Rul)(n:Nat):Prop where
 chk:FF l=0
 ins:∀r∈l,DP r
 len:l.length≤n
theorem LstOk.nil(n:Nat):LstOk [] n:=⟨(OQ []).2 (by simp),by simp,by simp⟩
theorem LstOk.add{l:List Rul}{n:Nat}{r:Rul}{f:Bool}(h:LstOk l n)(hr:DP r)(he:(Bv l r f).2=0):LstOk (Bv l r f).1 (n+1):=by
 unfold Bv at he ⊢;rw[if_neg (by rw[h.chk];simp)]at he ⊢;split at he
 ·rename_i h1;exact absurd he h1
 rename_i h1;rw[if_neg h1];split at he
 ·cases he
 rename_i h2;rw[if_neg h2];split at he
 ·cases he
 rename_i h3;rw[if_neg h3];have hm:r∉l:=Qu.1 (by omega);obtain⟨c1,c2,c3⟩:=(OQ l).1 h.chk;have h1':BQ r=0:=by simpa using h1
 cases f
 ·refine⟨(OQ _).2 ⟨by simp;omega,?_,?_⟩,?_,?_⟩
  ·intro x hx;rcases(by simpa using hx:x∈l∨x=r)with hx|hx
   ·exact c2 x hx
   rw[hx];exact h1'
  ·simp only[Bool.false_eq_true,if_false];exact List.nodup_append.2 ⟨c3,by simp,fun a ha b hb=>by rw[List.mem_singleton.1 hb];rintro rfl;exact hm ha⟩
  ·intro x hx;rcases(by simpa using hx:x∈l∨x=r)with hx|hx
   ·exact h.ins x hx
   rw[hx];exact hr
  have:=h.len;simp;omega
 refine⟨(OQ _).2 ⟨by simp;omega,?_,?_⟩,?_,?_⟩
 ·intro x hx;rcases(by simpa using hx:x=r∨x∈l)with hx|hx
  ·rw[hx];exact h1'
  exact c2 x hx
 ·simp only[if_true];exact List.nodup_cons.2 ⟨hm,c3⟩
 ·intro x hx;rcases(by simpa using hx:x=r∨x∈l)with hx|hx
  ·rw[hx];exact hr
  exact h.ins x hx
 have:=h.len;simp;omega
theorem LstOk.mono{l:List Rul}{n m:Nat}(h:LstOk l n)(hm:n≤m):LstOk l m:=⟨h.chk,h.ins,Nat.le_trans h.len hm⟩
def MW:Rul:=⟨3,1,4294967295,[],0,⟨#[]⟩,0,⟨#[]⟩⟩
theorem dP:DP MW:=by unfold DP MW;simp;decide
theorem dQ:BQ MW=0:=by decide
section
theorem dR(l:List Int)(a:Nat)(ha:a≤10000000000):GenF prog 40 l a [] 200 (fun r=>∃x:Rul,DP x∧r= .agg (Az x)):=by
 refine enter Tryz.func40 rfl rfl rfl rfl rfl 1 rfl ?_;refine w_ (Al (h:=e_ (w_ (m_ (h:=Bd (h:=?_))))));refine A7 rfl (BE 0 (hc:=El l _ _ (fun _=>true) (by omega) (by rfl) (by rfl) (by rfl)) (hR:=?_));rintro r a1 ha1 ⟨k1,rfl,p1⟩;refine⟨rfl,_,(by repeat constructor),?_⟩;refine m_ (h:=Bd (h:=?_));refine A7 rfl (BE 0 (hc:=El l _ _ (fun _=>true) (by omega) (by rfl) (by rfl) (by rfl)) (hR:=?_));rintro r a2 ha2 ⟨k2,rfl,p2⟩;refine⟨rfl,_,(by repeat constructor),?_⟩;refine m_ (h:=Bd (h:=?_));refine A7 rfl (BE 0 (hc:=Jl l _ _ (fun _=>true) (by omega) (by rfl) (by rfl) (by rfl)) (hR:=?_));rintro r a3 ha3 ⟨k3,rfl,p3⟩;refine⟨rfl,_,(by repeat constructor),?_⟩;refine Ak (h:=Al (h:=s_ (h:=e_ (?_))));refine BR (fun s=>∃(b:Nat) (li ac ca:Int) (key:ByteArray),b≤a+50∧0≤ca∧ca<18446744073709551616∧s=⟨look [(0, .bp 0 0),(2, .bp 1 0),(3, .bp 2 0)],⟨[DU l b,[.v (.int .i64 0), .v (.int .i64 0), .v (.int .u64 0), .v (.slice none 0 0), .v (.int .i64 0), .v (.string ⟨#[]⟩), .v (.int .i64 0), .v (.string ⟨#[]⟩)],[.v (.int .i64 li), .v (.int .i64 ac), .v (.int .u64 ca), .v (.slice none 0 0), .v (.int .i64 0), .v (.string ⟨#[]⟩), .v (.int .i64 0), .v (.string key)]],[]⟩⟩) ?_ ?_
 ·skip
  refine w_ (f_ (h:=l_ (h:=AD (h:=m_ (h:=?_)))));refine AW false rfl rfl (fun hb1=>?_) (fun hb1=>?_)
  ·have hc1:=bp hb1;refine A3 (h:=A3 (h:=A3 (h:=AF (h:=e_ (B8 (h:=w_ (m_ (h:=?_))))))));refine A7 rfl (BE 0 (hc:=VR l _ (by omega)) (hR:=?_));rintro r a4 ha4 ⟨k4,rfl,p4,q4⟩;refine⟨rfl,_,(by repeat constructor),?_⟩;refine f_ (h:=s_ (h:=e_ (q_ (w_ (m_ (h:=?_))))));refine A7 rfl (BE 0 (hc:=Gn l _ (3) (by omega) (by omega)) (hR:=?_));rintro r a5 ha5 ⟨k5,rfl,p5,q5,o5⟩;refine⟨rfl,_,(by repeat constructor),?_⟩;refine Bl (h:=e_ (?_));refine A8 rfl (fun hb2=>?_) (fun hb2=>?_)
   ·have hc2:=bp hb2;refine AR (f_ (h:=s_ (h:=e_ (w_ (f_ (h:=l_ (h:=AD (h:=e_ (?_)))))))));refine A8 rfl (fun hb3=>?_) (fun hb3=>?_)
    ·have hc3:=bp hb3;refine AR (f_ (h:=s_ (h:=AP (?_))));refine AE ?_;refine⟨_,⟨_,_,_,_,_,?_,?_,?_,rfl⟩,(wk 3 0)⟩<;>omega
    have hc3:=bp hb3;refine Au (?_);refine AE ?_;refine⟨_,⟨_,_,_,_,_,?_,?_,?_,rfl⟩,(wk 3 0)⟩<;>omega
   have hc2:=bp hb2;refine AB (w_ (f_ (h:=l_ (h:=AD (h:=e_ (?_))))));refine A8 rfl (fun hb4=>?_) (fun hb4=>?_)
   ·have hc4:=bp hb4;refine AR (f_ (h:=s_ (h:=AP (?_))));refine AE ?_;refine⟨_,⟨_,_,_,_,_,?_,?_,?_,rfl⟩,(wk 3 0)⟩<;>omega
   have hc4:=bp hb4;refine Au (?_);refine AE ?_;refine⟨_,⟨_,_,_,_,_,?_,?_,?_,rfl⟩,(wk 3 0)⟩<;>omega
  have hc1:=bp hb1;refine f_ (h:=l_ (h:=AD (h:=AM (h:=e_ (?_)))));refine A8 rfl (fun hb5=>?_) (fun hb5=>?_)
  ·have hc5:=bp hb5;refine w_ (m_ (h:=?_));refine A7 rfl (BE 0 (hc:=VR l _ (by omega)) (hR:=?_));rintro r a6 ha6 ⟨k6,rfl,p6,q6⟩;refine⟨rfl,_,(by repeat constructor),?_⟩;refine f_ (h:=s_ (h:=e_ (q_ (w_ (m_ (h:=?_))))));refine A7 rfl (BE 0 (hc:=Gn l _ (3) (by omega) (by omega)) (hR:=?_));rintro r a7 ha7 ⟨k7,rfl,p7,q7,o7⟩;refine⟨rfl,_,(by repeat constructor),?_⟩;refine Bl (h:=e_ (?_));refine A8 rfl (fun hb6=>?_) (fun hb6=>?_)
   ·have hc6:=bp hb6;refine AR (f_ (h:=s_ (h:=e_ (w_ (f_ (h:=l_ (h:=AD (h:=e_ (?_)))))))));refine A8 rfl (fun hb7=>?_) (fun hb7=>?_)
    ·have hc7:=bp hb7;refine AR (f_ (h:=s_ (h:=AP (?_))));refine AE ?_;refine⟨_,⟨_,_,_,_,_,?_,?_,?_,rfl⟩,(wk 3 0)⟩<;>omega
    have hc7:=bp hb7;refine Au (?_);refine AE ?_;refine⟨_,⟨_,_,_,_,_,?_,?_,?_,rfl⟩,(wk 3 0)⟩<;>omega
   have hc6:=bp hb6;refine AB (w_ (f_ (h:=l_ (h:=AD (h:=e_ (?_))))));refine A8 rfl (fun hb8=>?_) (fun hb8=>?_)
   ·have hc8:=bp hb8;refine AR (f_ (h:=s_ (h:=AP (?_))));refine AE ?_;refine⟨_,⟨_,_,_,_,_,?_,?_,?_,rfl⟩,(wk 3 0)⟩<;>omega
   have hc8:=bp hb8;refine Au (?_);refine AE ?_;refine⟨_,⟨_,_,_,_,_,?_,?_,?_,rfl⟩,(wk 3 0)⟩<;>omega
  have hc5:=bp hb5;refine Au (?_);refine AE ?_;refine⟨_,⟨_,_,_,_,_,?_,?_,?_,rfl⟩,(wk 3 0)⟩<;>omega
 rintro s ⟨b,li,ac,ca,key,hb,hca1,hca2,rfl⟩;refine q_ (w_ (m_ (h:=Bd (h:=?_))));refine A7 rfl (BE 0 (hc:=El l _ _ (fun z=>decide (0≤z∧z≤3)) (by omega) (by rfl) (by rfl) (by rfl)) (hR:=?_));rintro r a8 ha8 ⟨k8,rfl,p8⟩;refine⟨rfl,_,(by repeat constructor),?_⟩;obtain⟨hz1,hz2⟩:=of_decide_eq_true p8;obtain⟨m,rfl⟩:=Int.eq_ofNat_of_zero_le (show 0≤k8 by omega);refine a_ (h:=e_ (Ag (?_)));refine K4 2 3 115 5 rfl rfl (by repeat constructor) (by repeat constructor) (by repeat constructor) ?_;refine Be (fun n s=>∃(j b1:Nat) (ts:List Tst),j≤m∧n=j∧b1≤b+1+20 * (m - j)∧ts.length=m - j∧s=⟨look [(0, .bp 0 0),(2, .bp 1 0),(3, .bp 2 0),(4, .v (.int .i64 (j:Int)))],⟨[DU l b1,[.v (.int .i64 0), .v (.int .i64 0), .v (.int .u64 0), .v (.slice none 0 0), .v (.int .i64 0), .v (.string ⟨#[]⟩), .v (.int .i64 0), .v (.string ⟨#[]⟩)],[.v (.int .i64 li), .v (.int .i64 ac), .v (.int .u64 ca), .sl 5 (ts.map C3) (some 0), .v (.int .i64 0), .v (.string ⟨#[]⟩), .v (.int .i64 0), .v (.string key)]],[(115,5,ts.map C3)]⟩⟩) (m) ((wk 3 1)) (⟨m,_,[],by omega,rfl,by omega,by simp,rfl⟩) ?_;rintro n s ⟨j,b1,ts,hj,hn,hb1,hts,rfl⟩;subst n;refine q_ (w_ (m_ (h:=Bl (h:=e_ (?_)))));refine A8 rfl (fun hb9=>?_) (fun hb9=>?_)
 ·have hc9:=bp hb9;refine AB (q_ (Ag (Bf ([(1,[.v (.int .i64 0), .v (.int .i64 0), .v (.int .u64 0), .v (.slice none 0 0), .v (.int .i64 0), .v (.string ⟨#[]⟩), .v (.int .i64 0), .v (.string ⟨#[]⟩)]),(2,[.v (.int .i64 li), .v (.int .i64 ac), .v (.int .u64 ca), .sl 5 (ts.map C3) (some 0), .v (.int .i64 0), .v (.string ⟨#[]⟩), .v (.int .i64 0), .v (.string key)])]) 9 (h:=AO 0 (h:=AJ 1 (h:=AU 2 (h:=AO 3 (h:=AJ 4 (h:=?_)))))))));refine c_ 5 rfl (BE 0 (hc:=dO l _ _ (by omega)) (hR:=?_));rintro r a9 ha9 ⟨T9,rfl⟩;refine⟨rfl,_,(by repeat constructor),?_⟩;refine o_ (h:=H0 6 (h:=?_))
  first|refine c_ 7 rfl (Dx rfl rfl rfl (by simp<;>omega) (by repeat constructor) ?_)|refine c_ 7 rfl (Dy rfl rfl (by simp<;>omega) (by repeat constructor) ?_)
  refine o_ (h:=AO 8 (h:=?_));refine BH 9 rfl (BC rfl rfl rfl rfl rfl rfl (by repeat constructor) (by repeat constructor) ?_);refine o_ (h:=z_ (h:=Ah (t_ (AR (m_ (h:=Fd (h:=a_ (h:=AP (?_)))))))));refine AE ?_;obtain⟨j,rfl⟩:∃i,j=i+1:=⟨j - 1,by omega⟩;refine⟨_,_,?_,⟨j,_,ts++[T9],by omega,rfl,?_,?_,rfl⟩,(by rw[List.map_append];exact Av 3 1 rfl rfl rfl rfl (by repeat (first|exact Sub.nil|refine Ax rfl rfl ?_|(apply Sub.of;(focus exact rfl);(focus exact LeA.of_eq (vi (by omega)));(focus exact rfl)))))⟩
  ·omega
  ·omega
  simp;omega
 have hc9:=bp hb9;refine BT (Ao (Ao (BU (t_ (?_)))));refine BR (fun s=>∃(b2:Nat) (wa pe:Int) (pa:ByteArray),b2≤a+140∧pa.size≤60∧s=⟨look [(0, .bp 0 0),(2, .bp 1 0),(3, .bp 2 0)],⟨[DU l b2,[.v (.int .i64 0), .v (.int .i64 0), .v (.int .u64 0), .v (.slice none 0 0), .v (.int .i64 0), .v (.string ⟨#[]⟩), .v (.int .i64 0), .v (.string ⟨#[]⟩)],[.v (.int .i64 li), .v (.int .i64 ac), .v (.int .u64 ca), .sl 5 (ts.map C3) (some 0), .v (.int .i64 wa), .v (.string pa), .v (.int .i64 pe), .v (.string key)]],[(115,5,ts.map C3)]⟩⟩) ?_ ?_
 ·skip
  refine w_ (f_ (h:=l_ (h:=AD (h:=m_ (h:=?_)))));refine AW true rfl rfl (fun hb10=>?_) (fun hb10=>?_)
  ·have hc10:=bp hb10;refine m_ (h:=?_);refine B4 (BE 0 (hc:=Gn l _ (3) (by omega) (by omega)) (hR:=?_));rintro r a10 ha10 ⟨k10,rfl,p10,q10,o10⟩;refine⟨rfl,_,(by repeat constructor),?_⟩;refine AD (h:=AF (h:=e_ (?_)));refine A8 rfl (fun hb11=>?_) (fun hb11=>?_)
   ·have hc11:=bp hb11;refine w_ (m_ (h:=?_));refine A7 rfl (BE 0 (hc:=DA l _ (1) (2) (by omega) (by omega) (by omega) (by omega)) (hR:=?_));rintro r a11 ha11 ⟨k11,rfl,p11,q11⟩;refine⟨rfl,_,(by repeat constructor),?_⟩;refine m_ (h:=?_);refine A7 rfl (BE 0 (hc:=dM l _ (by omega)) (hR:=?_));rintro r a12 ha12 ⟨k12,rfl,p12⟩;refine⟨rfl,_,(by repeat constructor),?_⟩;refine m_ (h:=?_);refine A7 rfl (BE 0 (hc:=DA l _ (1) (15) (by omega) (by omega) (by omega) (by omega)) (hR:=?_));rintro r a13 ha13 ⟨k13,rfl,p13,q13⟩;refine⟨rfl,_,(by repeat constructor),?_⟩;refine f_ (h:=s_ (h:=f_ (h:=s_ (h:=f_ (h:=s_ (h:=e_ (w_ (m_ (h:=?_)))))))));refine A7 rfl (BE 0 (hc:=Gn l _ (8) (by omega) (by omega)) (hR:=?_));rintro r a14 ha14 ⟨k14,rfl,p14,q14,o14⟩;refine⟨rfl,_,(by repeat constructor),?_⟩;refine AD (h:=e_ (?_));refine A8 rfl (fun hb12=>?_) (fun hb12=>?_)
    ·have hc12:=bp hb12;refine AR (f_ (h:=s_ (h:=AP (?_))));refine AE ?_;refine⟨_,⟨_,_,_,_,?_,?_,rfl⟩,(wk 3 1)⟩<;>first|omega|exact BL rfl
    have hc12:=bp hb12;refine Au (?_);refine AE ?_;refine⟨_,⟨_,_,_,_,?_,?_,rfl⟩,(wk 3 1)⟩<;>first|omega|exact BL rfl
   have hc11:=bp hb11;refine Au (?_);refine AE ?_;refine⟨_,⟨_,_,_,_,?_,?_,rfl⟩,(wk 3 1)⟩<;>first|omega|exact BL rfl
  have hc10:=bp hb10;refine A3 (h:=A3 (h:=A3 (h:=AM (h:=e_ (Bp (h:=Au (?_)))))));refine AE ?_;refine⟨_,⟨_,_,_,_,?_,?_,rfl⟩,(wk 3 1)⟩<;>first|omega|exact BL rfl
 rintro s ⟨b2,wa,pe,pa,hb2,hpa,rfl⟩;refine q_ (w_ (m_ (h:=?_)));refine A7 rfl (BE 0 (hc:=Gn l _ (24) (by omega) (by omega)) (hR:=?_));rintro r a15 ha15 ⟨k15,rfl,p15,q15,o15⟩;refine⟨rfl,_,(by repeat constructor),?_⟩;refine AD (h:=e_ (?_));refine A8 rfl (fun hb13=>?_) (fun hb13=>?_)
 ·have hc13:=bp hb13;refine AR (m_ (h:=?_));refine A7 rfl (BE 0 (hc:=DA l _ (-1) (16) (by omega) (by omega) (by omega) (by omega)) (hR:=?_));rintro r a16 ha16 ⟨k16,rfl,p16,q16⟩;refine⟨rfl,_,(by repeat constructor),?_⟩;refine m_ (h:=?_);refine A7 rfl (BE 0 (hc:=DA l _ (0) (6) (by omega) (by omega) (by omega) (by omega)) (hR:=?_));rintro r a17 ha17 ⟨k17,rfl,p17,q17⟩;refine⟨rfl,_,(by repeat constructor),?_⟩;refine m_ (h:=?_);refine A7 rfl (BE 0 (hc:=DA l _ (0) (3) (by omega) (by omega) (by omega) (by omega)) (hR:=?_));rintro r a18 ha18 ⟨k18,rfl,p18,q18⟩;refine⟨rfl,_,(by repeat constructor),?_⟩;refine f_ (h:=s_ (h:=f_ (h:=s_ (h:=f_ (h:=s_ (h:=e_ (w_ (l_ (h:=s_ (h:=e_ (A4 (?_))))))))))));refine Ai none (h5:=(AA _)) (h6:=⟨_,rfl,rfl,_,?_,rfl,⟨_,_,_,ts,_,pa,_,_⟩,⟨hca1,hca2,Nat.le_trans hpa (by decide),by show ts.length≤1000;omega⟩,rfl⟩)<;>omega
 have hc13:=bp hb13;refine AB (w_ (l_ (h:=s_ (h:=e_ (A4 (?_))))));refine Ai none (h5:=(AA _)) (h6:=⟨_,rfl,rfl,_,?_,rfl,⟨_,_,_,ts,_,pa,_,_⟩,⟨hca1,hca2,Nat.le_trans hpa (by decide),by show ts.length≤1000;omega⟩,rfl⟩)<;>omega
end
section
theorem dS(l:List Int)(a:Nat)(ha:a≤1000000000):GenF prog 56 l a [] 1600 (fun r=>∃x:Rul,DP x∧BQ x=0∧r= .agg (Az x)):=by
 refine enter Tryz.func56 rfl rfl rfl rfl rfl 1 rfl ?_;refine w_ (Al (h:=e_ (q_ (w_ (a_ (h:=e_ (Ag (?_))))))));refine Be (fun n s=>∃(j b:Nat),j≤8∧n=8 - j∧b≤a+200 * j∧s=⟨look [(0, .bp 0 0),(2, .bp 1 0),(3, .v (.int .i64 (j:Int)))],⟨[DU l b,[.v (.int .i64 0), .v (.int .i64 0), .v (.int .u64 0), .v (.slice none 0 0), .v (.int .i64 0), .v (.string ⟨#[]⟩), .v (.int .i64 0), .v (.string ⟨#[]⟩)]],[]⟩⟩) (8) ((wk 2 0)) (⟨0,a,by omega,rfl,by omega,rfl⟩) ?_;rintro n s ⟨j,b,hj,rfl,hb,rfl⟩;refine q_ (w_ (m_ (h:=BB (h:=e_ (?_)))));refine A8 rfl (fun hb1=>?_) (fun hb1=>?_)
 ·have hc1:=bp hb1;refine AB (q_ (Ag (w_ (m_ (h:=?_)))));refine A7 rfl (BE 0 (hc:=dR l _ (by omega)) (hR:=?_));rintro r a1 ha1 ⟨x,hx,rfl⟩;refine⟨rfl,_,(by repeat constructor),?_⟩;refine Al (h:=s_ (h:=e_ (w_ (l_ (h:=?_)))));refine A7 rfl (AG (OK x hx) ?_);rintro r rfl;refine AD (h:=e_ (?_));refine A8 rfl (fun hb2=>?_) (fun hb2=>?_)
  ·have hc2:=bp hb2;refine w_ (l_ (h:=s_ (h:=e_ (A4 (AK (A6 (A6 (AK (A6 (?_))))))))));refine Ai none (h5:=(AA _)) (h6:=⟨_,rfl,rfl,_,?_,rfl,x,hx,hc2,rfl⟩)<;>omega
  have hc2:=bp hb2;refine Au (Ah (t_ (AR (m_ (h:=BD (h:=a_ (h:=AP (?_))))))));refine AE ?_;refine⟨_,_,?_,⟨j+1,_,by omega,rfl,?_,rfl⟩,(wk 2 0)⟩<;>omega
 have hc1:=bp hb1;refine BT (Ao (Ao (BU (t_ (w_ (Ak (h:=s_ (h:=e_ (A4 (?_))))))))));refine Ai (r:= .agg (Az MW)) none (h5:=(by repeat (first|exact AA _|exact LeA.nil _|exact LeL.refl _|refine LeA.agg ?_|refine LeA.tup ?_|exact LeL.nil|refine LeL.cons ?_ ?_|exact LeA.any _))) (h6:=⟨_,rfl,rfl,b,by omega,rfl,MW,dP,dQ,rfl⟩)
theorem dT(l:List Int)(a m:Nat)(ha:a≤100000000)(hm:m≤20):GenF prog 15 l a [.v (.int .i64 (m:Int))] 100000 (fun r=>∃L:List Rul,LstOk L 20∧r= .sl 8 (L.map Az) none):=by
 refine enter Tryz.func15 rfl rfl rfl rfl rfl 1 rfl ?_;refine w_ (a_ (h:=e_ (w_ (a_ (h:=e_ (q_ (w_ (m_ (h:=m_ (h:=BD (h:=?_)))))))))));refine A7 rfl (BE 0 (hc:=Gn l _ ((m:Int)+1) (by omega) (by omega)) (hR:=?_));rintro r a1 ha1 ⟨k1,rfl,p1,q1,o1⟩;refine⟨rfl,_,(by repeat constructor),?_⟩;obtain⟨m0,rfl⟩:=Int.eq_ofNat_of_zero_le p1;have hm0:m0≤20:=by omega
 refine a_ (h:=e_ (Ag (?_)));refine Be (fun n s=>∃(j b:Nat) (L:List Rul),j≤m0∧n=j∧b≤a+1+1700 * (m0 - j)∧LstOk L (m0 - j)∧s=⟨look [(0, .bp 0 0),(5, .sl 8 (L.map Az) none),(6, .v (.int .i64 (j:Int)))],⟨[DU l b],[]⟩⟩) (m0) ((wk 1 0)) (⟨m0,_,[],by omega,rfl,by omega,LstOk.nil _,rfl⟩) ?_;rintro n s ⟨j,b,L,hj,hn,hb,hL,rfl⟩;subst n;refine q_ (w_ (m_ (h:=Bl (h:=e_ (?_)))));refine A8 rfl (fun hb1=>?_) (fun hb1=>?_)
 ·have hc1:=bp hb1;refine AB (q_ (Ag (w_ (m_ (h:=m_ (h:=?_))))));refine A7 rfl (BE 0 (hc:=dS l _ (by omega)) (hR:=?_));rintro r a2 ha2 ⟨x,hx,hg,rfl⟩;refine⟨rfl,_,(by repeat constructor),?_⟩;refine m_ (h:=?_);refine A7 rfl (BE 0 (hc:=Gn l _ (4) (by omega) (by omega)) (hR:=?_));rintro r a3 ha3 ⟨k3,rfl,p3,q3,o3⟩;refine⟨rfl,_,(by repeat constructor),?_⟩;refine AD (h:=?_);refine A7 rfl (AG (dD L x _ (by have:=hL.len;omega) hL.ins hx) ?_);rintro r rfl;refine m_ (h:=x_ (h:=x_ (h:=a_ (h:=a_ (h:=e_ (w_ (m_ (h:=AD (h:=e_ (?_))))))))));refine A8 rfl (fun hb2=>?_) (fun hb2=>?_)
  ·have hc2:=bp hb2;have hL2:=hL.add hx hc2;refine AR (m_ (h:=a_ (h:=AP (Ah (t_ (AR (m_ (h:=Fd (h:=a_ (h:=AP (?_)))))))))));refine AE ?_;obtain⟨j,rfl⟩:∃i,j=i+1:=⟨j - 1,by omega⟩;refine⟨_,_,?_,⟨j,_,_,by omega,rfl,?_,hL2.mono (by omega),rfl⟩,Av 1 0 rfl rfl rfl rfl (by repeat (first|exact Sub.nil|refine Ax rfl rfl ?_|(apply Sub.of;(focus exact rfl);(focus exact LeA.of_eq (vi (by omega)));(focus exact rfl))))⟩<;>omega
  have hc2:=bp hb2;have hL2:=hL.mono (Nat.le_succ _);refine Au (Ah (t_ (AR (m_ (h:=Fd (h:=a_ (h:=AP (?_))))))));refine AE ?_;obtain⟨j,rfl⟩:∃i,j=i+1:=⟨j - 1,by omega⟩;refine⟨_,_,?_,⟨j,_,_,by omega,rfl,?_,hL2.mono (by omega),rfl⟩,Av 1 0 rfl rfl rfl rfl (by repeat (first|exact Sub.nil|refine Ax rfl rfl ?_|(apply Sub.of;(focus exact rfl);(focus exact LeA.of_eq (vi (by omega)));(focus exact rfl))))⟩<;>omega
 have hc1:=bp hb1;refine BT (Ao (Ao (BU (t_ (w_ (m_ (h:=a_ (h:=e_ (A4 (?_))))))))));refine Ai none (h5:=(AA _)) (h6:=⟨_,rfl,rfl,b,by omega,rfl,L,hL.mono (by omega),rfl⟩)
end
theorem VU(w:Wrk)(R:Dm):(Bh w R).1.r.items=w.r.items:=by
 unfold Bh;split<;>rfl
section
theorem dU(w:Wrk)(cap:Nat)(f g:Fnd)(x1:Itm)(hv:SpcV w.s.spc)(hm:w.s.spc.mounts.length≤1000)(hf:w.found[0]?=some f)(hg:w.found[1]?=some g)(hx1:w.r.items[1]?=some x1)(hn2:g.name.size≤100000):ACall prog 146 [.bp 0 0] [WA w cap,IB w cap] (fun r b t=>t=[]∧r= .v (.int .i64 (EO w).2)∧b=[WA (EO w).1 cap,IB (EO w).1 cap]):=by
 have hsb:=hv.b hm;have hrow0:(w.found.map Ar)[0]?=some (Ar f):=by rw[List.getElem?_map,hf];rfl
 have hrow1:(w.found.map Ar)[1]?=some (Ar g):=by rw[List.getElem?_map,hg];rfl
 have hfn:B7 w 0=f:=by unfold B7;rw[hf];rfl
 have hgn:B7 w 1=g:=by unfold B7;rw[hg];rfl
 obtain⟨R,hR⟩:∃R,R=Dg w.s.spc.files g.dir g.name f.file:=⟨_,rfl⟩;have hok:=Ts hv.files g.dir g.name f.file;rw[←hR]at hok;have hcall:AFn prog 172 [.agg (B0 w.s.spc.files), .agg (AN g.dir), .v (.string g.name), .agg (AN f.file)] (fun r=>r=CE R):=by rw[hR];exact Yd _ _ _ _ hv.files hn2
 have hlk:EO w=if f.ex=false then(w,2)else if Ay w.s.spc.files f.file=true then(w,1)else if g.ex=true then(w,17)else if g.slash=true then(w,2)else if f.file.1≠g.dir.1 then(w,18)else if C5 w g.dir 2=false then(w,13)else if R.2.2≠0 then(w,R.2.2)else(Gs (Bh w R).1 1 f.file,0):=by
  unfold EO Gr;rw[hfn,hgn,←hR]
 clear hR;refine enter Tryz.func146 rfl rfl rfl rfl rfl 2 rfl ?_;refine w_ (a_ (h:=e_ (?_)));refine BR (fun S=>S=⟨look [(0, .bp 0 0),(3, .bp 2 0),(4, .bp 3 0)],⟨[WA w cap,IB w cap,Ar f,Ar g],[]⟩⟩) ?_ ?_
 ·skip
  refine Bf ([(0,WA w cap)]) 16 (h:=AU 0 (h:=BS 1 (h:=AO 2 (h:=AJ 3 (h:=?_)))));refine BF 4 rfl (fun _ hS=>Cl (n:=0) rfl rfl rfl hrow0 ⟨rfl,rfl⟩) ?_;refine AJ 5 (h:=AU 6 (h:=BS 7 (h:=AO 8 (h:=AJ 9 (h:=?_)))));refine BF 10 rfl (fun _ hS=>Cl (n:=1) rfl rfl rfl hrow1 ⟨rfl,rfl⟩) ?_;refine AJ 11 (h:=?_);refine F6 12 13 rfl rfl ?_ ?_
  ·refine CV (by repeat constructor) ?_;refine o_ (h:=?_);refine c_ 13 rfl (CV (by repeat constructor) ?_);refine o_ (h:=?_);refine BH 14 rfl (BC rfl rfl rfl rfl rfl rfl (by repeat constructor) (by repeat constructor) ?_);refine o_ (h:=?_);refine BH 15 rfl (BC rfl rfl rfl rfl rfl rfl (by repeat constructor) (by repeat constructor) ?_);refine o_ (h:=z_ (h:=?_));refine AE ?_
   first|exact⟨_,rfl,C8 4 0⟩|exact⟨_,rfl,DQ [0,1,3,2] KH (by decide) (.cons _ _ _ _ _ rfl rfl (.cons _ _ _ _ _ rfl (Fh BA _ _ _) (.cons _ _ _ _ _ rfl rfl (.cons _ _ _ _ _ rfl rfl .nil)))) (by repeat (first|exact SubK.nil|refine SubK.cons _ _ _ _ rfl (AA _) ?_))⟩
  refine CV (by repeat constructor) ?_;refine o_ (h:=?_);refine c_ 12 rfl (CV (by repeat constructor) ?_);refine o_ (h:=?_);refine BH 14 rfl (BC rfl rfl rfl rfl rfl rfl (by repeat constructor) (by repeat constructor) ?_);refine o_ (h:=?_);refine BH 15 rfl (BC rfl rfl rfl rfl rfl rfl (by repeat constructor) (by repeat constructor) ?_);refine o_ (h:=z_ (h:=?_));refine AE ?_
  first|exact⟨_,rfl,C8 4 0⟩|exact⟨_,rfl,DQ [0,1,3,2] KH (by decide) (.cons _ _ _ _ _ rfl rfl (.cons _ _ _ _ _ rfl (Fh BA _ _ _) (.cons _ _ _ _ _ rfl rfl (.cons _ _ _ _ _ rfl rfl .nil)))) (by repeat (first|exact SubK.nil|refine SubK.cons _ _ _ _ rfl (AA _) ?_))⟩
 rintro S rfl;refine q_ (Ag (w_ (f_ (h:=l_ (h:=B9 (h:=a_ (h:=e_ (?_))))))));refine A8 rfl (fun hb1=>?_) (fun hb1=>?_)
 ·have hc1:=bp hb1;have k1:f.ex=false:=by simpa using hc1
  refine w_ (a_ (h:=e_ (A4 (AK (A6 (?_))))));refine BZ (r:= .v (.int .i64 (EO w).2)) none (h5:=(by rw[hlk,if_pos k1];exact AA _)) (h6:=⟨rfl,rfl,?_⟩);rw[hlk,if_pos k1];rfl
 have hc1:=bp hb1;have k1:¬f.ex=false:=by simpa using hc1
 refine w_ (m_ (h:=?_));refine A7 rfl (D3 1 rfl (.cons _ _ _ _ _ rfl (LeA.of_eq rfl) (.cons _ _ _ _ _ rfl (AA _) .nil)) (Js w .any 0 f hsb hf) ?_);rintro r rfl;refine⟨rfl,?_⟩;refine a_ (h:=e_ (?_));refine A8 rfl (fun hb2=>?_) (fun hb2=>?_)
 ·have hc2:=bp hb2;have k2:Ay w.s.spc.files f.file=true:=hc2;refine w_ (a_ (h:=e_ (A4 (AK (A6 (?_))))));refine BZ (r:= .v (.int .i64 (EO w).2)) none (h5:=(by rw[hlk,if_neg k1,if_pos k2];exact AA _)) (h6:=⟨rfl,rfl,?_⟩);rw[hlk,if_neg k1,if_pos k2];rfl
 have hc2:=bp hb2;have k2:¬Ay w.s.spc.files f.file=true:=by simpa using hc2
 refine w_ (f_ (h:=l_ (h:=a_ (h:=e_ (?_)))));refine A8 rfl (fun hb3=>?_) (fun hb3=>?_)
 ·have hc3:=bp hb3;have k3:g.ex=true:=hc3;refine w_ (a_ (h:=e_ (A4 (AK (A6 (?_))))));refine BZ (r:= .v (.int .i64 (EO w).2)) none (h5:=(by rw[hlk,if_neg k1,if_neg k2,if_pos k3];exact AA _)) (h6:=⟨rfl,rfl,?_⟩);rw[hlk,if_neg k1,if_neg k2,if_pos k3];rfl
 have hc3:=bp hb3;have k3:¬g.ex=true:=by simpa using hc3
 refine w_ (f_ (h:=l_ (h:=a_ (h:=e_ (?_)))));refine A8 rfl (fun hb4=>?_) (fun hb4=>?_)
 ·have hc4:=bp hb4;have k4:g.slash=true:=hc4;refine w_ (a_ (h:=e_ (A4 (AK (A6 (?_))))));refine BZ (r:= .v (.int .i64 (EO w).2)) none (h5:=(by rw[hlk,if_neg k1,if_neg k2,if_neg k3,if_pos k4];exact AA _)) (h6:=⟨rfl,rfl,?_⟩);rw[hlk,if_neg k1,if_neg k2,if_neg k3,if_pos k4];rfl
 have hc4:=bp hb4;have k4:¬g.slash=true:=by simpa using hc4
 refine w_ (f_ (h:=f_ (h:=l_ (h:=f_ (h:=f_ (h:=l_ (h:=Ap (h:=a_ (h:=e_ (?_))))))))));refine A8 rfl (fun hb5=>?_) (fun hb5=>?_)
 ·have hc5:=bp hb5;have k5:f.file.1≠g.dir.1:=by simpa using hc5
  refine w_ (a_ (h:=e_ (A4 (AK (A6 (?_))))));refine BZ (r:= .v (.int .i64 (EO w).2)) none (h5:=(by rw[hlk,if_neg k1,if_neg k2,if_neg k3,if_neg k4,if_pos k5];exact AA _)) (h6:=⟨rfl,rfl,?_⟩);rw[hlk,if_neg k1,if_neg k2,if_neg k3,if_neg k4,if_pos k5];rfl
 have hc5:=bp hb5;have k5:¬f.file.1≠g.dir.1:=by simpa using hc5
 refine w_ (m_ (h:=f_ (h:=l_ (h:=?_))));refine A7 rfl (D3 1 rfl (.cons _ _ _ _ _ rfl (LeA.of_eq rfl) (.cons _ _ _ _ _ rfl (AA _) (.cons _ _ _ _ _ rfl (AA _) .nil))) (HL w .any g.dir 2 hsb) ?_);rintro r rfl;refine⟨rfl,?_⟩;refine B9 (h:=a_ (h:=e_ (?_)));refine A8 rfl (fun hb6=>?_) (fun hb6=>?_)
 ·have hc6:=bp hb6;have k6:C5 w g.dir 2=false:=by simpa using hc6
  refine w_ (a_ (h:=e_ (A4 (AK (A6 (?_))))));refine BZ (r:= .v (.int .i64 (EO w).2)) none (h5:=(by rw[hlk,if_neg k1,if_neg k2,if_neg k3,if_neg k4,if_neg k5,if_pos k6];exact AA _)) (h6:=⟨rfl,rfl,?_⟩);rw[hlk,if_neg k1,if_neg k2,if_neg k3,if_neg k4,if_neg k5,if_pos k6];rfl
 have hc6:=bp hb6;have k6:¬C5 w g.dir 2=false:=by simpa using hc6
 refine Au (Ah (t_ (?_)));refine BR (fun S=>S=⟨look [(0, .bp 0 0),(3, .bp 2 0),(5, .v (.int .i64 R.2.2))],⟨[WA (Bh w R).1 cap,IB (Bh w R).1 cap,Ar f],[]⟩⟩) ?_ ?_
 ·skip
  refine Bf ([(0,WA w cap),(1,IB w cap),(2,Ar f),(3,Ar g)]) 17 (h:=AU 0 (h:=AU 1 (h:=BS 2 (h:=AO 3 (h:=AO 4 (h:=AO 5 (h:=AJ 6 (h:=AO 7 (h:=AJ 8 (h:=AO 9 (h:=AJ 10 (h:=AO 11 (h:=AJ 12 (h:=?_))))))))))))));refine c_ 13 rfl (AG (hcall) ?_);rintro r rfl;refine o_ (h:=BX 14 (h:=BX 15 (h:=BX 16 (h:=?_))));refine c_ 17 rfl (Bk [0,1] rfl (.cons _ _ _ _ _ rfl (AA _) (.cons _ _ _ _ _ rfl (AA _) (.cons _ _ _ _ _ rfl (AA _) (.cons _ _ _ _ _ rfl (AA _) .nil)))) (by decide) (.cons _ _ _ _ _ rfl rfl (.cons _ _ _ _ _ rfl (Cy BA _ _ _) .nil)) (LC w cap R.1 R.2.1 R.2.2) ?_);rintro r bc tc ⟨rfl,rfl,rfl⟩;refine⟨rfl,_,DD rfl ((Bh w R).1) cap,?_⟩;refine o_ (h:=?_);refine c_ 18 rfl (FY rfl ?_);refine o_ (h:=z_ (h:=?_));refine AE ?_;exact⟨_,rfl,C8 3 0⟩
 rintro S rfl;refine q_ (w_ (m_ (h:=AD (h:=e_ (?_)))));refine A8 rfl (fun hb7=>?_) (fun hb7=>?_)
 ·have hc7:=bp hb7;have h0:R.2.2=0:=hc7;have hfb:FlsB (Bh w R).1.s.spc.files:=by rw[JM h0];exact(hok h0).1.b
  have hxr:(Bh w R).1.r.items[1]?=some x1:=by rw[VU];exact hx1
  refine AR (m_ (h:=f_ (h:=l_ (h:=?_))));refine A7 rfl (Bk [0,1] rfl (.cons _ _ _ _ _ rfl (AA _) (.cons _ _ _ _ _ rfl (AA _) (.cons _ _ _ _ _ rfl (AA _) .nil))) (by decide) (.cons _ _ _ _ _ rfl rfl (.cons _ _ _ _ _ rfl (Cy BA _ _ _) .nil)) (Qn (Bh w R).1 cap 1 f.file x1 hfb hxr) ?_);rintro r bc tc ⟨rfl,rfl,rfl⟩;refine⟨rfl,_,DD rfl (Gs (Bh w R).1 1 f.file) cap,?_⟩;refine e_ (w_ (m_ (h:=a_ (h:=e_ (A4 (?_))))));refine BZ (r:= .v (.int .i64 (EO w).2)) none (h5:=(by rw[hlk,if_neg k1,if_neg k2,if_neg k3,if_neg k4,if_neg k5,if_neg k6,if_neg (by simp[h0])];exact LeA.of_eq (vi h0))) (h6:=⟨rfl,rfl,?_⟩);rw[hlk,if_neg k1,if_neg k2,if_neg k3,if_neg k4,if_neg k5,if_neg k6,if_neg (by simp[h0])];rfl
 have hc7:=bp hb7;have h0:¬R.2.2=0:=hc7;refine AB (w_ (m_ (h:=a_ (h:=e_ (A4 (?_))))));refine BZ (r:= .v (.int .i64 (EO w).2)) none (h5:=(by rw[hlk,if_neg k1,if_neg k2,if_neg k3,if_neg k4,if_neg k5,if_neg k6,if_pos h0];exact AA _)) (h6:=⟨rfl,rfl,?_⟩);rw[hlk,if_neg k1,if_neg k2,if_neg k3,if_neg k4,if_neg k5,if_neg k6,if_pos h0];rw[OG h0];rfl
theorem VV(w:Wrk)(cap:Nat)(f:Fnd)(x0:Itm)(hv:SpcV w.s.spc)(hm:w.s.spc.mounts.length≤1000)(hps:w.s.tab.ps.length≤1000)(hf:w.found[0]?=some f)(hx0:w.r.items[0]?=some x0)(hn:f.name.size≤100000):ACall prog 147 [.bp 0 0] [WA w cap,IB w cap] (fun r b t=>t=[]∧r= .v (.int .i64 (Dh w).2)∧b=[WA (Dh w).1 cap,IB (Dh w).1 cap]):=by
 have hsb:=hv.b hm;have hrow0:(w.found.map Ar)[0]?=some (Ar f):=by rw[List.getElem?_map,hf];rfl
 have hfn:B7 w 0=f:=by unfold B7;rw[hf];rfl
 have hil:0<w.r.items.length:=(At.1 hx0).1;obtain⟨R1,hR1⟩:∃R,R=FR w.s.spc.files f.dir f.name:=⟨_,rfl⟩;obtain⟨R2,hR2⟩:∃R,R=Ek w.s.spc.files f.dir f.name:=⟨_,rfl⟩;have hcall1:AFn prog 173 [.agg (B0 w.s.spc.files), .agg (AN f.dir), .v (.string f.name)] (fun r=>r=CE R1):=by rw[hR1];exact Yf _ _ _ hv.files hn
 have hcall2:AFn prog 174 [.agg (B0 w.s.spc.files), .agg (AN f.dir), .v (.string f.name)] (fun r=>r=CE R2):=by rw[hR2];exact Yg _ _ _ hv.files hn
 obtain⟨y,hyd⟩:∃y,y=(AZ w.s.spc.files f.dir f.name).1:=⟨_,rfl⟩;have hl1:AFn prog 134 [.agg (B0 w.s.spc.files), .agg (AN f.dir), .v (.string f.name)] (fun r=>r= .tup [.agg (AN y), .v (.int .i64 (AZ w.s.spc.files f.dir f.name).2)]):=by rw[hyd];exact He _ _ _ hsb.files
 have hrm:Dh w=if f.ex=false then(w,2)else if w.c.num=10 then(if f.name=⟨#[]⟩∨Ay w.s.spc.files f.file=true then(w,21)else if C5 w f.dir 2=false then(w,13)else GK w R1)else(if f.name=⟨#[]⟩then(w,16)else if Ay w.s.spc.files f.file=false then(w,20)else if Fw w y=true then(w,16)else if C5 w f.dir 2=false then(w,13)else GK w R2):=by
  unfold Dh Gr;rw[hfn,←hR1,←hR2,←hyd]
 clear hR1 hR2 hyd;refine enter Tryz.func147 rfl rfl rfl rfl rfl 2 rfl ?_;refine w_ (a_ (h:=e_ (w_ (m_ (h:=k_ (h:=f_ (h:=l_ (h:=?_))))))));refine A7 rfl (Cl (n:=0) rfl rfl rfl hrow0 ?_);refine l_ (h:=Al (h:=s_ (h:=e_ (q_ (w_ (f_ (h:=l_ (h:=B9 (h:=e_ (?_))))))))));refine A8 rfl (fun hb1=>?_) (fun hb1=>?_)
 ·have hc1:=bp hb1;have k1:f.ex=false:=by simpa using hc1
  refine w_ (a_ (h:=e_ (A4 (A6 (?_)))));refine BZ (r:= .v (.int .i64 (Dh w).2)) none (h5:=(by rw[hrm,if_pos k1];exact AA _)) (h6:=⟨rfl,rfl,?_⟩);rw[hrm,if_pos k1];rfl
 have hc1:=bp hb1;have k1:¬f.ex=false:=by simpa using hc1
 refine AB (w_ (a_ (h:=e_ (?_))));refine BR (fun S=>∃R,Dh w=GK w R∧S=⟨look [(0, .bp 0 0),(4, .v (.int .i64 R.2.2))],⟨[WA (Bh w R).1 cap,IB (Bh w R).1 cap],[]⟩⟩) ?_ ?_
 ·skip
  refine w_ (m_ (h:=k_ (h:=f_ (h:=f_ (h:=l_ (h:=AD (h:=e_ (?_))))))));refine A8 rfl (fun hb2=>?_) (fun hb2=>?_)
  ·have hc2:=bp hb2;have k2:w.c.num=10:=hc2;refine q_ (?_);refine BR (fun S=>S=⟨look [(0, .bp 0 0),(3, .bp 2 0),(28, .v (.bool (decide (f.name=⟨#[]⟩)||Ay w.s.spc.files f.file)))],⟨[WA w cap,IB w cap,Ar f],[]⟩⟩) ?_ ?_
   ·skip
    refine AR (f_ (h:=l_ (h:=AD (h:=m_ (h:=?_)))));refine AW false rfl rfl (fun hb3=>?_) (fun hb3=>?_)
    ·have hc3:=bp hb3;refine A3 (h:=A3 (h:=AF (h:=AP (?_))));refine AE ?_;exact⟨_,rfl,CG 3 0 (by simp[Af,Ac,Aa,Bm BA,BM,WA,IB,CH,Ar,Am,AN,As,BK,B0])⟩
    have hc3:=bp hb3;refine m_ (h:=?_);refine B4 (D3 1 rfl (.cons _ _ _ _ _ rfl (LeA.of_eq rfl) (.cons _ _ _ _ _ rfl (AA _) .nil)) (Js w .any 0 f hsb hf) ?_);rintro r rfl;refine⟨rfl,?_⟩;refine AM (h:=AP (?_));refine AE ?_;exact⟨_,rfl,CG 3 0 (by simp[Af,Ac,Aa,Bm BA,BM,WA,IB,CH,Ar,Am,AN,As,BK,B0])⟩
   rintro S rfl;refine A8 rfl (fun hb4=>?_) (fun hb4=>?_)
   ·have hc4:=bp hb4;have k3:f.name=⟨#[]⟩∨Ay w.s.spc.files f.file=true:=by simpa using hc4
    refine w_ (a_ (h:=e_ (A4 (A6 (A6 (?_))))));refine BZ (r:= .v (.int .i64 (Dh w).2)) none (h5:=(by rw[hrm,if_neg k1,if_pos k2,if_pos k3];exact AA _)) (h6:=⟨rfl,rfl,?_⟩);rw[hrm,if_neg k1,if_pos k2,if_pos k3];rfl
   have hc4:=bp hb4;have k3:¬(f.name=⟨#[]⟩∨Ay w.s.spc.files f.file=true):=by simpa using hc4
   refine AB (q_ (w_ (m_ (h:=f_ (h:=l_ (h:=?_))))));refine A7 rfl (D3 1 rfl (.cons _ _ _ _ _ rfl (LeA.of_eq rfl) (.cons _ _ _ _ _ rfl (AA _) (.cons _ _ _ _ _ rfl (AA _) .nil))) (HL w .any f.dir 2 hsb) ?_);rintro r rfl;refine⟨rfl,?_⟩;refine B9 (h:=e_ (?_));refine A8 rfl (fun hb5=>?_) (fun hb5=>?_)
   ·have hc5:=bp hb5;have k4:C5 w f.dir 2=false:=by simpa using hc5
    refine w_ (a_ (h:=e_ (A4 (A6 (A6 (?_))))));refine BZ (r:= .v (.int .i64 (Dh w).2)) none (h5:=(by rw[hrm,if_neg k1,if_pos k2,if_neg k3,if_pos k4];exact AA _)) (h6:=⟨rfl,rfl,?_⟩);rw[hrm,if_neg k1,if_pos k2,if_neg k3,if_pos k4];rfl
   have hc5:=bp hb5;have k4:¬C5 w f.dir 2=false:=by simpa using hc5
   refine AB (Bf ([(0,WA w cap),(1,IB w cap),(2,Ar f)]) 15 (h:=AU 0 (h:=AU 1 (h:=BS 2 (h:=AO 3 (h:=AO 4 (h:=AO 5 (h:=AJ 6 (h:=AO 7 (h:=AJ 8 (h:=AO 9 (h:=AJ 10 (h:=?_)))))))))))));refine c_ 11 rfl (AG (hcall1) ?_);rintro r rfl;refine o_ (h:=BX 12 (h:=BX 13 (h:=BX 14 (h:=?_))));refine c_ 15 rfl (Bk [0,1] rfl (.cons _ _ _ _ _ rfl (AA _) (.cons _ _ _ _ _ rfl (AA _) (.cons _ _ _ _ _ rfl (AA _) (.cons _ _ _ _ _ rfl (AA _) .nil)))) (by decide) (.cons _ _ _ _ _ rfl rfl (.cons _ _ _ _ _ rfl (Cy BA _ _ _) .nil)) (LC w cap R1.1 R1.2.1 R1.2.2) ?_);rintro r bc tc ⟨rfl,rfl,rfl⟩;refine⟨rfl,_,DD rfl ((Bh w R1).1) cap,?_⟩;refine o_ (h:=?_);refine c_ 16 rfl (FY rfl ?_);refine o_ (h:=z_ (h:=?_));refine AE ?_
   first|exact⟨_,⟨R1,(by rw[hrm,if_neg k1,if_pos k2,if_neg k3,if_neg k4]),rfl⟩,C8 2 0⟩|exact⟨_,⟨R2,(by rw[hrm,if_neg k1,if_neg k2,if_neg k3,if_neg k4,if_neg k5,if_neg k6]),rfl⟩,C8 2 0⟩
  have hc2:=bp hb2;have k2:¬w.c.num=10:=hc2;refine q_ (w_ (f_ (h:=l_ (h:=AD (h:=e_ (?_))))));refine A8 rfl (fun hb6=>?_) (fun hb6=>?_)
  ·have hc6:=bp hb6;have k3:f.name=⟨#[]⟩:=hc6;refine w_ (a_ (h:=e_ (A4 (A6 (A6 (?_))))));refine BZ (r:= .v (.int .i64 (Dh w).2)) none (h5:=(by rw[hrm,if_neg k1,if_neg k2,if_pos k3];exact AA _)) (h6:=⟨rfl,rfl,?_⟩);rw[hrm,if_neg k1,if_neg k2,if_pos k3];rfl
  have hc6:=bp hb6;have k3:¬f.name=⟨#[]⟩:=hc6;refine AB (q_ (w_ (m_ (h:=?_))));refine A7 rfl (D3 1 rfl (.cons _ _ _ _ _ rfl (LeA.of_eq rfl) (.cons _ _ _ _ _ rfl (AA _) .nil)) (Js w .any 0 f hsb hf) ?_);rintro r rfl;refine⟨rfl,?_⟩;refine B9 (h:=e_ (?_));refine A8 rfl (fun hb7=>?_) (fun hb7=>?_)
  ·have hc7:=bp hb7;have k4:Ay w.s.spc.files f.file=false:=by simpa using hc7
   refine w_ (a_ (h:=e_ (A4 (A6 (A6 (?_))))));refine BZ (r:= .v (.int .i64 (Dh w).2)) none (h5:=(by rw[hrm,if_neg k1,if_neg k2,if_neg k3,if_pos k4];exact AA _)) (h6:=⟨rfl,rfl,?_⟩);rw[hrm,if_neg k1,if_neg k2,if_neg k3,if_pos k4];rfl
  have hc7:=bp hb7;have k4:¬Ay w.s.spc.files f.file=false:=by simpa using hc7
  refine AB (?_);refine BR (fun S=>S=⟨look [(0, .bp 0 0),(3, .bp 2 0),(5, .bp 3 0)],⟨[WA w cap,IB w cap,Ar f,AN y],[]⟩⟩) ?_ ?_
  ·skip
   refine Bf ([(0,WA w cap),(1,IB w cap),(2,Ar f)]) 17 (h:=AU 0 (h:=BS 1 (h:=AO 2 (h:=AO 3 (h:=AO 4 (h:=AJ 5 (h:=AO 6 (h:=AJ 7 (h:=AO 8 (h:=AJ 9 (h:=?_)))))))))));refine F6 10 14 rfl rfl ?_ ?_
   ·refine AG (hl1) ?_;rintro r rfl;refine o_ (h:=?_);refine AU 11 (h:=BX 12 (h:=BX 13 (h:=?_)));refine c_ 14 rfl (CV (by repeat constructor) ?_);refine o_ (h:=?_);refine BH 15 rfl (BC rfl rfl rfl rfl rfl rfl (by repeat constructor) (by repeat constructor) ?_);refine o_ (h:=BO 16 (h:=z_ (h:=?_)));refine AE ?_;exact⟨_,rfl,C8 4 0⟩
   refine CV (by repeat constructor) ?_;refine o_ (h:=?_);refine c_ 10 rfl (AG (hl1) ?_);rintro r rfl;refine o_ (h:=AU 11 (h:=BX 12 (h:=BX 13 (h:=?_))));refine BH 15 rfl (BC rfl rfl rfl rfl rfl rfl (by repeat constructor) (by repeat constructor) ?_);refine o_ (h:=BO 16 (h:=z_ (h:=?_)));refine AE ?_;exact⟨_,rfl,C8 4 0⟩
  rintro S rfl;refine q_ (w_ (m_ (h:=l_ (h:=?_))));refine A7 rfl (D3 1 rfl (.cons _ _ _ _ _ rfl (LeA.of_eq rfl) (.cons _ _ _ _ _ rfl (AA _) .nil)) (V1 w .any y hsb hps) ?_);rintro r rfl;refine⟨rfl,?_⟩;refine e_ (?_);refine A8 rfl (fun hb8=>?_) (fun hb8=>?_)
  ·have hc8:=bp hb8;have k5:Fw w y=true:=hc8;refine w_ (a_ (h:=e_ (A4 (A6 (A6 (?_))))));refine BZ (r:= .v (.int .i64 (Dh w).2)) none (h5:=(by rw[hrm,if_neg k1,if_neg k2,if_neg k3,if_neg k4,if_pos k5];exact AA _)) (h6:=⟨rfl,rfl,?_⟩);rw[hrm,if_neg k1,if_neg k2,if_neg k3,if_neg k4,if_pos k5];rfl
  have hc8:=bp hb8;have k5:¬Fw w y=true:=by simpa using hc8
  refine AB (q_ (w_ (m_ (h:=f_ (h:=l_ (h:=?_))))));refine A7 rfl (D3 1 rfl (.cons _ _ _ _ _ rfl (LeA.of_eq rfl) (.cons _ _ _ _ _ rfl (AA _) (.cons _ _ _ _ _ rfl (AA _) .nil))) (HL w .any f.dir 2 hsb) ?_);rintro r rfl;refine⟨rfl,?_⟩;refine B9 (h:=e_ (?_));refine A8 rfl (fun hb9=>?_) (fun hb9=>?_)
  ·have hc9:=bp hb9;have k6:C5 w f.dir 2=false:=by simpa using hc9
   refine w_ (a_ (h:=e_ (A4 (A6 (A6 (?_))))));refine BZ (r:= .v (.int .i64 (Dh w).2)) none (h5:=(by rw[hrm,if_neg k1,if_neg k2,if_neg k3,if_neg k4,if_neg k5,if_pos k6];exact AA _)) (h6:=⟨rfl,rfl,?_⟩);rw[hrm,if_neg k1,if_neg k2,if_neg k3,if_neg k4,if_neg k5,if_pos k6];rfl
  have hc9:=bp hb9;have k6:¬C5 w f.dir 2=false:=by simpa using hc9
  refine AB (Bf ([(0,WA w cap),(1,IB w cap),(2,Ar f)]) 15 (h:=AU 0 (h:=AU 1 (h:=BS 2 (h:=AO 3 (h:=AO 4 (h:=AO 5 (h:=AJ 6 (h:=AO 7 (h:=AJ 8 (h:=AO 9 (h:=AJ 10 (h:=?_)))))))))))));refine c_ 11 rfl (AG (hcall2) ?_);rintro r rfl;refine o_ (h:=BX 12 (h:=BX 13 (h:=BX 14 (h:=?_))));refine c_ 15 rfl (Bk [0,1] rfl (.cons _ _ _ _ _ rfl (AA _) (.cons _ _ _ _ _ rfl (AA _) (.cons _ _ _ _ _ rfl (AA _) (.cons _ _ _ _ _ rfl (AA _) .nil)))) (by decide) (.cons _ _ _ _ _ rfl rfl (.cons _ _ _ _ _ rfl (Cy BA _ _ _) .nil)) (LC w cap R2.1 R2.2.1 R2.2.2) ?_);rintro r bc tc ⟨rfl,rfl,rfl⟩;refine⟨rfl,_,DD rfl ((Bh w R2).1) cap,?_⟩;refine o_ (h:=?_);refine c_ 16 rfl (FY rfl ?_);refine o_ (h:=z_ (h:=?_));refine AE ?_
  first|exact⟨_,⟨R1,(by rw[hrm,if_neg k1,if_pos k2,if_neg k3,if_neg k4]),rfl⟩,C8 2 0⟩|exact⟨_,⟨R2,(by rw[hrm,if_neg k1,if_neg k2,if_neg k3,if_neg k4,if_neg k5,if_neg k6]),rfl⟩,C8 2 0⟩
 rintro S ⟨R,hrm2,rfl⟩;have hit:(Bh w R).1.r.items=w.r.items:=VU w R;have hxa:(Bh w R).1.r.items[0]?=some x0:=by rw[hit];exact hx0
 have hil1:0<(Bh w R).1.r.items.length:=by rw[hit];exact hil
 refine q_ (w_ (m_ (h:=AD (h:=e_ (?_)))));refine A8 rfl (fun hb10=>?_) (fun hb10=>?_)
 ·have hc10:=bp hb10;have h0:R.2.2=0:=hc10;refine AR (m_ (h:=k_ (h:=f_ (h:=f_ (h:=l_ (h:=?_))))));refine A7 rfl (DE (m:=0) rfl rfl rfl hil1 ?_);refine f_ (h:=?_);refine K1 (BC rfl rfl rfl rfl rfl rfl (JJ BA (x':={x0 with role:=3}) hxa (by repeat constructor) (List.cons_ne_nil _ _)) (by repeat constructor) ?_);refine e_ (w_ (m_ (h:=a_ (h:=e_ (A4 (?_))))));refine BZ (r:= .v (.int .i64 (Dh w).2)) none (h5:=(by rw[hrm2,GK,if_neg (by simp[h0])];exact LeA.of_eq (vi h0))) (h6:=⟨rfl,rfl,?_⟩);rw[hrm2,GK,if_neg (by simp[h0])];rw[V8,V9 hxa];rfl
 have hc10:=bp hb10;have h0:¬R.2.2=0:=hc10;refine AB (w_ (m_ (h:=a_ (h:=e_ (A4 (?_))))));refine BZ (r:= .v (.int .i64 (Dh w).2)) none (h5:=(by rw[hrm2,GK,if_pos h0];exact AA _)) (h6:=⟨rfl,rfl,?_⟩);rw[hrm2,GK,if_pos h0];rw[OG h0];rfl
theorem VW(w:Wrk)(cap:Nat)(f:Fnd)(hv:SpcV w.s.spc)(hm:w.s.spc.mounts.length≤1000)(hf:w.found[0]?=some f):ACall prog 149 [.bp 0 0] [WA w cap,IB w cap] (fun r b t=>t=[]∧r= .v (.int .i64 (Ed w).2)∧b=[WA (Ed w).1 cap,IB (Ed w).1 cap]):=by
 have hsb:=hv.b hm;have hrow0:(w.found.map Ar)[0]?=some (Ar f):=by rw[List.getElem?_map,hf];rfl
 have hfn:B7 w 0=f:=by unfold B7;rw[hf];rfl
 obtain⟨n,hnd⟩:∃n,n=B5 w.s.spc.files f.file:=⟨_,rfl⟩;have hnode:AFn prog 123 [.agg (B0 w.s.spc.files), .agg (AN f.file)] (fun r=>r= .tup [.agg (Am n), .v (.bool (Dz w.s.spc.files f.file))]):=by rw[hnd];exact E0 _ _ hsb.files
 have hat:Ed w=if f.ex=false then(w,2)else if w.c.num=14 then(if w.p.euid≠0∧w.p.euid≠n.uid then(w,1)else Hr w (EL w.s.spc.files f.file w.c.a0 n.uid n.gid))else if w.p.euid≠0 then(w,1)else Hr w (EL w.s.spc.files f.file n.mode w.c.a0 w.c.a1):=by
  unfold Ed;rw[hfn,←hnd]
 clear hnd;refine enter Tryz.func149 rfl rfl rfl rfl rfl 2 rfl ?_;refine w_ (a_ (h:=e_ (w_ (m_ (h:=k_ (h:=f_ (h:=l_ (h:=?_))))))));refine A7 rfl (Cl (n:=0) rfl rfl rfl hrow0 ?_);refine l_ (h:=Al (h:=s_ (h:=e_ (q_ (w_ (f_ (h:=l_ (h:=B9 (h:=e_ (?_))))))))));refine A8 rfl (fun hb1=>?_) (fun hb1=>?_)
 ·have hc1:=bp hb1;have k1:f.ex=false:=by simpa using hc1
  refine w_ (a_ (h:=e_ (A4 (A6 (?_)))));refine BZ (r:= .v (.int .i64 (Ed w).2)) none (h5:=(by rw[hat,if_pos k1];exact AA _)) (h6:=⟨rfl,rfl,?_⟩);rw[hat,if_pos k1];rfl
 have hc1:=bp hb1;have k1:¬f.ex=false:=by simpa using hc1
 refine AB (?_);refine BR (fun S=>S=⟨look [(0, .bp 0 0),(3, .bp 2 0),(4, .bp 3 0)],⟨[WA w cap,IB w cap,Ar f,Am n],[]⟩⟩) ?_ ?_
 ·skip
  refine Bf ([(0,WA w cap),(1,IB w cap),(2,Ar f)]) 15 (h:=AU 0 (h:=BS 1 (h:=AO 2 (h:=AO 3 (h:=AO 4 (h:=AJ 5 (h:=AO 6 (h:=AJ 7 (h:=?_)))))))));refine F6 8 12 rfl rfl ?_ ?_
  ·refine AG (hnode) ?_;rintro r rfl;refine o_ (h:=?_);refine AU 9 (h:=BX 10 (h:=BX 11 (h:=?_)));refine c_ 12 rfl (CV (by repeat constructor) ?_);refine o_ (h:=?_);refine BH 13 rfl (BC rfl rfl rfl rfl rfl rfl (by repeat constructor) (by repeat constructor) ?_);refine o_ (h:=BO 14 (h:=z_ (h:=?_)));refine AE ?_;exact⟨_,rfl,C8 4 0⟩
  refine CV (by repeat constructor) ?_;refine o_ (h:=?_);refine c_ 8 rfl (AG (hnode) ?_);rintro r rfl;refine o_ (h:=AU 9 (h:=BX 10 (h:=BX 11 (h:=?_))));refine BH 13 rfl (BC rfl rfl rfl rfl rfl rfl (by repeat constructor) (by repeat constructor) ?_);refine o_ (h:=BO 14 (h:=z_ (h:=?_)));refine AE ?_;exact⟨_,rfl,C8 4 0⟩
 rintro S rfl;refine BR (fun S=>∃m u g,Ed w=Hr w (EL w.s.spc.files f.file m u g)∧S=⟨look [(0, .bp 0 0),(3, .bp 2 0),(4, .bp 3 0)],⟨[WA w cap,IB w cap,Ar f,Am {n with mode:=m,uid:=u,gid:=g}],[]⟩⟩) ?_ ?_
 ·skip
  refine w_ (m_ (h:=k_ (h:=f_ (h:=f_ (h:=l_ (h:=AD (h:=e_ (?_))))))));refine A8 rfl (fun hb2=>?_) (fun hb2=>?_)
  ·have hc2:=bp hb2;have k2:w.c.num=14:=hc2;refine q_ (?_);refine BR (fun S=>S=⟨look [(0, .bp 0 0),(3, .bp 2 0),(4, .bp 3 0),(50, .v (.bool (!decide (w.p.euid=0)&& !decide (w.p.euid=n.uid))))],⟨[WA w cap,IB w cap,Ar f,Am n],[]⟩⟩) ?_ ?_
   ·skip
    refine Cp 16 (h:=AU 0 (h:=BS 1 (h:=AO 2 (h:=AO 3 (h:=AJ 4 (h:=Lh 5 (h:=AU 6 (h:=?_))))))));refine G5 (j:=6) rfl (fun hb3=>?_) (fun hb3=>?_)
    ·have hc3:=bp hb3;refine AU 7 (h:=BS 8 (h:=AO 9 (h:=AO 10 (h:=AJ 11 (h:=AO 12 (h:=AJ 13 (h:=Lh 14 (h:=Fb 15 (h:=z_ (h:=?_))))))))));refine AE ?_;exact⟨_,rfl,CG 4 0 (by simp[Af,Ac,Aa,Bm BA,BM,WA,IB,CH,Ar,Am,AN,As,BK,B0])⟩
    have hc3:=bp hb3;refine BG 7 (h:=BG 8 (h:=BG 9 (h:=BG 10 (h:=BG 11 (h:=BG 12 (h:=BG 13 (h:=BG 14 (h:=Fc 15 (h:=z_ (h:=?_))))))))));refine AE ?_;exact⟨_,rfl,CG 4 0 (by simp[Af,Ac,Aa,Bm BA,BM,WA,IB,CH,Ar,Am,AN,As,BK,B0])⟩
   rintro S rfl;refine A8 rfl (fun hb4=>?_) (fun hb4=>?_)
   ·have hc4:=bp hb4;have k3:w.p.euid≠0∧w.p.euid≠n.uid:=by simpa using hc4
    refine w_ (a_ (h:=e_ (A4 (A6 (A6 (?_))))));refine BZ (r:= .v (.int .i64 (Ed w).2)) none (h5:=(by rw[hat,if_neg k1,if_pos k2,if_pos k3];exact AA _)) (h6:=⟨rfl,rfl,?_⟩);rw[hat,if_neg k1,if_pos k2,if_pos k3];rfl
   have hc4:=bp hb4;have k3:¬(w.p.euid≠0∧w.p.euid≠n.uid):=by simpa using hc4
   refine AB (AR (m_ (h:=k_ (h:=f_ (h:=f_ (h:=?_))))));refine A7 rfl (BW (len:=4) (sz:=1) (n:=0) (by kernel_rfl) rfl rfl rfl rfl ?_);refine l_ (h:=f_ (h:=s_ (h:=AP (?_))));refine AE ?_
   first|exact⟨_,⟨w.c.a0,n.uid,n.gid,(by rw[hat,if_neg k1,if_pos k2,if_neg k3]),rfl⟩,C8 4 0⟩|exact⟨_,⟨n.mode,w.c.a0,w.c.a1,(by rw[hat,if_neg k1,if_neg k2,if_neg k3]),rfl⟩,C8 4 0⟩
  have hc2:=bp hb2;have k2:¬w.c.num=14:=hc2;refine q_ (w_ (m_ (h:=k_ (h:=f_ (h:=f_ (h:=l_ (h:=Ap (h:=e_ (?_)))))))));refine A8 rfl (fun hb5=>?_) (fun hb5=>?_)
  ·have hc5:=bp hb5;have k3:w.p.euid≠0:=by simpa using hc5
   refine w_ (a_ (h:=e_ (A4 (A6 (A6 (?_))))));refine BZ (r:= .v (.int .i64 (Ed w).2)) none (h5:=(by rw[hat,if_neg k1,if_neg k2,if_pos k3];exact AA _)) (h6:=⟨rfl,rfl,?_⟩);rw[hat,if_neg k1,if_neg k2,if_pos k3];rfl
  have hc5:=bp hb5;have k3:¬w.p.euid≠0:=by simpa using hc5
  refine AB (Bf ([(0,WA w cap),(1,IB w cap),(2,Ar f)]) 16 (h:=AU 0 (h:=BS 1 (h:=AO 2 (h:=AO 3 (h:=?_))))));refine BF 4 rfl (fun _ hS=>BW (len:=4) (sz:=1) (n:=0) (by kernel_rfl) rfl rfl rfl rfl ⟨rfl,rfl⟩) ?_;refine AJ 5 (h:=AU 6 (h:=BS 7 (h:=AO 8 (h:=AO 9 (h:=?_)))));refine BF 10 rfl (fun _ hS=>BW (len:=4) (sz:=1) (n:=1) (by kernel_rfl) rfl rfl rfl rfl ⟨rfl,rfl⟩) ?_;refine AJ 11 (h:=AO 12 (h:=?_));refine BH 13 rfl (BC rfl rfl rfl rfl rfl rfl (by repeat constructor) (by repeat constructor) ?_);refine o_ (h:=AO 14 (h:=?_));refine BH 15 rfl (BC rfl rfl rfl rfl rfl rfl (by repeat constructor) (by repeat constructor) ?_);refine o_ (h:=z_ (h:=?_));refine AE ?_
  first|exact⟨_,⟨w.c.a0,n.uid,n.gid,(by rw[hat,if_neg k1,if_pos k2,if_neg k3]),rfl⟩,C8 4 0⟩|exact⟨_,⟨n.mode,w.c.a0,w.c.a1,(by rw[hat,if_neg k1,if_neg k2,if_neg k3]),rfl⟩,C8 4 0⟩
 rintro S ⟨m,u,g,hat2,rfl⟩;obtain⟨R,hR⟩:∃R,R=EL w.s.spc.files f.file m u g:=⟨_,rfl⟩;have hset:AFn prog 176 [.agg (B0 w.s.spc.files), .agg (AN f.file), .v (.int .i64 m), .v (.int .i64 u), .v (.int .i64 g)] (fun r=>r=MD R):=by rw[hR];exact Yj _ _ _ _ _ hv.files
 rw[←hR]at hat2;clear hR;refine BR (fun S=>S=⟨look [(0, .bp 0 0),(6, .bp 4 0),(7, .v (.int .i64 R.2))],⟨[WA w cap,IB w cap,Ar f,Am {n with mode:=m,uid:=u,gid:=g},B0 R.1],[]⟩⟩) ?_ ?_
 ·skip
  refine Bf ([(0,WA w cap),(1,IB w cap),(2,Ar f),(3,Am {n with mode:=m,uid:=u,gid:=g})]) 21 (h:=AU 0 (h:=BS 1 (h:=AO 2 (h:=AO 3 (h:=AO 4 (h:=AJ 5 (h:=AO 6 (h:=AJ 7 (h:=AO 8 (h:=AJ 9 (h:=AO 10 (h:=AJ 11 (h:=AO 12 (h:=AJ 13 (h:=?_)))))))))))))));refine F6 14 18 rfl rfl ?_ ?_
  ·refine AG (hset) ?_;rintro r rfl;refine o_ (h:=?_);refine AU 15 (h:=BX 16 (h:=BX 17 (h:=?_)));refine c_ 18 rfl (CV (by repeat constructor) ?_);refine o_ (h:=?_);refine BH 19 rfl (BC rfl rfl rfl rfl rfl rfl (by repeat constructor) (by repeat constructor) ?_);refine o_ (h:=BO 20 (h:=z_ (h:=?_)));refine AE ?_;exact⟨_,rfl,C8 5 0⟩
  refine CV (by repeat constructor) ?_;refine o_ (h:=?_);refine c_ 14 rfl (AG (hset) ?_);rintro r rfl;refine o_ (h:=AU 15 (h:=BX 16 (h:=BX 17 (h:=?_))));refine BH 19 rfl (BC rfl rfl rfl rfl rfl rfl (by repeat constructor) (by repeat constructor) ?_);refine o_ (h:=BO 20 (h:=z_ (h:=?_)));refine AE ?_;exact⟨_,rfl,C8 5 0⟩
 rintro S rfl;refine w_ (m_ (h:=l_ (h:=m_ (h:=?_))));refine A7 rfl (Bk [0,1] rfl (.cons _ _ _ _ _ rfl (AA _) (.cons _ _ _ _ _ rfl (AA _) (.cons _ _ _ _ _ rfl (LeA.nil _) (.cons _ _ _ _ _ rfl (AA _) .nil)))) (by decide) (.cons _ _ _ _ _ rfl rfl (.cons _ _ _ _ _ rfl (Cy BA _ _ _) .nil)) (LC w cap R.1 [] R.2) ?_);rintro r bc tc ⟨rfl,rfl,rfl⟩;refine⟨rfl,_,DD rfl (Bh w (R.1,[],R.2)).1 cap,?_⟩;refine a_ (h:=e_ (A4 (?_)));refine BZ (r:= .v (.int .i64 (Ed w).2)) none (h5:=(by rw[hat2,Hr,bY];exact AA _)) (h6:=⟨rfl,rfl,?_⟩);rw[hat2,Hr];rfl
end
end Go.Proofs.YtbgnigjfkbmceaaGreatDoor
