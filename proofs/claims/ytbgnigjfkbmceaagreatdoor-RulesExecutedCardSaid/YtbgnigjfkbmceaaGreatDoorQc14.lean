/-
  Part 14 of the proof of RulesExecutedP: what the statement's proof uses of the texts in wip/tpl.
-/
import Derived.Test.YtbgnigjfkbmceaaGreatDoorQc13
open Go.Proofs.Tryz (prog)
set_option maxRecDepth 10000
set_option maxHeartbeats 4000000
set_option linter.unusedVariables false
set_option linter.unusedSimpArgs false
namespace Go.Proofs.YtbgnigjfkbmceaaGreatDoor
open Go.RowKit
theorem cK(x:BitVec 64):(x &&& ~~~ 4294967295#64)=0#64↔x.toNat<4294967296:=by
 have hc:(x &&& 4294967295#64).toNat=x.toNat % 4294967296:=by
  rw[BitVec.toNat_and];exact Nat.and_two_pow_sub_one_eq_mod x.toNat 32
 have hs:x=(x &&& 4294967295#64) ||| (x &&& ~~~ 4294967295#64):=by
  apply BitVec.eq_of_getLsbD_eq;intro i hi;simp only[BitVec.getLsbD_or,BitVec.getLsbD_and,BitVec.getLsbD_not,hi];cases x.getLsbD i<;>cases (4294967295#64).getLsbD i<;>simp
 constructor
 ·intro h;rw[h,BitVec.or_zero]at hs;have:=congrArg BitVec.toNat hs;omega
 intro h
 have e:x &&& 4294967295#64=x:=by
  apply BitVec.eq_of_toNat_eq;rw[hc];omega
 rw[←e,BitVec.and_assoc];have:(4294967295#64 &&& ~~~ 4294967295#64)=0#64:=by decide
 rw[this,BitVec.and_zero]
theorem cL{m:Int}(h1:0≤m)(h2:m<18446744073709551616):NN .u64 m 4294967295=0↔m<4294967296:=by
 have e:NN .u64 m 4294967295=(((BitVec.ofInt 64 m &&& ~~~ 4294967295#64).toNat:Nat):Int):=by
  show IntKind.u64.wrap ((BitVec.ofInt 64 m &&& ~~~ 4294967295#64).toNat:Nat)=_;have h:=(BitVec.ofInt 64 m &&& ~~~ 4294967295#64).isLt;generalize (BitVec.ofInt 64 m &&& ~~~ 4294967295#64).toNat=n at h;simp only[IntKind.wrap,IntKind.signed,IntKind.bits];simp;omega
 rw[e]
 have hn:(BitVec.ofInt 64 m).toNat=m.toNat:=by
  rw[BitVec.toNat_ofInt];omega
 have h:=cK (BitVec.ofInt 64 m);rw[hn]at h;constructor
 ·intro k;have:(BitVec.ofInt 64 m &&& ~~~ 4294967295#64)=0#64:=BitVec.eq_of_toNat_eq (by simpa using Int.ofNat_inj.1 k);have:=h.1 this;omega
 intro k;rw[h.2 (by omega)];rfl
theorem cM{m:Int}(h1:0≤m):Ja .u64 m 32=0↔m<4294967296:=by
 show m.fdiv (2 ^ min (32:Int).toNat 64)=0↔_;rw[show((2:Int) ^ min (32:Int).toNat 64)=4294967296 by decide,Int.fdiv_eq_ediv_of_nonneg _ (by omega)];omega
def DP(r:Rul):Prop:=0≤r.calls∧r.calls<18446744073709551616∧r.path.size≤50000∧r.tests.length≤1000
def CJ(r:Rul):Bool:=
 if r.watch=0 then decide (r.path=⟨#[]⟩∧r.perm=0)
 else decide ((r.watch=1∨r.watch=2)∧r.list=3∧FP r.path.data.toList=true∧(r.path.size:Int)≤128∧1≤r.perm∧r.perm≤15)
def Gu(list:Int):List Tst→Int
 |[]=>0
 |t::ts=>if Bg t list=0 then Gu list ts else Bg t list
theorem OJ{list:Int}{l:List Tst}{j:Nat}{t:Tst}(ht:l[j]?=some t):Gu list (l.drop j)=if Bg t list=0 then Gu list (l.drop (j+1))else Bg t list:=by
 obtain⟨hk,e⟩:=At.1 ht;rw[List.drop_eq_getElem_cons hk,Gu,e]
theorem VL{list:Int}{l:List Tst}:Gu list (l.drop l.length)=0:=by simp[Gu]
def E5(r:Rul):Bool:=if r.list=2∨r.list=3 then decide (r.calls=0∨¬r.calls<4294967296)else decide (r.calls≠0)
def BQ(r:Rul):Int:=
 if r.list<1∨5<r.list then 130 else if r.action≠1∧r.action≠2 then 131 else if E5 r=true then 132 else if 8<(r.tests.length:Int)then 133
 else if Gu r.list r.tests≠0 then Gu r.list r.tests else if CJ r=false then 134 else if 31<(r.key.size:Int)then 135 else 0
section
theorem cN(f:Int):AFn prog 166 [.v (.int .i64 f)] (fun r=>r= .v (.bool (decide (f=2∨f=3)))):=by
 refine enter Tryz.func166 rfl rfl rfl rfl rfl 0 rfl ?_;refine w_ (a_ (h:=e_ (w_ (m_ (h:=AD (h:=m_ (h:=?_)))))));refine AW false rfl rfl (fun hb1=>?_) (fun hb1=>?_)
 ·have hc1:=bp hb1;refine A3 (h:=A3 (h:=AF (h:=a_ (h:=e_ (A4 (?_))))));refine A9 ?_
  first|(exfalso;first|contradiction|omega)|(exact vb (by simp[*]))
 have hc1:=bp hb1;refine m_ (h:=AD (h:=AM (h:=a_ (h:=e_ (A4 (?_))))));refine A9 ?_
 first|(exfalso;first|contradiction|omega)|(exact vb (by simp[*]))
theorem cO(m:Int)(h1:0≤m)(h2:m<18446744073709551616):AFn prog 167 [.v (.int .u64 m)] (fun r=>r= .v (.bool (decide (m<4294967296)))):=by
 refine enter Tryz.func167 rfl rfl rfl rfl rfl 0 rfl ?_;refine w_ (a_ (h:=e_ (w_ (m_ (h:=at_ (h:=AD (h:=a_ (h:=e_ (A4 (?_))))))))));refine A9 ?_
 first|(exfalso;first|contradiction|omega)|(exact vb (by exact decide_eq_decide.2 (cL h1 h2)))
theorem cP(m:Int)(h1:0≤m):AFn prog 154 [.v (.int .u64 m)] (fun r=>r= .v (.bool (decide (m<4294967296)))):=by
 refine enter Tryz.func154 rfl rfl rfl rfl rfl 0 rfl ?_;refine w_ (a_ (h:=e_ (w_ (m_ (h:=Li (h:=AD (h:=a_ (h:=e_ (A4 (?_))))))))));refine A9 ?_
 first|(exfalso;first|contradiction|omega)|(exact vb (by exact decide_eq_decide.2 (cM h1)))
theorem cQ(r:Rul)(hp:r.path.size≤50000):AFn prog 168 [.agg (Az r)] (fun x=>x= .v (.bool (CJ r))):=by
 refine enter Tryz.func168 rfl rfl rfl rfl rfl 0 rfl ?_;refine w_ (b_ (h:=a_ (h:=e_ (q_ (w_ (f_ (h:=l_ (h:=e_ (Ag (w_ (AD (h:=a_ (h:=e_ (?_))))))))))))));refine A8 rfl (fun hb1=>?_) (fun hb1=>?_)
 ·have hc1:=bp hb1;refine w_ (f_ (h:=l_ (h:=AD (h:=m_ (h:=?_)))));refine AW true rfl rfl (fun hb2=>?_) (fun hb2=>?_)
  ·have hc2:=bp hb2;refine f_ (h:=l_ (h:=AD (h:=AF (h:=a_ (h:=e_ (A4 (AK (A6 (?_)))))))));refine A9 ?_
   first|(exfalso;first|contradiction|omega)|(exact vb (by unfold CJ;simp[*]))
  have hc2:=bp hb2;refine A3 (h:=A3 (h:=A3 (h:=AM (h:=a_ (h:=e_ (A4 (AK (A6 (?_)))))))));refine A9 ?_
  first|(exfalso;first|contradiction|omega)|(exact vb (by unfold CJ;simp[*]))
 have hc1:=bp hb1;refine q_ (w_ (AD (h:=a_ (h:=e_ (?_)))));refine A8 rfl (fun hb3=>?_) (fun hb3=>?_)
 ·have hc3:=bp hb3;refine AB (B8 (h:=w_ (f_ (h:=l_ (h:=AD (h:=m_ (h:=?_)))))));refine AW true rfl rfl (fun hb4=>?_) (fun hb4=>?_)
  ·have hc4:=bp hb4;refine f_ (h:=l_ (h:=?_));refine B4 (AG (VK r.path (by omega)) ?_);rintro r rfl;refine AF (h:=m_ (h:=?_));refine AW true rfl rfl (fun hb5=>?_) (fun hb5=>?_)
   ·have hc5:=bp hb5;refine f_ (h:=l_ (h:=n_ (h:=E6 (h:=AF (h:=m_ (h:=?_))))));refine AW true rfl rfl (fun hb6=>?_) (fun hb6=>?_)
    ·have hc6:=bp hb6;refine f_ (h:=l_ (h:=Cw (h:=AF (h:=m_ (h:=?_)))));refine AW true rfl rfl (fun hb7=>?_) (fun hb7=>?_)
     ·have hc7:=bp hb7;refine f_ (h:=l_ (h:=E6 (h:=AF (h:=a_ (h:=e_ (A4 (AK (A6 (?_)))))))));refine A9 ?_
      first|(exfalso;first|contradiction|omega)|(exact vb (by unfold CJ;simp[*]))
     have hc7:=bp hb7;refine A3 (h:=A3 (h:=A3 (h:=AM (h:=a_ (h:=e_ (A4 (AK (A6 (?_)))))))));refine A9 ?_
     first|(exfalso;first|contradiction|omega)|(exact vb (by unfold CJ;simp[*]))
    have hc6:=bp hb6;refine A3 (h:=A3 (h:=A3 (h:=AM (h:=m_ (h:=A3 (h:=A3 (h:=A3 (h:=AM (h:=a_ (h:=e_ (A4 (AK (A6 (?_))))))))))))));refine A9 ?_
    first|(exfalso;first|contradiction|omega)|(exact vb (by unfold CJ;simp[*]))
   have hc5:=bp hb5;refine A3 (h:=A3 (h:=A3 (h:=A3 (h:=AM (h:=m_ (h:=A3 (h:=A3 (h:=A3 (h:=AM (h:=m_ (h:=A3 (h:=A3 (h:=A3 (h:=AM (h:=a_ (h:=e_ (A4 (AK (A6 (?_))))))))))))))))))));refine A9 ?_
   first|(exfalso;first|contradiction|omega)|(exact vb (by unfold CJ;simp[*]))
  have hc4:=bp hb4;refine A3 (h:=A3 (h:=A3 (h:=AM (h:=m_ (h:=A3 (h:=A3 (h:=A3 (h:=A3 (h:=AM (h:=m_ (h:=A3 (h:=A3 (h:=A3 (h:=AM (h:=m_ (h:=A3 (h:=A3 (h:=A3 (h:=AM (h:=a_ (h:=e_ (A4 (AK (?_))))))))))))))))))))))));refine A6 (?_);refine A9 ?_
  first|(exfalso;first|contradiction|omega)|(exact vb (by unfold CJ;simp[*]))
 have hc3:=bp hb3;refine AR (AD (h:=a_ (h:=e_ (?_))));refine A8 rfl (fun hb8=>?_) (fun hb8=>?_)
 ·have hc8:=bp hb8;refine w_ (f_ (h:=l_ (h:=AD (h:=m_ (h:=?_)))));refine AW true rfl rfl (fun hb9=>?_) (fun hb9=>?_)
  ·have hc9:=bp hb9;refine f_ (h:=l_ (h:=?_));refine B4 (AG (VK r.path (by omega)) ?_);rintro r rfl;refine AF (h:=m_ (h:=?_));refine AW true rfl rfl (fun hb10=>?_) (fun hb10=>?_)
   ·have hc10:=bp hb10;refine f_ (h:=l_ (h:=n_ (h:=E6 (h:=AF (h:=m_ (h:=?_))))));refine AW true rfl rfl (fun hb11=>?_) (fun hb11=>?_)
    ·have hc11:=bp hb11;refine f_ (h:=l_ (h:=Cw (h:=AF (h:=m_ (h:=?_)))));refine AW true rfl rfl (fun hb12=>?_) (fun hb12=>?_)
     ·have hc12:=bp hb12;refine f_ (h:=l_ (h:=E6 (h:=AF (h:=a_ (h:=e_ (A4 (AK (A6 (?_)))))))));refine A9 ?_
      first|(exfalso;first|contradiction|omega)|(exact vb (by unfold CJ;simp[*]))
     have hc12:=bp hb12;refine A3 (h:=A3 (h:=A3 (h:=AM (h:=a_ (h:=e_ (A4 (AK (A6 (?_)))))))));refine A9 ?_
     first|(exfalso;first|contradiction|omega)|(exact vb (by unfold CJ;simp[*]))
    have hc11:=bp hb11;refine A3 (h:=A3 (h:=A3 (h:=AM (h:=m_ (h:=A3 (h:=A3 (h:=A3 (h:=AM (h:=a_ (h:=e_ (A4 (AK (A6 (?_))))))))))))));refine A9 ?_
    first|(exfalso;first|contradiction|omega)|(exact vb (by unfold CJ;simp[*]))
   have hc10:=bp hb10;refine A3 (h:=A3 (h:=A3 (h:=A3 (h:=AM (h:=m_ (h:=A3 (h:=A3 (h:=A3 (h:=AM (h:=m_ (h:=A3 (h:=A3 (h:=A3 (h:=AM (h:=a_ (h:=e_ (A4 (AK (A6 (?_))))))))))))))))))));refine A9 ?_
   first|(exfalso;first|contradiction|omega)|(exact vb (by unfold CJ;simp[*]))
  have hc9:=bp hb9;refine A3 (h:=A3 (h:=A3 (h:=AM (h:=m_ (h:=A3 (h:=A3 (h:=A3 (h:=A3 (h:=AM (h:=m_ (h:=A3 (h:=A3 (h:=A3 (h:=AM (h:=m_ (h:=A3 (h:=A3 (h:=A3 (h:=AM (h:=a_ (h:=e_ (A4 (AK (?_))))))))))))))))))))))));refine A6 (?_);refine A9 ?_
  first|(exfalso;first|contradiction|omega)|(exact vb (by unfold CJ;simp[*]))
 have hc8:=bp hb8;refine Au (Ah (t_ (w_ (a_ (h:=e_ (A4 (?_)))))));refine A9 ?_
 first|(exfalso;first|contradiction|omega)|(exact vb (by unfold CJ;simp[*]))
theorem Qr(r:Rul)(hr:DP r):AFn prog 116 [.agg (Az r)] (fun x=>x= .v (.int .i64 (BQ r))):=by
 obtain⟨m1,m2,hp,hl⟩:=hr;refine enter Tryz.func116 rfl rfl rfl rfl rfl 0 rfl ?_;refine w_ (b_ (h:=a_ (h:=e_ (q_ (w_ (f_ (h:=l_ (h:=BB (h:=m_ (h:=?_))))))))));refine AW false rfl rfl (fun hb1=>?_) (fun hb1=>?_)
 ·have hc1:=bp hb1;refine A3 (h:=A3 (h:=A3 (h:=AF (h:=e_ (B8 (h:=w_ (a_ (h:=e_ (A4 (A6 (?_)))))))))));refine A9 ?_
  first|(exfalso;first|contradiction|omega)|(exact vi (by first|(unfold BQ;grind)|(unfold BQ E5;grind)))
 have hc1:=bp hb1;refine f_ (h:=l_ (h:=Bl (h:=AM (h:=e_ (?_)))));refine A8 rfl (fun hb2=>?_) (fun hb2=>?_)
 ·have hc2:=bp hb2;refine w_ (a_ (h:=e_ (A4 (A6 (?_)))));refine A9 ?_
  first|(exfalso;first|contradiction|omega)|(exact vi (by first|(unfold BQ;grind)|(unfold BQ E5;grind)))
 have hc2:=bp hb2;refine AB (?_);refine NM (⟨look [(1, .bp 0 0),(2, .v (.int .i64 0))],⟨[Az r],[]⟩⟩) (¬(r.action≠1∧r.action≠2)) ?_ (fun hA=>?_)
 ·skip
  refine w_ (f_ (h:=l_ (h:=Ap (h:=m_ (h:=?_)))));refine AW true rfl rfl (fun hb3=>?_) (fun hb3=>?_)
  ·have hc3:=bp hb3;refine f_ (h:=l_ (h:=Ap (h:=AF (h:=e_ (?_)))));refine A8 rfl (fun hb4=>?_) (fun hb4=>?_)
   ·have hc4:=bp hb4;refine w_ (a_ (h:=e_ (A4 (A6 (?_)))));refine A9 ?_
    first|(exfalso;first|contradiction|omega)|(exact vi (by first|(unfold BQ;grind)|(unfold BQ E5;grind)))
   have hc4:=bp hb4;refine Au (?_);refine AE ?_
   first|(exfalso;first|contradiction|omega)|exact⟨(by omega),CG 1 0 rfl⟩
  have hc3:=bp hb3;refine A3 (h:=A3 (h:=A3 (h:=AM (h:=e_ (Bp (h:=Au (?_)))))));refine AE ?_
  first|(exfalso;first|contradiction|omega)|exact⟨(by omega),CG 1 0 rfl⟩
 skip
 refine NM (⟨look [(1, .bp 0 0),(2, .v (.int .i64 0))],⟨[Az r],[]⟩⟩) (E5 r=false) ?_ (fun hB=>?_)
 ·skip
  refine w_ (f_ (h:=l_ (h:=?_)));refine A7 rfl (AG (cN _) ?_);rintro r rfl;refine e_ (?_);refine A8 rfl (fun hb5=>?_) (fun hb5=>?_)
  ·have hc5:=bp hb5;refine w_ (f_ (h:=l_ (h:=AD (h:=m_ (h:=?_)))));refine AW false rfl rfl (fun hb6=>?_) (fun hb6=>?_)
   ·have hc6:=bp hb6;refine A3 (h:=A3 (h:=A3 (h:=A3 (h:=AF (h:=e_ (B8 (h:=w_ (a_ (h:=e_ (A4 (A6 (?_))))))))))));refine A9 ?_
    first|(exfalso;first|contradiction|omega)|(exact vi (by first|(unfold BQ;grind)|(unfold BQ E5;grind)))
   have hc6:=bp hb6;refine f_ (h:=l_ (h:=?_));refine B4 (AG (cO _ m1 m2) ?_);rintro r rfl;refine B9 (h:=AM (h:=e_ (?_)));refine A8 rfl (fun hb7=>?_) (fun hb7=>?_)
   ·have hc7:=bp hb7;refine w_ (a_ (h:=e_ (A4 (A6 (?_)))));refine A9 ?_
    first|(exfalso;first|contradiction|omega)|(exact vi (by first|(unfold BQ;grind)|(unfold BQ E5;grind)))
   have hc7:=bp hb7;refine Au (?_);refine AE ?_
   first|(exfalso;first|contradiction|omega)|exact⟨(by unfold E5;grind),CG 1 0 rfl⟩
  have hc5:=bp hb5;refine w_ (f_ (h:=l_ (h:=Ap (h:=e_ (?_)))));refine A8 rfl (fun hb8=>?_) (fun hb8=>?_)
  ·have hc8:=bp hb8;refine w_ (a_ (h:=e_ (A4 (A6 (?_)))));refine A9 ?_
   first|(exfalso;first|contradiction|omega)|(exact vi (by first|(unfold BQ;grind)|(unfold BQ E5;grind)))
  have hc8:=bp hb8;refine Au (?_);refine AE ?_
  first|(exfalso;first|contradiction|omega)|exact⟨(by unfold E5;grind),CG 1 0 rfl⟩
 skip
 refine q_ (w_ (f_ (h:=l_ (h:=n_ (h:=Bl (h:=e_ (?_)))))));refine A8 rfl (fun hb9=>?_) (fun hb9=>?_)
 ·have hc9:=bp hb9;refine w_ (a_ (h:=e_ (A4 (A6 (?_)))));refine A9 ?_
  first|(exfalso;first|contradiction|omega)|(exact vi (by first|(unfold BQ;grind)|(unfold BQ E5;grind)))
 have hc9:=bp hb9;rw[List.length_map]at hc9;refine AB (q_ (w_ (f_ (h:=l_ (h:=n_ (h:=m_ (h:=e_ (Ag (?_)))))))));refine Be (fun n s=>∃j:Nat,j≤r.tests.length∧n=r.tests.length - j∧Gu r.list (r.tests.drop j)=Gu r.list r.tests∧s=⟨look [(1, .bp 0 0),(2, .v (.int .i64 0)),(42, .sl 5 (r.tests.map C3) none),(43, .v (.int .i64 ((r.tests.map C3).length:Int))),(44, .v (.int .i64 (j:Int)))],⟨[Az r],[]⟩⟩) (r.tests.length) ((wk 1 0)) (⟨0,by omega,rfl,rfl,rfl⟩) ?_;rintro n s ⟨j,hj,rfl,ha,rfl⟩;refine w_ (BB (h:=e_ (q_ (?_))));refine A8 rfl (fun hb10=>?_) (fun hb10=>?_)
 ·have hc10:=bp hb10;obtain⟨hlt,t,hy,hrow, -⟩:=C1 C3 hc10;refine AB (q_ (Ag (w_ (i_ (h:=l_ (h:=Al (h:=s_ (h:=e_ (w_ (l_ (h:=f_ (h:=l_ (h:=?_)))))))))))));refine A7 rfl (AG (SN t _) ?_);rintro r rfl;refine a_ (h:=e_ (w_ (m_ (h:=Ap (h:=e_ (?_))))));refine A8 rfl (fun hb11=>?_) (fun hb11=>?_)
  ·have hc11:=bp hb11;rw[OJ hy,if_neg hc11]at ha;refine w_ (m_ (h:=a_ (h:=e_ (A4 (AK (A6 (A6 (AK (A6 (?_))))))))));refine A9 ?_
   first|(exfalso;first|contradiction|omega)|(exact vi (by first|(unfold BQ;grind)|(unfold BQ E5;grind)))
  have hc11:=bp hb11;refine Au (Ah (t_ (AR (BD (h:=m_ (h:=AP (?_)))))));refine AE ?_;refine⟨_,_,?_,⟨j+1,by omega,rfl,(by rw[←ha,OJ hy,if_pos (by omega)]),rfl⟩,(wk 1 0)⟩;omega
 have hc10:=bp hb10;have e:=CA C3 hj hc10;subst e;rw[VL]at ha;refine BT (Ao (Ao (BU (t_ (q_ (w_ (l_ (h:=?_))))))));refine A7 rfl (AG (cQ r hp) ?_);rintro r rfl;refine B9 (h:=e_ (?_));refine A8 rfl (fun hb12=>?_) (fun hb12=>?_)
 ·have hc12:=bp hb12;refine w_ (a_ (h:=e_ (A4 (A6 (?_)))));refine A9 ?_
  first|(exfalso;first|contradiction|omega)|(exact vi (by first|(unfold BQ;grind)|(unfold BQ E5;grind)))
 have hc12:=bp hb12;refine AB (q_ (w_ (f_ (h:=l_ (h:=n_ (h:=Bl (h:=e_ (?_))))))));refine A8 rfl (fun hb13=>?_) (fun hb13=>?_)
 ·have hc13:=bp hb13;refine w_ (a_ (h:=e_ (A4 (A6 (?_)))));refine A9 ?_
  first|(exfalso;first|contradiction|omega)|(exact vi (by first|(unfold BQ;grind)|(unfold BQ E5;grind)))
 have hc13:=bp hb13;refine AB (w_ (a_ (h:=e_ (A4 (?_)))));refine A9 ?_
 first|(exfalso;first|contradiction|omega)|(exact vi (by first|(unfold BQ;grind)|(unfold BQ E5;grind)))
theorem OK(r:Rul)(hr:DP r):AFn prog 105 [.agg (Az r)] (fun x=>x= .v (.int .i64 (BQ r))):=by
 obtain⟨m1,m2,hp,hl⟩:=hr;refine enter Tryz.func105 rfl rfl rfl rfl rfl 0 rfl ?_;refine w_ (b_ (h:=a_ (h:=e_ (q_ (w_ (f_ (h:=l_ (h:=BB (h:=m_ (h:=?_))))))))));refine AW false rfl rfl (fun hb1=>?_) (fun hb1=>?_)
 ·have hc1:=bp hb1;refine A3 (h:=A3 (h:=A3 (h:=AF (h:=e_ (B8 (h:=w_ (a_ (h:=e_ (A4 (A6 (?_)))))))))));refine A9 ?_
  first|(exfalso;first|contradiction|omega)|(exact vi (by first|(unfold BQ;grind)|(unfold BQ CJ;grind)))
 have hc1:=bp hb1;refine f_ (h:=l_ (h:=Bl (h:=AM (h:=e_ (?_)))));refine A8 rfl (fun hb2=>?_) (fun hb2=>?_)
 ·have hc2:=bp hb2;refine w_ (a_ (h:=e_ (A4 (A6 (?_)))));refine A9 ?_
  first|(exfalso;first|contradiction|omega)|(exact vi (by first|(unfold BQ;grind)|(unfold BQ CJ;grind)))
 have hc2:=bp hb2;refine AB (?_);refine NM (⟨look [(1, .bp 0 0),(2, .v (.int .i64 0))],⟨[Az r],[]⟩⟩) (¬(r.action≠1∧r.action≠2)) ?_ (fun hA=>?_)
 ·skip
  refine w_ (f_ (h:=l_ (h:=Ap (h:=m_ (h:=?_)))));refine AW true rfl rfl (fun hb3=>?_) (fun hb3=>?_)
  ·have hc3:=bp hb3;refine f_ (h:=l_ (h:=Ap (h:=AF (h:=e_ (?_)))));refine A8 rfl (fun hb4=>?_) (fun hb4=>?_)
   ·have hc4:=bp hb4;refine w_ (a_ (h:=e_ (A4 (A6 (?_)))));refine A9 ?_
    first|(exfalso;first|contradiction|omega)|(exact vi (by first|(unfold BQ;grind)|(unfold BQ CJ;grind)))
   have hc4:=bp hb4;refine Au (?_);refine AE ?_
   first|(exfalso;first|contradiction|omega)|exact⟨(by omega),CG 1 0 rfl⟩
  have hc3:=bp hb3;refine A3 (h:=A3 (h:=A3 (h:=AM (h:=e_ (Bp (h:=Au (?_)))))));refine AE ?_
  first|(exfalso;first|contradiction|omega)|exact⟨(by omega),CG 1 0 rfl⟩
 skip
 refine FZ (⟨look [(1, .bp 0 0),(2, .v (.int .i64 0)),(3, .v (.bool (decide (r.list=2∨r.list=3))))],⟨[Az r],[]⟩⟩) ?_ ?_
 ·skip
  refine AR (f_ (h:=l_ (h:=AD (h:=m_ (h:=?_)))));refine AW false rfl rfl (fun hb5=>?_) (fun hb5=>?_)
  ·have hc5:=bp hb5;refine A3 (h:=A3 (h:=A3 (h:=AF (h:=a_ (h:=AP (?_))))));refine AE ?_
   first|(exfalso;first|contradiction|omega)|exact CG 1 0 rfl
  have hc5:=bp hb5;refine f_ (h:=l_ (h:=AD (h:=AM (h:=a_ (h:=AP (?_))))));refine AE ?_
  first|(exfalso;first|contradiction|omega)|exact CG 1 0 rfl
 skip
 refine q_ (?_);refine FZ (⟨look [(1, .bp 0 0),(2, .v (.int .i64 0)),(50, .v (.bool (E5 r)))],⟨[Az r],[]⟩⟩) ?_ ?_
 ·skip
  refine AR (m_ (h:=m_ (h:=?_)));refine AW true rfl rfl (fun hb6=>?_) (fun hb6=>?_)
  ·have hc6:=bp hb6;refine f_ (h:=l_ (h:=AD (h:=m_ (h:=?_))));refine AW false rfl rfl (fun hb7=>?_) (fun hb7=>?_)
   ·have hc7:=bp hb7;refine A3 (h:=A3 (h:=A3 (h:=A3 (h:=AF (h:=AF (h:=m_ (h:=A3 (h:=A3 (h:=A3 (h:=AX (h:=AX (h:=AX (h:=A3 (h:=AF (h:=AP (?_))))))))))))))));refine AE ?_
    first|(exfalso;first|contradiction|omega)|exact Av 1 0 rfl rfl rfl rfl (by repeat (first|exact Sub.nil|refine Ax rfl rfl ?_|refine B1 ?_|refine B2 rfl ?_|refine B3 rfl ?_|(apply Sub.of;(focus exact rfl);(focus exact LeA.of_eq (vb (by unfold E5;grind)));(focus exact rfl))))
   have hc7:=bp hb7;refine f_ (h:=l_ (h:=?_));refine B4 (AG (cP _ m1) ?_);rintro r rfl;refine B9 (h:=AM (h:=AF (h:=m_ (h:=?_))));refine AW false rfl rfl (fun hb8=>?_) (fun hb8=>?_)
   ·have hc8:=bp hb8;refine A3 (h:=A3 (h:=A3 (h:=AX (h:=AX (h:=AX (h:=A3 (h:=AF (h:=AP (?_)))))))));refine AE ?_
    first|(exfalso;first|contradiction|omega)|exact Av 1 0 rfl rfl rfl rfl (by repeat (first|exact Sub.nil|refine Ax rfl rfl ?_|refine B1 ?_|refine B2 rfl ?_|refine B3 rfl ?_|(apply Sub.of;(focus exact rfl);(focus exact LeA.of_eq (vb (by unfold E5;grind)));(focus exact rfl))))
   have hc8:=bp hb8;refine m_ (h:=B9 (h:=m_ (h:=?_)));refine AW true rfl rfl (fun hb9=>?_) (fun hb9=>?_)
   ·have hc9:=bp hb9;refine f_ (h:=l_ (h:=Ap (h:=AF (h:=AM (h:=AP (?_))))));refine AE ?_
    first|(exfalso;first|contradiction|omega)|exact Av 1 0 rfl rfl rfl rfl (by repeat (first|exact Sub.nil|refine Ax rfl rfl ?_|refine B1 ?_|refine B2 rfl ?_|refine B3 rfl ?_|(apply Sub.of;(focus exact rfl);(focus exact LeA.of_eq (vb (by unfold E5;grind)));(focus exact rfl))))
   have hc9:=bp hb9;refine A3 (h:=A3 (h:=A3 (h:=AM (h:=AM (h:=AP (?_))))));refine AE ?_
   first|(exfalso;first|contradiction|omega)|exact Av 1 0 rfl rfl rfl rfl (by repeat (first|exact Sub.nil|refine Ax rfl rfl ?_|refine B1 ?_|refine B2 rfl ?_|refine B3 rfl ?_|(apply Sub.of;(focus exact rfl);(focus exact LeA.of_eq (vb (by unfold E5;grind)));(focus exact rfl))))
  have hc6:=bp hb6;refine A3 (h:=A3 (h:=A3 (h:=A3 (h:=AX (h:=AX (h:=AX (h:=AX (h:=A3 (h:=AM (h:=m_ (h:=m_ (h:=B9 (h:=m_ (h:=?_))))))))))))));refine AW true rfl rfl (fun hb10=>?_) (fun hb10=>?_)
  ·have hc10:=bp hb10;refine f_ (h:=l_ (h:=Ap (h:=AF (h:=AM (h:=AP (?_))))));refine AE ?_
   first|(exfalso;first|contradiction|omega)|exact Av 1 0 rfl rfl rfl rfl (by repeat (first|exact Sub.nil|refine Ax rfl rfl ?_|refine B1 ?_|refine B2 rfl ?_|refine B3 rfl ?_|(apply Sub.of;(focus exact rfl);(focus exact LeA.of_eq (vb (by unfold E5;grind)));(focus exact rfl))))
  have hc10:=bp hb10;refine A3 (h:=A3 (h:=A3 (h:=AM (h:=AM (h:=AP (?_))))));refine AE ?_
  first|(exfalso;first|contradiction|omega)|exact Av 1 0 rfl rfl rfl rfl (by repeat (first|exact Sub.nil|refine Ax rfl rfl ?_|refine B1 ?_|refine B2 rfl ?_|refine B3 rfl ?_|(apply Sub.of;(focus exact rfl);(focus exact LeA.of_eq (vb (by unfold E5;grind)));(focus exact rfl))))
 skip
 refine A8 rfl (fun hb11=>?_) (fun hb11=>?_)
 ·have hc11:=bp hb11;refine w_ (a_ (h:=e_ (A4 (A6 (?_)))));refine A9 ?_
  first|(exfalso;first|contradiction|omega)|(exact vi (by first|(unfold BQ;grind)|(unfold BQ CJ;grind)))
 have hc11:=bp hb11;refine AB (q_ (w_ (f_ (h:=l_ (h:=n_ (h:=Bl (h:=e_ (?_))))))));refine A8 rfl (fun hb12=>?_) (fun hb12=>?_)
 ·have hc12:=bp hb12;refine w_ (a_ (h:=e_ (A4 (A6 (?_)))));refine A9 ?_
  first|(exfalso;first|contradiction|omega)|(exact vi (by first|(unfold BQ;grind)|(unfold BQ CJ;grind)))
 have hc12:=bp hb12;rw[List.length_map]at hc12;refine AB (q_ (w_ (a_ (h:=e_ (Ag (?_))))));refine Be (fun n s=>∃j:Nat,j≤r.tests.length∧n=r.tests.length - j∧Gu r.list (r.tests.drop j)=Gu r.list r.tests∧s=⟨look [(1, .bp 0 0),(2, .v (.int .i64 0)),(4, .v (.int .i64 (j:Int)))],⟨[Az r],[]⟩⟩) (r.tests.length) ((wk 1 0)) (⟨0,by omega,rfl,rfl,rfl⟩) ?_;rintro n s ⟨j,hj,rfl,ha,rfl⟩;refine q_ (w_ (m_ (h:=f_ (h:=l_ (h:=n_ (h:=BB (h:=e_ (?_))))))));refine A8 rfl (fun hb13=>?_) (fun hb13=>?_)
 ·have hc13:=bp hb13;obtain⟨hlt,t,hy,hrow, -⟩:=C1 C3 hc13;refine AB (q_ (Ag (q_ (Cp 9 (h:=AO 0 (h:=AJ 1 (h:=AU 2 (h:=Cg 3 (h:=AJ 4 (h:=AO 5 (h:=AJ 6 (h:=?_))))))))))));refine c_ 7 rfl (AG (SO t _) ?_);rintro r rfl;refine o_ (h:=BO 8 (h:=z_ (h:=t_ (w_ (m_ (h:=Ap (h:=e_ (?_))))))));refine A8 rfl (fun hb14=>?_) (fun hb14=>?_)
  ·have hc14:=bp hb14;rw[OJ hy,if_neg hc14]at ha;refine w_ (m_ (h:=a_ (h:=e_ (A4 (AK (A6 (A6 (AK (A6 (?_))))))))));refine A9 ?_
   first|(exfalso;first|contradiction|omega)|(exact vi (by first|(unfold BQ;grind)|(unfold BQ CJ;grind)))
  have hc14:=bp hb14;refine Au (Ah (t_ (AR (m_ (h:=BD (h:=a_ (h:=AP (?_))))))));refine AE ?_;refine⟨_,_,?_,⟨j+1,by omega,rfl,(by rw[←ha,OJ hy,if_pos (by omega)]),rfl⟩,(wk 1 0)⟩;omega
 have hc13:=bp hb13;have e:=CA C3 hj hc13;subst e;rw[VL]at ha;refine BT (Ao (Ao (BU (t_ (?_)))));refine NM (⟨look [(1, .bp 0 0),(2, .v (.int .i64 0))],⟨[Az r],[]⟩⟩) (CJ r=true) ?_ (fun hW=>?_)
 ·skip
  refine w_ (f_ (h:=l_ (h:=e_ (Ag (w_ (AD (h:=a_ (h:=e_ (?_)))))))));refine A8 rfl (fun hb15=>?_) (fun hb15=>?_)
  ·have hc15:=bp hb15;refine w_ (f_ (h:=l_ (h:=Ap (h:=m_ (h:=?_)))));refine AW false rfl rfl (fun hb16=>?_) (fun hb16=>?_)
   ·have hc16:=bp hb16;refine A3 (h:=A3 (h:=A3 (h:=AF (h:=e_ (B8 (h:=w_ (a_ (h:=e_ (A4 (AK (A6 (?_))))))))))));refine A9 ?_
    first|(exfalso;first|contradiction|omega)|(exact vi (by first|(unfold BQ;grind)|(unfold BQ CJ;grind)))
   have hc16:=bp hb16;refine f_ (h:=l_ (h:=Ap (h:=AM (h:=e_ (?_)))));refine A8 rfl (fun hb17=>?_) (fun hb17=>?_)
   ·have hc17:=bp hb17;refine w_ (a_ (h:=e_ (A4 (AK (A6 (?_))))));refine A9 ?_
    first|(exfalso;first|contradiction|omega)|(exact vi (by first|(unfold BQ;grind)|(unfold BQ CJ;grind)))
   have hc17:=bp hb17;refine Au (Ah (?_));refine AE ?_
   first|(exfalso;first|contradiction|omega)|exact⟨(by unfold CJ;grind),CG 1 0 rfl⟩
  have hc15:=bp hb15;refine q_ (w_ (AD (h:=a_ (h:=e_ (?_)))));refine A8 rfl (fun hb18=>?_) (fun hb18=>?_)
  ·have hc18:=bp hb18;refine AB (B8 (h:=w_ (f_ (h:=l_ (h:=Ap (h:=m_ (h:=?_)))))));refine AW false rfl rfl (fun hb19=>?_) (fun hb19=>?_)
   ·have hc19:=bp hb19;refine A3 (h:=A3 (h:=A3 (h:=A3 (h:=AF (h:=m_ (h:=A3 (h:=A3 (h:=A3 (h:=A3 (h:=AF (h:=m_ (h:=A3 (h:=A3 (h:=A3 (h:=AF (h:=m_ (h:=A3 (h:=A3 (h:=A3 (h:=AF (h:=e_ (B8 (h:=w_ (?_))))))))))))))))))))))));refine a_ (h:=e_ (A4 (AK (A6 (?_)))));refine A9 ?_
    first|(exfalso;first|contradiction|omega)|(exact vi (by first|(unfold BQ;grind)|(unfold BQ CJ;grind)))
   have hc19:=bp hb19;refine f_ (h:=l_ (h:=?_));refine B4 (AG (UN _ hp) ?_);rintro r rfl;refine B9 (h:=AM (h:=m_ (h:=?_)));refine AW false rfl rfl (fun hb20=>?_) (fun hb20=>?_)
   ·have hc20:=bp hb20;refine A3 (h:=A3 (h:=A3 (h:=A3 (h:=AF (h:=m_ (h:=A3 (h:=A3 (h:=A3 (h:=AF (h:=m_ (h:=A3 (h:=A3 (h:=A3 (h:=AF (h:=e_ (B8 (h:=w_ (a_ (h:=e_ (A4 (AK (A6 (?_)))))))))))))))))))))));refine A9 ?_
    first|(exfalso;first|contradiction|omega)|(exact vi (by first|(unfold BQ;grind)|(unfold BQ CJ;grind)))
   have hc20:=bp hb20;refine f_ (h:=l_ (h:=n_ (h:=Bl (h:=AM (h:=m_ (h:=?_))))));refine AW false rfl rfl (fun hb21=>?_) (fun hb21=>?_)
   ·have hc21:=bp hb21;refine A3 (h:=A3 (h:=A3 (h:=AF (h:=m_ (h:=A3 (h:=A3 (h:=A3 (h:=AF (h:=e_ (B8 (h:=w_ (a_ (h:=e_ (A4 (AK (A6 (?_)))))))))))))))));refine A9 ?_
    first|(exfalso;first|contradiction|omega)|(exact vi (by first|(unfold BQ;grind)|(unfold BQ CJ;grind)))
   have hc21:=bp hb21;refine f_ (h:=l_ (h:=BB (h:=AM (h:=m_ (h:=?_)))));refine AW false rfl rfl (fun hb22=>?_) (fun hb22=>?_)
   ·have hc22:=bp hb22;refine A3 (h:=A3 (h:=A3 (h:=AF (h:=e_ (B8 (h:=w_ (a_ (h:=e_ (A4 (AK (A6 (?_))))))))))));refine A9 ?_
    first|(exfalso;first|contradiction|omega)|(exact vi (by first|(unfold BQ;grind)|(unfold BQ CJ;grind)))
   have hc22:=bp hb22;refine f_ (h:=l_ (h:=Bl (h:=AM (h:=e_ (?_)))));refine A8 rfl (fun hb23=>?_) (fun hb23=>?_)
   ·have hc23:=bp hb23;refine w_ (a_ (h:=e_ (A4 (AK (A6 (?_))))));refine A9 ?_
    first|(exfalso;first|contradiction|omega)|(exact vi (by first|(unfold BQ;grind)|(unfold BQ CJ;grind)))
   have hc23:=bp hb23;refine Au (Ah (?_));refine AE ?_
   first|(exfalso;first|contradiction|omega)|exact⟨(by unfold CJ;grind),CG 1 0 rfl⟩
  have hc18:=bp hb18;refine AR (AD (h:=a_ (h:=e_ (?_))));refine A8 rfl (fun hb24=>?_) (fun hb24=>?_)
  ·have hc24:=bp hb24;refine w_ (f_ (h:=l_ (h:=Ap (h:=m_ (h:=?_)))));refine AW false rfl rfl (fun hb25=>?_) (fun hb25=>?_)
   ·have hc25:=bp hb25;refine A3 (h:=A3 (h:=A3 (h:=A3 (h:=AF (h:=m_ (h:=A3 (h:=A3 (h:=A3 (h:=A3 (h:=AF (h:=m_ (h:=A3 (h:=A3 (h:=A3 (h:=AF (h:=m_ (h:=A3 (h:=A3 (h:=A3 (h:=AF (h:=e_ (B8 (h:=w_ (?_))))))))))))))))))))))));refine a_ (h:=e_ (A4 (AK (A6 (?_)))));refine A9 ?_
    first|(exfalso;first|contradiction|omega)|(exact vi (by first|(unfold BQ;grind)|(unfold BQ CJ;grind)))
   have hc25:=bp hb25;refine f_ (h:=l_ (h:=?_));refine B4 (AG (UN _ hp) ?_);rintro r rfl;refine B9 (h:=AM (h:=m_ (h:=?_)));refine AW false rfl rfl (fun hb26=>?_) (fun hb26=>?_)
   ·have hc26:=bp hb26;refine A3 (h:=A3 (h:=A3 (h:=A3 (h:=AF (h:=m_ (h:=A3 (h:=A3 (h:=A3 (h:=AF (h:=m_ (h:=A3 (h:=A3 (h:=A3 (h:=AF (h:=e_ (B8 (h:=w_ (a_ (h:=e_ (A4 (AK (A6 (?_)))))))))))))))))))))));refine A9 ?_
    first|(exfalso;first|contradiction|omega)|(exact vi (by first|(unfold BQ;grind)|(unfold BQ CJ;grind)))
   have hc26:=bp hb26;refine f_ (h:=l_ (h:=n_ (h:=Bl (h:=AM (h:=m_ (h:=?_))))));refine AW false rfl rfl (fun hb27=>?_) (fun hb27=>?_)
   ·have hc27:=bp hb27;refine A3 (h:=A3 (h:=A3 (h:=AF (h:=m_ (h:=A3 (h:=A3 (h:=A3 (h:=AF (h:=e_ (B8 (h:=w_ (a_ (h:=e_ (A4 (AK (A6 (?_)))))))))))))))));refine A9 ?_
    first|(exfalso;first|contradiction|omega)|(exact vi (by first|(unfold BQ;grind)|(unfold BQ CJ;grind)))
   have hc27:=bp hb27;refine f_ (h:=l_ (h:=BB (h:=AM (h:=m_ (h:=?_)))));refine AW false rfl rfl (fun hb28=>?_) (fun hb28=>?_)
   ·have hc28:=bp hb28;refine A3 (h:=A3 (h:=A3 (h:=AF (h:=e_ (B8 (h:=w_ (a_ (h:=e_ (A4 (AK (A6 (?_))))))))))));refine A9 ?_
    first|(exfalso;first|contradiction|omega)|(exact vi (by first|(unfold BQ;grind)|(unfold BQ CJ;grind)))
   have hc28:=bp hb28;refine f_ (h:=l_ (h:=Bl (h:=AM (h:=e_ (?_)))));refine A8 rfl (fun hb29=>?_) (fun hb29=>?_)
   ·have hc29:=bp hb29;refine w_ (a_ (h:=e_ (A4 (AK (A6 (?_))))));refine A9 ?_
    first|(exfalso;first|contradiction|omega)|(exact vi (by first|(unfold BQ;grind)|(unfold BQ CJ;grind)))
   have hc29:=bp hb29;refine Au (Ah (?_));refine AE ?_
   first|(exfalso;first|contradiction|omega)|exact⟨(by unfold CJ;grind),CG 1 0 rfl⟩
  have hc24:=bp hb24;refine w_ (a_ (h:=e_ (A4 (AK (A6 (?_))))));refine A9 ?_
  first|(exfalso;first|contradiction|omega)|(exact vi (by first|(unfold BQ;grind)|(unfold BQ CJ;grind)))
 skip
 refine q_ (w_ (f_ (h:=l_ (h:=n_ (h:=Bl (h:=e_ (?_)))))));refine A8 rfl (fun hb30=>?_) (fun hb30=>?_)
 ·have hc30:=bp hb30;refine w_ (a_ (h:=e_ (A4 (A6 (?_)))));refine A9 ?_
  first|(exfalso;first|contradiction|omega)|(exact vi (by first|(unfold BQ;grind)|(unfold BQ CJ;grind)))
 have hc30:=bp hb30;refine AB (w_ (a_ (h:=e_ (A4 (?_)))));refine A9 ?_
 first|(exfalso;first|contradiction|omega)|(exact vi (by first|(unfold BQ;grind)|(unfold BQ CJ;grind)))
end
deriving instance DecidableEq for Tst
deriving instance DecidableEq for Rul
theorem cR(a b:ByteArray):(a.toList==b.toList)=decide (a=b):=by
 by_cases h:a=b
 ·simp[h]
 have:a.toList≠b.toList:=fun e=>h (by
  rw[ByteArray.toList_eq,ByteArray.toList_eq]at e;obtain⟨⟨x⟩⟩:=a;obtain⟨⟨y⟩⟩:=b
  simpa using e)
 simp[h,this]
theorem cS(a b:Tst):(a.fld==b.fld&&(a.op==b.op&&(a.num==b.num&&(a.text.toList==b.text.toList&&a.other==b.other))))=decide (a=b):=by
 rw[cR];obtain⟨a1,a2,a3,a4,a5⟩:=a;obtain⟨b1,b2,b3,b4,b5⟩:=b;by_cases h1:a1=b1<;>by_cases h2:a2=b2<;>by_cases h3:a3=b3<;>by_cases h4:a4=b4<;>by_cases h5:a5=b5<;>simp[h1,h2,h3,h4,h5]
theorem OL{α:Type}[DecidableEq α]{a b:List α}{j:Nat}{x y:α}(hx:a[j]?=some x)(hy:b[j]?=some y):decide (a.drop j=b.drop j)=(decide (x=y)&&decide (a.drop (j+1)=b.drop (j+1))):=by
 obtain⟨h1,e1⟩:=At.1 hx;obtain⟨h2,e2⟩:=At.1 hy;rw[List.drop_eq_getElem_cons h1,List.drop_eq_getElem_cons h2,e1,e2];by_cases h:x=y<;>simp[h]
theorem cT{α:Type}[DecidableEq α]{a b:List α}(h:a.length≠b.length):decide (a=b)=false:=by
 simp only[decide_eq_false_iff_not];intro e;exact h (by rw[e])
section
theorem VM(a b:Tst)(w:World):(binOp .neq 115 (.agg #[.int .i64 a.fld, .int .i64 a.op, .int .i64 a.num, .string a.text, .int .i64 a.other]) (.agg #[.int .i64 b.fld, .int .i64 b.op, .int .i64 b.num, .string b.text, .int .i64 b.other])).run prog w= .ok (.bool (!decide (a=b))) w:=by
 have u3:=Tryz.underlying3;have a3:=Tryz.isAgg3;have z3:=Tryz.sizeOf3;have u9:=Tryz.underlying9;have a9:=Tryz.isAgg9;have z9:=Tryz.sizeOf9;have hS:prog.underlying 115=some (.struct (prog.fieldsOf 115)):=by kernel_rfl
 have hp:prog.stoodInHeld 115=false:=by kernel_rfl
 rw[run_neq_struct,show(10000:Nat)=9999+1 from rfl,run_equalIn_agg w 9999 115 _ _ hS hp];simp only[Program.fieldsOf,Tryz.underlying115]
 go_simp
 rw[←cS];by_cases h1:a.fld=b.fld<;>by_cases h2:a.op=b.op<;>by_cases h3:a.num=b.num<;>by_cases h4:a.text.toList=b.text.toList<;>by_cases h5:a.other=b.other<;>simp[h1,h2,h3,h4,h5]
theorem cU(a b:List Tst)(ha:a.length≤1000):AFn prog 218 [.sl 5 (a.map C3) none, .sl 5 (b.map C3) none] (fun x=>x= .v (.bool (decide (a=b)))):=by
 refine enter Tryz.func218 rfl rfl rfl rfl rfl 0 rfl ?_;refine w_ (a_ (h:=e_ (q_ (w_ (m_ (h:=n_ (h:=m_ (h:=n_ (h:=Ap (h:=e_ (?_)))))))))));refine A8 rfl (fun hb1=>?_) (fun hb1=>?_)
 ·have hc1:=bp hb1;refine w_ (a_ (h:=e_ (A4 (A6 (?_)))));refine A9 ?_
  first|(exfalso;first|contradiction|omega)|(exact vb (by rw[cT (by simp at hc1;omega)]))
 have hc1:=bp hb1;have hl:a.length=b.length:=by simp at hc1;omega
 refine AB (q_ (w_ (m_ (h:=n_ (h:=m_ (h:=e_ (Ag (?_))))))));refine Be (fun n s=>∃j:Nat,j≤a.length∧n=a.length - j∧decide (a.drop j=b.drop j)=decide (a=b)∧s=⟨look [(0, .sl 5 (a.map C3) none),(1, .sl 5 (b.map C3) none),(12, .v (.int .i64 ((a.map C3).length:Int))),(13, .v (.int .i64 (j:Int)))],⟨[],[]⟩⟩) (a.length) ((wk 0 0)) (⟨0,by omega,rfl,rfl,rfl⟩) ?_;rintro n s ⟨j,hj,rfl,hd,rfl⟩;refine w_ (BB (h:=e_ (q_ (?_))));refine A8 rfl (fun hb2=>?_) (fun hb2=>?_)
 ·have hc2:=bp hb2;obtain⟨hlt,x,hx,hrow, -⟩:=C1 C3 hc2;obtain⟨hlt2,y,hy,hrow2, -⟩:=C1 C3 (l:=b) (k:=j) (by simpa[hl]using hc2);refine AB (q_ (Ag (w_ (m_ (h:=a_ (h:=e_ (q_ (Cp 9 (h:=AU 0 (h:=AU 1 (h:=Cg 2 (h:=AJ 3 (h:=AU 4 (h:=AU 5 (h:=Cg 6 (h:=AJ 7 (h:=?_)))))))))))))))));refine Eg (i:=8) rfl (Ha rfl rfl (by repeat constructor) (by repeat constructor) (fun w=>VM x y w) (by kernel_rfl) ⟨rfl,rfl⟩) ?_;refine z_ (h:=t_ (?_));refine A8 rfl (fun hb3=>?_) (fun hb3=>?_)
  ·have hc3:=bp hb3;refine w_ (a_ (h:=e_ (A4 (AK (A6 (A6 (AK (A6 (?_)))))))));refine A9 ?_
   first|(exfalso;first|contradiction|omega)|(exact vb (by rw[←hd,OL hx hy];simp[hc3]))
  have hc3:=bp hb3;refine Au (Ah (t_ (AR (BD (h:=m_ (h:=AP (?_)))))));refine AE ?_;refine⟨_,_,?_,⟨j+1,by omega,rfl,(by rw[←hd,OL hx hy,hc3];simp),rfl⟩,(wk 0 0)⟩;omega
 have hc2:=bp hb2;have e:=CA C3 hj hc2;subst e;refine BT (Ao (Ao (BU (t_ (w_ (a_ (h:=e_ (A4 (?_)))))))));refine A9 ?_
 first|(exfalso;first|contradiction|omega)|(exact vb (by rw[←hd,List.drop_length,hl,List.drop_length];rfl))
theorem cV(a:List Tst)(ha:a.length≤1000):AFn prog 129 [.sl 5 (a.map C3) none] (fun x=>x= .sl 5 (a.map C3) none):=by
 refine enter Tryz.func129 rfl rfl rfl rfl rfl 0 rfl ?_;refine w_ (a_ (h:=e_ (q_ (w_ (m_ (h:=?_))))));refine A7 rfl (Wf rfl rfl ?_);intro b hb;refine e_ (?_);refine A8 rfl (fun hb1=>?_) (fun hb1=>?_)
 ·have hc1:=bp hb1;refine w_ (a_ (h:=e_ (A4 (A6 (?_)))));refine N7 (xs:=[.v (.slice none 0 0)]) (r:= .sl 5 [] none) none (by repeat (first|exact ResA.nil|(apply ResA.tmp;(focus exact rfl))|(apply ResA.cellN;(focus exact inferInstance);(focus exact rfl);(focus exact rfl);(focus exact rfl))|(apply ResA.cell1;(focus exact inferInstance);(focus exact rfl);(focus exact rfl);(focus exact rfl)))) rfl rfl rfl (LeA.nil _) ⟨rfl,rfl,?_⟩;rw[hb hc1]
 have hc1:=bp hb1;refine AB (w_ (?_));refine A7 rfl (Wh (by repeat constructor) ?_);refine m_ (h:=EU (h:=a_ (h:=e_ (A4 (?_)))));refine A9 ?_;rfl
theorem cW(a b:Rul):a=b↔a.list=b.list∧a.action=b.action∧a.calls=b.calls∧a.tests=b.tests∧a.watch=b.watch∧a.path=b.path∧a.perm=b.perm∧a.key=b.key:=by
 cases a;cases b;simp
theorem Hv(a b:Rul):decide (a=b)=decide (a.list=b.list∧a.action=b.action∧a.calls=b.calls∧a.tests=b.tests∧a.watch=b.watch∧a.path=b.path∧a.perm=b.perm∧a.key=b.key):=decide_eq_decide.2 (cW a b)
theorem cX(a b:Rul)(ha:a.tests.length≤1000):AFn prog 158 [.agg (Az a), .agg (Az b)] (fun x=>x= .v (.bool (decide (a=b)))):=by
 refine enter Tryz.func158 rfl rfl rfl rfl rfl 0 rfl ?_;refine w_ (b_ (h:=b_ (h:=a_ (h:=e_ (w_ (f_ (h:=l_ (h:=f_ (h:=l_ (h:=AD (h:=m_ (h:=?_))))))))))));refine AW true rfl rfl (fun hb1=>?_) (fun hb1=>?_)
 ·have hc1:=bp hb1;refine f_ (h:=l_ (h:=f_ (h:=l_ (h:=AD (h:=AF (h:=m_ (h:=?_)))))));refine AW true rfl rfl (fun hb2=>?_) (fun hb2=>?_)
  ·have hc2:=bp hb2;refine f_ (h:=l_ (h:=f_ (h:=l_ (h:=AD (h:=AF (h:=m_ (h:=?_)))))));refine AW true rfl rfl (fun hb3=>?_) (fun hb3=>?_)
   ·have hc3:=bp hb3;refine f_ (h:=l_ (h:=f_ (h:=l_ (h:=?_))));refine B4 (AG (cU a.tests b.tests ha) ?_);rintro r rfl;refine AF (h:=m_ (h:=?_));refine AW true rfl rfl (fun hb4=>?_) (fun hb4=>?_)
    ·have hc4:=bp hb4;refine f_ (h:=l_ (h:=f_ (h:=l_ (h:=AD (h:=AF (h:=m_ (h:=?_)))))));refine AW true rfl rfl (fun hb5=>?_) (fun hb5=>?_)
     ·have hc5:=bp hb5;refine f_ (h:=l_ (h:=f_ (h:=l_ (h:=AD (h:=AF (h:=m_ (h:=?_)))))));refine AW true rfl rfl (fun hb6=>?_) (fun hb6=>?_)
      ·have hc6:=bp hb6;refine f_ (h:=l_ (h:=f_ (h:=l_ (h:=AD (h:=AF (h:=m_ (h:=?_)))))));refine AW true rfl rfl (fun hb7=>?_) (fun hb7=>?_)
       ·have hc7:=bp hb7;refine f_ (h:=l_ (h:=f_ (h:=l_ (h:=AD (h:=AF (h:=a_ (h:=e_ (A4 (?_)))))))));refine A9 ?_
        first|(exfalso;first|contradiction|omega)|(exact vb (by rw[Hv];simp[*]))
       have hc7:=bp hb7;refine A3 (h:=A3 (h:=A3 (h:=A3 (h:=A3 (h:=AM (h:=a_ (h:=e_ (A4 (?_)))))))));refine A9 ?_
       first|(exfalso;first|contradiction|omega)|(exact vb (by rw[Hv];simp[*]))
      have hc6:=bp hb6;refine A3 (h:=A3 (h:=A3 (h:=A3 (h:=A3 (h:=AM (h:=m_ (h:=A3 (h:=A3 (h:=A3 (h:=A3 (h:=A3 (h:=AM (h:=a_ (h:=e_ (A4 (?_))))))))))))))));refine A9 ?_
      first|(exfalso;first|contradiction|omega)|(exact vb (by rw[Hv];simp[*]))
     have hc5:=bp hb5;refine A3 (h:=A3 (h:=A3 (h:=A3 (h:=A3 (h:=AM (h:=m_ (h:=A3 (h:=A3 (h:=A3 (h:=A3 (h:=A3 (h:=AM (h:=m_ (h:=A3 (h:=A3 (h:=A3 (h:=A3 (h:=A3 (h:=AM (h:=a_ (h:=e_ (A4 (?_)))))))))))))))))))))));refine A9 ?_
     first|(exfalso;first|contradiction|omega)|(exact vb (by rw[Hv];simp[*]))
    have hc4:=bp hb4;refine A3 (h:=A3 (h:=A3 (h:=A3 (h:=A3 (h:=AM (h:=m_ (h:=A3 (h:=A3 (h:=A3 (h:=A3 (h:=A3 (h:=AM (h:=m_ (h:=A3 (h:=A3 (h:=A3 (h:=A3 (h:=A3 (h:=AM (h:=m_ (h:=A3 (h:=A3 (h:=A3 (h:=?_))))))))))))))))))))))));refine A3 (h:=A3 (h:=AM (h:=a_ (h:=e_ (A4 (?_))))));refine A9 ?_
    first|(exfalso;first|contradiction|omega)|(exact vb (by rw[Hv];simp[*]))
   have hc3:=bp hb3;refine A3 (h:=A3 (h:=A3 (h:=A3 (h:=A3 (h:=AM (h:=m_ (h:=A3 (h:=A3 (h:=A3 (h:=A3 (h:=A3 (h:=AM (h:=m_ (h:=A3 (h:=A3 (h:=A3 (h:=A3 (h:=A3 (h:=AM (h:=m_ (h:=A3 (h:=A3 (h:=A3 (h:=?_))))))))))))))))))))))));refine A3 (h:=A3 (h:=AM (h:=m_ (h:=A3 (h:=A3 (h:=A3 (h:=A3 (h:=A3 (h:=AM (h:=a_ (h:=e_ (A4 (?_)))))))))))));refine A9 ?_
   first|(exfalso;first|contradiction|omega)|(exact vb (by rw[Hv];simp[*]))
  have hc2:=bp hb2;refine A3 (h:=A3 (h:=A3 (h:=A3 (h:=A3 (h:=AM (h:=m_ (h:=A3 (h:=A3 (h:=A3 (h:=A3 (h:=A3 (h:=AM (h:=m_ (h:=A3 (h:=A3 (h:=A3 (h:=A3 (h:=A3 (h:=AM (h:=m_ (h:=A3 (h:=A3 (h:=A3 (h:=?_))))))))))))))))))))))));refine A3 (h:=A3 (h:=AM (h:=m_ (h:=A3 (h:=A3 (h:=A3 (h:=A3 (h:=A3 (h:=AM (h:=m_ (h:=A3 (h:=A3 (h:=A3 (h:=A3 (h:=A3 (h:=AM (h:=a_ (h:=e_ (A4 (?_))))))))))))))))))));refine A9 ?_
  first|(exfalso;first|contradiction|omega)|(exact vb (by rw[Hv];simp[*]))
 have hc1:=bp hb1;refine A3 (h:=A3 (h:=A3 (h:=A3 (h:=A3 (h:=AM (h:=m_ (h:=A3 (h:=A3 (h:=A3 (h:=A3 (h:=A3 (h:=AM (h:=m_ (h:=A3 (h:=A3 (h:=A3 (h:=A3 (h:=A3 (h:=AM (h:=m_ (h:=A3 (h:=A3 (h:=A3 (h:=?_))))))))))))))))))))))));refine A3 (h:=A3 (h:=AM (h:=m_ (h:=A3 (h:=A3 (h:=A3 (h:=A3 (h:=A3 (h:=AM (h:=m_ (h:=A3 (h:=A3 (h:=A3 (h:=A3 (h:=A3 (h:=AM (h:=m_ (h:=A3 (h:=A3 (h:=A3 (h:=A3 (h:=A3 (h:=AM (h:=?_))))))))))))))))))))))));refine a_ (h:=e_ (A4 (?_)));refine A9 ?_
 first|(exfalso;first|contradiction|omega)|(exact vb (by rw[Hv];simp[*]))
theorem cY(a b:Rul)(ha:a.tests.length≤1000):AFn prog 104 [.agg (Az a), .agg (Az b)] (fun x=>x= .v (.bool (decide (a=b)))):=by
 refine enter Tryz.func104 rfl rfl rfl rfl rfl 0 rfl ?_;refine w_ (b_ (h:=b_ (h:=a_ (h:=e_ (q_ (?_))))));refine FZ (⟨look [(2, .bp 0 0),(3, .bp 1 0),(61, .v (.bool (!decide (a.list=b.list∧a.action=b.action∧a.calls=b.calls∧a.watch=b.watch∧a.path=b.path∧a.perm=b.perm∧a.key=b.key∧(a.tests.length:Int)=(b.tests.length:Int)))))],⟨[Az a,Az b],[]⟩⟩) ?_ ?_
 ·skip
  refine AR (f_ (h:=l_ (h:=f_ (h:=l_ (h:=Ap (h:=m_ (h:=?_)))))));refine AW false rfl rfl (fun hb1=>?_) (fun hb1=>?_)
  ·have hc1:=bp hb1;refine A3 (h:=A3 (h:=A3 (h:=A3 (h:=A3 (h:=AF (h:=m_ (h:=A3 (h:=A3 (h:=A3 (h:=A3 (h:=A3 (h:=AF (h:=m_ (h:=A3 (h:=A3 (h:=A3 (h:=A3 (h:=A3 (h:=AF (h:=m_ (h:=A3 (h:=A3 (h:=A3 (h:=?_))))))))))))))))))))))));refine A3 (h:=A3 (h:=AF (h:=m_ (h:=A3 (h:=A3 (h:=A3 (h:=A3 (h:=A3 (h:=AF (h:=m_ (h:=A3 (h:=A3 (h:=A3 (h:=A3 (h:=A3 (h:=AF (h:=m_ (h:=A3 (h:=A3 (h:=A3 (h:=A3 (h:=A3 (h:=A3 (h:=?_))))))))))))))))))))))));refine A3 (h:=AF (h:=AP (?_)));refine AE ?_
   first|(exfalso;first|contradiction|omega)|exact CG 2 0 rfl
  have hc1:=bp hb1;refine f_ (h:=l_ (h:=f_ (h:=l_ (h:=Ap (h:=AM (h:=m_ (h:=?_)))))));refine AW false rfl rfl (fun hb2=>?_) (fun hb2=>?_)
  ·have hc2:=bp hb2;refine A3 (h:=A3 (h:=A3 (h:=A3 (h:=A3 (h:=AF (h:=m_ (h:=A3 (h:=A3 (h:=A3 (h:=A3 (h:=A3 (h:=AF (h:=m_ (h:=A3 (h:=A3 (h:=A3 (h:=A3 (h:=A3 (h:=AF (h:=m_ (h:=A3 (h:=A3 (h:=A3 (h:=?_))))))))))))))))))))))));refine A3 (h:=A3 (h:=AF (h:=m_ (h:=A3 (h:=A3 (h:=A3 (h:=A3 (h:=A3 (h:=AF (h:=m_ (h:=A3 (h:=A3 (h:=A3 (h:=A3 (h:=A3 (h:=A3 (h:=A3 (h:=AF (h:=AP (?_))))))))))))))))))));refine AE ?_
   first|(exfalso;first|contradiction|omega)|exact CG 2 0 rfl
  have hc2:=bp hb2;refine f_ (h:=l_ (h:=f_ (h:=l_ (h:=Ap (h:=AM (h:=m_ (h:=?_)))))));refine AW false rfl rfl (fun hb3=>?_) (fun hb3=>?_)
  ·have hc3:=bp hb3;refine A3 (h:=A3 (h:=A3 (h:=A3 (h:=A3 (h:=AF (h:=m_ (h:=A3 (h:=A3 (h:=A3 (h:=A3 (h:=A3 (h:=AF (h:=m_ (h:=A3 (h:=A3 (h:=A3 (h:=A3 (h:=A3 (h:=AF (h:=m_ (h:=A3 (h:=A3 (h:=A3 (h:=?_))))))))))))))))))))))));refine A3 (h:=A3 (h:=AF (h:=m_ (h:=A3 (h:=A3 (h:=A3 (h:=A3 (h:=A3 (h:=A3 (h:=A3 (h:=AF (h:=AP (?_)))))))))))));refine AE ?_
   first|(exfalso;first|contradiction|omega)|exact CG 2 0 rfl
  have hc3:=bp hb3;refine f_ (h:=l_ (h:=f_ (h:=l_ (h:=Ap (h:=AM (h:=m_ (h:=?_)))))));refine AW false rfl rfl (fun hb4=>?_) (fun hb4=>?_)
  ·have hc4:=bp hb4;refine A3 (h:=A3 (h:=A3 (h:=A3 (h:=A3 (h:=AF (h:=m_ (h:=A3 (h:=A3 (h:=A3 (h:=A3 (h:=A3 (h:=AF (h:=m_ (h:=A3 (h:=A3 (h:=A3 (h:=A3 (h:=A3 (h:=AF (h:=m_ (h:=A3 (h:=A3 (h:=A3 (h:=?_))))))))))))))))))))))));refine A3 (h:=A3 (h:=A3 (h:=A3 (h:=AF (h:=AP (?_))))));refine AE ?_
   first|(exfalso;first|contradiction|omega)|exact CG 2 0 rfl
  have hc4:=bp hb4;refine f_ (h:=l_ (h:=f_ (h:=l_ (h:=Ap (h:=AM (h:=m_ (h:=?_)))))));refine AW false rfl rfl (fun hb5=>?_) (fun hb5=>?_)
  ·have hc5:=bp hb5;refine A3 (h:=A3 (h:=A3 (h:=A3 (h:=A3 (h:=AF (h:=m_ (h:=A3 (h:=A3 (h:=A3 (h:=A3 (h:=A3 (h:=AF (h:=m_ (h:=A3 (h:=A3 (h:=A3 (h:=A3 (h:=A3 (h:=A3 (h:=A3 (h:=AF (h:=AP (?_)))))))))))))))))))))));refine AE ?_
   first|(exfalso;first|contradiction|omega)|exact CG 2 0 rfl
  have hc5:=bp hb5;refine f_ (h:=l_ (h:=f_ (h:=l_ (h:=Ap (h:=AM (h:=m_ (h:=?_)))))));refine AW false rfl rfl (fun hb6=>?_) (fun hb6=>?_)
  ·have hc6:=bp hb6;refine A3 (h:=A3 (h:=A3 (h:=A3 (h:=A3 (h:=AF (h:=m_ (h:=A3 (h:=A3 (h:=A3 (h:=A3 (h:=A3 (h:=A3 (h:=A3 (h:=AF (h:=AP (?_))))))))))))))));refine AE ?_
   first|(exfalso;first|contradiction|omega)|exact CG 2 0 rfl
  have hc6:=bp hb6;refine f_ (h:=l_ (h:=f_ (h:=l_ (h:=Ap (h:=AM (h:=m_ (h:=?_)))))));refine AW false rfl rfl (fun hb7=>?_) (fun hb7=>?_)
  ·have hc7:=bp hb7;refine A3 (h:=A3 (h:=A3 (h:=A3 (h:=A3 (h:=A3 (h:=A3 (h:=AF (h:=AP (?_)))))))));refine AE ?_
   first|(exfalso;first|contradiction|omega)|exact CG 2 0 rfl
  have hc7:=bp hb7;refine f_ (h:=l_ (h:=n_ (h:=f_ (h:=l_ (h:=n_ (h:=Ap (h:=AM (h:=AP (?_)))))))));refine AE ?_
  first|(exfalso;first|contradiction|omega)|exact CG 2 0 rfl
 skip
 refine A8 rfl (fun hb8=>?_) (fun hb8=>?_)
 ·have hc8:=bp hb8;have hne:a≠b:=by rintro rfl;simp at hc8
  refine w_ (a_ (h:=e_ (A4 (A6 (?_)))));refine A9 ?_
  first|(exfalso;first|contradiction|omega)|(exact vb (by simp[hne]))
 have hc8:=bp hb8;have hq:a.list=b.list∧a.action=b.action∧a.calls=b.calls∧a.watch=b.watch∧a.path=b.path∧a.perm=b.perm∧a.key=b.key∧(a.tests.length:Int)=(b.tests.length:Int):=by simpa using hc8
 obtain⟨q1,q2,q3,q4,q5,q6,q7,q8⟩:=hq;have hl:a.tests.length=b.tests.length:=by omega
 refine AB (q_ (w_ (a_ (h:=e_ (Ag (?_))))));refine Be (fun n s=>∃j:Nat,j≤a.tests.length∧n=a.tests.length - j∧decide (a.tests.drop j=b.tests.drop j)=decide (a.tests=b.tests)∧s=⟨look [(2, .bp 0 0),(3, .bp 1 0),(5, .v (.int .i64 (j:Int)))],⟨[Az a,Az b],[]⟩⟩) (a.tests.length) ((wk 2 0)) (⟨0,by omega,rfl,rfl,rfl⟩) ?_;rintro n s ⟨j,hj,rfl,hd,rfl⟩;refine q_ (w_ (m_ (h:=f_ (h:=l_ (h:=n_ (h:=BB (h:=e_ (?_))))))));refine A8 rfl (fun hb9=>?_) (fun hb9=>?_)
 ·have hc9:=bp hb9;obtain⟨hlt,x,hx,hrow, -⟩:=C1 C3 hc9;obtain⟨hlt2,y,hy,hrow2, -⟩:=C1 C3 (l:=b.tests) (k:=j) (by simpa[hl]using hc9);refine AB (q_ (Ag (q_ (Cp 11 (h:=AO 0 (h:=AJ 1 (h:=AU 2 (h:=Cg 3 (h:=AJ 4 (h:=AO 5 (h:=AJ 6 (h:=AU 7 (h:=Cg 8 (h:=AJ 9 (h:=?_)))))))))))))));refine Eg (i:=10) rfl (Ha rfl rfl (by repeat constructor) (by repeat constructor) (fun w=>VM x y w) (by kernel_rfl) ⟨rfl,rfl⟩) ?_;refine z_ (h:=t_ (?_));refine A8 rfl (fun hb10=>?_) (fun hb10=>?_)
  ·have hc10:=bp hb10;have ht:decide (a.tests=b.tests)=false:=by rw[←hd,OL hx hy];simp[hc10]
   refine w_ (a_ (h:=e_ (A4 (AK (A6 (A6 (AK (A6 (?_)))))))));refine A9 ?_
   first|(exfalso;first|contradiction|omega)|(exact vb (by rw[Hv];simp at ht;simp[ht]))
  have hc10:=bp hb10;refine Au (Ah (t_ (AR (m_ (h:=BD (h:=a_ (h:=AP (?_))))))));refine AE ?_;refine⟨_,_,?_,⟨j+1,by omega,rfl,(by rw[←hd,OL hx hy,hc10];simp),rfl⟩,(wk 2 0)⟩;omega
 have hc9:=bp hb9;have e:=CA C3 hj hc9;subst e;have ht:decide (a.tests=b.tests)=true:=by rw[←hd,List.drop_length,hl,List.drop_length];rfl
 refine BT (Ao (Ao (BU (t_ (w_ (a_ (h:=e_ (A4 (?_)))))))));refine A9 ?_
 first|(exfalso;first|contradiction|omega)|(exact vb (by rw[Hv];simp at ht;simp[*]))
def GO(l:List Rul)(r:Rul):Int:=E7 (fun _ x=>decide (x=r)) l 0
theorem cZ(i:Nat)(x r:Rul)(hx:x.tests.length≤1000):AFn prog 157 [.v (.int .i64 (i:Int)), .agg (Az x), .fp (Az r)] (fun y=>y= .v (.bool (decide (x=r)))):=by
 refine enter Tryz.func157 rfl rfl rfl rfl rfl 0 rfl ?_;refine w_ (b_ (h:=a_ (h:=e_ (w_ (l_ (h:=l_ (h:=?_)))))));refine A7 rfl (AG (cX x r hx) ?_);rintro r rfl;refine a_ (h:=e_ (A4 (?_)));refine A9 ?_;rfl
theorem Qs(l:List Rul)(r:Rul)(hl:l.length≤1000)(ht:∀r∈l,r.tests.length≤1000):AFn prog 107 [.sl 8 (l.map Az) none, .agg (Az r)] (fun x=>x= .v (.int .i64 (GO l r))):=by
 refine enter Tryz.func107 rfl rfl rfl rfl rfl 0 rfl ?_;refine w_ (b_ (h:=a_ (h:=e_ (w_ (m_ (h:=Rz (h:=?_)))))));refine A7 rfl (Rn rfl (by repeat (first|exact ArgsL.nil|refine ArgsL.cons _ _ _ _ _ rfl rfl ?_)) (Sk l hl (fun _ x=>decide (x=r)) 157 [.fp (Az r)] rfl rfl fun i x hi=>cZ i x r (ht x (Aw hi))) ?_);rintro x rfl;refine⟨rfl,?_⟩;refine a_ (h:=e_ (A4 (?_)));refine A9 ?_;rfl
theorem Qt(l:List Rul)(r:Rul)(hl:l.length≤1000)(ht:∀r∈l,r.tests.length≤1000):AFn prog 109 [.sl 8 (l.map Az) none, .agg (Az r)] (fun x=>x= .v (.int .i64 (GO l r))):=by
 refine enter Tryz.func109 rfl rfl rfl rfl rfl 0 rfl ?_;refine w_ (b_ (h:=a_ (h:=e_ (q_ (w_ (a_ (h:=e_ (Ag (?_)))))))));refine Be (fun n s=>∃j:Nat,j≤l.length∧n=l.length - j∧E7 (fun _ x=>decide (x=r)) (l.drop j) j=GO l r∧s=⟨look [(0, .sl 8 (l.map Az) none),(3, .bp 0 0),(5, .v (.int .i64 (j:Int)))],⟨[Az r],[]⟩⟩) (l.length) ((wk 1 0)) (⟨0,by omega,rfl,rfl,rfl⟩) ?_;rintro n s ⟨j,hj,rfl,ha,rfl⟩;refine q_ (w_ (m_ (h:=m_ (h:=n_ (h:=BB (h:=e_ (?_)))))));refine A8 rfl (fun hb1=>?_) (fun hb1=>?_)
 ·have hc1:=bp hb1;obtain⟨hlt,x,hy,hrow, -⟩:=C1 Az hc1;refine AB (q_ (Ag (q_ (Cp 6 (h:=AU 0 (h:=AU 1 (h:=Cg 2 (h:=AJ 3 (h:=AJ 4 (h:=?_))))))))));refine c_ 5 rfl (AG (cY x r (ht x (Aw hy))) ?_);rintro r rfl;refine o_ (h:=z_ (h:=t_ (?_)));refine A8 rfl (fun hb2=>?_) (fun hb2=>?_)
  ·have hc2:=bp hb2;refine w_ (m_ (h:=a_ (h:=e_ (A4 (AK (A6 (A6 (AK (A6 (?_))))))))));refine A9 ?_
   first|(exfalso;first|contradiction|omega)|(exact vi (by rw[←ha,Km hy];simp[hc2]))
  have hc2:=bp hb2;refine Au (Ah (t_ (AR (m_ (h:=BD (h:=a_ (h:=AP (?_))))))));refine AE ?_;refine⟨_,_,?_,⟨j+1,by omega,rfl,(by rw[←ha,Km hy];simp[hc2]),rfl⟩,(wk 1 0)⟩;omega
 have hc1:=bp hb1;have e:=CA Az hj hc1;subst e;refine BT (Ao (Ao (BU (t_ (w_ (a_ (h:=e_ (A4 (?_)))))))));refine A9 ?_
 first|(exfalso;first|contradiction|omega)|(exact vi (by rw[←ha,PR]))
def G2(pre:List Rul):List Rul→Int
 |[]=>0
 |r::rs=>if BQ r≠0 then BQ r else if 0≤GO pre r then 141 else G2 (pre++[r]) rs
theorem LE{l:List Rul}{j:Nat}{r:Rul}(h:l[j]?=some r):G2 (l.take j) (l.drop j)=if BQ r≠0 then BQ r else if 0≤GO (l.take j) r then 141 else G2 (l.take (j+1)) (l.drop (j+1)):=by
 obtain⟨hk,e⟩:=At.1 h;rw[List.drop_eq_getElem_cons hk,G2,e,List.take_succ_eq_append_getElem hk,e]
def FF(l:List Rul):Int:=if 24<(l.length:Int)then 140 else G2 [] l
theorem VN(l:List Rul)(hl:l.length≤1000)(hi:∀r∈l,DP r):AFn prog 85 [.sl 8 (l.map Az) none] (fun x=>x= .v (.int .i64 (FF l))):=by
 have hfind:∀j r,AFn prog 107 [.sl 8 ((l.map Az).take j) none, .agg (Az r)] (fun x=>x= .v (.int .i64 (GO (l.take j) r))):=fun j r=>by
  rw[←List.map_take];exact Qs (l.take j) r (by simp;omega) fun x hx=>(hi x (List.mem_of_mem_take hx)).2.2.2
 refine enter Tryz.func85 rfl rfl rfl rfl rfl 0 rfl ?_;refine w_ (a_ (h:=e_ (q_ (w_ (m_ (h:=n_ (h:=Bl (h:=e_ (?_)))))))));refine A8 rfl (fun hb1=>?_) (fun hb1=>?_)
 ·have hc1:=bp hb1;rw[List.length_map]at hc1;refine w_ (a_ (h:=e_ (A4 (A6 (?_)))));refine A9 ?_
  first|(exfalso;first|contradiction|omega)|(exact vi (by rw[FF,if_pos hc1]))
 have hc1:=bp hb1;rw[List.length_map]at hc1;refine AB (q_ (w_ (m_ (h:=n_ (h:=m_ (h:=e_ (Ag (?_))))))));refine Be (fun n s=>∃j:Nat,j≤l.length∧n=l.length - j∧G2 (l.take j) (l.drop j)=G2 [] l∧s=⟨look [(0, .sl 8 (l.map Az) none),(9, .sl 8 (l.map Az) none),(10, .v (.int .i64 ((l.map Az).length:Int))),(11, .v (.int .i64 (j:Int)))],⟨[],[]⟩⟩) (l.length) ((wk 0 0)) (⟨0,by omega,rfl,rfl,rfl⟩) ?_;rintro n s ⟨j,hj,rfl,ha,rfl⟩;refine w_ (BB (h:=e_ (q_ (?_))));refine A8 rfl (fun hb2=>?_) (fun hb2=>?_)
 ·have hc2:=bp hb2;obtain⟨hlt,r,hy,hrow, -⟩:=C1 Az hc2;refine AB (q_ (Ag (w_ (m_ (h:=i_ (h:=l_ (h:=Al (h:=a_ (h:=s_ (h:=e_ (q_ (w_ (l_ (h:=?_))))))))))))));refine A7 rfl (AG (Qr r (hi r (Aw hy))) ?_);rintro r rfl;refine a_ (h:=e_ (w_ (m_ (h:=Ap (h:=e_ (?_))))));refine A8 rfl (fun hb3=>?_) (fun hb3=>?_)
  ·have hc3:=bp hb3;refine w_ (m_ (h:=a_ (h:=e_ (A4 (A6 (AK (A6 (A6 (AK (A6 (?_)))))))))));refine A9 ?_
   first|(exfalso;first|contradiction|omega)|(exact vi (by rw[FF,if_neg hc1,←ha,LE hy,if_pos hc3]))
  have hc3:=bp hb3;refine AB (q_ (Cp 6 (h:=AU 0 (h:=AU 1 (h:=?_)))));refine Eg (i:=2) rfl (Ot (k:=j) rfl rfl rfl (by simp;omega) ⟨rfl,rfl⟩) ?_;refine AJ 3 (h:=?_);refine c_ 4 rfl (AG (hfind j r) ?_);rintro r rfl;refine o_ (h:=S3 5 (h:=z_ (h:=t_ (?_))));refine A8 rfl (fun hb4=>?_) (fun hb4=>?_)
  ·have hc4:=bp hb4;refine w_ (a_ (h:=e_ (A4 (AK (A6 (A6 (AK (A6 (?_)))))))));refine A9 ?_
   first|(exfalso;first|contradiction|omega)|(exact vi (by rw[FF,if_neg hc1,←ha,LE hy,if_neg (by omega),if_pos hc4]))
  have hc4:=bp hb4;refine Au (Ah (t_ (AR (BD (h:=m_ (h:=AP (?_)))))));refine AE ?_;refine⟨_,_,?_,⟨j+1,by omega,rfl,(by rw[←ha,LE hy,if_neg (by omega),if_neg hc4]),rfl⟩,(wk 0 0)⟩;omega
 have hc2:=bp hb2;have e:=CA Az hj hc2;subst e;refine BT (Ao (Ao (BU (t_ (w_ (a_ (h:=e_ (A4 (?_)))))))));refine A9 ?_
 first|(exfalso;first|contradiction|omega)|(exact vi (by rw[FF,if_neg hc1,←ha];simp[G2]))
end
section
theorem VO(l:List Rul)(hl:l.length≤1000)(hi:∀r∈l,DP r):AFn prog 88 [.sl 8 (l.map Az) none] (fun x=>x= .v (.int .i64 (FF l))):=by
 have hfind:∀j r,AFn prog 109 [.sl 8 ((l.map Az).take j) none, .agg (Az r)] (fun x=>x= .v (.int .i64 (GO (l.take j) r))):=fun j r=>by
  rw[←List.map_take];exact Qt (l.take j) r (by simp;omega) fun x hx=>(hi x (List.mem_of_mem_take hx)).2.2.2
 refine enter Tryz.func88 rfl rfl rfl rfl rfl 0 rfl ?_;refine w_ (a_ (h:=e_ (q_ (w_ (m_ (h:=n_ (h:=Bl (h:=e_ (?_)))))))));refine A8 rfl (fun hb1=>?_) (fun hb1=>?_)
 ·have hc1:=bp hb1;rw[List.length_map]at hc1;refine w_ (a_ (h:=e_ (A4 (A6 (?_)))));refine A9 ?_
  first|(exfalso;first|contradiction|omega)|(exact vi (by rw[FF,if_pos hc1]))
 have hc1:=bp hb1;rw[List.length_map]at hc1;refine AB (q_ (w_ (a_ (h:=e_ (Ag (?_))))));refine Be (fun n s=>∃j:Nat,j≤l.length∧n=l.length - j∧G2 (l.take j) (l.drop j)=G2 [] l∧s=⟨look [(0, .sl 8 (l.map Az) none),(3, .v (.int .i64 (j:Int)))],⟨[],[]⟩⟩) (l.length) ((wk 0 0)) (⟨0,by omega,rfl,rfl,rfl⟩) ?_;rintro n s ⟨j,hj,rfl,ha,rfl⟩;refine q_ (w_ (m_ (h:=m_ (h:=n_ (h:=BB (h:=e_ (?_)))))));refine A8 rfl (fun hb2=>?_) (fun hb2=>?_)
 ·have hc2:=bp hb2;obtain⟨hlt,r,hy,hrow, -⟩:=C1 Az hc2;refine AB (q_ (Ag (q_ (w_ (m_ (h:=m_ (h:=i_ (h:=l_ (h:=?_)))))))));refine A7 rfl (AG (OK r (hi r (Aw hy))) ?_);rintro r rfl;refine a_ (h:=e_ (w_ (m_ (h:=Ap (h:=e_ (?_))))));refine A8 rfl (fun hb3=>?_) (fun hb3=>?_)
  ·have hc3:=bp hb3;refine w_ (m_ (h:=a_ (h:=e_ (A4 (A6 (AK (A6 (A6 (AK (A6 (?_)))))))))));refine A9 ?_
   first|(exfalso;first|contradiction|omega)|(exact vi (by rw[FF,if_neg hc1,←ha,LE hy,if_pos hc3]))
  have hc3:=bp hb3;refine AB (q_ (Cp 9 (h:=AU 0 (h:=AU 1 (h:=?_)))));refine Eg (i:=2) rfl (Ot (k:=j) rfl rfl rfl (by simp;omega) ⟨rfl,rfl⟩) ?_;refine AU 3 (h:=AU 4 (h:=Cg 5 (h:=AJ 6 (h:=?_))));refine c_ 7 rfl (AG (hfind j r) ?_);rintro r rfl;refine o_ (h:=S3 8 (h:=z_ (h:=t_ (?_))));refine A8 rfl (fun hb4=>?_) (fun hb4=>?_)
  ·have hc4:=bp hb4;refine w_ (a_ (h:=e_ (A4 (AK (A6 (A6 (AK (A6 (?_)))))))));refine A9 ?_
   first|(exfalso;first|contradiction|omega)|(exact vi (by rw[FF,if_neg hc1,←ha,LE hy,if_neg (by omega),if_pos hc4]))
  have hc4:=bp hb4;refine Au (Ah (t_ (AR (m_ (h:=BD (h:=a_ (h:=AP (?_))))))));refine AE ?_;refine⟨_,_,?_,⟨j+1,by omega,rfl,(by rw[←ha,LE hy,if_neg (by omega),if_neg hc4]),rfl⟩,(wk 0 0)⟩;omega
 have hc2:=bp hb2;have e:=CA Az hj hc2;subst e;refine BT (Ao (Ao (BU (t_ (w_ (a_ (h:=e_ (A4 (?_)))))))));refine A9 ?_
 first|(exfalso;first|contradiction|omega)|(exact vi (by rw[FF,if_neg hc1,←ha];simp[G2]))
theorem OM(r:Rul)(hr:r.tests.length≤1000):AFn prog 117 [.agg (Az r)] (fun x=>x= .agg (Az r)):=by
 refine enter Tryz.func117 rfl rfl rfl rfl rfl 0 rfl ?_;refine w_ (b_ (h:=Al (h:=e_ (w_ (f_ (h:=l_ (h:=?_)))))));refine A7 rfl (AG (cV r.tests hr) ?_);rintro r rfl;refine f_ (h:=s_ (h:=e_ (w_ (l_ (h:=s_ (h:=e_ (A4 (?_))))))));refine A9 ?_;rfl
theorem ON(r:Rul)(hl:r.tests.length≤1000):AFn prog 102 [.agg (Az r)] (fun x=>x= .agg (Az r)):=by
 refine enter Tryz.func102 rfl rfl rfl rfl rfl 0 rfl ?_;refine w_ (b_ (h:=Al (h:=e_ (w_ (f_ (h:=l_ (h:=EU (h:=f_ (h:=s_ (h:=e_ (w_ (l_ (h:=s_ (h:=e_ (A4 (?_))))))))))))))));refine A9 ?_;rfl
theorem d6(l:List Rul)(h1:l.length≤1000)(hl:∀r∈l,r.tests.length≤1000):N9 prog 89 [.sl 8 (l.map Az) none] (fun g=> .sl 8 (l.map Az) g) (83,8,l.map Az):=by
 refine enter Tryz.func89 rfl rfl rfl rfl rfl 0 rfl ?_;refine w_ (a_ (h:=e_ (w_ (a_ (h:=e_ (q_ (w_ (a_ (h:=e_ (Ag (?_)))))))))));refine Jv 3 83 8 rfl (by repeat constructor) ?_;refine Be (fun n s=>∃k:Nat,k≤l.length∧n=l.length - k∧s=⟨look [(0, .sl 8 (l.map Az) none),(3, .sl 8 ((l.take k).map Az) (some 0)),(4, .v (.int .i64 (k:Int)))],⟨[],[(83,8,(l.take k).map Az)]⟩⟩) (l.length) ((wk 0 1)) (⟨0,BV _,rfl,rfl⟩) ?_;rintro n s ⟨k,hk,rfl,rfl⟩;refine q_ (w_ (m_ (h:=m_ (h:=n_ (h:=BB (h:=e_ (?_)))))));refine A8 rfl (fun hb1=>?_) (fun hb1=>?_)
 ·have hc1:=bp hb1;obtain⟨hlt,r,hr,hrow,e⟩:=C1 Az hc1;refine AB (q_ (Ag (AR (m_ (h:=m_ (h:=m_ (h:=i_ (h:=l_ (h:=?_)))))))));refine A7 rfl (AG (ON r (hl r (Aw hr))) ?_);rintro r rfl;refine Bd (h:=EU (h:=a_ (h:=AP (Ah (t_ (AR (m_ (h:=BD (h:=a_ (h:=AP (?_)))))))))));refine AE ?_;refine⟨_,_,?_,⟨k+1,by omega,rfl,rfl⟩,?_⟩
  ·omega
  rw[e];exact(wk 0 1)
 have hc1:=bp hb1;have e:=CA Az hk hc1;subst e;rw[List.take_length];refine BT (Ao (Ao (BU (t_ (w_ (m_ (h:=a_ (h:=e_ (A4 (?_))))))))));refine Ai (some 0) (h5:=(AA _)) (h6:=⟨rfl,rfl,rfl⟩)
theorem d7(l:List Rul)(h1:l.length≤1000)(hl:∀r∈l,r.tests.length≤1000):AFn prog 89 [.sl 8 (l.map Az) none] (fun x=>x= .sl 8 (l.map Az) none):=by
 refine enter Tryz.func89 rfl rfl rfl rfl rfl 0 rfl ?_;refine w_ (a_ (h:=e_ (w_ (a_ (h:=e_ (q_ (w_ (a_ (h:=e_ (Ag (?_)))))))))));refine Jv 3 83 8 rfl (by repeat constructor) ?_;refine Be (fun n s=>∃k:Nat,k≤l.length∧n=l.length - k∧s=⟨look [(0, .sl 8 (l.map Az) none),(3, .sl 8 ((l.take k).map Az) (some 0)),(4, .v (.int .i64 (k:Int)))],⟨[],[(83,8,(l.take k).map Az)]⟩⟩) (l.length) ((wk 0 1)) (⟨0,BV _,rfl,rfl⟩) ?_;rintro n s ⟨k,hk,rfl,rfl⟩;refine q_ (w_ (m_ (h:=m_ (h:=n_ (h:=BB (h:=e_ (?_)))))));refine A8 rfl (fun hb1=>?_) (fun hb1=>?_)
 ·have hc1:=bp hb1;obtain⟨hlt,r,hr,hrow,e⟩:=C1 Az hc1;refine AB (q_ (Ag (AR (m_ (h:=m_ (h:=m_ (h:=i_ (h:=l_ (h:=?_)))))))));refine A7 rfl (AG (ON r (hl r (Aw hr))) ?_);rintro r rfl;refine Bd (h:=EU (h:=a_ (h:=AP (Ah (t_ (AR (m_ (h:=BD (h:=a_ (h:=AP (?_)))))))))));refine AE ?_;refine⟨_,_,?_,⟨k+1,by omega,rfl,rfl⟩,?_⟩
  ·omega
  rw[e];exact(wk 0 1)
 have hc1:=bp hb1;have e:=CA Az hk hc1;subst e;rw[List.take_length];refine BT (Ao (Ao (BU (t_ (w_ (m_ (h:=a_ (h:=e_ (A4 (?_))))))))));refine A9 ?_;rfl
end
def Bv(l:List Rul)(r:Rul)(front:Bool):List Rul×Int:=
 if FF l≠0 then([],FF l)else if BQ r≠0 then([],BQ r)else if 0≤GO l r then([],141)else if 24≤(l.length:Int)then([],140)else(if front=true then r::l else l++[r],0)
def DJ(x:List Rul×Int):AV:= .tup [.sl 8 (x.1.map Az) none, .v (.int .i64 x.2)]
theorem VP{l:List Rul}(h:¬FF l≠0):(l.length:Int)≤24:=by
 unfold FF at h;split at h
 ·simp at h
 omega
theorem FX{x:List Rul×Int}{e:Int}(h:x=([],e)):LeA (.tup [.v (.slice none 0 0), .v (.int .i64 e)]) (DJ x):=by
 rw[h];exact(by repeat (first|exact AA _|exact LeA.nil _|exact LeL.refl _|refine LeA.agg ?_|refine LeA.tup ?_|exact LeL.nil|refine LeL.cons ?_ ?_|exact LeA.any _))
theorem OO{x:List Rul×Int}{l:List Rul}{e:Int}(h:x=(l,e)):LeA (.tup [.sl 8 (l.map Az) none, .v (.int .i64 e)]) (DJ x):=by
 rw[h];exact AA _
section
theorem d8(l:List Rul)(r:Rul)(hl:l.length≤1000)(hi:∀r∈l,DP r)(hr:DP r):AFn prog 66 [.sl 8 (l.map Az) none, .agg (Az r), .v (.bool true)] (fun x=>x=DJ (Bv l r true)):=by
 refine enter Tryz.func66 rfl rfl rfl rfl rfl 0 rfl ?_;refine w_ (b_ (h:=a_ (h:=a_ (h:=e_ (q_ (w_ (m_ (h:=?_))))))));refine A7 rfl (AG (VN l hl hi) ?_);rintro r rfl;refine a_ (h:=e_ (w_ (m_ (h:=Ap (h:=e_ (?_))))));refine A8 rfl (fun hb1=>?_) (fun hb1=>?_)
 ·have hc1:=bp hb1;refine w_ (m_ (h:=a_ (h:=a_ (h:=e_ (A4 (A6 (?_)))))));refine Ai (r:=DJ (Bv l r true)) none (h5:=?_) (h6:=⟨rfl,rfl,rfl⟩);exact FX (by simp[Bv, *])
 have hc1:=bp hb1;refine AB (q_ (w_ (l_ (h:=?_))));refine A7 rfl (AG (Qr r hr) ?_);rintro r rfl;refine a_ (h:=e_ (w_ (m_ (h:=Ap (h:=e_ (?_))))));refine A8 rfl (fun hb2=>?_) (fun hb2=>?_)
 ·have hc2:=bp hb2;refine w_ (m_ (h:=a_ (h:=a_ (h:=e_ (A4 (A6 (?_)))))));refine Ai (r:=DJ (Bv l r true)) none (h5:=?_) (h6:=⟨rfl,rfl,rfl⟩);exact FX (by simp[Bv, *])
 have hc2:=bp hb2;refine AB (q_ (w_ (m_ (h:=l_ (h:=?_)))));refine A7 rfl (AG (Qs l r hl fun x hx=>(hi x hx).2.2.2) ?_);rintro r rfl;refine Cw (h:=e_ (?_));refine A8 rfl (fun hb3=>?_) (fun hb3=>?_)
 ·have hc3:=bp hb3;refine w_ (a_ (h:=a_ (h:=e_ (A4 (A6 (?_))))));refine Ai (r:=DJ (Bv l r true)) none (h5:=?_) (h6:=⟨rfl,rfl,rfl⟩);exact FX (by simp[Bv, *])
 have hc3:=bp hb3;refine AB (q_ (w_ (m_ (h:=n_ (h:=Cw (h:=e_ (?_)))))));refine A8 rfl (fun hb4=>?_) (fun hb4=>?_)
 ·have hc4:=bp hb4;refine w_ (a_ (h:=a_ (h:=e_ (A4 (A6 (?_))))));refine Ai (r:=DJ (Bv l r true)) none (h5:=?_) (h6:=⟨rfl,rfl,rfl⟩);exact FX (by rw[List.length_map]at hc4;simp[Bv, *])
 have hc4:=bp hb4;have h4:¬24≤(l.length:Int):=by rw[List.length_map]at hc4;omega
 refine AB (w_ (m_ (h:=n_ (h:=BD (h:=S1 (h:=a_ (h:=e_ (q_ (w_ (m_ (h:=e_ (?_))))))))))));refine A8 rfl (fun hb5=>?_) (fun hb5=>?_)
 ·have hc5:=bp hb5;refine AR (m_ (h:=l_ (h:=?_)));refine A7 rfl (AG (OM r hr.2.2.2) ?_);rintro r rfl;refine Bd (h:=EU (h:=a_ (h:=e_ (q_ (w_ (m_ (h:=n_ (h:=m_ (h:=e_ (Ag (?_)))))))))));refine Be (fun n s=>∃j:Nat,j≤l.length∧n=l.length - j∧s=⟨look [(2, .v (.bool true)),(4, .bp 0 0),(10, .sl 8 ((r::l.take j).map Az) (some 0)),(40, .sl 8 (l.map Az) none),(41, .v (.int .i64 ((l.map Az).length:Int))),(42, .v (.int .i64 (j:Int)))],⟨[Az r],[(83,8,(r::l.take j).map Az)]⟩⟩) (l.length) ((wk 1 1)) (⟨0,BV _,rfl,rfl⟩) ?_;rintro n s ⟨j,hj,rfl,rfl⟩;refine w_ (BB (h:=e_ (q_ (?_))));refine A8 rfl (fun hb6=>?_) (fun hb6=>?_)
  ·have hc6:=bp hb6;obtain⟨hlt,x,hx,hrow,e⟩:=C1 Az hc6;refine AB (q_ (Ag (w_ (i_ (h:=l_ (h:=Al (h:=s_ (h:=e_ (AR (m_ (h:=l_ (h:=?_))))))))))));refine A7 rfl (AG (OM x (hi x (Aw hx)).2.2.2) ?_);rintro r rfl;refine Bd (h:=EU (h:=a_ (h:=AP (Ah (t_ (AR (BD (h:=m_ (h:=AP (?_))))))))));refine AE ?_;refine⟨_,_,?_,⟨j+1,by omega,rfl,rfl⟩,?_⟩
   ·omega
   rw[show(r::l.take (j+1)).map Az=(r::l.take j).map Az++[Az x] by rw[List.map_cons,e];rfl];exact(wk 1 1)
  have hc6:=bp hb6;have e:=CA Az hj hc6;subst e;rw[List.take_length];refine BT (Ao (Ao (BU (t_ (q_ (w_ (m_ (h:=B9 (h:=e_ (?_))))))))));refine A8 rfl (fun hb7=>?_) (fun hb7=>?_)
  ·have hc7:=bp hb7;exfalso;first|contradiction|omega
  have hc7:=bp hb7;refine AB (w_ (m_ (h:=a_ (h:=a_ (h:=e_ (A4 (?_)))))));refine Ai (r:=DJ (Bv l r true)) none (h5:=?_) (h6:=⟨rfl,rfl,rfl⟩);exact OO (l:=r::l) (by simp[Bv, *])
 have hc5:=bp hb5;exfalso;first|contradiction|omega
theorem d9(l:List Rul)(r:Rul)(hl:l.length≤1000)(hi:∀r∈l,DP r)(hr:DP r):AFn prog 66 [.sl 8 (l.map Az) none, .agg (Az r), .v (.bool false)] (fun x=>x=DJ (Bv l r false)):=by
 refine enter Tryz.func66 rfl rfl rfl rfl rfl 0 rfl ?_;refine w_ (b_ (h:=a_ (h:=a_ (h:=e_ (q_ (w_ (m_ (h:=?_))))))));refine A7 rfl (AG (VN l hl hi) ?_);rintro r rfl;refine a_ (h:=e_ (w_ (m_ (h:=Ap (h:=e_ (?_))))));refine A8 rfl (fun hb1=>?_) (fun hb1=>?_)
 ·have hc1:=bp hb1;refine w_ (m_ (h:=a_ (h:=a_ (h:=e_ (A4 (A6 (?_)))))));refine Ai (r:=DJ (Bv l r false)) none (h5:=?_) (h6:=⟨rfl,rfl,rfl⟩);exact FX (by simp[Bv, *])
 have hc1:=bp hb1;refine AB (q_ (w_ (l_ (h:=?_))));refine A7 rfl (AG (Qr r hr) ?_);rintro r rfl;refine a_ (h:=e_ (w_ (m_ (h:=Ap (h:=e_ (?_))))));refine A8 rfl (fun hb2=>?_) (fun hb2=>?_)
 ·have hc2:=bp hb2;refine w_ (m_ (h:=a_ (h:=a_ (h:=e_ (A4 (A6 (?_)))))));refine Ai (r:=DJ (Bv l r false)) none (h5:=?_) (h6:=⟨rfl,rfl,rfl⟩);exact FX (by simp[Bv, *])
 have hc2:=bp hb2;refine AB (q_ (w_ (m_ (h:=l_ (h:=?_)))));refine A7 rfl (AG (Qs l r hl fun x hx=>(hi x hx).2.2.2) ?_);rintro r rfl;refine Cw (h:=e_ (?_));refine A8 rfl (fun hb3=>?_) (fun hb3=>?_)
 ·have hc3:=bp hb3;refine w_ (a_ (h:=a_ (h:=e_ (A4 (A6 (?_))))));refine Ai (r:=DJ (Bv l r false)) none (h5:=?_) (h6:=⟨rfl,rfl,rfl⟩);exact FX (by simp[Bv, *])
 have hc3:=bp hb3;refine AB (q_ (w_ (m_ (h:=n_ (h:=Cw (h:=e_ (?_)))))));refine A8 rfl (fun hb4=>?_) (fun hb4=>?_)
 ·have hc4:=bp hb4;refine w_ (a_ (h:=a_ (h:=e_ (A4 (A6 (?_))))));refine Ai (r:=DJ (Bv l r false)) none (h5:=?_) (h6:=⟨rfl,rfl,rfl⟩);exact FX (by rw[List.length_map]at hc4;simp[Bv, *])
 have hc4:=bp hb4;have h4:¬24≤(l.length:Int):=by rw[List.length_map]at hc4;omega
 refine AB (w_ (m_ (h:=n_ (h:=BD (h:=S1 (h:=a_ (h:=e_ (q_ (w_ (m_ (h:=e_ (?_))))))))))));refine A8 rfl (fun hb5=>?_) (fun hb5=>?_)
 ·have hc5:=bp hb5;exfalso;first|contradiction|omega
 have hc5:=bp hb5;refine AB (q_ (w_ (m_ (h:=n_ (h:=m_ (h:=e_ (Ag (?_))))))));refine Be (fun n s=>∃j:Nat,j≤l.length∧n=l.length - j∧s=⟨look [(2, .v (.bool false)),(4, .bp 0 0),(10, .sl 8 ((l.take j).map Az) (some 0)),(40, .sl 8 (l.map Az) none),(41, .v (.int .i64 ((l.map Az).length:Int))),(42, .v (.int .i64 (j:Int)))],⟨[Az r],[(83,8,(l.take j).map Az)]⟩⟩) (l.length) ((wk 1 1)) (⟨0,BV _,rfl,rfl⟩) ?_;rintro n s ⟨j,hj,rfl,rfl⟩;refine w_ (BB (h:=e_ (q_ (?_))));refine A8 rfl (fun hb6=>?_) (fun hb6=>?_)
 ·have hc6:=bp hb6;obtain⟨hlt,x,hx,hrow,e⟩:=C1 Az hc6;refine AB (q_ (Ag (w_ (i_ (h:=l_ (h:=Al (h:=s_ (h:=e_ (AR (m_ (h:=l_ (h:=?_))))))))))));refine A7 rfl (AG (OM x (hi x (Aw hx)).2.2.2) ?_);rintro r rfl;refine Bd (h:=EU (h:=a_ (h:=AP (Ah (t_ (AR (BD (h:=m_ (h:=AP (?_))))))))));refine AE ?_;refine⟨_,_,?_,⟨j+1,by omega,rfl,rfl⟩,?_⟩
  ·omega
  rw[e];exact(wk 1 1)
 have hc6:=bp hb6;have e:=CA Az hj hc6;subst e;rw[List.take_length];refine BT (Ao (Ao (BU (t_ (q_ (w_ (m_ (h:=B9 (h:=e_ (?_))))))))));refine A8 rfl (fun hb7=>?_) (fun hb7=>?_)
 ·have hc7:=bp hb7;refine AR (m_ (h:=l_ (h:=?_)));refine A7 rfl (AG (OM r hr.2.2.2) ?_);rintro r rfl;refine Bd (h:=EU (h:=a_ (h:=e_ (w_ (m_ (h:=a_ (h:=a_ (h:=e_ (A4 (?_))))))))));refine Ai (r:=DJ (Bv l r false)) none (h5:=?_) (h6:=⟨rfl,rfl,rfl⟩);have:=OO (x:=Bv l r false) (l:=l++[r]) (e:=0) (by simp[Bv, *]);rw[List.map_append]at this;exact this
 have hc7:=bp hb7;exfalso;first|contradiction|omega
theorem dA(l:List Rul)(r:Rul)(front:Bool)(hl:l.length≤1000)(hi:∀r∈l,DP r)(hr:DP r):AFn prog 66 [.sl 8 (l.map Az) none, .agg (Az r), .v (.bool front)] (fun x=>x=DJ (Bv l r front)):=by
 cases front
 ·exact d9 l r hl hi hr
 exact d8 l r hl hi hr
end
section
theorem dB(l:List Rul)(r:Rul)(hl:l.length≤1000)(hi:∀r∈l,DP r)(hr:DP r):AFn prog 61 [.sl 8 (l.map Az) none, .agg (Az r), .v (.bool true)] (fun x=>x=DJ (Bv l r true)):=by
 refine enter Tryz.func61 rfl rfl rfl rfl rfl 0 rfl ?_;refine w_ (b_ (h:=a_ (h:=a_ (h:=e_ (q_ (w_ (m_ (h:=?_))))))));refine A7 rfl (AG (VO l hl hi) ?_);rintro r rfl;refine a_ (h:=e_ (w_ (m_ (h:=Ap (h:=e_ (?_))))));refine A8 rfl (fun hb1=>?_) (fun hb1=>?_)
 ·have hc1:=bp hb1;refine w_ (m_ (h:=a_ (h:=a_ (h:=e_ (A4 (A6 (?_)))))));refine Ai (r:=DJ (Bv l r true)) none (h5:=?_) (h6:=⟨rfl,rfl,rfl⟩);exact FX (by simp[Bv, *])
 have hc1:=bp hb1;refine AB (q_ (w_ (l_ (h:=?_))));refine A7 rfl (AG (OK r hr) ?_);rintro r rfl;refine a_ (h:=e_ (w_ (m_ (h:=Ap (h:=e_ (?_))))));refine A8 rfl (fun hb2=>?_) (fun hb2=>?_)
 ·have hc2:=bp hb2;refine w_ (m_ (h:=a_ (h:=a_ (h:=e_ (A4 (A6 (?_)))))));refine Ai (r:=DJ (Bv l r true)) none (h5:=?_) (h6:=⟨rfl,rfl,rfl⟩);exact FX (by simp[Bv, *])
 have hc2:=bp hb2;refine AB (q_ (w_ (m_ (h:=l_ (h:=?_)))));refine A7 rfl (AG (Qt l r hl fun x hx=>(hi x hx).2.2.2) ?_);rintro r rfl;refine Cw (h:=e_ (?_));refine A8 rfl (fun hb3=>?_) (fun hb3=>?_)
 ·have hc3:=bp hb3;refine w_ (a_ (h:=a_ (h:=e_ (A4 (A6 (?_))))));refine Ai (r:=DJ (Bv l r true)) none (h5:=?_) (h6:=⟨rfl,rfl,rfl⟩);exact FX (by simp[Bv, *])
 have hc3:=bp hb3;refine AB (q_ (w_ (m_ (h:=n_ (h:=AD (h:=e_ (?_)))))));refine A8 rfl (fun hb4=>?_) (fun hb4=>?_)
 ·have hc4:=bp hb4;rw[List.length_map]at hc4;refine w_ (a_ (h:=a_ (h:=e_ (A4 (A6 (?_))))));refine Ai (r:=DJ (Bv l r true)) none (h5:=?_) (h6:=⟨rfl,rfl,rfl⟩);exact FX (by simp[Bv, *])
 have hc4:=bp hb4;rw[List.length_map]at hc4;have h5:=VP (not_not_intro hc1);have h4:¬24≤(l.length:Int):=by omega
 refine AB (q_ (w_ (m_ (h:=e_ (?_)))));refine A8 rfl (fun hb5=>?_) (fun hb5=>?_)
 ·have hc5:=bp hb5;refine w_ (l_ (h:=?_));refine A7 rfl (AG (ON r hr.2.2.2) ?_);rintro r rfl;refine A7 rfl (WX (by repeat (first|exact DenseA.nil _|(apply DenseA.cons;(focus exact rfl);(focus exact rfl);(focus exact rfl);(focus exact rfl))|(apply DenseA.consE;(focus exact rfl);(focus exact rfl);(focus exact rfl)))) rfl rfl rfl rfl (by repeat constructor) ?_);refine m_ (h:=?_);refine A7 rfl (AG (d7 l hl fun x hx=>(hi x hx).2.2.2) ?_);rintro r rfl;refine EU (h:=a_ (h:=a_ (h:=e_ (A4 (A6 (?_))))));refine Ai (r:=DJ (Bv l r true)) none (h5:=?_) (h6:=⟨rfl,rfl,rfl⟩);exact OO (l:=r::l) (by simp[Bv, *])
 have hc5:=bp hb5;exfalso;first|contradiction|omega
theorem dC(l:List Rul)(r:Rul)(hl:l.length≤1000)(hi:∀r∈l,DP r)(hr:DP r):AFn prog 61 [.sl 8 (l.map Az) none, .agg (Az r), .v (.bool false)] (fun x=>x=DJ (Bv l r false)):=by
 refine enter Tryz.func61 rfl rfl rfl rfl rfl 0 rfl ?_;refine w_ (b_ (h:=a_ (h:=a_ (h:=e_ (q_ (w_ (m_ (h:=?_))))))));refine A7 rfl (AG (VO l hl hi) ?_);rintro r rfl;refine a_ (h:=e_ (w_ (m_ (h:=Ap (h:=e_ (?_))))));refine A8 rfl (fun hb1=>?_) (fun hb1=>?_)
 ·have hc1:=bp hb1;refine w_ (m_ (h:=a_ (h:=a_ (h:=e_ (A4 (A6 (?_)))))));refine Ai (r:=DJ (Bv l r false)) none (h5:=?_) (h6:=⟨rfl,rfl,rfl⟩);exact FX (by simp[Bv, *])
 have hc1:=bp hb1;refine AB (q_ (w_ (l_ (h:=?_))));refine A7 rfl (AG (OK r hr) ?_);rintro r rfl;refine a_ (h:=e_ (w_ (m_ (h:=Ap (h:=e_ (?_))))));refine A8 rfl (fun hb2=>?_) (fun hb2=>?_)
 ·have hc2:=bp hb2;refine w_ (m_ (h:=a_ (h:=a_ (h:=e_ (A4 (A6 (?_)))))));refine Ai (r:=DJ (Bv l r false)) none (h5:=?_) (h6:=⟨rfl,rfl,rfl⟩);exact FX (by simp[Bv, *])
 have hc2:=bp hb2;refine AB (q_ (w_ (m_ (h:=l_ (h:=?_)))));refine A7 rfl (AG (Qt l r hl fun x hx=>(hi x hx).2.2.2) ?_);rintro r rfl;refine Cw (h:=e_ (?_));refine A8 rfl (fun hb3=>?_) (fun hb3=>?_)
 ·have hc3:=bp hb3;refine w_ (a_ (h:=a_ (h:=e_ (A4 (A6 (?_))))));refine Ai (r:=DJ (Bv l r false)) none (h5:=?_) (h6:=⟨rfl,rfl,rfl⟩);exact FX (by simp[Bv, *])
 have hc3:=bp hb3;refine AB (q_ (w_ (m_ (h:=n_ (h:=AD (h:=e_ (?_)))))));refine A8 rfl (fun hb4=>?_) (fun hb4=>?_)
 ·have hc4:=bp hb4;rw[List.length_map]at hc4;refine w_ (a_ (h:=a_ (h:=e_ (A4 (A6 (?_))))));refine Ai (r:=DJ (Bv l r false)) none (h5:=?_) (h6:=⟨rfl,rfl,rfl⟩);exact FX (by simp[Bv, *])
 have hc4:=bp hb4;rw[List.length_map]at hc4;have h5:=VP (not_not_intro hc1);have h4:¬24≤(l.length:Int):=by omega
 refine AB (q_ (w_ (m_ (h:=e_ (?_)))));refine A8 rfl (fun hb5=>?_) (fun hb5=>?_)
 ·have hc5:=bp hb5;exfalso;first|contradiction|omega
 have hc5:=bp hb5;refine AB (q_ (Bf ([(0,Az r)]) 8 (h:=AU 0 (h:=?_))))
 first|refine AJ 2 (h:=?_)|refine BF 2 rfl (fun _ hS=>GV rfl (by rw[hS];rfl) rfl ⟨rfl,rfl⟩) ?_
 refine c_ 1 rfl (Oy rfl (by repeat (first|exact Args.nil|refine Args.cons _ _ _ _ _ rfl (Jz rfl) ?_|refine Args.cons _ _ _ _ _ rfl (Kf _) ?_|refine Args.cons _ _ _ _ _ rfl (Jy _) ?_|refine Args.cons _ _ _ _ _ rfl (Kg rfl (by repeat (first|exact AA _|exact LeA.nil _|exact LeL.refl _|refine LeA.agg ?_|refine LeA.tup ?_|exact LeL.nil|refine LeL.cons ?_ ?_|exact LeA.any _))) ?_)) (d6 l hl fun x hx=>(hi x hx).2.2.2) (fun _=>rfl) (by repeat constructor) ?_);refine o_ (h:=?_);refine c_ 3 rfl (AG (ON r hr.2.2.2) ?_);rintro r rfl;refine o_ (h:=H0 4 (h:=?_))
 first|refine c_ 5 rfl (Dx rfl rfl rfl (by simp<;>omega) (by repeat constructor) ?_)|refine c_ 5 rfl (Dy rfl rfl (by simp<;>omega) (by repeat constructor) ?_)
 refine o_ (h:=BO 6 (h:=BO 7 (h:=z_ (h:=t_ (A4 (?_))))));refine Ai (r:=DJ (Bv l r false)) none (h5:=?_) (h6:=⟨rfl,rfl,rfl⟩);have:=OO (x:=Bv l r false) (l:=l++[r]) (e:=0) (by simp[Bv, *]);rw[List.map_append]at this;exact this
theorem dD(l:List Rul)(r:Rul)(front:Bool)(hl:l.length≤1000)(hi:∀r∈l,DP r)(hr:DP r):AFn prog 61 [.sl 8 (l.map Az) none, .agg (Az r), .v (.bool front)] (fun x=>x=DJ (Bv l r front)):=by
 cases front
 ·exact dC l r hl hi hr
 exact dB l r hl hi hr
end
def Hw:Rul:=⟨3,2,1,[⟨3,1,0,⟨#[]⟩,0⟩],0,⟨#[]⟩,0,⟨#[]⟩⟩
def Gv:Rul:=⟨3,1,1,[],0,⟨#[]⟩,0,⟨#[]⟩⟩
def LF(u:Int):Ctx:=⟨2,0,0,u,0,0,0,0,0,(0,0),⟨#[]⟩,⟨#[]⟩,false,0,0,0,0,0,0,[],0⟩
def OP:Cxs:=⟨[],[],[]⟩
theorem dE:DP Hw:=by unfold DP Hw;simp;decide
theorem dF:DP Gv:=by unfold DP Gv;simp;decide
theorem dG:Bv [Gv] Hw true=([Hw,Gv],0):=by decide
theorem dH:E7 (E8 3 [] (LF 0)) [Hw,Gv] 0=0:=by decide
theorem dJ:E7 (E8 3 [] (LF 5)) [Hw,Gv] 0=1:=by decide
section
theorem dL:AFn prog 19 [] (fun x=>x= .v (.bool true)):=by
 have hw:∀r∈[Gv],DP r:=by intro r hr;rw[List.mem_singleton.1 hr];exact dF
 have ht:∀r∈[Hw,Gv],r.tests.length≤1000:=by intro r hr;simp at hr;rcases hr with rfl|rfl<;>decide
 refine enter Tryz.func19 rfl rfl rfl rfl rfl 0 rfl ?_;refine w_ (a_ (h:=e_ (w_ (Ak (h:=Bd (h:=Ak (h:=Al (h:=s_ (h:=e_ (w_ (?_)))))))))));refine A7 rfl (FJ (y:= .agg (Az Gv)) (D8 ⟨rfl,rfl⟩) ?_);refine Al (h:=s_ (h:=e_ (w_ (l_ (h:=Bd (h:=l_ (h:=?_)))))));refine A7 rfl (AG (dA [Gv] Hw true (by decide) hw dE) ?_);rintro r rfl;rw[dG];refine m_ (h:=x_ (h:=x_ (h:=a_ (h:=a_ (h:=e_ (w_ (?_)))))));refine A7 rfl (FJ (y:= .agg (D4 (LF 0) OP)) (D8 ⟨rfl,rfl⟩) ?_);refine Al (h:=s_ (h:=e_ (w_ (Ak (h:=?_)))));refine A7 rfl (FJ (y:= .agg (D4 (LF 5) OP)) (D8 ⟨rfl,rfl⟩) ?_);refine Al (h:=s_ (h:=e_ (w_ (m_ (h:=AD (h:=m_ (h:=?_)))))));refine AW true rfl rfl (fun hb1=>?_) (fun hb1=>?_)
 ·have hc1:=bp hb1;refine m_ (h:=l_ (h:=?_));refine B4 (AG (PS [Hw,Gv] 3 [] (LF 0) OP (by decide) (by decide) ht) ?_);rintro r rfl;rw[dH];refine AD (h:=AF (h:=m_ (h:=?_)));refine AW true rfl rfl (fun hb2=>?_) (fun hb2=>?_)
  ·have hc2:=bp hb2;refine m_ (h:=l_ (h:=?_));refine B4 (AG (PS [Hw,Gv] 3 [] (LF 5) OP (by decide) (by decide) ht) ?_);rintro r rfl;rw[dJ];refine AD (h:=AF (h:=a_ (h:=e_ (A4 (?_)))));refine A9 ?_;rfl
  have hc2:=bp hb2;refine A3 (h:=A3 (h:=A3 (h:=A3 (h:=AM (h:=a_ (h:=e_ (A4 (?_))))))));refine A9 ?_;exact absurd hb2 (by decide)
 have hc1:=bp hb1;refine A3 (h:=A3 (h:=A3 (h:=A3 (h:=AM (h:=m_ (h:=A3 (h:=A3 (h:=A3 (h:=A3 (h:=AM (h:=a_ (h:=e_ (A4 (?_))))))))))))));refine A9 ?_;exact absurd hb1 (by decide)
end
section
theorem dM(l:List Int)(a:Nat)(ha:a≤100000000000):GenF prog 84 l a [] 4 (fun r=>∃s:ByteArray,r= .v (.string s)∧s.size≤60):=by
 refine enter Tryz.func84 rfl rfl rfl rfl rfl 1 rfl ?_;refine w_ (a_ (h:=e_ (w_ (a_ (h:=e_ (q_ (w_ (m_ (h:=Bd (h:=?_))))))))));refine A7 rfl (BE 0 (hc:=El l _ _ (fun z=>decide (1≤z∧z≤3)) (by omega) (by rfl) (by rfl) (by rfl)) (hR:=?_));rintro r a1 ha1 ⟨k1,rfl,p1⟩;refine⟨rfl,_,(by repeat constructor),?_⟩;obtain⟨hz1,hz2⟩:=of_decide_eq_true p1;obtain⟨m,rfl⟩:=Int.eq_ofNat_of_zero_le (show 0≤k1 by omega);refine a_ (h:=e_ (Ag (?_)));refine Be (fun n s=>∃(j a1:Nat) (t:ByteArray),j≤m∧n=j∧a1≤a+1+(m - j)∧t.size≤2 * (m - j)∧s=⟨look [(0, .bp 0 0),(3, .v (.string t)),(4, .v (.int .i64 (j:Int)))],⟨[DU l a1],[]⟩⟩) (m) ((wk 1 0)) (⟨m,a1,⟨#[]⟩,by omega,rfl,by omega,by rw[Nat.sub_self];exact BN 0,rfl⟩) ?_;rintro n s ⟨j,b1,t,hj,hn,hb1,ht,rfl⟩;subst n;refine q_ (w_ (m_ (h:=Bl (h:=e_ (?_)))));refine A8 rfl (fun hb1=>?_) (fun hb1=>?_)
 ·have hc1:=bp hb1;refine AB (q_ (Ag (AR (m_ (h:=m_ (h:=Bd (h:=?_)))))));refine A7 rfl (BE 0 (hc:=Jl l _ _ (fun s=>decide (s.size≤1)) (by omega) (by rfl) (by rfl) (by rfl)) (hR:=?_));rintro r a2 ha2 ⟨k2,rfl,p2⟩;refine⟨rfl,_,(by repeat constructor),?_⟩;have hw:=of_decide_eq_true p2;refine A7 rfl (Ey rfl rfl (by show 1+k2.size≤_;omega) ?_);refine A7 rfl (Ey rfl rfl (by have e:=ByteArray.size_append (a:=⟨#[47]⟩) (b:=k2);have:(⟨#[47]⟩:ByteArray).size=1:=rfl;omega) ?_);refine a_ (h:=AP (Ah (t_ (AR (m_ (h:=Fd (h:=a_ (h:=AP (?_)))))))));refine AE ?_;obtain⟨j,rfl⟩:∃i,j=i+1:=⟨j - 1,by omega⟩;refine⟨_,_,?_,⟨j,_,_,by omega,rfl,?_,?_,rfl⟩,Av 1 0 rfl rfl rfl rfl (by repeat (first|exact Sub.nil|refine Ax rfl rfl ?_|(apply Sub.of;(focus exact rfl);(focus exact LeA.of_eq (vi (by omega)));(focus exact rfl))))⟩
  ·omega
  ·omega
  have e:=ByteArray.size_append (a:=⟨#[47]⟩) (b:=k2);have e2:=ByteArray.size_append (a:=t) (b:=⟨#[47]⟩++k2);have:(⟨#[47]⟩:ByteArray).size=1:=rfl;omega
 have hc1:=bp hb1;refine BT (Ao (Ao (BU (t_ (w_ (m_ (h:=a_ (h:=e_ (A4 (?_))))))))));refine Ai none (h5:=(AA _)) (h6:=⟨_,rfl,rfl,b1,by omega,rfl,t,rfl,by omega⟩)
end
end Go.Proofs.YtbgnigjfkbmceaaGreatDoor
