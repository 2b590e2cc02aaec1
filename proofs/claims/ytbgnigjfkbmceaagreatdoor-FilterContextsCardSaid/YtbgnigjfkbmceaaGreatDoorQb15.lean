/-
  Part 15 of the proof of FilterContextsP: what the statement's proof uses of the texts in wip/tpl.
-/
import Derived.Test.YtbgnigjfkbmceaaGreatDoorQb14
open Go.Proofs.Tryz (prog)
set_option maxRecDepth 10000
set_option maxHeartbeats 4000000
set_option linter.unusedVariables false
set_option linter.unusedSimpArgs false
namespace Go.Proofs.YtbgnigjfkbmceaaGreatDoor
open Go.RowKit
theorem cV(x:BitVec 64):(x &&& ~~~ 4294967295#64)=0#64↔x.toNat<4294967296:=by
 have hc:(x &&& 4294967295#64).toNat=x.toNat % 4294967296:=by
  rw[BitVec.toNat_and];exact Nat.and_two_pow_sub_one_eq_mod x.toNat 32
 have hs:x=(x &&& 4294967295#64) ||| (x &&& ~~~ 4294967295#64):=by
  apply BitVec.eq_of_getLsbD_eq;intro i hi;simp only[BitVec.getLsbD_or,BitVec.getLsbD_and,BitVec.getLsbD_not,hi];cases x.getLsbD i<;>cases (4294967295#64).getLsbD i<;>simp
 constructor
 ·intro h;rw[h,BitVec.or_zero]at hs;have:=congrArg BitVec.toNat hs;omega
 intro h
 have e:x &&& 4294967295#64=x:=by
  apply BitVec.eq_of_toNat_eq;rw[hc];omega
 rw[←e,BitVec.and_assoc];have:(4294967295#64 &&& ~~~ 4294967295#64)=0#64:=by decide
 rw[this,BitVec.and_zero]
theorem cW{m:Int}(h1:0≤m)(h2:m<18446744073709551616):MY .u64 m 4294967295=0↔m<4294967296:=by
 have e:MY .u64 m 4294967295=(((BitVec.ofInt 64 m &&& ~~~ 4294967295#64).toNat:Nat):Int):=by
  show IntKind.u64.wrap ((BitVec.ofInt 64 m &&& ~~~ 4294967295#64).toNat:Nat)=_;have h:=(BitVec.ofInt 64 m &&& ~~~ 4294967295#64).isLt;generalize (BitVec.ofInt 64 m &&& ~~~ 4294967295#64).toNat=n at h;simp only[IntKind.wrap,IntKind.signed,IntKind.bits];simp;omega
 rw[e]
 have hn:(BitVec.ofInt 64 m).toNat=m.toNat:=by
  rw[BitVec.toNat_ofInt];omega
 have h:=cV (BitVec.ofInt 64 m);rw[hn]at h;constructor
 ·intro k;have:(BitVec.ofInt 64 m &&& ~~~ 4294967295#64)=0#64:=BitVec.eq_of_toNat_eq (by simpa using Int.ofNat_inj.1 k);have:=h.1 this;omega
 intro k;rw[h.2 (by omega)];rfl
theorem cY{m:Int}(h1:0≤m):Kj .u64 m 32=0↔m<4294967296:=by
 show m.fdiv (2 ^ min (32:Int).toNat 64)=0↔_;rw[show((2:Int) ^ min (32:Int).toNat 64)=4294967296 by decide,Int.fdiv_eq_ediv_of_nonneg _ (by omega)];omega
def DA(r:Rul):Prop:=0≤r.calls∧r.calls<18446744073709551616∧r.path.size≤50000∧r.tests.length≤1000
def C7(r:Rul):Bool:=
 if r.watch=0 then decide (r.path=⟨#[]⟩∧r.perm=0)
 else decide ((r.watch=1∨r.watch=2)∧r.list=3∧DJ r.path.data.toList=true∧(r.path.size:Int)≤128∧1≤r.perm∧r.perm≤15)
def Fn(list:Int):List Tst→Int
 |[]=>0
 |t::ts=>if BU t list=0 then Fn list ts else BU t list
theorem Nh{list:Int}{l:List Tst}{j:Nat}{t:Tst}(ht:l[j]?=some t):Fn list (l.drop j)=if BU t list=0 then Fn list (l.drop (j+1))else BU t list:=by
 obtain⟨hk,e⟩:=Al.1 ht;rw[List.drop_eq_getElem_cons hk,Fn,e]
theorem UZ{list:Int}{l:List Tst}:Fn list (l.drop l.length)=0:=by simp[Fn]
def De(r:Rul):Bool:=if r.list=2∨r.list=3 then decide (r.calls=0∨¬r.calls<4294967296)else decide (r.calls≠0)
def BE(r:Rul):Int:=
 if r.list<1∨5<r.list then 130 else if r.action≠1∧r.action≠2 then 131 else if De r=true then 132 else if 8<(r.tests.length:Int)then 133
 else if Fn r.list r.tests≠0 then Fn r.list r.tests else if C7 r=false then 134 else if 31<(r.key.size:Int)then 135 else 0
section
theorem cZ(f:Int):AFn prog 166 [.v (.int .i64 f)] (fun r=>r= .v (.bool (decide (f=2∨f=3)))):=by
 refine enter Tryz.func166 rfl rfl rfl rfl rfl 0 rfl ?_;refine w_ (a_ (h:=e_ (w_ (m_ (h:=AK (h:=m_ (h:=?_)))))));refine AT false rfl rfl (fun hb1=>?_) (fun hb1=>?_)
 ·have hc1:=bp hb1;refine A3 (h:=A3 (h:=AA (h:=a_ (h:=e_ (A4 (?_))))));refine A7 ?_
  first|(exfalso;first|contradiction|omega)|(exact vb (by simp[*]))
 have hc1:=bp hb1;refine m_ (h:=AK (h:=AE (h:=a_ (h:=e_ (A4 (?_))))));refine A7 ?_
 first|(exfalso;first|contradiction|omega)|(exact vb (by simp[*]))
theorem d6(m:Int)(h1:0≤m)(h2:m<18446744073709551616):AFn prog 167 [.v (.int .u64 m)] (fun r=>r= .v (.bool (decide (m<4294967296)))):=by
 refine enter Tryz.func167 rfl rfl rfl rfl rfl 0 rfl ?_;refine w_ (a_ (h:=e_ (w_ (m_ (h:=at_ (h:=AK (h:=a_ (h:=e_ (A4 (?_))))))))));refine A7 ?_
 first|(exfalso;first|contradiction|omega)|(exact vb (by exact decide_eq_decide.2 (cW h1 h2)))
theorem d7(m:Int)(h1:0≤m):AFn prog 154 [.v (.int .u64 m)] (fun r=>r= .v (.bool (decide (m<4294967296)))):=by
 refine enter Tryz.func154 rfl rfl rfl rfl rfl 0 rfl ?_;refine w_ (a_ (h:=e_ (w_ (m_ (h:=Oe (h:=AK (h:=a_ (h:=e_ (A4 (?_))))))))));refine A7 ?_
 first|(exfalso;first|contradiction|omega)|(exact vb (by exact decide_eq_decide.2 (cY h1)))
theorem d8(r:Rul)(hp:r.path.size≤50000):AFn prog 168 [.agg (Ak r)] (fun x=>x= .v (.bool (C7 r))):=by
 refine enter Tryz.func168 rfl rfl rfl rfl rfl 0 rfl ?_;refine w_ (b_ (h:=a_ (h:=e_ (q_ (w_ (f_ (h:=l_ (h:=e_ (Ab (w_ (AK (h:=a_ (h:=e_ (?_))))))))))))));refine A9 rfl (fun hb1=>?_) (fun hb1=>?_)
 ·have hc1:=bp hb1;refine w_ (f_ (h:=l_ (h:=AK (h:=m_ (h:=?_)))));refine AT true rfl rfl (fun hb2=>?_) (fun hb2=>?_)
  ·have hc2:=bp hb2;refine f_ (h:=l_ (h:=AK (h:=AA (h:=a_ (h:=e_ (A4 (AN (A8 (?_)))))))));refine A7 ?_
   first|(exfalso;first|contradiction|omega)|(exact vb (by unfold C7;simp[*]))
  have hc2:=bp hb2;refine A3 (h:=A3 (h:=A3 (h:=AE (h:=a_ (h:=e_ (A4 (AN (A8 (?_)))))))));refine A7 ?_
  first|(exfalso;first|contradiction|omega)|(exact vb (by unfold C7;simp[*]))
 have hc1:=bp hb1;refine q_ (w_ (AK (h:=a_ (h:=e_ (?_)))));refine A9 rfl (fun hb3=>?_) (fun hb3=>?_)
 ·have hc3:=bp hb3;refine AD (B6 (h:=w_ (f_ (h:=l_ (h:=AK (h:=m_ (h:=?_)))))));refine AT true rfl rfl (fun hb4=>?_) (fun hb4=>?_)
  ·have hc4:=bp hb4;refine f_ (h:=l_ (h:=?_));refine B2 (AB (Ng r.path (by omega)) ?_);rintro r rfl;refine AA (h:=m_ (h:=?_));refine AT true rfl rfl (fun hb5=>?_) (fun hb5=>?_)
   ·have hc5:=bp hb5;refine f_ (h:=l_ (h:=n_ (h:=Dn (h:=AA (h:=m_ (h:=?_))))));refine AT true rfl rfl (fun hb6=>?_) (fun hb6=>?_)
    ·have hc6:=bp hb6;refine f_ (h:=l_ (h:=Cm (h:=AA (h:=m_ (h:=?_)))));refine AT true rfl rfl (fun hb7=>?_) (fun hb7=>?_)
     ·have hc7:=bp hb7;refine f_ (h:=l_ (h:=Dn (h:=AA (h:=a_ (h:=e_ (A4 (AN (A8 (?_)))))))));refine A7 ?_
      first|(exfalso;first|contradiction|omega)|(exact vb (by unfold C7;simp[*]))
     have hc7:=bp hb7;refine A3 (h:=A3 (h:=A3 (h:=AE (h:=a_ (h:=e_ (A4 (AN (A8 (?_)))))))));refine A7 ?_
     first|(exfalso;first|contradiction|omega)|(exact vb (by unfold C7;simp[*]))
    have hc6:=bp hb6;refine A3 (h:=A3 (h:=A3 (h:=AE (h:=m_ (h:=A3 (h:=A3 (h:=A3 (h:=AE (h:=a_ (h:=e_ (A4 (AN (A8 (?_))))))))))))));refine A7 ?_
    first|(exfalso;first|contradiction|omega)|(exact vb (by unfold C7;simp[*]))
   have hc5:=bp hb5;refine A3 (h:=A3 (h:=A3 (h:=A3 (h:=AE (h:=m_ (h:=A3 (h:=A3 (h:=A3 (h:=AE (h:=m_ (h:=A3 (h:=A3 (h:=A3 (h:=AE (h:=a_ (h:=e_ (A4 (AN (A8 (?_))))))))))))))))))));refine A7 ?_
   first|(exfalso;first|contradiction|omega)|(exact vb (by unfold C7;simp[*]))
  have hc4:=bp hb4;refine A3 (h:=A3 (h:=A3 (h:=AE (h:=m_ (h:=A3 (h:=A3 (h:=A3 (h:=A3 (h:=AE (h:=m_ (h:=A3 (h:=A3 (h:=A3 (h:=AE (h:=m_ (h:=A3 (h:=A3 (h:=A3 (h:=AE (h:=a_ (h:=e_ (A4 (AN (?_))))))))))))))))))))))));refine A8 (?_);refine A7 ?_
  first|(exfalso;first|contradiction|omega)|(exact vb (by unfold C7;simp[*]))
 have hc3:=bp hb3;refine AR (AK (h:=a_ (h:=e_ (?_))));refine A9 rfl (fun hb8=>?_) (fun hb8=>?_)
 ·have hc8:=bp hb8;refine w_ (f_ (h:=l_ (h:=AK (h:=m_ (h:=?_)))));refine AT true rfl rfl (fun hb9=>?_) (fun hb9=>?_)
  ·have hc9:=bp hb9;refine f_ (h:=l_ (h:=?_));refine B2 (AB (Ng r.path (by omega)) ?_);rintro r rfl;refine AA (h:=m_ (h:=?_));refine AT true rfl rfl (fun hb10=>?_) (fun hb10=>?_)
   ·have hc10:=bp hb10;refine f_ (h:=l_ (h:=n_ (h:=Dn (h:=AA (h:=m_ (h:=?_))))));refine AT true rfl rfl (fun hb11=>?_) (fun hb11=>?_)
    ·have hc11:=bp hb11;refine f_ (h:=l_ (h:=Cm (h:=AA (h:=m_ (h:=?_)))));refine AT true rfl rfl (fun hb12=>?_) (fun hb12=>?_)
     ·have hc12:=bp hb12;refine f_ (h:=l_ (h:=Dn (h:=AA (h:=a_ (h:=e_ (A4 (AN (A8 (?_)))))))));refine A7 ?_
      first|(exfalso;first|contradiction|omega)|(exact vb (by unfold C7;simp[*]))
     have hc12:=bp hb12;refine A3 (h:=A3 (h:=A3 (h:=AE (h:=a_ (h:=e_ (A4 (AN (A8 (?_)))))))));refine A7 ?_
     first|(exfalso;first|contradiction|omega)|(exact vb (by unfold C7;simp[*]))
    have hc11:=bp hb11;refine A3 (h:=A3 (h:=A3 (h:=AE (h:=m_ (h:=A3 (h:=A3 (h:=A3 (h:=AE (h:=a_ (h:=e_ (A4 (AN (A8 (?_))))))))))))));refine A7 ?_
    first|(exfalso;first|contradiction|omega)|(exact vb (by unfold C7;simp[*]))
   have hc10:=bp hb10;refine A3 (h:=A3 (h:=A3 (h:=A3 (h:=AE (h:=m_ (h:=A3 (h:=A3 (h:=A3 (h:=AE (h:=m_ (h:=A3 (h:=A3 (h:=A3 (h:=AE (h:=a_ (h:=e_ (A4 (AN (A8 (?_))))))))))))))))))));refine A7 ?_
   first|(exfalso;first|contradiction|omega)|(exact vb (by unfold C7;simp[*]))
  have hc9:=bp hb9;refine A3 (h:=A3 (h:=A3 (h:=AE (h:=m_ (h:=A3 (h:=A3 (h:=A3 (h:=A3 (h:=AE (h:=m_ (h:=A3 (h:=A3 (h:=A3 (h:=AE (h:=m_ (h:=A3 (h:=A3 (h:=A3 (h:=AE (h:=a_ (h:=e_ (A4 (AN (?_))))))))))))))))))))))));refine A8 (?_);refine A7 ?_
  first|(exfalso;first|contradiction|omega)|(exact vb (by unfold C7;simp[*]))
 have hc8:=bp hb8;refine Aq (Ai (t_ (w_ (a_ (h:=e_ (A4 (?_)))))));refine A7 ?_
 first|(exfalso;first|contradiction|omega)|(exact vb (by unfold C7;simp[*]))
theorem d9(r:Rul)(hr:DA r):AFn prog 116 [.agg (Ak r)] (fun x=>x= .v (.int .i64 (BE r))):=by
 obtain⟨m1,m2,hp,hl⟩:=hr;refine enter Tryz.func116 rfl rfl rfl rfl rfl 0 rfl ?_;refine w_ (b_ (h:=a_ (h:=e_ (q_ (w_ (f_ (h:=l_ (h:=B4 (h:=m_ (h:=?_))))))))));refine AT false rfl rfl (fun hb1=>?_) (fun hb1=>?_)
 ·have hc1:=bp hb1;refine A3 (h:=A3 (h:=A3 (h:=AA (h:=e_ (B6 (h:=w_ (a_ (h:=e_ (A4 (A8 (?_)))))))))));refine A7 ?_
  first|(exfalso;first|contradiction|omega)|(exact vi (by first|(unfold BE;grind)|(unfold BE De;grind)))
 have hc1:=bp hb1;refine f_ (h:=l_ (h:=Ba (h:=AE (h:=e_ (?_)))));refine A9 rfl (fun hb2=>?_) (fun hb2=>?_)
 ·have hc2:=bp hb2;refine w_ (a_ (h:=e_ (A4 (A8 (?_)))));refine A7 ?_
  first|(exfalso;first|contradiction|omega)|(exact vi (by first|(unfold BE;grind)|(unfold BE De;grind)))
 have hc2:=bp hb2;refine AD (?_);refine MX (⟨look [(1, .bp 0 0),(2, .v (.int .i64 0))],⟨[Ak r],[]⟩⟩) (¬(r.action≠1∧r.action≠2)) ?_ (fun hA=>?_)
 ·skip
  refine w_ (f_ (h:=l_ (h:=Ao (h:=m_ (h:=?_)))));refine AT true rfl rfl (fun hb3=>?_) (fun hb3=>?_)
  ·have hc3:=bp hb3;refine f_ (h:=l_ (h:=Ao (h:=AA (h:=e_ (?_)))));refine A9 rfl (fun hb4=>?_) (fun hb4=>?_)
   ·have hc4:=bp hb4;refine w_ (a_ (h:=e_ (A4 (A8 (?_)))));refine A7 ?_
    first|(exfalso;first|contradiction|omega)|(exact vi (by first|(unfold BE;grind)|(unfold BE De;grind)))
   have hc4:=bp hb4;refine Aq (?_);refine AJ ?_
   first|(exfalso;first|contradiction|omega)|exact⟨(by omega),D1 1 0 rfl⟩
  have hc3:=bp hb3;refine A3 (h:=A3 (h:=A3 (h:=AE (h:=e_ (Bj (h:=Aq (?_)))))));refine AJ ?_
  first|(exfalso;first|contradiction|omega)|exact⟨(by omega),D1 1 0 rfl⟩
 skip
 refine MX (⟨look [(1, .bp 0 0),(2, .v (.int .i64 0))],⟨[Ak r],[]⟩⟩) (De r=false) ?_ (fun hB=>?_)
 ·skip
  refine w_ (f_ (h:=l_ (h:=?_)));refine A6 rfl (AB (cZ _) ?_);rintro r rfl;refine e_ (?_);refine A9 rfl (fun hb5=>?_) (fun hb5=>?_)
  ·have hc5:=bp hb5;refine w_ (f_ (h:=l_ (h:=AK (h:=m_ (h:=?_)))));refine AT false rfl rfl (fun hb6=>?_) (fun hb6=>?_)
   ·have hc6:=bp hb6;refine A3 (h:=A3 (h:=A3 (h:=A3 (h:=AA (h:=e_ (B6 (h:=w_ (a_ (h:=e_ (A4 (A8 (?_))))))))))));refine A7 ?_
    first|(exfalso;first|contradiction|omega)|(exact vi (by first|(unfold BE;grind)|(unfold BE De;grind)))
   have hc6:=bp hb6;refine f_ (h:=l_ (h:=?_));refine B2 (AB (d6 _ m1 m2) ?_);rintro r rfl;refine B7 (h:=AE (h:=e_ (?_)));refine A9 rfl (fun hb7=>?_) (fun hb7=>?_)
   ·have hc7:=bp hb7;refine w_ (a_ (h:=e_ (A4 (A8 (?_)))));refine A7 ?_
    first|(exfalso;first|contradiction|omega)|(exact vi (by first|(unfold BE;grind)|(unfold BE De;grind)))
   have hc7:=bp hb7;refine Aq (?_);refine AJ ?_
   first|(exfalso;first|contradiction|omega)|exact⟨(by unfold De;grind),D1 1 0 rfl⟩
  have hc5:=bp hb5;refine w_ (f_ (h:=l_ (h:=Ao (h:=e_ (?_)))));refine A9 rfl (fun hb8=>?_) (fun hb8=>?_)
  ·have hc8:=bp hb8;refine w_ (a_ (h:=e_ (A4 (A8 (?_)))));refine A7 ?_
   first|(exfalso;first|contradiction|omega)|(exact vi (by first|(unfold BE;grind)|(unfold BE De;grind)))
  have hc8:=bp hb8;refine Aq (?_);refine AJ ?_
  first|(exfalso;first|contradiction|omega)|exact⟨(by unfold De;grind),D1 1 0 rfl⟩
 skip
 refine q_ (w_ (f_ (h:=l_ (h:=n_ (h:=Ba (h:=e_ (?_)))))));refine A9 rfl (fun hb9=>?_) (fun hb9=>?_)
 ·have hc9:=bp hb9;refine w_ (a_ (h:=e_ (A4 (A8 (?_)))));refine A7 ?_
  first|(exfalso;first|contradiction|omega)|(exact vi (by first|(unfold BE;grind)|(unfold BE De;grind)))
 have hc9:=bp hb9;rw[List.length_map]at hc9;refine AD (q_ (w_ (f_ (h:=l_ (h:=n_ (h:=m_ (h:=e_ (Ab (?_)))))))));refine BT (fun n s=>∃j:Nat,j≤r.tests.length∧n=r.tests.length - j∧Fn r.list (r.tests.drop j)=Fn r.list r.tests∧s=⟨look [(1, .bp 0 0),(2, .v (.int .i64 0)),(42, .sl 5 (r.tests.map Bu) none),(43, .v (.int .i64 ((r.tests.map Bu).length:Int))),(44, .v (.int .i64 (j:Int)))],⟨[Ak r],[]⟩⟩) (r.tests.length) ((wk 1 0)) (⟨0,by omega,rfl,rfl,rfl⟩) ?_;rintro n s ⟨j,hj,rfl,ha,rfl⟩;refine w_ (B4 (h:=e_ (q_ (?_))));refine A9 rfl (fun hb10=>?_) (fun hb10=>?_)
 ·have hc10:=bp hb10;obtain⟨hlt,t,hy,hrow, -⟩:=Bt Bu hc10;refine AD (q_ (Ab (w_ (i_ (h:=l_ (h:=Aa (h:=s_ (h:=e_ (w_ (l_ (h:=f_ (h:=l_ (h:=?_)))))))))))));refine A6 rfl (AB (Rm t _) ?_);rintro r rfl;refine a_ (h:=e_ (w_ (m_ (h:=Ao (h:=e_ (?_))))));refine A9 rfl (fun hb11=>?_) (fun hb11=>?_)
  ·have hc11:=bp hb11;rw[Nh hy,if_neg hc11]at ha;refine w_ (m_ (h:=a_ (h:=e_ (A4 (AN (A8 (A8 (AN (A8 (?_))))))))));refine A7 ?_
   first|(exfalso;first|contradiction|omega)|(exact vi (by first|(unfold BE;grind)|(unfold BE De;grind)))
  have hc11:=bp hb11;refine Aq (Ai (t_ (AR (B8 (h:=m_ (h:=AP (?_)))))));refine AJ ?_;refine⟨_,_,?_,⟨j+1,by omega,rfl,(by rw[←ha,Nh hy,if_pos (by omega)]),rfl⟩,(wk 1 0)⟩;omega
 have hc10:=bp hb10;have e:=C9 Bu hj hc10;subst e;rw[UZ]at ha;refine BF (Ah (Ah (BG (t_ (q_ (w_ (l_ (h:=?_))))))));refine A6 rfl (AB (d8 r hp) ?_);rintro r rfl;refine B7 (h:=e_ (?_));refine A9 rfl (fun hb12=>?_) (fun hb12=>?_)
 ·have hc12:=bp hb12;refine w_ (a_ (h:=e_ (A4 (A8 (?_)))));refine A7 ?_
  first|(exfalso;first|contradiction|omega)|(exact vi (by first|(unfold BE;grind)|(unfold BE De;grind)))
 have hc12:=bp hb12;refine AD (q_ (w_ (f_ (h:=l_ (h:=n_ (h:=Ba (h:=e_ (?_))))))));refine A9 rfl (fun hb13=>?_) (fun hb13=>?_)
 ·have hc13:=bp hb13;refine w_ (a_ (h:=e_ (A4 (A8 (?_)))));refine A7 ?_
  first|(exfalso;first|contradiction|omega)|(exact vi (by first|(unfold BE;grind)|(unfold BE De;grind)))
 have hc13:=bp hb13;refine AD (w_ (a_ (h:=e_ (A4 (?_)))));refine A7 ?_
 first|(exfalso;first|contradiction|omega)|(exact vi (by first|(unfold BE;grind)|(unfold BE De;grind)))
theorem Ni(r:Rul)(hr:DA r):AFn prog 105 [.agg (Ak r)] (fun x=>x= .v (.int .i64 (BE r))):=by
 obtain⟨m1,m2,hp,hl⟩:=hr;refine enter Tryz.func105 rfl rfl rfl rfl rfl 0 rfl ?_;refine w_ (b_ (h:=a_ (h:=e_ (q_ (w_ (f_ (h:=l_ (h:=B4 (h:=m_ (h:=?_))))))))));refine AT false rfl rfl (fun hb1=>?_) (fun hb1=>?_)
 ·have hc1:=bp hb1;refine A3 (h:=A3 (h:=A3 (h:=AA (h:=e_ (B6 (h:=w_ (a_ (h:=e_ (A4 (A8 (?_)))))))))));refine A7 ?_
  first|(exfalso;first|contradiction|omega)|(exact vi (by first|(unfold BE;grind)|(unfold BE C7;grind)))
 have hc1:=bp hb1;refine f_ (h:=l_ (h:=Ba (h:=AE (h:=e_ (?_)))));refine A9 rfl (fun hb2=>?_) (fun hb2=>?_)
 ·have hc2:=bp hb2;refine w_ (a_ (h:=e_ (A4 (A8 (?_)))));refine A7 ?_
  first|(exfalso;first|contradiction|omega)|(exact vi (by first|(unfold BE;grind)|(unfold BE C7;grind)))
 have hc2:=bp hb2;refine AD (?_);refine MX (⟨look [(1, .bp 0 0),(2, .v (.int .i64 0))],⟨[Ak r],[]⟩⟩) (¬(r.action≠1∧r.action≠2)) ?_ (fun hA=>?_)
 ·skip
  refine w_ (f_ (h:=l_ (h:=Ao (h:=m_ (h:=?_)))));refine AT true rfl rfl (fun hb3=>?_) (fun hb3=>?_)
  ·have hc3:=bp hb3;refine f_ (h:=l_ (h:=Ao (h:=AA (h:=e_ (?_)))));refine A9 rfl (fun hb4=>?_) (fun hb4=>?_)
   ·have hc4:=bp hb4;refine w_ (a_ (h:=e_ (A4 (A8 (?_)))));refine A7 ?_
    first|(exfalso;first|contradiction|omega)|(exact vi (by first|(unfold BE;grind)|(unfold BE C7;grind)))
   have hc4:=bp hb4;refine Aq (?_);refine AJ ?_
   first|(exfalso;first|contradiction|omega)|exact⟨(by omega),D1 1 0 rfl⟩
  have hc3:=bp hb3;refine A3 (h:=A3 (h:=A3 (h:=AE (h:=e_ (Bj (h:=Aq (?_)))))));refine AJ ?_
  first|(exfalso;first|contradiction|omega)|exact⟨(by omega),D1 1 0 rfl⟩
 skip
 refine Dt (⟨look [(1, .bp 0 0),(2, .v (.int .i64 0)),(3, .v (.bool (decide (r.list=2∨r.list=3))))],⟨[Ak r],[]⟩⟩) ?_ ?_
 ·skip
  refine AR (f_ (h:=l_ (h:=AK (h:=m_ (h:=?_)))));refine AT false rfl rfl (fun hb5=>?_) (fun hb5=>?_)
  ·have hc5:=bp hb5;refine A3 (h:=A3 (h:=A3 (h:=AA (h:=a_ (h:=AP (?_))))));refine AJ ?_
   first|(exfalso;first|contradiction|omega)|exact D1 1 0 rfl
  have hc5:=bp hb5;refine f_ (h:=l_ (h:=AK (h:=AE (h:=a_ (h:=AP (?_))))));refine AJ ?_
  first|(exfalso;first|contradiction|omega)|exact D1 1 0 rfl
 skip
 refine q_ (?_);refine Dt (⟨look [(1, .bp 0 0),(2, .v (.int .i64 0)),(50, .v (.bool (De r)))],⟨[Ak r],[]⟩⟩) ?_ ?_
 ·skip
  refine AR (m_ (h:=m_ (h:=?_)));refine AT true rfl rfl (fun hb6=>?_) (fun hb6=>?_)
  ·have hc6:=bp hb6;refine f_ (h:=l_ (h:=AK (h:=m_ (h:=?_))));refine AT false rfl rfl (fun hb7=>?_) (fun hb7=>?_)
   ·have hc7:=bp hb7;refine A3 (h:=A3 (h:=A3 (h:=A3 (h:=AA (h:=AA (h:=m_ (h:=A3 (h:=A3 (h:=A3 (h:=AW (h:=AW (h:=AW (h:=A3 (h:=AA (h:=AP (?_))))))))))))))));refine AJ ?_
    first|(exfalso;first|contradiction|omega)|exact Ar 1 0 rfl rfl rfl rfl (by repeat (first|exact Sub.nil|refine As rfl rfl ?_|refine Ay ?_|refine Az rfl ?_|refine B0 rfl ?_|(apply Sub.of;(focus exact rfl);(focus exact LeA.of_eq (vb (by unfold De;grind)));(focus exact rfl))))
   have hc7:=bp hb7;refine f_ (h:=l_ (h:=?_));refine B2 (AB (d7 _ m1) ?_);rintro r rfl;refine B7 (h:=AE (h:=AA (h:=m_ (h:=?_))));refine AT false rfl rfl (fun hb8=>?_) (fun hb8=>?_)
   ·have hc8:=bp hb8;refine A3 (h:=A3 (h:=A3 (h:=AW (h:=AW (h:=AW (h:=A3 (h:=AA (h:=AP (?_)))))))));refine AJ ?_
    first|(exfalso;first|contradiction|omega)|exact Ar 1 0 rfl rfl rfl rfl (by repeat (first|exact Sub.nil|refine As rfl rfl ?_|refine Ay ?_|refine Az rfl ?_|refine B0 rfl ?_|(apply Sub.of;(focus exact rfl);(focus exact LeA.of_eq (vb (by unfold De;grind)));(focus exact rfl))))
   have hc8:=bp hb8;refine m_ (h:=B7 (h:=m_ (h:=?_)));refine AT true rfl rfl (fun hb9=>?_) (fun hb9=>?_)
   ·have hc9:=bp hb9;refine f_ (h:=l_ (h:=Ao (h:=AA (h:=AE (h:=AP (?_))))));refine AJ ?_
    first|(exfalso;first|contradiction|omega)|exact Ar 1 0 rfl rfl rfl rfl (by repeat (first|exact Sub.nil|refine As rfl rfl ?_|refine Ay ?_|refine Az rfl ?_|refine B0 rfl ?_|(apply Sub.of;(focus exact rfl);(focus exact LeA.of_eq (vb (by unfold De;grind)));(focus exact rfl))))
   have hc9:=bp hb9;refine A3 (h:=A3 (h:=A3 (h:=AE (h:=AE (h:=AP (?_))))));refine AJ ?_
   first|(exfalso;first|contradiction|omega)|exact Ar 1 0 rfl rfl rfl rfl (by repeat (first|exact Sub.nil|refine As rfl rfl ?_|refine Ay ?_|refine Az rfl ?_|refine B0 rfl ?_|(apply Sub.of;(focus exact rfl);(focus exact LeA.of_eq (vb (by unfold De;grind)));(focus exact rfl))))
  have hc6:=bp hb6;refine A3 (h:=A3 (h:=A3 (h:=A3 (h:=AW (h:=AW (h:=AW (h:=AW (h:=A3 (h:=AE (h:=m_ (h:=m_ (h:=B7 (h:=m_ (h:=?_))))))))))))));refine AT true rfl rfl (fun hb10=>?_) (fun hb10=>?_)
  ·have hc10:=bp hb10;refine f_ (h:=l_ (h:=Ao (h:=AA (h:=AE (h:=AP (?_))))));refine AJ ?_
   first|(exfalso;first|contradiction|omega)|exact Ar 1 0 rfl rfl rfl rfl (by repeat (first|exact Sub.nil|refine As rfl rfl ?_|refine Ay ?_|refine Az rfl ?_|refine B0 rfl ?_|(apply Sub.of;(focus exact rfl);(focus exact LeA.of_eq (vb (by unfold De;grind)));(focus exact rfl))))
  have hc10:=bp hb10;refine A3 (h:=A3 (h:=A3 (h:=AE (h:=AE (h:=AP (?_))))));refine AJ ?_
  first|(exfalso;first|contradiction|omega)|exact Ar 1 0 rfl rfl rfl rfl (by repeat (first|exact Sub.nil|refine As rfl rfl ?_|refine Ay ?_|refine Az rfl ?_|refine B0 rfl ?_|(apply Sub.of;(focus exact rfl);(focus exact LeA.of_eq (vb (by unfold De;grind)));(focus exact rfl))))
 skip
 refine A9 rfl (fun hb11=>?_) (fun hb11=>?_)
 ·have hc11:=bp hb11;refine w_ (a_ (h:=e_ (A4 (A8 (?_)))));refine A7 ?_
  first|(exfalso;first|contradiction|omega)|(exact vi (by first|(unfold BE;grind)|(unfold BE C7;grind)))
 have hc11:=bp hb11;refine AD (q_ (w_ (f_ (h:=l_ (h:=n_ (h:=Ba (h:=e_ (?_))))))));refine A9 rfl (fun hb12=>?_) (fun hb12=>?_)
 ·have hc12:=bp hb12;refine w_ (a_ (h:=e_ (A4 (A8 (?_)))));refine A7 ?_
  first|(exfalso;first|contradiction|omega)|(exact vi (by first|(unfold BE;grind)|(unfold BE C7;grind)))
 have hc12:=bp hb12;rw[List.length_map]at hc12;refine AD (q_ (w_ (a_ (h:=e_ (Ab (?_))))));refine BT (fun n s=>∃j:Nat,j≤r.tests.length∧n=r.tests.length - j∧Fn r.list (r.tests.drop j)=Fn r.list r.tests∧s=⟨look [(1, .bp 0 0),(2, .v (.int .i64 0)),(4, .v (.int .i64 (j:Int)))],⟨[Ak r],[]⟩⟩) (r.tests.length) ((wk 1 0)) (⟨0,by omega,rfl,rfl,rfl⟩) ?_;rintro n s ⟨j,hj,rfl,ha,rfl⟩;refine q_ (w_ (m_ (h:=f_ (h:=l_ (h:=n_ (h:=B4 (h:=e_ (?_))))))));refine A9 rfl (fun hb13=>?_) (fun hb13=>?_)
 ·have hc13:=bp hb13;obtain⟨hlt,t,hy,hrow, -⟩:=Bt Bu hc13;refine AD (q_ (Ab (q_ (Cj 9 (h:=Aw 0 (h:=AO 1 (h:=Ac 2 (h:=Cl 3 (h:=AO 4 (h:=Aw 5 (h:=AO 6 (h:=?_))))))))))));refine c_ 7 rfl (AB (Rn t _) ?_);rintro r rfl;refine o_ (h:=BL 8 (h:=z_ (h:=t_ (w_ (m_ (h:=Ao (h:=e_ (?_))))))));refine A9 rfl (fun hb14=>?_) (fun hb14=>?_)
  ·have hc14:=bp hb14;rw[Nh hy,if_neg hc14]at ha;refine w_ (m_ (h:=a_ (h:=e_ (A4 (AN (A8 (A8 (AN (A8 (?_))))))))));refine A7 ?_
   first|(exfalso;first|contradiction|omega)|(exact vi (by first|(unfold BE;grind)|(unfold BE C7;grind)))
  have hc14:=bp hb14;refine Aq (Ai (t_ (AR (m_ (h:=B8 (h:=a_ (h:=AP (?_))))))));refine AJ ?_;refine⟨_,_,?_,⟨j+1,by omega,rfl,(by rw[←ha,Nh hy,if_pos (by omega)]),rfl⟩,(wk 1 0)⟩;omega
 have hc13:=bp hb13;have e:=C9 Bu hj hc13;subst e;rw[UZ]at ha;refine BF (Ah (Ah (BG (t_ (?_)))));refine MX (⟨look [(1, .bp 0 0),(2, .v (.int .i64 0))],⟨[Ak r],[]⟩⟩) (C7 r=true) ?_ (fun hW=>?_)
 ·skip
  refine w_ (f_ (h:=l_ (h:=e_ (Ab (w_ (AK (h:=a_ (h:=e_ (?_)))))))));refine A9 rfl (fun hb15=>?_) (fun hb15=>?_)
  ·have hc15:=bp hb15;refine w_ (f_ (h:=l_ (h:=Ao (h:=m_ (h:=?_)))));refine AT false rfl rfl (fun hb16=>?_) (fun hb16=>?_)
   ·have hc16:=bp hb16;refine A3 (h:=A3 (h:=A3 (h:=AA (h:=e_ (B6 (h:=w_ (a_ (h:=e_ (A4 (AN (A8 (?_))))))))))));refine A7 ?_
    first|(exfalso;first|contradiction|omega)|(exact vi (by first|(unfold BE;grind)|(unfold BE C7;grind)))
   have hc16:=bp hb16;refine f_ (h:=l_ (h:=Ao (h:=AE (h:=e_ (?_)))));refine A9 rfl (fun hb17=>?_) (fun hb17=>?_)
   ·have hc17:=bp hb17;refine w_ (a_ (h:=e_ (A4 (AN (A8 (?_))))));refine A7 ?_
    first|(exfalso;first|contradiction|omega)|(exact vi (by first|(unfold BE;grind)|(unfold BE C7;grind)))
   have hc17:=bp hb17;refine Aq (Ai (?_));refine AJ ?_
   first|(exfalso;first|contradiction|omega)|exact⟨(by unfold C7;grind),D1 1 0 rfl⟩
  have hc15:=bp hb15;refine q_ (w_ (AK (h:=a_ (h:=e_ (?_)))));refine A9 rfl (fun hb18=>?_) (fun hb18=>?_)
  ·have hc18:=bp hb18;refine AD (B6 (h:=w_ (f_ (h:=l_ (h:=Ao (h:=m_ (h:=?_)))))));refine AT false rfl rfl (fun hb19=>?_) (fun hb19=>?_)
   ·have hc19:=bp hb19;refine A3 (h:=A3 (h:=A3 (h:=A3 (h:=AA (h:=m_ (h:=A3 (h:=A3 (h:=A3 (h:=A3 (h:=AA (h:=m_ (h:=A3 (h:=A3 (h:=A3 (h:=AA (h:=m_ (h:=A3 (h:=A3 (h:=A3 (h:=AA (h:=e_ (B6 (h:=w_ (?_))))))))))))))))))))))));refine a_ (h:=e_ (A4 (AN (A8 (?_)))));refine A7 ?_
    first|(exfalso;first|contradiction|omega)|(exact vi (by first|(unfold BE;grind)|(unfold BE C7;grind)))
   have hc19:=bp hb19;refine f_ (h:=l_ (h:=?_));refine B2 (AB (NQ _ hp) ?_);rintro r rfl;refine B7 (h:=AE (h:=m_ (h:=?_)));refine AT false rfl rfl (fun hb20=>?_) (fun hb20=>?_)
   ·have hc20:=bp hb20;refine A3 (h:=A3 (h:=A3 (h:=A3 (h:=AA (h:=m_ (h:=A3 (h:=A3 (h:=A3 (h:=AA (h:=m_ (h:=A3 (h:=A3 (h:=A3 (h:=AA (h:=e_ (B6 (h:=w_ (a_ (h:=e_ (A4 (AN (A8 (?_)))))))))))))))))))))));refine A7 ?_
    first|(exfalso;first|contradiction|omega)|(exact vi (by first|(unfold BE;grind)|(unfold BE C7;grind)))
   have hc20:=bp hb20;refine f_ (h:=l_ (h:=n_ (h:=Ba (h:=AE (h:=m_ (h:=?_))))));refine AT false rfl rfl (fun hb21=>?_) (fun hb21=>?_)
   ·have hc21:=bp hb21;refine A3 (h:=A3 (h:=A3 (h:=AA (h:=m_ (h:=A3 (h:=A3 (h:=A3 (h:=AA (h:=e_ (B6 (h:=w_ (a_ (h:=e_ (A4 (AN (A8 (?_)))))))))))))))));refine A7 ?_
    first|(exfalso;first|contradiction|omega)|(exact vi (by first|(unfold BE;grind)|(unfold BE C7;grind)))
   have hc21:=bp hb21;refine f_ (h:=l_ (h:=B4 (h:=AE (h:=m_ (h:=?_)))));refine AT false rfl rfl (fun hb22=>?_) (fun hb22=>?_)
   ·have hc22:=bp hb22;refine A3 (h:=A3 (h:=A3 (h:=AA (h:=e_ (B6 (h:=w_ (a_ (h:=e_ (A4 (AN (A8 (?_))))))))))));refine A7 ?_
    first|(exfalso;first|contradiction|omega)|(exact vi (by first|(unfold BE;grind)|(unfold BE C7;grind)))
   have hc22:=bp hb22;refine f_ (h:=l_ (h:=Ba (h:=AE (h:=e_ (?_)))));refine A9 rfl (fun hb23=>?_) (fun hb23=>?_)
   ·have hc23:=bp hb23;refine w_ (a_ (h:=e_ (A4 (AN (A8 (?_))))));refine A7 ?_
    first|(exfalso;first|contradiction|omega)|(exact vi (by first|(unfold BE;grind)|(unfold BE C7;grind)))
   have hc23:=bp hb23;refine Aq (Ai (?_));refine AJ ?_
   first|(exfalso;first|contradiction|omega)|exact⟨(by unfold C7;grind),D1 1 0 rfl⟩
  have hc18:=bp hb18;refine AR (AK (h:=a_ (h:=e_ (?_))));refine A9 rfl (fun hb24=>?_) (fun hb24=>?_)
  ·have hc24:=bp hb24;refine w_ (f_ (h:=l_ (h:=Ao (h:=m_ (h:=?_)))));refine AT false rfl rfl (fun hb25=>?_) (fun hb25=>?_)
   ·have hc25:=bp hb25;refine A3 (h:=A3 (h:=A3 (h:=A3 (h:=AA (h:=m_ (h:=A3 (h:=A3 (h:=A3 (h:=A3 (h:=AA (h:=m_ (h:=A3 (h:=A3 (h:=A3 (h:=AA (h:=m_ (h:=A3 (h:=A3 (h:=A3 (h:=AA (h:=e_ (B6 (h:=w_ (?_))))))))))))))))))))))));refine a_ (h:=e_ (A4 (AN (A8 (?_)))));refine A7 ?_
    first|(exfalso;first|contradiction|omega)|(exact vi (by first|(unfold BE;grind)|(unfold BE C7;grind)))
   have hc25:=bp hb25;refine f_ (h:=l_ (h:=?_));refine B2 (AB (NQ _ hp) ?_);rintro r rfl;refine B7 (h:=AE (h:=m_ (h:=?_)));refine AT false rfl rfl (fun hb26=>?_) (fun hb26=>?_)
   ·have hc26:=bp hb26;refine A3 (h:=A3 (h:=A3 (h:=A3 (h:=AA (h:=m_ (h:=A3 (h:=A3 (h:=A3 (h:=AA (h:=m_ (h:=A3 (h:=A3 (h:=A3 (h:=AA (h:=e_ (B6 (h:=w_ (a_ (h:=e_ (A4 (AN (A8 (?_)))))))))))))))))))))));refine A7 ?_
    first|(exfalso;first|contradiction|omega)|(exact vi (by first|(unfold BE;grind)|(unfold BE C7;grind)))
   have hc26:=bp hb26;refine f_ (h:=l_ (h:=n_ (h:=Ba (h:=AE (h:=m_ (h:=?_))))));refine AT false rfl rfl (fun hb27=>?_) (fun hb27=>?_)
   ·have hc27:=bp hb27;refine A3 (h:=A3 (h:=A3 (h:=AA (h:=m_ (h:=A3 (h:=A3 (h:=A3 (h:=AA (h:=e_ (B6 (h:=w_ (a_ (h:=e_ (A4 (AN (A8 (?_)))))))))))))))));refine A7 ?_
    first|(exfalso;first|contradiction|omega)|(exact vi (by first|(unfold BE;grind)|(unfold BE C7;grind)))
   have hc27:=bp hb27;refine f_ (h:=l_ (h:=B4 (h:=AE (h:=m_ (h:=?_)))));refine AT false rfl rfl (fun hb28=>?_) (fun hb28=>?_)
   ·have hc28:=bp hb28;refine A3 (h:=A3 (h:=A3 (h:=AA (h:=e_ (B6 (h:=w_ (a_ (h:=e_ (A4 (AN (A8 (?_))))))))))));refine A7 ?_
    first|(exfalso;first|contradiction|omega)|(exact vi (by first|(unfold BE;grind)|(unfold BE C7;grind)))
   have hc28:=bp hb28;refine f_ (h:=l_ (h:=Ba (h:=AE (h:=e_ (?_)))));refine A9 rfl (fun hb29=>?_) (fun hb29=>?_)
   ·have hc29:=bp hb29;refine w_ (a_ (h:=e_ (A4 (AN (A8 (?_))))));refine A7 ?_
    first|(exfalso;first|contradiction|omega)|(exact vi (by first|(unfold BE;grind)|(unfold BE C7;grind)))
   have hc29:=bp hb29;refine Aq (Ai (?_));refine AJ ?_
   first|(exfalso;first|contradiction|omega)|exact⟨(by unfold C7;grind),D1 1 0 rfl⟩
  have hc24:=bp hb24;refine w_ (a_ (h:=e_ (A4 (AN (A8 (?_))))));refine A7 ?_
  first|(exfalso;first|contradiction|omega)|(exact vi (by first|(unfold BE;grind)|(unfold BE C7;grind)))
 skip
 refine q_ (w_ (f_ (h:=l_ (h:=n_ (h:=Ba (h:=e_ (?_)))))));refine A9 rfl (fun hb30=>?_) (fun hb30=>?_)
 ·have hc30:=bp hb30;refine w_ (a_ (h:=e_ (A4 (A8 (?_)))));refine A7 ?_
  first|(exfalso;first|contradiction|omega)|(exact vi (by first|(unfold BE;grind)|(unfold BE C7;grind)))
 have hc30:=bp hb30;refine AD (w_ (a_ (h:=e_ (A4 (?_)))));refine A7 ?_
 first|(exfalso;first|contradiction|omega)|(exact vi (by first|(unfold BE;grind)|(unfold BE C7;grind)))
end
deriving instance DecidableEq for Tst
deriving instance DecidableEq for Rul
theorem dA(a b:ByteArray):(a.toList==b.toList)=decide (a=b):=by
 by_cases h:a=b
 ·simp[h]
 have:a.toList≠b.toList:=fun e=>h (by
  rw[ByteArray.toList_eq,ByteArray.toList_eq]at e;obtain⟨⟨x⟩⟩:=a;obtain⟨⟨y⟩⟩:=b
  simpa using e)
 simp[h,this]
theorem dB(a b:Tst):(a.fld==b.fld&&(a.op==b.op&&(a.num==b.num&&(a.text.toList==b.text.toList&&a.other==b.other))))=decide (a=b):=by
 rw[dA];obtain⟨a1,a2,a3,a4,a5⟩:=a;obtain⟨b1,b2,b3,b4,b5⟩:=b;by_cases h1:a1=b1<;>by_cases h2:a2=b2<;>by_cases h3:a3=b3<;>by_cases h4:a4=b4<;>by_cases h5:a5=b5<;>simp[h1,h2,h3,h4,h5]
theorem Nj{α:Type}[DecidableEq α]{a b:List α}{j:Nat}{x y:α}(hx:a[j]?=some x)(hy:b[j]?=some y):decide (a.drop j=b.drop j)=(decide (x=y)&&decide (a.drop (j+1)=b.drop (j+1))):=by
 obtain⟨h1,e1⟩:=Al.1 hx;obtain⟨h2,e2⟩:=Al.1 hy;rw[List.drop_eq_getElem_cons h1,List.drop_eq_getElem_cons h2,e1,e2];by_cases h:x=y<;>simp[h]
theorem dC{α:Type}[DecidableEq α]{a b:List α}(h:a.length≠b.length):decide (a=b)=false:=by
 simp only[decide_eq_false_iff_not];intro e;exact h (by rw[e])
section
theorem Ua(a b:Tst)(w:World):(binOp .neq 115 (.agg #[.int .i64 a.fld, .int .i64 a.op, .int .i64 a.num, .string a.text, .int .i64 a.other]) (.agg #[.int .i64 b.fld, .int .i64 b.op, .int .i64 b.num, .string b.text, .int .i64 b.other])).run prog w= .ok (.bool (!decide (a=b))) w:=by
 have u3:=Tryz.underlying3;have a3:=Tryz.isAgg3;have z3:=Tryz.sizeOf3;have u9:=Tryz.underlying9;have a9:=Tryz.isAgg9;have z9:=Tryz.sizeOf9;have hS:prog.underlying 115=some (.struct (prog.fieldsOf 115)):=by kernel_rfl
 have hp:prog.stoodInHeld 115=false:=by kernel_rfl
 rw[run_neq_struct,show(10000:Nat)=9999+1 from rfl,run_equalIn_agg w 9999 115 _ _ hS hp];simp only[Program.fieldsOf,Tryz.underlying115]
 go_simp
 rw[←dB];by_cases h1:a.fld=b.fld<;>by_cases h2:a.op=b.op<;>by_cases h3:a.num=b.num<;>by_cases h4:a.text.toList=b.text.toList<;>by_cases h5:a.other=b.other<;>simp[h1,h2,h3,h4,h5]
theorem dD(a b:List Tst)(ha:a.length≤1000):AFn prog 218 [.sl 5 (a.map Bu) none, .sl 5 (b.map Bu) none] (fun x=>x= .v (.bool (decide (a=b)))):=by
 refine enter Tryz.func218 rfl rfl rfl rfl rfl 0 rfl ?_;refine w_ (a_ (h:=e_ (q_ (w_ (m_ (h:=n_ (h:=m_ (h:=n_ (h:=Ao (h:=e_ (?_)))))))))));refine A9 rfl (fun hb1=>?_) (fun hb1=>?_)
 ·have hc1:=bp hb1;refine w_ (a_ (h:=e_ (A4 (A8 (?_)))));refine A7 ?_
  first|(exfalso;first|contradiction|omega)|(exact vb (by rw[dC (by simp at hc1;omega)]))
 have hc1:=bp hb1;have hl:a.length=b.length:=by simp at hc1;omega
 refine AD (q_ (w_ (m_ (h:=n_ (h:=m_ (h:=e_ (Ab (?_))))))));refine BT (fun n s=>∃j:Nat,j≤a.length∧n=a.length - j∧decide (a.drop j=b.drop j)=decide (a=b)∧s=⟨look [(0, .sl 5 (a.map Bu) none),(1, .sl 5 (b.map Bu) none),(12, .v (.int .i64 ((a.map Bu).length:Int))),(13, .v (.int .i64 (j:Int)))],⟨[],[]⟩⟩) (a.length) ((wk 0 0)) (⟨0,by omega,rfl,rfl,rfl⟩) ?_;rintro n s ⟨j,hj,rfl,hd,rfl⟩;refine w_ (B4 (h:=e_ (q_ (?_))));refine A9 rfl (fun hb2=>?_) (fun hb2=>?_)
 ·have hc2:=bp hb2;obtain⟨hlt,x,hx,hrow, -⟩:=Bt Bu hc2;obtain⟨hlt2,y,hy,hrow2, -⟩:=Bt Bu (l:=b) (k:=j) (by simpa[hl]using hc2);refine AD (q_ (Ab (w_ (m_ (h:=a_ (h:=e_ (q_ (Cj 9 (h:=Ac 0 (h:=Ac 1 (h:=Cl 2 (h:=AO 3 (h:=Ac 4 (h:=Ac 5 (h:=Cl 6 (h:=AO 7 (h:=?_)))))))))))))))));refine Dw (i:=8) rfl (E4 rfl rfl (by repeat constructor) (by repeat constructor) (fun w=>Ua x y w) (by kernel_rfl) ⟨rfl,rfl⟩) ?_;refine z_ (h:=t_ (?_));refine A9 rfl (fun hb3=>?_) (fun hb3=>?_)
  ·have hc3:=bp hb3;refine w_ (a_ (h:=e_ (A4 (AN (A8 (A8 (AN (A8 (?_)))))))));refine A7 ?_
   first|(exfalso;first|contradiction|omega)|(exact vb (by rw[←hd,Nj hx hy];simp[hc3]))
  have hc3:=bp hb3;refine Aq (Ai (t_ (AR (B8 (h:=m_ (h:=AP (?_)))))));refine AJ ?_;refine⟨_,_,?_,⟨j+1,by omega,rfl,(by rw[←hd,Nj hx hy,hc3];simp),rfl⟩,(wk 0 0)⟩;omega
 have hc2:=bp hb2;have e:=C9 Bu hj hc2;subst e;refine BF (Ah (Ah (BG (t_ (w_ (a_ (h:=e_ (A4 (?_)))))))));refine A7 ?_
 first|(exfalso;first|contradiction|omega)|(exact vb (by rw[←hd,List.drop_length,hl,List.drop_length];rfl))
theorem dF(a:List Tst)(ha:a.length≤1000):AFn prog 129 [.sl 5 (a.map Bu) none] (fun x=>x= .sl 5 (a.map Bu) none):=by
 refine enter Tryz.func129 rfl rfl rfl rfl rfl 0 rfl ?_;refine w_ (a_ (h:=e_ (q_ (w_ (m_ (h:=?_))))));refine A6 rfl (Vm rfl rfl ?_);intro b hb;refine e_ (?_);refine A9 rfl (fun hb1=>?_) (fun hb1=>?_)
 ·have hc1:=bp hb1;refine w_ (a_ (h:=e_ (A4 (A8 (?_)))));refine ML (xs:=[.v (.slice none 0 0)]) (r:= .sl 5 [] none) none (by repeat (first|exact ResA.nil|(apply ResA.tmp;(focus exact rfl))|(apply ResA.cellN;(focus exact inferInstance);(focus exact rfl);(focus exact rfl);(focus exact rfl))|(apply ResA.cell1;(focus exact inferInstance);(focus exact rfl);(focus exact rfl);(focus exact rfl)))) rfl rfl rfl (LeA.nil _) ⟨rfl,rfl,?_⟩;rw[hb hc1]
 have hc1:=bp hb1;refine AD (w_ (?_));refine A6 rfl (Vo (by repeat constructor) ?_);refine m_ (h:=Dm (h:=a_ (h:=e_ (A4 (?_)))));refine A7 ?_;rfl
theorem dG(a b:Rul):a=b↔a.list=b.list∧a.action=b.action∧a.calls=b.calls∧a.tests=b.tests∧a.watch=b.watch∧a.path=b.path∧a.perm=b.perm∧a.key=b.key:=by
 cases a;cases b;simp
theorem GX(a b:Rul):decide (a=b)=decide (a.list=b.list∧a.action=b.action∧a.calls=b.calls∧a.tests=b.tests∧a.watch=b.watch∧a.path=b.path∧a.perm=b.perm∧a.key=b.key):=decide_eq_decide.2 (dG a b)
theorem dH(a b:Rul)(ha:a.tests.length≤1000):AFn prog 158 [.agg (Ak a), .agg (Ak b)] (fun x=>x= .v (.bool (decide (a=b)))):=by
 refine enter Tryz.func158 rfl rfl rfl rfl rfl 0 rfl ?_;refine w_ (b_ (h:=b_ (h:=a_ (h:=e_ (w_ (f_ (h:=l_ (h:=f_ (h:=l_ (h:=AK (h:=m_ (h:=?_))))))))))));refine AT true rfl rfl (fun hb1=>?_) (fun hb1=>?_)
 ·have hc1:=bp hb1;refine f_ (h:=l_ (h:=f_ (h:=l_ (h:=AK (h:=AA (h:=m_ (h:=?_)))))));refine AT true rfl rfl (fun hb2=>?_) (fun hb2=>?_)
  ·have hc2:=bp hb2;refine f_ (h:=l_ (h:=f_ (h:=l_ (h:=AK (h:=AA (h:=m_ (h:=?_)))))));refine AT true rfl rfl (fun hb3=>?_) (fun hb3=>?_)
   ·have hc3:=bp hb3;refine f_ (h:=l_ (h:=f_ (h:=l_ (h:=?_))));refine B2 (AB (dD a.tests b.tests ha) ?_);rintro r rfl;refine AA (h:=m_ (h:=?_));refine AT true rfl rfl (fun hb4=>?_) (fun hb4=>?_)
    ·have hc4:=bp hb4;refine f_ (h:=l_ (h:=f_ (h:=l_ (h:=AK (h:=AA (h:=m_ (h:=?_)))))));refine AT true rfl rfl (fun hb5=>?_) (fun hb5=>?_)
     ·have hc5:=bp hb5;refine f_ (h:=l_ (h:=f_ (h:=l_ (h:=AK (h:=AA (h:=m_ (h:=?_)))))));refine AT true rfl rfl (fun hb6=>?_) (fun hb6=>?_)
      ·have hc6:=bp hb6;refine f_ (h:=l_ (h:=f_ (h:=l_ (h:=AK (h:=AA (h:=m_ (h:=?_)))))));refine AT true rfl rfl (fun hb7=>?_) (fun hb7=>?_)
       ·have hc7:=bp hb7;refine f_ (h:=l_ (h:=f_ (h:=l_ (h:=AK (h:=AA (h:=a_ (h:=e_ (A4 (?_)))))))));refine A7 ?_
        first|(exfalso;first|contradiction|omega)|(exact vb (by rw[GX];simp[*]))
       have hc7:=bp hb7;refine A3 (h:=A3 (h:=A3 (h:=A3 (h:=A3 (h:=AE (h:=a_ (h:=e_ (A4 (?_)))))))));refine A7 ?_
       first|(exfalso;first|contradiction|omega)|(exact vb (by rw[GX];simp[*]))
      have hc6:=bp hb6;refine A3 (h:=A3 (h:=A3 (h:=A3 (h:=A3 (h:=AE (h:=m_ (h:=A3 (h:=A3 (h:=A3 (h:=A3 (h:=A3 (h:=AE (h:=a_ (h:=e_ (A4 (?_))))))))))))))));refine A7 ?_
      first|(exfalso;first|contradiction|omega)|(exact vb (by rw[GX];simp[*]))
     have hc5:=bp hb5;refine A3 (h:=A3 (h:=A3 (h:=A3 (h:=A3 (h:=AE (h:=m_ (h:=A3 (h:=A3 (h:=A3 (h:=A3 (h:=A3 (h:=AE (h:=m_ (h:=A3 (h:=A3 (h:=A3 (h:=A3 (h:=A3 (h:=AE (h:=a_ (h:=e_ (A4 (?_)))))))))))))))))))))));refine A7 ?_
     first|(exfalso;first|contradiction|omega)|(exact vb (by rw[GX];simp[*]))
    have hc4:=bp hb4;refine A3 (h:=A3 (h:=A3 (h:=A3 (h:=A3 (h:=AE (h:=m_ (h:=A3 (h:=A3 (h:=A3 (h:=A3 (h:=A3 (h:=AE (h:=m_ (h:=A3 (h:=A3 (h:=A3 (h:=A3 (h:=A3 (h:=AE (h:=m_ (h:=A3 (h:=A3 (h:=A3 (h:=?_))))))))))))))))))))))));refine A3 (h:=A3 (h:=AE (h:=a_ (h:=e_ (A4 (?_))))));refine A7 ?_
    first|(exfalso;first|contradiction|omega)|(exact vb (by rw[GX];simp[*]))
   have hc3:=bp hb3;refine A3 (h:=A3 (h:=A3 (h:=A3 (h:=A3 (h:=AE (h:=m_ (h:=A3 (h:=A3 (h:=A3 (h:=A3 (h:=A3 (h:=AE (h:=m_ (h:=A3 (h:=A3 (h:=A3 (h:=A3 (h:=A3 (h:=AE (h:=m_ (h:=A3 (h:=A3 (h:=A3 (h:=?_))))))))))))))))))))))));refine A3 (h:=A3 (h:=AE (h:=m_ (h:=A3 (h:=A3 (h:=A3 (h:=A3 (h:=A3 (h:=AE (h:=a_ (h:=e_ (A4 (?_)))))))))))));refine A7 ?_
   first|(exfalso;first|contradiction|omega)|(exact vb (by rw[GX];simp[*]))
  have hc2:=bp hb2;refine A3 (h:=A3 (h:=A3 (h:=A3 (h:=A3 (h:=AE (h:=m_ (h:=A3 (h:=A3 (h:=A3 (h:=A3 (h:=A3 (h:=AE (h:=m_ (h:=A3 (h:=A3 (h:=A3 (h:=A3 (h:=A3 (h:=AE (h:=m_ (h:=A3 (h:=A3 (h:=A3 (h:=?_))))))))))))))))))))))));refine A3 (h:=A3 (h:=AE (h:=m_ (h:=A3 (h:=A3 (h:=A3 (h:=A3 (h:=A3 (h:=AE (h:=m_ (h:=A3 (h:=A3 (h:=A3 (h:=A3 (h:=A3 (h:=AE (h:=a_ (h:=e_ (A4 (?_))))))))))))))))))));refine A7 ?_
  first|(exfalso;first|contradiction|omega)|(exact vb (by rw[GX];simp[*]))
 have hc1:=bp hb1;refine A3 (h:=A3 (h:=A3 (h:=A3 (h:=A3 (h:=AE (h:=m_ (h:=A3 (h:=A3 (h:=A3 (h:=A3 (h:=A3 (h:=AE (h:=m_ (h:=A3 (h:=A3 (h:=A3 (h:=A3 (h:=A3 (h:=AE (h:=m_ (h:=A3 (h:=A3 (h:=A3 (h:=?_))))))))))))))))))))))));refine A3 (h:=A3 (h:=AE (h:=m_ (h:=A3 (h:=A3 (h:=A3 (h:=A3 (h:=A3 (h:=AE (h:=m_ (h:=A3 (h:=A3 (h:=A3 (h:=A3 (h:=A3 (h:=AE (h:=m_ (h:=A3 (h:=A3 (h:=A3 (h:=A3 (h:=A3 (h:=AE (h:=?_))))))))))))))))))))))));refine a_ (h:=e_ (A4 (?_)));refine A7 ?_
 first|(exfalso;first|contradiction|omega)|(exact vb (by rw[GX];simp[*]))
theorem dJ(a b:Rul)(ha:a.tests.length≤1000):AFn prog 104 [.agg (Ak a), .agg (Ak b)] (fun x=>x= .v (.bool (decide (a=b)))):=by
 refine enter Tryz.func104 rfl rfl rfl rfl rfl 0 rfl ?_;refine w_ (b_ (h:=b_ (h:=a_ (h:=e_ (q_ (?_))))));refine Dt (⟨look [(2, .bp 0 0),(3, .bp 1 0),(61, .v (.bool (!decide (a.list=b.list∧a.action=b.action∧a.calls=b.calls∧a.watch=b.watch∧a.path=b.path∧a.perm=b.perm∧a.key=b.key∧(a.tests.length:Int)=(b.tests.length:Int)))))],⟨[Ak a,Ak b],[]⟩⟩) ?_ ?_
 ·skip
  refine AR (f_ (h:=l_ (h:=f_ (h:=l_ (h:=Ao (h:=m_ (h:=?_)))))));refine AT false rfl rfl (fun hb1=>?_) (fun hb1=>?_)
  ·have hc1:=bp hb1;refine A3 (h:=A3 (h:=A3 (h:=A3 (h:=A3 (h:=AA (h:=m_ (h:=A3 (h:=A3 (h:=A3 (h:=A3 (h:=A3 (h:=AA (h:=m_ (h:=A3 (h:=A3 (h:=A3 (h:=A3 (h:=A3 (h:=AA (h:=m_ (h:=A3 (h:=A3 (h:=A3 (h:=?_))))))))))))))))))))))));refine A3 (h:=A3 (h:=AA (h:=m_ (h:=A3 (h:=A3 (h:=A3 (h:=A3 (h:=A3 (h:=AA (h:=m_ (h:=A3 (h:=A3 (h:=A3 (h:=A3 (h:=A3 (h:=AA (h:=m_ (h:=A3 (h:=A3 (h:=A3 (h:=A3 (h:=A3 (h:=A3 (h:=?_))))))))))))))))))))))));refine A3 (h:=AA (h:=AP (?_)));refine AJ ?_
   first|(exfalso;first|contradiction|omega)|exact D1 2 0 rfl
  have hc1:=bp hb1;refine f_ (h:=l_ (h:=f_ (h:=l_ (h:=Ao (h:=AE (h:=m_ (h:=?_)))))));refine AT false rfl rfl (fun hb2=>?_) (fun hb2=>?_)
  ·have hc2:=bp hb2;refine A3 (h:=A3 (h:=A3 (h:=A3 (h:=A3 (h:=AA (h:=m_ (h:=A3 (h:=A3 (h:=A3 (h:=A3 (h:=A3 (h:=AA (h:=m_ (h:=A3 (h:=A3 (h:=A3 (h:=A3 (h:=A3 (h:=AA (h:=m_ (h:=A3 (h:=A3 (h:=A3 (h:=?_))))))))))))))))))))))));refine A3 (h:=A3 (h:=AA (h:=m_ (h:=A3 (h:=A3 (h:=A3 (h:=A3 (h:=A3 (h:=AA (h:=m_ (h:=A3 (h:=A3 (h:=A3 (h:=A3 (h:=A3 (h:=A3 (h:=A3 (h:=AA (h:=AP (?_))))))))))))))))))));refine AJ ?_
   first|(exfalso;first|contradiction|omega)|exact D1 2 0 rfl
  have hc2:=bp hb2;refine f_ (h:=l_ (h:=f_ (h:=l_ (h:=Ao (h:=AE (h:=m_ (h:=?_)))))));refine AT false rfl rfl (fun hb3=>?_) (fun hb3=>?_)
  ·have hc3:=bp hb3;refine A3 (h:=A3 (h:=A3 (h:=A3 (h:=A3 (h:=AA (h:=m_ (h:=A3 (h:=A3 (h:=A3 (h:=A3 (h:=A3 (h:=AA (h:=m_ (h:=A3 (h:=A3 (h:=A3 (h:=A3 (h:=A3 (h:=AA (h:=m_ (h:=A3 (h:=A3 (h:=A3 (h:=?_))))))))))))))))))))))));refine A3 (h:=A3 (h:=AA (h:=m_ (h:=A3 (h:=A3 (h:=A3 (h:=A3 (h:=A3 (h:=A3 (h:=A3 (h:=AA (h:=AP (?_)))))))))))));refine AJ ?_
   first|(exfalso;first|contradiction|omega)|exact D1 2 0 rfl
  have hc3:=bp hb3;refine f_ (h:=l_ (h:=f_ (h:=l_ (h:=Ao (h:=AE (h:=m_ (h:=?_)))))));refine AT false rfl rfl (fun hb4=>?_) (fun hb4=>?_)
  ·have hc4:=bp hb4;refine A3 (h:=A3 (h:=A3 (h:=A3 (h:=A3 (h:=AA (h:=m_ (h:=A3 (h:=A3 (h:=A3 (h:=A3 (h:=A3 (h:=AA (h:=m_ (h:=A3 (h:=A3 (h:=A3 (h:=A3 (h:=A3 (h:=AA (h:=m_ (h:=A3 (h:=A3 (h:=A3 (h:=?_))))))))))))))))))))))));refine A3 (h:=A3 (h:=A3 (h:=A3 (h:=AA (h:=AP (?_))))));refine AJ ?_
   first|(exfalso;first|contradiction|omega)|exact D1 2 0 rfl
  have hc4:=bp hb4;refine f_ (h:=l_ (h:=f_ (h:=l_ (h:=Ao (h:=AE (h:=m_ (h:=?_)))))));refine AT false rfl rfl (fun hb5=>?_) (fun hb5=>?_)
  ·have hc5:=bp hb5;refine A3 (h:=A3 (h:=A3 (h:=A3 (h:=A3 (h:=AA (h:=m_ (h:=A3 (h:=A3 (h:=A3 (h:=A3 (h:=A3 (h:=AA (h:=m_ (h:=A3 (h:=A3 (h:=A3 (h:=A3 (h:=A3 (h:=A3 (h:=A3 (h:=AA (h:=AP (?_)))))))))))))))))))))));refine AJ ?_
   first|(exfalso;first|contradiction|omega)|exact D1 2 0 rfl
  have hc5:=bp hb5;refine f_ (h:=l_ (h:=f_ (h:=l_ (h:=Ao (h:=AE (h:=m_ (h:=?_)))))));refine AT false rfl rfl (fun hb6=>?_) (fun hb6=>?_)
  ·have hc6:=bp hb6;refine A3 (h:=A3 (h:=A3 (h:=A3 (h:=A3 (h:=AA (h:=m_ (h:=A3 (h:=A3 (h:=A3 (h:=A3 (h:=A3 (h:=A3 (h:=A3 (h:=AA (h:=AP (?_))))))))))))))));refine AJ ?_
   first|(exfalso;first|contradiction|omega)|exact D1 2 0 rfl
  have hc6:=bp hb6;refine f_ (h:=l_ (h:=f_ (h:=l_ (h:=Ao (h:=AE (h:=m_ (h:=?_)))))));refine AT false rfl rfl (fun hb7=>?_) (fun hb7=>?_)
  ·have hc7:=bp hb7;refine A3 (h:=A3 (h:=A3 (h:=A3 (h:=A3 (h:=A3 (h:=A3 (h:=AA (h:=AP (?_)))))))));refine AJ ?_
   first|(exfalso;first|contradiction|omega)|exact D1 2 0 rfl
  have hc7:=bp hb7;refine f_ (h:=l_ (h:=n_ (h:=f_ (h:=l_ (h:=n_ (h:=Ao (h:=AE (h:=AP (?_)))))))));refine AJ ?_
  first|(exfalso;first|contradiction|omega)|exact D1 2 0 rfl
 skip
 refine A9 rfl (fun hb8=>?_) (fun hb8=>?_)
 ·have hc8:=bp hb8;have hne:a≠b:=by rintro rfl;simp at hc8
  refine w_ (a_ (h:=e_ (A4 (A8 (?_)))));refine A7 ?_
  first|(exfalso;first|contradiction|omega)|(exact vb (by simp[hne]))
 have hc8:=bp hb8;have hq:a.list=b.list∧a.action=b.action∧a.calls=b.calls∧a.watch=b.watch∧a.path=b.path∧a.perm=b.perm∧a.key=b.key∧(a.tests.length:Int)=(b.tests.length:Int):=by simpa using hc8
 obtain⟨q1,q2,q3,q4,q5,q6,q7,q8⟩:=hq;have hl:a.tests.length=b.tests.length:=by omega
 refine AD (q_ (w_ (a_ (h:=e_ (Ab (?_))))));refine BT (fun n s=>∃j:Nat,j≤a.tests.length∧n=a.tests.length - j∧decide (a.tests.drop j=b.tests.drop j)=decide (a.tests=b.tests)∧s=⟨look [(2, .bp 0 0),(3, .bp 1 0),(5, .v (.int .i64 (j:Int)))],⟨[Ak a,Ak b],[]⟩⟩) (a.tests.length) ((wk 2 0)) (⟨0,by omega,rfl,rfl,rfl⟩) ?_;rintro n s ⟨j,hj,rfl,hd,rfl⟩;refine q_ (w_ (m_ (h:=f_ (h:=l_ (h:=n_ (h:=B4 (h:=e_ (?_))))))));refine A9 rfl (fun hb9=>?_) (fun hb9=>?_)
 ·have hc9:=bp hb9;obtain⟨hlt,x,hx,hrow, -⟩:=Bt Bu hc9;obtain⟨hlt2,y,hy,hrow2, -⟩:=Bt Bu (l:=b.tests) (k:=j) (by simpa[hl]using hc9);refine AD (q_ (Ab (q_ (Cj 11 (h:=Aw 0 (h:=AO 1 (h:=Ac 2 (h:=Cl 3 (h:=AO 4 (h:=Aw 5 (h:=AO 6 (h:=Ac 7 (h:=Cl 8 (h:=AO 9 (h:=?_)))))))))))))));refine Dw (i:=10) rfl (E4 rfl rfl (by repeat constructor) (by repeat constructor) (fun w=>Ua x y w) (by kernel_rfl) ⟨rfl,rfl⟩) ?_;refine z_ (h:=t_ (?_));refine A9 rfl (fun hb10=>?_) (fun hb10=>?_)
  ·have hc10:=bp hb10;have ht:decide (a.tests=b.tests)=false:=by rw[←hd,Nj hx hy];simp[hc10]
   refine w_ (a_ (h:=e_ (A4 (AN (A8 (A8 (AN (A8 (?_)))))))));refine A7 ?_
   first|(exfalso;first|contradiction|omega)|(exact vb (by rw[GX];simp at ht;simp[ht]))
  have hc10:=bp hb10;refine Aq (Ai (t_ (AR (m_ (h:=B8 (h:=a_ (h:=AP (?_))))))));refine AJ ?_;refine⟨_,_,?_,⟨j+1,by omega,rfl,(by rw[←hd,Nj hx hy,hc10];simp),rfl⟩,(wk 2 0)⟩;omega
 have hc9:=bp hb9;have e:=C9 Bu hj hc9;subst e;have ht:decide (a.tests=b.tests)=true:=by rw[←hd,List.drop_length,hl,List.drop_length];rfl
 refine BF (Ah (Ah (BG (t_ (w_ (a_ (h:=e_ (A4 (?_)))))))));refine A7 ?_
 first|(exfalso;first|contradiction|omega)|(exact vb (by rw[GX];simp at ht;simp[*]))
def ET(l:List Rul)(r:Rul):Int:=CX (fun _ x=>decide (x=r)) l 0
theorem dL(i:Nat)(x r:Rul)(hx:x.tests.length≤1000):AFn prog 157 [.v (.int .i64 (i:Int)), .agg (Ak x), .fp (Ak r)] (fun y=>y= .v (.bool (decide (x=r)))):=by
 refine enter Tryz.func157 rfl rfl rfl rfl rfl 0 rfl ?_;refine w_ (b_ (h:=a_ (h:=e_ (w_ (l_ (h:=l_ (h:=?_)))))));refine A6 rfl (AB (dH x r hx) ?_);rintro r rfl;refine a_ (h:=e_ (A4 (?_)));refine A7 ?_;rfl
theorem dM(l:List Rul)(r:Rul)(hl:l.length≤1000)(ht:∀r∈l,r.tests.length≤1000):AFn prog 107 [.sl 8 (l.map Ak) none, .agg (Ak r)] (fun x=>x= .v (.int .i64 (ET l r))):=by
 refine enter Tryz.func107 rfl rfl rfl rfl rfl 0 rfl ?_;refine w_ (b_ (h:=a_ (h:=e_ (w_ (m_ (h:=Ob (h:=?_)))))));refine A6 rfl (OR rfl (by repeat (first|exact ArgsL.nil|refine ArgsL.cons _ _ _ _ _ rfl rfl ?_)) (S9 l hl (fun _ x=>decide (x=r)) 157 [.fp (Ak r)] rfl rfl fun i x hi=>dL i x r (ht x (B1 hi))) ?_);rintro x rfl;refine⟨rfl,?_⟩;refine a_ (h:=e_ (A4 (?_)));refine A7 ?_;rfl
theorem QL(l:List Rul)(r:Rul)(hl:l.length≤1000)(ht:∀r∈l,r.tests.length≤1000):AFn prog 109 [.sl 8 (l.map Ak) none, .agg (Ak r)] (fun x=>x= .v (.int .i64 (ET l r))):=by
 refine enter Tryz.func109 rfl rfl rfl rfl rfl 0 rfl ?_;refine w_ (b_ (h:=a_ (h:=e_ (q_ (w_ (a_ (h:=e_ (Ab (?_)))))))));refine BT (fun n s=>∃j:Nat,j≤l.length∧n=l.length - j∧CX (fun _ x=>decide (x=r)) (l.drop j) j=ET l r∧s=⟨look [(0, .sl 8 (l.map Ak) none),(3, .bp 0 0),(5, .v (.int .i64 (j:Int)))],⟨[Ak r],[]⟩⟩) (l.length) ((wk 1 0)) (⟨0,by omega,rfl,rfl,rfl⟩) ?_;rintro n s ⟨j,hj,rfl,ha,rfl⟩;refine q_ (w_ (m_ (h:=m_ (h:=n_ (h:=B4 (h:=e_ (?_)))))));refine A9 rfl (fun hb1=>?_) (fun hb1=>?_)
 ·have hc1:=bp hb1;obtain⟨hlt,x,hy,hrow, -⟩:=Bt Ak hc1;refine AD (q_ (Ab (q_ (Cj 6 (h:=Ac 0 (h:=Ac 1 (h:=Cl 2 (h:=AO 3 (h:=AO 4 (h:=?_))))))))));refine c_ 5 rfl (AB (dJ x r (ht x (B1 hy))) ?_);rintro r rfl;refine o_ (h:=z_ (h:=t_ (?_)));refine A9 rfl (fun hb2=>?_) (fun hb2=>?_)
  ·have hc2:=bp hb2;refine w_ (m_ (h:=a_ (h:=e_ (A4 (AN (A8 (A8 (AN (A8 (?_))))))))));refine A7 ?_
   first|(exfalso;first|contradiction|omega)|(exact vi (by rw[←ha,Hp hy];simp[hc2]))
  have hc2:=bp hb2;refine Aq (Ai (t_ (AR (m_ (h:=B8 (h:=a_ (h:=AP (?_))))))));refine AJ ?_;refine⟨_,_,?_,⟨j+1,by omega,rfl,(by rw[←ha,Hp hy];simp[hc2]),rfl⟩,(wk 1 0)⟩;omega
 have hc1:=bp hb1;have e:=C9 Ak hj hc1;subst e;refine BF (Ah (Ah (BG (t_ (w_ (a_ (h:=e_ (A4 (?_)))))))));refine A7 ?_
 first|(exfalso;first|contradiction|omega)|(exact vi (by rw[←ha,Mo]))
def Ex(pre:List Rul):List Rul→Int
 |[]=>0
 |r::rs=>if BE r≠0 then BE r else if 0≤ET pre r then 141 else Ex (pre++[r]) rs
theorem KR{l:List Rul}{j:Nat}{r:Rul}(h:l[j]?=some r):Ex (l.take j) (l.drop j)=if BE r≠0 then BE r else if 0≤ET (l.take j) r then 141 else Ex (l.take (j+1)) (l.drop (j+1)):=by
 obtain⟨hk,e⟩:=Al.1 h;rw[List.drop_eq_getElem_cons hk,Ex,e,List.take_succ_eq_append_getElem hk,e]
def Cv(l:List Rul):Int:=if 24<(l.length:Int)then 140 else Ex [] l
theorem dO(l:List Rul)(hl:l.length≤1000)(hi:∀r∈l,DA r):AFn prog 85 [.sl 8 (l.map Ak) none] (fun x=>x= .v (.int .i64 (Cv l))):=by
 have hfind:∀j r,AFn prog 107 [.sl 8 ((l.map Ak).take j) none, .agg (Ak r)] (fun x=>x= .v (.int .i64 (ET (l.take j) r))):=fun j r=>by
  rw[←List.map_take];exact dM (l.take j) r (by simp;omega) fun x hx=>(hi x (List.mem_of_mem_take hx)).2.2.2
 refine enter Tryz.func85 rfl rfl rfl rfl rfl 0 rfl ?_;refine w_ (a_ (h:=e_ (q_ (w_ (m_ (h:=n_ (h:=Ba (h:=e_ (?_)))))))));refine A9 rfl (fun hb1=>?_) (fun hb1=>?_)
 ·have hc1:=bp hb1;rw[List.length_map]at hc1;refine w_ (a_ (h:=e_ (A4 (A8 (?_)))));refine A7 ?_
  first|(exfalso;first|contradiction|omega)|(exact vi (by rw[Cv,if_pos hc1]))
 have hc1:=bp hb1;rw[List.length_map]at hc1;refine AD (q_ (w_ (m_ (h:=n_ (h:=m_ (h:=e_ (Ab (?_))))))));refine BT (fun n s=>∃j:Nat,j≤l.length∧n=l.length - j∧Ex (l.take j) (l.drop j)=Ex [] l∧s=⟨look [(0, .sl 8 (l.map Ak) none),(9, .sl 8 (l.map Ak) none),(10, .v (.int .i64 ((l.map Ak).length:Int))),(11, .v (.int .i64 (j:Int)))],⟨[],[]⟩⟩) (l.length) ((wk 0 0)) (⟨0,by omega,rfl,rfl,rfl⟩) ?_;rintro n s ⟨j,hj,rfl,ha,rfl⟩;refine w_ (B4 (h:=e_ (q_ (?_))));refine A9 rfl (fun hb2=>?_) (fun hb2=>?_)
 ·have hc2:=bp hb2;obtain⟨hlt,r,hy,hrow, -⟩:=Bt Ak hc2;refine AD (q_ (Ab (w_ (m_ (h:=i_ (h:=l_ (h:=Aa (h:=a_ (h:=s_ (h:=e_ (q_ (w_ (l_ (h:=?_))))))))))))));refine A6 rfl (AB (d9 r (hi r (B1 hy))) ?_);rintro r rfl;refine a_ (h:=e_ (w_ (m_ (h:=Ao (h:=e_ (?_))))));refine A9 rfl (fun hb3=>?_) (fun hb3=>?_)
  ·have hc3:=bp hb3;refine w_ (m_ (h:=a_ (h:=e_ (A4 (A8 (AN (A8 (A8 (AN (A8 (?_)))))))))));refine A7 ?_
   first|(exfalso;first|contradiction|omega)|(exact vi (by rw[Cv,if_neg hc1,←ha,KR hy,if_pos hc3]))
  have hc3:=bp hb3;refine AD (q_ (Cj 6 (h:=Ac 0 (h:=Ac 1 (h:=?_)))));refine Dw (i:=2) rfl (Qw (k:=j) rfl rfl rfl (by simp;omega) ⟨rfl,rfl⟩) ?_;refine AO 3 (h:=?_);refine c_ 4 rfl (AB (hfind j r) ?_);rintro r rfl;refine o_ (h:=RV 5 (h:=z_ (h:=t_ (?_))));refine A9 rfl (fun hb4=>?_) (fun hb4=>?_)
  ·have hc4:=bp hb4;refine w_ (a_ (h:=e_ (A4 (AN (A8 (A8 (AN (A8 (?_)))))))));refine A7 ?_
   first|(exfalso;first|contradiction|omega)|(exact vi (by rw[Cv,if_neg hc1,←ha,KR hy,if_neg (by omega),if_pos hc4]))
  have hc4:=bp hb4;refine Aq (Ai (t_ (AR (B8 (h:=m_ (h:=AP (?_)))))));refine AJ ?_;refine⟨_,_,?_,⟨j+1,by omega,rfl,(by rw[←ha,KR hy,if_neg (by omega),if_neg hc4]),rfl⟩,(wk 0 0)⟩;omega
 have hc2:=bp hb2;have e:=C9 Ak hj hc2;subst e;refine BF (Ah (Ah (BG (t_ (w_ (a_ (h:=e_ (A4 (?_)))))))));refine A7 ?_
 first|(exfalso;first|contradiction|omega)|(exact vi (by rw[Cv,if_neg hc1,←ha];simp[Ex]))
end
section
theorem Ub(l:List Rul)(hl:l.length≤1000)(hi:∀r∈l,DA r):AFn prog 88 [.sl 8 (l.map Ak) none] (fun x=>x= .v (.int .i64 (Cv l))):=by
 have hfind:∀j r,AFn prog 109 [.sl 8 ((l.map Ak).take j) none, .agg (Ak r)] (fun x=>x= .v (.int .i64 (ET (l.take j) r))):=fun j r=>by
  rw[←List.map_take];exact QL (l.take j) r (by simp;omega) fun x hx=>(hi x (List.mem_of_mem_take hx)).2.2.2
 refine enter Tryz.func88 rfl rfl rfl rfl rfl 0 rfl ?_;refine w_ (a_ (h:=e_ (q_ (w_ (m_ (h:=n_ (h:=Ba (h:=e_ (?_)))))))));refine A9 rfl (fun hb1=>?_) (fun hb1=>?_)
 ·have hc1:=bp hb1;rw[List.length_map]at hc1;refine w_ (a_ (h:=e_ (A4 (A8 (?_)))));refine A7 ?_
  first|(exfalso;first|contradiction|omega)|(exact vi (by rw[Cv,if_pos hc1]))
 have hc1:=bp hb1;rw[List.length_map]at hc1;refine AD (q_ (w_ (a_ (h:=e_ (Ab (?_))))));refine BT (fun n s=>∃j:Nat,j≤l.length∧n=l.length - j∧Ex (l.take j) (l.drop j)=Ex [] l∧s=⟨look [(0, .sl 8 (l.map Ak) none),(3, .v (.int .i64 (j:Int)))],⟨[],[]⟩⟩) (l.length) ((wk 0 0)) (⟨0,by omega,rfl,rfl,rfl⟩) ?_;rintro n s ⟨j,hj,rfl,ha,rfl⟩;refine q_ (w_ (m_ (h:=m_ (h:=n_ (h:=B4 (h:=e_ (?_)))))));refine A9 rfl (fun hb2=>?_) (fun hb2=>?_)
 ·have hc2:=bp hb2;obtain⟨hlt,r,hy,hrow, -⟩:=Bt Ak hc2;refine AD (q_ (Ab (q_ (w_ (m_ (h:=m_ (h:=i_ (h:=l_ (h:=?_)))))))));refine A6 rfl (AB (Ni r (hi r (B1 hy))) ?_);rintro r rfl;refine a_ (h:=e_ (w_ (m_ (h:=Ao (h:=e_ (?_))))));refine A9 rfl (fun hb3=>?_) (fun hb3=>?_)
  ·have hc3:=bp hb3;refine w_ (m_ (h:=a_ (h:=e_ (A4 (A8 (AN (A8 (A8 (AN (A8 (?_)))))))))));refine A7 ?_
   first|(exfalso;first|contradiction|omega)|(exact vi (by rw[Cv,if_neg hc1,←ha,KR hy,if_pos hc3]))
  have hc3:=bp hb3;refine AD (q_ (Cj 9 (h:=Ac 0 (h:=Ac 1 (h:=?_)))));refine Dw (i:=2) rfl (Qw (k:=j) rfl rfl rfl (by simp;omega) ⟨rfl,rfl⟩) ?_;refine Ac 3 (h:=Ac 4 (h:=Cl 5 (h:=AO 6 (h:=?_))));refine c_ 7 rfl (AB (hfind j r) ?_);rintro r rfl;refine o_ (h:=RV 8 (h:=z_ (h:=t_ (?_))));refine A9 rfl (fun hb4=>?_) (fun hb4=>?_)
  ·have hc4:=bp hb4;refine w_ (a_ (h:=e_ (A4 (AN (A8 (A8 (AN (A8 (?_)))))))));refine A7 ?_
   first|(exfalso;first|contradiction|omega)|(exact vi (by rw[Cv,if_neg hc1,←ha,KR hy,if_neg (by omega),if_pos hc4]))
  have hc4:=bp hb4;refine Aq (Ai (t_ (AR (m_ (h:=B8 (h:=a_ (h:=AP (?_))))))));refine AJ ?_;refine⟨_,_,?_,⟨j+1,by omega,rfl,(by rw[←ha,KR hy,if_neg (by omega),if_neg hc4]),rfl⟩,(wk 0 0)⟩;omega
 have hc2:=bp hb2;have e:=C9 Ak hj hc2;subst e;refine BF (Ah (Ah (BG (t_ (w_ (a_ (h:=e_ (A4 (?_)))))))));refine A7 ?_
 first|(exfalso;first|contradiction|omega)|(exact vi (by rw[Cv,if_neg hc1,←ha];simp[Ex]))
theorem Nk(r:Rul)(hl:r.tests.length≤1000):AFn prog 102 [.agg (Ak r)] (fun x=>x= .agg (Ak r)):=by
 refine enter Tryz.func102 rfl rfl rfl rfl rfl 0 rfl ?_;refine w_ (b_ (h:=Aa (h:=e_ (w_ (f_ (h:=l_ (h:=Dm (h:=f_ (h:=s_ (h:=e_ (w_ (l_ (h:=s_ (h:=e_ (A4 (?_))))))))))))))));refine A7 ?_;rfl
theorem dQ(l:List Rul)(h1:l.length≤1000)(hl:∀r∈l,r.tests.length≤1000):Jt prog 89 [.sl 8 (l.map Ak) none] (fun g=> .sl 8 (l.map Ak) g) (83,8,l.map Ak):=by
 refine enter Tryz.func89 rfl rfl rfl rfl rfl 0 rfl ?_;refine w_ (a_ (h:=e_ (w_ (a_ (h:=e_ (q_ (w_ (a_ (h:=e_ (Ab (?_)))))))))));refine Jr 3 83 8 rfl (by repeat constructor) ?_;refine BT (fun n s=>∃k:Nat,k≤l.length∧n=l.length - k∧s=⟨look [(0, .sl 8 (l.map Ak) none),(3, .sl 8 ((l.take k).map Ak) (some 0)),(4, .v (.int .i64 (k:Int)))],⟨[],[(83,8,(l.take k).map Ak)]⟩⟩) (l.length) ((wk 0 1)) (⟨0,BR _,rfl,rfl⟩) ?_;rintro n s ⟨k,hk,rfl,rfl⟩;refine q_ (w_ (m_ (h:=m_ (h:=n_ (h:=B4 (h:=e_ (?_)))))));refine A9 rfl (fun hb1=>?_) (fun hb1=>?_)
 ·have hc1:=bp hb1;obtain⟨hlt,r,hr,hrow,e⟩:=Bt Ak hc1;refine AD (q_ (Ab (AR (m_ (h:=m_ (h:=m_ (h:=i_ (h:=l_ (h:=?_)))))))));refine A6 rfl (AB (Nk r (hl r (B1 hr))) ?_);rintro r rfl;refine BX (h:=Dm (h:=a_ (h:=AP (Ai (t_ (AR (m_ (h:=B8 (h:=a_ (h:=AP (?_)))))))))));refine AJ ?_;refine⟨_,_,?_,⟨k+1,by omega,rfl,rfl⟩,?_⟩
  ·omega
  rw[e];exact(wk 0 1)
 have hc1:=bp hb1;have e:=C9 Ak hk hc1;subst e;rw[List.take_length];refine BF (Ah (Ah (BG (t_ (w_ (m_ (h:=a_ (h:=e_ (A4 (?_))))))))));refine Av (some 0) (h5:=(AZ _)) (h6:=⟨rfl,rfl,rfl⟩)
theorem dR(l:List Rul)(h1:l.length≤1000)(hl:∀r∈l,r.tests.length≤1000):AFn prog 89 [.sl 8 (l.map Ak) none] (fun x=>x= .sl 8 (l.map Ak) none):=by
 refine enter Tryz.func89 rfl rfl rfl rfl rfl 0 rfl ?_;refine w_ (a_ (h:=e_ (w_ (a_ (h:=e_ (q_ (w_ (a_ (h:=e_ (Ab (?_)))))))))));refine Jr 3 83 8 rfl (by repeat constructor) ?_;refine BT (fun n s=>∃k:Nat,k≤l.length∧n=l.length - k∧s=⟨look [(0, .sl 8 (l.map Ak) none),(3, .sl 8 ((l.take k).map Ak) (some 0)),(4, .v (.int .i64 (k:Int)))],⟨[],[(83,8,(l.take k).map Ak)]⟩⟩) (l.length) ((wk 0 1)) (⟨0,BR _,rfl,rfl⟩) ?_;rintro n s ⟨k,hk,rfl,rfl⟩;refine q_ (w_ (m_ (h:=m_ (h:=n_ (h:=B4 (h:=e_ (?_)))))));refine A9 rfl (fun hb1=>?_) (fun hb1=>?_)
 ·have hc1:=bp hb1;obtain⟨hlt,r,hr,hrow,e⟩:=Bt Ak hc1;refine AD (q_ (Ab (AR (m_ (h:=m_ (h:=m_ (h:=i_ (h:=l_ (h:=?_)))))))));refine A6 rfl (AB (Nk r (hl r (B1 hr))) ?_);rintro r rfl;refine BX (h:=Dm (h:=a_ (h:=AP (Ai (t_ (AR (m_ (h:=B8 (h:=a_ (h:=AP (?_)))))))))));refine AJ ?_;refine⟨_,_,?_,⟨k+1,by omega,rfl,rfl⟩,?_⟩
  ·omega
  rw[e];exact(wk 0 1)
 have hc1:=bp hb1;have e:=C9 Ak hk hc1;subst e;rw[List.take_length];refine BF (Ah (Ah (BG (t_ (w_ (m_ (h:=a_ (h:=e_ (A4 (?_))))))))));refine A7 ?_;rfl
end
def CO(l:List Rul)(r:Rul)(front:Bool):List Rul×Int:=
 if Cv l≠0 then([],Cv l)else if BE r≠0 then([],BE r)else if 0≤ET l r then([],141)else if 24≤(l.length:Int)then([],140)else(if front=true then r::l else l++[r],0)
def gK(l:List Rul)(r:Rul):List Rul×Int:=
 if Cv l≠0 then([],Cv l)else if ET l r<0 then([],142)else(l.eraseIdx (ET l r).toNat,0)
def Eh(x:List Rul×Int):AV:= .tup [.sl 8 (x.1.map Ak) none, .v (.int .i64 x.2)]
theorem Uc{l:List Rul}(h:¬Cv l≠0):(l.length:Int)≤24:=by
 unfold Cv at h;split at h
 ·simp at h
 omega
theorem J4{x:List Rul×Int}{e:Int}(h:x=([],e)):LeA (.tup [.v (.slice none 0 0), .v (.int .i64 e)]) (Eh x):=by
 rw[h];exact(by repeat (first|exact AZ _|exact LeA.nil _|exact LeL.refl _|refine LeA.agg ?_|refine LeA.tup ?_|exact LeL.nil|refine LeL.cons ?_ ?_|exact LeA.any _))
theorem Ud{x:List Rul×Int}{l:List Rul}{e:Int}(h:x=(l,e)):LeA (.tup [.sl 8 (l.map Ak) none, .v (.int .i64 e)]) (Eh x):=by
 rw[h];exact AZ _
section
theorem dS(l:List Rul)(r:Rul)(hl:l.length≤1000)(hi:∀r∈l,DA r)(hr:DA r):AFn prog 61 [.sl 8 (l.map Ak) none, .agg (Ak r), .v (.bool true)] (fun x=>x=Eh (CO l r true)):=by
 refine enter Tryz.func61 rfl rfl rfl rfl rfl 0 rfl ?_;refine w_ (b_ (h:=a_ (h:=a_ (h:=e_ (q_ (w_ (m_ (h:=?_))))))));refine A6 rfl (AB (Ub l hl hi) ?_);rintro r rfl;refine a_ (h:=e_ (w_ (m_ (h:=Ao (h:=e_ (?_))))));refine A9 rfl (fun hb1=>?_) (fun hb1=>?_)
 ·have hc1:=bp hb1;refine w_ (m_ (h:=a_ (h:=a_ (h:=e_ (A4 (A8 (?_)))))));refine Av (r:=Eh (CO l r true)) none (h5:=?_) (h6:=⟨rfl,rfl,rfl⟩);exact J4 (by simp[CO, *])
 have hc1:=bp hb1;refine AD (q_ (w_ (l_ (h:=?_))));refine A6 rfl (AB (Ni r hr) ?_);rintro r rfl;refine a_ (h:=e_ (w_ (m_ (h:=Ao (h:=e_ (?_))))));refine A9 rfl (fun hb2=>?_) (fun hb2=>?_)
 ·have hc2:=bp hb2;refine w_ (m_ (h:=a_ (h:=a_ (h:=e_ (A4 (A8 (?_)))))));refine Av (r:=Eh (CO l r true)) none (h5:=?_) (h6:=⟨rfl,rfl,rfl⟩);exact J4 (by simp[CO, *])
 have hc2:=bp hb2;refine AD (q_ (w_ (m_ (h:=l_ (h:=?_)))));refine A6 rfl (AB (QL l r hl fun x hx=>(hi x hx).2.2.2) ?_);rintro r rfl;refine Cm (h:=e_ (?_));refine A9 rfl (fun hb3=>?_) (fun hb3=>?_)
 ·have hc3:=bp hb3;refine w_ (a_ (h:=a_ (h:=e_ (A4 (A8 (?_))))));refine Av (r:=Eh (CO l r true)) none (h5:=?_) (h6:=⟨rfl,rfl,rfl⟩);exact J4 (by simp[CO, *])
 have hc3:=bp hb3;refine AD (q_ (w_ (m_ (h:=n_ (h:=AK (h:=e_ (?_)))))));refine A9 rfl (fun hb4=>?_) (fun hb4=>?_)
 ·have hc4:=bp hb4;rw[List.length_map]at hc4;refine w_ (a_ (h:=a_ (h:=e_ (A4 (A8 (?_))))));refine Av (r:=Eh (CO l r true)) none (h5:=?_) (h6:=⟨rfl,rfl,rfl⟩);exact J4 (by simp[CO, *])
 have hc4:=bp hb4;rw[List.length_map]at hc4;have h5:=Uc (not_not_intro hc1);have h4:¬24≤(l.length:Int):=by omega
 refine AD (q_ (w_ (m_ (h:=e_ (?_)))));refine A9 rfl (fun hb5=>?_) (fun hb5=>?_)
 ·have hc5:=bp hb5;refine w_ (l_ (h:=?_));refine A6 rfl (AB (Nk r hr.2.2.2) ?_);rintro r rfl;refine A6 rfl (OK (by repeat (first|exact DenseA.nil _|(apply DenseA.cons;(focus exact rfl);(focus exact rfl);(focus exact rfl);(focus exact rfl))|(apply DenseA.consE;(focus exact rfl);(focus exact rfl);(focus exact rfl)))) rfl rfl rfl rfl (by repeat constructor) ?_);refine m_ (h:=?_);refine A6 rfl (AB (dR l hl fun x hx=>(hi x hx).2.2.2) ?_);rintro r rfl;refine Dm (h:=a_ (h:=a_ (h:=e_ (A4 (A8 (?_))))));refine Av (r:=Eh (CO l r true)) none (h5:=?_) (h6:=⟨rfl,rfl,rfl⟩);exact Ud (l:=r::l) (by simp[CO, *])
 have hc5:=bp hb5;exfalso;first|contradiction|omega
theorem dT(l:List Rul)(r:Rul)(hl:l.length≤1000)(hi:∀r∈l,DA r)(hr:DA r):AFn prog 61 [.sl 8 (l.map Ak) none, .agg (Ak r), .v (.bool false)] (fun x=>x=Eh (CO l r false)):=by
 refine enter Tryz.func61 rfl rfl rfl rfl rfl 0 rfl ?_;refine w_ (b_ (h:=a_ (h:=a_ (h:=e_ (q_ (w_ (m_ (h:=?_))))))));refine A6 rfl (AB (Ub l hl hi) ?_);rintro r rfl;refine a_ (h:=e_ (w_ (m_ (h:=Ao (h:=e_ (?_))))));refine A9 rfl (fun hb1=>?_) (fun hb1=>?_)
 ·have hc1:=bp hb1;refine w_ (m_ (h:=a_ (h:=a_ (h:=e_ (A4 (A8 (?_)))))));refine Av (r:=Eh (CO l r false)) none (h5:=?_) (h6:=⟨rfl,rfl,rfl⟩);exact J4 (by simp[CO, *])
 have hc1:=bp hb1;refine AD (q_ (w_ (l_ (h:=?_))));refine A6 rfl (AB (Ni r hr) ?_);rintro r rfl;refine a_ (h:=e_ (w_ (m_ (h:=Ao (h:=e_ (?_))))));refine A9 rfl (fun hb2=>?_) (fun hb2=>?_)
 ·have hc2:=bp hb2;refine w_ (m_ (h:=a_ (h:=a_ (h:=e_ (A4 (A8 (?_)))))));refine Av (r:=Eh (CO l r false)) none (h5:=?_) (h6:=⟨rfl,rfl,rfl⟩);exact J4 (by simp[CO, *])
 have hc2:=bp hb2;refine AD (q_ (w_ (m_ (h:=l_ (h:=?_)))));refine A6 rfl (AB (QL l r hl fun x hx=>(hi x hx).2.2.2) ?_);rintro r rfl;refine Cm (h:=e_ (?_));refine A9 rfl (fun hb3=>?_) (fun hb3=>?_)
 ·have hc3:=bp hb3;refine w_ (a_ (h:=a_ (h:=e_ (A4 (A8 (?_))))));refine Av (r:=Eh (CO l r false)) none (h5:=?_) (h6:=⟨rfl,rfl,rfl⟩);exact J4 (by simp[CO, *])
 have hc3:=bp hb3;refine AD (q_ (w_ (m_ (h:=n_ (h:=AK (h:=e_ (?_)))))));refine A9 rfl (fun hb4=>?_) (fun hb4=>?_)
 ·have hc4:=bp hb4;rw[List.length_map]at hc4;refine w_ (a_ (h:=a_ (h:=e_ (A4 (A8 (?_))))));refine Av (r:=Eh (CO l r false)) none (h5:=?_) (h6:=⟨rfl,rfl,rfl⟩);exact J4 (by simp[CO, *])
 have hc4:=bp hb4;rw[List.length_map]at hc4;have h5:=Uc (not_not_intro hc1);have h4:¬24≤(l.length:Int):=by omega
 refine AD (q_ (w_ (m_ (h:=e_ (?_)))));refine A9 rfl (fun hb5=>?_) (fun hb5=>?_)
 ·have hc5:=bp hb5;exfalso;first|contradiction|omega
 have hc5:=bp hb5;refine AD (q_ (C3 ([(0,Ak r)]) 8 (h:=Ac 0 (h:=?_))))
 first|refine AO 2 (h:=?_)|refine BN 2 rfl (fun _ hS=>F2 rfl (by rw[hS];rfl) rfl ⟨rfl,rfl⟩) ?_
 refine c_ 1 rfl (OM rfl (by repeat (first|exact Args.nil|refine Args.cons _ _ _ _ _ rfl (GE rfl) ?_|refine Args.cons _ _ _ _ _ rfl (Hc _) ?_|refine Args.cons _ _ _ _ _ rfl (Ge _) ?_|refine Args.cons _ _ _ _ _ rfl (Hf rfl (by repeat (first|exact AZ _|exact LeA.nil _|exact LeL.refl _|refine LeA.agg ?_|refine LeA.tup ?_|exact LeL.nil|refine LeL.cons ?_ ?_|exact LeA.any _))) ?_)) (dQ l hl fun x hx=>(hi x hx).2.2.2) (fun _=>rfl) (by repeat constructor) ?_);refine o_ (h:=?_);refine c_ 3 rfl (AB (Nk r hr.2.2.2) ?_);rintro r rfl;refine o_ (h:=Hi 4 (h:=?_))
 first|refine c_ 5 rfl (E2 rfl rfl rfl (by simp<;>omega) (by repeat constructor) ?_)|refine c_ 5 rfl (E3 rfl rfl (by simp<;>omega) (by repeat constructor) ?_)
 refine o_ (h:=BL 6 (h:=BL 7 (h:=z_ (h:=t_ (A4 (?_))))));refine Av (r:=Eh (CO l r false)) none (h5:=?_) (h6:=⟨rfl,rfl,rfl⟩);have:=Ud (x:=CO l r false) (l:=l++[r]) (e:=0) (by simp[CO, *]);rw[List.map_append]at this;exact this
theorem Ue(l:List Rul)(r:Rul)(front:Bool)(hl:l.length≤1000)(hi:∀r∈l,DA r)(hr:DA r):AFn prog 61 [.sl 8 (l.map Ak) none, .agg (Ak r), .v (.bool front)] (fun x=>x=Eh (CO l r front)):=by
 cases front
 ·exact dT l r hl hi hr
 exact dS l r hl hi hr
end
def dU(u:Int):Ctx:=⟨2,0,0,u,0,0,0,0,0,(0,0),⟨#[]⟩,⟨#[]⟩,false,0,0,0,0,0,0,[],0⟩
def KS:Cxs:=⟨[],[],[]⟩
theorem QM{α:Type}{l:List α}{j:Nat}{x:α}(h:l[j]?=some x)(p:α→Bool):(l.take (j+1)).any p=((l.take j).any p||p x):=by
 rw[List.take_add_one,h,List.any_append];simp
structure Pol where
 rules:List Rul
 wats:List Wch
deriving DecidableEq
def Bb(p:Pol):List AV:=[.sl 8 (p.rules.map Ak) none, .sl 6 (p.wats.map Cs) none]
def Ei:Pol:=⟨[],[]⟩
def Fo(x:Pol×Int):AV:= .tup [.agg (Bb x.1), .v (.int .i64 x.2)]
def Ca(s:Spc)(r:Rul):Wch×Int:=if r.watch=0 then(Dl,0)else if(J3 s r.watch r.path).2≠0 then(Dl,180)else((J3 s r.watch r.path).1,0)
def GY(s:Spc)(l:List Rul):Pol×Int:=if Cv l≠0 then(Ei,Cv l)else if l.all (fun r=>decide ((Ca s r).2=0))=true then(⟨l,l.map fun r=>(Ca s r).1⟩,0)else(Ei,180)
def EU(s:Spc)(p:Pol)(r:Rul)(front:Bool):Pol×Int:=
 if(CO p.rules r front).2≠0 then(Ei,(CO p.rules r front).2)else if(Ca s r).2≠0 then(Ei,(Ca s r).2)
 else(⟨(CO p.rules r front).1,if front=true then(Ca s r).1::p.wats else p.wats++[(Ca s r).1]⟩,0)
theorem dV(s:Spc)(r:Rul):(Ca s r).2=0∨(Ca s r).2=180:=by
 unfold Ca;split
 ·exact .inl rfl
 split
 ·exact .inr rfl
 exact .inl rfl
section
theorem dW(s:Spc)(r:Rul)(hv:SpcV s)(hm:s.mounts.length≤1000)(hr:DA r):AFn prog 86 [.agg (Aj s), .agg (Ak r)] (fun x=>x=Nf (Ca s r)):=by
 obtain⟨F,hF⟩:∃F,J3 s r.watch r.path=F:=⟨_,rfl⟩;have hplc:AFn prog 128 [.agg (Aj s), .v (.int .i64 r.watch), .v (.string r.path)] (fun x=>x= .tup [.agg (Cs F.1), .v (.int .i64 F.2)]):=by rw[←hF];exact cU s r.watch r.path hv hm hr.2.2.1
 have hw:Ca s r=if r.watch=0 then(Dl,0)else if F.2≠0 then(Dl,180)else(F.1,0):=by rw[Ca,hF]
 refine enter Tryz.func86 rfl rfl rfl rfl rfl 0 rfl ?_;refine w_ (b_ (h:=b_ (h:=Aa (h:=a_ (h:=e_ (q_ (w_ (f_ (h:=l_ (h:=AK (h:=e_ (?_))))))))))));refine A9 rfl (fun hb1=>?_) (fun hb1=>?_)
 ·have hc1:=bp hb1;have k1:r.watch=0:=hc1;refine w_ (AX (h:=s_ (h:=a_ (h:=e_ (A4 (A8 (?_)))))));refine A7 ?_;rw[hw,if_pos k1];rfl
 have hc1:=bp hb1;have k1:¬r.watch=0:=hc1;refine AD (w_ (l_ (h:=f_ (h:=l_ (h:=f_ (h:=l_ (h:=?_)))))));refine A6 rfl (AB (hplc) ?_);rintro r rfl;refine m_ (h:=x_ (h:=x_ (h:=Aa (h:=s_ (h:=a_ (h:=e_ (q_ (w_ (m_ (h:=Ao (h:=e_ (?_))))))))))));refine A9 rfl (fun hb2=>?_) (fun hb2=>?_)
 ·have hc2:=bp hb2;have k2:F.2≠0:=by simpa using hc2
  refine w_ (AX (h:=s_ (h:=a_ (h:=e_ (A4 (A8 (?_)))))));refine A7 ?_;rw[hw,if_neg k1,if_pos k2];rfl
 have hc2:=bp hb2;have k2:¬F.2≠0:=by simpa using hc2
 refine AD (w_ (l_ (h:=s_ (h:=a_ (h:=e_ (A4 (?_)))))));refine A7 ?_;rw[hw,if_neg k1,if_neg k2];rfl
theorem Uf(s:Spc)(r:Rul)(hv:SpcV s)(hm:s.mounts.length≤1000)(hr:DA r):AFn prog 90 [.agg (Ak r), .agg (Aj s)] (fun x=>x=Nf (Ca s r)):=by
 obtain⟨F,hF⟩:∃F,J3 s r.watch r.path=F:=⟨_,rfl⟩;have hplc:AFn prog 130 [.agg (Aj s), .v (.int .i64 r.watch), .v (.string r.path)] (fun x=>x= .tup [.agg (Cs F.1), .v (.int .i64 F.2)]):=by rw[←hF];exact cT s r.watch r.path hv hm hr.2.2.1
 have hw:Ca s r=if r.watch=0 then(Dl,0)else if F.2≠0 then(Dl,180)else(F.1,0):=by rw[Ca,hF]
 refine enter Tryz.func90 rfl rfl rfl rfl rfl 0 rfl ?_;refine w_ (b_ (h:=b_ (h:=Aa (h:=a_ (h:=e_ (q_ (w_ (f_ (h:=l_ (h:=AK (h:=e_ (?_))))))))))));refine A9 rfl (fun hb1=>?_) (fun hb1=>?_)
 ·have hc1:=bp hb1;have k1:r.watch=0:=hc1;refine w_ (AX (h:=s_ (h:=a_ (h:=e_ (A4 (A8 (?_)))))));refine A7 ?_;rw[hw,if_pos k1];rfl
 have hc1:=bp hb1;have k1:¬r.watch=0:=hc1;refine AD (w_ (l_ (h:=f_ (h:=l_ (h:=f_ (h:=l_ (h:=?_)))))));refine A6 rfl (AB (hplc) ?_);rintro r rfl;refine m_ (h:=x_ (h:=x_ (h:=Aa (h:=s_ (h:=a_ (h:=e_ (q_ (w_ (m_ (h:=Ao (h:=e_ (?_))))))))))));refine A9 rfl (fun hb2=>?_) (fun hb2=>?_)
 ·have hc2:=bp hb2;have k2:F.2≠0:=by simpa using hc2
  refine w_ (AX (h:=s_ (h:=a_ (h:=e_ (A4 (A8 (?_)))))));refine A7 ?_;rw[hw,if_neg k1,if_pos k2];rfl
 have hc2:=bp hb2;have k2:¬F.2≠0:=by simpa using hc2
 refine AD (w_ (l_ (h:=s_ (h:=a_ (h:=e_ (A4 (?_)))))));refine A7 ?_;rw[hw,if_neg k1,if_neg k2];rfl
theorem dY(p:Pol)(i:Nat)(x:Wch)(hl:p.wats.length≤1000)(hx:p.wats[i]?=some x):AFn prog 70 [.agg (Bb p), .v (.int .i64 (i:Int))] (fun r=>r= .agg (Cs x)):=by
 have hlt:i<p.wats.length:=(Al.1 hx).1;have hrow:(p.wats.map Cs)[i]?=some (Cs x):=by rw[List.getElem?_map,hx];rfl
 refine enter Tryz.func70 rfl rfl rfl rfl rfl 0 rfl ?_;refine w_ (b_ (h:=Aa (h:=e_ (q_ (w_ (m_ (h:=B4 (h:=m_ (h:=?_)))))))));refine AT false rfl rfl (fun hb1=>?_) (fun hb1=>?_)
 ·have hc1:=bp hb1;exfalso;first|contradiction|omega
 have hc1:=bp hb1;refine m_ (h:=f_ (h:=l_ (h:=n_ (h:=Cm (h:=AE (h:=e_ (?_)))))));refine A9 rfl (fun hb2=>?_) (fun hb2=>?_)
 ·have hc2:=bp hb2;have hc2:=bp hb2;simp at hc2;omega
 have hc2:=bp hb2;refine AD (w_ (f_ (h:=l_ (h:=m_ (h:=i_ (h:=l_ (h:=s_ (h:=e_ (A4 (?_))))))))));refine A7 ?_;rfl
theorem dZ(r:Rul)(hr:r.tests.length≤1000):AFn prog 87 [.agg (Ak r)] (fun x=>x= .agg (Ak r)):=by
 refine enter Tryz.func87 rfl rfl rfl rfl rfl 0 rfl ?_;refine w_ (b_ (h:=Aa (h:=e_ (w_ (f_ (h:=l_ (h:=?_)))))));refine A6 rfl (AB (dF r.tests hr) ?_);rintro r rfl;refine f_ (h:=s_ (h:=e_ (w_ (l_ (h:=s_ (h:=e_ (A4 (?_))))))));refine A7 ?_;rfl
end
def EV(s:Spc)(l:List Rul):List Wch:=l.map fun r=>(Ca s r).1
theorem eB{s:Spc}{l:List Rul}{j:Nat}{r:Rul}(h:l[j]?=some r):(EV s (l.take (j+1))).map Cs=(EV s (l.take j)).map Cs++[Cs (Ca s r).1]:=by
 simp[EV,List.take_add_one,h]
theorem eC{s:Spc}{l:List Rul}{j:Nat}{r:Rul}(h:l[j]?=some r)(ha:∀r∈l.take j,(Ca s r).2=0)(hr:(Ca s r).2=0):∀r∈l.take (j+1),(Ca s r).2=0:=by
 intro x hx;rw[List.take_add_one,h]at hx;rcases List.mem_append.1 hx with hx|hx
 ·exact ha x hx
 have e:x=r:=by simpa using hx
 rw[e];exact hr
theorem eD{s:Spc}{l:List Rul}(h:Cv l≠0):GY s l=(Ei,Cv l):=by rw[GY,if_pos h]
theorem eF{s:Spc}{l:List Rul}{r:Rul}(h:¬Cv l≠0)(hr:r∈l)(hp:(Ca s r).2≠0):GY s l=(Ei,(Ca s r).2):=by
 rw[GY,if_neg h,if_neg]
 ·rcases dV s r with e|e
  ·exact absurd e hp
  rw[e]
 intro k;exact hp (of_decide_eq_true (List.all_eq_true.1 k r hr))
theorem Ug{s:Spc}{l:List Rul}(h:¬Cv l≠0)(ha:∀r∈l,(Ca s r).2=0):GY s l=(⟨l,EV s l⟩,0):=by
 rw[GY,if_neg h,if_pos]
 ·rfl
 exact List.all_eq_true.2 fun r hr=>decide_eq_true (ha r hr)
theorem KT{x:Pol×Int}{e:Int}(h:x=(Ei,e)):LeA (.tup [.agg [.v (.slice none 0 0), .v (.slice none 0 0)], .v (.int .i64 e)]) (Fo x):=by
 rw[h];exact(by repeat (first|exact AZ _|exact LeA.nil _|exact LeL.refl _|refine LeA.agg ?_|refine LeA.tup ?_|exact LeL.nil|refine LeL.cons ?_ ?_|exact LeA.any _))
section
theorem eG(s:Spc)(l:List Rul)(hv:SpcV s)(hm:s.mounts.length≤1000)(hl:l.length≤1000)(hi:∀r∈l,DA r):AFn prog 41 [.sl 8 (l.map Ak) none, .agg (Aj s)] (fun x=>x=Fo (GY s l)):=by
 have hplc:∀r,DA r→AFn prog 86 [.agg (Aj s), .agg (Ak r)] (fun x=>x= .tup [.agg (Cs (Ca s r).1), .v (.int .i64 (Ca s r).2)]):=fun r h=>dW s r hv hm h;refine enter Tryz.func41 rfl rfl rfl rfl rfl 0 rfl ?_;refine w_ (b_ (h:=Aa (h:=a_ (h:=e_ (q_ (w_ (m_ (h:=?_))))))));refine A6 rfl (AB (dO l hl hi) ?_);rintro r rfl;refine a_ (h:=e_ (w_ (m_ (h:=Ao (h:=e_ (?_))))));refine A9 rfl (fun hb1=>?_) (fun hb1=>?_)
 ·have hc1:=bp hb1;have k1:Cv l≠0:=by simpa using hc1
  refine w_ (AX (h:=m_ (h:=s_ (h:=a_ (h:=e_ (A4 (A8 (?_))))))));refine Av (r:=Fo (GY s l)) none (h5:=?_) (h6:=⟨rfl,rfl,rfl⟩);exact KT (eD k1)
 have hc1:=bp hb1;have k1:¬Cv l≠0:=by simpa using hc1
 refine AD (w_ (Aa (h:=e_ (q_ (w_ (m_ (h:=n_ (h:=m_ (h:=e_ (Ab (?_)))))))))));refine JJ 2 0 83 8 rfl rfl (by repeat constructor) (by repeat constructor) (by repeat constructor) ?_;refine JJ 2 1 93 6 rfl rfl (by repeat constructor) (by repeat constructor) (by repeat constructor) ?_;refine BT (fun n S=>∃j:Nat,j≤l.length∧n=l.length - j∧(∀r∈l.take j,(Ca s r).2=0)∧S=⟨look [(3, .bp 0 0),(4, .bp 1 0),(7, .bp 2 0),(18, .sl 8 (l.map Ak) none),(19, .v (.int .i64 ((l.map Ak).length:Int))),(20, .v (.int .i64 (j:Int)))],⟨[Aj s,[.v (.slice none 0 0), .v (.slice none 0 0)],[.sl 8 ((l.take j).map Ak) (some 0), .sl 6 ((EV s (l.take j)).map Cs) (some 1)]],[(83,8,(l.take j).map Ak),(93,6,(EV s (l.take j)).map Cs)]⟩⟩) (l.length) ((wk 3 2)) (⟨0,BR _,rfl,by simp,rfl⟩) ?_;rintro n S ⟨j,hj,rfl,ha,rfl⟩;refine w_ (B4 (h:=e_ (q_ (?_))));refine A9 rfl (fun hb2=>?_) (fun hb2=>?_)
 ·have hc2:=bp hb2;obtain⟨hlt,r,hy,hrow,e⟩:=Bt Ak hc2;refine AD (q_ (Ab (w_ (i_ (h:=l_ (h:=Aa (h:=s_ (h:=e_ (w_ (l_ (h:=l_ (h:=?_))))))))))));refine A6 rfl (AB (hplc r (hi r (B1 hy))) ?_);rintro r rfl;refine m_ (h:=x_ (h:=x_ (h:=Aa (h:=s_ (h:=a_ (h:=e_ (q_ (w_ (m_ (h:=Ao (h:=e_ (?_))))))))))));refine A9 rfl (fun hb3=>?_) (fun hb3=>?_)
  ·have hc3:=bp hb3;have k2:(Ca s r).2≠0:=by simpa using hc3
   refine w_ (AX (h:=m_ (h:=s_ (h:=a_ (h:=e_ (A4 (A8 (AN (A8 (A8 (AN (A8 (?_)))))))))))));refine Av (r:=Fo (GY s l)) none (h5:=?_) (h6:=⟨rfl,rfl,rfl⟩);exact KT (eF k1 (B1 hy) k2)
  have hc3:=bp hb3;have k2:(Ca s r).2=0:=by simpa using hc3
  refine AD (q_ (C3 ([(0,Aj s),(1,[.v (.slice none 0 0), .v (.slice none 0 0)]),(2,[.sl 8 ((l.take j).map Ak) (some 0), .sl 6 ((EV s (l.take j)).map Cs) (some 1)]),(3,Ak r)]) 6 (h:=Aw 0 (h:=AO 1 (h:=AO 2 (h:=?_))))));refine c_ 3 rfl (AB (dZ r (hi r (B1 hy)).2.2.2) ?_);rintro r rfl;refine o_ (h:=Hi 4 (h:=?_))
  first|refine c_ 5 rfl (E2 rfl rfl rfl (by simp[EV]<;>omega) (by repeat constructor) ?_)|refine c_ 5 rfl (E3 rfl rfl (by simp[EV]<;>omega) (by repeat constructor) ?_)
  refine o_ (h:=?_);refine c_ 6 rfl (E0 rfl ?_);refine o_ (h:=?_);refine Bd 7 rfl (BY rfl rfl rfl rfl rfl rfl (by repeat constructor) (by repeat constructor) ?_);refine o_ (h:=z_ (h:=t_ (AR (f_ (h:=l_ (h:=l_ (h:=BX (h:=?_))))))))
  first|refine A6 rfl (E2 rfl rfl rfl (by simp[EV]<;>omega) (by repeat constructor) ?_)|refine A6 rfl (E3 rfl rfl (by simp[EV]<;>omega) (by repeat constructor) ?_)
  refine f_ (h:=s_ (h:=AP (Ai (t_ (AR (B8 (h:=m_ (h:=AP (?_)))))))));refine AJ ?_;refine⟨_,_,?_,⟨j+1,by omega,rfl,eC hy ha k2,rfl⟩,?_⟩
  ·omega
  rw[e,eB hy];exact(wk 3 2)
 have hc2:=bp hb2;have e:=C9 Ak hj hc2;subst e;rw[List.take_length]at ha ⊢;refine BF (Ah (Ah (BG (t_ (w_ (l_ (h:=s_ (h:=a_ (h:=e_ (A4 (?_)))))))))));refine A7 ?_;rw[Ug k1 ha];rfl
end
section
theorem Uh(l:List Int)(a:Nat)(ha:a≤100000000000):GenF prog 84 l a [] 4 (fun r=>∃s:ByteArray,r= .v (.string s)∧s.size≤60):=by
 refine enter Tryz.func84 rfl rfl rfl rfl rfl 1 rfl ?_;refine w_ (a_ (h:=e_ (w_ (a_ (h:=e_ (q_ (w_ (m_ (h:=BX (h:=?_))))))))));refine A6 rfl (Ag 0 (hc:=Ce l _ _ (fun z=>decide (1≤z∧z≤3)) (by omega) (by rfl) (by rfl) (by rfl)) (hR:=?_));rintro r a1 ha1 ⟨k1,rfl,p1⟩;refine⟨rfl,_,(by repeat constructor),?_⟩;obtain⟨hz1,hz2⟩:=of_decide_eq_true p1;obtain⟨m,rfl⟩:=Int.eq_ofNat_of_zero_le (show 0≤k1 by omega);refine a_ (h:=e_ (Ab (?_)));refine BT (fun n s=>∃(j a1:Nat) (t:ByteArray),j≤m∧n=j∧a1≤a+1+(m - j)∧t.size≤2 * (m - j)∧s=⟨look [(0, .bp 0 0),(3, .v (.string t)),(4, .v (.int .i64 (j:Int)))],⟨[Cc l a1],[]⟩⟩) (m) ((wk 1 0)) (⟨m,a1,⟨#[]⟩,by omega,rfl,by omega,by rw[Nat.sub_self];exact B3 0,rfl⟩) ?_;rintro n s ⟨j,b1,t,hj,hn,hb1,ht,rfl⟩;subst n;refine q_ (w_ (m_ (h:=Ba (h:=e_ (?_)))));refine A9 rfl (fun hb1=>?_) (fun hb1=>?_)
 ·have hc1:=bp hb1;refine AD (q_ (Ab (AR (m_ (h:=m_ (h:=BX (h:=?_)))))));refine A6 rfl (Ag 0 (hc:=GU l _ _ (fun s=>decide (s.size≤1)) (by omega) (by rfl) (by rfl) (by rfl)) (hR:=?_));rintro r a2 ha2 ⟨k2,rfl,p2⟩;refine⟨rfl,_,(by repeat constructor),?_⟩;have hw:=of_decide_eq_true p2;refine A6 rfl (EC rfl rfl (by show 1+k2.size≤_;omega) ?_);refine A6 rfl (EC rfl rfl (by have e:=ByteArray.size_append (a:=⟨#[47]⟩) (b:=k2);have:(⟨#[47]⟩:ByteArray).size=1:=rfl;omega) ?_);refine a_ (h:=AP (Ai (t_ (AR (m_ (h:=EN (h:=a_ (h:=AP (?_)))))))));refine AJ ?_;obtain⟨j,rfl⟩:∃i,j=i+1:=⟨j - 1,by omega⟩;refine⟨_,_,?_,⟨j,_,_,by omega,rfl,?_,?_,rfl⟩,Ar 1 0 rfl rfl rfl rfl (by repeat (first|exact Sub.nil|refine As rfl rfl ?_|(apply Sub.of;(focus exact rfl);(focus exact LeA.of_eq (vi (by omega)));(focus exact rfl))))⟩
  ·omega
  ·omega
  have e:=ByteArray.size_append (a:=⟨#[47]⟩) (b:=k2);have e2:=ByteArray.size_append (a:=t) (b:=⟨#[47]⟩++k2);have:(⟨#[47]⟩:ByteArray).size=1:=rfl;omega
 have hc1:=bp hb1;refine BF (Ah (Ah (BG (t_ (w_ (m_ (h:=a_ (h:=e_ (A4 (?_))))))))));refine Av none (h5:=(AZ _)) (h6:=⟨_,rfl,rfl,b1,by omega,rfl,t,rfl,by omega⟩)
end
def Bare(s:Spc):Prop:=FlsV s.files∧0<s.files.length∧s.mounts=[]
theorem Bare.v{s:Spc}(h:Bare s):SpcV s:=⟨h.1,h.2.1,fun i m hm=>by rw[h.2.2]at hm;cases hm⟩
theorem Bare.m{s:Spc}(h:Bare s):s.mounts.length≤1000:=by rw[h.2.2];exact BR _
def eH(s:Syst):Prop:=Bare s.spc∧TabB s.tab
theorem Ui:eH (G5 1).1:=by
 have h:=TP (k:=1) (by decide) (by decide)
 have e:(G5 1).1=⟨⟨(E6 1).1,[]⟩,Q8 (0,1)⟩:=by
  unfold G5;rw[if_neg (by decide)]
 rw[e];exact⟨⟨h.1,h.2,rfl⟩,⟨by decide,by decide,by decide,by decide⟩⟩
section
variable (s:Spc)(p:Pol)(r:Rul)(hv:SpcV s)(hm:s.mounts.length≤1000)(h1:p.rules.length≤1000)(h2:p.wats.length=p.rules.length)(hi:∀r∈p.rules,DA r)(hr:DA r)
include hv hm h1 h2 hi hr
theorem eJ(front:Bool)(hf:front=true)(A:List Rul×Int)(hA:CO p.rules r front=A)(W:Wch×Int)(hW:Ca s r=W):AFn prog 57 [.agg (Bb p), .agg (Aj s), .agg (Ak r), .v (.bool true)] (fun x=>x=Fo (EU s p r front)):=by
 have hadd:AFn prog 61 [.sl 8 (p.rules.map Ak) none, .agg (Ak r), .v (.bool true)] (fun x=>x= .tup [.sl 8 (A.1.map Ak) none, .v (.int .i64 A.2)]):=by rw[←hA,hf];exact Ue p.rules r true h1 hi hr
 have hplc:AFn prog 90 [.agg (Ak r), .agg (Aj s)] (fun x=>x= .tup [.agg (Cs W.1), .v (.int .i64 W.2)]):=by rw[←hW];exact Uf s r hv hm hr
 have heq:EU s p r front=if A.2≠0 then(Ei,A.2)else if W.2≠0 then(Ei,W.2)else(⟨A.1,W.1::p.wats⟩,0):=by rw[EU,hA,hW,hf];rfl
 refine enter Tryz.func57 rfl rfl rfl rfl rfl 0 rfl ?_;refine w_ (b_ (h:=b_ (h:=b_ (h:=Aa (h:=a_ (h:=e_ (w_ (f_ (h:=l_ (h:=l_ (h:=m_ (h:=?_))))))))))));refine A6 rfl (AB (hadd) ?_);rintro r rfl;refine m_ (h:=x_ (h:=x_ (h:=a_ (h:=a_ (h:=e_ (q_ (w_ (m_ (h:=Ao (h:=e_ (?_)))))))))));refine A9 rfl (fun hb1=>?_) (fun hb1=>?_)
 ·have hc1:=bp hb1;have k1:A.2≠0:=by simpa using hc1
  refine w_ (AX (h:=m_ (h:=s_ (h:=a_ (h:=e_ (A4 (A8 (?_))))))));refine Av (r:=Fo (EU s p r front)) none (h5:=?_) (h6:=⟨rfl,rfl,rfl⟩);exact KT (by rw[heq,if_pos k1])
 have hc1:=bp hb1;have k1:¬A.2≠0:=by simpa using hc1
 refine AD (w_ (l_ (h:=l_ (h:=?_))));refine A6 rfl (AB (hplc) ?_);rintro r rfl;refine m_ (h:=x_ (h:=x_ (h:=Aa (h:=s_ (h:=a_ (h:=e_ (q_ (w_ (m_ (h:=Ao (h:=e_ (?_))))))))))));refine A9 rfl (fun hb2=>?_) (fun hb2=>?_)
 ·have hc2:=bp hb2;have k2:W.2≠0:=by simpa using hc2
  refine w_ (AX (h:=m_ (h:=s_ (h:=a_ (h:=e_ (A4 (A8 (?_))))))));refine Av (r:=Fo (EU s p r front)) none (h5:=?_) (h6:=⟨rfl,rfl,rfl⟩);exact KT (by rw[heq,if_neg k1,if_pos k2])
 have hc2:=bp hb2;have k2:¬W.2≠0:=by simpa using hc2
 refine AD (q_ (w_ (m_ (h:=e_ (?_)))));refine A9 rfl (fun hb3=>?_) (fun hb3=>?_)
 ·have hc3:=bp hb3;refine w_ (m_ (h:=l_ (h:=?_)));refine A6 rfl (OK (by repeat (first|exact DenseA.nil _|(apply DenseA.cons;(focus exact rfl);(focus exact rfl);(focus exact rfl);(focus exact rfl))|(apply DenseA.consE;(focus exact rfl);(focus exact rfl);(focus exact rfl)))) rfl rfl rfl rfl (by repeat constructor) ?_);refine f_ (h:=l_ (h:=Dm (h:=AX (h:=s_ (h:=a_ (h:=e_ (A4 (A8 (?_)))))))));refine A7 ?_;rw[heq,if_neg k1,if_neg k2];rfl
 have hc3:=bp hb3;exfalso;first|contradiction|omega
theorem eK(front:Bool)(hf:front=false)(A:List Rul×Int)(hA:CO p.rules r front=A)(W:Wch×Int)(hW:Ca s r=W):AFn prog 57 [.agg (Bb p), .agg (Aj s), .agg (Ak r), .v (.bool false)] (fun x=>x=Fo (EU s p r front)):=by
 have hadd:AFn prog 61 [.sl 8 (p.rules.map Ak) none, .agg (Ak r), .v (.bool false)] (fun x=>x= .tup [.sl 8 (A.1.map Ak) none, .v (.int .i64 A.2)]):=by rw[←hA,hf];exact Ue p.rules r false h1 hi hr
 have hplc:AFn prog 90 [.agg (Ak r), .agg (Aj s)] (fun x=>x= .tup [.agg (Cs W.1), .v (.int .i64 W.2)]):=by rw[←hW];exact Uf s r hv hm hr
 have heq:EU s p r front=if A.2≠0 then(Ei,A.2)else if W.2≠0 then(Ei,W.2)else(⟨A.1,p.wats++[W.1]⟩,0):=by rw[EU,hA,hW,hf];rfl
 refine enter Tryz.func57 rfl rfl rfl rfl rfl 0 rfl ?_;refine w_ (b_ (h:=b_ (h:=b_ (h:=Aa (h:=a_ (h:=e_ (w_ (f_ (h:=l_ (h:=l_ (h:=m_ (h:=?_))))))))))));refine A6 rfl (AB (hadd) ?_);rintro r rfl;refine m_ (h:=x_ (h:=x_ (h:=a_ (h:=a_ (h:=e_ (q_ (w_ (m_ (h:=Ao (h:=e_ (?_)))))))))));refine A9 rfl (fun hb1=>?_) (fun hb1=>?_)
 ·have hc1:=bp hb1;have k1:A.2≠0:=by simpa using hc1
  refine w_ (AX (h:=m_ (h:=s_ (h:=a_ (h:=e_ (A4 (A8 (?_))))))));refine Av (r:=Fo (EU s p r front)) none (h5:=?_) (h6:=⟨rfl,rfl,rfl⟩);exact KT (by rw[heq,if_pos k1])
 have hc1:=bp hb1;have k1:¬A.2≠0:=by simpa using hc1
 refine AD (w_ (l_ (h:=l_ (h:=?_))));refine A6 rfl (AB (hplc) ?_);rintro r rfl;refine m_ (h:=x_ (h:=x_ (h:=Aa (h:=s_ (h:=a_ (h:=e_ (q_ (w_ (m_ (h:=Ao (h:=e_ (?_))))))))))));refine A9 rfl (fun hb2=>?_) (fun hb2=>?_)
 ·have hc2:=bp hb2;have k2:W.2≠0:=by simpa using hc2
  refine w_ (AX (h:=m_ (h:=s_ (h:=a_ (h:=e_ (A4 (A8 (?_))))))));refine Av (r:=Fo (EU s p r front)) none (h5:=?_) (h6:=⟨rfl,rfl,rfl⟩);exact KT (by rw[heq,if_neg k1,if_pos k2])
 have hc2:=bp hb2;have k2:¬W.2≠0:=by simpa using hc2
 refine AD (q_ (w_ (m_ (h:=e_ (?_)))));refine A9 rfl (fun hb3=>?_) (fun hb3=>?_)
 ·have hc3:=bp hb3;exfalso;first|contradiction|omega
 have hc3:=bp hb3;refine AD (q_ (C3 ([(0,Bb p),(1,Aj s),(2,Ak r),(4,Cs W.1)]) 10 (h:=Ac 0 (h:=Aw 1 (h:=AO 2 (h:=AO 4 (h:=Hi 5 (h:=?_))))))))
 first|refine c_ 3 rfl (E2 rfl rfl rfl (by simp<;>omega) (by repeat constructor) ?_)|refine c_ 3 rfl (E3 rfl rfl (by simp<;>omega) (by repeat constructor) ?_)
 refine o_ (h:=?_)
 first|refine c_ 6 rfl (E2 rfl rfl rfl (by simp<;>omega) (by repeat constructor) ?_)|refine c_ 6 rfl (E3 rfl rfl (by simp<;>omega) (by repeat constructor) ?_)
 refine o_ (h:=Fa 7 (h:=?_));refine Bd 8 rfl (BY rfl rfl rfl rfl rfl rfl (by repeat constructor) (by repeat constructor) ?_);refine o_ (h:=BL 9 (h:=z_ (h:=t_ (A4 (?_)))));refine A7 ?_;rw[heq,if_neg k1,if_neg k2];simp[Fo,Bb,List.map_append];rfl
theorem Nl(front:Bool):AFn prog 57 [.agg (Bb p), .agg (Aj s), .agg (Ak r), .v (.bool front)] (fun x=>x=Fo (EU s p r front)):=by
 cases front
 ·exact eK s p r hv hm h1 h2 hi hr false rfl _ rfl _ rfl
 exact eJ s p r hv hm h1 h2 hi hr true rfl _ rfl _ rfl
end
end Go.Proofs.YtbgnigjfkbmceaaGreatDoor
