/-
  Part 15 of the proof of FilterChangesP: what the statement's proof uses of the texts in wip/tpl.
-/
import Derived.Test.YtbgnigjfkbmceaaGreatDoorQa14
open Go.Proofs.Tryz (prog)
set_option maxRecDepth 10000
set_option maxHeartbeats 4000000
set_option linter.unusedVariables false
set_option linter.unusedSimpArgs false
namespace Go.Proofs.YtbgnigjfkbmceaaGreatDoor
open Go.RowKit
theorem cU(x:BitVec 64):(x &&& ~~~ 4294967295#64)=0#64↔x.toNat<4294967296:=by
 have hc:(x &&& 4294967295#64).toNat=x.toNat % 4294967296:=by
  rw[BitVec.toNat_and];exact Nat.and_two_pow_sub_one_eq_mod x.toNat 32
 have hs:x=(x &&& 4294967295#64) ||| (x &&& ~~~ 4294967295#64):=by
  apply BitVec.eq_of_getLsbD_eq;intro i hi;simp only[BitVec.getLsbD_or,BitVec.getLsbD_and,BitVec.getLsbD_not,hi];cases x.getLsbD i<;>cases (4294967295#64).getLsbD i<;>simp
 constructor
 ·intro h;rw[h,BitVec.or_zero]at hs;have:=congrArg BitVec.toNat hs;omega
 intro h
 have e:x &&& 4294967295#64=x:=by
  apply BitVec.eq_of_toNat_eq;rw[hc];omega
 rw[←e,BitVec.and_assoc];have:(4294967295#64 &&& ~~~ 4294967295#64)=0#64:=by decide
 rw[this,BitVec.and_zero]
theorem cV{m:Int}(h1:0≤m)(h2:m<18446744073709551616):MU .u64 m 4294967295=0↔m<4294967296:=by
 have e:MU .u64 m 4294967295=(((BitVec.ofInt 64 m &&& ~~~ 4294967295#64).toNat:Nat):Int):=by
  show IntKind.u64.wrap ((BitVec.ofInt 64 m &&& ~~~ 4294967295#64).toNat:Nat)=_;have h:=(BitVec.ofInt 64 m &&& ~~~ 4294967295#64).isLt;generalize (BitVec.ofInt 64 m &&& ~~~ 4294967295#64).toNat=n at h;simp only[IntKind.wrap,IntKind.signed,IntKind.bits];simp;omega
 rw[e]
 have hn:(BitVec.ofInt 64 m).toNat=m.toNat:=by
  rw[BitVec.toNat_ofInt];omega
 have h:=cU (BitVec.ofInt 64 m);rw[hn]at h;constructor
 ·intro k;have:(BitVec.ofInt 64 m &&& ~~~ 4294967295#64)=0#64:=BitVec.eq_of_toNat_eq (by simpa using Int.ofNat_inj.1 k);have:=h.1 this;omega
 intro k;rw[h.2 (by omega)];rfl
theorem cW{m:Int}(h1:0≤m):KY .u64 m 32=0↔m<4294967296:=by
 show m.fdiv (2 ^ min (32:Int).toNat 64)=0↔_;rw[show((2:Int) ^ min (32:Int).toNat 64)=4294967296 by decide,Int.fdiv_eq_ediv_of_nonneg _ (by omega)];omega
def CN(r:Rul):Prop:=0≤r.calls∧r.calls<18446744073709551616∧r.path.size≤50000∧r.tests.length≤1000
def C7(r:Rul):Bool:=
 if r.watch=0 then decide (r.path=⟨#[]⟩∧r.perm=0)
 else decide ((r.watch=1∨r.watch=2)∧r.list=3∧D7 r.path.data.toList=true∧(r.path.size:Int)≤128∧1≤r.perm∧r.perm≤15)
def Fc(list:Int):List Tst→Int
 |[]=>0
 |t::ts=>if BS t list=0 then Fc list ts else BS t list
theorem Nc{list:Int}{l:List Tst}{j:Nat}{t:Tst}(ht:l[j]?=some t):Fc list (l.drop j)=if BS t list=0 then Fc list (l.drop (j+1))else BS t list:=by
 obtain⟨hk,e⟩:=Al.1 ht;rw[List.drop_eq_getElem_cons hk,Fc,e]
theorem UH{list:Int}{l:List Tst}:Fc list (l.drop l.length)=0:=by simp[Fc]
def Db(r:Rul):Bool:=if r.list=2∨r.list=3 then decide (r.calls=0∨¬r.calls<4294967296)else decide (r.calls≠0)
def BE(r:Rul):Int:=
 if r.list<1∨5<r.list then 130 else if r.action≠1∧r.action≠2 then 131 else if Db r=true then 132 else if 8<(r.tests.length:Int)then 133
 else if Fc r.list r.tests≠0 then Fc r.list r.tests else if C7 r=false then 134 else if 31<(r.key.size:Int)then 135 else 0
section
theorem cY(f:Int):AFn prog 166 [.v (.int .i64 f)] (fun r=>r= .v (.bool (decide (f=2∨f=3)))):=by
 refine enter Tryz.func166 rfl rfl rfl rfl rfl 0 rfl ?_;refine w_ (a_ (h:=e_ (w_ (m_ (h:=AN (h:=m_ (h:=?_)))))));refine AU false rfl rfl (fun hb1=>?_) (fun hb1=>?_)
 ·have hc1:=bp hb1;refine A3 (h:=A3 (h:=AD (h:=a_ (h:=e_ (A4 (?_))))));refine A8 ?_
  first|(exfalso;first|contradiction|omega)|(exact vb (by simp[*]))
 have hc1:=bp hb1;refine m_ (h:=AN (h:=AG (h:=a_ (h:=e_ (A4 (?_))))));refine A8 ?_
 first|(exfalso;first|contradiction|omega)|(exact vb (by simp[*]))
theorem cZ(m:Int)(h1:0≤m)(h2:m<18446744073709551616):AFn prog 167 [.v (.int .u64 m)] (fun r=>r= .v (.bool (decide (m<4294967296)))):=by
 refine enter Tryz.func167 rfl rfl rfl rfl rfl 0 rfl ?_;refine w_ (a_ (h:=e_ (w_ (m_ (h:=at_ (h:=AN (h:=a_ (h:=e_ (A4 (?_))))))))));refine A8 ?_
 first|(exfalso;first|contradiction|omega)|(exact vb (by exact decide_eq_decide.2 (cV h1 h2)))
theorem d6(m:Int)(h1:0≤m):AFn prog 154 [.v (.int .u64 m)] (fun r=>r= .v (.bool (decide (m<4294967296)))):=by
 refine enter Tryz.func154 rfl rfl rfl rfl rfl 0 rfl ?_;refine w_ (a_ (h:=e_ (w_ (m_ (h:=RN (h:=AN (h:=a_ (h:=e_ (A4 (?_))))))))));refine A8 ?_
 first|(exfalso;first|contradiction|omega)|(exact vb (by exact decide_eq_decide.2 (cW h1)))
theorem d7(r:Rul)(hp:r.path.size≤50000):AFn prog 168 [.agg (AO r)] (fun x=>x= .v (.bool (C7 r))):=by
 refine enter Tryz.func168 rfl rfl rfl rfl rfl 0 rfl ?_;refine w_ (b_ (h:=a_ (h:=e_ (q_ (w_ (f_ (h:=l_ (h:=e_ (Af (w_ (AN (h:=a_ (h:=e_ (?_))))))))))))));refine A9 rfl (fun hb1=>?_) (fun hb1=>?_)
 ·have hc1:=bp hb1;refine w_ (f_ (h:=l_ (h:=AN (h:=m_ (h:=?_)))));refine AU true rfl rfl (fun hb2=>?_) (fun hb2=>?_)
  ·have hc2:=bp hb2;refine f_ (h:=l_ (h:=AN (h:=AD (h:=a_ (h:=e_ (A4 (AR (A7 (?_)))))))));refine A8 ?_
   first|(exfalso;first|contradiction|omega)|(exact vb (by unfold C7;simp[*]))
  have hc2:=bp hb2;refine A3 (h:=A3 (h:=A3 (h:=AG (h:=a_ (h:=e_ (A4 (AR (A7 (?_)))))))));refine A8 ?_
  first|(exfalso;first|contradiction|omega)|(exact vb (by unfold C7;simp[*]))
 have hc1:=bp hb1;refine q_ (w_ (AN (h:=a_ (h:=e_ (?_)))));refine A9 rfl (fun hb3=>?_) (fun hb3=>?_)
 ·have hc3:=bp hb3;refine AA (B6 (h:=w_ (f_ (h:=l_ (h:=AN (h:=m_ (h:=?_)))))));refine AU true rfl rfl (fun hb4=>?_) (fun hb4=>?_)
  ·have hc4:=bp hb4;refine f_ (h:=l_ (h:=?_));refine Ax (AE (Nb r.path (by omega)) ?_);rintro r rfl;refine AD (h:=m_ (h:=?_));refine AU true rfl rfl (fun hb5=>?_) (fun hb5=>?_)
   ·have hc5:=bp hb5;refine f_ (h:=l_ (h:=n_ (h:=EJ (h:=AD (h:=m_ (h:=?_))))));refine AU true rfl rfl (fun hb6=>?_) (fun hb6=>?_)
    ·have hc6:=bp hb6;refine f_ (h:=l_ (h:=D4 (h:=AD (h:=m_ (h:=?_)))));refine AU true rfl rfl (fun hb7=>?_) (fun hb7=>?_)
     ·have hc7:=bp hb7;refine f_ (h:=l_ (h:=EJ (h:=AD (h:=a_ (h:=e_ (A4 (AR (A7 (?_)))))))));refine A8 ?_
      first|(exfalso;first|contradiction|omega)|(exact vb (by unfold C7;simp[*]))
     have hc7:=bp hb7;refine A3 (h:=A3 (h:=A3 (h:=AG (h:=a_ (h:=e_ (A4 (AR (A7 (?_)))))))));refine A8 ?_
     first|(exfalso;first|contradiction|omega)|(exact vb (by unfold C7;simp[*]))
    have hc6:=bp hb6;refine A3 (h:=A3 (h:=A3 (h:=AG (h:=m_ (h:=A3 (h:=A3 (h:=A3 (h:=AG (h:=a_ (h:=e_ (A4 (AR (A7 (?_))))))))))))));refine A8 ?_
    first|(exfalso;first|contradiction|omega)|(exact vb (by unfold C7;simp[*]))
   have hc5:=bp hb5;refine A3 (h:=A3 (h:=A3 (h:=A3 (h:=AG (h:=m_ (h:=A3 (h:=A3 (h:=A3 (h:=AG (h:=m_ (h:=A3 (h:=A3 (h:=A3 (h:=AG (h:=a_ (h:=e_ (A4 (AR (A7 (?_))))))))))))))))))));refine A8 ?_
   first|(exfalso;first|contradiction|omega)|(exact vb (by unfold C7;simp[*]))
  have hc4:=bp hb4;refine A3 (h:=A3 (h:=A3 (h:=AG (h:=m_ (h:=A3 (h:=A3 (h:=A3 (h:=A3 (h:=AG (h:=m_ (h:=A3 (h:=A3 (h:=A3 (h:=AG (h:=m_ (h:=A3 (h:=A3 (h:=A3 (h:=AG (h:=a_ (h:=e_ (A4 (AR (?_))))))))))))))))))))))));refine A7 (?_);refine A8 ?_
  first|(exfalso;first|contradiction|omega)|(exact vb (by unfold C7;simp[*]))
 have hc3:=bp hb3;refine AT (AN (h:=a_ (h:=e_ (?_))));refine A9 rfl (fun hb8=>?_) (fun hb8=>?_)
 ·have hc8:=bp hb8;refine w_ (f_ (h:=l_ (h:=AN (h:=m_ (h:=?_)))));refine AU true rfl rfl (fun hb9=>?_) (fun hb9=>?_)
  ·have hc9:=bp hb9;refine f_ (h:=l_ (h:=?_));refine Ax (AE (Nb r.path (by omega)) ?_);rintro r rfl;refine AD (h:=m_ (h:=?_));refine AU true rfl rfl (fun hb10=>?_) (fun hb10=>?_)
   ·have hc10:=bp hb10;refine f_ (h:=l_ (h:=n_ (h:=EJ (h:=AD (h:=m_ (h:=?_))))));refine AU true rfl rfl (fun hb11=>?_) (fun hb11=>?_)
    ·have hc11:=bp hb11;refine f_ (h:=l_ (h:=D4 (h:=AD (h:=m_ (h:=?_)))));refine AU true rfl rfl (fun hb12=>?_) (fun hb12=>?_)
     ·have hc12:=bp hb12;refine f_ (h:=l_ (h:=EJ (h:=AD (h:=a_ (h:=e_ (A4 (AR (A7 (?_)))))))));refine A8 ?_
      first|(exfalso;first|contradiction|omega)|(exact vb (by unfold C7;simp[*]))
     have hc12:=bp hb12;refine A3 (h:=A3 (h:=A3 (h:=AG (h:=a_ (h:=e_ (A4 (AR (A7 (?_)))))))));refine A8 ?_
     first|(exfalso;first|contradiction|omega)|(exact vb (by unfold C7;simp[*]))
    have hc11:=bp hb11;refine A3 (h:=A3 (h:=A3 (h:=AG (h:=m_ (h:=A3 (h:=A3 (h:=A3 (h:=AG (h:=a_ (h:=e_ (A4 (AR (A7 (?_))))))))))))));refine A8 ?_
    first|(exfalso;first|contradiction|omega)|(exact vb (by unfold C7;simp[*]))
   have hc10:=bp hb10;refine A3 (h:=A3 (h:=A3 (h:=A3 (h:=AG (h:=m_ (h:=A3 (h:=A3 (h:=A3 (h:=AG (h:=m_ (h:=A3 (h:=A3 (h:=A3 (h:=AG (h:=a_ (h:=e_ (A4 (AR (A7 (?_))))))))))))))))))));refine A8 ?_
   first|(exfalso;first|contradiction|omega)|(exact vb (by unfold C7;simp[*]))
  have hc9:=bp hb9;refine A3 (h:=A3 (h:=A3 (h:=AG (h:=m_ (h:=A3 (h:=A3 (h:=A3 (h:=A3 (h:=AG (h:=m_ (h:=A3 (h:=A3 (h:=A3 (h:=AG (h:=m_ (h:=A3 (h:=A3 (h:=A3 (h:=AG (h:=a_ (h:=e_ (A4 (AR (?_))))))))))))))))))))))));refine A7 (?_);refine A8 ?_
  first|(exfalso;first|contradiction|omega)|(exact vb (by unfold C7;simp[*]))
 have hc8:=bp hb8;refine Av (Ai (t_ (w_ (a_ (h:=e_ (A4 (?_)))))));refine A8 ?_
 first|(exfalso;first|contradiction|omega)|(exact vb (by unfold C7;simp[*]))
theorem QF(r:Rul)(hr:CN r):AFn prog 116 [.agg (AO r)] (fun x=>x= .v (.int .i64 (BE r))):=by
 obtain⟨m1,m2,hp,hl⟩:=hr;refine enter Tryz.func116 rfl rfl rfl rfl rfl 0 rfl ?_;refine w_ (b_ (h:=a_ (h:=e_ (q_ (w_ (f_ (h:=l_ (h:=B1 (h:=m_ (h:=?_))))))))));refine AU false rfl rfl (fun hb1=>?_) (fun hb1=>?_)
 ·have hc1:=bp hb1;refine A3 (h:=A3 (h:=A3 (h:=AD (h:=e_ (B6 (h:=w_ (a_ (h:=e_ (A4 (A7 (?_)))))))))));refine A8 ?_
  first|(exfalso;first|contradiction|omega)|(exact vi (by first|(unfold BE;grind)|(unfold BE Db;grind)))
 have hc1:=bp hb1;refine f_ (h:=l_ (h:=Bf (h:=AG (h:=e_ (?_)))));refine A9 rfl (fun hb2=>?_) (fun hb2=>?_)
 ·have hc2:=bp hb2;refine w_ (a_ (h:=e_ (A4 (A7 (?_)))));refine A8 ?_
  first|(exfalso;first|contradiction|omega)|(exact vi (by first|(unfold BE;grind)|(unfold BE Db;grind)))
 have hc2:=bp hb2;refine AA (?_);refine MT (⟨look [(1, .bp 0 0),(2, .v (.int .i64 0))],⟨[AO r],[]⟩⟩) (¬(r.action≠1∧r.action≠2)) ?_ (fun hA=>?_)
 ·skip
  refine w_ (f_ (h:=l_ (h:=Aj (h:=m_ (h:=?_)))));refine AU true rfl rfl (fun hb3=>?_) (fun hb3=>?_)
  ·have hc3:=bp hb3;refine f_ (h:=l_ (h:=Aj (h:=AD (h:=e_ (?_)))));refine A9 rfl (fun hb4=>?_) (fun hb4=>?_)
   ·have hc4:=bp hb4;refine w_ (a_ (h:=e_ (A4 (A7 (?_)))));refine A8 ?_
    first|(exfalso;first|contradiction|omega)|(exact vi (by first|(unfold BE;grind)|(unfold BE Db;grind)))
   have hc4:=bp hb4;refine Av (?_);refine AK ?_
   first|(exfalso;first|contradiction|omega)|exact⟨(by omega),Cy 1 0 rfl⟩
  have hc3:=bp hb3;refine A3 (h:=A3 (h:=A3 (h:=AG (h:=e_ (Bh (h:=Av (?_)))))));refine AK ?_
  first|(exfalso;first|contradiction|omega)|exact⟨(by omega),Cy 1 0 rfl⟩
 skip
 refine MT (⟨look [(1, .bp 0 0),(2, .v (.int .i64 0))],⟨[AO r],[]⟩⟩) (Db r=false) ?_ (fun hB=>?_)
 ·skip
  refine w_ (f_ (h:=l_ (h:=?_)));refine A6 rfl (AE (cY _) ?_);rintro r rfl;refine e_ (?_);refine A9 rfl (fun hb5=>?_) (fun hb5=>?_)
  ·have hc5:=bp hb5;refine w_ (f_ (h:=l_ (h:=AN (h:=m_ (h:=?_)))));refine AU false rfl rfl (fun hb6=>?_) (fun hb6=>?_)
   ·have hc6:=bp hb6;refine A3 (h:=A3 (h:=A3 (h:=A3 (h:=AD (h:=e_ (B6 (h:=w_ (a_ (h:=e_ (A4 (A7 (?_))))))))))));refine A8 ?_
    first|(exfalso;first|contradiction|omega)|(exact vi (by first|(unfold BE;grind)|(unfold BE Db;grind)))
   have hc6:=bp hb6;refine f_ (h:=l_ (h:=?_));refine Ax (AE (cZ _ m1 m2) ?_);rintro r rfl;refine B7 (h:=AG (h:=e_ (?_)));refine A9 rfl (fun hb7=>?_) (fun hb7=>?_)
   ·have hc7:=bp hb7;refine w_ (a_ (h:=e_ (A4 (A7 (?_)))));refine A8 ?_
    first|(exfalso;first|contradiction|omega)|(exact vi (by first|(unfold BE;grind)|(unfold BE Db;grind)))
   have hc7:=bp hb7;refine Av (?_);refine AK ?_
   first|(exfalso;first|contradiction|omega)|exact⟨(by unfold Db;grind),Cy 1 0 rfl⟩
  have hc5:=bp hb5;refine w_ (f_ (h:=l_ (h:=Aj (h:=e_ (?_)))));refine A9 rfl (fun hb8=>?_) (fun hb8=>?_)
  ·have hc8:=bp hb8;refine w_ (a_ (h:=e_ (A4 (A7 (?_)))));refine A8 ?_
   first|(exfalso;first|contradiction|omega)|(exact vi (by first|(unfold BE;grind)|(unfold BE Db;grind)))
  have hc8:=bp hb8;refine Av (?_);refine AK ?_
  first|(exfalso;first|contradiction|omega)|exact⟨(by unfold Db;grind),Cy 1 0 rfl⟩
 skip
 refine q_ (w_ (f_ (h:=l_ (h:=n_ (h:=Bf (h:=e_ (?_)))))));refine A9 rfl (fun hb9=>?_) (fun hb9=>?_)
 ·have hc9:=bp hb9;refine w_ (a_ (h:=e_ (A4 (A7 (?_)))));refine A8 ?_
  first|(exfalso;first|contradiction|omega)|(exact vi (by first|(unfold BE;grind)|(unfold BE Db;grind)))
 have hc9:=bp hb9;rw[List.length_map]at hc9;refine AA (q_ (w_ (f_ (h:=l_ (h:=n_ (h:=m_ (h:=e_ (Af (?_)))))))));refine BW (fun n s=>∃j:Nat,j≤r.tests.length∧n=r.tests.length - j∧Fc r.list (r.tests.drop j)=Fc r.list r.tests∧s=⟨look [(1, .bp 0 0),(2, .v (.int .i64 0)),(42, .sl 5 (r.tests.map CM) none),(43, .v (.int .i64 ((r.tests.map CM).length:Int))),(44, .v (.int .i64 (j:Int)))],⟨[AO r],[]⟩⟩) (r.tests.length) ((wk 1 0)) (⟨0,by omega,rfl,rfl,rfl⟩) ?_;rintro n s ⟨j,hj,rfl,ha,rfl⟩;refine w_ (B1 (h:=e_ (q_ (?_))));refine A9 rfl (fun hb10=>?_) (fun hb10=>?_)
 ·have hc10:=bp hb10;obtain⟨hlt,t,hy,hrow, -⟩:=Br CM hc10;refine AA (q_ (Af (w_ (i_ (h:=l_ (h:=Aa (h:=s_ (h:=e_ (w_ (l_ (h:=f_ (h:=l_ (h:=?_)))))))))))));refine A6 rfl (AE (Rb t _) ?_);rintro r rfl;refine a_ (h:=e_ (w_ (m_ (h:=Aj (h:=e_ (?_))))));refine A9 rfl (fun hb11=>?_) (fun hb11=>?_)
  ·have hc11:=bp hb11;rw[Nc hy,if_neg hc11]at ha;refine w_ (m_ (h:=a_ (h:=e_ (A4 (AR (A7 (A7 (AR (A7 (?_))))))))));refine A8 ?_
   first|(exfalso;first|contradiction|omega)|(exact vi (by first|(unfold BE;grind)|(unfold BE Db;grind)))
  have hc11:=bp hb11;refine Av (Ai (t_ (AT (B5 (h:=m_ (h:=AP (?_)))))));refine AK ?_;refine⟨_,_,?_,⟨j+1,by omega,rfl,(by rw[←ha,Nc hy,if_pos (by omega)]),rfl⟩,(wk 1 0)⟩;omega
 have hc10:=bp hb10;have e:=C5 CM hj hc10;subst e;rw[UH]at ha;refine BH (Ah (Ah (BJ (t_ (q_ (w_ (l_ (h:=?_))))))));refine A6 rfl (AE (d7 r hp) ?_);rintro r rfl;refine B7 (h:=e_ (?_));refine A9 rfl (fun hb12=>?_) (fun hb12=>?_)
 ·have hc12:=bp hb12;refine w_ (a_ (h:=e_ (A4 (A7 (?_)))));refine A8 ?_
  first|(exfalso;first|contradiction|omega)|(exact vi (by first|(unfold BE;grind)|(unfold BE Db;grind)))
 have hc12:=bp hb12;refine AA (q_ (w_ (f_ (h:=l_ (h:=n_ (h:=Bf (h:=e_ (?_))))))));refine A9 rfl (fun hb13=>?_) (fun hb13=>?_)
 ·have hc13:=bp hb13;refine w_ (a_ (h:=e_ (A4 (A7 (?_)))));refine A8 ?_
  first|(exfalso;first|contradiction|omega)|(exact vi (by first|(unfold BE;grind)|(unfold BE Db;grind)))
 have hc13:=bp hb13;refine AA (w_ (a_ (h:=e_ (A4 (?_)))));refine A8 ?_
 first|(exfalso;first|contradiction|omega)|(exact vi (by first|(unfold BE;grind)|(unfold BE Db;grind)))
theorem Nd(r:Rul)(hr:CN r):AFn prog 105 [.agg (AO r)] (fun x=>x= .v (.int .i64 (BE r))):=by
 obtain⟨m1,m2,hp,hl⟩:=hr;refine enter Tryz.func105 rfl rfl rfl rfl rfl 0 rfl ?_;refine w_ (b_ (h:=a_ (h:=e_ (q_ (w_ (f_ (h:=l_ (h:=B1 (h:=m_ (h:=?_))))))))));refine AU false rfl rfl (fun hb1=>?_) (fun hb1=>?_)
 ·have hc1:=bp hb1;refine A3 (h:=A3 (h:=A3 (h:=AD (h:=e_ (B6 (h:=w_ (a_ (h:=e_ (A4 (A7 (?_)))))))))));refine A8 ?_
  first|(exfalso;first|contradiction|omega)|(exact vi (by first|(unfold BE;grind)|(unfold BE C7;grind)))
 have hc1:=bp hb1;refine f_ (h:=l_ (h:=Bf (h:=AG (h:=e_ (?_)))));refine A9 rfl (fun hb2=>?_) (fun hb2=>?_)
 ·have hc2:=bp hb2;refine w_ (a_ (h:=e_ (A4 (A7 (?_)))));refine A8 ?_
  first|(exfalso;first|contradiction|omega)|(exact vi (by first|(unfold BE;grind)|(unfold BE C7;grind)))
 have hc2:=bp hb2;refine AA (?_);refine MT (⟨look [(1, .bp 0 0),(2, .v (.int .i64 0))],⟨[AO r],[]⟩⟩) (¬(r.action≠1∧r.action≠2)) ?_ (fun hA=>?_)
 ·skip
  refine w_ (f_ (h:=l_ (h:=Aj (h:=m_ (h:=?_)))));refine AU true rfl rfl (fun hb3=>?_) (fun hb3=>?_)
  ·have hc3:=bp hb3;refine f_ (h:=l_ (h:=Aj (h:=AD (h:=e_ (?_)))));refine A9 rfl (fun hb4=>?_) (fun hb4=>?_)
   ·have hc4:=bp hb4;refine w_ (a_ (h:=e_ (A4 (A7 (?_)))));refine A8 ?_
    first|(exfalso;first|contradiction|omega)|(exact vi (by first|(unfold BE;grind)|(unfold BE C7;grind)))
   have hc4:=bp hb4;refine Av (?_);refine AK ?_
   first|(exfalso;first|contradiction|omega)|exact⟨(by omega),Cy 1 0 rfl⟩
  have hc3:=bp hb3;refine A3 (h:=A3 (h:=A3 (h:=AG (h:=e_ (Bh (h:=Av (?_)))))));refine AK ?_
  first|(exfalso;first|contradiction|omega)|exact⟨(by omega),Cy 1 0 rfl⟩
 skip
 refine EU (⟨look [(1, .bp 0 0),(2, .v (.int .i64 0)),(3, .v (.bool (decide (r.list=2∨r.list=3))))],⟨[AO r],[]⟩⟩) ?_ ?_
 ·skip
  refine AT (f_ (h:=l_ (h:=AN (h:=m_ (h:=?_)))));refine AU false rfl rfl (fun hb5=>?_) (fun hb5=>?_)
  ·have hc5:=bp hb5;refine A3 (h:=A3 (h:=A3 (h:=AD (h:=a_ (h:=AP (?_))))));refine AK ?_
   first|(exfalso;first|contradiction|omega)|exact Cy 1 0 rfl
  have hc5:=bp hb5;refine f_ (h:=l_ (h:=AN (h:=AG (h:=a_ (h:=AP (?_))))));refine AK ?_
  first|(exfalso;first|contradiction|omega)|exact Cy 1 0 rfl
 skip
 refine q_ (?_);refine EU (⟨look [(1, .bp 0 0),(2, .v (.int .i64 0)),(50, .v (.bool (Db r)))],⟨[AO r],[]⟩⟩) ?_ ?_
 ·skip
  refine AT (m_ (h:=m_ (h:=?_)));refine AU true rfl rfl (fun hb6=>?_) (fun hb6=>?_)
  ·have hc6:=bp hb6;refine f_ (h:=l_ (h:=AN (h:=m_ (h:=?_))));refine AU false rfl rfl (fun hb7=>?_) (fun hb7=>?_)
   ·have hc7:=bp hb7;refine A3 (h:=A3 (h:=A3 (h:=A3 (h:=AD (h:=AD (h:=m_ (h:=A3 (h:=A3 (h:=A3 (h:=AX (h:=AX (h:=AX (h:=A3 (h:=AD (h:=AP (?_))))))))))))))));refine AK ?_
    first|(exfalso;first|contradiction|omega)|exact Ay 1 0 rfl rfl rfl rfl (by repeat (first|exact Sub.nil|refine B0 rfl rfl ?_|refine B2 ?_|refine B3 rfl ?_|refine B4 rfl ?_|(apply Sub.of;(focus exact rfl);(focus exact LeA.of_eq (vb (by unfold Db;grind)));(focus exact rfl))))
   have hc7:=bp hb7;refine f_ (h:=l_ (h:=?_));refine Ax (AE (d6 _ m1) ?_);rintro r rfl;refine B7 (h:=AG (h:=AD (h:=m_ (h:=?_))));refine AU false rfl rfl (fun hb8=>?_) (fun hb8=>?_)
   ·have hc8:=bp hb8;refine A3 (h:=A3 (h:=A3 (h:=AX (h:=AX (h:=AX (h:=A3 (h:=AD (h:=AP (?_)))))))));refine AK ?_
    first|(exfalso;first|contradiction|omega)|exact Ay 1 0 rfl rfl rfl rfl (by repeat (first|exact Sub.nil|refine B0 rfl rfl ?_|refine B2 ?_|refine B3 rfl ?_|refine B4 rfl ?_|(apply Sub.of;(focus exact rfl);(focus exact LeA.of_eq (vb (by unfold Db;grind)));(focus exact rfl))))
   have hc8:=bp hb8;refine m_ (h:=B7 (h:=m_ (h:=?_)));refine AU true rfl rfl (fun hb9=>?_) (fun hb9=>?_)
   ·have hc9:=bp hb9;refine f_ (h:=l_ (h:=Aj (h:=AD (h:=AG (h:=AP (?_))))));refine AK ?_
    first|(exfalso;first|contradiction|omega)|exact Ay 1 0 rfl rfl rfl rfl (by repeat (first|exact Sub.nil|refine B0 rfl rfl ?_|refine B2 ?_|refine B3 rfl ?_|refine B4 rfl ?_|(apply Sub.of;(focus exact rfl);(focus exact LeA.of_eq (vb (by unfold Db;grind)));(focus exact rfl))))
   have hc9:=bp hb9;refine A3 (h:=A3 (h:=A3 (h:=AG (h:=AG (h:=AP (?_))))));refine AK ?_
   first|(exfalso;first|contradiction|omega)|exact Ay 1 0 rfl rfl rfl rfl (by repeat (first|exact Sub.nil|refine B0 rfl rfl ?_|refine B2 ?_|refine B3 rfl ?_|refine B4 rfl ?_|(apply Sub.of;(focus exact rfl);(focus exact LeA.of_eq (vb (by unfold Db;grind)));(focus exact rfl))))
  have hc6:=bp hb6;refine A3 (h:=A3 (h:=A3 (h:=A3 (h:=AX (h:=AX (h:=AX (h:=AX (h:=A3 (h:=AG (h:=m_ (h:=m_ (h:=B7 (h:=m_ (h:=?_))))))))))))));refine AU true rfl rfl (fun hb10=>?_) (fun hb10=>?_)
  ·have hc10:=bp hb10;refine f_ (h:=l_ (h:=Aj (h:=AD (h:=AG (h:=AP (?_))))));refine AK ?_
   first|(exfalso;first|contradiction|omega)|exact Ay 1 0 rfl rfl rfl rfl (by repeat (first|exact Sub.nil|refine B0 rfl rfl ?_|refine B2 ?_|refine B3 rfl ?_|refine B4 rfl ?_|(apply Sub.of;(focus exact rfl);(focus exact LeA.of_eq (vb (by unfold Db;grind)));(focus exact rfl))))
  have hc10:=bp hb10;refine A3 (h:=A3 (h:=A3 (h:=AG (h:=AG (h:=AP (?_))))));refine AK ?_
  first|(exfalso;first|contradiction|omega)|exact Ay 1 0 rfl rfl rfl rfl (by repeat (first|exact Sub.nil|refine B0 rfl rfl ?_|refine B2 ?_|refine B3 rfl ?_|refine B4 rfl ?_|(apply Sub.of;(focus exact rfl);(focus exact LeA.of_eq (vb (by unfold Db;grind)));(focus exact rfl))))
 skip
 refine A9 rfl (fun hb11=>?_) (fun hb11=>?_)
 ·have hc11:=bp hb11;refine w_ (a_ (h:=e_ (A4 (A7 (?_)))));refine A8 ?_
  first|(exfalso;first|contradiction|omega)|(exact vi (by first|(unfold BE;grind)|(unfold BE C7;grind)))
 have hc11:=bp hb11;refine AA (q_ (w_ (f_ (h:=l_ (h:=n_ (h:=Bf (h:=e_ (?_))))))));refine A9 rfl (fun hb12=>?_) (fun hb12=>?_)
 ·have hc12:=bp hb12;refine w_ (a_ (h:=e_ (A4 (A7 (?_)))));refine A8 ?_
  first|(exfalso;first|contradiction|omega)|(exact vi (by first|(unfold BE;grind)|(unfold BE C7;grind)))
 have hc12:=bp hb12;rw[List.length_map]at hc12;refine AA (q_ (w_ (a_ (h:=e_ (Af (?_))))));refine BW (fun n s=>∃j:Nat,j≤r.tests.length∧n=r.tests.length - j∧Fc r.list (r.tests.drop j)=Fc r.list r.tests∧s=⟨look [(1, .bp 0 0),(2, .v (.int .i64 0)),(4, .v (.int .i64 (j:Int)))],⟨[AO r],[]⟩⟩) (r.tests.length) ((wk 1 0)) (⟨0,by omega,rfl,rfl,rfl⟩) ?_;rintro n s ⟨j,hj,rfl,ha,rfl⟩;refine q_ (w_ (m_ (h:=f_ (h:=l_ (h:=n_ (h:=B1 (h:=e_ (?_))))))));refine A9 rfl (fun hb13=>?_) (fun hb13=>?_)
 ·have hc13:=bp hb13;obtain⟨hlt,t,hy,hrow, -⟩:=Br CM hc13;refine AA (q_ (Af (q_ (DE 9 (h:=Az 0 (h:=AY 1 (h:=Ap 2 (h:=Dj 3 (h:=AY 4 (h:=Az 5 (h:=AY 6 (h:=?_))))))))))));refine c_ 7 rfl (AE (W8 t _) ?_);rintro r rfl;refine o_ (h:=BN 8 (h:=z_ (h:=t_ (w_ (m_ (h:=Aj (h:=e_ (?_))))))));refine A9 rfl (fun hb14=>?_) (fun hb14=>?_)
  ·have hc14:=bp hb14;rw[Nc hy,if_neg hc14]at ha;refine w_ (m_ (h:=a_ (h:=e_ (A4 (AR (A7 (A7 (AR (A7 (?_))))))))));refine A8 ?_
   first|(exfalso;first|contradiction|omega)|(exact vi (by first|(unfold BE;grind)|(unfold BE C7;grind)))
  have hc14:=bp hb14;refine Av (Ai (t_ (AT (m_ (h:=B5 (h:=a_ (h:=AP (?_))))))));refine AK ?_;refine⟨_,_,?_,⟨j+1,by omega,rfl,(by rw[←ha,Nc hy,if_pos (by omega)]),rfl⟩,(wk 1 0)⟩;omega
 have hc13:=bp hb13;have e:=C5 CM hj hc13;subst e;rw[UH]at ha;refine BH (Ah (Ah (BJ (t_ (?_)))));refine MT (⟨look [(1, .bp 0 0),(2, .v (.int .i64 0))],⟨[AO r],[]⟩⟩) (C7 r=true) ?_ (fun hW=>?_)
 ·skip
  refine w_ (f_ (h:=l_ (h:=e_ (Af (w_ (AN (h:=a_ (h:=e_ (?_)))))))));refine A9 rfl (fun hb15=>?_) (fun hb15=>?_)
  ·have hc15:=bp hb15;refine w_ (f_ (h:=l_ (h:=Aj (h:=m_ (h:=?_)))));refine AU false rfl rfl (fun hb16=>?_) (fun hb16=>?_)
   ·have hc16:=bp hb16;refine A3 (h:=A3 (h:=A3 (h:=AD (h:=e_ (B6 (h:=w_ (a_ (h:=e_ (A4 (AR (A7 (?_))))))))))));refine A8 ?_
    first|(exfalso;first|contradiction|omega)|(exact vi (by first|(unfold BE;grind)|(unfold BE C7;grind)))
   have hc16:=bp hb16;refine f_ (h:=l_ (h:=Aj (h:=AG (h:=e_ (?_)))));refine A9 rfl (fun hb17=>?_) (fun hb17=>?_)
   ·have hc17:=bp hb17;refine w_ (a_ (h:=e_ (A4 (AR (A7 (?_))))));refine A8 ?_
    first|(exfalso;first|contradiction|omega)|(exact vi (by first|(unfold BE;grind)|(unfold BE C7;grind)))
   have hc17:=bp hb17;refine Av (Ai (?_));refine AK ?_
   first|(exfalso;first|contradiction|omega)|exact⟨(by unfold C7;grind),Cy 1 0 rfl⟩
  have hc15:=bp hb15;refine q_ (w_ (AN (h:=a_ (h:=e_ (?_)))));refine A9 rfl (fun hb18=>?_) (fun hb18=>?_)
  ·have hc18:=bp hb18;refine AA (B6 (h:=w_ (f_ (h:=l_ (h:=Aj (h:=m_ (h:=?_)))))));refine AU false rfl rfl (fun hb19=>?_) (fun hb19=>?_)
   ·have hc19:=bp hb19;refine A3 (h:=A3 (h:=A3 (h:=A3 (h:=AD (h:=m_ (h:=A3 (h:=A3 (h:=A3 (h:=A3 (h:=AD (h:=m_ (h:=A3 (h:=A3 (h:=A3 (h:=AD (h:=m_ (h:=A3 (h:=A3 (h:=A3 (h:=AD (h:=e_ (B6 (h:=w_ (?_))))))))))))))))))))))));refine a_ (h:=e_ (A4 (AR (A7 (?_)))));refine A8 ?_
    first|(exfalso;first|contradiction|omega)|(exact vi (by first|(unfold BE;grind)|(unfold BE C7;grind)))
   have hc19:=bp hb19;refine f_ (h:=l_ (h:=?_));refine Ax (AE (NK _ hp) ?_);rintro r rfl;refine B7 (h:=AG (h:=m_ (h:=?_)));refine AU false rfl rfl (fun hb20=>?_) (fun hb20=>?_)
   ·have hc20:=bp hb20;refine A3 (h:=A3 (h:=A3 (h:=A3 (h:=AD (h:=m_ (h:=A3 (h:=A3 (h:=A3 (h:=AD (h:=m_ (h:=A3 (h:=A3 (h:=A3 (h:=AD (h:=e_ (B6 (h:=w_ (a_ (h:=e_ (A4 (AR (A7 (?_)))))))))))))))))))))));refine A8 ?_
    first|(exfalso;first|contradiction|omega)|(exact vi (by first|(unfold BE;grind)|(unfold BE C7;grind)))
   have hc20:=bp hb20;refine f_ (h:=l_ (h:=n_ (h:=Bf (h:=AG (h:=m_ (h:=?_))))));refine AU false rfl rfl (fun hb21=>?_) (fun hb21=>?_)
   ·have hc21:=bp hb21;refine A3 (h:=A3 (h:=A3 (h:=AD (h:=m_ (h:=A3 (h:=A3 (h:=A3 (h:=AD (h:=e_ (B6 (h:=w_ (a_ (h:=e_ (A4 (AR (A7 (?_)))))))))))))))));refine A8 ?_
    first|(exfalso;first|contradiction|omega)|(exact vi (by first|(unfold BE;grind)|(unfold BE C7;grind)))
   have hc21:=bp hb21;refine f_ (h:=l_ (h:=B1 (h:=AG (h:=m_ (h:=?_)))));refine AU false rfl rfl (fun hb22=>?_) (fun hb22=>?_)
   ·have hc22:=bp hb22;refine A3 (h:=A3 (h:=A3 (h:=AD (h:=e_ (B6 (h:=w_ (a_ (h:=e_ (A4 (AR (A7 (?_))))))))))));refine A8 ?_
    first|(exfalso;first|contradiction|omega)|(exact vi (by first|(unfold BE;grind)|(unfold BE C7;grind)))
   have hc22:=bp hb22;refine f_ (h:=l_ (h:=Bf (h:=AG (h:=e_ (?_)))));refine A9 rfl (fun hb23=>?_) (fun hb23=>?_)
   ·have hc23:=bp hb23;refine w_ (a_ (h:=e_ (A4 (AR (A7 (?_))))));refine A8 ?_
    first|(exfalso;first|contradiction|omega)|(exact vi (by first|(unfold BE;grind)|(unfold BE C7;grind)))
   have hc23:=bp hb23;refine Av (Ai (?_));refine AK ?_
   first|(exfalso;first|contradiction|omega)|exact⟨(by unfold C7;grind),Cy 1 0 rfl⟩
  have hc18:=bp hb18;refine AT (AN (h:=a_ (h:=e_ (?_))));refine A9 rfl (fun hb24=>?_) (fun hb24=>?_)
  ·have hc24:=bp hb24;refine w_ (f_ (h:=l_ (h:=Aj (h:=m_ (h:=?_)))));refine AU false rfl rfl (fun hb25=>?_) (fun hb25=>?_)
   ·have hc25:=bp hb25;refine A3 (h:=A3 (h:=A3 (h:=A3 (h:=AD (h:=m_ (h:=A3 (h:=A3 (h:=A3 (h:=A3 (h:=AD (h:=m_ (h:=A3 (h:=A3 (h:=A3 (h:=AD (h:=m_ (h:=A3 (h:=A3 (h:=A3 (h:=AD (h:=e_ (B6 (h:=w_ (?_))))))))))))))))))))))));refine a_ (h:=e_ (A4 (AR (A7 (?_)))));refine A8 ?_
    first|(exfalso;first|contradiction|omega)|(exact vi (by first|(unfold BE;grind)|(unfold BE C7;grind)))
   have hc25:=bp hb25;refine f_ (h:=l_ (h:=?_));refine Ax (AE (NK _ hp) ?_);rintro r rfl;refine B7 (h:=AG (h:=m_ (h:=?_)));refine AU false rfl rfl (fun hb26=>?_) (fun hb26=>?_)
   ·have hc26:=bp hb26;refine A3 (h:=A3 (h:=A3 (h:=A3 (h:=AD (h:=m_ (h:=A3 (h:=A3 (h:=A3 (h:=AD (h:=m_ (h:=A3 (h:=A3 (h:=A3 (h:=AD (h:=e_ (B6 (h:=w_ (a_ (h:=e_ (A4 (AR (A7 (?_)))))))))))))))))))))));refine A8 ?_
    first|(exfalso;first|contradiction|omega)|(exact vi (by first|(unfold BE;grind)|(unfold BE C7;grind)))
   have hc26:=bp hb26;refine f_ (h:=l_ (h:=n_ (h:=Bf (h:=AG (h:=m_ (h:=?_))))));refine AU false rfl rfl (fun hb27=>?_) (fun hb27=>?_)
   ·have hc27:=bp hb27;refine A3 (h:=A3 (h:=A3 (h:=AD (h:=m_ (h:=A3 (h:=A3 (h:=A3 (h:=AD (h:=e_ (B6 (h:=w_ (a_ (h:=e_ (A4 (AR (A7 (?_)))))))))))))))));refine A8 ?_
    first|(exfalso;first|contradiction|omega)|(exact vi (by first|(unfold BE;grind)|(unfold BE C7;grind)))
   have hc27:=bp hb27;refine f_ (h:=l_ (h:=B1 (h:=AG (h:=m_ (h:=?_)))));refine AU false rfl rfl (fun hb28=>?_) (fun hb28=>?_)
   ·have hc28:=bp hb28;refine A3 (h:=A3 (h:=A3 (h:=AD (h:=e_ (B6 (h:=w_ (a_ (h:=e_ (A4 (AR (A7 (?_))))))))))));refine A8 ?_
    first|(exfalso;first|contradiction|omega)|(exact vi (by first|(unfold BE;grind)|(unfold BE C7;grind)))
   have hc28:=bp hb28;refine f_ (h:=l_ (h:=Bf (h:=AG (h:=e_ (?_)))));refine A9 rfl (fun hb29=>?_) (fun hb29=>?_)
   ·have hc29:=bp hb29;refine w_ (a_ (h:=e_ (A4 (AR (A7 (?_))))));refine A8 ?_
    first|(exfalso;first|contradiction|omega)|(exact vi (by first|(unfold BE;grind)|(unfold BE C7;grind)))
   have hc29:=bp hb29;refine Av (Ai (?_));refine AK ?_
   first|(exfalso;first|contradiction|omega)|exact⟨(by unfold C7;grind),Cy 1 0 rfl⟩
  have hc24:=bp hb24;refine w_ (a_ (h:=e_ (A4 (AR (A7 (?_))))));refine A8 ?_
  first|(exfalso;first|contradiction|omega)|(exact vi (by first|(unfold BE;grind)|(unfold BE C7;grind)))
 skip
 refine q_ (w_ (f_ (h:=l_ (h:=n_ (h:=Bf (h:=e_ (?_)))))));refine A9 rfl (fun hb30=>?_) (fun hb30=>?_)
 ·have hc30:=bp hb30;refine w_ (a_ (h:=e_ (A4 (A7 (?_)))));refine A8 ?_
  first|(exfalso;first|contradiction|omega)|(exact vi (by first|(unfold BE;grind)|(unfold BE C7;grind)))
 have hc30:=bp hb30;refine AA (w_ (a_ (h:=e_ (A4 (?_)))));refine A8 ?_
 first|(exfalso;first|contradiction|omega)|(exact vi (by first|(unfold BE;grind)|(unfold BE C7;grind)))
end
deriving instance DecidableEq for Tst
deriving instance DecidableEq for Rul
theorem UJ(a b:ByteArray):(a.toList==b.toList)=decide (a=b):=by
 by_cases h:a=b
 ·simp[h]
 have:a.toList≠b.toList:=fun e=>h (by
  rw[ByteArray.toList_eq,ByteArray.toList_eq]at e;obtain⟨⟨x⟩⟩:=a;obtain⟨⟨y⟩⟩:=b
  simpa using e)
 simp[h,this]
theorem d8(a b:Tst):(a.fld==b.fld&&(a.op==b.op&&(a.num==b.num&&(a.text.toList==b.text.toList&&a.other==b.other))))=decide (a=b):=by
 rw[UJ];obtain⟨a1,a2,a3,a4,a5⟩:=a;obtain⟨b1,b2,b3,b4,b5⟩:=b;by_cases h1:a1=b1<;>by_cases h2:a2=b2<;>by_cases h3:a3=b3<;>by_cases h4:a4=b4<;>by_cases h5:a5=b5<;>simp[h1,h2,h3,h4,h5]
theorem KC{α:Type}[DecidableEq α]{a b:List α}{j:Nat}{x y:α}(hx:a[j]?=some x)(hy:b[j]?=some y):decide (a.drop j=b.drop j)=(decide (x=y)&&decide (a.drop (j+1)=b.drop (j+1))):=by
 obtain⟨h1,e1⟩:=Al.1 hx;obtain⟨h2,e2⟩:=Al.1 hy;rw[List.drop_eq_getElem_cons h1,List.drop_eq_getElem_cons h2,e1,e2];by_cases h:x=y<;>simp[h]
theorem UK{α:Type}[DecidableEq α]{a b:List α}(h:a.length≠b.length):decide (a=b)=false:=by
 simp only[decide_eq_false_iff_not];intro e;exact h (by rw[e])
section
theorem UL(a b:Tst)(w:World):(binOp .neq 115 (.agg #[.int .i64 a.fld, .int .i64 a.op, .int .i64 a.num, .string a.text, .int .i64 a.other]) (.agg #[.int .i64 b.fld, .int .i64 b.op, .int .i64 b.num, .string b.text, .int .i64 b.other])).run prog w= .ok (.bool (!decide (a=b))) w:=by
 have u3:=Tryz.underlying3;have a3:=Tryz.isAgg3;have z3:=Tryz.sizeOf3;have u9:=Tryz.underlying9;have a9:=Tryz.isAgg9;have z9:=Tryz.sizeOf9;have hS:prog.underlying 115=some (.struct (prog.fieldsOf 115)):=by kernel_rfl
 have hp:prog.stoodInHeld 115=false:=by kernel_rfl
 rw[run_neq_struct,show(10000:Nat)=9999+1 from rfl,run_equalIn_agg w 9999 115 _ _ hS hp];simp only[Program.fieldsOf,Tryz.underlying115]
 go_simp
 rw[←d8];by_cases h1:a.fld=b.fld<;>by_cases h2:a.op=b.op<;>by_cases h3:a.num=b.num<;>by_cases h4:a.text.toList=b.text.toList<;>by_cases h5:a.other=b.other<;>simp[h1,h2,h3,h4,h5]
theorem d9(a b:List Tst)(ha:a.length≤1000):AFn prog 218 [.sl 5 (a.map CM) none, .sl 5 (b.map CM) none] (fun x=>x= .v (.bool (decide (a=b)))):=by
 refine enter Tryz.func218 rfl rfl rfl rfl rfl 0 rfl ?_;refine w_ (a_ (h:=e_ (q_ (w_ (m_ (h:=n_ (h:=m_ (h:=n_ (h:=Aj (h:=e_ (?_)))))))))));refine A9 rfl (fun hb1=>?_) (fun hb1=>?_)
 ·have hc1:=bp hb1;refine w_ (a_ (h:=e_ (A4 (A7 (?_)))));refine A8 ?_
  first|(exfalso;first|contradiction|omega)|(exact vb (by rw[UK (by simp at hc1;omega)]))
 have hc1:=bp hb1;have hl:a.length=b.length:=by simp at hc1;omega
 refine AA (q_ (w_ (m_ (h:=n_ (h:=m_ (h:=e_ (Af (?_))))))));refine BW (fun n s=>∃j:Nat,j≤a.length∧n=a.length - j∧decide (a.drop j=b.drop j)=decide (a=b)∧s=⟨look [(0, .sl 5 (a.map CM) none),(1, .sl 5 (b.map CM) none),(12, .v (.int .i64 ((a.map CM).length:Int))),(13, .v (.int .i64 (j:Int)))],⟨[],[]⟩⟩) (a.length) ((wk 0 0)) (⟨0,by omega,rfl,rfl,rfl⟩) ?_;rintro n s ⟨j,hj,rfl,hd,rfl⟩;refine w_ (B1 (h:=e_ (q_ (?_))));refine A9 rfl (fun hb2=>?_) (fun hb2=>?_)
 ·have hc2:=bp hb2;obtain⟨hlt,x,hx,hrow, -⟩:=Br CM hc2;obtain⟨hlt2,y,hy,hrow2, -⟩:=Br CM (l:=b) (k:=j) (by simpa[hl]using hc2);refine AA (q_ (Af (w_ (m_ (h:=a_ (h:=e_ (q_ (DE 9 (h:=Ap 0 (h:=Ap 1 (h:=Dj 2 (h:=AY 3 (h:=Ap 4 (h:=Ap 5 (h:=Dj 6 (h:=AY 7 (h:=?_)))))))))))))))));refine EV (i:=8) rfl (Ed rfl rfl (by repeat constructor) (by repeat constructor) (fun w=>UL x y w) (by kernel_rfl) ⟨rfl,rfl⟩) ?_;refine z_ (h:=t_ (?_));refine A9 rfl (fun hb3=>?_) (fun hb3=>?_)
  ·have hc3:=bp hb3;refine w_ (a_ (h:=e_ (A4 (AR (A7 (A7 (AR (A7 (?_)))))))));refine A8 ?_
   first|(exfalso;first|contradiction|omega)|(exact vb (by rw[←hd,KC hx hy];simp[hc3]))
  have hc3:=bp hb3;refine Av (Ai (t_ (AT (B5 (h:=m_ (h:=AP (?_)))))));refine AK ?_;refine⟨_,_,?_,⟨j+1,by omega,rfl,(by rw[←hd,KC hx hy,hc3];simp),rfl⟩,(wk 0 0)⟩;omega
 have hc2:=bp hb2;have e:=C5 CM hj hc2;subst e;refine BH (Ah (Ah (BJ (t_ (w_ (a_ (h:=e_ (A4 (?_)))))))));refine A8 ?_
 first|(exfalso;first|contradiction|omega)|(exact vb (by rw[←hd,List.drop_length,hl,List.drop_length];rfl))
theorem UM(a:List Tst)(ha:a.length≤1000):AFn prog 129 [.sl 5 (a.map CM) none] (fun x=>x= .sl 5 (a.map CM) none):=by
 refine enter Tryz.func129 rfl rfl rfl rfl rfl 0 rfl ?_;refine w_ (a_ (h:=e_ (q_ (w_ (m_ (h:=?_))))));refine A6 rfl (Vd rfl rfl ?_);intro b hb;refine e_ (?_);refine A9 rfl (fun hb1=>?_) (fun hb1=>?_)
 ·have hc1:=bp hb1;refine w_ (a_ (h:=e_ (A4 (A7 (?_)))));refine MF (xs:=[.v (.slice none 0 0)]) (r:= .sl 5 [] none) none (by repeat (first|exact ResA.nil|(apply ResA.tmp;(focus exact rfl))|(apply ResA.cellN;(focus exact inferInstance);(focus exact rfl);(focus exact rfl);(focus exact rfl))|(apply ResA.cell1;(focus exact inferInstance);(focus exact rfl);(focus exact rfl);(focus exact rfl)))) rfl rfl rfl (LeA.nil _) ⟨rfl,rfl,?_⟩;rw[hb hc1]
 have hc1:=bp hb1;refine AA (w_ (?_));refine A6 rfl (Vf (by repeat constructor) ?_);refine m_ (h:=D3 (h:=a_ (h:=e_ (A4 (?_)))));refine A8 ?_;rfl
theorem dA(a b:Rul):a=b↔a.list=b.list∧a.action=b.action∧a.calls=b.calls∧a.tests=b.tests∧a.watch=b.watch∧a.path=b.path∧a.perm=b.perm∧a.key=b.key:=by
 cases a;cases b;simp
theorem GK(a b:Rul):decide (a=b)=decide (a.list=b.list∧a.action=b.action∧a.calls=b.calls∧a.tests=b.tests∧a.watch=b.watch∧a.path=b.path∧a.perm=b.perm∧a.key=b.key):=decide_eq_decide.2 (dA a b)
theorem dB(a b:Rul)(ha:a.tests.length≤1000):AFn prog 158 [.agg (AO a), .agg (AO b)] (fun x=>x= .v (.bool (decide (a=b)))):=by
 refine enter Tryz.func158 rfl rfl rfl rfl rfl 0 rfl ?_;refine w_ (b_ (h:=b_ (h:=a_ (h:=e_ (w_ (f_ (h:=l_ (h:=f_ (h:=l_ (h:=AN (h:=m_ (h:=?_))))))))))));refine AU true rfl rfl (fun hb1=>?_) (fun hb1=>?_)
 ·have hc1:=bp hb1;refine f_ (h:=l_ (h:=f_ (h:=l_ (h:=AN (h:=AD (h:=m_ (h:=?_)))))));refine AU true rfl rfl (fun hb2=>?_) (fun hb2=>?_)
  ·have hc2:=bp hb2;refine f_ (h:=l_ (h:=f_ (h:=l_ (h:=AN (h:=AD (h:=m_ (h:=?_)))))));refine AU true rfl rfl (fun hb3=>?_) (fun hb3=>?_)
   ·have hc3:=bp hb3;refine f_ (h:=l_ (h:=f_ (h:=l_ (h:=?_))));refine Ax (AE (d9 a.tests b.tests ha) ?_);rintro r rfl;refine AD (h:=m_ (h:=?_));refine AU true rfl rfl (fun hb4=>?_) (fun hb4=>?_)
    ·have hc4:=bp hb4;refine f_ (h:=l_ (h:=f_ (h:=l_ (h:=AN (h:=AD (h:=m_ (h:=?_)))))));refine AU true rfl rfl (fun hb5=>?_) (fun hb5=>?_)
     ·have hc5:=bp hb5;refine f_ (h:=l_ (h:=f_ (h:=l_ (h:=AN (h:=AD (h:=m_ (h:=?_)))))));refine AU true rfl rfl (fun hb6=>?_) (fun hb6=>?_)
      ·have hc6:=bp hb6;refine f_ (h:=l_ (h:=f_ (h:=l_ (h:=AN (h:=AD (h:=m_ (h:=?_)))))));refine AU true rfl rfl (fun hb7=>?_) (fun hb7=>?_)
       ·have hc7:=bp hb7;refine f_ (h:=l_ (h:=f_ (h:=l_ (h:=AN (h:=AD (h:=a_ (h:=e_ (A4 (?_)))))))));refine A8 ?_
        first|(exfalso;first|contradiction|omega)|(exact vb (by rw[GK];simp[*]))
       have hc7:=bp hb7;refine A3 (h:=A3 (h:=A3 (h:=A3 (h:=A3 (h:=AG (h:=a_ (h:=e_ (A4 (?_)))))))));refine A8 ?_
       first|(exfalso;first|contradiction|omega)|(exact vb (by rw[GK];simp[*]))
      have hc6:=bp hb6;refine A3 (h:=A3 (h:=A3 (h:=A3 (h:=A3 (h:=AG (h:=m_ (h:=A3 (h:=A3 (h:=A3 (h:=A3 (h:=A3 (h:=AG (h:=a_ (h:=e_ (A4 (?_))))))))))))))));refine A8 ?_
      first|(exfalso;first|contradiction|omega)|(exact vb (by rw[GK];simp[*]))
     have hc5:=bp hb5;refine A3 (h:=A3 (h:=A3 (h:=A3 (h:=A3 (h:=AG (h:=m_ (h:=A3 (h:=A3 (h:=A3 (h:=A3 (h:=A3 (h:=AG (h:=m_ (h:=A3 (h:=A3 (h:=A3 (h:=A3 (h:=A3 (h:=AG (h:=a_ (h:=e_ (A4 (?_)))))))))))))))))))))));refine A8 ?_
     first|(exfalso;first|contradiction|omega)|(exact vb (by rw[GK];simp[*]))
    have hc4:=bp hb4;refine A3 (h:=A3 (h:=A3 (h:=A3 (h:=A3 (h:=AG (h:=m_ (h:=A3 (h:=A3 (h:=A3 (h:=A3 (h:=A3 (h:=AG (h:=m_ (h:=A3 (h:=A3 (h:=A3 (h:=A3 (h:=A3 (h:=AG (h:=m_ (h:=A3 (h:=A3 (h:=A3 (h:=?_))))))))))))))))))))))));refine A3 (h:=A3 (h:=AG (h:=a_ (h:=e_ (A4 (?_))))));refine A8 ?_
    first|(exfalso;first|contradiction|omega)|(exact vb (by rw[GK];simp[*]))
   have hc3:=bp hb3;refine A3 (h:=A3 (h:=A3 (h:=A3 (h:=A3 (h:=AG (h:=m_ (h:=A3 (h:=A3 (h:=A3 (h:=A3 (h:=A3 (h:=AG (h:=m_ (h:=A3 (h:=A3 (h:=A3 (h:=A3 (h:=A3 (h:=AG (h:=m_ (h:=A3 (h:=A3 (h:=A3 (h:=?_))))))))))))))))))))))));refine A3 (h:=A3 (h:=AG (h:=m_ (h:=A3 (h:=A3 (h:=A3 (h:=A3 (h:=A3 (h:=AG (h:=a_ (h:=e_ (A4 (?_)))))))))))));refine A8 ?_
   first|(exfalso;first|contradiction|omega)|(exact vb (by rw[GK];simp[*]))
  have hc2:=bp hb2;refine A3 (h:=A3 (h:=A3 (h:=A3 (h:=A3 (h:=AG (h:=m_ (h:=A3 (h:=A3 (h:=A3 (h:=A3 (h:=A3 (h:=AG (h:=m_ (h:=A3 (h:=A3 (h:=A3 (h:=A3 (h:=A3 (h:=AG (h:=m_ (h:=A3 (h:=A3 (h:=A3 (h:=?_))))))))))))))))))))))));refine A3 (h:=A3 (h:=AG (h:=m_ (h:=A3 (h:=A3 (h:=A3 (h:=A3 (h:=A3 (h:=AG (h:=m_ (h:=A3 (h:=A3 (h:=A3 (h:=A3 (h:=A3 (h:=AG (h:=a_ (h:=e_ (A4 (?_))))))))))))))))))));refine A8 ?_
  first|(exfalso;first|contradiction|omega)|(exact vb (by rw[GK];simp[*]))
 have hc1:=bp hb1;refine A3 (h:=A3 (h:=A3 (h:=A3 (h:=A3 (h:=AG (h:=m_ (h:=A3 (h:=A3 (h:=A3 (h:=A3 (h:=A3 (h:=AG (h:=m_ (h:=A3 (h:=A3 (h:=A3 (h:=A3 (h:=A3 (h:=AG (h:=m_ (h:=A3 (h:=A3 (h:=A3 (h:=?_))))))))))))))))))))))));refine A3 (h:=A3 (h:=AG (h:=m_ (h:=A3 (h:=A3 (h:=A3 (h:=A3 (h:=A3 (h:=AG (h:=m_ (h:=A3 (h:=A3 (h:=A3 (h:=A3 (h:=A3 (h:=AG (h:=m_ (h:=A3 (h:=A3 (h:=A3 (h:=A3 (h:=A3 (h:=AG (h:=?_))))))))))))))))))))))));refine a_ (h:=e_ (A4 (?_)));refine A8 ?_
 first|(exfalso;first|contradiction|omega)|(exact vb (by rw[GK];simp[*]))
theorem UN(a b:Rul)(ha:a.tests.length≤1000):AFn prog 104 [.agg (AO a), .agg (AO b)] (fun x=>x= .v (.bool (decide (a=b)))):=by
 refine enter Tryz.func104 rfl rfl rfl rfl rfl 0 rfl ?_;refine w_ (b_ (h:=b_ (h:=a_ (h:=e_ (q_ (?_))))));refine EU (⟨look [(2, .bp 0 0),(3, .bp 1 0),(61, .v (.bool (!decide (a.list=b.list∧a.action=b.action∧a.calls=b.calls∧a.watch=b.watch∧a.path=b.path∧a.perm=b.perm∧a.key=b.key∧(a.tests.length:Int)=(b.tests.length:Int)))))],⟨[AO a,AO b],[]⟩⟩) ?_ ?_
 ·skip
  refine AT (f_ (h:=l_ (h:=f_ (h:=l_ (h:=Aj (h:=m_ (h:=?_)))))));refine AU false rfl rfl (fun hb1=>?_) (fun hb1=>?_)
  ·have hc1:=bp hb1;refine A3 (h:=A3 (h:=A3 (h:=A3 (h:=A3 (h:=AD (h:=m_ (h:=A3 (h:=A3 (h:=A3 (h:=A3 (h:=A3 (h:=AD (h:=m_ (h:=A3 (h:=A3 (h:=A3 (h:=A3 (h:=A3 (h:=AD (h:=m_ (h:=A3 (h:=A3 (h:=A3 (h:=?_))))))))))))))))))))))));refine A3 (h:=A3 (h:=AD (h:=m_ (h:=A3 (h:=A3 (h:=A3 (h:=A3 (h:=A3 (h:=AD (h:=m_ (h:=A3 (h:=A3 (h:=A3 (h:=A3 (h:=A3 (h:=AD (h:=m_ (h:=A3 (h:=A3 (h:=A3 (h:=A3 (h:=A3 (h:=A3 (h:=?_))))))))))))))))))))))));refine A3 (h:=AD (h:=AP (?_)));refine AK ?_
   first|(exfalso;first|contradiction|omega)|exact Cy 2 0 rfl
  have hc1:=bp hb1;refine f_ (h:=l_ (h:=f_ (h:=l_ (h:=Aj (h:=AG (h:=m_ (h:=?_)))))));refine AU false rfl rfl (fun hb2=>?_) (fun hb2=>?_)
  ·have hc2:=bp hb2;refine A3 (h:=A3 (h:=A3 (h:=A3 (h:=A3 (h:=AD (h:=m_ (h:=A3 (h:=A3 (h:=A3 (h:=A3 (h:=A3 (h:=AD (h:=m_ (h:=A3 (h:=A3 (h:=A3 (h:=A3 (h:=A3 (h:=AD (h:=m_ (h:=A3 (h:=A3 (h:=A3 (h:=?_))))))))))))))))))))))));refine A3 (h:=A3 (h:=AD (h:=m_ (h:=A3 (h:=A3 (h:=A3 (h:=A3 (h:=A3 (h:=AD (h:=m_ (h:=A3 (h:=A3 (h:=A3 (h:=A3 (h:=A3 (h:=A3 (h:=A3 (h:=AD (h:=AP (?_))))))))))))))))))));refine AK ?_
   first|(exfalso;first|contradiction|omega)|exact Cy 2 0 rfl
  have hc2:=bp hb2;refine f_ (h:=l_ (h:=f_ (h:=l_ (h:=Aj (h:=AG (h:=m_ (h:=?_)))))));refine AU false rfl rfl (fun hb3=>?_) (fun hb3=>?_)
  ·have hc3:=bp hb3;refine A3 (h:=A3 (h:=A3 (h:=A3 (h:=A3 (h:=AD (h:=m_ (h:=A3 (h:=A3 (h:=A3 (h:=A3 (h:=A3 (h:=AD (h:=m_ (h:=A3 (h:=A3 (h:=A3 (h:=A3 (h:=A3 (h:=AD (h:=m_ (h:=A3 (h:=A3 (h:=A3 (h:=?_))))))))))))))))))))))));refine A3 (h:=A3 (h:=AD (h:=m_ (h:=A3 (h:=A3 (h:=A3 (h:=A3 (h:=A3 (h:=A3 (h:=A3 (h:=AD (h:=AP (?_)))))))))))));refine AK ?_
   first|(exfalso;first|contradiction|omega)|exact Cy 2 0 rfl
  have hc3:=bp hb3;refine f_ (h:=l_ (h:=f_ (h:=l_ (h:=Aj (h:=AG (h:=m_ (h:=?_)))))));refine AU false rfl rfl (fun hb4=>?_) (fun hb4=>?_)
  ·have hc4:=bp hb4;refine A3 (h:=A3 (h:=A3 (h:=A3 (h:=A3 (h:=AD (h:=m_ (h:=A3 (h:=A3 (h:=A3 (h:=A3 (h:=A3 (h:=AD (h:=m_ (h:=A3 (h:=A3 (h:=A3 (h:=A3 (h:=A3 (h:=AD (h:=m_ (h:=A3 (h:=A3 (h:=A3 (h:=?_))))))))))))))))))))))));refine A3 (h:=A3 (h:=A3 (h:=A3 (h:=AD (h:=AP (?_))))));refine AK ?_
   first|(exfalso;first|contradiction|omega)|exact Cy 2 0 rfl
  have hc4:=bp hb4;refine f_ (h:=l_ (h:=f_ (h:=l_ (h:=Aj (h:=AG (h:=m_ (h:=?_)))))));refine AU false rfl rfl (fun hb5=>?_) (fun hb5=>?_)
  ·have hc5:=bp hb5;refine A3 (h:=A3 (h:=A3 (h:=A3 (h:=A3 (h:=AD (h:=m_ (h:=A3 (h:=A3 (h:=A3 (h:=A3 (h:=A3 (h:=AD (h:=m_ (h:=A3 (h:=A3 (h:=A3 (h:=A3 (h:=A3 (h:=A3 (h:=A3 (h:=AD (h:=AP (?_)))))))))))))))))))))));refine AK ?_
   first|(exfalso;first|contradiction|omega)|exact Cy 2 0 rfl
  have hc5:=bp hb5;refine f_ (h:=l_ (h:=f_ (h:=l_ (h:=Aj (h:=AG (h:=m_ (h:=?_)))))));refine AU false rfl rfl (fun hb6=>?_) (fun hb6=>?_)
  ·have hc6:=bp hb6;refine A3 (h:=A3 (h:=A3 (h:=A3 (h:=A3 (h:=AD (h:=m_ (h:=A3 (h:=A3 (h:=A3 (h:=A3 (h:=A3 (h:=A3 (h:=A3 (h:=AD (h:=AP (?_))))))))))))))));refine AK ?_
   first|(exfalso;first|contradiction|omega)|exact Cy 2 0 rfl
  have hc6:=bp hb6;refine f_ (h:=l_ (h:=f_ (h:=l_ (h:=Aj (h:=AG (h:=m_ (h:=?_)))))));refine AU false rfl rfl (fun hb7=>?_) (fun hb7=>?_)
  ·have hc7:=bp hb7;refine A3 (h:=A3 (h:=A3 (h:=A3 (h:=A3 (h:=A3 (h:=A3 (h:=AD (h:=AP (?_)))))))));refine AK ?_
   first|(exfalso;first|contradiction|omega)|exact Cy 2 0 rfl
  have hc7:=bp hb7;refine f_ (h:=l_ (h:=n_ (h:=f_ (h:=l_ (h:=n_ (h:=Aj (h:=AG (h:=AP (?_)))))))));refine AK ?_
  first|(exfalso;first|contradiction|omega)|exact Cy 2 0 rfl
 skip
 refine A9 rfl (fun hb8=>?_) (fun hb8=>?_)
 ·have hc8:=bp hb8;have hne:a≠b:=by rintro rfl;simp at hc8
  refine w_ (a_ (h:=e_ (A4 (A7 (?_)))));refine A8 ?_
  first|(exfalso;first|contradiction|omega)|(exact vb (by simp[hne]))
 have hc8:=bp hb8;have hq:a.list=b.list∧a.action=b.action∧a.calls=b.calls∧a.watch=b.watch∧a.path=b.path∧a.perm=b.perm∧a.key=b.key∧(a.tests.length:Int)=(b.tests.length:Int):=by simpa using hc8
 obtain⟨q1,q2,q3,q4,q5,q6,q7,q8⟩:=hq;have hl:a.tests.length=b.tests.length:=by omega
 refine AA (q_ (w_ (a_ (h:=e_ (Af (?_))))));refine BW (fun n s=>∃j:Nat,j≤a.tests.length∧n=a.tests.length - j∧decide (a.tests.drop j=b.tests.drop j)=decide (a.tests=b.tests)∧s=⟨look [(2, .bp 0 0),(3, .bp 1 0),(5, .v (.int .i64 (j:Int)))],⟨[AO a,AO b],[]⟩⟩) (a.tests.length) ((wk 2 0)) (⟨0,by omega,rfl,rfl,rfl⟩) ?_;rintro n s ⟨j,hj,rfl,hd,rfl⟩;refine q_ (w_ (m_ (h:=f_ (h:=l_ (h:=n_ (h:=B1 (h:=e_ (?_))))))));refine A9 rfl (fun hb9=>?_) (fun hb9=>?_)
 ·have hc9:=bp hb9;obtain⟨hlt,x,hx,hrow, -⟩:=Br CM hc9;obtain⟨hlt2,y,hy,hrow2, -⟩:=Br CM (l:=b.tests) (k:=j) (by simpa[hl]using hc9);refine AA (q_ (Af (q_ (DE 11 (h:=Az 0 (h:=AY 1 (h:=Ap 2 (h:=Dj 3 (h:=AY 4 (h:=Az 5 (h:=AY 6 (h:=Ap 7 (h:=Dj 8 (h:=AY 9 (h:=?_)))))))))))))));refine EV (i:=10) rfl (Ed rfl rfl (by repeat constructor) (by repeat constructor) (fun w=>UL x y w) (by kernel_rfl) ⟨rfl,rfl⟩) ?_;refine z_ (h:=t_ (?_));refine A9 rfl (fun hb10=>?_) (fun hb10=>?_)
  ·have hc10:=bp hb10;have ht:decide (a.tests=b.tests)=false:=by rw[←hd,KC hx hy];simp[hc10]
   refine w_ (a_ (h:=e_ (A4 (AR (A7 (A7 (AR (A7 (?_)))))))));refine A8 ?_
   first|(exfalso;first|contradiction|omega)|(exact vb (by rw[GK];simp at ht;simp[ht]))
  have hc10:=bp hb10;refine Av (Ai (t_ (AT (m_ (h:=B5 (h:=a_ (h:=AP (?_))))))));refine AK ?_;refine⟨_,_,?_,⟨j+1,by omega,rfl,(by rw[←hd,KC hx hy,hc10];simp),rfl⟩,(wk 2 0)⟩;omega
 have hc9:=bp hb9;have e:=C5 CM hj hc9;subst e;have ht:decide (a.tests=b.tests)=true:=by rw[←hd,List.drop_length,hl,List.drop_length];rfl
 refine BH (Ah (Ah (BJ (t_ (w_ (a_ (h:=e_ (A4 (?_)))))))));refine A8 ?_
 first|(exfalso;first|contradiction|omega)|(exact vb (by rw[GK];simp at ht;simp[*]))
def CL(l:List Rul)(r:Rul):Int:=Ck (fun _ x=>decide (x=r)) l 0
theorem dC(i:Nat)(x r:Rul)(hx:x.tests.length≤1000):AFn prog 157 [.v (.int .i64 (i:Int)), .agg (AO x), .fp (AO r)] (fun y=>y= .v (.bool (decide (x=r)))):=by
 refine enter Tryz.func157 rfl rfl rfl rfl rfl 0 rfl ?_;refine w_ (b_ (h:=a_ (h:=e_ (w_ (l_ (h:=l_ (h:=?_)))))));refine A6 rfl (AE (dB x r hx) ?_);rintro r rfl;refine a_ (h:=e_ (A4 (?_)));refine A8 ?_;rfl
theorem Lc(l:List Rul)(r:Rul)(hl:l.length≤1000)(ht:∀r∈l,r.tests.length≤1000):AFn prog 107 [.sl 8 (l.map AO) none, .agg (AO r)] (fun x=>x= .v (.int .i64 (CL l r))):=by
 refine enter Tryz.func107 rfl rfl rfl rfl rfl 0 rfl ?_;refine w_ (b_ (h:=a_ (h:=e_ (w_ (m_ (h:=OS (h:=?_)))))));refine A6 rfl (OH rfl (by repeat (first|exact ArgsL.nil|refine ArgsL.cons _ _ _ _ _ rfl rfl ?_)) (Rs l hl (fun _ x=>decide (x=r)) 157 [.fp (AO r)] rfl rfl fun i x hi=>dC i x r (ht x (Ar hi))) ?_);rintro x rfl;refine⟨rfl,?_⟩;refine a_ (h:=e_ (A4 (?_)));refine A8 ?_;rfl
theorem Ld(l:List Rul)(r:Rul)(hl:l.length≤1000)(ht:∀r∈l,r.tests.length≤1000):AFn prog 109 [.sl 8 (l.map AO) none, .agg (AO r)] (fun x=>x= .v (.int .i64 (CL l r))):=by
 refine enter Tryz.func109 rfl rfl rfl rfl rfl 0 rfl ?_;refine w_ (b_ (h:=a_ (h:=e_ (q_ (w_ (a_ (h:=e_ (Af (?_)))))))));refine BW (fun n s=>∃j:Nat,j≤l.length∧n=l.length - j∧Ck (fun _ x=>decide (x=r)) (l.drop j) j=CL l r∧s=⟨look [(0, .sl 8 (l.map AO) none),(3, .bp 0 0),(5, .v (.int .i64 (j:Int)))],⟨[AO r],[]⟩⟩) (l.length) ((wk 1 0)) (⟨0,by omega,rfl,rfl,rfl⟩) ?_;rintro n s ⟨j,hj,rfl,ha,rfl⟩;refine q_ (w_ (m_ (h:=m_ (h:=n_ (h:=B1 (h:=e_ (?_)))))));refine A9 rfl (fun hb1=>?_) (fun hb1=>?_)
 ·have hc1:=bp hb1;obtain⟨hlt,x,hy,hrow, -⟩:=Br AO hc1;refine AA (q_ (Af (q_ (DE 6 (h:=Ap 0 (h:=Ap 1 (h:=Dj 2 (h:=AY 3 (h:=AY 4 (h:=?_))))))))));refine c_ 5 rfl (AE (UN x r (ht x (Ar hy))) ?_);rintro r rfl;refine o_ (h:=z_ (h:=t_ (?_)));refine A9 rfl (fun hb2=>?_) (fun hb2=>?_)
  ·have hc2:=bp hb2;refine w_ (m_ (h:=a_ (h:=e_ (A4 (AR (A7 (A7 (AR (A7 (?_))))))))));refine A8 ?_
   first|(exfalso;first|contradiction|omega)|(exact vi (by rw[←ha,Jg hy];simp[hc2]))
  have hc2:=bp hb2;refine Av (Ai (t_ (AT (m_ (h:=B5 (h:=a_ (h:=AP (?_))))))));refine AK ?_;refine⟨_,_,?_,⟨j+1,by omega,rfl,(by rw[←ha,Jg hy];simp[hc2]),rfl⟩,(wk 1 0)⟩;omega
 have hc1:=bp hb1;have e:=C5 AO hj hc1;subst e;refine BH (Ah (Ah (BJ (t_ (w_ (a_ (h:=e_ (A4 (?_)))))))));refine A8 ?_
 first|(exfalso;first|contradiction|omega)|(exact vi (by rw[←ha,Of]))
def Ep(pre:List Rul):List Rul→Int
 |[]=>0
 |r::rs=>if BE r≠0 then BE r else if 0≤CL pre r then 141 else Ep (pre++[r]) rs
theorem KD{l:List Rul}{j:Nat}{r:Rul}(h:l[j]?=some r):Ep (l.take j) (l.drop j)=if BE r≠0 then BE r else if 0≤CL (l.take j) r then 141 else Ep (l.take (j+1)) (l.drop (j+1)):=by
 obtain⟨hk,e⟩:=Al.1 h;rw[List.drop_eq_getElem_cons hk,Ep,e,List.take_succ_eq_append_getElem hk,e]
def Cf(l:List Rul):Int:=if 24<(l.length:Int)then 140 else Ep [] l
theorem Le(l:List Rul)(hl:l.length≤1000)(hi:∀r∈l,CN r):AFn prog 85 [.sl 8 (l.map AO) none] (fun x=>x= .v (.int .i64 (Cf l))):=by
 have hfind:∀j r,AFn prog 107 [.sl 8 ((l.map AO).take j) none, .agg (AO r)] (fun x=>x= .v (.int .i64 (CL (l.take j) r))):=fun j r=>by
  rw[←List.map_take];exact Lc (l.take j) r (by simp;omega) fun x hx=>(hi x (List.mem_of_mem_take hx)).2.2.2
 refine enter Tryz.func85 rfl rfl rfl rfl rfl 0 rfl ?_;refine w_ (a_ (h:=e_ (q_ (w_ (m_ (h:=n_ (h:=Bf (h:=e_ (?_)))))))));refine A9 rfl (fun hb1=>?_) (fun hb1=>?_)
 ·have hc1:=bp hb1;rw[List.length_map]at hc1;refine w_ (a_ (h:=e_ (A4 (A7 (?_)))));refine A8 ?_
  first|(exfalso;first|contradiction|omega)|(exact vi (by rw[Cf,if_pos hc1]))
 have hc1:=bp hb1;rw[List.length_map]at hc1;refine AA (q_ (w_ (m_ (h:=n_ (h:=m_ (h:=e_ (Af (?_))))))));refine BW (fun n s=>∃j:Nat,j≤l.length∧n=l.length - j∧Ep (l.take j) (l.drop j)=Ep [] l∧s=⟨look [(0, .sl 8 (l.map AO) none),(9, .sl 8 (l.map AO) none),(10, .v (.int .i64 ((l.map AO).length:Int))),(11, .v (.int .i64 (j:Int)))],⟨[],[]⟩⟩) (l.length) ((wk 0 0)) (⟨0,by omega,rfl,rfl,rfl⟩) ?_;rintro n s ⟨j,hj,rfl,ha,rfl⟩;refine w_ (B1 (h:=e_ (q_ (?_))));refine A9 rfl (fun hb2=>?_) (fun hb2=>?_)
 ·have hc2:=bp hb2;obtain⟨hlt,r,hy,hrow, -⟩:=Br AO hc2;refine AA (q_ (Af (w_ (m_ (h:=i_ (h:=l_ (h:=Aa (h:=a_ (h:=s_ (h:=e_ (q_ (w_ (l_ (h:=?_))))))))))))));refine A6 rfl (AE (QF r (hi r (Ar hy))) ?_);rintro r rfl;refine a_ (h:=e_ (w_ (m_ (h:=Aj (h:=e_ (?_))))));refine A9 rfl (fun hb3=>?_) (fun hb3=>?_)
  ·have hc3:=bp hb3;refine w_ (m_ (h:=a_ (h:=e_ (A4 (A7 (AR (A7 (A7 (AR (A7 (?_)))))))))));refine A8 ?_
   first|(exfalso;first|contradiction|omega)|(exact vi (by rw[Cf,if_neg hc1,←ha,KD hy,if_pos hc3]))
  have hc3:=bp hb3;refine AA (q_ (DE 6 (h:=Ap 0 (h:=Ap 1 (h:=?_)))));refine EV (i:=2) rfl (MC (k:=j) rfl rfl rfl (by simp;omega) ⟨rfl,rfl⟩) ?_;refine AY 3 (h:=?_);refine c_ 4 rfl (AE (hfind j r) ?_);rintro r rfl;refine o_ (h:=RM 5 (h:=z_ (h:=t_ (?_))));refine A9 rfl (fun hb4=>?_) (fun hb4=>?_)
  ·have hc4:=bp hb4;refine w_ (a_ (h:=e_ (A4 (AR (A7 (A7 (AR (A7 (?_)))))))));refine A8 ?_
   first|(exfalso;first|contradiction|omega)|(exact vi (by rw[Cf,if_neg hc1,←ha,KD hy,if_neg (by omega),if_pos hc4]))
  have hc4:=bp hb4;refine Av (Ai (t_ (AT (B5 (h:=m_ (h:=AP (?_)))))));refine AK ?_;refine⟨_,_,?_,⟨j+1,by omega,rfl,(by rw[←ha,KD hy,if_neg (by omega),if_neg hc4]),rfl⟩,(wk 0 0)⟩;omega
 have hc2:=bp hb2;have e:=C5 AO hj hc2;subst e;refine BH (Ah (Ah (BJ (t_ (w_ (a_ (h:=e_ (A4 (?_)))))))));refine A8 ?_
 first|(exfalso;first|contradiction|omega)|(exact vi (by rw[Cf,if_neg hc1,←ha];simp[Ep]))
end
section
theorem QG(l:List Rul)(hl:l.length≤1000)(hi:∀r∈l,CN r):AFn prog 88 [.sl 8 (l.map AO) none] (fun x=>x= .v (.int .i64 (Cf l))):=by
 have hfind:∀j r,AFn prog 109 [.sl 8 ((l.map AO).take j) none, .agg (AO r)] (fun x=>x= .v (.int .i64 (CL (l.take j) r))):=fun j r=>by
  rw[←List.map_take];exact Ld (l.take j) r (by simp;omega) fun x hx=>(hi x (List.mem_of_mem_take hx)).2.2.2
 refine enter Tryz.func88 rfl rfl rfl rfl rfl 0 rfl ?_;refine w_ (a_ (h:=e_ (q_ (w_ (m_ (h:=n_ (h:=Bf (h:=e_ (?_)))))))));refine A9 rfl (fun hb1=>?_) (fun hb1=>?_)
 ·have hc1:=bp hb1;rw[List.length_map]at hc1;refine w_ (a_ (h:=e_ (A4 (A7 (?_)))));refine A8 ?_
  first|(exfalso;first|contradiction|omega)|(exact vi (by rw[Cf,if_pos hc1]))
 have hc1:=bp hb1;rw[List.length_map]at hc1;refine AA (q_ (w_ (a_ (h:=e_ (Af (?_))))));refine BW (fun n s=>∃j:Nat,j≤l.length∧n=l.length - j∧Ep (l.take j) (l.drop j)=Ep [] l∧s=⟨look [(0, .sl 8 (l.map AO) none),(3, .v (.int .i64 (j:Int)))],⟨[],[]⟩⟩) (l.length) ((wk 0 0)) (⟨0,by omega,rfl,rfl,rfl⟩) ?_;rintro n s ⟨j,hj,rfl,ha,rfl⟩;refine q_ (w_ (m_ (h:=m_ (h:=n_ (h:=B1 (h:=e_ (?_)))))));refine A9 rfl (fun hb2=>?_) (fun hb2=>?_)
 ·have hc2:=bp hb2;obtain⟨hlt,r,hy,hrow, -⟩:=Br AO hc2;refine AA (q_ (Af (q_ (w_ (m_ (h:=m_ (h:=i_ (h:=l_ (h:=?_)))))))));refine A6 rfl (AE (Nd r (hi r (Ar hy))) ?_);rintro r rfl;refine a_ (h:=e_ (w_ (m_ (h:=Aj (h:=e_ (?_))))));refine A9 rfl (fun hb3=>?_) (fun hb3=>?_)
  ·have hc3:=bp hb3;refine w_ (m_ (h:=a_ (h:=e_ (A4 (A7 (AR (A7 (A7 (AR (A7 (?_)))))))))));refine A8 ?_
   first|(exfalso;first|contradiction|omega)|(exact vi (by rw[Cf,if_neg hc1,←ha,KD hy,if_pos hc3]))
  have hc3:=bp hb3;refine AA (q_ (DE 9 (h:=Ap 0 (h:=Ap 1 (h:=?_)))));refine EV (i:=2) rfl (MC (k:=j) rfl rfl rfl (by simp;omega) ⟨rfl,rfl⟩) ?_;refine Ap 3 (h:=Ap 4 (h:=Dj 5 (h:=AY 6 (h:=?_))));refine c_ 7 rfl (AE (hfind j r) ?_);rintro r rfl;refine o_ (h:=RM 8 (h:=z_ (h:=t_ (?_))));refine A9 rfl (fun hb4=>?_) (fun hb4=>?_)
  ·have hc4:=bp hb4;refine w_ (a_ (h:=e_ (A4 (AR (A7 (A7 (AR (A7 (?_)))))))));refine A8 ?_
   first|(exfalso;first|contradiction|omega)|(exact vi (by rw[Cf,if_neg hc1,←ha,KD hy,if_neg (by omega),if_pos hc4]))
  have hc4:=bp hb4;refine Av (Ai (t_ (AT (m_ (h:=B5 (h:=a_ (h:=AP (?_))))))));refine AK ?_;refine⟨_,_,?_,⟨j+1,by omega,rfl,(by rw[←ha,KD hy,if_neg (by omega),if_neg hc4]),rfl⟩,(wk 0 0)⟩;omega
 have hc2:=bp hb2;have e:=C5 AO hj hc2;subst e;refine BH (Ah (Ah (BJ (t_ (w_ (a_ (h:=e_ (A4 (?_)))))))));refine A8 ?_
 first|(exfalso;first|contradiction|omega)|(exact vi (by rw[Cf,if_neg hc1,←ha];simp[Ep]))
theorem Lf(r:Rul)(hr:r.tests.length≤1000):AFn prog 117 [.agg (AO r)] (fun x=>x= .agg (AO r)):=by
 refine enter Tryz.func117 rfl rfl rfl rfl rfl 0 rfl ?_;refine w_ (b_ (h:=Aa (h:=e_ (w_ (f_ (h:=l_ (h:=?_)))))));refine A6 rfl (AE (UM r.tests hr) ?_);rintro r rfl;refine f_ (h:=s_ (h:=e_ (w_ (l_ (h:=s_ (h:=e_ (A4 (?_))))))));refine A8 ?_;rfl
theorem Nf(r:Rul)(hl:r.tests.length≤1000):AFn prog 102 [.agg (AO r)] (fun x=>x= .agg (AO r)):=by
 refine enter Tryz.func102 rfl rfl rfl rfl rfl 0 rfl ?_;refine w_ (b_ (h:=Aa (h:=e_ (w_ (f_ (h:=l_ (h:=D3 (h:=f_ (h:=s_ (h:=e_ (w_ (l_ (h:=s_ (h:=e_ (A4 (?_))))))))))))))));refine A8 ?_;rfl
theorem UO(l:List Rul)(h1:l.length≤1000)(hl:∀r∈l,r.tests.length≤1000):KX prog 89 [.sl 8 (l.map AO) none] (fun g=> .sl 8 (l.map AO) g) (83,8,l.map AO):=by
 refine enter Tryz.func89 rfl rfl rfl rfl rfl 0 rfl ?_;refine w_ (a_ (h:=e_ (w_ (a_ (h:=e_ (q_ (w_ (a_ (h:=e_ (Af (?_)))))))))));refine JY 3 83 8 rfl (by repeat constructor) ?_;refine BW (fun n s=>∃k:Nat,k≤l.length∧n=l.length - k∧s=⟨look [(0, .sl 8 (l.map AO) none),(3, .sl 8 ((l.take k).map AO) (some 0)),(4, .v (.int .i64 (k:Int)))],⟨[],[(83,8,(l.take k).map AO)]⟩⟩) (l.length) ((wk 0 1)) (⟨0,BO _,rfl,rfl⟩) ?_;rintro n s ⟨k,hk,rfl,rfl⟩;refine q_ (w_ (m_ (h:=m_ (h:=n_ (h:=B1 (h:=e_ (?_)))))));refine A9 rfl (fun hb1=>?_) (fun hb1=>?_)
 ·have hc1:=bp hb1;obtain⟨hlt,r,hr,hrow,e⟩:=Br AO hc1;refine AA (q_ (Af (AT (m_ (h:=m_ (h:=m_ (h:=i_ (h:=l_ (h:=?_)))))))));refine A6 rfl (AE (Nf r (hl r (Ar hr))) ?_);rintro r rfl;refine Bc (h:=D3 (h:=a_ (h:=AP (Ai (t_ (AT (m_ (h:=B5 (h:=a_ (h:=AP (?_)))))))))));refine AK ?_;refine⟨_,_,?_,⟨k+1,by omega,rfl,rfl⟩,?_⟩
  ·omega
  rw[e];exact(wk 0 1)
 have hc1:=bp hb1;have e:=C5 AO hk hc1;subst e;rw[List.take_length];refine BH (Ah (Ah (BJ (t_ (w_ (m_ (h:=a_ (h:=e_ (A4 (?_))))))))));refine Am (some 0) (h5:=(AZ _)) (h6:=⟨rfl,rfl,rfl⟩)
theorem UP(l:List Rul)(h1:l.length≤1000)(hl:∀r∈l,r.tests.length≤1000):AFn prog 89 [.sl 8 (l.map AO) none] (fun x=>x= .sl 8 (l.map AO) none):=by
 refine enter Tryz.func89 rfl rfl rfl rfl rfl 0 rfl ?_;refine w_ (a_ (h:=e_ (w_ (a_ (h:=e_ (q_ (w_ (a_ (h:=e_ (Af (?_)))))))))));refine JY 3 83 8 rfl (by repeat constructor) ?_;refine BW (fun n s=>∃k:Nat,k≤l.length∧n=l.length - k∧s=⟨look [(0, .sl 8 (l.map AO) none),(3, .sl 8 ((l.take k).map AO) (some 0)),(4, .v (.int .i64 (k:Int)))],⟨[],[(83,8,(l.take k).map AO)]⟩⟩) (l.length) ((wk 0 1)) (⟨0,BO _,rfl,rfl⟩) ?_;rintro n s ⟨k,hk,rfl,rfl⟩;refine q_ (w_ (m_ (h:=m_ (h:=n_ (h:=B1 (h:=e_ (?_)))))));refine A9 rfl (fun hb1=>?_) (fun hb1=>?_)
 ·have hc1:=bp hb1;obtain⟨hlt,r,hr,hrow,e⟩:=Br AO hc1;refine AA (q_ (Af (AT (m_ (h:=m_ (h:=m_ (h:=i_ (h:=l_ (h:=?_)))))))));refine A6 rfl (AE (Nf r (hl r (Ar hr))) ?_);rintro r rfl;refine Bc (h:=D3 (h:=a_ (h:=AP (Ai (t_ (AT (m_ (h:=B5 (h:=a_ (h:=AP (?_)))))))))));refine AK ?_;refine⟨_,_,?_,⟨k+1,by omega,rfl,rfl⟩,?_⟩
  ·omega
  rw[e];exact(wk 0 1)
 have hc1:=bp hb1;have e:=C5 AO hk hc1;subst e;rw[List.take_length];refine BH (Ah (Ah (BJ (t_ (w_ (m_ (h:=a_ (h:=e_ (A4 (?_))))))))));refine A8 ?_;rfl
theorem dD(a b:List Rul)(ha:a.length≤1000)(ht:∀r∈a,r.tests.length≤1000):AFn prog 54 [.sl 8 (a.map AO) none, .sl 8 (b.map AO) none] (fun x=>x= .v (.bool (decide (a=b)))):=by
 refine enter Tryz.func54 rfl rfl rfl rfl rfl 0 rfl ?_;refine w_ (a_ (h:=e_ (q_ (w_ (m_ (h:=n_ (h:=m_ (h:=n_ (h:=Aj (h:=e_ (?_)))))))))));refine A9 rfl (fun hb1=>?_) (fun hb1=>?_)
 ·have hc1:=bp hb1;refine w_ (a_ (h:=e_ (A4 (A7 (?_)))));refine A8 ?_
  first|(exfalso;first|contradiction|omega)|(exact vb (by rw[UK (by simp at hc1;omega)]))
 have hc1:=bp hb1;have hl:a.length=b.length:=by simp at hc1;omega
 refine AA (q_ (w_ (a_ (h:=e_ (Af (?_))))));refine BW (fun n s=>∃j:Nat,j≤a.length∧n=a.length - j∧decide (a.drop j=b.drop j)=decide (a=b)∧s=⟨look [(0, .sl 8 (a.map AO) none),(1, .sl 8 (b.map AO) none),(5, .v (.int .i64 (j:Int)))],⟨[],[]⟩⟩) (a.length) ((wk 0 0)) (⟨0,by omega,rfl,rfl,rfl⟩) ?_;rintro n s ⟨j,hj,rfl,hd,rfl⟩;refine q_ (w_ (m_ (h:=m_ (h:=n_ (h:=B1 (h:=e_ (?_)))))));refine A9 rfl (fun hb2=>?_) (fun hb2=>?_)
 ·have hc2:=bp hb2;obtain⟨hlt,x,hx,hrow, -⟩:=Br AO hc2;obtain⟨hlt2,y,hy,hrow2, -⟩:=Br AO (l:=b) (k:=j) (by simpa[hl]using hc2);refine AA (q_ (Af (q_ (DE 10 (h:=Ap 0 (h:=Ap 1 (h:=Dj 2 (h:=AY 3 (h:=Ap 4 (h:=Ap 5 (h:=Dj 6 (h:=AY 7 (h:=?_)))))))))))));refine c_ 8 rfl (AE (UN x y (ht x (Ar hx))) ?_);rintro r rfl;refine o_ (h:=RL 9 (h:=z_ (h:=t_ (?_))));refine A9 rfl (fun hb3=>?_) (fun hb3=>?_)
  ·have hc3:=bp hb3;refine w_ (a_ (h:=e_ (A4 (AR (A7 (A7 (AR (A7 (?_)))))))));refine A8 ?_
   first|(exfalso;first|contradiction|omega)|(exact vb (by rw[←hd,KC hx hy];simp[hc3]))
  have hc3:=bp hb3;refine Av (Ai (t_ (AT (m_ (h:=B5 (h:=a_ (h:=AP (?_))))))));refine AK ?_;refine⟨_,_,?_,⟨j+1,by omega,rfl,(by rw[←hd,KC hx hy];simp[hc3]),rfl⟩,(wk 0 0)⟩;omega
 have hc2:=bp hb2;have e:=C5 AO hj hc2;subst e;refine BH (Ah (Ah (BJ (t_ (w_ (a_ (h:=e_ (A4 (?_)))))))));refine A8 ?_
 first|(exfalso;first|contradiction|omega)|(exact vb (by rw[←hd,List.drop_length,hl,List.drop_length];rfl))
end
def BX(l:List Rul)(r:Rul)(front:Bool):List Rul×Int:=
 if Cf l≠0 then([],Cf l)else if BE r≠0 then([],BE r)else if 0≤CL l r then([],141)else if 24≤(l.length:Int)then([],140)else(if front=true then r::l else l++[r],0)
def D0(l:List Rul)(r:Rul):List Rul×Int:=
 if Cf l≠0 then([],Cf l)else if CL l r<0 then([],142)else(l.eraseIdx (CL l r).toNat,0)
def CP(x:List Rul×Int):AV:= .tup [.sl 8 (x.1.map AO) none, .v (.int .i64 x.2)]
theorem UQ{l:List Rul}(h:¬Cf l≠0):(l.length:Int)≤24:=by
 unfold Cf at h;split at h
 ·simp at h
 omega
theorem Dq{x:List Rul×Int}{e:Int}(h:x=([],e)):LeA (.tup [.v (.slice none 0 0), .v (.int .i64 e)]) (CP x):=by
 rw[h];exact(by repeat (first|exact AZ _|exact LeA.nil _|exact LeL.refl _|refine LeA.agg ?_|refine LeA.tup ?_|exact LeL.nil|refine LeL.cons ?_ ?_|exact LeA.any _))
theorem KE{x:List Rul×Int}{l:List Rul}{e:Int}(h:x=(l,e)):LeA (.tup [.sl 8 (l.map AO) none, .v (.int .i64 e)]) (CP x):=by
 rw[h];exact AZ _
section
theorem dF(l:List Rul)(r:Rul)(hl:l.length≤1000)(hi:∀r∈l,CN r)(hr:CN r):AFn prog 66 [.sl 8 (l.map AO) none, .agg (AO r), .v (.bool true)] (fun x=>x=CP (BX l r true)):=by
 refine enter Tryz.func66 rfl rfl rfl rfl rfl 0 rfl ?_;refine w_ (b_ (h:=a_ (h:=a_ (h:=e_ (q_ (w_ (m_ (h:=?_))))))));refine A6 rfl (AE (Le l hl hi) ?_);rintro r rfl;refine a_ (h:=e_ (w_ (m_ (h:=Aj (h:=e_ (?_))))));refine A9 rfl (fun hb1=>?_) (fun hb1=>?_)
 ·have hc1:=bp hb1;refine w_ (m_ (h:=a_ (h:=a_ (h:=e_ (A4 (A7 (?_)))))));refine Am (r:=CP (BX l r true)) none (h5:=?_) (h6:=⟨rfl,rfl,rfl⟩);exact Dq (by simp[BX, *])
 have hc1:=bp hb1;refine AA (q_ (w_ (l_ (h:=?_))));refine A6 rfl (AE (QF r hr) ?_);rintro r rfl;refine a_ (h:=e_ (w_ (m_ (h:=Aj (h:=e_ (?_))))));refine A9 rfl (fun hb2=>?_) (fun hb2=>?_)
 ·have hc2:=bp hb2;refine w_ (m_ (h:=a_ (h:=a_ (h:=e_ (A4 (A7 (?_)))))));refine Am (r:=CP (BX l r true)) none (h5:=?_) (h6:=⟨rfl,rfl,rfl⟩);exact Dq (by simp[BX, *])
 have hc2:=bp hb2;refine AA (q_ (w_ (m_ (h:=l_ (h:=?_)))));refine A6 rfl (AE (Lc l r hl fun x hx=>(hi x hx).2.2.2) ?_);rintro r rfl;refine D4 (h:=e_ (?_));refine A9 rfl (fun hb3=>?_) (fun hb3=>?_)
 ·have hc3:=bp hb3;refine w_ (a_ (h:=a_ (h:=e_ (A4 (A7 (?_))))));refine Am (r:=CP (BX l r true)) none (h5:=?_) (h6:=⟨rfl,rfl,rfl⟩);exact Dq (by simp[BX, *])
 have hc3:=bp hb3;refine AA (q_ (w_ (m_ (h:=n_ (h:=D4 (h:=e_ (?_)))))));refine A9 rfl (fun hb4=>?_) (fun hb4=>?_)
 ·have hc4:=bp hb4;refine w_ (a_ (h:=a_ (h:=e_ (A4 (A7 (?_))))));refine Am (r:=CP (BX l r true)) none (h5:=?_) (h6:=⟨rfl,rfl,rfl⟩);exact Dq (by rw[List.length_map]at hc4;simp[BX, *])
 have hc4:=bp hb4;have h4:¬24≤(l.length:Int):=by rw[List.length_map]at hc4;omega
 refine AA (w_ (m_ (h:=n_ (h:=B5 (h:=OT (h:=a_ (h:=e_ (q_ (w_ (m_ (h:=e_ (?_))))))))))));refine A9 rfl (fun hb5=>?_) (fun hb5=>?_)
 ·have hc5:=bp hb5;refine AT (m_ (h:=l_ (h:=?_)));refine A6 rfl (AE (Lf r hr.2.2.2) ?_);rintro r rfl;refine Bc (h:=D3 (h:=a_ (h:=e_ (q_ (w_ (m_ (h:=n_ (h:=m_ (h:=e_ (Af (?_)))))))))));refine BW (fun n s=>∃j:Nat,j≤l.length∧n=l.length - j∧s=⟨look [(2, .v (.bool true)),(4, .bp 0 0),(10, .sl 8 ((r::l.take j).map AO) (some 0)),(40, .sl 8 (l.map AO) none),(41, .v (.int .i64 ((l.map AO).length:Int))),(42, .v (.int .i64 (j:Int)))],⟨[AO r],[(83,8,(r::l.take j).map AO)]⟩⟩) (l.length) ((wk 1 1)) (⟨0,BO _,rfl,rfl⟩) ?_;rintro n s ⟨j,hj,rfl,rfl⟩;refine w_ (B1 (h:=e_ (q_ (?_))));refine A9 rfl (fun hb6=>?_) (fun hb6=>?_)
  ·have hc6:=bp hb6;obtain⟨hlt,x,hx,hrow,e⟩:=Br AO hc6;refine AA (q_ (Af (w_ (i_ (h:=l_ (h:=Aa (h:=s_ (h:=e_ (AT (m_ (h:=l_ (h:=?_))))))))))));refine A6 rfl (AE (Lf x (hi x (Ar hx)).2.2.2) ?_);rintro r rfl;refine Bc (h:=D3 (h:=a_ (h:=AP (Ai (t_ (AT (B5 (h:=m_ (h:=AP (?_))))))))));refine AK ?_;refine⟨_,_,?_,⟨j+1,by omega,rfl,rfl⟩,?_⟩
   ·omega
   rw[show(r::l.take (j+1)).map AO=(r::l.take j).map AO++[AO x] by rw[List.map_cons,e];rfl];exact(wk 1 1)
  have hc6:=bp hb6;have e:=C5 AO hj hc6;subst e;rw[List.take_length];refine BH (Ah (Ah (BJ (t_ (q_ (w_ (m_ (h:=B7 (h:=e_ (?_))))))))));refine A9 rfl (fun hb7=>?_) (fun hb7=>?_)
  ·have hc7:=bp hb7;exfalso;first|contradiction|omega
  have hc7:=bp hb7;refine AA (w_ (m_ (h:=a_ (h:=a_ (h:=e_ (A4 (?_)))))));refine Am (r:=CP (BX l r true)) none (h5:=?_) (h6:=⟨rfl,rfl,rfl⟩);exact KE (l:=r::l) (by simp[BX, *])
 have hc5:=bp hb5;exfalso;first|contradiction|omega
theorem dG(l:List Rul)(r:Rul)(hl:l.length≤1000)(hi:∀r∈l,CN r)(hr:CN r):AFn prog 66 [.sl 8 (l.map AO) none, .agg (AO r), .v (.bool false)] (fun x=>x=CP (BX l r false)):=by
 refine enter Tryz.func66 rfl rfl rfl rfl rfl 0 rfl ?_;refine w_ (b_ (h:=a_ (h:=a_ (h:=e_ (q_ (w_ (m_ (h:=?_))))))));refine A6 rfl (AE (Le l hl hi) ?_);rintro r rfl;refine a_ (h:=e_ (w_ (m_ (h:=Aj (h:=e_ (?_))))));refine A9 rfl (fun hb1=>?_) (fun hb1=>?_)
 ·have hc1:=bp hb1;refine w_ (m_ (h:=a_ (h:=a_ (h:=e_ (A4 (A7 (?_)))))));refine Am (r:=CP (BX l r false)) none (h5:=?_) (h6:=⟨rfl,rfl,rfl⟩);exact Dq (by simp[BX, *])
 have hc1:=bp hb1;refine AA (q_ (w_ (l_ (h:=?_))));refine A6 rfl (AE (QF r hr) ?_);rintro r rfl;refine a_ (h:=e_ (w_ (m_ (h:=Aj (h:=e_ (?_))))));refine A9 rfl (fun hb2=>?_) (fun hb2=>?_)
 ·have hc2:=bp hb2;refine w_ (m_ (h:=a_ (h:=a_ (h:=e_ (A4 (A7 (?_)))))));refine Am (r:=CP (BX l r false)) none (h5:=?_) (h6:=⟨rfl,rfl,rfl⟩);exact Dq (by simp[BX, *])
 have hc2:=bp hb2;refine AA (q_ (w_ (m_ (h:=l_ (h:=?_)))));refine A6 rfl (AE (Lc l r hl fun x hx=>(hi x hx).2.2.2) ?_);rintro r rfl;refine D4 (h:=e_ (?_));refine A9 rfl (fun hb3=>?_) (fun hb3=>?_)
 ·have hc3:=bp hb3;refine w_ (a_ (h:=a_ (h:=e_ (A4 (A7 (?_))))));refine Am (r:=CP (BX l r false)) none (h5:=?_) (h6:=⟨rfl,rfl,rfl⟩);exact Dq (by simp[BX, *])
 have hc3:=bp hb3;refine AA (q_ (w_ (m_ (h:=n_ (h:=D4 (h:=e_ (?_)))))));refine A9 rfl (fun hb4=>?_) (fun hb4=>?_)
 ·have hc4:=bp hb4;refine w_ (a_ (h:=a_ (h:=e_ (A4 (A7 (?_))))));refine Am (r:=CP (BX l r false)) none (h5:=?_) (h6:=⟨rfl,rfl,rfl⟩);exact Dq (by rw[List.length_map]at hc4;simp[BX, *])
 have hc4:=bp hb4;have h4:¬24≤(l.length:Int):=by rw[List.length_map]at hc4;omega
 refine AA (w_ (m_ (h:=n_ (h:=B5 (h:=OT (h:=a_ (h:=e_ (q_ (w_ (m_ (h:=e_ (?_))))))))))));refine A9 rfl (fun hb5=>?_) (fun hb5=>?_)
 ·have hc5:=bp hb5;exfalso;first|contradiction|omega
 have hc5:=bp hb5;refine AA (q_ (w_ (m_ (h:=n_ (h:=m_ (h:=e_ (Af (?_))))))));refine BW (fun n s=>∃j:Nat,j≤l.length∧n=l.length - j∧s=⟨look [(2, .v (.bool false)),(4, .bp 0 0),(10, .sl 8 ((l.take j).map AO) (some 0)),(40, .sl 8 (l.map AO) none),(41, .v (.int .i64 ((l.map AO).length:Int))),(42, .v (.int .i64 (j:Int)))],⟨[AO r],[(83,8,(l.take j).map AO)]⟩⟩) (l.length) ((wk 1 1)) (⟨0,BO _,rfl,rfl⟩) ?_;rintro n s ⟨j,hj,rfl,rfl⟩;refine w_ (B1 (h:=e_ (q_ (?_))));refine A9 rfl (fun hb6=>?_) (fun hb6=>?_)
 ·have hc6:=bp hb6;obtain⟨hlt,x,hx,hrow,e⟩:=Br AO hc6;refine AA (q_ (Af (w_ (i_ (h:=l_ (h:=Aa (h:=s_ (h:=e_ (AT (m_ (h:=l_ (h:=?_))))))))))));refine A6 rfl (AE (Lf x (hi x (Ar hx)).2.2.2) ?_);rintro r rfl;refine Bc (h:=D3 (h:=a_ (h:=AP (Ai (t_ (AT (B5 (h:=m_ (h:=AP (?_))))))))));refine AK ?_;refine⟨_,_,?_,⟨j+1,by omega,rfl,rfl⟩,?_⟩
  ·omega
  rw[e];exact(wk 1 1)
 have hc6:=bp hb6;have e:=C5 AO hj hc6;subst e;rw[List.take_length];refine BH (Ah (Ah (BJ (t_ (q_ (w_ (m_ (h:=B7 (h:=e_ (?_))))))))));refine A9 rfl (fun hb7=>?_) (fun hb7=>?_)
 ·have hc7:=bp hb7;refine AT (m_ (h:=l_ (h:=?_)));refine A6 rfl (AE (Lf r hr.2.2.2) ?_);rintro r rfl;refine Bc (h:=D3 (h:=a_ (h:=e_ (w_ (m_ (h:=a_ (h:=a_ (h:=e_ (A4 (?_))))))))));refine Am (r:=CP (BX l r false)) none (h5:=?_) (h6:=⟨rfl,rfl,rfl⟩);have:=KE (x:=BX l r false) (l:=l++[r]) (e:=0) (by simp[BX, *]);rw[List.map_append]at this;exact this
 have hc7:=bp hb7;exfalso;first|contradiction|omega
theorem UR(l:List Rul)(r:Rul)(front:Bool)(hl:l.length≤1000)(hi:∀r∈l,CN r)(hr:CN r):AFn prog 66 [.sl 8 (l.map AO) none, .agg (AO r), .v (.bool front)] (fun x=>x=CP (BX l r front)):=by
 cases front
 ·exact dG l r hl hi hr
 exact dF l r hl hi hr
theorem dH{l:List Rul}{j k:Nat}{x:Rul}(hx:l[j]?=some x):(l.take (j+1)).eraseIdx k=if j=k then(l.take j).eraseIdx k else(l.take j).eraseIdx k++[x]:=by
 obtain⟨hk,e⟩:=Al.1 hx;rw[List.take_succ_eq_append_getElem hk,e];have hl:(l.take j).length=j:=by simp;omega
 split
 ·rename_i h;subst h;have h2:(l.take j).eraseIdx j=l.take j:=List.eraseIdx_of_length_le (by omega);rw[List.eraseIdx_append_of_length_le (by omega),hl,h2];simp
 rename_i h;rcases Nat.lt_or_ge k j with h2|h2
 ·rw[List.eraseIdx_append_of_lt_length (by omega)]
 rw[List.eraseIdx_of_length_le (by simp;omega),List.eraseIdx_of_length_le (by omega)]
theorem dJ(l:List Rul)(r:Rul)(hl:l.length≤1000)(hi:∀r∈l,CN r):AFn prog 106 [.sl 8 (l.map AO) none, .agg (AO r)] (fun x=>x=CP (D0 l r)):=by
 refine enter Tryz.func106 rfl rfl rfl rfl rfl 0 rfl ?_;refine w_ (b_ (h:=a_ (h:=a_ (h:=e_ (q_ (w_ (m_ (h:=?_))))))));refine A6 rfl (AE (Le l hl hi) ?_);rintro r rfl;refine a_ (h:=e_ (w_ (m_ (h:=Aj (h:=e_ (?_))))));refine A9 rfl (fun hb1=>?_) (fun hb1=>?_)
 ·have hc1:=bp hb1;refine w_ (m_ (h:=a_ (h:=a_ (h:=e_ (A4 (A7 (?_)))))));refine Am (r:=CP (D0 l r)) none (h5:=?_) (h6:=⟨rfl,rfl,rfl⟩);exact Dq (by simp[D0, *])
 have hc1:=bp hb1;refine AA (w_ (m_ (h:=l_ (h:=?_))));refine A6 rfl (AE (Lc l r hl fun x hx=>(hi x hx).2.2.2) ?_);rintro r rfl;refine a_ (h:=e_ (q_ (w_ (m_ (h:=B1 (h:=e_ (?_)))))));refine A9 rfl (fun hb2=>?_) (fun hb2=>?_)
 ·have hc2:=bp hb2;refine w_ (a_ (h:=a_ (h:=e_ (A4 (A7 (?_))))));refine Am (r:=CP (D0 l r)) none (h5:=?_) (h6:=⟨rfl,rfl,rfl⟩);exact Dq (by simp[D0, *])
 have hc2:=bp hb2;refine AA (w_ (m_ (h:=n_ (h:=?_))));refine A6 rfl (ML rfl rfl (by simp;omega) (by repeat constructor) ?_);refine a_ (h:=e_ (q_ (w_ (m_ (h:=n_ (h:=m_ (h:=e_ (Af (?_)))))))));refine BW (fun n s=>∃j:Nat,j≤l.length∧n=l.length - j∧s=⟨look [(7, .v (.int .i64 (CL l r))),(8, .sl 8 (((l.take j).eraseIdx (CL l r).toNat).map AO) (some 0)),(24, .sl 8 (l.map AO) none),(25, .v (.int .i64 ((l.map AO).length:Int))),(26, .v (.int .i64 (j:Int)))],⟨[AO r],[(83,8,((l.take j).eraseIdx (CL l r).toNat).map AO)]⟩⟩) (l.length) ((wk 1 1)) (⟨0,BO _,rfl,rfl⟩) ?_;rintro n s ⟨j,hj,rfl,rfl⟩;refine w_ (B1 (h:=e_ (q_ (?_))));refine A9 rfl (fun hb3=>?_) (fun hb3=>?_)
 ·have hc3:=bp hb3;obtain⟨hlt,x,hx,hrow, -⟩:=Br AO hc3;have e:=dH (k:=(CL l r).toNat) hx;refine AA (q_ (Af (w_ (m_ (h:=i_ (h:=l_ (h:=Aa (h:=a_ (h:=s_ (h:=e_ (w_ (m_ (h:=m_ (h:=Aj (h:=e_ (?_))))))))))))))));refine A9 rfl (fun hb4=>?_) (fun hb4=>?_)
  ·have hc4:=bp hb4;rw[if_neg (by omega)]at e;refine AT (m_ (h:=l_ (h:=?_)));refine A6 rfl (AE (Lf x (hi x (Ar hx)).2.2.2) ?_);rintro r rfl;refine Bc (h:=?_)
   first|refine A6 rfl (E0 rfl rfl rfl ((by have:=List.length_eraseIdx_le (l.take j) (CL l r).toNat;simp at this ⊢<;>omega)) (by repeat constructor) ?_)|refine A6 rfl (E1 rfl rfl ((by have:=List.length_eraseIdx_le (l.take j) (CL l r).toNat;simp at this ⊢<;>omega)) (by repeat constructor) ?_)
   refine a_ (h:=AP (Ai (t_ (AT (B5 (h:=m_ (h:=AP (?_))))))));refine AK ?_;refine⟨_,_,?_,⟨j+1,by omega,rfl,rfl⟩,?_⟩
   ·omega
   first|(rw[e,List.map_append];exact(wk 1 1))|(rw[e];exact(wk 1 1))
  have hc4:=bp hb4;rw[if_pos (by omega)]at e;refine Av (Ai (t_ (AT (B5 (h:=m_ (h:=AP (?_)))))));refine AK ?_;refine⟨_,_,?_,⟨j+1,by omega,rfl,rfl⟩,?_⟩
  ·omega
  first|(rw[e,List.map_append];exact(wk 1 1))|(rw[e];exact(wk 1 1))
 have hc3:=bp hb3;have e:=C5 AO hj hc3;subst e;rw[List.take_length];refine BH (Ah (Ah (BJ (t_ (w_ (m_ (h:=a_ (h:=a_ (h:=e_ (A4 (?_)))))))))));refine Am (r:=CP (D0 l r)) none (h5:=?_) (h6:=⟨rfl,rfl,rfl⟩);exact KE (by simp[D0, *])
end
theorem US{α:Type}(p:Nat→α→Bool):∀(l:List α) (i:Nat),Ck p l i= -1∨∃k:Nat,Ck p l i=(k:Int)∧i≤k∧k<i+l.length
 |[],i=> .inl rfl
 |x::xs,i=>by
   rw[Ck];split
   ·exact .inr ⟨i,rfl,by omega,by simp⟩
   rcases US p xs (i+1)with h|⟨k,h1,h2,h3⟩
   ·exact .inl h
   exact .inr ⟨k,h1,by omega,by simp;omega⟩
theorem UT{l:List Rul}{r:Rul}(h:¬CL l r<0):∃k:Nat,CL l r=(k:Int)∧k<l.length:=by
 rcases US (fun _ x=>decide (x=r)) l 0 with h1|⟨k,h1,_,h3⟩
 ·exact absurd (show CL l r<0 by unfold CL;omega) h
 exact⟨k,h1,by omega⟩
section
theorem dL(l:List Rul)(r:Rul)(hl:l.length≤1000)(hi:∀r∈l,CN r)(hr:CN r):AFn prog 61 [.sl 8 (l.map AO) none, .agg (AO r), .v (.bool true)] (fun x=>x=CP (BX l r true)):=by
 refine enter Tryz.func61 rfl rfl rfl rfl rfl 0 rfl ?_;refine w_ (b_ (h:=a_ (h:=a_ (h:=e_ (q_ (w_ (m_ (h:=?_))))))));refine A6 rfl (AE (QG l hl hi) ?_);rintro r rfl;refine a_ (h:=e_ (w_ (m_ (h:=Aj (h:=e_ (?_))))));refine A9 rfl (fun hb1=>?_) (fun hb1=>?_)
 ·have hc1:=bp hb1;refine w_ (m_ (h:=a_ (h:=a_ (h:=e_ (A4 (A7 (?_)))))));refine Am (r:=CP (BX l r true)) none (h5:=?_) (h6:=⟨rfl,rfl,rfl⟩);exact Dq (by simp[BX, *])
 have hc1:=bp hb1;refine AA (q_ (w_ (l_ (h:=?_))));refine A6 rfl (AE (Nd r hr) ?_);rintro r rfl;refine a_ (h:=e_ (w_ (m_ (h:=Aj (h:=e_ (?_))))));refine A9 rfl (fun hb2=>?_) (fun hb2=>?_)
 ·have hc2:=bp hb2;refine w_ (m_ (h:=a_ (h:=a_ (h:=e_ (A4 (A7 (?_)))))));refine Am (r:=CP (BX l r true)) none (h5:=?_) (h6:=⟨rfl,rfl,rfl⟩);exact Dq (by simp[BX, *])
 have hc2:=bp hb2;refine AA (q_ (w_ (m_ (h:=l_ (h:=?_)))));refine A6 rfl (AE (Ld l r hl fun x hx=>(hi x hx).2.2.2) ?_);rintro r rfl;refine D4 (h:=e_ (?_));refine A9 rfl (fun hb3=>?_) (fun hb3=>?_)
 ·have hc3:=bp hb3;refine w_ (a_ (h:=a_ (h:=e_ (A4 (A7 (?_))))));refine Am (r:=CP (BX l r true)) none (h5:=?_) (h6:=⟨rfl,rfl,rfl⟩);exact Dq (by simp[BX, *])
 have hc3:=bp hb3;refine AA (q_ (w_ (m_ (h:=n_ (h:=AN (h:=e_ (?_)))))));refine A9 rfl (fun hb4=>?_) (fun hb4=>?_)
 ·have hc4:=bp hb4;rw[List.length_map]at hc4;refine w_ (a_ (h:=a_ (h:=e_ (A4 (A7 (?_))))));refine Am (r:=CP (BX l r true)) none (h5:=?_) (h6:=⟨rfl,rfl,rfl⟩);exact Dq (by simp[BX, *])
 have hc4:=bp hb4;rw[List.length_map]at hc4;have h5:=UQ (not_not_intro hc1);have h4:¬24≤(l.length:Int):=by omega
 refine AA (q_ (w_ (m_ (h:=e_ (?_)))));refine A9 rfl (fun hb5=>?_) (fun hb5=>?_)
 ·have hc5:=bp hb5;refine w_ (l_ (h:=?_));refine A6 rfl (AE (Nf r hr.2.2.2) ?_);rintro r rfl;refine A6 rfl (Qx (by repeat (first|exact DenseA.nil _|(apply DenseA.cons;(focus exact rfl);(focus exact rfl);(focus exact rfl);(focus exact rfl))|(apply DenseA.consE;(focus exact rfl);(focus exact rfl);(focus exact rfl)))) rfl rfl rfl rfl (by repeat constructor) ?_);refine m_ (h:=?_);refine A6 rfl (AE (UP l hl fun x hx=>(hi x hx).2.2.2) ?_);rintro r rfl;refine D3 (h:=a_ (h:=a_ (h:=e_ (A4 (A7 (?_))))));refine Am (r:=CP (BX l r true)) none (h5:=?_) (h6:=⟨rfl,rfl,rfl⟩);exact KE (l:=r::l) (by simp[BX, *])
 have hc5:=bp hb5;exfalso;first|contradiction|omega
theorem dM(l:List Rul)(r:Rul)(hl:l.length≤1000)(hi:∀r∈l,CN r)(hr:CN r):AFn prog 61 [.sl 8 (l.map AO) none, .agg (AO r), .v (.bool false)] (fun x=>x=CP (BX l r false)):=by
 refine enter Tryz.func61 rfl rfl rfl rfl rfl 0 rfl ?_;refine w_ (b_ (h:=a_ (h:=a_ (h:=e_ (q_ (w_ (m_ (h:=?_))))))));refine A6 rfl (AE (QG l hl hi) ?_);rintro r rfl;refine a_ (h:=e_ (w_ (m_ (h:=Aj (h:=e_ (?_))))));refine A9 rfl (fun hb1=>?_) (fun hb1=>?_)
 ·have hc1:=bp hb1;refine w_ (m_ (h:=a_ (h:=a_ (h:=e_ (A4 (A7 (?_)))))));refine Am (r:=CP (BX l r false)) none (h5:=?_) (h6:=⟨rfl,rfl,rfl⟩);exact Dq (by simp[BX, *])
 have hc1:=bp hb1;refine AA (q_ (w_ (l_ (h:=?_))));refine A6 rfl (AE (Nd r hr) ?_);rintro r rfl;refine a_ (h:=e_ (w_ (m_ (h:=Aj (h:=e_ (?_))))));refine A9 rfl (fun hb2=>?_) (fun hb2=>?_)
 ·have hc2:=bp hb2;refine w_ (m_ (h:=a_ (h:=a_ (h:=e_ (A4 (A7 (?_)))))));refine Am (r:=CP (BX l r false)) none (h5:=?_) (h6:=⟨rfl,rfl,rfl⟩);exact Dq (by simp[BX, *])
 have hc2:=bp hb2;refine AA (q_ (w_ (m_ (h:=l_ (h:=?_)))));refine A6 rfl (AE (Ld l r hl fun x hx=>(hi x hx).2.2.2) ?_);rintro r rfl;refine D4 (h:=e_ (?_));refine A9 rfl (fun hb3=>?_) (fun hb3=>?_)
 ·have hc3:=bp hb3;refine w_ (a_ (h:=a_ (h:=e_ (A4 (A7 (?_))))));refine Am (r:=CP (BX l r false)) none (h5:=?_) (h6:=⟨rfl,rfl,rfl⟩);exact Dq (by simp[BX, *])
 have hc3:=bp hb3;refine AA (q_ (w_ (m_ (h:=n_ (h:=AN (h:=e_ (?_)))))));refine A9 rfl (fun hb4=>?_) (fun hb4=>?_)
 ·have hc4:=bp hb4;rw[List.length_map]at hc4;refine w_ (a_ (h:=a_ (h:=e_ (A4 (A7 (?_))))));refine Am (r:=CP (BX l r false)) none (h5:=?_) (h6:=⟨rfl,rfl,rfl⟩);exact Dq (by simp[BX, *])
 have hc4:=bp hb4;rw[List.length_map]at hc4;have h5:=UQ (not_not_intro hc1);have h4:¬24≤(l.length:Int):=by omega
 refine AA (q_ (w_ (m_ (h:=e_ (?_)))));refine A9 rfl (fun hb5=>?_) (fun hb5=>?_)
 ·have hc5:=bp hb5;exfalso;first|contradiction|omega
 have hc5:=bp hb5;refine AA (q_ (CB ([(0,AO r)]) 8 (h:=Ap 0 (h:=?_))))
 first|refine AY 2 (h:=?_)|refine BG 2 rfl (fun _ hS=>Eu rfl (by rw[hS];rfl) rfl ⟨rfl,rfl⟩) ?_
 refine c_ 1 rfl (OC rfl (by repeat (first|exact Args.nil|refine Args.cons _ _ _ _ _ rfl (G0 rfl) ?_|refine Args.cons _ _ _ _ _ rfl (Gx _) ?_|refine Args.cons _ _ _ _ _ rfl (GQ _) ?_|refine Args.cons _ _ _ _ _ rfl (H0 rfl (by repeat (first|exact AZ _|exact LeA.nil _|exact LeL.refl _|refine LeA.agg ?_|refine LeA.tup ?_|exact LeL.nil|refine LeL.cons ?_ ?_|exact LeA.any _))) ?_)) (UO l hl fun x hx=>(hi x hx).2.2.2) (fun _=>rfl) (by repeat constructor) ?_);refine o_ (h:=?_);refine c_ 3 rfl (AE (Nf r hr.2.2.2) ?_);rintro r rfl;refine o_ (h:=Mf 4 (h:=?_))
 first|refine c_ 5 rfl (E0 rfl rfl rfl (by simp<;>omega) (by repeat constructor) ?_)|refine c_ 5 rfl (E1 rfl rfl (by simp<;>omega) (by repeat constructor) ?_)
 refine o_ (h:=BN 6 (h:=BN 7 (h:=z_ (h:=t_ (A4 (?_))))));refine Am (r:=CP (BX l r false)) none (h5:=?_) (h6:=⟨rfl,rfl,rfl⟩);have:=KE (x:=BX l r false) (l:=l++[r]) (e:=0) (by simp[BX, *]);rw[List.map_append]at this;exact this
theorem UU(l:List Rul)(r:Rul)(front:Bool)(hl:l.length≤1000)(hi:∀r∈l,CN r)(hr:CN r):AFn prog 61 [.sl 8 (l.map AO) none, .agg (AO r), .v (.bool front)] (fun x=>x=CP (BX l r front)):=by
 cases front
 ·exact dM l r hl hi hr
 exact dL l r hl hi hr
theorem dO(l:List Rul)(r:Rul)(hl:l.length≤1000)(hi:∀r∈l,CN r):AFn prog 108 [.sl 8 (l.map AO) none, .agg (AO r)] (fun x=>x=CP (D0 l r)):=by
 have hca:∀k,KX prog 89 [.sl 8 ((l.map AO).take k) none] (fun g=> .sl 8 ((l.take k).map AO) g) (83,8,(l.take k).map AO):=fun k=>by
  rw[←List.map_take];exact UO (l.take k) (by simp;omega) fun x hx=>(hi x (List.mem_of_mem_take hx)).2.2.2
 have hcb:∀k,AFn prog 89 [.sl 8 ((l.map AO).drop k) none] (fun x=>x= .sl 8 ((l.drop k).map AO) none):=fun k=>by
  rw[←List.map_drop];exact UP (l.drop k) (by simp;omega) fun x hx=>(hi x (List.mem_of_mem_drop hx)).2.2.2
 refine enter Tryz.func108 rfl rfl rfl rfl rfl 0 rfl ?_;refine w_ (b_ (h:=a_ (h:=a_ (h:=e_ (q_ (w_ (m_ (h:=?_))))))));refine A6 rfl (AE (QG l hl hi) ?_);rintro r rfl;refine a_ (h:=e_ (w_ (m_ (h:=Aj (h:=e_ (?_))))));refine A9 rfl (fun hb1=>?_) (fun hb1=>?_)
 ·have hc1:=bp hb1;refine w_ (m_ (h:=a_ (h:=a_ (h:=e_ (A4 (A7 (?_)))))));refine Am (r:=CP (D0 l r)) none (h5:=?_) (h6:=⟨rfl,rfl,rfl⟩);exact Dq (by simp[D0, *])
 have hc1:=bp hb1;refine AA (w_ (m_ (h:=l_ (h:=?_))));refine A6 rfl (AE (Ld l r hl fun x hx=>(hi x hx).2.2.2) ?_);rintro r rfl;refine a_ (h:=e_ (q_ (w_ (m_ (h:=B1 (h:=e_ (?_)))))));refine A9 rfl (fun hb2=>?_) (fun hb2=>?_)
 ·have hc2:=bp hb2;refine w_ (a_ (h:=a_ (h:=e_ (A4 (A7 (?_))))));refine Am (r:=CP (D0 l r)) none (h5:=?_) (h6:=⟨rfl,rfl,rfl⟩);exact Dq (by simp[D0, *])
 have hc2:=bp hb2;obtain⟨k,hk,hkl⟩:=UT hc2;have hrem:D0 l r=(l.take k++l.drop (k+1),0):=by rw[D0,if_neg (by simp[hc1]),if_neg hc2,hk,Int.toNat_natCast,List.eraseIdx_eq_take_drop_succ]
 clear hb2 hc2;rw[hk];refine AA (q_ (CB ([(0,AO r)]) 12 (h:=Ap 0 (h:=Ap 1 (h:=?_)))));refine BG 2 rfl (fun _ hS=>MC (k:=k) rfl rfl rfl (by simp;omega) ⟨rfl,rfl⟩) ?_;refine Ap 4 (h:=Ap 5 (h:=Vq 6 (h:=?_)));refine BG 7 rfl (fun _ hS=>MD (l:=k+1) rfl rfl (by omega) (by simp;omega) ⟨rfl,rfl⟩) ?_;refine c_ 3 rfl (OC rfl (by repeat (first|exact Args.nil|refine Args.cons _ _ _ _ _ rfl (G0 rfl) ?_|refine Args.cons _ _ _ _ _ rfl (Gx _) ?_|refine Args.cons _ _ _ _ _ rfl (GQ _) ?_|refine Args.cons _ _ _ _ _ rfl (H0 rfl (by repeat (first|exact AZ _|exact LeA.nil _|exact LeL.refl _|refine LeA.agg ?_|refine LeA.tup ?_|exact LeL.nil|refine LeL.cons ?_ ?_|exact LeA.any _))) ?_)) (hca k) (fun _=>rfl) (by repeat constructor) ?_);refine o_ (h:=?_);refine c_ 8 rfl (AE (hcb (k+1)) ?_);rintro r rfl;refine o_ (h:=?_)
 first|refine c_ 9 rfl (E0 rfl rfl rfl (by simp<;>omega) (by repeat constructor) ?_)|refine c_ 9 rfl (E1 rfl rfl (by simp<;>omega) (by repeat constructor) ?_)
 refine o_ (h:=BN 10 (h:=BN 11 (h:=z_ (h:=t_ (A4 (?_))))));refine Am (r:=CP (D0 l r)) none (h5:=?_) (h6:=⟨rfl,rfl,rfl⟩);have:=KE hrem;rw[List.map_append]at this;exact this
end
def dQ(u:Int):Ctx:=⟨2,0,0,u,0,0,0,0,0,(0,0),⟨#[]⟩,⟨#[]⟩,false,0,0,0,0,0,0,[],0⟩
def KF:Cxs:=⟨[],[],[]⟩
structure Pol where
 rules:List Rul
 wats:List Wch
deriving DecidableEq
def BV(p:Pol):List AV:=[.sl 8 (p.rules.map AO) none, .sl 6 (p.wats.map Bo) none]
def DA:Pol:=⟨[],[]⟩
def DC(x:Pol×Int):AV:= .tup [.agg (BV x.1), .v (.int .i64 x.2)]
def CF(s:Spc)(r:Rul):Wch×Int:=if r.watch=0 then(DU,0)else if(EP s r.watch r.path).2≠0 then(DU,180)else((EP s r.watch r.path).1,0)
def GL(s:Spc)(l:List Rul):Pol×Int:=if Cf l≠0 then(DA,Cf l)else if l.all (fun r=>decide ((CF s r).2=0))=true then(⟨l,l.map fun r=>(CF s r).1⟩,0)else(DA,180)
def CQ(s:Spc)(p:Pol)(r:Rul)(front:Bool):Pol×Int:=
 if(BX p.rules r front).2≠0 then(DA,(BX p.rules r front).2)else if(CF s r).2≠0 then(DA,(CF s r).2)
 else(⟨(BX p.rules r front).1,if front=true then(CF s r).1::p.wats else p.wats++[(CF s r).1]⟩,0)
def Eb(p:Pol)(r:Rul):Pol×Int:=if(D0 p.rules r).2≠0 then(DA,(D0 p.rules r).2)else(⟨(D0 p.rules r).1,p.wats.eraseIdx (CL p.rules r).toNat⟩,0)
def EQ(s:Spc)(r:Rul)(w:Wch):Bool:=if r.watch=0 then decide (w=DU)else decide (w.kind=r.watch)&&Dx s w
def GM(s:Spc)(p:Pol):Bool:=decide (Cf p.rules=0)&&decide (p.wats.length=p.rules.length)&&(p.rules.zip p.wats).all fun x=>EQ s x.1 x.2
theorem dR(s:Spc)(r:Rul):(CF s r).2=0∨(CF s r).2=180:=by
 unfold CF;split
 ·exact .inl rfl
 split
 ·exact .inr rfl
 exact .inl rfl
section
theorem QH(s:Spc)(r:Rul)(hv:SpcV s)(hm:s.mounts.length≤1000)(hr:CN r):AFn prog 86 [.agg (Ag s), .agg (AO r)] (fun x=>x=Na (CF s r)):=by
 obtain⟨F,hF⟩:∃F,EP s r.watch r.path=F:=⟨_,rfl⟩;have hplc:AFn prog 128 [.agg (Ag s), .v (.int .i64 r.watch), .v (.string r.path)] (fun x=>x= .tup [.agg (Bo F.1), .v (.int .i64 F.2)]):=by rw[←hF];exact cR s r.watch r.path hv hm hr.2.2.1
 have hw:CF s r=if r.watch=0 then(DU,0)else if F.2≠0 then(DU,180)else(F.1,0):=by rw[CF,hF]
 refine enter Tryz.func86 rfl rfl rfl rfl rfl 0 rfl ?_;refine w_ (b_ (h:=b_ (h:=Aa (h:=a_ (h:=e_ (q_ (w_ (f_ (h:=l_ (h:=AN (h:=e_ (?_))))))))))));refine A9 rfl (fun hb1=>?_) (fun hb1=>?_)
 ·have hc1:=bp hb1;have k1:r.watch=0:=hc1;refine w_ (Ab (h:=s_ (h:=a_ (h:=e_ (A4 (A7 (?_)))))));refine A8 ?_;rw[hw,if_pos k1];rfl
 have hc1:=bp hb1;have k1:¬r.watch=0:=hc1;refine AA (w_ (l_ (h:=f_ (h:=l_ (h:=f_ (h:=l_ (h:=?_)))))));refine A6 rfl (AE (hplc) ?_);rintro r rfl;refine m_ (h:=x_ (h:=x_ (h:=Aa (h:=s_ (h:=a_ (h:=e_ (q_ (w_ (m_ (h:=Aj (h:=e_ (?_))))))))))));refine A9 rfl (fun hb2=>?_) (fun hb2=>?_)
 ·have hc2:=bp hb2;have k2:F.2≠0:=by simpa using hc2
  refine w_ (Ab (h:=s_ (h:=a_ (h:=e_ (A4 (A7 (?_)))))));refine A8 ?_;rw[hw,if_neg k1,if_pos k2];rfl
 have hc2:=bp hb2;have k2:¬F.2≠0:=by simpa using hc2
 refine AA (w_ (l_ (h:=s_ (h:=a_ (h:=e_ (A4 (?_)))))));refine A8 ?_;rw[hw,if_neg k1,if_neg k2];rfl
theorem UV(s:Spc)(r:Rul)(hv:SpcV s)(hm:s.mounts.length≤1000)(hr:CN r):AFn prog 90 [.agg (AO r), .agg (Ag s)] (fun x=>x=Na (CF s r)):=by
 obtain⟨F,hF⟩:∃F,EP s r.watch r.path=F:=⟨_,rfl⟩;have hplc:AFn prog 130 [.agg (Ag s), .v (.int .i64 r.watch), .v (.string r.path)] (fun x=>x= .tup [.agg (Bo F.1), .v (.int .i64 F.2)]):=by rw[←hF];exact cQ s r.watch r.path hv hm hr.2.2.1
 have hw:CF s r=if r.watch=0 then(DU,0)else if F.2≠0 then(DU,180)else(F.1,0):=by rw[CF,hF]
 refine enter Tryz.func90 rfl rfl rfl rfl rfl 0 rfl ?_;refine w_ (b_ (h:=b_ (h:=Aa (h:=a_ (h:=e_ (q_ (w_ (f_ (h:=l_ (h:=AN (h:=e_ (?_))))))))))));refine A9 rfl (fun hb1=>?_) (fun hb1=>?_)
 ·have hc1:=bp hb1;have k1:r.watch=0:=hc1;refine w_ (Ab (h:=s_ (h:=a_ (h:=e_ (A4 (A7 (?_)))))));refine A8 ?_;rw[hw,if_pos k1];rfl
 have hc1:=bp hb1;have k1:¬r.watch=0:=hc1;refine AA (w_ (l_ (h:=f_ (h:=l_ (h:=f_ (h:=l_ (h:=?_)))))));refine A6 rfl (AE (hplc) ?_);rintro r rfl;refine m_ (h:=x_ (h:=x_ (h:=Aa (h:=s_ (h:=a_ (h:=e_ (q_ (w_ (m_ (h:=Aj (h:=e_ (?_))))))))))));refine A9 rfl (fun hb2=>?_) (fun hb2=>?_)
 ·have hc2:=bp hb2;have k2:F.2≠0:=by simpa using hc2
  refine w_ (Ab (h:=s_ (h:=a_ (h:=e_ (A4 (A7 (?_)))))));refine A8 ?_;rw[hw,if_neg k1,if_pos k2];rfl
 have hc2:=bp hb2;have k2:¬F.2≠0:=by simpa using hc2
 refine AA (w_ (l_ (h:=s_ (h:=a_ (h:=e_ (A4 (?_)))))));refine A8 ?_;rw[hw,if_neg k1,if_neg k2];rfl
theorem Ng(p:Pol)(i:Nat)(x:Wch)(hl:p.wats.length≤1000)(hx:p.wats[i]?=some x):AFn prog 70 [.agg (BV p), .v (.int .i64 (i:Int))] (fun r=>r= .agg (Bo x)):=by
 have hlt:i<p.wats.length:=(Al.1 hx).1;have hrow:(p.wats.map Bo)[i]?=some (Bo x):=by rw[List.getElem?_map,hx];rfl
 refine enter Tryz.func70 rfl rfl rfl rfl rfl 0 rfl ?_;refine w_ (b_ (h:=Aa (h:=e_ (q_ (w_ (m_ (h:=B1 (h:=m_ (h:=?_)))))))));refine AU false rfl rfl (fun hb1=>?_) (fun hb1=>?_)
 ·have hc1:=bp hb1;exfalso;first|contradiction|omega
 have hc1:=bp hb1;refine m_ (h:=f_ (h:=l_ (h:=n_ (h:=D4 (h:=AG (h:=e_ (?_)))))));refine A9 rfl (fun hb2=>?_) (fun hb2=>?_)
 ·have hc2:=bp hb2;have hc2:=bp hb2;simp at hc2;omega
 have hc2:=bp hb2;refine AA (w_ (f_ (h:=l_ (h:=m_ (h:=i_ (h:=l_ (h:=s_ (h:=e_ (A4 (?_))))))))));refine A8 ?_;rfl
theorem dS(r:Rul)(hr:r.tests.length≤1000):AFn prog 87 [.agg (AO r)] (fun x=>x= .agg (AO r)):=by
 refine enter Tryz.func87 rfl rfl rfl rfl rfl 0 rfl ?_;refine w_ (b_ (h:=Aa (h:=e_ (w_ (f_ (h:=l_ (h:=?_)))))));refine A6 rfl (AE (UM r.tests hr) ?_);rintro r rfl;refine f_ (h:=s_ (h:=e_ (w_ (l_ (h:=s_ (h:=e_ (A4 (?_))))))));refine A8 ?_;rfl
end
end Go.Proofs.YtbgnigjfkbmceaaGreatDoor
