/-
  Part 15 of the proof of FilterLoadsP: what the statement's proof uses of the texts in wip/tpl.
-/
import Derived.Test.YtbgnigjfkbmceaaGreatDoorQd14
open Go.Proofs.Tryz (prog)
set_option maxRecDepth 10000
set_option maxHeartbeats 4000000
set_option linter.unusedVariables false
set_option linter.unusedSimpArgs false
namespace Go.Proofs.YtbgnigjfkbmceaaGreatDoor
open Go.RowKit
theorem cC(x:BitVec 64):(x &&& ~~~ 4294967295#64)=0#64↔x.toNat<4294967296:=by
 have hc:(x &&& 4294967295#64).toNat=x.toNat % 4294967296:=by
  rw[BitVec.toNat_and];exact Nat.and_two_pow_sub_one_eq_mod x.toNat 32
 have hs:x=(x &&& 4294967295#64) ||| (x &&& ~~~ 4294967295#64):=by
  apply BitVec.eq_of_getLsbD_eq;intro i hi;simp only[BitVec.getLsbD_or,BitVec.getLsbD_and,BitVec.getLsbD_not,hi];cases x.getLsbD i<;>cases (4294967295#64).getLsbD i<;>simp
 constructor
 ·intro h;rw[h,BitVec.or_zero]at hs;have:=congrArg BitVec.toNat hs;omega
 intro h
 have e:x &&& 4294967295#64=x:=by
  apply BitVec.eq_of_toNat_eq;rw[hc];omega
 rw[←e,BitVec.and_assoc];have:(4294967295#64 &&& ~~~ 4294967295#64)=0#64:=by decide
 rw[this,BitVec.and_zero]
theorem cF{m:Int}(h1:0≤m)(h2:m<18446744073709551616):MN .u64 m 4294967295=0↔m<4294967296:=by
 have e:MN .u64 m 4294967295=(((BitVec.ofInt 64 m &&& ~~~ 4294967295#64).toNat:Nat):Int):=by
  show IntKind.u64.wrap ((BitVec.ofInt 64 m &&& ~~~ 4294967295#64).toNat:Nat)=_;have h:=(BitVec.ofInt 64 m &&& ~~~ 4294967295#64).isLt;generalize (BitVec.ofInt 64 m &&& ~~~ 4294967295#64).toNat=n at h;simp only[IntKind.wrap,IntKind.signed,IntKind.bits];simp;omega
 rw[e]
 have hn:(BitVec.ofInt 64 m).toNat=m.toNat:=by
  rw[BitVec.toNat_ofInt];omega
 have h:=cC (BitVec.ofInt 64 m);rw[hn]at h;constructor
 ·intro k;have:(BitVec.ofInt 64 m &&& ~~~ 4294967295#64)=0#64:=BitVec.eq_of_toNat_eq (by simpa using Int.ofNat_inj.1 k);have:=h.1 this;omega
 intro k;rw[h.2 (by omega)];rfl
theorem cG{m:Int}(h1:0≤m):KW .u64 m 32=0↔m<4294967296:=by
 show m.fdiv (2 ^ min (32:Int).toNat 64)=0↔_;rw[show((2:Int) ^ min (32:Int).toNat 64)=4294967296 by decide,Int.fdiv_eq_ediv_of_nonneg _ (by omega)];omega
def Cb(r:Rul):Prop:=0≤r.calls∧r.calls<18446744073709551616∧r.path.size≤50000∧r.tests.length≤1000
def C4(r:Rul):Bool:=
 if r.watch=0 then decide (r.path=⟨#[]⟩∧r.perm=0)
 else decide ((r.watch=1∨r.watch=2)∧r.list=3∧D2 r.path.data.toList=true∧(r.path.size:Int)≤128∧1≤r.perm∧r.perm≤15)
def FY(list:Int):List Tst→Int
 |[]=>0
 |t::ts=>if BQ t list=0 then FY list ts else BQ t list
theorem NU{list:Int}{l:List Tst}{j:Nat}{t:Tst}(ht:l[j]?=some t):FY list (l.drop j)=if BQ t list=0 then FY list (l.drop (j+1))else BQ t list:=by
 obtain⟨hk,e⟩:=Ah.1 ht;rw[List.drop_eq_getElem_cons hk,FY,e]
theorem UC{list:Int}{l:List Tst}:FY list (l.drop l.length)=0:=by simp[FY]
def DU(r:Rul):Bool:=if r.list=2∨r.list=3 then decide (r.calls=0∨¬r.calls<4294967296)else decide (r.calls≠0)
def BC(r:Rul):Int:=
 if r.list<1∨5<r.list then 130 else if r.action≠1∧r.action≠2 then 131 else if DU r=true then 132 else if 8<(r.tests.length:Int)then 133
 else if FY r.list r.tests≠0 then FY r.list r.tests else if C4 r=false then 134 else if 31<(r.key.size:Int)then 135 else 0
section
theorem cH(f:Int):AFn prog 166 [.v (.int .i64 f)] (fun r=>r= .v (.bool (decide (f=2∨f=3)))):=by
 refine enter Tryz.func166 rfl rfl rfl rfl rfl 0 rfl ?_;refine w_ (a_ (h:=e_ (w_ (m_ (h:=AN (h:=m_ (h:=?_)))))));refine AR false rfl rfl (fun hb1=>?_) (fun hb1=>?_)
 ·have hc1:=bp hb1;refine A3 (h:=A3 (h:=AB (h:=a_ (h:=e_ (A4 (?_))))));refine A8 ?_
  first|(exfalso;first|contradiction|omega)|(exact vb (by simp[*]))
 have hc1:=bp hb1;refine m_ (h:=AN (h:=AF (h:=a_ (h:=e_ (A4 (?_))))));refine A8 ?_
 first|(exfalso;first|contradiction|omega)|(exact vb (by simp[*]))
theorem cJ(m:Int)(h1:0≤m)(h2:m<18446744073709551616):AFn prog 167 [.v (.int .u64 m)] (fun r=>r= .v (.bool (decide (m<4294967296)))):=by
 refine enter Tryz.func167 rfl rfl rfl rfl rfl 0 rfl ?_;refine w_ (a_ (h:=e_ (w_ (m_ (h:=at_ (h:=AN (h:=a_ (h:=e_ (A4 (?_))))))))));refine A8 ?_
 first|(exfalso;first|contradiction|omega)|(exact vb (by exact decide_eq_decide.2 (cF h1 h2)))
theorem cK(m:Int)(h1:0≤m):AFn prog 154 [.v (.int .u64 m)] (fun r=>r= .v (.bool (decide (m<4294967296)))):=by
 refine enter Tryz.func154 rfl rfl rfl rfl rfl 0 rfl ?_;refine w_ (a_ (h:=e_ (w_ (m_ (h:=RF (h:=AN (h:=a_ (h:=e_ (A4 (?_))))))))));refine A8 ?_
 first|(exfalso;first|contradiction|omega)|(exact vb (by exact decide_eq_decide.2 (cG h1)))
theorem cL(r:Rul)(hp:r.path.size≤50000):AFn prog 168 [.agg (Aa r)] (fun x=>x= .v (.bool (C4 r))):=by
 refine enter Tryz.func168 rfl rfl rfl rfl rfl 0 rfl ?_;refine w_ (b_ (h:=a_ (h:=e_ (q_ (w_ (f_ (h:=l_ (h:=e_ (Af (w_ (AN (h:=a_ (h:=e_ (?_))))))))))))));refine A9 rfl (fun hb1=>?_) (fun hb1=>?_)
 ·have hc1:=bp hb1;refine w_ (f_ (h:=l_ (h:=AN (h:=m_ (h:=?_)))));refine AR true rfl rfl (fun hb2=>?_) (fun hb2=>?_)
  ·have hc2:=bp hb2;refine f_ (h:=l_ (h:=AN (h:=AB (h:=a_ (h:=e_ (A4 (AP (A7 (?_)))))))));refine A8 ?_
   first|(exfalso;first|contradiction|omega)|(exact vb (by unfold C4;simp[*]))
  have hc2:=bp hb2;refine A3 (h:=A3 (h:=A3 (h:=AF (h:=a_ (h:=e_ (A4 (AP (A7 (?_)))))))));refine A8 ?_
  first|(exfalso;first|contradiction|omega)|(exact vb (by unfold C4;simp[*]))
 have hc1:=bp hb1;refine q_ (w_ (AN (h:=a_ (h:=e_ (?_)))));refine A9 rfl (fun hb3=>?_) (fun hb3=>?_)
 ·have hc3:=bp hb3;refine AE (B2 (h:=w_ (f_ (h:=l_ (h:=AN (h:=m_ (h:=?_)))))));refine AR true rfl rfl (fun hb4=>?_) (fun hb4=>?_)
  ·have hc4:=bp hb4;refine f_ (h:=l_ (h:=?_));refine Av (AJ (NT r.path (by omega)) ?_);rintro r rfl;refine AB (h:=m_ (h:=?_));refine AR true rfl rfl (fun hb5=>?_) (fun hb5=>?_)
   ·have hc5:=bp hb5;refine f_ (h:=l_ (h:=n_ (h:=EC (h:=AB (h:=m_ (h:=?_))))));refine AR true rfl rfl (fun hb6=>?_) (fun hb6=>?_)
    ·have hc6:=bp hb6;refine f_ (h:=l_ (h:=DL (h:=AB (h:=m_ (h:=?_)))));refine AR true rfl rfl (fun hb7=>?_) (fun hb7=>?_)
     ·have hc7:=bp hb7;refine f_ (h:=l_ (h:=EC (h:=AB (h:=a_ (h:=e_ (A4 (AP (A7 (?_)))))))));refine A8 ?_
      first|(exfalso;first|contradiction|omega)|(exact vb (by unfold C4;simp[*]))
     have hc7:=bp hb7;refine A3 (h:=A3 (h:=A3 (h:=AF (h:=a_ (h:=e_ (A4 (AP (A7 (?_)))))))));refine A8 ?_
     first|(exfalso;first|contradiction|omega)|(exact vb (by unfold C4;simp[*]))
    have hc6:=bp hb6;refine A3 (h:=A3 (h:=A3 (h:=AF (h:=m_ (h:=A3 (h:=A3 (h:=A3 (h:=AF (h:=a_ (h:=e_ (A4 (AP (A7 (?_))))))))))))));refine A8 ?_
    first|(exfalso;first|contradiction|omega)|(exact vb (by unfold C4;simp[*]))
   have hc5:=bp hb5;refine A3 (h:=A3 (h:=A3 (h:=A3 (h:=AF (h:=m_ (h:=A3 (h:=A3 (h:=A3 (h:=AF (h:=m_ (h:=A3 (h:=A3 (h:=A3 (h:=AF (h:=a_ (h:=e_ (A4 (AP (A7 (?_))))))))))))))))))));refine A8 ?_
   first|(exfalso;first|contradiction|omega)|(exact vb (by unfold C4;simp[*]))
  have hc4:=bp hb4;refine A3 (h:=A3 (h:=A3 (h:=AF (h:=m_ (h:=A3 (h:=A3 (h:=A3 (h:=A3 (h:=AF (h:=m_ (h:=A3 (h:=A3 (h:=A3 (h:=AF (h:=m_ (h:=A3 (h:=A3 (h:=A3 (h:=AF (h:=a_ (h:=e_ (A4 (AP (?_))))))))))))))))))))))));refine A7 (?_);refine A8 ?_
  first|(exfalso;first|contradiction|omega)|(exact vb (by unfold C4;simp[*]))
 have hc3:=bp hb3;refine AW (AN (h:=a_ (h:=e_ (?_))));refine A9 rfl (fun hb8=>?_) (fun hb8=>?_)
 ·have hc8:=bp hb8;refine w_ (f_ (h:=l_ (h:=AN (h:=m_ (h:=?_)))));refine AR true rfl rfl (fun hb9=>?_) (fun hb9=>?_)
  ·have hc9:=bp hb9;refine f_ (h:=l_ (h:=?_));refine Av (AJ (NT r.path (by omega)) ?_);rintro r rfl;refine AB (h:=m_ (h:=?_));refine AR true rfl rfl (fun hb10=>?_) (fun hb10=>?_)
   ·have hc10:=bp hb10;refine f_ (h:=l_ (h:=n_ (h:=EC (h:=AB (h:=m_ (h:=?_))))));refine AR true rfl rfl (fun hb11=>?_) (fun hb11=>?_)
    ·have hc11:=bp hb11;refine f_ (h:=l_ (h:=DL (h:=AB (h:=m_ (h:=?_)))));refine AR true rfl rfl (fun hb12=>?_) (fun hb12=>?_)
     ·have hc12:=bp hb12;refine f_ (h:=l_ (h:=EC (h:=AB (h:=a_ (h:=e_ (A4 (AP (A7 (?_)))))))));refine A8 ?_
      first|(exfalso;first|contradiction|omega)|(exact vb (by unfold C4;simp[*]))
     have hc12:=bp hb12;refine A3 (h:=A3 (h:=A3 (h:=AF (h:=a_ (h:=e_ (A4 (AP (A7 (?_)))))))));refine A8 ?_
     first|(exfalso;first|contradiction|omega)|(exact vb (by unfold C4;simp[*]))
    have hc11:=bp hb11;refine A3 (h:=A3 (h:=A3 (h:=AF (h:=m_ (h:=A3 (h:=A3 (h:=A3 (h:=AF (h:=a_ (h:=e_ (A4 (AP (A7 (?_))))))))))))));refine A8 ?_
    first|(exfalso;first|contradiction|omega)|(exact vb (by unfold C4;simp[*]))
   have hc10:=bp hb10;refine A3 (h:=A3 (h:=A3 (h:=A3 (h:=AF (h:=m_ (h:=A3 (h:=A3 (h:=A3 (h:=AF (h:=m_ (h:=A3 (h:=A3 (h:=A3 (h:=AF (h:=a_ (h:=e_ (A4 (AP (A7 (?_))))))))))))))))))));refine A8 ?_
   first|(exfalso;first|contradiction|omega)|(exact vb (by unfold C4;simp[*]))
  have hc9:=bp hb9;refine A3 (h:=A3 (h:=A3 (h:=AF (h:=m_ (h:=A3 (h:=A3 (h:=A3 (h:=A3 (h:=AF (h:=m_ (h:=A3 (h:=A3 (h:=A3 (h:=AF (h:=m_ (h:=A3 (h:=A3 (h:=A3 (h:=AF (h:=a_ (h:=e_ (A4 (AP (?_))))))))))))))))))))))));refine A7 (?_);refine A8 ?_
  first|(exfalso;first|contradiction|omega)|(exact vb (by unfold C4;simp[*]))
 have hc8:=bp hb8;refine Aw (Al (t_ (w_ (a_ (h:=e_ (A4 (?_)))))));refine A8 ?_
 first|(exfalso;first|contradiction|omega)|(exact vb (by unfold C4;simp[*]))
theorem cM(r:Rul)(hr:Cb r):AFn prog 116 [.agg (Aa r)] (fun x=>x= .v (.int .i64 (BC r))):=by
 obtain⟨m1,m2,hp,hl⟩:=hr;refine enter Tryz.func116 rfl rfl rfl rfl rfl 0 rfl ?_;refine w_ (b_ (h:=a_ (h:=e_ (q_ (w_ (f_ (h:=l_ (h:=B1 (h:=m_ (h:=?_))))))))));refine AR false rfl rfl (fun hb1=>?_) (fun hb1=>?_)
 ·have hc1:=bp hb1;refine A3 (h:=A3 (h:=A3 (h:=AB (h:=e_ (B2 (h:=w_ (a_ (h:=e_ (A4 (A7 (?_)))))))))));refine A8 ?_
  first|(exfalso;first|contradiction|omega)|(exact vi (by first|(unfold BC;grind)|(unfold BC DU;grind)))
 have hc1:=bp hb1;refine f_ (h:=l_ (h:=Bb (h:=AF (h:=e_ (?_)))));refine A9 rfl (fun hb2=>?_) (fun hb2=>?_)
 ·have hc2:=bp hb2;refine w_ (a_ (h:=e_ (A4 (A7 (?_)))));refine A8 ?_
  first|(exfalso;first|contradiction|omega)|(exact vi (by first|(unfold BC;grind)|(unfold BC DU;grind)))
 have hc2:=bp hb2;refine AE (?_);refine MM (⟨look [(1, .bp 0 0),(2, .v (.int .i64 0))],⟨[Aa r],[]⟩⟩) (¬(r.action≠1∧r.action≠2)) ?_ (fun hA=>?_)
 ·skip
  refine w_ (f_ (h:=l_ (h:=Ao (h:=m_ (h:=?_)))));refine AR true rfl rfl (fun hb3=>?_) (fun hb3=>?_)
  ·have hc3:=bp hb3;refine f_ (h:=l_ (h:=Ao (h:=AB (h:=e_ (?_)))));refine A9 rfl (fun hb4=>?_) (fun hb4=>?_)
   ·have hc4:=bp hb4;refine w_ (a_ (h:=e_ (A4 (A7 (?_)))));refine A8 ?_
    first|(exfalso;first|contradiction|omega)|(exact vi (by first|(unfold BC;grind)|(unfold BC DU;grind)))
   have hc4:=bp hb4;refine Aw (?_);refine AK ?_
   first|(exfalso;first|contradiction|omega)|exact⟨(by omega),Cw 1 0 rfl⟩
  have hc3:=bp hb3;refine A3 (h:=A3 (h:=A3 (h:=AF (h:=e_ (Be (h:=Aw (?_)))))));refine AK ?_
  first|(exfalso;first|contradiction|omega)|exact⟨(by omega),Cw 1 0 rfl⟩
 skip
 refine MM (⟨look [(1, .bp 0 0),(2, .v (.int .i64 0))],⟨[Aa r],[]⟩⟩) (DU r=false) ?_ (fun hB=>?_)
 ·skip
  refine w_ (f_ (h:=l_ (h:=?_)));refine A6 rfl (AJ (cH _) ?_);rintro r rfl;refine e_ (?_);refine A9 rfl (fun hb5=>?_) (fun hb5=>?_)
  ·have hc5:=bp hb5;refine w_ (f_ (h:=l_ (h:=AN (h:=m_ (h:=?_)))));refine AR false rfl rfl (fun hb6=>?_) (fun hb6=>?_)
   ·have hc6:=bp hb6;refine A3 (h:=A3 (h:=A3 (h:=A3 (h:=AB (h:=e_ (B2 (h:=w_ (a_ (h:=e_ (A4 (A7 (?_))))))))))));refine A8 ?_
    first|(exfalso;first|contradiction|omega)|(exact vi (by first|(unfold BC;grind)|(unfold BC DU;grind)))
   have hc6:=bp hb6;refine f_ (h:=l_ (h:=?_));refine Av (AJ (cJ _ m1 m2) ?_);rintro r rfl;refine BB (h:=AF (h:=e_ (?_)));refine A9 rfl (fun hb7=>?_) (fun hb7=>?_)
   ·have hc7:=bp hb7;refine w_ (a_ (h:=e_ (A4 (A7 (?_)))));refine A8 ?_
    first|(exfalso;first|contradiction|omega)|(exact vi (by first|(unfold BC;grind)|(unfold BC DU;grind)))
   have hc7:=bp hb7;refine Aw (?_);refine AK ?_
   first|(exfalso;first|contradiction|omega)|exact⟨(by unfold DU;grind),Cw 1 0 rfl⟩
  have hc5:=bp hb5;refine w_ (f_ (h:=l_ (h:=Ao (h:=e_ (?_)))));refine A9 rfl (fun hb8=>?_) (fun hb8=>?_)
  ·have hc8:=bp hb8;refine w_ (a_ (h:=e_ (A4 (A7 (?_)))));refine A8 ?_
   first|(exfalso;first|contradiction|omega)|(exact vi (by first|(unfold BC;grind)|(unfold BC DU;grind)))
  have hc8:=bp hb8;refine Aw (?_);refine AK ?_
  first|(exfalso;first|contradiction|omega)|exact⟨(by unfold DU;grind),Cw 1 0 rfl⟩
 skip
 refine q_ (w_ (f_ (h:=l_ (h:=n_ (h:=Bb (h:=e_ (?_)))))));refine A9 rfl (fun hb9=>?_) (fun hb9=>?_)
 ·have hc9:=bp hb9;refine w_ (a_ (h:=e_ (A4 (A7 (?_)))));refine A8 ?_
  first|(exfalso;first|contradiction|omega)|(exact vi (by first|(unfold BC;grind)|(unfold BC DU;grind)))
 have hc9:=bp hb9;rw[List.length_map]at hc9;refine AE (q_ (w_ (f_ (h:=l_ (h:=n_ (h:=m_ (h:=e_ (Af (?_)))))))));refine BW (fun n s=>∃j:Nat,j≤r.tests.length∧n=r.tests.length - j∧FY r.list (r.tests.drop j)=FY r.list r.tests∧s=⟨look [(1, .bp 0 0),(2, .v (.int .i64 0)),(42, .sl 5 (r.tests.map CF) none),(43, .v (.int .i64 ((r.tests.map CF).length:Int))),(44, .v (.int .i64 (j:Int)))],⟨[Aa r],[]⟩⟩) (r.tests.length) ((wk 1 0)) (⟨0,by omega,rfl,rfl,rfl⟩) ?_;rintro n s ⟨j,hj,rfl,ha,rfl⟩;refine w_ (B1 (h:=e_ (q_ (?_))));refine A9 rfl (fun hb10=>?_) (fun hb10=>?_)
 ·have hc10:=bp hb10;obtain⟨hlt,t,hy,hrow, -⟩:=Bv CF hc10;refine AE (q_ (Af (w_ (i_ (h:=l_ (h:=Ac (h:=s_ (h:=e_ (w_ (l_ (h:=f_ (h:=l_ (h:=?_)))))))))))));refine A6 rfl (AJ (RW t _) ?_);rintro r rfl;refine a_ (h:=e_ (w_ (m_ (h:=Ao (h:=e_ (?_))))));refine A9 rfl (fun hb11=>?_) (fun hb11=>?_)
  ·have hc11:=bp hb11;rw[NU hy,if_neg hc11]at ha;refine w_ (m_ (h:=a_ (h:=e_ (A4 (AP (A7 (A7 (AP (A7 (?_))))))))));refine A8 ?_
   first|(exfalso;first|contradiction|omega)|(exact vi (by first|(unfold BC;grind)|(unfold BC DU;grind)))
  have hc11:=bp hb11;refine Aw (Al (t_ (AW (BE (h:=m_ (h:=AQ (?_)))))));refine AK ?_;refine⟨_,_,?_,⟨j+1,by omega,rfl,(by rw[←ha,NU hy,if_pos (by omega)]),rfl⟩,(wk 1 0)⟩;omega
 have hc10:=bp hb10;have e:=CM CF hj hc10;subst e;rw[UC]at ha;refine BL (Ai (Ai (BM (t_ (q_ (w_ (l_ (h:=?_))))))));refine A6 rfl (AJ (cL r hp) ?_);rintro r rfl;refine BB (h:=e_ (?_));refine A9 rfl (fun hb12=>?_) (fun hb12=>?_)
 ·have hc12:=bp hb12;refine w_ (a_ (h:=e_ (A4 (A7 (?_)))));refine A8 ?_
  first|(exfalso;first|contradiction|omega)|(exact vi (by first|(unfold BC;grind)|(unfold BC DU;grind)))
 have hc12:=bp hb12;refine AE (q_ (w_ (f_ (h:=l_ (h:=n_ (h:=Bb (h:=e_ (?_))))))));refine A9 rfl (fun hb13=>?_) (fun hb13=>?_)
 ·have hc13:=bp hb13;refine w_ (a_ (h:=e_ (A4 (A7 (?_)))));refine A8 ?_
  first|(exfalso;first|contradiction|omega)|(exact vi (by first|(unfold BC;grind)|(unfold BC DU;grind)))
 have hc13:=bp hb13;refine AE (w_ (a_ (h:=e_ (A4 (?_)))));refine A8 ?_
 first|(exfalso;first|contradiction|omega)|(exact vi (by first|(unfold BC;grind)|(unfold BC DU;grind)))
theorem K8(r:Rul)(hr:Cb r):AFn prog 105 [.agg (Aa r)] (fun x=>x= .v (.int .i64 (BC r))):=by
 obtain⟨m1,m2,hp,hl⟩:=hr;refine enter Tryz.func105 rfl rfl rfl rfl rfl 0 rfl ?_;refine w_ (b_ (h:=a_ (h:=e_ (q_ (w_ (f_ (h:=l_ (h:=B1 (h:=m_ (h:=?_))))))))));refine AR false rfl rfl (fun hb1=>?_) (fun hb1=>?_)
 ·have hc1:=bp hb1;refine A3 (h:=A3 (h:=A3 (h:=AB (h:=e_ (B2 (h:=w_ (a_ (h:=e_ (A4 (A7 (?_)))))))))));refine A8 ?_
  first|(exfalso;first|contradiction|omega)|(exact vi (by first|(unfold BC;grind)|(unfold BC C4;grind)))
 have hc1:=bp hb1;refine f_ (h:=l_ (h:=Bb (h:=AF (h:=e_ (?_)))));refine A9 rfl (fun hb2=>?_) (fun hb2=>?_)
 ·have hc2:=bp hb2;refine w_ (a_ (h:=e_ (A4 (A7 (?_)))));refine A8 ?_
  first|(exfalso;first|contradiction|omega)|(exact vi (by first|(unfold BC;grind)|(unfold BC C4;grind)))
 have hc2:=bp hb2;refine AE (?_);refine MM (⟨look [(1, .bp 0 0),(2, .v (.int .i64 0))],⟨[Aa r],[]⟩⟩) (¬(r.action≠1∧r.action≠2)) ?_ (fun hA=>?_)
 ·skip
  refine w_ (f_ (h:=l_ (h:=Ao (h:=m_ (h:=?_)))));refine AR true rfl rfl (fun hb3=>?_) (fun hb3=>?_)
  ·have hc3:=bp hb3;refine f_ (h:=l_ (h:=Ao (h:=AB (h:=e_ (?_)))));refine A9 rfl (fun hb4=>?_) (fun hb4=>?_)
   ·have hc4:=bp hb4;refine w_ (a_ (h:=e_ (A4 (A7 (?_)))));refine A8 ?_
    first|(exfalso;first|contradiction|omega)|(exact vi (by first|(unfold BC;grind)|(unfold BC C4;grind)))
   have hc4:=bp hb4;refine Aw (?_);refine AK ?_
   first|(exfalso;first|contradiction|omega)|exact⟨(by omega),Cw 1 0 rfl⟩
  have hc3:=bp hb3;refine A3 (h:=A3 (h:=A3 (h:=AF (h:=e_ (Be (h:=Aw (?_)))))));refine AK ?_
  first|(exfalso;first|contradiction|omega)|exact⟨(by omega),Cw 1 0 rfl⟩
 skip
 refine EO (⟨look [(1, .bp 0 0),(2, .v (.int .i64 0)),(3, .v (.bool (decide (r.list=2∨r.list=3))))],⟨[Aa r],[]⟩⟩) ?_ ?_
 ·skip
  refine AW (f_ (h:=l_ (h:=AN (h:=m_ (h:=?_)))));refine AR false rfl rfl (fun hb5=>?_) (fun hb5=>?_)
  ·have hc5:=bp hb5;refine A3 (h:=A3 (h:=A3 (h:=AB (h:=a_ (h:=AQ (?_))))));refine AK ?_
   first|(exfalso;first|contradiction|omega)|exact Cw 1 0 rfl
  have hc5:=bp hb5;refine f_ (h:=l_ (h:=AN (h:=AF (h:=a_ (h:=AQ (?_))))));refine AK ?_
  first|(exfalso;first|contradiction|omega)|exact Cw 1 0 rfl
 skip
 refine q_ (?_);refine EO (⟨look [(1, .bp 0 0),(2, .v (.int .i64 0)),(50, .v (.bool (DU r)))],⟨[Aa r],[]⟩⟩) ?_ ?_
 ·skip
  refine AW (m_ (h:=m_ (h:=?_)));refine AR true rfl rfl (fun hb6=>?_) (fun hb6=>?_)
  ·have hc6:=bp hb6;refine f_ (h:=l_ (h:=AN (h:=m_ (h:=?_))));refine AR false rfl rfl (fun hb7=>?_) (fun hb7=>?_)
   ·have hc7:=bp hb7;refine A3 (h:=A3 (h:=A3 (h:=A3 (h:=AB (h:=AB (h:=m_ (h:=A3 (h:=A3 (h:=A3 (h:=AU (h:=AU (h:=AU (h:=A3 (h:=AB (h:=AQ (?_))))))))))))))));refine AK ?_
    first|(exfalso;first|contradiction|omega)|exact Az 1 0 rfl rfl rfl rfl (by repeat (first|exact Sub.nil|refine B0 rfl rfl ?_|refine B3 ?_|refine B4 rfl ?_|refine B5 rfl ?_|(apply Sub.of;(focus exact rfl);(focus exact LeA.of_eq (vb (by unfold DU;grind)));(focus exact rfl))))
   have hc7:=bp hb7;refine f_ (h:=l_ (h:=?_));refine Av (AJ (cK _ m1) ?_);rintro r rfl;refine BB (h:=AF (h:=AB (h:=m_ (h:=?_))));refine AR false rfl rfl (fun hb8=>?_) (fun hb8=>?_)
   ·have hc8:=bp hb8;refine A3 (h:=A3 (h:=A3 (h:=AU (h:=AU (h:=AU (h:=A3 (h:=AB (h:=AQ (?_)))))))));refine AK ?_
    first|(exfalso;first|contradiction|omega)|exact Az 1 0 rfl rfl rfl rfl (by repeat (first|exact Sub.nil|refine B0 rfl rfl ?_|refine B3 ?_|refine B4 rfl ?_|refine B5 rfl ?_|(apply Sub.of;(focus exact rfl);(focus exact LeA.of_eq (vb (by unfold DU;grind)));(focus exact rfl))))
   have hc8:=bp hb8;refine m_ (h:=BB (h:=m_ (h:=?_)));refine AR true rfl rfl (fun hb9=>?_) (fun hb9=>?_)
   ·have hc9:=bp hb9;refine f_ (h:=l_ (h:=Ao (h:=AB (h:=AF (h:=AQ (?_))))));refine AK ?_
    first|(exfalso;first|contradiction|omega)|exact Az 1 0 rfl rfl rfl rfl (by repeat (first|exact Sub.nil|refine B0 rfl rfl ?_|refine B3 ?_|refine B4 rfl ?_|refine B5 rfl ?_|(apply Sub.of;(focus exact rfl);(focus exact LeA.of_eq (vb (by unfold DU;grind)));(focus exact rfl))))
   have hc9:=bp hb9;refine A3 (h:=A3 (h:=A3 (h:=AF (h:=AF (h:=AQ (?_))))));refine AK ?_
   first|(exfalso;first|contradiction|omega)|exact Az 1 0 rfl rfl rfl rfl (by repeat (first|exact Sub.nil|refine B0 rfl rfl ?_|refine B3 ?_|refine B4 rfl ?_|refine B5 rfl ?_|(apply Sub.of;(focus exact rfl);(focus exact LeA.of_eq (vb (by unfold DU;grind)));(focus exact rfl))))
  have hc6:=bp hb6;refine A3 (h:=A3 (h:=A3 (h:=A3 (h:=AU (h:=AU (h:=AU (h:=AU (h:=A3 (h:=AF (h:=m_ (h:=m_ (h:=BB (h:=m_ (h:=?_))))))))))))));refine AR true rfl rfl (fun hb10=>?_) (fun hb10=>?_)
  ·have hc10:=bp hb10;refine f_ (h:=l_ (h:=Ao (h:=AB (h:=AF (h:=AQ (?_))))));refine AK ?_
   first|(exfalso;first|contradiction|omega)|exact Az 1 0 rfl rfl rfl rfl (by repeat (first|exact Sub.nil|refine B0 rfl rfl ?_|refine B3 ?_|refine B4 rfl ?_|refine B5 rfl ?_|(apply Sub.of;(focus exact rfl);(focus exact LeA.of_eq (vb (by unfold DU;grind)));(focus exact rfl))))
  have hc10:=bp hb10;refine A3 (h:=A3 (h:=A3 (h:=AF (h:=AF (h:=AQ (?_))))));refine AK ?_
  first|(exfalso;first|contradiction|omega)|exact Az 1 0 rfl rfl rfl rfl (by repeat (first|exact Sub.nil|refine B0 rfl rfl ?_|refine B3 ?_|refine B4 rfl ?_|refine B5 rfl ?_|(apply Sub.of;(focus exact rfl);(focus exact LeA.of_eq (vb (by unfold DU;grind)));(focus exact rfl))))
 skip
 refine A9 rfl (fun hb11=>?_) (fun hb11=>?_)
 ·have hc11:=bp hb11;refine w_ (a_ (h:=e_ (A4 (A7 (?_)))));refine A8 ?_
  first|(exfalso;first|contradiction|omega)|(exact vi (by first|(unfold BC;grind)|(unfold BC C4;grind)))
 have hc11:=bp hb11;refine AE (q_ (w_ (f_ (h:=l_ (h:=n_ (h:=Bb (h:=e_ (?_))))))));refine A9 rfl (fun hb12=>?_) (fun hb12=>?_)
 ·have hc12:=bp hb12;refine w_ (a_ (h:=e_ (A4 (A7 (?_)))));refine A8 ?_
  first|(exfalso;first|contradiction|omega)|(exact vi (by first|(unfold BC;grind)|(unfold BC C4;grind)))
 have hc12:=bp hb12;rw[List.length_map]at hc12;refine AE (q_ (w_ (a_ (h:=e_ (Af (?_))))));refine BW (fun n s=>∃j:Nat,j≤r.tests.length∧n=r.tests.length - j∧FY r.list (r.tests.drop j)=FY r.list r.tests∧s=⟨look [(1, .bp 0 0),(2, .v (.int .i64 0)),(4, .v (.int .i64 (j:Int)))],⟨[Aa r],[]⟩⟩) (r.tests.length) ((wk 1 0)) (⟨0,by omega,rfl,rfl,rfl⟩) ?_;rintro n s ⟨j,hj,rfl,ha,rfl⟩;refine q_ (w_ (m_ (h:=f_ (h:=l_ (h:=n_ (h:=B1 (h:=e_ (?_))))))));refine A9 rfl (fun hb13=>?_) (fun hb13=>?_)
 ·have hc13:=bp hb13;obtain⟨hlt,t,hy,hrow, -⟩:=Bv CF hc13;refine AE (q_ (Af (q_ (D7 9 (h:=Ay 0 (h:=AY 1 (h:=Ap 2 (h:=Dc 3 (h:=AY 4 (h:=Ay 5 (h:=AY 6 (h:=?_))))))))))));refine c_ 7 rfl (AJ (Vo t _) ?_);rintro r rfl;refine o_ (h:=BN 8 (h:=z_ (h:=t_ (w_ (m_ (h:=Ao (h:=e_ (?_))))))));refine A9 rfl (fun hb14=>?_) (fun hb14=>?_)
  ·have hc14:=bp hb14;rw[NU hy,if_neg hc14]at ha;refine w_ (m_ (h:=a_ (h:=e_ (A4 (AP (A7 (A7 (AP (A7 (?_))))))))));refine A8 ?_
   first|(exfalso;first|contradiction|omega)|(exact vi (by first|(unfold BC;grind)|(unfold BC C4;grind)))
  have hc14:=bp hb14;refine Aw (Al (t_ (AW (m_ (h:=BE (h:=a_ (h:=AQ (?_))))))));refine AK ?_;refine⟨_,_,?_,⟨j+1,by omega,rfl,(by rw[←ha,NU hy,if_pos (by omega)]),rfl⟩,(wk 1 0)⟩;omega
 have hc13:=bp hb13;have e:=CM CF hj hc13;subst e;rw[UC]at ha;refine BL (Ai (Ai (BM (t_ (?_)))));refine MM (⟨look [(1, .bp 0 0),(2, .v (.int .i64 0))],⟨[Aa r],[]⟩⟩) (C4 r=true) ?_ (fun hW=>?_)
 ·skip
  refine w_ (f_ (h:=l_ (h:=e_ (Af (w_ (AN (h:=a_ (h:=e_ (?_)))))))));refine A9 rfl (fun hb15=>?_) (fun hb15=>?_)
  ·have hc15:=bp hb15;refine w_ (f_ (h:=l_ (h:=Ao (h:=m_ (h:=?_)))));refine AR false rfl rfl (fun hb16=>?_) (fun hb16=>?_)
   ·have hc16:=bp hb16;refine A3 (h:=A3 (h:=A3 (h:=AB (h:=e_ (B2 (h:=w_ (a_ (h:=e_ (A4 (AP (A7 (?_))))))))))));refine A8 ?_
    first|(exfalso;first|contradiction|omega)|(exact vi (by first|(unfold BC;grind)|(unfold BC C4;grind)))
   have hc16:=bp hb16;refine f_ (h:=l_ (h:=Ao (h:=AF (h:=e_ (?_)))));refine A9 rfl (fun hb17=>?_) (fun hb17=>?_)
   ·have hc17:=bp hb17;refine w_ (a_ (h:=e_ (A4 (AP (A7 (?_))))));refine A8 ?_
    first|(exfalso;first|contradiction|omega)|(exact vi (by first|(unfold BC;grind)|(unfold BC C4;grind)))
   have hc17:=bp hb17;refine Aw (Al (?_));refine AK ?_
   first|(exfalso;first|contradiction|omega)|exact⟨(by unfold C4;grind),Cw 1 0 rfl⟩
  have hc15:=bp hb15;refine q_ (w_ (AN (h:=a_ (h:=e_ (?_)))));refine A9 rfl (fun hb18=>?_) (fun hb18=>?_)
  ·have hc18:=bp hb18;refine AE (B2 (h:=w_ (f_ (h:=l_ (h:=Ao (h:=m_ (h:=?_)))))));refine AR false rfl rfl (fun hb19=>?_) (fun hb19=>?_)
   ·have hc19:=bp hb19;refine A3 (h:=A3 (h:=A3 (h:=A3 (h:=AB (h:=m_ (h:=A3 (h:=A3 (h:=A3 (h:=A3 (h:=AB (h:=m_ (h:=A3 (h:=A3 (h:=A3 (h:=AB (h:=m_ (h:=A3 (h:=A3 (h:=A3 (h:=AB (h:=e_ (B2 (h:=w_ (?_))))))))))))))))))))))));refine a_ (h:=e_ (A4 (AP (A7 (?_)))));refine A8 ?_
    first|(exfalso;first|contradiction|omega)|(exact vi (by first|(unfold BC;grind)|(unfold BC C4;grind)))
   have hc19:=bp hb19;refine f_ (h:=l_ (h:=?_));refine Av (AJ (NA _ hp) ?_);rintro r rfl;refine BB (h:=AF (h:=m_ (h:=?_)));refine AR false rfl rfl (fun hb20=>?_) (fun hb20=>?_)
   ·have hc20:=bp hb20;refine A3 (h:=A3 (h:=A3 (h:=A3 (h:=AB (h:=m_ (h:=A3 (h:=A3 (h:=A3 (h:=AB (h:=m_ (h:=A3 (h:=A3 (h:=A3 (h:=AB (h:=e_ (B2 (h:=w_ (a_ (h:=e_ (A4 (AP (A7 (?_)))))))))))))))))))))));refine A8 ?_
    first|(exfalso;first|contradiction|omega)|(exact vi (by first|(unfold BC;grind)|(unfold BC C4;grind)))
   have hc20:=bp hb20;refine f_ (h:=l_ (h:=n_ (h:=Bb (h:=AF (h:=m_ (h:=?_))))));refine AR false rfl rfl (fun hb21=>?_) (fun hb21=>?_)
   ·have hc21:=bp hb21;refine A3 (h:=A3 (h:=A3 (h:=AB (h:=m_ (h:=A3 (h:=A3 (h:=A3 (h:=AB (h:=e_ (B2 (h:=w_ (a_ (h:=e_ (A4 (AP (A7 (?_)))))))))))))))));refine A8 ?_
    first|(exfalso;first|contradiction|omega)|(exact vi (by first|(unfold BC;grind)|(unfold BC C4;grind)))
   have hc21:=bp hb21;refine f_ (h:=l_ (h:=B1 (h:=AF (h:=m_ (h:=?_)))));refine AR false rfl rfl (fun hb22=>?_) (fun hb22=>?_)
   ·have hc22:=bp hb22;refine A3 (h:=A3 (h:=A3 (h:=AB (h:=e_ (B2 (h:=w_ (a_ (h:=e_ (A4 (AP (A7 (?_))))))))))));refine A8 ?_
    first|(exfalso;first|contradiction|omega)|(exact vi (by first|(unfold BC;grind)|(unfold BC C4;grind)))
   have hc22:=bp hb22;refine f_ (h:=l_ (h:=Bb (h:=AF (h:=e_ (?_)))));refine A9 rfl (fun hb23=>?_) (fun hb23=>?_)
   ·have hc23:=bp hb23;refine w_ (a_ (h:=e_ (A4 (AP (A7 (?_))))));refine A8 ?_
    first|(exfalso;first|contradiction|omega)|(exact vi (by first|(unfold BC;grind)|(unfold BC C4;grind)))
   have hc23:=bp hb23;refine Aw (Al (?_));refine AK ?_
   first|(exfalso;first|contradiction|omega)|exact⟨(by unfold C4;grind),Cw 1 0 rfl⟩
  have hc18:=bp hb18;refine AW (AN (h:=a_ (h:=e_ (?_))));refine A9 rfl (fun hb24=>?_) (fun hb24=>?_)
  ·have hc24:=bp hb24;refine w_ (f_ (h:=l_ (h:=Ao (h:=m_ (h:=?_)))));refine AR false rfl rfl (fun hb25=>?_) (fun hb25=>?_)
   ·have hc25:=bp hb25;refine A3 (h:=A3 (h:=A3 (h:=A3 (h:=AB (h:=m_ (h:=A3 (h:=A3 (h:=A3 (h:=A3 (h:=AB (h:=m_ (h:=A3 (h:=A3 (h:=A3 (h:=AB (h:=m_ (h:=A3 (h:=A3 (h:=A3 (h:=AB (h:=e_ (B2 (h:=w_ (?_))))))))))))))))))))))));refine a_ (h:=e_ (A4 (AP (A7 (?_)))));refine A8 ?_
    first|(exfalso;first|contradiction|omega)|(exact vi (by first|(unfold BC;grind)|(unfold BC C4;grind)))
   have hc25:=bp hb25;refine f_ (h:=l_ (h:=?_));refine Av (AJ (NA _ hp) ?_);rintro r rfl;refine BB (h:=AF (h:=m_ (h:=?_)));refine AR false rfl rfl (fun hb26=>?_) (fun hb26=>?_)
   ·have hc26:=bp hb26;refine A3 (h:=A3 (h:=A3 (h:=A3 (h:=AB (h:=m_ (h:=A3 (h:=A3 (h:=A3 (h:=AB (h:=m_ (h:=A3 (h:=A3 (h:=A3 (h:=AB (h:=e_ (B2 (h:=w_ (a_ (h:=e_ (A4 (AP (A7 (?_)))))))))))))))))))))));refine A8 ?_
    first|(exfalso;first|contradiction|omega)|(exact vi (by first|(unfold BC;grind)|(unfold BC C4;grind)))
   have hc26:=bp hb26;refine f_ (h:=l_ (h:=n_ (h:=Bb (h:=AF (h:=m_ (h:=?_))))));refine AR false rfl rfl (fun hb27=>?_) (fun hb27=>?_)
   ·have hc27:=bp hb27;refine A3 (h:=A3 (h:=A3 (h:=AB (h:=m_ (h:=A3 (h:=A3 (h:=A3 (h:=AB (h:=e_ (B2 (h:=w_ (a_ (h:=e_ (A4 (AP (A7 (?_)))))))))))))))));refine A8 ?_
    first|(exfalso;first|contradiction|omega)|(exact vi (by first|(unfold BC;grind)|(unfold BC C4;grind)))
   have hc27:=bp hb27;refine f_ (h:=l_ (h:=B1 (h:=AF (h:=m_ (h:=?_)))));refine AR false rfl rfl (fun hb28=>?_) (fun hb28=>?_)
   ·have hc28:=bp hb28;refine A3 (h:=A3 (h:=A3 (h:=AB (h:=e_ (B2 (h:=w_ (a_ (h:=e_ (A4 (AP (A7 (?_))))))))))));refine A8 ?_
    first|(exfalso;first|contradiction|omega)|(exact vi (by first|(unfold BC;grind)|(unfold BC C4;grind)))
   have hc28:=bp hb28;refine f_ (h:=l_ (h:=Bb (h:=AF (h:=e_ (?_)))));refine A9 rfl (fun hb29=>?_) (fun hb29=>?_)
   ·have hc29:=bp hb29;refine w_ (a_ (h:=e_ (A4 (AP (A7 (?_))))));refine A8 ?_
    first|(exfalso;first|contradiction|omega)|(exact vi (by first|(unfold BC;grind)|(unfold BC C4;grind)))
   have hc29:=bp hb29;refine Aw (Al (?_));refine AK ?_
   first|(exfalso;first|contradiction|omega)|exact⟨(by unfold C4;grind),Cw 1 0 rfl⟩
  have hc24:=bp hb24;refine w_ (a_ (h:=e_ (A4 (AP (A7 (?_))))));refine A8 ?_
  first|(exfalso;first|contradiction|omega)|(exact vi (by first|(unfold BC;grind)|(unfold BC C4;grind)))
 skip
 refine q_ (w_ (f_ (h:=l_ (h:=n_ (h:=Bb (h:=e_ (?_)))))));refine A9 rfl (fun hb30=>?_) (fun hb30=>?_)
 ·have hc30:=bp hb30;refine w_ (a_ (h:=e_ (A4 (A7 (?_)))));refine A8 ?_
  first|(exfalso;first|contradiction|omega)|(exact vi (by first|(unfold BC;grind)|(unfold BC C4;grind)))
 have hc30:=bp hb30;refine AE (w_ (a_ (h:=e_ (A4 (?_)))));refine A8 ?_
 first|(exfalso;first|contradiction|omega)|(exact vi (by first|(unfold BC;grind)|(unfold BC C4;grind)))
end
deriving instance DecidableEq for Tst
deriving instance DecidableEq for Rul
theorem UD(a b:ByteArray):(a.toList==b.toList)=decide (a=b):=by
 by_cases h:a=b
 ·simp[h]
 have:a.toList≠b.toList:=fun e=>h (by
  rw[ByteArray.toList_eq,ByteArray.toList_eq]at e;obtain⟨⟨x⟩⟩:=a;obtain⟨⟨y⟩⟩:=b
  simpa using e)
 simp[h,this]
theorem cO(a b:Tst):(a.fld==b.fld&&(a.op==b.op&&(a.num==b.num&&(a.text.toList==b.text.toList&&a.other==b.other))))=decide (a=b):=by
 rw[UD];obtain⟨a1,a2,a3,a4,a5⟩:=a;obtain⟨b1,b2,b3,b4,b5⟩:=b;by_cases h1:a1=b1<;>by_cases h2:a2=b2<;>by_cases h3:a3=b3<;>by_cases h4:a4=b4<;>by_cases h5:a5=b5<;>simp[h1,h2,h3,h4,h5]
theorem K9{α:Type}[DecidableEq α]{a b:List α}{j:Nat}{x y:α}(hx:a[j]?=some x)(hy:b[j]?=some y):decide (a.drop j=b.drop j)=(decide (x=y)&&decide (a.drop (j+1)=b.drop (j+1))):=by
 obtain⟨h1,e1⟩:=Ah.1 hx;obtain⟨h2,e2⟩:=Ah.1 hy;rw[List.drop_eq_getElem_cons h1,List.drop_eq_getElem_cons h2,e1,e2];by_cases h:x=y<;>simp[h]
theorem UE{α:Type}[DecidableEq α]{a b:List α}(h:a.length≠b.length):decide (a=b)=false:=by
 simp only[decide_eq_false_iff_not];intro e;exact h (by rw[e])
section
theorem UF(a b:Tst)(w:World):(binOp .neq 115 (.agg #[.int .i64 a.fld, .int .i64 a.op, .int .i64 a.num, .string a.text, .int .i64 a.other]) (.agg #[.int .i64 b.fld, .int .i64 b.op, .int .i64 b.num, .string b.text, .int .i64 b.other])).run prog w= .ok (.bool (!decide (a=b))) w:=by
 have u3:=Tryz.underlying3;have a3:=Tryz.isAgg3;have z3:=Tryz.sizeOf3;have u9:=Tryz.underlying9;have a9:=Tryz.isAgg9;have z9:=Tryz.sizeOf9;have hS:prog.underlying 115=some (.struct (prog.fieldsOf 115)):=by kernel_rfl
 have hp:prog.stoodInHeld 115=false:=by kernel_rfl
 rw[run_neq_struct,show(10000:Nat)=9999+1 from rfl,run_equalIn_agg w 9999 115 _ _ hS hp];simp only[Program.fieldsOf,Tryz.underlying115]
 go_simp
 rw[←cO];by_cases h1:a.fld=b.fld<;>by_cases h2:a.op=b.op<;>by_cases h3:a.num=b.num<;>by_cases h4:a.text.toList=b.text.toList<;>by_cases h5:a.other=b.other<;>simp[h1,h2,h3,h4,h5]
theorem cQ(a b:List Tst)(ha:a.length≤1000):AFn prog 218 [.sl 5 (a.map CF) none, .sl 5 (b.map CF) none] (fun x=>x= .v (.bool (decide (a=b)))):=by
 refine enter Tryz.func218 rfl rfl rfl rfl rfl 0 rfl ?_;refine w_ (a_ (h:=e_ (q_ (w_ (m_ (h:=n_ (h:=m_ (h:=n_ (h:=Ao (h:=e_ (?_)))))))))));refine A9 rfl (fun hb1=>?_) (fun hb1=>?_)
 ·have hc1:=bp hb1;refine w_ (a_ (h:=e_ (A4 (A7 (?_)))));refine A8 ?_
  first|(exfalso;first|contradiction|omega)|(exact vb (by rw[UE (by simp at hc1;omega)]))
 have hc1:=bp hb1;have hl:a.length=b.length:=by simp at hc1;omega
 refine AE (q_ (w_ (m_ (h:=n_ (h:=m_ (h:=e_ (Af (?_))))))));refine BW (fun n s=>∃j:Nat,j≤a.length∧n=a.length - j∧decide (a.drop j=b.drop j)=decide (a=b)∧s=⟨look [(0, .sl 5 (a.map CF) none),(1, .sl 5 (b.map CF) none),(12, .v (.int .i64 ((a.map CF).length:Int))),(13, .v (.int .i64 (j:Int)))],⟨[],[]⟩⟩) (a.length) ((wk 0 0)) (⟨0,by omega,rfl,rfl,rfl⟩) ?_;rintro n s ⟨j,hj,rfl,hd,rfl⟩;refine w_ (B1 (h:=e_ (q_ (?_))));refine A9 rfl (fun hb2=>?_) (fun hb2=>?_)
 ·have hc2:=bp hb2;obtain⟨hlt,x,hx,hrow, -⟩:=Bv CF hc2;obtain⟨hlt2,y,hy,hrow2, -⟩:=Bv CF (l:=b) (k:=j) (by simpa[hl]using hc2);refine AE (q_ (Af (w_ (m_ (h:=a_ (h:=e_ (q_ (D7 9 (h:=Ap 0 (h:=Ap 1 (h:=Dc 2 (h:=AY 3 (h:=Ap 4 (h:=Ap 5 (h:=Dc 6 (h:=AY 7 (h:=?_)))))))))))))))));refine EP (i:=8) rfl (Ea rfl rfl (by repeat constructor) (by repeat constructor) (fun w=>UF x y w) (by kernel_rfl) ⟨rfl,rfl⟩) ?_;refine z_ (h:=t_ (?_));refine A9 rfl (fun hb3=>?_) (fun hb3=>?_)
  ·have hc3:=bp hb3;refine w_ (a_ (h:=e_ (A4 (AP (A7 (A7 (AP (A7 (?_)))))))));refine A8 ?_
   first|(exfalso;first|contradiction|omega)|(exact vb (by rw[←hd,K9 hx hy];simp[hc3]))
  have hc3:=bp hb3;refine Aw (Al (t_ (AW (BE (h:=m_ (h:=AQ (?_)))))));refine AK ?_;refine⟨_,_,?_,⟨j+1,by omega,rfl,(by rw[←hd,K9 hx hy,hc3];simp),rfl⟩,(wk 0 0)⟩;omega
 have hc2:=bp hb2;have e:=CM CF hj hc2;subst e;refine BL (Ai (Ai (BM (t_ (w_ (a_ (h:=e_ (A4 (?_)))))))));refine A8 ?_
 first|(exfalso;first|contradiction|omega)|(exact vb (by rw[←hd,List.drop_length,hl,List.drop_length];rfl))
theorem cR(a:List Tst)(ha:a.length≤1000):AFn prog 129 [.sl 5 (a.map CF) none] (fun x=>x= .sl 5 (a.map CF) none):=by
 refine enter Tryz.func129 rfl rfl rfl rfl rfl 0 rfl ?_;refine w_ (a_ (h:=e_ (q_ (w_ (m_ (h:=?_))))));refine A6 rfl (VQ rfl rfl ?_);intro b hb;refine e_ (?_);refine A9 rfl (fun hb1=>?_) (fun hb1=>?_)
 ·have hc1:=bp hb1;refine w_ (a_ (h:=e_ (A4 (A7 (?_)))));refine O0 (xs:=[.v (.slice none 0 0)]) (r:= .sl 5 [] none) none (by repeat (first|exact ResA.nil|(apply ResA.tmp;(focus exact rfl))|(apply ResA.cellN;(focus exact inferInstance);(focus exact rfl);(focus exact rfl);(focus exact rfl))|(apply ResA.cell1;(focus exact inferInstance);(focus exact rfl);(focus exact rfl);(focus exact rfl)))) rfl rfl rfl (LeA.nil _) ⟨rfl,rfl,?_⟩;rw[hb hc1]
 have hc1:=bp hb1;refine AE (w_ (?_));refine A6 rfl (VS (by repeat constructor) ?_);refine m_ (h:=ES (h:=a_ (h:=e_ (A4 (?_)))));refine A8 ?_;rfl
theorem cT(a b:Rul):a=b↔a.list=b.list∧a.action=b.action∧a.calls=b.calls∧a.tests=b.tests∧a.watch=b.watch∧a.path=b.path∧a.perm=b.perm∧a.key=b.key:=by
 cases a;cases b;simp
theorem GE(a b:Rul):decide (a=b)=decide (a.list=b.list∧a.action=b.action∧a.calls=b.calls∧a.tests=b.tests∧a.watch=b.watch∧a.path=b.path∧a.perm=b.perm∧a.key=b.key):=decide_eq_decide.2 (cT a b)
theorem cU(a b:Rul)(ha:a.tests.length≤1000):AFn prog 158 [.agg (Aa a), .agg (Aa b)] (fun x=>x= .v (.bool (decide (a=b)))):=by
 refine enter Tryz.func158 rfl rfl rfl rfl rfl 0 rfl ?_;refine w_ (b_ (h:=b_ (h:=a_ (h:=e_ (w_ (f_ (h:=l_ (h:=f_ (h:=l_ (h:=AN (h:=m_ (h:=?_))))))))))));refine AR true rfl rfl (fun hb1=>?_) (fun hb1=>?_)
 ·have hc1:=bp hb1;refine f_ (h:=l_ (h:=f_ (h:=l_ (h:=AN (h:=AB (h:=m_ (h:=?_)))))));refine AR true rfl rfl (fun hb2=>?_) (fun hb2=>?_)
  ·have hc2:=bp hb2;refine f_ (h:=l_ (h:=f_ (h:=l_ (h:=AN (h:=AB (h:=m_ (h:=?_)))))));refine AR true rfl rfl (fun hb3=>?_) (fun hb3=>?_)
   ·have hc3:=bp hb3;refine f_ (h:=l_ (h:=f_ (h:=l_ (h:=?_))));refine Av (AJ (cQ a.tests b.tests ha) ?_);rintro r rfl;refine AB (h:=m_ (h:=?_));refine AR true rfl rfl (fun hb4=>?_) (fun hb4=>?_)
    ·have hc4:=bp hb4;refine f_ (h:=l_ (h:=f_ (h:=l_ (h:=AN (h:=AB (h:=m_ (h:=?_)))))));refine AR true rfl rfl (fun hb5=>?_) (fun hb5=>?_)
     ·have hc5:=bp hb5;refine f_ (h:=l_ (h:=f_ (h:=l_ (h:=AN (h:=AB (h:=m_ (h:=?_)))))));refine AR true rfl rfl (fun hb6=>?_) (fun hb6=>?_)
      ·have hc6:=bp hb6;refine f_ (h:=l_ (h:=f_ (h:=l_ (h:=AN (h:=AB (h:=m_ (h:=?_)))))));refine AR true rfl rfl (fun hb7=>?_) (fun hb7=>?_)
       ·have hc7:=bp hb7;refine f_ (h:=l_ (h:=f_ (h:=l_ (h:=AN (h:=AB (h:=a_ (h:=e_ (A4 (?_)))))))));refine A8 ?_
        first|(exfalso;first|contradiction|omega)|(exact vb (by rw[GE];simp[*]))
       have hc7:=bp hb7;refine A3 (h:=A3 (h:=A3 (h:=A3 (h:=A3 (h:=AF (h:=a_ (h:=e_ (A4 (?_)))))))));refine A8 ?_
       first|(exfalso;first|contradiction|omega)|(exact vb (by rw[GE];simp[*]))
      have hc6:=bp hb6;refine A3 (h:=A3 (h:=A3 (h:=A3 (h:=A3 (h:=AF (h:=m_ (h:=A3 (h:=A3 (h:=A3 (h:=A3 (h:=A3 (h:=AF (h:=a_ (h:=e_ (A4 (?_))))))))))))))));refine A8 ?_
      first|(exfalso;first|contradiction|omega)|(exact vb (by rw[GE];simp[*]))
     have hc5:=bp hb5;refine A3 (h:=A3 (h:=A3 (h:=A3 (h:=A3 (h:=AF (h:=m_ (h:=A3 (h:=A3 (h:=A3 (h:=A3 (h:=A3 (h:=AF (h:=m_ (h:=A3 (h:=A3 (h:=A3 (h:=A3 (h:=A3 (h:=AF (h:=a_ (h:=e_ (A4 (?_)))))))))))))))))))))));refine A8 ?_
     first|(exfalso;first|contradiction|omega)|(exact vb (by rw[GE];simp[*]))
    have hc4:=bp hb4;refine A3 (h:=A3 (h:=A3 (h:=A3 (h:=A3 (h:=AF (h:=m_ (h:=A3 (h:=A3 (h:=A3 (h:=A3 (h:=A3 (h:=AF (h:=m_ (h:=A3 (h:=A3 (h:=A3 (h:=A3 (h:=A3 (h:=AF (h:=m_ (h:=A3 (h:=A3 (h:=A3 (h:=?_))))))))))))))))))))))));refine A3 (h:=A3 (h:=AF (h:=a_ (h:=e_ (A4 (?_))))));refine A8 ?_
    first|(exfalso;first|contradiction|omega)|(exact vb (by rw[GE];simp[*]))
   have hc3:=bp hb3;refine A3 (h:=A3 (h:=A3 (h:=A3 (h:=A3 (h:=AF (h:=m_ (h:=A3 (h:=A3 (h:=A3 (h:=A3 (h:=A3 (h:=AF (h:=m_ (h:=A3 (h:=A3 (h:=A3 (h:=A3 (h:=A3 (h:=AF (h:=m_ (h:=A3 (h:=A3 (h:=A3 (h:=?_))))))))))))))))))))))));refine A3 (h:=A3 (h:=AF (h:=m_ (h:=A3 (h:=A3 (h:=A3 (h:=A3 (h:=A3 (h:=AF (h:=a_ (h:=e_ (A4 (?_)))))))))))));refine A8 ?_
   first|(exfalso;first|contradiction|omega)|(exact vb (by rw[GE];simp[*]))
  have hc2:=bp hb2;refine A3 (h:=A3 (h:=A3 (h:=A3 (h:=A3 (h:=AF (h:=m_ (h:=A3 (h:=A3 (h:=A3 (h:=A3 (h:=A3 (h:=AF (h:=m_ (h:=A3 (h:=A3 (h:=A3 (h:=A3 (h:=A3 (h:=AF (h:=m_ (h:=A3 (h:=A3 (h:=A3 (h:=?_))))))))))))))))))))))));refine A3 (h:=A3 (h:=AF (h:=m_ (h:=A3 (h:=A3 (h:=A3 (h:=A3 (h:=A3 (h:=AF (h:=m_ (h:=A3 (h:=A3 (h:=A3 (h:=A3 (h:=A3 (h:=AF (h:=a_ (h:=e_ (A4 (?_))))))))))))))))))));refine A8 ?_
  first|(exfalso;first|contradiction|omega)|(exact vb (by rw[GE];simp[*]))
 have hc1:=bp hb1;refine A3 (h:=A3 (h:=A3 (h:=A3 (h:=A3 (h:=AF (h:=m_ (h:=A3 (h:=A3 (h:=A3 (h:=A3 (h:=A3 (h:=AF (h:=m_ (h:=A3 (h:=A3 (h:=A3 (h:=A3 (h:=A3 (h:=AF (h:=m_ (h:=A3 (h:=A3 (h:=A3 (h:=?_))))))))))))))))))))))));refine A3 (h:=A3 (h:=AF (h:=m_ (h:=A3 (h:=A3 (h:=A3 (h:=A3 (h:=A3 (h:=AF (h:=m_ (h:=A3 (h:=A3 (h:=A3 (h:=A3 (h:=A3 (h:=AF (h:=m_ (h:=A3 (h:=A3 (h:=A3 (h:=A3 (h:=A3 (h:=AF (h:=?_))))))))))))))))))))))));refine a_ (h:=e_ (A4 (?_)));refine A8 ?_
 first|(exfalso;first|contradiction|omega)|(exact vb (by rw[GE];simp[*]))
theorem UG(a b:Rul)(ha:a.tests.length≤1000):AFn prog 104 [.agg (Aa a), .agg (Aa b)] (fun x=>x= .v (.bool (decide (a=b)))):=by
 refine enter Tryz.func104 rfl rfl rfl rfl rfl 0 rfl ?_;refine w_ (b_ (h:=b_ (h:=a_ (h:=e_ (q_ (?_))))));refine EO (⟨look [(2, .bp 0 0),(3, .bp 1 0),(61, .v (.bool (!decide (a.list=b.list∧a.action=b.action∧a.calls=b.calls∧a.watch=b.watch∧a.path=b.path∧a.perm=b.perm∧a.key=b.key∧(a.tests.length:Int)=(b.tests.length:Int)))))],⟨[Aa a,Aa b],[]⟩⟩) ?_ ?_
 ·skip
  refine AW (f_ (h:=l_ (h:=f_ (h:=l_ (h:=Ao (h:=m_ (h:=?_)))))));refine AR false rfl rfl (fun hb1=>?_) (fun hb1=>?_)
  ·have hc1:=bp hb1;refine A3 (h:=A3 (h:=A3 (h:=A3 (h:=A3 (h:=AB (h:=m_ (h:=A3 (h:=A3 (h:=A3 (h:=A3 (h:=A3 (h:=AB (h:=m_ (h:=A3 (h:=A3 (h:=A3 (h:=A3 (h:=A3 (h:=AB (h:=m_ (h:=A3 (h:=A3 (h:=A3 (h:=?_))))))))))))))))))))))));refine A3 (h:=A3 (h:=AB (h:=m_ (h:=A3 (h:=A3 (h:=A3 (h:=A3 (h:=A3 (h:=AB (h:=m_ (h:=A3 (h:=A3 (h:=A3 (h:=A3 (h:=A3 (h:=AB (h:=m_ (h:=A3 (h:=A3 (h:=A3 (h:=A3 (h:=A3 (h:=A3 (h:=?_))))))))))))))))))))))));refine A3 (h:=AB (h:=AQ (?_)));refine AK ?_
   first|(exfalso;first|contradiction|omega)|exact Cw 2 0 rfl
  have hc1:=bp hb1;refine f_ (h:=l_ (h:=f_ (h:=l_ (h:=Ao (h:=AF (h:=m_ (h:=?_)))))));refine AR false rfl rfl (fun hb2=>?_) (fun hb2=>?_)
  ·have hc2:=bp hb2;refine A3 (h:=A3 (h:=A3 (h:=A3 (h:=A3 (h:=AB (h:=m_ (h:=A3 (h:=A3 (h:=A3 (h:=A3 (h:=A3 (h:=AB (h:=m_ (h:=A3 (h:=A3 (h:=A3 (h:=A3 (h:=A3 (h:=AB (h:=m_ (h:=A3 (h:=A3 (h:=A3 (h:=?_))))))))))))))))))))))));refine A3 (h:=A3 (h:=AB (h:=m_ (h:=A3 (h:=A3 (h:=A3 (h:=A3 (h:=A3 (h:=AB (h:=m_ (h:=A3 (h:=A3 (h:=A3 (h:=A3 (h:=A3 (h:=A3 (h:=A3 (h:=AB (h:=AQ (?_))))))))))))))))))));refine AK ?_
   first|(exfalso;first|contradiction|omega)|exact Cw 2 0 rfl
  have hc2:=bp hb2;refine f_ (h:=l_ (h:=f_ (h:=l_ (h:=Ao (h:=AF (h:=m_ (h:=?_)))))));refine AR false rfl rfl (fun hb3=>?_) (fun hb3=>?_)
  ·have hc3:=bp hb3;refine A3 (h:=A3 (h:=A3 (h:=A3 (h:=A3 (h:=AB (h:=m_ (h:=A3 (h:=A3 (h:=A3 (h:=A3 (h:=A3 (h:=AB (h:=m_ (h:=A3 (h:=A3 (h:=A3 (h:=A3 (h:=A3 (h:=AB (h:=m_ (h:=A3 (h:=A3 (h:=A3 (h:=?_))))))))))))))))))))))));refine A3 (h:=A3 (h:=AB (h:=m_ (h:=A3 (h:=A3 (h:=A3 (h:=A3 (h:=A3 (h:=A3 (h:=A3 (h:=AB (h:=AQ (?_)))))))))))));refine AK ?_
   first|(exfalso;first|contradiction|omega)|exact Cw 2 0 rfl
  have hc3:=bp hb3;refine f_ (h:=l_ (h:=f_ (h:=l_ (h:=Ao (h:=AF (h:=m_ (h:=?_)))))));refine AR false rfl rfl (fun hb4=>?_) (fun hb4=>?_)
  ·have hc4:=bp hb4;refine A3 (h:=A3 (h:=A3 (h:=A3 (h:=A3 (h:=AB (h:=m_ (h:=A3 (h:=A3 (h:=A3 (h:=A3 (h:=A3 (h:=AB (h:=m_ (h:=A3 (h:=A3 (h:=A3 (h:=A3 (h:=A3 (h:=AB (h:=m_ (h:=A3 (h:=A3 (h:=A3 (h:=?_))))))))))))))))))))))));refine A3 (h:=A3 (h:=A3 (h:=A3 (h:=AB (h:=AQ (?_))))));refine AK ?_
   first|(exfalso;first|contradiction|omega)|exact Cw 2 0 rfl
  have hc4:=bp hb4;refine f_ (h:=l_ (h:=f_ (h:=l_ (h:=Ao (h:=AF (h:=m_ (h:=?_)))))));refine AR false rfl rfl (fun hb5=>?_) (fun hb5=>?_)
  ·have hc5:=bp hb5;refine A3 (h:=A3 (h:=A3 (h:=A3 (h:=A3 (h:=AB (h:=m_ (h:=A3 (h:=A3 (h:=A3 (h:=A3 (h:=A3 (h:=AB (h:=m_ (h:=A3 (h:=A3 (h:=A3 (h:=A3 (h:=A3 (h:=A3 (h:=A3 (h:=AB (h:=AQ (?_)))))))))))))))))))))));refine AK ?_
   first|(exfalso;first|contradiction|omega)|exact Cw 2 0 rfl
  have hc5:=bp hb5;refine f_ (h:=l_ (h:=f_ (h:=l_ (h:=Ao (h:=AF (h:=m_ (h:=?_)))))));refine AR false rfl rfl (fun hb6=>?_) (fun hb6=>?_)
  ·have hc6:=bp hb6;refine A3 (h:=A3 (h:=A3 (h:=A3 (h:=A3 (h:=AB (h:=m_ (h:=A3 (h:=A3 (h:=A3 (h:=A3 (h:=A3 (h:=A3 (h:=A3 (h:=AB (h:=AQ (?_))))))))))))))));refine AK ?_
   first|(exfalso;first|contradiction|omega)|exact Cw 2 0 rfl
  have hc6:=bp hb6;refine f_ (h:=l_ (h:=f_ (h:=l_ (h:=Ao (h:=AF (h:=m_ (h:=?_)))))));refine AR false rfl rfl (fun hb7=>?_) (fun hb7=>?_)
  ·have hc7:=bp hb7;refine A3 (h:=A3 (h:=A3 (h:=A3 (h:=A3 (h:=A3 (h:=A3 (h:=AB (h:=AQ (?_)))))))));refine AK ?_
   first|(exfalso;first|contradiction|omega)|exact Cw 2 0 rfl
  have hc7:=bp hb7;refine f_ (h:=l_ (h:=n_ (h:=f_ (h:=l_ (h:=n_ (h:=Ao (h:=AF (h:=AQ (?_)))))))));refine AK ?_
  first|(exfalso;first|contradiction|omega)|exact Cw 2 0 rfl
 skip
 refine A9 rfl (fun hb8=>?_) (fun hb8=>?_)
 ·have hc8:=bp hb8;have hne:a≠b:=by rintro rfl;simp at hc8
  refine w_ (a_ (h:=e_ (A4 (A7 (?_)))));refine A8 ?_
  first|(exfalso;first|contradiction|omega)|(exact vb (by simp[hne]))
 have hc8:=bp hb8;have hq:a.list=b.list∧a.action=b.action∧a.calls=b.calls∧a.watch=b.watch∧a.path=b.path∧a.perm=b.perm∧a.key=b.key∧(a.tests.length:Int)=(b.tests.length:Int):=by simpa using hc8
 obtain⟨q1,q2,q3,q4,q5,q6,q7,q8⟩:=hq;have hl:a.tests.length=b.tests.length:=by omega
 refine AE (q_ (w_ (a_ (h:=e_ (Af (?_))))));refine BW (fun n s=>∃j:Nat,j≤a.tests.length∧n=a.tests.length - j∧decide (a.tests.drop j=b.tests.drop j)=decide (a.tests=b.tests)∧s=⟨look [(2, .bp 0 0),(3, .bp 1 0),(5, .v (.int .i64 (j:Int)))],⟨[Aa a,Aa b],[]⟩⟩) (a.tests.length) ((wk 2 0)) (⟨0,by omega,rfl,rfl,rfl⟩) ?_;rintro n s ⟨j,hj,rfl,hd,rfl⟩;refine q_ (w_ (m_ (h:=f_ (h:=l_ (h:=n_ (h:=B1 (h:=e_ (?_))))))));refine A9 rfl (fun hb9=>?_) (fun hb9=>?_)
 ·have hc9:=bp hb9;obtain⟨hlt,x,hx,hrow, -⟩:=Bv CF hc9;obtain⟨hlt2,y,hy,hrow2, -⟩:=Bv CF (l:=b.tests) (k:=j) (by simpa[hl]using hc9);refine AE (q_ (Af (q_ (D7 11 (h:=Ay 0 (h:=AY 1 (h:=Ap 2 (h:=Dc 3 (h:=AY 4 (h:=Ay 5 (h:=AY 6 (h:=Ap 7 (h:=Dc 8 (h:=AY 9 (h:=?_)))))))))))))));refine EP (i:=10) rfl (Ea rfl rfl (by repeat constructor) (by repeat constructor) (fun w=>UF x y w) (by kernel_rfl) ⟨rfl,rfl⟩) ?_;refine z_ (h:=t_ (?_));refine A9 rfl (fun hb10=>?_) (fun hb10=>?_)
  ·have hc10:=bp hb10;have ht:decide (a.tests=b.tests)=false:=by rw[←hd,K9 hx hy];simp[hc10]
   refine w_ (a_ (h:=e_ (A4 (AP (A7 (A7 (AP (A7 (?_)))))))));refine A8 ?_
   first|(exfalso;first|contradiction|omega)|(exact vb (by rw[GE];simp at ht;simp[ht]))
  have hc10:=bp hb10;refine Aw (Al (t_ (AW (m_ (h:=BE (h:=a_ (h:=AQ (?_))))))));refine AK ?_;refine⟨_,_,?_,⟨j+1,by omega,rfl,(by rw[←hd,K9 hx hy,hc10];simp),rfl⟩,(wk 2 0)⟩;omega
 have hc9:=bp hb9;have e:=CM CF hj hc9;subst e;have ht:decide (a.tests=b.tests)=true:=by rw[←hd,List.drop_length,hl,List.drop_length];rfl
 refine BL (Ai (Ai (BM (t_ (w_ (a_ (h:=e_ (A4 (?_)))))))));refine A8 ?_
 first|(exfalso;first|contradiction|omega)|(exact vb (by rw[GE];simp at ht;simp[*]))
def Du(l:List Rul)(r:Rul):Int:=Cp (fun _ x=>decide (x=r)) l 0
theorem cV(i:Nat)(x r:Rul)(hx:x.tests.length≤1000):AFn prog 157 [.v (.int .i64 (i:Int)), .agg (Aa x), .fp (Aa r)] (fun y=>y= .v (.bool (decide (x=r)))):=by
 refine enter Tryz.func157 rfl rfl rfl rfl rfl 0 rfl ?_;refine w_ (b_ (h:=a_ (h:=e_ (w_ (l_ (h:=l_ (h:=?_)))))));refine A6 rfl (AJ (cU x r hx) ?_);rintro r rfl;refine a_ (h:=e_ (A4 (?_)));refine A8 ?_;rfl
theorem cW(l:List Rul)(r:Rul)(hl:l.length≤1000)(ht:∀r∈l,r.tests.length≤1000):AFn prog 107 [.sl 8 (l.map Aa) none, .agg (Aa r)] (fun x=>x= .v (.int .i64 (Du l r))):=by
 refine enter Tryz.func107 rfl rfl rfl rfl rfl 0 rfl ?_;refine w_ (b_ (h:=a_ (h:=e_ (w_ (m_ (h:=OK (h:=?_)))))));refine A6 rfl (O9 rfl (by repeat (first|exact ArgsL.nil|refine ArgsL.cons _ _ _ _ _ rfl rfl ?_)) (Rn l hl (fun _ x=>decide (x=r)) 157 [.fp (Aa r)] rfl rfl fun i x hi=>cV i x r (ht x (Ar hi))) ?_);rintro x rfl;refine⟨rfl,?_⟩;refine a_ (h:=e_ (A4 (?_)));refine A8 ?_;rfl
theorem Lb(l:List Rul)(r:Rul)(hl:l.length≤1000)(ht:∀r∈l,r.tests.length≤1000):AFn prog 109 [.sl 8 (l.map Aa) none, .agg (Aa r)] (fun x=>x= .v (.int .i64 (Du l r))):=by
 refine enter Tryz.func109 rfl rfl rfl rfl rfl 0 rfl ?_;refine w_ (b_ (h:=a_ (h:=e_ (q_ (w_ (a_ (h:=e_ (Af (?_)))))))));refine BW (fun n s=>∃j:Nat,j≤l.length∧n=l.length - j∧Cp (fun _ x=>decide (x=r)) (l.drop j) j=Du l r∧s=⟨look [(0, .sl 8 (l.map Aa) none),(3, .bp 0 0),(5, .v (.int .i64 (j:Int)))],⟨[Aa r],[]⟩⟩) (l.length) ((wk 1 0)) (⟨0,by omega,rfl,rfl,rfl⟩) ?_;rintro n s ⟨j,hj,rfl,ha,rfl⟩;refine q_ (w_ (m_ (h:=m_ (h:=n_ (h:=B1 (h:=e_ (?_)))))));refine A9 rfl (fun hb1=>?_) (fun hb1=>?_)
 ·have hc1:=bp hb1;obtain⟨hlt,x,hy,hrow, -⟩:=Bv Aa hc1;refine AE (q_ (Af (q_ (D7 6 (h:=Ap 0 (h:=Ap 1 (h:=Dc 2 (h:=AY 3 (h:=AY 4 (h:=?_))))))))));refine c_ 5 rfl (AJ (UG x r (ht x (Ar hy))) ?_);rintro r rfl;refine o_ (h:=z_ (h:=t_ (?_)));refine A9 rfl (fun hb2=>?_) (fun hb2=>?_)
  ·have hc2:=bp hb2;refine w_ (m_ (h:=a_ (h:=e_ (A4 (AP (A7 (A7 (AP (A7 (?_))))))))));refine A8 ?_
   first|(exfalso;first|contradiction|omega)|(exact vi (by rw[←ha,Jd hy];simp[hc2]))
  have hc2:=bp hb2;refine Aw (Al (t_ (AW (m_ (h:=BE (h:=a_ (h:=AQ (?_))))))));refine AK ?_;refine⟨_,_,?_,⟨j+1,by omega,rfl,(by rw[←ha,Jd hy];simp[hc2]),rfl⟩,(wk 1 0)⟩;omega
 have hc1:=bp hb1;have e:=CM Aa hj hc1;subst e;refine BL (Ai (Ai (BM (t_ (w_ (a_ (h:=e_ (A4 (?_)))))))));refine A8 ?_
 first|(exfalso;first|contradiction|omega)|(exact vi (by rw[←ha,OW]))
def El(pre:List Rul):List Rul→Int
 |[]=>0
 |r::rs=>if BC r≠0 then BC r else if 0≤Du pre r then 141 else El (pre++[r]) rs
theorem KA{l:List Rul}{j:Nat}{r:Rul}(h:l[j]?=some r):El (l.take j) (l.drop j)=if BC r≠0 then BC r else if 0≤Du (l.take j) r then 141 else El (l.take (j+1)) (l.drop (j+1)):=by
 obtain⟨hk,e⟩:=Ah.1 h;rw[List.drop_eq_getElem_cons hk,El,e,List.take_succ_eq_append_getElem hk,e]
def CH(l:List Rul):Int:=if 24<(l.length:Int)then 140 else El [] l
theorem UH(l:List Rul)(hl:l.length≤1000)(hi:∀r∈l,Cb r):AFn prog 85 [.sl 8 (l.map Aa) none] (fun x=>x= .v (.int .i64 (CH l))):=by
 have hfind:∀j r,AFn prog 107 [.sl 8 ((l.map Aa).take j) none, .agg (Aa r)] (fun x=>x= .v (.int .i64 (Du (l.take j) r))):=fun j r=>by
  rw[←List.map_take];exact cW (l.take j) r (by simp;omega) fun x hx=>(hi x (List.mem_of_mem_take hx)).2.2.2
 refine enter Tryz.func85 rfl rfl rfl rfl rfl 0 rfl ?_;refine w_ (a_ (h:=e_ (q_ (w_ (m_ (h:=n_ (h:=Bb (h:=e_ (?_)))))))));refine A9 rfl (fun hb1=>?_) (fun hb1=>?_)
 ·have hc1:=bp hb1;rw[List.length_map]at hc1;refine w_ (a_ (h:=e_ (A4 (A7 (?_)))));refine A8 ?_
  first|(exfalso;first|contradiction|omega)|(exact vi (by rw[CH,if_pos hc1]))
 have hc1:=bp hb1;rw[List.length_map]at hc1;refine AE (q_ (w_ (m_ (h:=n_ (h:=m_ (h:=e_ (Af (?_))))))));refine BW (fun n s=>∃j:Nat,j≤l.length∧n=l.length - j∧El (l.take j) (l.drop j)=El [] l∧s=⟨look [(0, .sl 8 (l.map Aa) none),(9, .sl 8 (l.map Aa) none),(10, .v (.int .i64 ((l.map Aa).length:Int))),(11, .v (.int .i64 (j:Int)))],⟨[],[]⟩⟩) (l.length) ((wk 0 0)) (⟨0,by omega,rfl,rfl,rfl⟩) ?_;rintro n s ⟨j,hj,rfl,ha,rfl⟩;refine w_ (B1 (h:=e_ (q_ (?_))));refine A9 rfl (fun hb2=>?_) (fun hb2=>?_)
 ·have hc2:=bp hb2;obtain⟨hlt,r,hy,hrow, -⟩:=Bv Aa hc2;refine AE (q_ (Af (w_ (m_ (h:=i_ (h:=l_ (h:=Ac (h:=a_ (h:=s_ (h:=e_ (q_ (w_ (l_ (h:=?_))))))))))))));refine A6 rfl (AJ (cM r (hi r (Ar hy))) ?_);rintro r rfl;refine a_ (h:=e_ (w_ (m_ (h:=Ao (h:=e_ (?_))))));refine A9 rfl (fun hb3=>?_) (fun hb3=>?_)
  ·have hc3:=bp hb3;refine w_ (m_ (h:=a_ (h:=e_ (A4 (A7 (AP (A7 (A7 (AP (A7 (?_)))))))))));refine A8 ?_
   first|(exfalso;first|contradiction|omega)|(exact vi (by rw[CH,if_neg hc1,←ha,KA hy,if_pos hc3]))
  have hc3:=bp hb3;refine AE (q_ (D7 6 (h:=Ap 0 (h:=Ap 1 (h:=?_)))));refine EP (i:=2) rfl (Qd (k:=j) rfl rfl rfl (by simp;omega) ⟨rfl,rfl⟩) ?_;refine AY 3 (h:=?_);refine c_ 4 rfl (AJ (hfind j r) ?_);rintro r rfl;refine o_ (h:=RE 5 (h:=z_ (h:=t_ (?_))));refine A9 rfl (fun hb4=>?_) (fun hb4=>?_)
  ·have hc4:=bp hb4;refine w_ (a_ (h:=e_ (A4 (AP (A7 (A7 (AP (A7 (?_)))))))));refine A8 ?_
   first|(exfalso;first|contradiction|omega)|(exact vi (by rw[CH,if_neg hc1,←ha,KA hy,if_neg (by omega),if_pos hc4]))
  have hc4:=bp hb4;refine Aw (Al (t_ (AW (BE (h:=m_ (h:=AQ (?_)))))));refine AK ?_;refine⟨_,_,?_,⟨j+1,by omega,rfl,(by rw[←ha,KA hy,if_neg (by omega),if_neg hc4]),rfl⟩,(wk 0 0)⟩;omega
 have hc2:=bp hb2;have e:=CM Aa hj hc2;subst e;refine BL (Ai (Ai (BM (t_ (w_ (a_ (h:=e_ (A4 (?_)))))))));refine A8 ?_
 first|(exfalso;first|contradiction|omega)|(exact vi (by rw[CH,if_neg hc1,←ha];simp[El]))
end
section
theorem Lc(l:List Rul)(hl:l.length≤1000)(hi:∀r∈l,Cb r):AFn prog 88 [.sl 8 (l.map Aa) none] (fun x=>x= .v (.int .i64 (CH l))):=by
 have hfind:∀j r,AFn prog 109 [.sl 8 ((l.map Aa).take j) none, .agg (Aa r)] (fun x=>x= .v (.int .i64 (Du (l.take j) r))):=fun j r=>by
  rw[←List.map_take];exact Lb (l.take j) r (by simp;omega) fun x hx=>(hi x (List.mem_of_mem_take hx)).2.2.2
 refine enter Tryz.func88 rfl rfl rfl rfl rfl 0 rfl ?_;refine w_ (a_ (h:=e_ (q_ (w_ (m_ (h:=n_ (h:=Bb (h:=e_ (?_)))))))));refine A9 rfl (fun hb1=>?_) (fun hb1=>?_)
 ·have hc1:=bp hb1;rw[List.length_map]at hc1;refine w_ (a_ (h:=e_ (A4 (A7 (?_)))));refine A8 ?_
  first|(exfalso;first|contradiction|omega)|(exact vi (by rw[CH,if_pos hc1]))
 have hc1:=bp hb1;rw[List.length_map]at hc1;refine AE (q_ (w_ (a_ (h:=e_ (Af (?_))))));refine BW (fun n s=>∃j:Nat,j≤l.length∧n=l.length - j∧El (l.take j) (l.drop j)=El [] l∧s=⟨look [(0, .sl 8 (l.map Aa) none),(3, .v (.int .i64 (j:Int)))],⟨[],[]⟩⟩) (l.length) ((wk 0 0)) (⟨0,by omega,rfl,rfl,rfl⟩) ?_;rintro n s ⟨j,hj,rfl,ha,rfl⟩;refine q_ (w_ (m_ (h:=m_ (h:=n_ (h:=B1 (h:=e_ (?_)))))));refine A9 rfl (fun hb2=>?_) (fun hb2=>?_)
 ·have hc2:=bp hb2;obtain⟨hlt,r,hy,hrow, -⟩:=Bv Aa hc2;refine AE (q_ (Af (q_ (w_ (m_ (h:=m_ (h:=i_ (h:=l_ (h:=?_)))))))));refine A6 rfl (AJ (K8 r (hi r (Ar hy))) ?_);rintro r rfl;refine a_ (h:=e_ (w_ (m_ (h:=Ao (h:=e_ (?_))))));refine A9 rfl (fun hb3=>?_) (fun hb3=>?_)
  ·have hc3:=bp hb3;refine w_ (m_ (h:=a_ (h:=e_ (A4 (A7 (AP (A7 (A7 (AP (A7 (?_)))))))))));refine A8 ?_
   first|(exfalso;first|contradiction|omega)|(exact vi (by rw[CH,if_neg hc1,←ha,KA hy,if_pos hc3]))
  have hc3:=bp hb3;refine AE (q_ (D7 9 (h:=Ap 0 (h:=Ap 1 (h:=?_)))));refine EP (i:=2) rfl (Qd (k:=j) rfl rfl rfl (by simp;omega) ⟨rfl,rfl⟩) ?_;refine Ap 3 (h:=Ap 4 (h:=Dc 5 (h:=AY 6 (h:=?_))));refine c_ 7 rfl (AJ (hfind j r) ?_);rintro r rfl;refine o_ (h:=RE 8 (h:=z_ (h:=t_ (?_))));refine A9 rfl (fun hb4=>?_) (fun hb4=>?_)
  ·have hc4:=bp hb4;refine w_ (a_ (h:=e_ (A4 (AP (A7 (A7 (AP (A7 (?_)))))))));refine A8 ?_
   first|(exfalso;first|contradiction|omega)|(exact vi (by rw[CH,if_neg hc1,←ha,KA hy,if_neg (by omega),if_pos hc4]))
  have hc4:=bp hb4;refine Aw (Al (t_ (AW (m_ (h:=BE (h:=a_ (h:=AQ (?_))))))));refine AK ?_;refine⟨_,_,?_,⟨j+1,by omega,rfl,(by rw[←ha,KA hy,if_neg (by omega),if_neg hc4]),rfl⟩,(wk 0 0)⟩;omega
 have hc2:=bp hb2;have e:=CM Aa hj hc2;subst e;refine BL (Ai (Ai (BM (t_ (w_ (a_ (h:=e_ (A4 (?_)))))))));refine A8 ?_
 first|(exfalso;first|contradiction|omega)|(exact vi (by rw[CH,if_neg hc1,←ha];simp[El]))
theorem KC(r:Rul)(hl:r.tests.length≤1000):AFn prog 102 [.agg (Aa r)] (fun x=>x= .agg (Aa r)):=by
 refine enter Tryz.func102 rfl rfl rfl rfl rfl 0 rfl ?_;refine w_ (b_ (h:=Ac (h:=e_ (w_ (f_ (h:=l_ (h:=ES (h:=f_ (h:=s_ (h:=e_ (w_ (l_ (h:=s_ (h:=e_ (A4 (?_))))))))))))))));refine A8 ?_;rfl
theorem UJ(l:List Rul)(h1:l.length≤1000)(hl:∀r∈l,r.tests.length≤1000):Ht prog 89 [.sl 8 (l.map Aa) none] (fun g=> .sl 8 (l.map Aa) g) (83,8,l.map Aa):=by
 refine enter Tryz.func89 rfl rfl rfl rfl rfl 0 rfl ?_;refine w_ (a_ (h:=e_ (w_ (a_ (h:=e_ (q_ (w_ (a_ (h:=e_ (Af (?_)))))))))));refine KS 3 83 8 rfl (by repeat constructor) ?_;refine BW (fun n s=>∃k:Nat,k≤l.length∧n=l.length - k∧s=⟨look [(0, .sl 8 (l.map Aa) none),(3, .sl 8 ((l.take k).map Aa) (some 0)),(4, .v (.int .i64 (k:Int)))],⟨[],[(83,8,(l.take k).map Aa)]⟩⟩) (l.length) ((wk 0 1)) (⟨0,BU _,rfl,rfl⟩) ?_;rintro n s ⟨k,hk,rfl,rfl⟩;refine q_ (w_ (m_ (h:=m_ (h:=n_ (h:=B1 (h:=e_ (?_)))))));refine A9 rfl (fun hb1=>?_) (fun hb1=>?_)
 ·have hc1:=bp hb1;obtain⟨hlt,r,hr,hrow,e⟩:=Bv Aa hc1;refine AE (q_ (Af (AW (m_ (h:=m_ (h:=m_ (h:=i_ (h:=l_ (h:=?_)))))))));refine A6 rfl (AJ (KC r (hl r (Ar hr))) ?_);rintro r rfl;refine Bo (h:=ES (h:=a_ (h:=AQ (Al (t_ (AW (m_ (h:=BE (h:=a_ (h:=AQ (?_)))))))))));refine AK ?_;refine⟨_,_,?_,⟨k+1,by omega,rfl,rfl⟩,?_⟩
  ·omega
  rw[e];exact(wk 0 1)
 have hc1:=bp hb1;have e:=CM Aa hk hc1;subst e;rw[List.take_length];refine BL (Ai (Ai (BM (t_ (w_ (m_ (h:=a_ (h:=e_ (A4 (?_))))))))));refine Au (some 0) (h5:=(AX _)) (h6:=⟨rfl,rfl,rfl⟩)
theorem Q4(l:List Rul)(h1:l.length≤1000)(hl:∀r∈l,r.tests.length≤1000):AFn prog 89 [.sl 8 (l.map Aa) none] (fun x=>x= .sl 8 (l.map Aa) none):=by
 refine enter Tryz.func89 rfl rfl rfl rfl rfl 0 rfl ?_;refine w_ (a_ (h:=e_ (w_ (a_ (h:=e_ (q_ (w_ (a_ (h:=e_ (Af (?_)))))))))));refine KS 3 83 8 rfl (by repeat constructor) ?_;refine BW (fun n s=>∃k:Nat,k≤l.length∧n=l.length - k∧s=⟨look [(0, .sl 8 (l.map Aa) none),(3, .sl 8 ((l.take k).map Aa) (some 0)),(4, .v (.int .i64 (k:Int)))],⟨[],[(83,8,(l.take k).map Aa)]⟩⟩) (l.length) ((wk 0 1)) (⟨0,BU _,rfl,rfl⟩) ?_;rintro n s ⟨k,hk,rfl,rfl⟩;refine q_ (w_ (m_ (h:=m_ (h:=n_ (h:=B1 (h:=e_ (?_)))))));refine A9 rfl (fun hb1=>?_) (fun hb1=>?_)
 ·have hc1:=bp hb1;obtain⟨hlt,r,hr,hrow,e⟩:=Bv Aa hc1;refine AE (q_ (Af (AW (m_ (h:=m_ (h:=m_ (h:=i_ (h:=l_ (h:=?_)))))))));refine A6 rfl (AJ (KC r (hl r (Ar hr))) ?_);rintro r rfl;refine Bo (h:=ES (h:=a_ (h:=AQ (Al (t_ (AW (m_ (h:=BE (h:=a_ (h:=AQ (?_)))))))))));refine AK ?_;refine⟨_,_,?_,⟨k+1,by omega,rfl,rfl⟩,?_⟩
  ·omega
  rw[e];exact(wk 0 1)
 have hc1:=bp hb1;have e:=CM Aa hk hc1;subst e;rw[List.take_length];refine BL (Ai (Ai (BM (t_ (w_ (m_ (h:=a_ (h:=e_ (A4 (?_))))))))));refine A8 ?_;rfl
theorem cY(a b:List Rul)(ha:a.length≤1000)(ht:∀r∈a,r.tests.length≤1000):AFn prog 54 [.sl 8 (a.map Aa) none, .sl 8 (b.map Aa) none] (fun x=>x= .v (.bool (decide (a=b)))):=by
 refine enter Tryz.func54 rfl rfl rfl rfl rfl 0 rfl ?_;refine w_ (a_ (h:=e_ (q_ (w_ (m_ (h:=n_ (h:=m_ (h:=n_ (h:=Ao (h:=e_ (?_)))))))))));refine A9 rfl (fun hb1=>?_) (fun hb1=>?_)
 ·have hc1:=bp hb1;refine w_ (a_ (h:=e_ (A4 (A7 (?_)))));refine A8 ?_
  first|(exfalso;first|contradiction|omega)|(exact vb (by rw[UE (by simp at hc1;omega)]))
 have hc1:=bp hb1;have hl:a.length=b.length:=by simp at hc1;omega
 refine AE (q_ (w_ (a_ (h:=e_ (Af (?_))))));refine BW (fun n s=>∃j:Nat,j≤a.length∧n=a.length - j∧decide (a.drop j=b.drop j)=decide (a=b)∧s=⟨look [(0, .sl 8 (a.map Aa) none),(1, .sl 8 (b.map Aa) none),(5, .v (.int .i64 (j:Int)))],⟨[],[]⟩⟩) (a.length) ((wk 0 0)) (⟨0,by omega,rfl,rfl,rfl⟩) ?_;rintro n s ⟨j,hj,rfl,hd,rfl⟩;refine q_ (w_ (m_ (h:=m_ (h:=n_ (h:=B1 (h:=e_ (?_)))))));refine A9 rfl (fun hb2=>?_) (fun hb2=>?_)
 ·have hc2:=bp hb2;obtain⟨hlt,x,hx,hrow, -⟩:=Bv Aa hc2;obtain⟨hlt2,y,hy,hrow2, -⟩:=Bv Aa (l:=b) (k:=j) (by simpa[hl]using hc2);refine AE (q_ (Af (q_ (D7 10 (h:=Ap 0 (h:=Ap 1 (h:=Dc 2 (h:=AY 3 (h:=Ap 4 (h:=Ap 5 (h:=Dc 6 (h:=AY 7 (h:=?_)))))))))))));refine c_ 8 rfl (AJ (UG x y (ht x (Ar hx))) ?_);rintro r rfl;refine o_ (h:=RD 9 (h:=z_ (h:=t_ (?_))));refine A9 rfl (fun hb3=>?_) (fun hb3=>?_)
  ·have hc3:=bp hb3;refine w_ (a_ (h:=e_ (A4 (AP (A7 (A7 (AP (A7 (?_)))))))));refine A8 ?_
   first|(exfalso;first|contradiction|omega)|(exact vb (by rw[←hd,K9 hx hy];simp[hc3]))
  have hc3:=bp hb3;refine Aw (Al (t_ (AW (m_ (h:=BE (h:=a_ (h:=AQ (?_))))))));refine AK ?_;refine⟨_,_,?_,⟨j+1,by omega,rfl,(by rw[←hd,K9 hx hy];simp[hc3]),rfl⟩,(wk 0 0)⟩;omega
 have hc2:=bp hb2;have e:=CM Aa hj hc2;subst e;refine BL (Ai (Ai (BM (t_ (w_ (a_ (h:=e_ (A4 (?_)))))))));refine A8 ?_
 first|(exfalso;first|contradiction|omega)|(exact vb (by rw[←hd,List.drop_length,hl,List.drop_length];rfl))
end
def Bu(l:List Rul)(r:Rul)(front:Bool):List Rul×Int:=
 if CH l≠0 then([],CH l)else if BC r≠0 then([],BC r)else if 0≤Du l r then([],141)else if 24≤(l.length:Int)then([],140)else(if front=true then r::l else l++[r],0)
def fJ(l:List Rul)(r:Rul):List Rul×Int:=
 if CH l≠0 then([],CH l)else if Du l r<0 then([],142)else(l.eraseIdx (Du l r).toNat,0)
def EW(x:List Rul×Int):AV:= .tup [.sl 8 (x.1.map Aa) none, .v (.int .i64 x.2)]
theorem UK{l:List Rul}(h:¬CH l≠0):(l.length:Int)≤24:=by
 unfold CH at h;split at h
 ·simp at h
 omega
theorem Hg{x:List Rul×Int}{e:Int}(h:x=([],e)):LeA (.tup [.v (.slice none 0 0), .v (.int .i64 e)]) (EW x):=by
 rw[h];exact(by repeat (first|exact AX _|exact LeA.nil _|exact LeL.refl _|refine LeA.agg ?_|refine LeA.tup ?_|exact LeL.nil|refine LeL.cons ?_ ?_|exact LeA.any _))
theorem UL{x:List Rul×Int}{l:List Rul}{e:Int}(h:x=(l,e)):LeA (.tup [.sl 8 (l.map Aa) none, .v (.int .i64 e)]) (EW x):=by
 rw[h];exact AX _
section
theorem cZ(l:List Rul)(r:Rul)(hl:l.length≤1000)(hi:∀r∈l,Cb r)(hr:Cb r):AFn prog 61 [.sl 8 (l.map Aa) none, .agg (Aa r), .v (.bool true)] (fun x=>x=EW (Bu l r true)):=by
 refine enter Tryz.func61 rfl rfl rfl rfl rfl 0 rfl ?_;refine w_ (b_ (h:=a_ (h:=a_ (h:=e_ (q_ (w_ (m_ (h:=?_))))))));refine A6 rfl (AJ (Lc l hl hi) ?_);rintro r rfl;refine a_ (h:=e_ (w_ (m_ (h:=Ao (h:=e_ (?_))))));refine A9 rfl (fun hb1=>?_) (fun hb1=>?_)
 ·have hc1:=bp hb1;refine w_ (m_ (h:=a_ (h:=a_ (h:=e_ (A4 (A7 (?_)))))));refine Au (r:=EW (Bu l r true)) none (h5:=?_) (h6:=⟨rfl,rfl,rfl⟩);exact Hg (by simp[Bu, *])
 have hc1:=bp hb1;refine AE (q_ (w_ (l_ (h:=?_))));refine A6 rfl (AJ (K8 r hr) ?_);rintro r rfl;refine a_ (h:=e_ (w_ (m_ (h:=Ao (h:=e_ (?_))))));refine A9 rfl (fun hb2=>?_) (fun hb2=>?_)
 ·have hc2:=bp hb2;refine w_ (m_ (h:=a_ (h:=a_ (h:=e_ (A4 (A7 (?_)))))));refine Au (r:=EW (Bu l r true)) none (h5:=?_) (h6:=⟨rfl,rfl,rfl⟩);exact Hg (by simp[Bu, *])
 have hc2:=bp hb2;refine AE (q_ (w_ (m_ (h:=l_ (h:=?_)))));refine A6 rfl (AJ (Lb l r hl fun x hx=>(hi x hx).2.2.2) ?_);rintro r rfl;refine DL (h:=e_ (?_));refine A9 rfl (fun hb3=>?_) (fun hb3=>?_)
 ·have hc3:=bp hb3;refine w_ (a_ (h:=a_ (h:=e_ (A4 (A7 (?_))))));refine Au (r:=EW (Bu l r true)) none (h5:=?_) (h6:=⟨rfl,rfl,rfl⟩);exact Hg (by simp[Bu, *])
 have hc3:=bp hb3;refine AE (q_ (w_ (m_ (h:=n_ (h:=AN (h:=e_ (?_)))))));refine A9 rfl (fun hb4=>?_) (fun hb4=>?_)
 ·have hc4:=bp hb4;rw[List.length_map]at hc4;refine w_ (a_ (h:=a_ (h:=e_ (A4 (A7 (?_))))));refine Au (r:=EW (Bu l r true)) none (h5:=?_) (h6:=⟨rfl,rfl,rfl⟩);exact Hg (by simp[Bu, *])
 have hc4:=bp hb4;rw[List.length_map]at hc4;have h5:=UK (not_not_intro hc1);have h4:¬24≤(l.length:Int):=by omega
 refine AE (q_ (w_ (m_ (h:=e_ (?_)))));refine A9 rfl (fun hb5=>?_) (fun hb5=>?_)
 ·have hc5:=bp hb5;refine w_ (l_ (h:=?_));refine A6 rfl (AJ (KC r hr.2.2.2) ?_);rintro r rfl;refine A6 rfl (Qo (by repeat (first|exact DenseA.nil _|(apply DenseA.cons;(focus exact rfl);(focus exact rfl);(focus exact rfl);(focus exact rfl))|(apply DenseA.consE;(focus exact rfl);(focus exact rfl);(focus exact rfl)))) rfl rfl rfl rfl (by repeat constructor) ?_);refine m_ (h:=?_);refine A6 rfl (AJ (Q4 l hl fun x hx=>(hi x hx).2.2.2) ?_);rintro r rfl;refine ES (h:=a_ (h:=a_ (h:=e_ (A4 (A7 (?_))))));refine Au (r:=EW (Bu l r true)) none (h5:=?_) (h6:=⟨rfl,rfl,rfl⟩);exact UL (l:=r::l) (by simp[Bu, *])
 have hc5:=bp hb5;exfalso;first|contradiction|omega
theorem d6(l:List Rul)(r:Rul)(hl:l.length≤1000)(hi:∀r∈l,Cb r)(hr:Cb r):AFn prog 61 [.sl 8 (l.map Aa) none, .agg (Aa r), .v (.bool false)] (fun x=>x=EW (Bu l r false)):=by
 refine enter Tryz.func61 rfl rfl rfl rfl rfl 0 rfl ?_;refine w_ (b_ (h:=a_ (h:=a_ (h:=e_ (q_ (w_ (m_ (h:=?_))))))));refine A6 rfl (AJ (Lc l hl hi) ?_);rintro r rfl;refine a_ (h:=e_ (w_ (m_ (h:=Ao (h:=e_ (?_))))));refine A9 rfl (fun hb1=>?_) (fun hb1=>?_)
 ·have hc1:=bp hb1;refine w_ (m_ (h:=a_ (h:=a_ (h:=e_ (A4 (A7 (?_)))))));refine Au (r:=EW (Bu l r false)) none (h5:=?_) (h6:=⟨rfl,rfl,rfl⟩);exact Hg (by simp[Bu, *])
 have hc1:=bp hb1;refine AE (q_ (w_ (l_ (h:=?_))));refine A6 rfl (AJ (K8 r hr) ?_);rintro r rfl;refine a_ (h:=e_ (w_ (m_ (h:=Ao (h:=e_ (?_))))));refine A9 rfl (fun hb2=>?_) (fun hb2=>?_)
 ·have hc2:=bp hb2;refine w_ (m_ (h:=a_ (h:=a_ (h:=e_ (A4 (A7 (?_)))))));refine Au (r:=EW (Bu l r false)) none (h5:=?_) (h6:=⟨rfl,rfl,rfl⟩);exact Hg (by simp[Bu, *])
 have hc2:=bp hb2;refine AE (q_ (w_ (m_ (h:=l_ (h:=?_)))));refine A6 rfl (AJ (Lb l r hl fun x hx=>(hi x hx).2.2.2) ?_);rintro r rfl;refine DL (h:=e_ (?_));refine A9 rfl (fun hb3=>?_) (fun hb3=>?_)
 ·have hc3:=bp hb3;refine w_ (a_ (h:=a_ (h:=e_ (A4 (A7 (?_))))));refine Au (r:=EW (Bu l r false)) none (h5:=?_) (h6:=⟨rfl,rfl,rfl⟩);exact Hg (by simp[Bu, *])
 have hc3:=bp hb3;refine AE (q_ (w_ (m_ (h:=n_ (h:=AN (h:=e_ (?_)))))));refine A9 rfl (fun hb4=>?_) (fun hb4=>?_)
 ·have hc4:=bp hb4;rw[List.length_map]at hc4;refine w_ (a_ (h:=a_ (h:=e_ (A4 (A7 (?_))))));refine Au (r:=EW (Bu l r false)) none (h5:=?_) (h6:=⟨rfl,rfl,rfl⟩);exact Hg (by simp[Bu, *])
 have hc4:=bp hb4;rw[List.length_map]at hc4;have h5:=UK (not_not_intro hc1);have h4:¬24≤(l.length:Int):=by omega
 refine AE (q_ (w_ (m_ (h:=e_ (?_)))));refine A9 rfl (fun hb5=>?_) (fun hb5=>?_)
 ·have hc5:=bp hb5;exfalso;first|contradiction|omega
 have hc5:=bp hb5;refine AE (q_ (CE ([(0,Aa r)]) 8 (h:=Ap 0 (h:=?_))))
 first|refine AY 2 (h:=?_)|refine BK 2 rfl (fun _ hS=>EX rfl (by rw[hS];rfl) rfl ⟨rfl,rfl⟩) ?_
 refine c_ 1 rfl (MD rfl (by repeat (first|exact Args.nil|refine Args.cons _ _ _ _ _ rfl (Fb rfl) ?_|refine Args.cons _ _ _ _ _ rfl (GH _) ?_|refine Args.cons _ _ _ _ _ rfl (Fx _) ?_|refine Args.cons _ _ _ _ _ rfl (GM rfl (by repeat (first|exact AX _|exact LeA.nil _|exact LeL.refl _|refine LeA.agg ?_|refine LeA.tup ?_|exact LeL.nil|refine LeL.cons ?_ ?_|exact LeA.any _))) ?_)) (UJ l hl fun x hx=>(hi x hx).2.2.2) (fun _=>rfl) (by repeat constructor) ?_);refine o_ (h:=?_);refine c_ 3 rfl (AJ (KC r hr.2.2.2) ?_);rintro r rfl;refine o_ (h:=MX 4 (h:=?_))
 first|refine c_ 5 rfl (E7 rfl rfl rfl (by simp<;>omega) (by repeat constructor) ?_)|refine c_ 5 rfl (E8 rfl rfl (by simp<;>omega) (by repeat constructor) ?_)
 refine o_ (h:=BN 6 (h:=BN 7 (h:=z_ (h:=t_ (A4 (?_))))));refine Au (r:=EW (Bu l r false)) none (h5:=?_) (h6:=⟨rfl,rfl,rfl⟩);have:=UL (x:=Bu l r false) (l:=l++[r]) (e:=0) (by simp[Bu, *]);rw[List.map_append]at this;exact this
theorem d7(l:List Rul)(r:Rul)(front:Bool)(hl:l.length≤1000)(hi:∀r∈l,Cb r)(hr:Cb r):AFn prog 61 [.sl 8 (l.map Aa) none, .agg (Aa r), .v (.bool front)] (fun x=>x=EW (Bu l r front)):=by
 cases front
 ·exact d6 l r hl hi hr
 exact cZ l r hl hi hr
end
def d8(u:Int):Ctx:=⟨2,0,0,u,0,0,0,0,0,(0,0),⟨#[]⟩,⟨#[]⟩,false,0,0,0,0,0,0,[],0⟩
def KD:Cxs:=⟨[],[],[]⟩
structure Pol where
 rules:List Rul
 wats:List Wch
deriving DecidableEq
def Cf(p:Pol):List AV:=[.sl 8 (p.rules.map Aa) none, .sl 6 (p.wats.map CG) none]
def Fo:Pol:=⟨[],[]⟩
def JM(x:Pol×Int):AV:= .tup [.agg (Cf x.1), .v (.int .i64 x.2)]
def CD(s:Spc)(r:Rul):Wch×Int:=if r.watch=0 then(DP,0)else if(EJ s r.watch r.path).2≠0 then(DP,180)else((EJ s r.watch r.path).1,0)
def D5(s:Spc)(l:List Rul):Pol×Int:=if CH l≠0 then(Fo,CH l)else if l.all (fun r=>decide ((CD s r).2=0))=true then(⟨l,l.map fun r=>(CD s r).1⟩,0)else(Fo,180)
def EK(s:Spc)(r:Rul)(w:Wch):Bool:=if r.watch=0 then decide (w=DP)else decide (w.kind=r.watch)&&Dm s w
def Fp(s:Spc)(p:Pol):Bool:=decide (CH p.rules=0)&&decide (p.wats.length=p.rules.length)&&(p.rules.zip p.wats).all fun x=>EK s x.1 x.2
theorem d9(s:Spc)(r:Rul):(CD s r).2=0∨(CD s r).2=180:=by
 unfold CD;split
 ·exact .inl rfl
 split
 ·exact .inr rfl
 exact .inl rfl
section
theorem dA(s:Spc)(r:Rul)(hv:SpcV s)(hm:s.mounts.length≤1000)(hr:Cb r):AFn prog 86 [.agg (Aj s), .agg (Aa r)] (fun x=>x=NR (CD s r)):=by
 obtain⟨F,hF⟩:∃F,EJ s r.watch r.path=F:=⟨_,rfl⟩;have hplc:AFn prog 128 [.agg (Aj s), .v (.int .i64 r.watch), .v (.string r.path)] (fun x=>x= .tup [.agg (CG F.1), .v (.int .i64 F.2)]):=by rw[←hF];exact cA s r.watch r.path hv hm hr.2.2.1
 have hw:CD s r=if r.watch=0 then(DP,0)else if F.2≠0 then(DP,180)else(F.1,0):=by rw[CD,hF]
 refine enter Tryz.func86 rfl rfl rfl rfl rfl 0 rfl ?_;refine w_ (b_ (h:=b_ (h:=Ac (h:=a_ (h:=e_ (q_ (w_ (f_ (h:=l_ (h:=AN (h:=e_ (?_))))))))))));refine A9 rfl (fun hb1=>?_) (fun hb1=>?_)
 ·have hc1:=bp hb1;have k1:r.watch=0:=hc1;refine w_ (Ab (h:=s_ (h:=a_ (h:=e_ (A4 (A7 (?_)))))));refine A8 ?_;rw[hw,if_pos k1];rfl
 have hc1:=bp hb1;have k1:¬r.watch=0:=hc1;refine AE (w_ (l_ (h:=f_ (h:=l_ (h:=f_ (h:=l_ (h:=?_)))))));refine A6 rfl (AJ (hplc) ?_);rintro r rfl;refine m_ (h:=x_ (h:=x_ (h:=Ac (h:=s_ (h:=a_ (h:=e_ (q_ (w_ (m_ (h:=Ao (h:=e_ (?_))))))))))));refine A9 rfl (fun hb2=>?_) (fun hb2=>?_)
 ·have hc2:=bp hb2;have k2:F.2≠0:=by simpa using hc2
  refine w_ (Ab (h:=s_ (h:=a_ (h:=e_ (A4 (A7 (?_)))))));refine A8 ?_;rw[hw,if_neg k1,if_pos k2];rfl
 have hc2:=bp hb2;have k2:¬F.2≠0:=by simpa using hc2
 refine AE (w_ (l_ (h:=s_ (h:=a_ (h:=e_ (A4 (?_)))))));refine A8 ?_;rw[hw,if_neg k1,if_neg k2];rfl
theorem dB(s:Spc)(r:Rul)(hv:SpcV s)(hm:s.mounts.length≤1000)(hr:Cb r):AFn prog 90 [.agg (Aa r), .agg (Aj s)] (fun x=>x=NR (CD s r)):=by
 obtain⟨F,hF⟩:∃F,EJ s r.watch r.path=F:=⟨_,rfl⟩;have hplc:AFn prog 130 [.agg (Aj s), .v (.int .i64 r.watch), .v (.string r.path)] (fun x=>x= .tup [.agg (CG F.1), .v (.int .i64 F.2)]):=by rw[←hF];exact bZ s r.watch r.path hv hm hr.2.2.1
 have hw:CD s r=if r.watch=0 then(DP,0)else if F.2≠0 then(DP,180)else(F.1,0):=by rw[CD,hF]
 refine enter Tryz.func90 rfl rfl rfl rfl rfl 0 rfl ?_;refine w_ (b_ (h:=b_ (h:=Ac (h:=a_ (h:=e_ (q_ (w_ (f_ (h:=l_ (h:=AN (h:=e_ (?_))))))))))));refine A9 rfl (fun hb1=>?_) (fun hb1=>?_)
 ·have hc1:=bp hb1;have k1:r.watch=0:=hc1;refine w_ (Ab (h:=s_ (h:=a_ (h:=e_ (A4 (A7 (?_)))))));refine A8 ?_;rw[hw,if_pos k1];rfl
 have hc1:=bp hb1;have k1:¬r.watch=0:=hc1;refine AE (w_ (l_ (h:=f_ (h:=l_ (h:=f_ (h:=l_ (h:=?_)))))));refine A6 rfl (AJ (hplc) ?_);rintro r rfl;refine m_ (h:=x_ (h:=x_ (h:=Ac (h:=s_ (h:=a_ (h:=e_ (q_ (w_ (m_ (h:=Ao (h:=e_ (?_))))))))))));refine A9 rfl (fun hb2=>?_) (fun hb2=>?_)
 ·have hc2:=bp hb2;have k2:F.2≠0:=by simpa using hc2
  refine w_ (Ab (h:=s_ (h:=a_ (h:=e_ (A4 (A7 (?_)))))));refine A8 ?_;rw[hw,if_neg k1,if_pos k2];rfl
 have hc2:=bp hb2;have k2:¬F.2≠0:=by simpa using hc2
 refine AE (w_ (l_ (h:=s_ (h:=a_ (h:=e_ (A4 (?_)))))));refine A8 ?_;rw[hw,if_neg k1,if_neg k2];rfl
theorem dC(p:Pol)(i:Nat)(x:Wch)(hl:p.wats.length≤1000)(hx:p.wats[i]?=some x):AFn prog 70 [.agg (Cf p), .v (.int .i64 (i:Int))] (fun r=>r= .agg (CG x)):=by
 have hlt:i<p.wats.length:=(Ah.1 hx).1;have hrow:(p.wats.map CG)[i]?=some (CG x):=by rw[List.getElem?_map,hx];rfl
 refine enter Tryz.func70 rfl rfl rfl rfl rfl 0 rfl ?_;refine w_ (b_ (h:=Ac (h:=e_ (q_ (w_ (m_ (h:=B1 (h:=m_ (h:=?_)))))))));refine AR false rfl rfl (fun hb1=>?_) (fun hb1=>?_)
 ·have hc1:=bp hb1;exfalso;first|contradiction|omega
 have hc1:=bp hb1;refine m_ (h:=f_ (h:=l_ (h:=n_ (h:=DL (h:=AF (h:=e_ (?_)))))));refine A9 rfl (fun hb2=>?_) (fun hb2=>?_)
 ·have hc2:=bp hb2;have hc2:=bp hb2;simp at hc2;omega
 have hc2:=bp hb2;refine AE (w_ (f_ (h:=l_ (h:=m_ (h:=i_ (h:=l_ (h:=s_ (h:=e_ (A4 (?_))))))))));refine A8 ?_;rfl
theorem dD(r:Rul)(hr:r.tests.length≤1000):AFn prog 87 [.agg (Aa r)] (fun x=>x= .agg (Aa r)):=by
 refine enter Tryz.func87 rfl rfl rfl rfl rfl 0 rfl ?_;refine w_ (b_ (h:=Ac (h:=e_ (w_ (f_ (h:=l_ (h:=?_)))))));refine A6 rfl (AJ (cR r.tests hr) ?_);rintro r rfl;refine f_ (h:=s_ (h:=e_ (w_ (l_ (h:=s_ (h:=e_ (A4 (?_))))))));refine A8 ?_;rfl
end
def D6(s:Spc)(l:List Rul):List Wch:=l.map fun r=>(CD s r).1
theorem UM{s:Spc}{l:List Rul}{j:Nat}{r:Rul}(h:l[j]?=some r):(D6 s (l.take (j+1))).map CG=(D6 s (l.take j)).map CG++[CG (CD s r).1]:=by
 simp[D6,List.take_add_one,h]
theorem UN{s:Spc}{l:List Rul}{j:Nat}{r:Rul}(h:l[j]?=some r)(ha:∀r∈l.take j,(CD s r).2=0)(hr:(CD s r).2=0):∀r∈l.take (j+1),(CD s r).2=0:=by
 intro x hx;rw[List.take_add_one,h]at hx;rcases List.mem_append.1 hx with hx|hx
 ·exact ha x hx
 have e:x=r:=by simpa using hx
 rw[e];exact hr
theorem Q5{s:Spc}{l:List Rul}(h:CH l≠0):D5 s l=(Fo,CH l):=by rw[D5,if_pos h]
theorem UO{s:Spc}{l:List Rul}{r:Rul}(h:¬CH l≠0)(hr:r∈l)(hp:(CD s r).2≠0):D5 s l=(Fo,(CD s r).2):=by
 rw[D5,if_neg h,if_neg]
 ·rcases d9 s r with e|e
  ·exact absurd e hp
  rw[e]
 intro k;exact hp (of_decide_eq_true (List.all_eq_true.1 k r hr))
theorem NV{s:Spc}{l:List Rul}(h:¬CH l≠0)(ha:∀r∈l,(CD s r).2=0):D5 s l=(⟨l,D6 s l⟩,0):=by
 rw[D5,if_neg h,if_pos]
 ·rfl
 exact List.all_eq_true.2 fun r hr=>decide_eq_true (ha r hr)
theorem NW{x:Pol×Int}{e:Int}(h:x=(Fo,e)):LeA (.tup [.agg [.v (.slice none 0 0), .v (.slice none 0 0)], .v (.int .i64 e)]) (JM x):=by
 rw[h];exact(by repeat (first|exact AX _|exact LeA.nil _|exact LeL.refl _|refine LeA.agg ?_|refine LeA.tup ?_|exact LeL.nil|refine LeL.cons ?_ ?_|exact LeA.any _))
section
theorem UP(s:Spc)(l:List Rul)(hv:SpcV s)(hm:s.mounts.length≤1000)(hl:l.length≤1000)(hi:∀r∈l,Cb r):AFn prog 41 [.sl 8 (l.map Aa) none, .agg (Aj s)] (fun x=>x=JM (D5 s l)):=by
 have hplc:∀r,Cb r→AFn prog 86 [.agg (Aj s), .agg (Aa r)] (fun x=>x= .tup [.agg (CG (CD s r).1), .v (.int .i64 (CD s r).2)]):=fun r h=>dA s r hv hm h;refine enter Tryz.func41 rfl rfl rfl rfl rfl 0 rfl ?_;refine w_ (b_ (h:=Ac (h:=a_ (h:=e_ (q_ (w_ (m_ (h:=?_))))))));refine A6 rfl (AJ (UH l hl hi) ?_);rintro r rfl;refine a_ (h:=e_ (w_ (m_ (h:=Ao (h:=e_ (?_))))));refine A9 rfl (fun hb1=>?_) (fun hb1=>?_)
 ·have hc1:=bp hb1;have k1:CH l≠0:=by simpa using hc1
  refine w_ (Ab (h:=m_ (h:=s_ (h:=a_ (h:=e_ (A4 (A7 (?_))))))));refine Au (r:=JM (D5 s l)) none (h5:=?_) (h6:=⟨rfl,rfl,rfl⟩);exact NW (Q5 k1)
 have hc1:=bp hb1;have k1:¬CH l≠0:=by simpa using hc1
 refine AE (w_ (Ac (h:=e_ (q_ (w_ (m_ (h:=n_ (h:=m_ (h:=e_ (Af (?_)))))))))));refine KY 2 0 83 8 rfl rfl (by repeat constructor) (by repeat constructor) (by repeat constructor) ?_;refine KY 2 1 93 6 rfl rfl (by repeat constructor) (by repeat constructor) (by repeat constructor) ?_;refine BW (fun n S=>∃j:Nat,j≤l.length∧n=l.length - j∧(∀r∈l.take j,(CD s r).2=0)∧S=⟨look [(3, .bp 0 0),(4, .bp 1 0),(7, .bp 2 0),(18, .sl 8 (l.map Aa) none),(19, .v (.int .i64 ((l.map Aa).length:Int))),(20, .v (.int .i64 (j:Int)))],⟨[Aj s,[.v (.slice none 0 0), .v (.slice none 0 0)],[.sl 8 ((l.take j).map Aa) (some 0), .sl 6 ((D6 s (l.take j)).map CG) (some 1)]],[(83,8,(l.take j).map Aa),(93,6,(D6 s (l.take j)).map CG)]⟩⟩) (l.length) ((wk 3 2)) (⟨0,BU _,rfl,by simp,rfl⟩) ?_;rintro n S ⟨j,hj,rfl,ha,rfl⟩;refine w_ (B1 (h:=e_ (q_ (?_))));refine A9 rfl (fun hb2=>?_) (fun hb2=>?_)
 ·have hc2:=bp hb2;obtain⟨hlt,r,hy,hrow,e⟩:=Bv Aa hc2;refine AE (q_ (Af (w_ (i_ (h:=l_ (h:=Ac (h:=s_ (h:=e_ (w_ (l_ (h:=l_ (h:=?_))))))))))));refine A6 rfl (AJ (hplc r (hi r (Ar hy))) ?_);rintro r rfl;refine m_ (h:=x_ (h:=x_ (h:=Ac (h:=s_ (h:=a_ (h:=e_ (q_ (w_ (m_ (h:=Ao (h:=e_ (?_))))))))))));refine A9 rfl (fun hb3=>?_) (fun hb3=>?_)
  ·have hc3:=bp hb3;have k2:(CD s r).2≠0:=by simpa using hc3
   refine w_ (Ab (h:=m_ (h:=s_ (h:=a_ (h:=e_ (A4 (A7 (AP (A7 (A7 (AP (A7 (?_)))))))))))));refine Au (r:=JM (D5 s l)) none (h5:=?_) (h6:=⟨rfl,rfl,rfl⟩);exact NW (UO k1 (Ar hy) k2)
  have hc3:=bp hb3;have k2:(CD s r).2=0:=by simpa using hc3
  refine AE (q_ (CE ([(0,Aj s),(1,[.v (.slice none 0 0), .v (.slice none 0 0)]),(2,[.sl 8 ((l.take j).map Aa) (some 0), .sl 6 ((D6 s (l.take j)).map CG) (some 1)]),(3,Aa r)]) 6 (h:=Ay 0 (h:=AY 1 (h:=AY 2 (h:=?_))))));refine c_ 3 rfl (AJ (dD r (hi r (Ar hy)).2.2.2) ?_);rintro r rfl;refine o_ (h:=MX 4 (h:=?_))
  first|refine c_ 5 rfl (E7 rfl rfl rfl (by simp[D6]<;>omega) (by repeat constructor) ?_)|refine c_ 5 rfl (E8 rfl rfl (by simp[D6]<;>omega) (by repeat constructor) ?_)
  refine o_ (h:=?_);refine c_ 6 rfl (Dn rfl ?_);refine o_ (h:=?_);refine Bm 7 rfl (Bd rfl rfl rfl rfl rfl rfl (by repeat constructor) (by repeat constructor) ?_);refine o_ (h:=z_ (h:=t_ (AW (f_ (h:=l_ (h:=l_ (h:=Bo (h:=?_))))))))
  first|refine A6 rfl (E7 rfl rfl rfl (by simp[D6]<;>omega) (by repeat constructor) ?_)|refine A6 rfl (E8 rfl rfl (by simp[D6]<;>omega) (by repeat constructor) ?_)
  refine f_ (h:=s_ (h:=AQ (Al (t_ (AW (BE (h:=m_ (h:=AQ (?_)))))))));refine AK ?_;refine⟨_,_,?_,⟨j+1,by omega,rfl,UN hy ha k2,rfl⟩,?_⟩
  ·omega
  rw[e,UM hy];exact(wk 3 2)
 have hc2:=bp hb2;have e:=CM Aa hj hc2;subst e;rw[List.take_length]at ha ⊢;refine BL (Ai (Ai (BM (t_ (w_ (l_ (h:=s_ (h:=a_ (h:=e_ (A4 (?_)))))))))));refine A8 ?_;rw[NV k1 ha];rfl
theorem dF(s:Spc)(l:List Rul)(hv:SpcV s)(hm:s.mounts.length≤1000)(hl:l.length≤1000)(hi:∀r∈l,Cb r):AFn prog 42 [.sl 8 (l.map Aa) none, .agg (Aj s)] (fun x=>x=JM (D5 s l)):=by
 have hplc:∀r,Cb r→AFn prog 90 [.agg (Aa r), .agg (Aj s)] (fun x=>x= .tup [.agg (CG (CD s r).1), .v (.int .i64 (CD s r).2)]):=fun r h=>dB s r hv hm h;refine enter Tryz.func42 rfl rfl rfl rfl rfl 0 rfl ?_;refine w_ (b_ (h:=Ac (h:=a_ (h:=e_ (q_ (w_ (m_ (h:=?_))))))));refine A6 rfl (AJ (Lc l hl hi) ?_);rintro r rfl;refine a_ (h:=e_ (w_ (m_ (h:=Ao (h:=e_ (?_))))));refine A9 rfl (fun hb1=>?_) (fun hb1=>?_)
 ·have hc1:=bp hb1;have k1:CH l≠0:=by simpa using hc1
  refine w_ (Ab (h:=m_ (h:=s_ (h:=a_ (h:=e_ (A4 (A7 (?_))))))));refine Au (r:=JM (D5 s l)) none (h5:=?_) (h6:=⟨rfl,rfl,rfl⟩);exact NW (Q5 k1)
 have hc1:=bp hb1;have k1:¬CH l≠0:=by simpa using hc1
 refine AE (w_ (m_ (h:=?_)));refine A6 rfl (AJ (Q4 l hl fun r hr=>(hi r hr).2.2.2) ?_);rintro r rfl;refine Ab (h:=Ac (h:=s_ (h:=e_ (q_ (w_ (a_ (h:=e_ (Af (?_)))))))));refine KY 2 1 93 6 rfl rfl (by repeat constructor) (by repeat constructor) (by repeat constructor) ?_;refine BW (fun n S=>∃j:Nat,j≤l.length∧n=l.length - j∧(∀r∈l.take j,(CD s r).2=0)∧S=⟨look [(0, .sl 8 (l.map Aa) none),(3, .bp 0 0),(4, .bp 1 0),(7, .bp 2 0),(8, .v (.int .i64 (j:Int)))],⟨[Aj s,[.v (.slice none 0 0), .v (.slice none 0 0)],[.sl 8 (l.map Aa) none, .sl 6 ((D6 s (l.take j)).map CG) (some 0)]],[(93,6,(D6 s (l.take j)).map CG)]⟩⟩) (l.length) ((wk 3 1)) (⟨0,BU _,rfl,by simp,rfl⟩) ?_;rintro n S ⟨j,hj,rfl,ha,rfl⟩;refine q_ (w_ (m_ (h:=m_ (h:=n_ (h:=B1 (h:=e_ (?_)))))));refine A9 rfl (fun hb2=>?_) (fun hb2=>?_)
 ·have hc2:=bp hb2;obtain⟨hlt,r,hy,hrow,e⟩:=Bv Aa hc2;refine AE (q_ (Af (?_)));refine CA (fun S=>S=⟨look [(0, .sl 8 (l.map Aa) none),(3, .bp 0 0),(4, .bp 1 0),(7, .bp 2 0),(8, .v (.int .i64 (j:Int))),(9, .bp 3 0),(10, .v (.int .i64 (CD s r).2))],⟨[Aj s,[.v (.slice none 0 0), .v (.slice none 0 0)],[.sl 8 (l.map Aa) none, .sl 6 ((D6 s (l.take j)).map CG) (some 0)],CG (CD s r).1],[(93,6,(D6 s (l.take j)).map CG)]⟩⟩) ?_ ?_
  ·skip
   refine CE ([(0,Aj s)]) 12 (h:=Ap 0 (h:=Ap 1 (h:=Dc 2 (h:=AY 3 (h:=AY 4 (h:=?_))))));refine Gs 5 9 rfl rfl ?_ ?_
   ·refine AJ (hplc r (hi r (Ar hy))) ?_;rintro r rfl;refine o_ (h:=?_);refine Ap 6 (h:=C2 7 (h:=C2 8 (h:=?_)));refine c_ 9 rfl (Dx (by repeat constructor) ?_);refine o_ (h:=?_);refine Bm 10 rfl (Bd rfl rfl rfl rfl rfl rfl (by repeat constructor) (by repeat constructor) ?_);refine o_ (h:=BN 11 (h:=z_ (h:=?_)));refine AK ?_;exact⟨_,rfl,(wk 4 1)⟩
   refine Dx (by repeat constructor) ?_;refine o_ (h:=?_);refine c_ 5 rfl (AJ (hplc r (hi r (Ar hy))) ?_);rintro r rfl;refine o_ (h:=Ap 6 (h:=C2 7 (h:=C2 8 (h:=?_))));refine Bm 10 rfl (Bd rfl rfl rfl rfl rfl rfl (by repeat constructor) (by repeat constructor) ?_);refine o_ (h:=BN 11 (h:=z_ (h:=?_)));refine AK ?_;exact⟨_,rfl,(wk 4 1)⟩
  rintro S rfl;refine q_ (w_ (m_ (h:=Ao (h:=e_ (?_)))));refine A9 rfl (fun hb3=>?_) (fun hb3=>?_)
  ·have hc3:=bp hb3;have k2:(CD s r).2≠0:=by simpa using hc3
   refine w_ (Ab (h:=m_ (h:=s_ (h:=a_ (h:=e_ (A4 (A7 (AP (A7 (A7 (AP (A7 (?_)))))))))))));refine Au (r:=JM (D5 s l)) none (h5:=?_) (h6:=⟨rfl,rfl,rfl⟩);exact NW (UO k1 (Ar hy) k2)
  have hc3:=bp hb3;have k2:(CD s r).2=0:=by simpa using hc3
  refine AE (AW (f_ (h:=l_ (h:=l_ (h:=Bo (h:=?_))))))
  first|refine A6 rfl (E7 rfl rfl rfl (by simp[D6]<;>omega) (by repeat constructor) ?_)|refine A6 rfl (E8 rfl rfl (by simp[D6]<;>omega) (by repeat constructor) ?_)
  refine f_ (h:=s_ (h:=AQ (Al (t_ (AW (m_ (h:=BE (h:=a_ (h:=AQ (?_))))))))));refine AK ?_;refine⟨_,_,?_,⟨j+1,by omega,rfl,UN hy ha k2,rfl⟩,?_⟩
  ·omega
  rw[UM hy];exact(wk 3 1)
 have hc2:=bp hb2;have e:=CM Aa hj hc2;subst e;rw[List.take_length]at ha ⊢;refine BL (Ai (Ai (BM (t_ (w_ (l_ (h:=s_ (h:=a_ (h:=e_ (A4 (?_)))))))))));refine A8 ?_;rw[NV k1 ha];rfl
end
section
theorem dG(l:List Int)(a:Nat)(ha:a≤100000000000):Dy prog 84 l a [] 4 (fun r=>∃s:ByteArray,r= .v (.string s)∧s.size≤60):=by
 refine enter Tryz.func84 rfl rfl rfl rfl rfl 1 rfl ?_;refine w_ (a_ (h:=e_ (w_ (a_ (h:=e_ (q_ (w_ (m_ (h:=Bo (h:=?_))))))))));refine A6 rfl (Ax 0 (hc:=E4 l _ _ (fun z=>decide (1≤z∧z≤3)) (by omega) (by rfl) (by rfl) (by rfl)) (hR:=?_));rintro r a1 ha1 ⟨k1,rfl,p1⟩;refine⟨rfl,_,(by repeat constructor),?_⟩;obtain⟨hz1,hz2⟩:=of_decide_eq_true p1;obtain⟨m,rfl⟩:=Int.eq_ofNat_of_zero_le (show 0≤k1 by omega);refine a_ (h:=e_ (Af (?_)));refine BW (fun n s=>∃(j a1:Nat) (t:ByteArray),j≤m∧n=j∧a1≤a+1+(m - j)∧t.size≤2 * (m - j)∧s=⟨look [(0, .bp 0 0),(3, .v (.string t)),(4, .v (.int .i64 (j:Int)))],⟨[Cm l a1],[]⟩⟩) (m) ((wk 1 0)) (⟨m,a1,⟨#[]⟩,by omega,rfl,by omega,by rw[Nat.sub_self];exact At 0,rfl⟩) ?_;rintro n s ⟨j,b1,t,hj,hn,hb1,ht,rfl⟩;subst n;refine q_ (w_ (m_ (h:=Bb (h:=e_ (?_)))));refine A9 rfl (fun hb1=>?_) (fun hb1=>?_)
 ·have hc1:=bp hb1;refine AE (q_ (Af (AW (m_ (h:=m_ (h:=Bo (h:=?_)))))));refine A6 rfl (Ax 0 (hc:=JJ l _ _ (fun s=>decide (s.size≤1)) (by omega) (by rfl) (by rfl) (by rfl)) (hR:=?_));rintro r a2 ha2 ⟨k2,rfl,p2⟩;refine⟨rfl,_,(by repeat constructor),?_⟩;have hw:=of_decide_eq_true p2;refine A6 rfl (Dv rfl rfl (by show 1+k2.size≤_;omega) ?_);refine A6 rfl (Dv rfl rfl (by have e:=ByteArray.size_append (a:=⟨#[47]⟩) (b:=k2);have:(⟨#[47]⟩:ByteArray).size=1:=rfl;omega) ?_);refine a_ (h:=AQ (Al (t_ (AW (m_ (h:=G0 (h:=a_ (h:=AQ (?_)))))))));refine AK ?_;obtain⟨j,rfl⟩:∃i,j=i+1:=⟨j - 1,by omega⟩;refine⟨_,_,?_,⟨j,_,_,by omega,rfl,?_,?_,rfl⟩,Az 1 0 rfl rfl rfl rfl (by repeat (first|exact Sub.nil|refine B0 rfl rfl ?_|(apply Sub.of;(focus exact rfl);(focus exact LeA.of_eq (vi (by omega)));(focus exact rfl))))⟩
  ·omega
  ·omega
  have e:=ByteArray.size_append (a:=⟨#[47]⟩) (b:=k2);have e2:=ByteArray.size_append (a:=t) (b:=⟨#[47]⟩++k2);have:(⟨#[47]⟩:ByteArray).size=1:=rfl;omega
 have hc1:=bp hb1;refine BL (Ai (Ai (BM (t_ (w_ (m_ (h:=a_ (h:=e_ (A4 (?_))))))))));refine Au none (h5:=(AX _)) (h6:=⟨_,rfl,rfl,b1,by omega,rfl,t,rfl,by omega⟩)
end
def Bare(s:Spc):Prop:=FlsV s.files∧0<s.files.length∧s.mounts=[]
theorem Bare.v{s:Spc}(h:Bare s):SpcV s:=⟨h.1,h.2.1,fun i m hm=>by rw[h.2.2]at hm;cases hm⟩
theorem Bare.m{s:Spc}(h:Bare s):s.mounts.length≤1000:=by rw[h.2.2];exact BU _
def dH(s:Syst):Prop:=Bare s.spc∧TabB s.tab
theorem UQ:dH (Fm 1).1:=by
 have h:=T4 (k:=1) (by decide) (by decide)
 have e:(Fm 1).1=⟨⟨(Dq 1).1,[]⟩,Pq (0,1)⟩:=by
  unfold Fm;rw[if_neg (by decide)]
 rw[e];exact⟨⟨h.1,h.2,rfl⟩,⟨by decide,by decide,by decide,by decide⟩⟩
def KE(x:Wch):List Value:=[.int .i64 x.kind, .int .i64 x.dir.1, .int .i64 x.dir.2, .string x.name, .int .i64 x.file.1, .int .i64 x.file.2]
theorem UR(x:Wch):AllV (CG x) (KE x):=by repeat constructor
end Go.Proofs.YtbgnigjfkbmceaaGreatDoor
