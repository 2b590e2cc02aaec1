/-
  Part 13 of the proof of FilterSoundP: what the statement's proof uses of the texts in wip/tpl.
-/
import Derived.Test.YtbgnigjfkbmceaaGreatDoorQg12
open Go.Proofs.Tryz (prog)
set_option maxRecDepth 10000
set_option maxHeartbeats 4000000
set_option linter.unusedVariables false
set_option linter.unusedSimpArgs false
namespace Go.Proofs.YtbgnigjfkbmceaaGreatDoor
open Go.RowKit
theorem eC(x:BitVec 64):(x &&& ~~~ 4294967295#64)=0#64↔x.toNat<4294967296:=by
 have hc:(x &&& 4294967295#64).toNat=x.toNat % 4294967296:=by
  rw[BitVec.toNat_and];exact Nat.and_two_pow_sub_one_eq_mod x.toNat 32
 have hs:x=(x &&& 4294967295#64) ||| (x &&& ~~~ 4294967295#64):=by
  apply BitVec.eq_of_getLsbD_eq;intro i hi;simp only[BitVec.getLsbD_or,BitVec.getLsbD_and,BitVec.getLsbD_not,hi];cases x.getLsbD i<;>cases (4294967295#64).getLsbD i<;>simp
 constructor
 ·intro h;rw[h,BitVec.or_zero]at hs;have:=congrArg BitVec.toNat hs;omega
 intro h
 have e:x &&& 4294967295#64=x:=by
  apply BitVec.eq_of_toNat_eq;rw[hc];omega
 rw[←e,BitVec.and_assoc];have:(4294967295#64 &&& ~~~ 4294967295#64)=0#64:=by decide
 rw[this,BitVec.and_zero]
theorem eD{m:Int}(h1:0≤m)(h2:m<18446744073709551616):Nq .u64 m 4294967295=0↔m<4294967296:=by
 have e:Nq .u64 m 4294967295=(((BitVec.ofInt 64 m &&& ~~~ 4294967295#64).toNat:Nat):Int):=by
  show IntKind.u64.wrap ((BitVec.ofInt 64 m &&& ~~~ 4294967295#64).toNat:Nat)=_;have h:=(BitVec.ofInt 64 m &&& ~~~ 4294967295#64).isLt;generalize (BitVec.ofInt 64 m &&& ~~~ 4294967295#64).toNat=n at h;simp only[IntKind.wrap,IntKind.signed,IntKind.bits];simp;omega
 rw[e]
 have hn:(BitVec.ofInt 64 m).toNat=m.toNat:=by
  rw[BitVec.toNat_ofInt];omega
 have h:=eC (BitVec.ofInt 64 m);rw[hn]at h;constructor
 ·intro k;have:(BitVec.ofInt 64 m &&& ~~~ 4294967295#64)=0#64:=BitVec.eq_of_toNat_eq (by simpa using Int.ofNat_inj.1 k);have:=h.1 this;omega
 intro k;rw[h.2 (by omega)];rfl
theorem eE{m:Int}(h1:0≤m):MA .u64 m 32=0↔m<4294967296:=by
 show m.fdiv (2 ^ min (32:Int).toNat 64)=0↔_;rw[show((2:Int) ^ min (32:Int).toNat 64)=4294967296 by decide,Int.fdiv_eq_ediv_of_nonneg _ (by omega)];omega
def DJ(r:Rul):Prop:=0≤r.calls∧r.calls<18446744073709551616∧r.path.size≤50000∧r.tests.length≤1000
def Bx(r:Rul):Bool:=
 if r.watch=0 then decide (r.path=⟨#[]⟩∧r.perm=0)
 else decide ((r.watch=1∨r.watch=2)∧r.list=3∧Dy r.path.data.toList=true∧(r.path.size:Int)≤128∧1≤r.perm∧r.perm≤15)
def H4(list:Int):List Tst→Int
 |[]=>0
 |t::ts=>if B9 t list=0 then H4 list ts else B9 t list
theorem Oy{list:Int}{l:List Tst}{j:Nat}{t:Tst}(ht:l[j]?=some t):H4 list (l.drop j)=if B9 t list=0 then H4 list (l.drop (j+1))else B9 t list:=by
 obtain⟨hk,e⟩:=AP.1 ht;rw[List.drop_eq_getElem_cons hk,H4,e]
theorem Vd{list:Int}{l:List Tst}:H4 list (l.drop l.length)=0:=by simp[H4]
def ER(r:Rul):Bool:=if r.list=2∨r.list=3 then decide (r.calls=0∨¬r.calls<4294967296)else decide (r.calls≠0)
def Av(r:Rul):Int:=
 if r.list<1∨5<r.list then 130 else if r.action≠1∧r.action≠2 then 131 else if ER r=true then 132 else if 8<(r.tests.length:Int)then 133
 else if H4 r.list r.tests≠0 then H4 r.list r.tests else if Bx r=false then 134 else if 31<(r.key.size:Int)then 135 else 0
section
theorem eG(f:Int):AFn prog 166 [.v (.int .i64 f)] (fun r=>r= .v (.bool (decide (f=2∨f=3)))):=by
 refine enter Tryz.func166 rfl rfl rfl rfl rfl 0 rfl ?_;refine w_ (BJ (h:=DT (h:=?_)));refine AF false rfl rfl (fun hb1 hc1=>?_) (fun hb1 hc1=>?_)
 ·refine B1 (h:=FN (h:=?_));refine A4 ?_
  first|(exfalso;first|contradiction|omega)|(exact vb (by simp[*]))
 refine CX (h:=EY (h:=?_));refine A4 ?_
 first|(exfalso;first|contradiction|omega)|(exact vb (by simp[*]))
theorem eH(m:Int)(h1:0≤m)(h2:m<18446744073709551616):AFn prog 167 [.v (.int .u64 m)] (fun r=>r= .v (.bool (decide (m<4294967296)))):=by
 refine enter Tryz.func167 rfl rfl rfl rfl rfl 0 rfl ?_;refine w_ (BJ (h:=at_ (h:=ET (h:=At (h:=?_)))));refine A4 ?_
 first|(exfalso;first|contradiction|omega)|(exact vb (by exact decide_eq_decide.2 (eD h1 h2)))
theorem eJ(m:Int)(h1:0≤m):AFn prog 154 [.v (.int .u64 m)] (fun r=>r= .v (.bool (decide (m<4294967296)))):=by
 refine enter Tryz.func154 rfl rfl rfl rfl rfl 0 rfl ?_;refine w_ (BJ (h:=Sf (h:=ET (h:=At (h:=?_)))));refine A4 ?_
 first|(exfalso;first|contradiction|omega)|(exact vb (by exact decide_eq_decide.2 (eE h1)))
theorem eK(r:Rul)(hp:r.path.size≤50000):AFn prog 168 [.agg (AJ r)] (fun x=>x= .v (.bool (Bx r))):=by
 refine enter Tryz.func168 rfl rfl rfl rfl rfl 0 rfl ?_;refine w_ (b_ (h:=G2 (h:=e_ (BL (B6 (h:=?_))))));refine A6 rfl (fun hb1 hc1=>?_) (fun hb1 hc1=>?_)
 ·refine Ah (h:=DT (h:=?_));refine AF true rfl rfl (fun hb2 hc2=>?_) (fun hb2 hc2=>?_)
  ·refine CW (h:=Bc (h:=BK (h:=?_)));refine A4 ?_
   first|(exfalso;first|contradiction|omega)|(exact vb (by unfold Bx;simp[*]))
  refine Cu (h:=BK (h:=?_));refine A4 ?_
  first|(exfalso;first|contradiction|omega)|(exact vb (by unfold Bx;simp[*]))
 refine q_ (B6 (h:=?_));refine A6 rfl (fun hb3 hc3=>?_) (fun hb3 hc3=>?_)
 ·refine AK (Cz (h:=Ah (h:=DT (h:=?_))));refine AF true rfl rfl (fun hb4 hc4=>?_) (fun hb4 hc4=>?_)
  ·refine AN (h:=?_);refine Af (AA (VZ r.path (by omega)) ?_);rintro r rfl;refine BY (h:=?_);refine AF true rfl rfl (fun hb5 hc5=>?_) (fun hb5 hc5=>?_)
   ·refine Ct (h:=FL (h:=BY (h:=?_)));refine AF true rfl rfl (fun hb6 hc6=>?_) (fun hb6 hc6=>?_)
    ·refine AN (h:=E5 (h:=BY (h:=?_)));refine AF true rfl rfl (fun hb7 hc7=>?_) (fun hb7 hc7=>?_)
     ·refine AN (h:=FL (h:=Bc (h:=BK (h:=?_))));refine A4 ?_
      first|(exfalso;first|contradiction|omega)|(exact vb (by unfold Bx;simp[*]))
     refine Cu (h:=BK (h:=?_));refine A4 ?_
     first|(exfalso;first|contradiction|omega)|(exact vb (by unfold Bx;simp[*]))
    refine EZ (h:=Cu (h:=BK (h:=?_)));refine A4 ?_
    first|(exfalso;first|contradiction|omega)|(exact vb (by unfold Bx;simp[*]))
   refine BF (h:=BQ (h:=EZ (h:=Cu (h:=BK (h:=?_)))));refine A4 ?_
   first|(exfalso;first|contradiction|omega)|(exact vb (by unfold Bx;simp[*]))
  refine EZ (h:=BF (h:=BQ (h:=EZ (h:=Cu (h:=At (h:=Gl (?_)))))));refine BS (?_);refine A4 ?_
  first|(exfalso;first|contradiction|omega)|(exact vb (by unfold Bx;simp[*]))
 refine B2 (HG (h:=?_));refine A6 rfl (fun hb8 hc8=>?_) (fun hb8 hc8=>?_)
 ·refine Ah (h:=DT (h:=?_));refine AF true rfl rfl (fun hb9 hc9=>?_) (fun hb9 hc9=>?_)
  ·refine AN (h:=?_);refine Af (AA (VZ r.path (by omega)) ?_);rintro r rfl;refine BY (h:=?_);refine AF true rfl rfl (fun hb10 hc10=>?_) (fun hb10 hc10=>?_)
   ·refine Ct (h:=FL (h:=BY (h:=?_)));refine AF true rfl rfl (fun hb11 hc11=>?_) (fun hb11 hc11=>?_)
    ·refine AN (h:=E5 (h:=BY (h:=?_)));refine AF true rfl rfl (fun hb12 hc12=>?_) (fun hb12 hc12=>?_)
     ·refine AN (h:=FL (h:=Bc (h:=BK (h:=?_))));refine A4 ?_
      first|(exfalso;first|contradiction|omega)|(exact vb (by unfold Bx;simp[*]))
     refine Cu (h:=BK (h:=?_));refine A4 ?_
     first|(exfalso;first|contradiction|omega)|(exact vb (by unfold Bx;simp[*]))
    refine EZ (h:=Cu (h:=BK (h:=?_)));refine A4 ?_
    first|(exfalso;first|contradiction|omega)|(exact vb (by unfold Bx;simp[*]))
   refine BF (h:=BQ (h:=EZ (h:=Cu (h:=BK (h:=?_)))));refine A4 ?_
   first|(exfalso;first|contradiction|omega)|(exact vb (by unfold Bx;simp[*]))
  refine EZ (h:=BF (h:=BQ (h:=EZ (h:=Cu (h:=At (h:=Gl (?_)))))));refine BS (?_);refine A4 ?_
  first|(exfalso;first|contradiction|omega)|(exact vb (by unfold Bx;simp[*]))
 refine As (Am (EX (h:=?_)));refine A4 ?_
 first|(exfalso;first|contradiction|omega)|(exact vb (by unfold Bx;simp[*]))
theorem eL(r:Rul)(hr:DJ r):AFn prog 116 [.agg (AJ r)] (fun x=>x= .v (.int .i64 (Av r))):=by
 obtain⟨m1,m2,hp,hl⟩:=hr;refine enter Tryz.func116 rfl rfl rfl rfl rfl 0 rfl ?_;refine w_ (b_ (h:=G2 (h:=DS (h:=?_))));refine AF false rfl rfl (fun hb1 hc1=>?_) (fun hb1 hc1=>?_)
 ·refine Ce (h:=e_ (GO (h:=?_)));refine A4 ?_
  first|(exfalso;first|contradiction|omega)|(exact vi (by first|(unfold Av;grind)|(unfold Av ER;grind)))
 refine Fz (h:=C1 (h:=?_));refine A6 rfl (fun hb2 hc2=>?_) (fun hb2 hc2=>?_)
 ·refine Bd (h:=?_);refine A4 ?_
  first|(exfalso;first|contradiction|omega)|(exact vi (by first|(unfold Av;grind)|(unfold Av ER;grind)))
 refine AK (?_);refine Np (⟨look [(1, .bp 0 0),(2, .v (.int .i64 0))],⟨[AJ r],[]⟩⟩) (¬(r.action≠1∧r.action≠2)) ?_ (fun hA=>?_)
 ·skip
  refine Ah (h:=E7 (h:=?_));refine AF true rfl rfl (fun hb3 hc3=>?_) (fun hb3 hc3=>?_)
  ·refine Bg (h:=Cl (h:=?_));refine A6 rfl (fun hb4 hc4=>?_) (fun hb4 hc4=>?_)
   ·refine Bd (h:=?_);refine A4 ?_
    first|(exfalso;first|contradiction|omega)|(exact vi (by first|(unfold Av;grind)|(unfold Av ER;grind)))
   refine As (Ab (?_))
   first|(exfalso;first|contradiction|omega)|exact⟨(by omega),DY 1 0 rfl⟩
  refine E6 (h:=D7 (h:=As (Ab (?_))))
  first|(exfalso;first|contradiction|omega)|exact⟨(by omega),DY 1 0 rfl⟩
 skip
 refine Np (⟨look [(1, .bp 0 0),(2, .v (.int .i64 0))],⟨[AJ r],[]⟩⟩) (ER r=false) ?_ (fun hB=>?_)
 ·skip
  refine Ah (h:=?_);refine A3 rfl (AA (eG _) ?_);rintro r rfl;refine e_ (?_);refine A6 rfl (fun hb5 hc5=>?_) (fun hb5 hc5=>?_)
  ·refine Ah (h:=DT (h:=?_));refine AF false rfl rfl (fun hb6 hc6=>?_) (fun hb6 hc6=>?_)
   ·refine BF (h:=F8 (h:=?_));refine A4 ?_
    first|(exfalso;first|contradiction|omega)|(exact vi (by first|(unfold Av;grind)|(unfold Av ER;grind)))
   refine AN (h:=?_);refine Af (AA (eH _ m1 m2) ?_);rintro r rfl;refine Dd (h:=C1 (h:=?_));refine A6 rfl (fun hb7 hc7=>?_) (fun hb7 hc7=>?_)
   ·refine Bd (h:=?_);refine A4 ?_
    first|(exfalso;first|contradiction|omega)|(exact vi (by first|(unfold Av;grind)|(unfold Av ER;grind)))
   refine As (Ab (?_))
   first|(exfalso;first|contradiction|omega)|exact⟨(by unfold ER;grind),DY 1 0 rfl⟩
  refine Ah (h:=C6 (h:=?_));refine A6 rfl (fun hb8 hc8=>?_) (fun hb8 hc8=>?_)
  ·refine Bd (h:=?_);refine A4 ?_
   first|(exfalso;first|contradiction|omega)|(exact vi (by first|(unfold Av;grind)|(unfold Av ER;grind)))
  refine As (Ab (?_))
  first|(exfalso;first|contradiction|omega)|exact⟨(by unfold ER;grind),DY 1 0 rfl⟩
 skip
 refine F7 (h:=n_ (h:=Dk (h:=?_)));refine A6 rfl (fun hb9 hc9=>?_) (fun hb9 hc9=>?_)
 ·refine Bd (h:=?_);refine A4 ?_
  first|(exfalso;first|contradiction|omega)|(exact vi (by first|(unfold Av;grind)|(unfold Av ER;grind)))
 rw[List.length_map]at hc9;refine D0 (h:=Fm (h:=e_ (BL (?_))));refine BX (fun n s=>∃j:Nat,j≤r.tests.length∧n=r.tests.length - j∧H4 r.list (r.tests.drop j)=H4 r.list r.tests∧s=⟨look [(1, .bp 0 0),(2, .v (.int .i64 0)),(42, .sl 5 (r.tests.map CB) none),(43, .v (.int .i64 ((r.tests.map CB).length:Int))),(44, .v (.int .i64 (j:Int)))],⟨[AJ r],[]⟩⟩) (r.tests.length) ((wk 1 0)) (⟨0,by omega,rfl,rfl,rfl⟩) ?_;rintro n s ⟨j,hj,rfl,ha,rfl⟩;refine w_ (BZ (h:=q_ (?_)));refine A6 rfl (fun hb10 hc10=>?_) (fun hb10 hc10=>?_)
 ·obtain⟨hlt,t,hy,hrow, -⟩:=Bw CB hc10;refine Bk (h:=w_ (Dh (h:=CY (h:=Be (h:=AN (h:=?_))))));refine A3 rfl (AA (Sy t _) ?_);rintro r rfl;refine BJ (h:=C6 (h:=?_));refine A6 rfl (fun hb11 hc11=>?_) (fun hb11 hc11=>?_)
  ·rw[Oy hy,if_neg hc11]at ha;refine Aa (h:=BK (h:=Bj (h:=?_)));refine A4 ?_
   first|(exfalso;first|contradiction|omega)|(exact vi (by first|(unfold Av;grind)|(unfold Av ER;grind)))
  refine As (Am (t_ (B2 (Es (h:=?_)))));refine⟨_,_,?_,⟨j+1,by omega,rfl,(by rw[←ha,Oy hy,if_pos (by omega)]),rfl⟩,(wk 1 0)⟩;omega
 have e:=CS CB hj hc10;subst e;rw[Vd]at ha;refine Cg (h:=q_ (Be (h:=?_)));refine A3 rfl (AA (eK r hp) ?_);rintro r rfl;refine Dj (h:=?_);refine A6 rfl (fun hb12 hc12=>?_) (fun hb12 hc12=>?_)
 ·refine Bd (h:=?_);refine A4 ?_
  first|(exfalso;first|contradiction|omega)|(exact vi (by first|(unfold Av;grind)|(unfold Av ER;grind)))
 refine D0 (h:=n_ (h:=Dk (h:=?_)));refine A6 rfl (fun hb13 hc13=>?_) (fun hb13 hc13=>?_)
 ·refine Bd (h:=?_);refine A4 ?_
  first|(exfalso;first|contradiction|omega)|(exact vi (by first|(unfold Av;grind)|(unfold Av ER;grind)))
 refine AK (Gt (h:=?_));refine A4 ?_
 first|(exfalso;first|contradiction|omega)|(exact vi (by first|(unfold Av;grind)|(unfold Av ER;grind)))
theorem Oz(r:Rul)(hr:DJ r):AFn prog 105 [.agg (AJ r)] (fun x=>x= .v (.int .i64 (Av r))):=by
 obtain⟨m1,m2,hp,hl⟩:=hr;refine enter Tryz.func105 rfl rfl rfl rfl rfl 0 rfl ?_;refine w_ (b_ (h:=G2 (h:=DS (h:=?_))));refine AF false rfl rfl (fun hb1 hc1=>?_) (fun hb1 hc1=>?_)
 ·refine Ce (h:=e_ (GO (h:=?_)));refine A4 ?_
  first|(exfalso;first|contradiction|omega)|(exact vi (by first|(unfold Av;grind)|(unfold Av Bx;grind)))
 refine Fz (h:=C1 (h:=?_));refine A6 rfl (fun hb2 hc2=>?_) (fun hb2 hc2=>?_)
 ·refine Bd (h:=?_);refine A4 ?_
  first|(exfalso;first|contradiction|omega)|(exact vi (by first|(unfold Av;grind)|(unfold Av Bx;grind)))
 refine AK (?_);refine Np (⟨look [(1, .bp 0 0),(2, .v (.int .i64 0))],⟨[AJ r],[]⟩⟩) (¬(r.action≠1∧r.action≠2)) ?_ (fun hA=>?_)
 ·skip
  refine Ah (h:=E7 (h:=?_));refine AF true rfl rfl (fun hb3 hc3=>?_) (fun hb3 hc3=>?_)
  ·refine Bg (h:=Cl (h:=?_));refine A6 rfl (fun hb4 hc4=>?_) (fun hb4 hc4=>?_)
   ·refine Bd (h:=?_);refine A4 ?_
    first|(exfalso;first|contradiction|omega)|(exact vi (by first|(unfold Av;grind)|(unfold Av Bx;grind)))
   refine As (Ab (?_))
   first|(exfalso;first|contradiction|omega)|exact⟨(by omega),DY 1 0 rfl⟩
  refine E6 (h:=D7 (h:=As (Ab (?_))))
  first|(exfalso;first|contradiction|omega)|exact⟨(by omega),DY 1 0 rfl⟩
 skip
 refine H9 (⟨look [(1, .bp 0 0),(2, .v (.int .i64 0)),(3, .v (.bool (decide (r.list=2∨r.list=3))))],⟨[AJ r],[]⟩⟩) ?_ ?_
 ·skip
  refine B2 (CW (h:=m_ (h:=?_)));refine AF false rfl rfl (fun hb5 hc5=>?_) (fun hb5 hc5=>?_)
  ·refine Ce (h:=E8 (h:=?_))
   first|(exfalso;first|contradiction|omega)|exact DY 1 0 rfl
  refine CW (h:=C0 (h:=E8 (h:=?_)))
  first|(exfalso;first|contradiction|omega)|exact DY 1 0 rfl
 skip
 refine q_ (?_);refine H9 (⟨look [(1, .bp 0 0),(2, .v (.int .i64 0)),(50, .v (.bool (ER r)))],⟨[AJ r],[]⟩⟩) ?_ ?_
 ·skip
  refine BV (h:=m_ (h:=?_));refine AF true rfl rfl (fun hb6 hc6=>?_) (fun hb6 hc6=>?_)
  ·refine CW (h:=m_ (h:=?_));refine AF false rfl rfl (fun hb7 hc7=>?_) (fun hb7 hc7=>?_)
   ·refine Fl (h:=BY (h:=E6 (h:=Jm (h:=Cp (h:=Bc (h:=Bq (h:=?_)))))))
    first|(exfalso;first|contradiction|omega)|exact Aj 1 0 rfl rfl rfl rfl (by repeat (first|exact Sub.nil|refine Ak rfl rfl ?_|refine Ao ?_|refine Ap rfl ?_|refine Aq rfl ?_|(apply Sub.of;(focus exact rfl);(focus exact LeA.of_eq (vb (by unfold ER;grind)));(focus exact rfl))))
   refine AN (h:=?_);refine Af (AA (eJ _ m1) ?_);rintro r rfl;refine Dd (h:=C0 (h:=BY (h:=?_)));refine AF false rfl rfl (fun hb8 hc8=>?_) (fun hb8 hc8=>?_)
   ·refine E6 (h:=Jm (h:=Cp (h:=Bc (h:=Bq (h:=?_)))))
    first|(exfalso;first|contradiction|omega)|exact Aj 1 0 rfl rfl rfl rfl (by repeat (first|exact Sub.nil|refine Ak rfl rfl ?_|refine Ao ?_|refine Ap rfl ?_|refine Aq rfl ?_|(apply Sub.of;(focus exact rfl);(focus exact LeA.of_eq (vb (by unfold ER;grind)));(focus exact rfl))))
   refine m_ (h:=Dw (h:=?_));refine AF true rfl rfl (fun hb9 hc9=>?_) (fun hb9 hc9=>?_)
   ·refine Bg (h:=Bc (h:=G5 (h:=?_)))
    (exfalso;first|contradiction|omega)
   refine Cu (h:=G5 (h:=?_))
   first|(exfalso;first|contradiction|omega)|exact Aj 1 0 rfl rfl rfl rfl (by repeat (first|exact Sub.nil|refine Ak rfl rfl ?_|refine Ao ?_|refine Ap rfl ?_|refine Aq rfl ?_|(apply Sub.of;(focus exact rfl);(focus exact LeA.of_eq (vb (by unfold ER;grind)));(focus exact rfl))))
  refine BF (h:=G0 (h:=BQ (h:=m_ (h:=Dw (h:=?_)))));refine AF true rfl rfl (fun hb10 hc10=>?_) (fun hb10 hc10=>?_)
  ·refine Bg (h:=Bc (h:=G5 (h:=?_)))
   first|(exfalso;first|contradiction|omega)|exact Aj 1 0 rfl rfl rfl rfl (by repeat (first|exact Sub.nil|refine Ak rfl rfl ?_|refine Ao ?_|refine Ap rfl ?_|refine Aq rfl ?_|(apply Sub.of;(focus exact rfl);(focus exact LeA.of_eq (vb (by unfold ER;grind)));(focus exact rfl))))
  refine Cu (h:=G5 (h:=?_))
  (exfalso;first|contradiction|omega)
 skip
 refine A6 rfl (fun hb11 hc11=>?_) (fun hb11 hc11=>?_)
 ·refine Bd (h:=?_);refine A4 ?_
  first|(exfalso;first|contradiction|omega)|(exact vi (by first|(unfold Av;grind)|(unfold Av Bx;grind)))
 refine D0 (h:=n_ (h:=Dk (h:=?_)));refine A6 rfl (fun hb12 hc12=>?_) (fun hb12 hc12=>?_)
 ·refine Bd (h:=?_);refine A4 ?_
  first|(exfalso;first|contradiction|omega)|(exact vi (by first|(unfold Av;grind)|(unfold Av Bx;grind)))
 rw[List.length_map]at hc12;refine AK (D8 (h:=?_));refine BX (fun n s=>∃j:Nat,j≤r.tests.length∧n=r.tests.length - j∧H4 r.list (r.tests.drop j)=H4 r.list r.tests∧s=⟨look [(1, .bp 0 0),(2, .v (.int .i64 0)),(4, .v (.int .i64 (j:Int)))],⟨[AJ r],[]⟩⟩) (r.tests.length) ((wk 1 0)) (⟨0,by omega,rfl,rfl,rfl⟩) ?_;rintro n s ⟨j,hj,rfl,ha,rfl⟩;refine BD (h:=Ct (h:=BZ (h:=?_)));refine A6 rfl (fun hb13 hc13=>?_) (fun hb13 hc13=>?_)
 ·obtain⟨hlt,t,hy,hrow, -⟩:=Bw CB hc13;refine AK (q_ (BL (q_ (E4 9 (h:=Ar 0 (h:=AD 1 (h:=Ac 2 (h:=FK 3 (h:=AD 4 (h:=Ar 5 (h:=AD 6 (h:=?_))))))))))));refine c_ 7 rfl (AA (Xa t _) ?_);rintro r rfl;refine o_ (h:=BM 8 (h:=z_ (h:=t_ (w_ (m_ (h:=Gs (h:=e_ (?_))))))));refine A6 rfl (fun hb14 hc14=>?_) (fun hb14 hc14=>?_)
  ·rw[Oy hy,if_neg hc14]at ha;refine Aa (h:=BK (h:=Bj (h:=?_)));refine A4 ?_
   first|(exfalso;first|contradiction|omega)|(exact vi (by first|(unfold Av;grind)|(unfold Av Bx;grind)))
  refine Di (h:=?_);refine⟨_,_,?_,⟨j+1,by omega,rfl,(by rw[←ha,Oy hy,if_pos (by omega)]),rfl⟩,(wk 1 0)⟩;omega
 have e:=CS CB hj hc13;subst e;rw[Vd]at ha;refine Cg (h:=?_);refine Np (⟨look [(1, .bp 0 0),(2, .v (.int .i64 0))],⟨[AJ r],[]⟩⟩) (Bx r=true) ?_ (fun hW=>?_)
 ·skip
  refine Ah (h:=e_ (BL (B6 (h:=?_))));refine A6 rfl (fun hb15 hc15=>?_) (fun hb15 hc15=>?_)
  ·refine Ah (h:=E7 (h:=?_));refine AF false rfl rfl (fun hb16 hc16=>?_) (fun hb16 hc16=>?_)
   ·refine Ce (h:=e_ (Cv (h:=?_)));refine A4 ?_
    first|(exfalso;first|contradiction|omega)|(exact vi (by first|(unfold Av;grind)|(unfold Av Bx;grind)))
   refine Bg (h:=C1 (h:=?_));refine A6 rfl (fun hb17 hc17=>?_) (fun hb17 hc17=>?_)
   ·refine Cw (h:=?_);refine A4 ?_
    first|(exfalso;first|contradiction|omega)|(exact vi (by first|(unfold Av;grind)|(unfold Av Bx;grind)))
   refine As (Am (Ab (?_)))
   first|(exfalso;first|contradiction|omega)|exact⟨(by unfold Bx;grind),DY 1 0 rfl⟩
  refine q_ (B6 (h:=?_));refine A6 rfl (fun hb18 hc18=>?_) (fun hb18 hc18=>?_)
  ·refine AK (Cz (h:=Ah (h:=E7 (h:=?_))));refine AF false rfl rfl (fun hb19 hc19=>?_) (fun hb19 hc19=>?_)
   ·refine BF (h:=BY (h:=BF (h:=BY (h:=G4 (h:=e_ (Cz (h:=w_ (?_))))))));refine BK (h:=?_);refine A4 ?_
    first|(exfalso;first|contradiction|omega)|(exact vi (by first|(unfold Av;grind)|(unfold Av Bx;grind)))
   refine AN (h:=?_);refine Af (AA (Ol _ hp) ?_);rintro r rfl;refine Dd (h:=BQ (h:=?_));refine AF false rfl rfl (fun hb20 hc20=>?_) (fun hb20 hc20=>?_)
   ·refine BF (h:=BY (h:=G4 (h:=e_ (Cv (h:=?_)))));refine A4 ?_
    first|(exfalso;first|contradiction|omega)|(exact vi (by first|(unfold Av;grind)|(unfold Av Bx;grind)))
   refine Ct (h:=Fk (h:=BQ (h:=?_)));refine AF false rfl rfl (fun hb21 hc21=>?_) (fun hb21 hc21=>?_)
   ·refine G4 (h:=e_ (Cv (h:=?_)));refine A4 ?_
    first|(exfalso;first|contradiction|omega)|(exact vi (by first|(unfold Av;grind)|(unfold Av Bx;grind)))
   refine AN (h:=Hs (h:=BQ (h:=?_)));refine AF false rfl rfl (fun hb22 hc22=>?_) (fun hb22 hc22=>?_)
   ·refine Ce (h:=e_ (Cv (h:=?_)));refine A4 ?_
    first|(exfalso;first|contradiction|omega)|(exact vi (by first|(unfold Av;grind)|(unfold Av Bx;grind)))
   refine Fz (h:=C1 (h:=?_));refine A6 rfl (fun hb23 hc23=>?_) (fun hb23 hc23=>?_)
   ·refine Cw (h:=?_);refine A4 ?_
    first|(exfalso;first|contradiction|omega)|(exact vi (by first|(unfold Av;grind)|(unfold Av Bx;grind)))
   refine As (Am (Ab (?_)))
   first|(exfalso;first|contradiction|omega)|exact⟨(by unfold Bx;grind),DY 1 0 rfl⟩
  refine B2 (HG (h:=?_));refine A6 rfl (fun hb24 hc24=>?_) (fun hb24 hc24=>?_)
  ·refine Ah (h:=E7 (h:=?_));refine AF false rfl rfl (fun hb25 hc25=>?_) (fun hb25 hc25=>?_)
   ·refine BF (h:=BY (h:=BF (h:=BY (h:=G4 (h:=e_ (Cz (h:=w_ (?_))))))));refine BK (h:=?_);refine A4 ?_
    first|(exfalso;first|contradiction|omega)|(exact vi (by first|(unfold Av;grind)|(unfold Av Bx;grind)))
   refine AN (h:=?_);refine Af (AA (Ol _ hp) ?_);rintro r rfl;refine Dd (h:=BQ (h:=?_));refine AF false rfl rfl (fun hb26 hc26=>?_) (fun hb26 hc26=>?_)
   ·refine BF (h:=BY (h:=G4 (h:=e_ (Cv (h:=?_)))));refine A4 ?_
    first|(exfalso;first|contradiction|omega)|(exact vi (by first|(unfold Av;grind)|(unfold Av Bx;grind)))
   refine Ct (h:=Fk (h:=BQ (h:=?_)));refine AF false rfl rfl (fun hb27 hc27=>?_) (fun hb27 hc27=>?_)
   ·refine G4 (h:=e_ (Cv (h:=?_)));refine A4 ?_
    first|(exfalso;first|contradiction|omega)|(exact vi (by first|(unfold Av;grind)|(unfold Av Bx;grind)))
   refine AN (h:=Hs (h:=BQ (h:=?_)));refine AF false rfl rfl (fun hb28 hc28=>?_) (fun hb28 hc28=>?_)
   ·refine Ce (h:=e_ (Cv (h:=?_)));refine A4 ?_
    first|(exfalso;first|contradiction|omega)|(exact vi (by first|(unfold Av;grind)|(unfold Av Bx;grind)))
   refine Fz (h:=C1 (h:=?_));refine A6 rfl (fun hb29 hc29=>?_) (fun hb29 hc29=>?_)
   ·refine Cw (h:=?_);refine A4 ?_
    first|(exfalso;first|contradiction|omega)|(exact vi (by first|(unfold Av;grind)|(unfold Av Bx;grind)))
   refine As (Am (Ab (?_)))
   first|(exfalso;first|contradiction|omega)|exact⟨(by unfold Bx;grind),DY 1 0 rfl⟩
  refine Cw (h:=?_);refine A4 ?_
  first|(exfalso;first|contradiction|omega)|(exact vi (by first|(unfold Av;grind)|(unfold Av Bx;grind)))
 skip
 refine F7 (h:=n_ (h:=Dk (h:=?_)));refine A6 rfl (fun hb30 hc30=>?_) (fun hb30 hc30=>?_)
 ·refine Bd (h:=?_);refine A4 ?_
  first|(exfalso;first|contradiction|omega)|(exact vi (by first|(unfold Av;grind)|(unfold Av Bx;grind)))
 refine AK (Gt (h:=?_));refine A4 ?_
 first|(exfalso;first|contradiction|omega)|(exact vi (by first|(unfold Av;grind)|(unfold Av Bx;grind)))
end
deriving instance DecidableEq for Tst
deriving instance DecidableEq for Rul
theorem Ve(a b:ByteArray):(a.toList==b.toList)=decide (a=b):=by
 by_cases h:a=b
 ·simp[h]
 have:a.toList≠b.toList:=fun e=>h (by
  rw[ByteArray.toList_eq,ByteArray.toList_eq]at e;obtain⟨⟨x⟩⟩:=a;obtain⟨⟨y⟩⟩:=b
  simpa using e)
 simp[h,this]
theorem eM(a b:Tst):(a.fld==b.fld&&(a.op==b.op&&(a.num==b.num&&(a.text.toList==b.text.toList&&a.other==b.other))))=decide (a=b):=by
 rw[Ve];obtain⟨a1,a2,a3,a4,a5⟩:=a;obtain⟨b1,b2,b3,b4,b5⟩:=b;by_cases h1:a1=b1<;>by_cases h2:a2=b2<;>by_cases h3:a3=b3<;>by_cases h4:a4=b4<;>by_cases h5:a5=b5<;>simp[h1,h2,h3,h4,h5]
theorem P0{α:Type}[DecidableEq α]{a b:List α}{j:Nat}{x y:α}(hx:a[j]?=some x)(hy:b[j]?=some y):decide (a.drop j=b.drop j)=(decide (x=y)&&decide (a.drop (j+1)=b.drop (j+1))):=by
 obtain⟨h1,e1⟩:=AP.1 hx;obtain⟨h2,e2⟩:=AP.1 hy;rw[List.drop_eq_getElem_cons h1,List.drop_eq_getElem_cons h2,e1,e2];by_cases h:x=y<;>simp[h]
theorem eN{α:Type}[DecidableEq α]{a b:List α}(h:a.length≠b.length):decide (a=b)=false:=by
 simp only[decide_eq_false_iff_not];intro e;exact h (by rw[e])
section
theorem Vf(a b:Tst)(w:World):(binOp .neq 115 (.agg #[.int .i64 a.fld, .int .i64 a.op, .int .i64 a.num, .string a.text, .int .i64 a.other]) (.agg #[.int .i64 b.fld, .int .i64 b.op, .int .i64 b.num, .string b.text, .int .i64 b.other])).run prog w= .ok (.bool (!decide (a=b))) w:=by
 have u3:=Tryz.underlying3;have a3:=Tryz.isAgg3;have z3:=Tryz.sizeOf3;have u9:=Tryz.underlying9;have a9:=Tryz.isAgg9;have z9:=Tryz.sizeOf9;have hS:prog.underlying 115=some (.struct (prog.fieldsOf 115)):=by kernel_rfl
 have hp:prog.stoodInHeld 115=false:=by kernel_rfl
 rw[run_neq_struct,show(10000:Nat)=9999+1 from rfl,run_equalIn_agg w 9999 115 _ _ hS hp];simp only[Program.fieldsOf,Tryz.underlying115]
 go_simp
 rw[←eM];by_cases h1:a.fld=b.fld<;>by_cases h2:a.op=b.op<;>by_cases h3:a.num=b.num<;>by_cases h4:a.text.toList=b.text.toList<;>by_cases h5:a.other=b.other<;>simp[h1,h2,h3,h4,h5]
theorem eO(a b:List Tst)(ha:a.length≤1000):AFn prog 218 [.sl 5 (a.map CB) none, .sl 5 (b.map CB) none] (fun x=>x= .v (.bool (decide (a=b)))):=by
 refine enter Tryz.func218 rfl rfl rfl rfl rfl 0 rfl ?_;refine w_ (Bi (h:=Fm (h:=n_ (h:=C6 (h:=?_)))));refine A6 rfl (fun hb1 hc1=>?_) (fun hb1 hc1=>?_)
 ·refine Bd (h:=?_);refine A4 ?_
  first|(exfalso;first|contradiction|omega)|(exact vb (by rw[eN (by simp at hc1;omega)]))
 have hl:a.length=b.length:=by simp at hc1;omega
 refine AK (BD (h:=Fm (h:=e_ (BL (?_)))));refine BX (fun n s=>∃j:Nat,j≤a.length∧n=a.length - j∧decide (a.drop j=b.drop j)=decide (a=b)∧s=⟨look [(0, .sl 5 (a.map CB) none),(1, .sl 5 (b.map CB) none),(12, .v (.int .i64 ((a.map CB).length:Int))),(13, .v (.int .i64 (j:Int)))],⟨[],[]⟩⟩) (a.length) ((wk 0 0)) (⟨0,by omega,rfl,rfl,rfl⟩) ?_;rintro n s ⟨j,hj,rfl,hd,rfl⟩;refine w_ (BZ (h:=q_ (?_)));refine A6 rfl (fun hb2 hc2=>?_) (fun hb2 hc2=>?_)
 ·obtain⟨hlt,x,hx,hrow, -⟩:=Bw CB hc2;obtain⟨hlt2,y,hy,hrow2, -⟩:=Bw CB (l:=b) (k:=j) (by simpa[hl]using hc2);refine AK (q_ (BL (w_ (m_ (h:=a_ (h:=e_ (q_ (E4 9 (h:=Ac 0 (h:=Ac 1 (h:=FK 2 (h:=AD 3 (h:=Ac 4 (h:=Ac 5 (h:=FK 6 (h:=AD 7 (h:=?_)))))))))))))))));refine Ft (i:=8) rfl (Ff rfl rfl (by repeat constructor) (by repeat constructor) (fun w=>Vf x y w) (by kernel_rfl) ⟨rfl,rfl⟩) ?_;refine z_ (h:=t_ (?_));refine A6 rfl (fun hb3 hc3=>?_) (fun hb3 hc3=>?_)
  ·refine Cw (h:=Bj (h:=?_));refine A4 ?_
   first|(exfalso;first|contradiction|omega)|(exact vb (by rw[←hd,P0 hx hy];simp[hc3]))
  refine As (Am (t_ (B2 (Es (h:=?_)))));refine⟨_,_,?_,⟨j+1,by omega,rfl,(by rw[←hd,P0 hx hy,hc3];simp),rfl⟩,(wk 0 0)⟩;omega
 have e:=CS CB hj hc2;subst e;refine FS (h:=?_);refine A4 ?_
 first|(exfalso;first|contradiction|omega)|(exact vb (by rw[←hd,List.drop_length,hl,List.drop_length];rfl))
theorem eQ(a:List Tst)(ha:a.length≤1000):AFn prog 129 [.sl 5 (a.map CB) none] (fun x=>x= .sl 5 (a.map CB) none):=by
 refine enter Tryz.func129 rfl rfl rfl rfl rfl 0 rfl ?_;refine w_ (Bi (h:=?_));refine A3 rfl (X6 rfl rfl ?_);intro b hb;refine e_ (?_);refine A6 rfl (fun hb1 hc1=>?_) (fun hb1 hc1=>?_)
 ·refine Bd (h:=?_);refine Na (xs:=[.v (.slice none 0 0)]) (r:= .sl 5 [] none) none (by repeat (first|exact ResA.nil|(apply ResA.tmp;(focus exact rfl))|(apply ResA.cellN;(focus exact inferInstance);(focus exact rfl);(focus exact rfl);(focus exact rfl))|(apply ResA.cell1;(focus exact inferInstance);(focus exact rfl);(focus exact rfl);(focus exact rfl)))) rfl rfl rfl (LeA.nil _) ⟨rfl,rfl,?_⟩;rw[hb hc1]
 refine AK (w_ (?_));refine A3 rfl (X8 (by repeat constructor) ?_);refine m_ (h:=Fh (h:=a_ (h:=e_ (Ax (?_)))));refine A4 ?_;rfl
theorem eR(a b:Rul):a=b↔a.list=b.list∧a.action=b.action∧a.calls=b.calls∧a.tests=b.tests∧a.watch=b.watch∧a.path=b.path∧a.perm=b.perm∧a.key=b.key:=by
 cases a;cases b;simp
theorem JB(a b:Rul):decide (a=b)=decide (a.list=b.list∧a.action=b.action∧a.calls=b.calls∧a.tests=b.tests∧a.watch=b.watch∧a.path=b.path∧a.perm=b.perm∧a.key=b.key):=decide_eq_decide.2 (eR a b)
theorem eS(a b:Rul)(ha:a.tests.length≤1000):AFn prog 158 [.agg (AJ a), .agg (AJ b)] (fun x=>x= .v (.bool (decide (a=b)))):=by
 refine enter Tryz.func158 rfl rfl rfl rfl rfl 0 rfl ?_;refine Dg (h:=Ah (h:=CW (h:=m_ (h:=?_))));refine AF true rfl rfl (fun hb1 hc1=>?_) (fun hb1 hc1=>?_)
 ·refine AN (h:=CW (h:=BY (h:=?_)));refine AF true rfl rfl (fun hb2 hc2=>?_) (fun hb2 hc2=>?_)
  ·refine AN (h:=CW (h:=BY (h:=?_)));refine AF true rfl rfl (fun hb3 hc3=>?_) (fun hb3 hc3=>?_)
   ·refine AN (h:=AN (h:=?_));refine Af (AA (eO a.tests b.tests ha) ?_);rintro r rfl;refine BY (h:=?_);refine AF true rfl rfl (fun hb4 hc4=>?_) (fun hb4 hc4=>?_)
    ·refine AN (h:=CW (h:=BY (h:=?_)));refine AF true rfl rfl (fun hb5 hc5=>?_) (fun hb5 hc5=>?_)
     ·refine AN (h:=CW (h:=BY (h:=?_)));refine AF true rfl rfl (fun hb6 hc6=>?_) (fun hb6 hc6=>?_)
      ·refine AN (h:=CW (h:=BY (h:=?_)));refine AF true rfl rfl (fun hb7 hc7=>?_) (fun hb7 hc7=>?_)
       ·refine AN (h:=CW (h:=FN (h:=?_)));refine A4 ?_
        first|(exfalso;first|contradiction|omega)|(exact vb (by rw[JB];simp[*]))
       refine EU (h:=EY (h:=?_));refine A4 ?_
       first|(exfalso;first|contradiction|omega)|(exact vb (by rw[JB];simp[*]))
      refine EU (h:=Eb (h:=EY (h:=?_)));refine A4 ?_
      first|(exfalso;first|contradiction|omega)|(exact vb (by rw[JB];simp[*]))
     refine EU (h:=Eb (h:=Eb (h:=EY (h:=?_))));refine A4 ?_
     first|(exfalso;first|contradiction|omega)|(exact vb (by rw[JB];simp[*]))
    refine EU (h:=Eb (h:=Eb (h:=BQ (h:=E6 (h:=?_)))));refine B1 (h:=EY (h:=?_));refine A4 ?_
    first|(exfalso;first|contradiction|omega)|(exact vb (by rw[JB];simp[*]))
   refine EU (h:=Eb (h:=Eb (h:=BQ (h:=E6 (h:=?_)))));refine B1 (h:=Eb (h:=EY (h:=?_)));refine A4 ?_
   first|(exfalso;first|contradiction|omega)|(exact vb (by rw[JB];simp[*]))
  refine EU (h:=Eb (h:=Eb (h:=BQ (h:=E6 (h:=?_)))));refine B1 (h:=Eb (h:=Eb (h:=EY (h:=?_))));refine A4 ?_
  first|(exfalso;first|contradiction|omega)|(exact vb (by rw[JB];simp[*]))
 refine EU (h:=Eb (h:=Eb (h:=BQ (h:=E6 (h:=?_)))));refine B1 (h:=Eb (h:=Eb (h:=Eb (h:=C0 (h:=?_)))));refine At (h:=?_);refine A4 ?_
 first|(exfalso;first|contradiction|omega)|(exact vb (by rw[JB];simp[*]))
theorem eT(a b:Rul)(ha:a.tests.length≤1000):AFn prog 104 [.agg (AJ a), .agg (AJ b)] (fun x=>x= .v (.bool (decide (a=b)))):=by
 refine enter Tryz.func104 rfl rfl rfl rfl rfl 0 rfl ?_;refine Dg (h:=q_ (?_));refine H9 (⟨look [(2, .bp 0 0),(3, .bp 1 0),(61, .v (.bool (!decide (a.list=b.list∧a.action=b.action∧a.calls=b.calls∧a.watch=b.watch∧a.path=b.path∧a.perm=b.perm∧a.key=b.key∧(a.tests.length:Int)=(b.tests.length:Int)))))],⟨[AJ a,AJ b],[]⟩⟩) ?_ ?_
 ·skip
  refine B2 (AN (h:=Bg (h:=m_ (h:=?_))));refine AF false rfl rfl (fun hb1 hc1=>?_) (fun hb1 hc1=>?_)
  ·refine Er (h:=Er (h:=Er (h:=E6 (h:=?_))));refine B1 (h:=BY (h:=Er (h:=Er (h:=BF (h:=B1 (h:=?_))))));refine Cp (h:=Bc (h:=Bq (h:=?_)))
   first|(exfalso;first|contradiction|omega)|exact DY 2 0 rfl
  refine AN (h:=Bg (h:=BQ (h:=?_)));refine AF false rfl rfl (fun hb2 hc2=>?_) (fun hb2 hc2=>?_)
  ·refine Er (h:=Er (h:=Er (h:=E6 (h:=?_))));refine B1 (h:=BY (h:=Er (h:=BF (h:=Ce (h:=Bq (h:=?_))))))
   first|(exfalso;first|contradiction|omega)|exact DY 2 0 rfl
  refine AN (h:=Bg (h:=BQ (h:=?_)));refine AF false rfl rfl (fun hb3 hc3=>?_) (fun hb3 hc3=>?_)
  ·refine Er (h:=Er (h:=Er (h:=E6 (h:=?_))));refine B1 (h:=BY (h:=BF (h:=Ce (h:=Bq (h:=?_)))))
   first|(exfalso;first|contradiction|omega)|exact DY 2 0 rfl
  refine AN (h:=Bg (h:=BQ (h:=?_)));refine AF false rfl rfl (fun hb4 hc4=>?_) (fun hb4 hc4=>?_)
  ·refine Er (h:=Er (h:=Er (h:=E6 (h:=?_))));refine Fl (h:=Bq (h:=?_))
   first|(exfalso;first|contradiction|omega)|exact DY 2 0 rfl
  refine AN (h:=Bg (h:=BQ (h:=?_)));refine AF false rfl rfl (fun hb5 hc5=>?_) (fun hb5 hc5=>?_)
  ·refine Er (h:=Er (h:=BF (h:=Ce (h:=Bq (h:=?_)))))
   first|(exfalso;first|contradiction|omega)|exact DY 2 0 rfl
  refine AN (h:=Bg (h:=BQ (h:=?_)));refine AF false rfl rfl (fun hb6 hc6=>?_) (fun hb6 hc6=>?_)
  ·refine Er (h:=BF (h:=Ce (h:=Bq (h:=?_))))
   first|(exfalso;first|contradiction|omega)|exact DY 2 0 rfl
  refine AN (h:=Bg (h:=BQ (h:=?_)));refine AF false rfl rfl (fun hb7 hc7=>?_) (fun hb7 hc7=>?_)
  ·refine BF (h:=Ce (h:=Bq (h:=?_)))
   first|(exfalso;first|contradiction|omega)|exact DY 2 0 rfl
  refine Ct (h:=Ct (h:=Gs (h:=G5 (h:=?_))))
  first|(exfalso;first|contradiction|omega)|exact DY 2 0 rfl
 skip
 refine A6 rfl (fun hb8 hc8=>?_) (fun hb8 hc8=>?_)
 ·have hne:a≠b:=by rintro rfl;simp at hc8
  refine Bd (h:=?_);refine A4 ?_
  first|(exfalso;first|contradiction|omega)|(exact vb (by simp[hne]))
 have hq:a.list=b.list∧a.action=b.action∧a.calls=b.calls∧a.watch=b.watch∧a.path=b.path∧a.perm=b.perm∧a.key=b.key∧(a.tests.length:Int)=(b.tests.length:Int):=by simpa using hc8
 obtain⟨q1,q2,q3,q4,q5,q6,q7,q8⟩:=hq;have hl:a.tests.length=b.tests.length:=by omega
 refine AK (D8 (h:=?_));refine BX (fun n s=>∃j:Nat,j≤a.tests.length∧n=a.tests.length - j∧decide (a.tests.drop j=b.tests.drop j)=decide (a.tests=b.tests)∧s=⟨look [(2, .bp 0 0),(3, .bp 1 0),(5, .v (.int .i64 (j:Int)))],⟨[AJ a,AJ b],[]⟩⟩) (a.tests.length) ((wk 2 0)) (⟨0,by omega,rfl,rfl,rfl⟩) ?_;rintro n s ⟨j,hj,rfl,hd,rfl⟩;refine BD (h:=Ct (h:=BZ (h:=?_)));refine A6 rfl (fun hb9 hc9=>?_) (fun hb9 hc9=>?_)
 ·obtain⟨hlt,x,hx,hrow, -⟩:=Bw CB hc9;obtain⟨hlt2,y,hy,hrow2, -⟩:=Bw CB (l:=b.tests) (k:=j) (by simpa[hl]using hc9);refine AK (q_ (BL (q_ (E4 11 (h:=Ar 0 (h:=AD 1 (h:=Ac 2 (h:=FK 3 (h:=AD 4 (h:=Ar 5 (h:=AD 6 (h:=Ac 7 (h:=FK 8 (h:=AD 9 (h:=?_)))))))))))))));refine Ft (i:=10) rfl (Ff rfl rfl (by repeat constructor) (by repeat constructor) (fun w=>Vf x y w) (by kernel_rfl) ⟨rfl,rfl⟩) ?_;refine z_ (h:=t_ (?_));refine A6 rfl (fun hb10 hc10=>?_) (fun hb10 hc10=>?_)
  ·have ht:decide (a.tests=b.tests)=false:=by rw[←hd,P0 hx hy];simp[hc10]
   refine Cw (h:=Bj (h:=?_));refine A4 ?_
   first|(exfalso;first|contradiction|omega)|(exact vb (by rw[JB];simp at ht;simp[ht]))
  refine Di (h:=?_);refine⟨_,_,?_,⟨j+1,by omega,rfl,(by rw[←hd,P0 hx hy,hc10];simp),rfl⟩,(wk 2 0)⟩;omega
 have e:=CS CB hj hc9;subst e;have ht:decide (a.tests=b.tests)=true:=by rw[←hd,List.drop_length,hl,List.drop_length];rfl
 refine FS (h:=?_);refine A4 ?_
 first|(exfalso;first|contradiction|omega)|(exact vb (by rw[JB];simp at ht;simp[*]))
def Fc(l:List Rul)(r:Rul):Int:=D1 (fun _ x=>decide (x=r)) l 0
theorem eU(i:Nat)(x r:Rul)(hx:x.tests.length≤1000):AFn prog 157 [.v (.int .i64 (i:Int)), .agg (AJ x), .fp (AJ r)] (fun y=>y= .v (.bool (decide (x=r)))):=by
 refine enter Tryz.func157 rfl rfl rfl rfl rfl 0 rfl ?_;refine w_ (b_ (h:=B5 (h:=Bl (h:=?_))));refine A3 rfl (AA (eS x r hx) ?_);rintro r rfl;refine At (h:=?_);refine A4 ?_;rfl
theorem eV(l:List Rul)(r:Rul)(hl:l.length≤1000)(ht:∀r∈l,r.tests.length≤1000):AFn prog 107 [.sl 8 (l.map AJ) none, .agg (AJ r)] (fun x=>x= .v (.int .i64 (Fc l r))):=by
 refine enter Tryz.func107 rfl rfl rfl rfl rfl 0 rfl ?_;refine w_ (b_ (h:=BJ (h:=Pr (h:=?_))));refine A3 rfl (Pg rfl (by repeat (first|exact ArgsL.nil|refine ArgsL.cons _ _ _ _ _ rfl rfl ?_)) (TG l hl (fun _ x=>decide (x=r)) 157 [.fp (AJ r)] rfl rfl fun i x hi=>eU i x r (ht x (AT hi))) ?_);rintro x rfl;refine⟨rfl,?_⟩;refine At (h:=?_);refine A4 ?_;rfl
theorem RW(l:List Rul)(r:Rul)(hl:l.length≤1000)(ht:∀r∈l,r.tests.length≤1000):AFn prog 109 [.sl 8 (l.map AJ) none, .agg (AJ r)] (fun x=>x= .v (.int .i64 (Fc l r))):=by
 refine enter Tryz.func109 rfl rfl rfl rfl rfl 0 rfl ?_;refine w_ (b_ (h:=B5 (h:=D8 (h:=?_))));refine BX (fun n s=>∃j:Nat,j≤l.length∧n=l.length - j∧D1 (fun _ x=>decide (x=r)) (l.drop j) j=Fc l r∧s=⟨look [(0, .sl 8 (l.map AJ) none),(3, .bp 0 0),(5, .v (.int .i64 (j:Int)))],⟨[AJ r],[]⟩⟩) (l.length) ((wk 1 0)) (⟨0,by omega,rfl,rfl,rfl⟩) ?_;rintro n s ⟨j,hj,rfl,ha,rfl⟩;refine Dv (h:=n_ (h:=BZ (h:=?_)));refine A6 rfl (fun hb1 hc1=>?_) (fun hb1 hc1=>?_)
 ·obtain⟨hlt,x,hy,hrow, -⟩:=Bw AJ hc1;refine AK (q_ (BL (q_ (E4 6 (h:=Ac 0 (h:=Ac 1 (h:=FK 2 (h:=AD 3 (h:=AD 4 (h:=?_))))))))));refine c_ 5 rfl (AA (eT x r (ht x (AT hy))) ?_);rintro r rfl;refine o_ (h:=z_ (h:=t_ (?_)));refine A6 rfl (fun hb2 hc2=>?_) (fun hb2 hc2=>?_)
  ·refine Aa (h:=BK (h:=Bj (h:=?_)));refine A4 ?_
   first|(exfalso;first|contradiction|omega)|(exact vi (by rw[←ha,LL hy];simp[hc2]))
  refine Di (h:=?_);refine⟨_,_,?_,⟨j+1,by omega,rfl,(by rw[←ha,LL hy];simp[hc2]),rfl⟩,(wk 1 0)⟩;omega
 have e:=CS AJ hj hc1;subst e;refine FS (h:=?_);refine A4 ?_
 first|(exfalso;first|contradiction|omega)|(exact vi (by rw[←ha,Q4]))
def GE(pre:List Rul):List Rul→Int
 |[]=>0
 |r::rs=>if Av r≠0 then Av r else if 0≤Fc pre r then 141 else GE (pre++[r]) rs
theorem Lp{l:List Rul}{j:Nat}{r:Rul}(h:l[j]?=some r):GE (l.take j) (l.drop j)=if Av r≠0 then Av r else if 0≤Fc (l.take j) r then 141 else GE (l.take (j+1)) (l.drop (j+1)):=by
 obtain⟨hk,e⟩:=AP.1 h;rw[List.drop_eq_getElem_cons hk,GE,e,List.take_succ_eq_append_getElem hk,e]
def CN(l:List Rul):Int:=if 24<(l.length:Int)then 140 else GE [] l
theorem Vg(l:List Rul)(hl:l.length≤1000)(hi:∀r∈l,DJ r):AFn prog 85 [.sl 8 (l.map AJ) none] (fun x=>x= .v (.int .i64 (CN l))):=by
 have hfind:∀j r,AFn prog 107 [.sl 8 ((l.map AJ).take j) none, .agg (AJ r)] (fun x=>x= .v (.int .i64 (Fc (l.take j) r))):=fun j r=>by
  rw[←List.map_take];exact eV (l.take j) r (by simp;omega) fun x hx=>(hi x (List.mem_of_mem_take hx)).2.2.2
 refine enter Tryz.func85 rfl rfl rfl rfl rfl 0 rfl ?_;refine w_ (Bi (h:=n_ (h:=Dk (h:=?_))));refine A6 rfl (fun hb1 hc1=>?_) (fun hb1 hc1=>?_)
 ·rw[List.length_map]at hc1;refine Bd (h:=?_);refine A4 ?_
  first|(exfalso;first|contradiction|omega)|(exact vi (by rw[CN,if_pos hc1]))
 rw[List.length_map]at hc1;refine AK (BD (h:=Fm (h:=e_ (BL (?_)))));refine BX (fun n s=>∃j:Nat,j≤l.length∧n=l.length - j∧GE (l.take j) (l.drop j)=GE [] l∧s=⟨look [(0, .sl 8 (l.map AJ) none),(9, .sl 8 (l.map AJ) none),(10, .v (.int .i64 ((l.map AJ).length:Int))),(11, .v (.int .i64 (j:Int)))],⟨[],[]⟩⟩) (l.length) ((wk 0 0)) (⟨0,by omega,rfl,rfl,rfl⟩) ?_;rintro n s ⟨j,hj,rfl,ha,rfl⟩;refine w_ (BZ (h:=q_ (?_)));refine A6 rfl (fun hb2 hc2=>?_) (fun hb2 hc2=>?_)
 ·obtain⟨hlt,r,hy,hrow, -⟩:=Bw AJ hc2;refine Bk (h:=Aa (h:=Dh (h:=D4 (h:=a_ (h:=s_ (h:=e_ (q_ (Be (h:=?_)))))))));refine A3 rfl (AA (eL r (hi r (AT hy))) ?_);rintro r rfl;refine BJ (h:=C6 (h:=?_));refine A6 rfl (fun hb3 hc3=>?_) (fun hb3 hc3=>?_)
  ·refine Aa (h:=At (h:=Bj (h:=Bj (h:=?_))));refine A4 ?_
   first|(exfalso;first|contradiction|omega)|(exact vi (by rw[CN,if_neg hc1,←ha,Lp hy,if_pos hc3]))
  refine AK (q_ (E4 6 (h:=Ac 0 (h:=Ac 1 (h:=?_)))));refine Ft (i:=2) rfl (S5 (k:=j) rfl rfl rfl (by simp;omega) ⟨rfl,rfl⟩) ?_;refine AD 3 (h:=?_);refine c_ 4 rfl (AA (hfind j r) ?_);rintro r rfl;refine o_ (h:=Se 5 (h:=z_ (h:=t_ (?_))));refine A6 rfl (fun hb4 hc4=>?_) (fun hb4 hc4=>?_)
  ·refine Cw (h:=Bj (h:=?_));refine A4 ?_
   first|(exfalso;first|contradiction|omega)|(exact vi (by rw[CN,if_neg hc1,←ha,Lp hy,if_neg (by omega),if_pos hc4]))
  refine As (Am (t_ (B2 (Es (h:=?_)))));refine⟨_,_,?_,⟨j+1,by omega,rfl,(by rw[←ha,Lp hy,if_neg (by omega),if_neg hc4]),rfl⟩,(wk 0 0)⟩;omega
 have e:=CS AJ hj hc2;subst e;refine FS (h:=?_);refine A4 ?_
 first|(exfalso;first|contradiction|omega)|(exact vi (by rw[CN,if_neg hc1,←ha];simp[GE]))
end
section
theorem RX(l:List Rul)(hl:l.length≤1000)(hi:∀r∈l,DJ r):AFn prog 88 [.sl 8 (l.map AJ) none] (fun x=>x= .v (.int .i64 (CN l))):=by
 have hfind:∀j r,AFn prog 109 [.sl 8 ((l.map AJ).take j) none, .agg (AJ r)] (fun x=>x= .v (.int .i64 (Fc (l.take j) r))):=fun j r=>by
  rw[←List.map_take];exact RW (l.take j) r (by simp;omega) fun x hx=>(hi x (List.mem_of_mem_take hx)).2.2.2
 refine enter Tryz.func88 rfl rfl rfl rfl rfl 0 rfl ?_;refine w_ (Bi (h:=n_ (h:=Dk (h:=?_))));refine A6 rfl (fun hb1 hc1=>?_) (fun hb1 hc1=>?_)
 ·rw[List.length_map]at hc1;refine Bd (h:=?_);refine A4 ?_
  first|(exfalso;first|contradiction|omega)|(exact vi (by rw[CN,if_pos hc1]))
 rw[List.length_map]at hc1;refine AK (D8 (h:=?_));refine BX (fun n s=>∃j:Nat,j≤l.length∧n=l.length - j∧GE (l.take j) (l.drop j)=GE [] l∧s=⟨look [(0, .sl 8 (l.map AJ) none),(3, .v (.int .i64 (j:Int)))],⟨[],[]⟩⟩) (l.length) ((wk 0 0)) (⟨0,by omega,rfl,rfl,rfl⟩) ?_;rintro n s ⟨j,hj,rfl,ha,rfl⟩;refine Dv (h:=n_ (h:=BZ (h:=?_)));refine A6 rfl (fun hb2 hc2=>?_) (fun hb2 hc2=>?_)
 ·obtain⟨hlt,r,hy,hrow, -⟩:=Bw AJ hc2;refine Bk (h:=Dv (h:=Dh (h:=?_)));refine A3 rfl (AA (Oz r (hi r (AT hy))) ?_);rintro r rfl;refine BJ (h:=C6 (h:=?_));refine A6 rfl (fun hb3 hc3=>?_) (fun hb3 hc3=>?_)
  ·refine Aa (h:=At (h:=Bj (h:=Bj (h:=?_))));refine A4 ?_
   first|(exfalso;first|contradiction|omega)|(exact vi (by rw[CN,if_neg hc1,←ha,Lp hy,if_pos hc3]))
  refine AK (q_ (E4 9 (h:=Ac 0 (h:=Ac 1 (h:=?_)))));refine Ft (i:=2) rfl (S5 (k:=j) rfl rfl rfl (by simp;omega) ⟨rfl,rfl⟩) ?_;refine Ac 3 (h:=Ac 4 (h:=FK 5 (h:=AD 6 (h:=?_))));refine c_ 7 rfl (AA (hfind j r) ?_);rintro r rfl;refine o_ (h:=Se 8 (h:=z_ (h:=t_ (?_))));refine A6 rfl (fun hb4 hc4=>?_) (fun hb4 hc4=>?_)
  ·refine Cw (h:=Bj (h:=?_));refine A4 ?_
   first|(exfalso;first|contradiction|omega)|(exact vi (by rw[CN,if_neg hc1,←ha,Lp hy,if_neg (by omega),if_pos hc4]))
  refine Di (h:=?_);refine⟨_,_,?_,⟨j+1,by omega,rfl,(by rw[←ha,Lp hy,if_neg (by omega),if_neg hc4]),rfl⟩,(wk 0 0)⟩;omega
 have e:=CS AJ hj hc2;subst e;refine FS (h:=?_);refine A4 ?_
 first|(exfalso;first|contradiction|omega)|(exact vi (by rw[CN,if_neg hc1,←ha];simp[GE]))
theorem Lq(r:Rul)(hl:r.tests.length≤1000):AFn prog 102 [.agg (AJ r)] (fun x=>x= .agg (AJ r)):=by
 refine enter Tryz.func102 rfl rfl rfl rfl rfl 0 rfl ?_;refine w_ (b_ (h:=D4 (h:=e_ (w_ (f_ (h:=l_ (h:=Fh (h:=f_ (h:=s_ (h:=e_ (w_ (l_ (h:=s_ (h:=e_ (Ax (?_))))))))))))))));refine A4 ?_;rfl
theorem eW(l:List Rul)(h1:l.length≤1000)(hl:∀r∈l,r.tests.length≤1000):Nd prog 89 [.sl 8 (l.map AJ) none] (fun g=> .sl 8 (l.map AJ) g) (83,8,l.map AJ):=by
 refine enter Tryz.func89 rfl rfl rfl rfl rfl 0 rfl ?_;refine Df (h:=Df (h:=D8 (h:=?_)));refine NY 3 83 8 rfl (by repeat constructor) ?_;refine BX (fun n s=>∃k:Nat,k≤l.length∧n=l.length - k∧s=⟨look [(0, .sl 8 (l.map AJ) none),(3, .sl 8 ((l.take k).map AJ) (some 0)),(4, .v (.int .i64 (k:Int)))],⟨[],[(83,8,(l.take k).map AJ)]⟩⟩) (l.length) ((wk 0 1)) (⟨0,BO _,rfl,rfl⟩) ?_;rintro n s ⟨k,hk,rfl,rfl⟩;refine Dv (h:=n_ (h:=BZ (h:=?_)));refine A6 rfl (fun hb1 hc1=>?_) (fun hb1 hc1=>?_)
 ·obtain⟨hlt,r,hr,hrow,e⟩:=Bw AJ hc1;refine Bk (h:=BV (h:=DF (h:=Dh (h:=?_))));refine A3 rfl (AA (Lq r (hl r (AT hr))) ?_);rintro r rfl;refine Cd (h:=Fh (h:=a_ (h:=CP (Am (t_ (B2 (m_ (h:=HA (h:=a_ (h:=CP (Ab (?_))))))))))));refine⟨_,_,?_,⟨k+1,by omega,rfl,rfl⟩,?_⟩
  ·omega
  rw[e];exact(wk 0 1)
 have e:=CS AJ hk hc1;subst e;rw[List.take_length];refine Cg (h:=Aa (h:=At (h:=?_)));refine Ag (some 0) (h5:=(A9 _)) (h6:=⟨rfl,rfl,rfl⟩)
theorem Vh(l:List Rul)(h1:l.length≤1000)(hl:∀r∈l,r.tests.length≤1000):AFn prog 89 [.sl 8 (l.map AJ) none] (fun x=>x= .sl 8 (l.map AJ) none):=by
 refine enter Tryz.func89 rfl rfl rfl rfl rfl 0 rfl ?_;refine Df (h:=Df (h:=D8 (h:=?_)));refine NY 3 83 8 rfl (by repeat constructor) ?_;refine BX (fun n s=>∃k:Nat,k≤l.length∧n=l.length - k∧s=⟨look [(0, .sl 8 (l.map AJ) none),(3, .sl 8 ((l.take k).map AJ) (some 0)),(4, .v (.int .i64 (k:Int)))],⟨[],[(83,8,(l.take k).map AJ)]⟩⟩) (l.length) ((wk 0 1)) (⟨0,BO _,rfl,rfl⟩) ?_;rintro n s ⟨k,hk,rfl,rfl⟩;refine Dv (h:=n_ (h:=BZ (h:=?_)));refine A6 rfl (fun hb1 hc1=>?_) (fun hb1 hc1=>?_)
 ·obtain⟨hlt,r,hr,hrow,e⟩:=Bw AJ hc1;refine Bk (h:=BV (h:=DF (h:=Dh (h:=?_))));refine A3 rfl (AA (Lq r (hl r (AT hr))) ?_);rintro r rfl;refine Cd (h:=Fh (h:=a_ (h:=CP (Am (t_ (B2 (m_ (h:=HA (h:=a_ (h:=CP (Ab (?_))))))))))));refine⟨_,_,?_,⟨k+1,by omega,rfl,rfl⟩,?_⟩
  ·omega
  rw[e];exact(wk 0 1)
 have e:=CS AJ hk hc1;subst e;rw[List.take_length];refine Cg (h:=Aa (h:=At (h:=?_)));refine A4 ?_;rfl
end
def CC(l:List Rul)(r:Rul)(front:Bool):List Rul×Int:=
 if CN l≠0 then([],CN l)else if Av r≠0 then([],Av r)else if 0≤Fc l r then([],141)else if 24≤(l.length:Int)then([],140)else(if front=true then r::l else l++[r],0)
def hO(l:List Rul)(r:Rul):List Rul×Int:=
 if CN l≠0 then([],CN l)else if Fc l r<0 then([],142)else(l.eraseIdx (Fc l r).toNat,0)
def Fq(x:List Rul×Int):AV:= .tup [.sl 8 (x.1.map AJ) none, .v (.int .i64 x.2)]
theorem Vi{l:List Rul}(h:¬CN l≠0):(l.length:Int)≤24:=by
 unfold CN at h;split at h
 ·simp at h
 omega
theorem K6{x:List Rul×Int}{e:Int}(h:x=([],e)):LeA (.tup [.v (.slice none 0 0), .v (.int .i64 e)]) (Fq x):=by
 rw[h];exact(by repeat (first|exact A9 _|exact LeA.nil _|exact LeL.refl _|refine LeA.agg ?_|refine LeA.tup ?_|exact LeL.nil|refine LeL.cons ?_ ?_|exact LeA.any _))
theorem Vj{x:List Rul×Int}{l:List Rul}{e:Int}(h:x=(l,e)):LeA (.tup [.sl 8 (l.map AJ) none, .v (.int .i64 e)]) (Fq x):=by
 rw[h];exact A9 _
section
theorem eX(l:List Rul)(r:Rul)(hl:l.length≤1000)(hi:∀r∈l,DJ r)(hr:DJ r):AFn prog 61 [.sl 8 (l.map AJ) none, .agg (AJ r), .v (.bool true)] (fun x=>x=Fq (CC l r true)):=by
 refine enter Tryz.func61 rfl rfl rfl rfl rfl 0 rfl ?_;refine w_ (b_ (h:=a_ (h:=Bi (h:=?_))));refine A3 rfl (AA (RX l hl hi) ?_);rintro r rfl;refine BJ (h:=C6 (h:=?_));refine A6 rfl (fun hb1 hc1=>?_) (fun hb1 hc1=>?_)
 ·refine Aa (h:=Du (h:=?_));refine Ag (r:=Fq (CC l r true)) none (h5:=?_) (h6:=⟨rfl,rfl,rfl⟩);exact K6 (by simp[CC, *])
 refine FR (h:=Be (h:=?_));refine A3 rfl (AA (Oz r hr) ?_);rintro r rfl;refine BJ (h:=C6 (h:=?_));refine A6 rfl (fun hb2 hc2=>?_) (fun hb2 hc2=>?_)
 ·refine Aa (h:=Du (h:=?_));refine Ag (r:=Fq (CC l r true)) none (h5:=?_) (h6:=⟨rfl,rfl,rfl⟩);exact K6 (by simp[CC, *])
 refine AK (BD (h:=l_ (h:=?_)));refine A3 rfl (AA (RW l r hl fun x hx=>(hi x hx).2.2.2) ?_);rintro r rfl;refine E5 (h:=e_ (?_));refine A6 rfl (fun hb3 hc3=>?_) (fun hb3 hc3=>?_)
 ·refine w_ (Du (h:=?_));refine Ag (r:=Fq (CC l r true)) none (h5:=?_) (h6:=⟨rfl,rfl,rfl⟩);exact K6 (by simp[CC, *])
 refine AK (BD (h:=n_ (h:=C2 (h:=?_))));refine A6 rfl (fun hb4 hc4=>?_) (fun hb4 hc4=>?_)
 ·rw[List.length_map]at hc4;refine w_ (Du (h:=?_));refine Ag (r:=Fq (CC l r true)) none (h5:=?_) (h6:=⟨rfl,rfl,rfl⟩);exact K6 (by simp[CC, *])
 rw[List.length_map]at hc4;have h5:=Vi (not_not_intro hc1);have h4:¬24≤(l.length:Int):=by omega
 refine AK (BD (h:=e_ (?_)));refine A6 rfl (fun hb5 hc5=>?_) (fun hb5 hc5=>?_)
 ·refine Be (h:=?_);refine A3 rfl (AA (Lq r hr.2.2.2) ?_);rintro r rfl;refine A3 rfl (SH (by repeat (first|exact DenseA.nil _|(apply DenseA.cons;(focus exact rfl);(focus exact rfl);(focus exact rfl);(focus exact rfl))|(apply DenseA.consE;(focus exact rfl);(focus exact rfl);(focus exact rfl)))) rfl rfl rfl rfl (by repeat constructor) ?_);refine m_ (h:=?_);refine A3 rfl (AA (Vh l hl fun x hx=>(hi x hx).2.2.2) ?_);rintro r rfl;refine Fh (h:=a_ (h:=a_ (h:=e_ (Ax (BS (?_))))));refine Ag (r:=Fq (CC l r true)) none (h5:=?_) (h6:=⟨rfl,rfl,rfl⟩);exact Vj (l:=r::l) (by simp[CC, *])
 exact Fw
theorem eY(l:List Rul)(r:Rul)(hl:l.length≤1000)(hi:∀r∈l,DJ r)(hr:DJ r):AFn prog 61 [.sl 8 (l.map AJ) none, .agg (AJ r), .v (.bool false)] (fun x=>x=Fq (CC l r false)):=by
 refine enter Tryz.func61 rfl rfl rfl rfl rfl 0 rfl ?_;refine w_ (b_ (h:=a_ (h:=Bi (h:=?_))));refine A3 rfl (AA (RX l hl hi) ?_);rintro r rfl;refine BJ (h:=C6 (h:=?_));refine A6 rfl (fun hb1 hc1=>?_) (fun hb1 hc1=>?_)
 ·refine Aa (h:=Du (h:=?_));refine Ag (r:=Fq (CC l r false)) none (h5:=?_) (h6:=⟨rfl,rfl,rfl⟩);exact K6 (by simp[CC, *])
 refine FR (h:=Be (h:=?_));refine A3 rfl (AA (Oz r hr) ?_);rintro r rfl;refine BJ (h:=C6 (h:=?_));refine A6 rfl (fun hb2 hc2=>?_) (fun hb2 hc2=>?_)
 ·refine Aa (h:=Du (h:=?_));refine Ag (r:=Fq (CC l r false)) none (h5:=?_) (h6:=⟨rfl,rfl,rfl⟩);exact K6 (by simp[CC, *])
 refine AK (BD (h:=l_ (h:=?_)));refine A3 rfl (AA (RW l r hl fun x hx=>(hi x hx).2.2.2) ?_);rintro r rfl;refine E5 (h:=e_ (?_));refine A6 rfl (fun hb3 hc3=>?_) (fun hb3 hc3=>?_)
 ·refine w_ (Du (h:=?_));refine Ag (r:=Fq (CC l r false)) none (h5:=?_) (h6:=⟨rfl,rfl,rfl⟩);exact K6 (by simp[CC, *])
 refine AK (BD (h:=n_ (h:=C2 (h:=?_))));refine A6 rfl (fun hb4 hc4=>?_) (fun hb4 hc4=>?_)
 ·rw[List.length_map]at hc4;refine w_ (Du (h:=?_));refine Ag (r:=Fq (CC l r false)) none (h5:=?_) (h6:=⟨rfl,rfl,rfl⟩);exact K6 (by simp[CC, *])
 rw[List.length_map]at hc4;have h5:=Vi (not_not_intro hc1);have h4:¬24≤(l.length:Int):=by omega
 refine AK (BD (h:=e_ (?_)));refine A6 rfl (fun hb5 hc5=>?_) (fun hb5 hc5=>?_)
 ·exact Fw
 refine AK (q_ (Bz ([(0,AJ r)]) 8 (h:=Ac 0 (h:=?_))))
 first|refine AD 2 (h:=?_)|refine BT 2 rfl (fun _ hS=>Kw rfl (by rw[hS];rfl) rfl ⟨rfl,rfl⟩) ?_
 refine c_ 1 rfl (SJ rfl (by repeat (first|exact Args.nil|refine Args.cons _ _ _ _ _ rfl (JE rfl) ?_|refine Args.cons _ _ _ _ _ rfl (KF _) ?_|refine Args.cons _ _ _ _ _ rfl (Jh _) ?_|refine Args.cons _ _ _ _ _ rfl (KK rfl (by repeat (first|exact A9 _|exact LeA.nil _|exact LeL.refl _|refine LeA.agg ?_|refine LeA.tup ?_|exact LeL.nil|refine LeL.cons ?_ ?_|exact LeA.any _))) ?_)) (eW l hl fun x hx=>(hi x hx).2.2.2) (fun _=>rfl) (by repeat constructor) ?_);refine o_ (h:=?_);refine c_ 3 rfl (AA (Lq r hr.2.2.2) ?_);rintro r rfl;refine o_ (h:=L9 4 (h:=?_))
 first|refine c_ 5 rfl (FJ rfl rfl rfl (by simp<;>omega) (by repeat constructor) ?_)|refine c_ 5 rfl (GJ rfl rfl (by simp<;>omega) (by repeat constructor) ?_)
 refine o_ (h:=BM 6 (h:=BM 7 (h:=z_ (h:=t_ (Ax (?_))))));refine Ag (r:=Fq (CC l r false)) none (h5:=?_) (h6:=⟨rfl,rfl,rfl⟩);have:=Vj (x:=CC l r false) (l:=l++[r]) (e:=0) (by simp[CC, *]);rw[List.map_append]at this;exact this
theorem Vk(l:List Rul)(r:Rul)(front:Bool)(hl:l.length≤1000)(hi:∀r∈l,DJ r)(hr:DJ r):AFn prog 61 [.sl 8 (l.map AJ) none, .agg (AJ r), .v (.bool front)] (fun x=>x=Fq (CC l r front)):=by
 cases front
 ·exact eY l r hl hi hr
 exact eX l r hl hi hr
end
def eZ(u:Int):Ctx:=⟨2,0,0,u,0,0,0,0,0,(0,0),⟨#[]⟩,⟨#[]⟩,false,0,0,0,0,0,0,[],0⟩
def Lr:Cxs:=⟨[],[],[]⟩
structure Pol where
 rules:List Rul
 wats:List Wch
deriving DecidableEq
def Au(p:Pol):List AV:=[.sl 8 (p.rules.map AJ) none, .sl 6 (p.wats.map BR) none]
def Dq:Pol:=⟨[],[]⟩
def H5(x:Pol×Int):AV:= .tup [.agg (Au x.1), .v (.int .i64 x.2)]
def CD(s:Spc)(r:Rul):Wch×Int:=if r.watch=0 then(Dp,0)else if(GD s r.watch r.path).2≠0 then(Dp,180)else((GD s r.watch r.path).1,0)
def JC(s:Spc)(l:List Rul):Pol×Int:=if CN l≠0 then(Dq,CN l)else if l.all (fun r=>decide ((CD s r).2=0))=true then(⟨l,l.map fun r=>(CD s r).1⟩,0)else(Dq,180)
def Fd(s:Spc)(p:Pol)(r:Rul)(front:Bool):Pol×Int:=
 if(CC p.rules r front).2≠0 then(Dq,(CC p.rules r front).2)else if(CD s r).2≠0 then(Dq,(CD s r).2)
 else(⟨(CC p.rules r front).1,if front=true then(CD s r).1::p.wats else p.wats++[(CD s r).1]⟩,0)
def DZ(s:Spc)(r:Rul)(w:Wch):Bool:=if r.watch=0 then decide (w=Dp)else decide (w.kind=r.watch)&&Cx s w
def Hi(s:Spc)(p:Pol):Bool:=decide (CN p.rules=0)&&decide (p.wats.length=p.rules.length)&&(p.rules.zip p.wats).all fun x=>DZ s x.1 x.2
theorem f6(s:Spc)(r:Rul):(CD s r).2=0∨(CD s r).2=180:=by
 unfold CD;split
 ·exact .inl rfl
 split
 ·exact .inr rfl
 exact .inl rfl
section
theorem Vl(s:Spc)(r:Rul)(hv:SpcV s)(hm:s.mounts.length≤1000)(hr:DJ r):AFn prog 90 [.agg (AJ r), .agg (AQ s)] (fun x=>x=Ox (CD s r)):=by
 obtain⟨F,hF⟩:∃F,GD s r.watch r.path=F:=⟨_,rfl⟩;have hplc:AFn prog 130 [.agg (AQ s), .v (.int .i64 r.watch), .v (.string r.path)] (fun x=>x= .tup [.agg (BR F.1), .v (.int .i64 F.2)]):=by rw[←hF];exact dY s r.watch r.path hv hm hr.2.2.1
 have hw:CD s r=if r.watch=0 then(Dp,0)else if F.2≠0 then(Dp,180)else(F.1,0):=by rw[CD,hF]
 refine enter Tryz.func90 rfl rfl rfl rfl rfl 0 rfl ?_;refine FM (h:=G2 (h:=C2 (h:=?_)));refine A6 rfl (fun hb1 hc1=>?_) (fun hb1 hc1=>?_)
 ·have k1:r.watch=0:=hc1;refine Cf (h:=?_);refine A4 ?_;rw[hw,if_pos k1];rfl
 have k1:¬r.watch=0:=hc1;refine AK (Be (h:=AN (h:=AN (h:=?_))));refine A3 rfl (AA (hplc) ?_);rintro r rfl;refine Ea (h:=C6 (h:=?_));refine A6 rfl (fun hb2 hc2=>?_) (fun hb2 hc2=>?_)
 ·have k2:F.2≠0:=by simpa using hc2
  refine Cf (h:=?_);refine A4 ?_;rw[hw,if_neg k1,if_pos k2];rfl
 have k2:¬F.2≠0:=by simpa using hc2
 refine AK (D6 (h:=At (h:=?_)));refine A4 ?_;rw[hw,if_neg k1,if_neg k2];rfl
theorem f9(p:Pol)(i:Nat)(x:Wch)(hl:p.wats.length≤1000)(hx:p.wats[i]?=some x):AFn prog 70 [.agg (Au p), .v (.int .i64 (i:Int))] (fun r=>r= .agg (BR x)):=by
 have hlt:i<p.wats.length:=(AP.1 hx).1;have hrow:(p.wats.map BR)[i]?=some (BR x):=by rw[List.getElem?_map,hx];rfl
 refine enter Tryz.func70 rfl rfl rfl rfl rfl 0 rfl ?_;refine w_ (EL (h:=e_ (BD (h:=DS (h:=?_)))));refine AF false rfl rfl (fun hb1 hc1=>?_) (fun hb1 hc1=>?_)
 ·exact Fw
 refine m_ (h:=Ct (h:=E5 (h:=C1 (h:=?_))));refine A6 rfl (fun hb2 hc2=>?_) (fun hb2 hc2=>?_)
 ·have hc2:=bp hb2;simp at hc2;omega
 refine AK (G3 (h:=Dh (h:=s_ (h:=e_ (Ax (?_))))));refine A4 ?_;rfl
theorem fA(r:Rul)(hr:r.tests.length≤1000):AFn prog 87 [.agg (AJ r)] (fun x=>x= .agg (AJ r)):=by
 refine enter Tryz.func87 rfl rfl rfl rfl rfl 0 rfl ?_;refine w_ (EL (h:=e_ (Ah (h:=?_))));refine A3 rfl (AA (eQ r.tests hr) ?_);rintro r rfl;refine Bm (h:=e_ (D6 (h:=e_ (Ax (?_)))));refine A4 ?_;rfl
end
def Ey(s:Spc)(l:List Rul):List Wch:=l.map fun r=>(CD s r).1
theorem fB{s:Spc}{l:List Rul}{j:Nat}{r:Rul}(h:l[j]?=some r):(Ey s (l.take (j+1))).map BR=(Ey s (l.take j)).map BR++[BR (CD s r).1]:=by
 simp[Ey,List.take_add_one,h]
theorem fC{s:Spc}{l:List Rul}{j:Nat}{r:Rul}(h:l[j]?=some r)(ha:∀r∈l.take j,(CD s r).2=0)(hr:(CD s r).2=0):∀r∈l.take (j+1),(CD s r).2=0:=by
 intro x hx;rw[List.take_add_one,h]at hx;rcases List.mem_append.1 hx with hx|hx
 ·exact ha x hx
 have e:x=r:=by simpa using hx
 rw[e];exact hr
theorem fD{s:Spc}{l:List Rul}(h:CN l≠0):JC s l=(Dq,CN l):=by rw[JC,if_pos h]
theorem fE{s:Spc}{l:List Rul}{r:Rul}(h:¬CN l≠0)(hr:r∈l)(hp:(CD s r).2≠0):JC s l=(Dq,(CD s r).2):=by
 rw[JC,if_neg h,if_neg]
 ·rcases f6 s r with e|e
  ·exact absurd e hp
  rw[e]
 intro k;exact hp (of_decide_eq_true (List.all_eq_true.1 k r hr))
theorem Vm{s:Spc}{l:List Rul}(h:¬CN l≠0)(ha:∀r∈l,(CD s r).2=0):JC s l=(⟨l,Ey s l⟩,0):=by
 rw[JC,if_neg h,if_pos]
 ·rfl
 exact List.all_eq_true.2 fun r hr=>decide_eq_true (ha r hr)
theorem Ls{x:Pol×Int}{e:Int}(h:x=(Dq,e)):LeA (.tup [.agg [.v (.slice none 0 0), .v (.slice none 0 0)], .v (.int .i64 e)]) (H5 x):=by
 rw[h];exact(by repeat (first|exact A9 _|exact LeA.nil _|exact LeL.refl _|refine LeA.agg ?_|refine LeA.tup ?_|exact LeL.nil|refine LeL.cons ?_ ?_|exact LeA.any _))
section
theorem fF(s:Spc)(r:Rul)(h0:r.watch=0):AFn prog 86 [.agg (AQ s), .agg (AJ r)] (fun x=>x=Ox (CD s r)):=by
 have hw:CD s r=(Dp,0):=if_pos h0;refine enter Tryz.func86 rfl rfl rfl rfl rfl 0 rfl ?_;refine FM (h:=G2 (h:=C2 (h:=?_)));refine A6 rfl (fun hb1 hc1=>?_) (fun hb1 hc1=>?_)
 ·refine Cf (h:=?_);refine A4 ?_;rw[hw];rfl
 exact Fw
theorem fG(s:Spc)(l:List Rul)(hl:l.length≤1000)(hi:∀r∈l,DJ r)(hplc0:∀r,r∈l→AFn prog 86 [.agg (AQ s), .agg (AJ r)] (fun x=>x=Ox (CD s r))):AFn prog 41 [.sl 8 (l.map AJ) none, .agg (AQ s)] (fun x=>x=H5 (JC s l)):=by
 have hplc:∀r,r∈l→AFn prog 86 [.agg (AQ s), .agg (AJ r)] (fun x=>x= .tup [.agg (BR (CD s r).1), .v (.int .i64 (CD s r).2)]):=hplc0;refine enter Tryz.func41 rfl rfl rfl rfl rfl 0 rfl ?_;refine w_ (EL (h:=Bi (h:=?_)));refine A3 rfl (AA (Vg l hl hi) ?_);rintro r rfl;refine BJ (h:=C6 (h:=?_));refine A6 rfl (fun hb1 hc1=>?_) (fun hb1 hc1=>?_)
 ·have k1:CN l≠0:=by simpa using hc1
  refine w_ (FP (h:=At (h:=BS (?_))));refine Ag (r:=H5 (JC s l)) none (h5:=?_) (h6:=⟨rfl,rfl,rfl⟩);exact Ls (fD k1)
 have k1:¬CN l≠0:=by simpa using hc1
 refine AK (w_ (D4 (h:=e_ (BD (h:=Fm (h:=e_ (BL (?_))))))));refine Nt 2 0 83 8 rfl rfl (by repeat constructor) (by repeat constructor) (by repeat constructor) ?_;refine Nt 2 1 93 6 rfl rfl (by repeat constructor) (by repeat constructor) (by repeat constructor) ?_;refine BX (fun n S=>∃j:Nat,j≤l.length∧n=l.length - j∧(∀r∈l.take j,(CD s r).2=0)∧S=⟨look [(3, .bp 0 0),(4, .bp 1 0),(7, .bp 2 0),(18, .sl 8 (l.map AJ) none),(19, .v (.int .i64 ((l.map AJ).length:Int))),(20, .v (.int .i64 (j:Int)))],⟨[AQ s,[.v (.slice none 0 0), .v (.slice none 0 0)],[.sl 8 ((l.take j).map AJ) (some 0), .sl 6 ((Ey s (l.take j)).map BR) (some 1)]],[(83,8,(l.take j).map AJ),(93,6,(Ey s (l.take j)).map BR)]⟩⟩) (l.length) ((wk 3 2)) (⟨0,BO _,rfl,by simp,rfl⟩) ?_;rintro n S ⟨j,hj,rfl,ha,rfl⟩;refine w_ (BZ (h:=q_ (?_)));refine A6 rfl (fun hb2 hc2=>?_) (fun hb2 hc2=>?_)
 ·obtain⟨hlt,r,hy,hrow,e⟩:=Bw AJ hc2;refine Bk (h:=w_ (Dh (h:=CY (h:=Bl (h:=?_)))));refine A3 rfl (AA (hplc r (AT hy)) ?_);rintro r rfl;refine Ea (h:=C6 (h:=?_));refine A6 rfl (fun hb3 hc3=>?_) (fun hb3 hc3=>?_)
  ·have k2:(CD s r).2≠0:=by simpa using hc3
   refine w_ (FP (h:=At (h:=Bj (h:=Bj (h:=?_)))));refine Ag (r:=H5 (JC s l)) none (h5:=?_) (h6:=⟨rfl,rfl,rfl⟩);exact Ls (fE k1 (AT hy) k2)
  have k2:(CD s r).2=0:=by simpa using hc3
  refine AK (q_ (Bz ([(0,AQ s),(1,[.v (.slice none 0 0), .v (.slice none 0 0)]),(2,[.sl 8 ((l.take j).map AJ) (some 0), .sl 6 ((Ey s (l.take j)).map BR) (some 1)]),(3,AJ r)]) 6 (h:=Ar 0 (h:=AD 1 (h:=AD 2 (h:=?_))))));refine c_ 3 rfl (AA (fA r (hi r (AT hy)).2.2.2) ?_);rintro r rfl;refine o_ (h:=L9 4 (h:=?_))
  first|refine c_ 5 rfl (FJ rfl rfl rfl (by simp[Ey]<;>omega) (by repeat constructor) ?_)|refine c_ 5 rfl (GJ rfl rfl (by simp[Ey]<;>omega) (by repeat constructor) ?_)
  refine o_ (h:=?_);refine c_ 6 rfl (FG rfl ?_);refine o_ (h:=?_);refine CG 7 (h:=z_ (h:=t_ (B2 (f_ (h:=l_ (h:=l_ (h:=Cd (h:=?_))))))))
  first|refine A3 rfl (FJ rfl rfl rfl (by simp[Ey]<;>omega) (by repeat constructor) ?_)|refine A3 rfl (GJ rfl rfl (by simp[Ey]<;>omega) (by repeat constructor) ?_)
  refine Bm (h:=CP (Am (t_ (B2 (Es (h:=?_))))));refine⟨_,_,?_,⟨j+1,by omega,rfl,fC hy ha k2,rfl⟩,?_⟩
  ·omega
  rw[e,fB hy];exact(wk 3 2)
 have e:=CS AJ hj hc2;subst e;rw[List.take_length]at ha ⊢;refine Cg (h:=D6 (h:=At (h:=?_)));refine A4 ?_;rw[Vm k1 ha];rfl
end
section
theorem fH(l:List Int)(a:Nat)(ha:a≤100000000000):Ej prog 84 l a [] 4 (fun r=>∃s:ByteArray,r= .v (.string s)∧s.size≤60):=by
 refine enter Tryz.func84 rfl rfl rfl rfl rfl 1 rfl ?_;refine Df (h:=w_ (Bi (h:=Cd (h:=?_))));refine A3 rfl (AX 0 (hc:=FE l _ _ (fun z=>decide (1≤z∧z≤3)) (by omega) (by rfl) (by rfl) (by rfl)) (hR:=?_));rintro r a1 ha1 ⟨k1,rfl,p1⟩;refine AY ?_;obtain⟨hz1,hz2⟩:=of_decide_eq_true p1;obtain⟨m,rfl⟩:=Int.eq_ofNat_of_zero_le (show 0≤k1 by omega);refine B5 (h:=BL (?_));refine BX (fun n s=>∃(j a1:Nat) (t:ByteArray),j≤m∧n=j∧a1≤a+1+(m - j)∧t.size≤2 * (m - j)∧s=⟨look [(0, .bp 0 0),(3, .v (.string t)),(4, .v (.int .i64 (j:Int)))],⟨[Cq l a1],[]⟩⟩) (m) ((wk 1 0)) (⟨m,a1,⟨#[]⟩,by omega,rfl,by omega,by rw[Nat.sub_self];exact Al 0,rfl⟩) ?_;rintro n s ⟨j,b1,t,hj,hn,hb1,ht,rfl⟩;subst n;refine BD (h:=Dk (h:=?_));refine A6 rfl (fun hb1 hc1=>?_) (fun hb1 hc1=>?_)
 ·refine Bk (h:=BV (h:=FQ (h:=?_)));refine A3 rfl (AX 0 (hc:=Km l _ _ (fun s=>decide (s.size≤1)) (by omega) (by rfl) (by rfl) (by rfl)) (hR:=?_));rintro r a2 ha2 ⟨k2,rfl,p2⟩;refine AY ?_;have hw:=of_decide_eq_true p2;refine A3 rfl (F0 rfl rfl (by show 1+k2.size≤_;omega) ?_);refine A3 rfl (F0 rfl rfl (by have e:=ByteArray.size_append (a:=⟨#[47]⟩) (b:=k2);have:(⟨#[47]⟩:ByteArray).size=1:=rfl;omega) ?_);refine EG (h:=Am (t_ (BV (h:=Hr (h:=E8 (h:=?_))))));obtain⟨j,rfl⟩:∃i,j=i+1:=⟨j - 1,by omega⟩;refine⟨_,_,?_,⟨j,_,_,by omega,rfl,?_,?_,rfl⟩,Aj 1 0 rfl rfl rfl rfl (by repeat (first|exact Sub.nil|refine Ak rfl rfl ?_|(apply Sub.of;(focus exact rfl);(focus exact LeA.of_eq (vi (by omega)));(focus exact rfl))))⟩
  ·omega
  ·omega
  have e:=ByteArray.size_append (a:=⟨#[47]⟩) (b:=k2);have e2:=ByteArray.size_append (a:=t) (b:=⟨#[47]⟩++k2);have:(⟨#[47]⟩:ByteArray).size=1:=rfl;omega
 refine Cg (h:=Aa (h:=At (h:=?_)));refine Ag none (h5:=(A9 _)) (h6:=⟨_,rfl,rfl,b1,by omega,rfl,t,rfl,by omega⟩)
end
def Bare(s:Spc):Prop:=FlsV s.files∧0<s.files.length∧s.mounts=[]
theorem Bare.v{s:Spc}(h:Bare s):SpcV s:=⟨h.1,h.2.1,fun i m hm=>by rw[h.2.2]at hm;cases hm⟩
theorem Bare.m{s:Spc}(h:Bare s):s.mounts.length≤1000:=by rw[h.2.2];exact BO _
def fJ(s:Syst):Prop:=Bare s.spc∧TabB s.tab
theorem Vn:fJ (Hg 1).1:=by
 have h:=UW (k:=1) (by decide) (by decide)
 have e:(Hg 1).1=⟨⟨(Et 1).1,[]⟩,RF (0,1)⟩:=by
  unfold Hg;rw[if_neg (by decide)]
 rw[e];exact⟨⟨h.1,h.2,rfl⟩,⟨by decide,by decide,by decide,by decide⟩⟩
def Lt(x:Wch):List Value:=[.int .i64 x.kind, .int .i64 x.dir.1, .int .i64 x.dir.2, .string x.name, .int .i64 x.file.1, .int .i64 x.file.2]
theorem Vo(x:Wch):AllV (BR x) (Lt x):=by repeat constructor
end Go.Proofs.YtbgnigjfkbmceaaGreatDoor
