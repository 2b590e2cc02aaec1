/- Part 7 of the proof of FilterBehindP. -/
import Derived.Test.YtbgnigjfkbmceaaGreatDoorQj6
open Go.Proofs.Tryz (prog)
set_option maxRecDepth 10000
set_option maxHeartbeats 4000000
set_option linter.unusedVariables false
set_option linter.unusedSimpArgs false
namespace Go.Proofs.YtbgnigjfkbmceaaGreatDoor
open Go.RowKit
theorem v6:LeL [.v (.slice none 0 0), .v (.slice none 0 0)] (C8 JA):=by
 show LeL _ [.sl 8 [] none, .sl 6 [] none];exact LeL.cons (LeA.nil _) (LeL.cons (LeA.nil _) LeL.nil)
section
theorem v7(l:List Int)(a m:Nat)(s:Spc)(ha:a<=100000000)(hm:m<=20)(hv:SpcV s)(hmm:s.mounts.length<=1000):GenF prog 20 l a [.agg (AQ s), .v (.int .i64 (m:Int))] 50000 (fun r=>∃p:Pol,PolOk s p 20/\r= .agg (C8 p)):=by
 refine enter Tryz.func20 rfl rfl rfl rfl rfl 1 rfl ?_;refine E5 (h:=e_ (w_ (Ck (h:=e_ (EH (h:=Ez (h:=?_)))))));refine A7 (B0 0 (hc:=Gn l _ ((m:Int)+1) (by omega) (by omega)) (hR:=?_));rintro r a1 ha1 ⟨k1,rfl,p1,q1,o1⟩;refine B1 ?_;obtain⟨m0,rfl⟩:=Int.eq_ofNat_of_zero_le p1;have hm0:m0<=20:=by omega
 refine Ay (h:=BF (?_));refine BL (fun n S=>∃(j b:Nat) (p:Pol),j<=m0/\n=j/\b<=a+1+1700 * (m0 - j)/\PolOk s p (m0 - j)/\S=⟨look [(0, .bp 0 0),(4, .bp 1 0),(6, .bp 2 0),(7, .bp 3 0),(8, .v (.int .i64 (j:Int)))],⟨[EE l b,AQ s,[.v (.slice none 0 0), .v (.slice none 0 0)],C8 p],[]⟩⟩) (m0) (Weak.trans (bF 3 rfl v6) ((wk 4 0))) (⟨m0,_,JA,by omega,rfl,by omega,PolOk.nil _ _,rfl⟩) ?_;rintro n S ⟨j,b,p,hj,hn,hb,hp,rfl⟩;subst n;refine Be (h:=ET (h:=e_ (?_)));refine A3 rfl (fun kd ka=>?_) (fun kd ka=>?_)
 ·refine Bq (h:=?_);refine BD (fun S=>∃(b1:Nat) (x:Rul) (f:Bool),b1<=a+1+1700 * (m0 - j)+1610/\Dz x/\S=⟨look [(0, .bp 0 0),(4, .bp 1 0),(6, .bp 2 0),(7, .bp 3 0),(8, .v (.int .i64 (j:Int))),(9, .bp 4 0),(10, .v (.int .i64 (EQ s p x f).2))],⟨[EE l b1,AQ s,[.v (.slice none 0 0), .v (.slice none 0 0)],C8 p,C8 (EQ s p x f).1],[]⟩⟩) ?_ ?_
  ·refine BJ ([(1,AQ s),(2,[.v (.slice none 0 0), .v (.slice none 0 0)]),(3,C8 p)]) 14 (h:=?_);refine A9 0 (h:=?_);refine A9 1 (h:=?_);refine AE 2 (h:=AE 4 (h:=?_));refine Ed 3 11 rfl rfl ?_ ?_
   ·refine B0 0 (hc:=Sk l _ (by omega)) (hR:=?_);rintro r a2 ha2 ⟨x,hx,hg,rfl⟩;refine B1 ?_;refine o_ (h:=Ed 5 11 rfl rfl ?_ ?_)
    ·refine B0 0 (hc:=Gn l _ (4) (by omega) (by omega)) (hR:=?_);rintro r a3 ha3 ⟨k3,rfl,p3,q3,o3⟩;refine B1 ?_;refine o_ (h:=KS 6 (h:=?_));refine Ed 7 11 rfl rfl ?_ ?_
     ·refine AX (Sh s p x hv hmm (by have:=hp.lst.len;omega) hp.len hp.lst.ins hx _) ?_;rintro r rfl;refine o_ (h:=AE 8 (h:=B6 9 (h:=B6 10 (h:=?_))));refine c_ 11 rfl (Bn (by repeat constructor) ?_);refine o_ (h:=Ax 12 (h:=B8 13 (h:=z_ (h:=?_))));refine AT ?_;exact⟨_,⟨_,x,_,(by omega),hx,rfl⟩,At 5 0 rfl rfl rfl rfl ((by repeat (first|exact Sub.nil|refine Aw rfl rfl ?_|refine B3 ?_|refine B4 rfl ?_|refine B5 rfl ?_)))⟩
     refine Bn (by repeat constructor) ?_;refine o_ (h:=c_ 7 rfl (AX (Sh s p x hv hmm (by have:=hp.lst.len;omega) hp.len hp.lst.ins hx _) ?_));rintro r rfl;refine o_ (h:=AE 8 (h:=B6 9 (h:=B6 10 (h:=?_))));refine Ax 12 (h:=B8 13 (h:=z_ (h:=?_)));refine AT ?_;exact⟨_,⟨_,x,_,(by omega),hx,rfl⟩,At 5 0 rfl rfl rfl rfl ((by repeat (first|exact Sub.nil|refine Aw rfl rfl ?_|refine B3 ?_|refine B4 rfl ?_|refine B5 rfl ?_)))⟩
    refine Bn (by repeat constructor) ?_;refine o_ (h:=c_ 5 rfl (B0 0 (hc:=Gn l _ (4) (by omega) (by omega)) (hR:=?_)));rintro r a4 ha4 ⟨k4,rfl,p4,q4,o4⟩;refine B1 ?_;refine o_ (h:=KS 6 (h:=?_));refine c_ 7 rfl (AX (Sh s p x hv hmm (by have:=hp.lst.len;omega) hp.len hp.lst.ins hx _) ?_);rintro r rfl;refine o_ (h:=AE 8 (h:=B6 9 (h:=B6 10 (h:=?_))));refine Ax 12 (h:=B8 13 (h:=z_ (h:=?_)));refine AT ?_;exact⟨_,⟨_,x,_,(by omega),hx,rfl⟩,At 5 0 rfl rfl rfl rfl ((by repeat (first|exact Sub.nil|refine Aw rfl rfl ?_|refine B3 ?_|refine B4 rfl ?_|refine B5 rfl ?_)))⟩
   refine Bn (by repeat constructor) ?_;refine o_ (h:=c_ 3 rfl (B0 0 (hc:=Sk l _ (by omega)) (hR:=?_)));rintro r a5 ha5 ⟨x,hx,hg,rfl⟩;refine B1 ?_;refine o_ (h:=c_ 5 rfl (B0 0 (hc:=Gn l _ (4) (by omega) (by omega)) (hR:=?_)));rintro r a6 ha6 ⟨k6,rfl,p6,q6,o6⟩;refine B1 ?_;refine o_ (h:=KS 6 (h:=?_));refine c_ 7 rfl (AX (Sh s p x hv hmm (by have:=hp.lst.len;omega) hp.len hp.lst.ins hx _) ?_);rintro r rfl;refine o_ (h:=AE 8 (h:=B6 9 (h:=B6 10 (h:=?_))));refine Ax 12 (h:=B8 13 (h:=z_ (h:=?_)));refine AT ?_;exact⟨_,⟨_,x,_,(by omega),hx,rfl⟩,At 5 0 rfl rfl rfl rfl ((by repeat (first|exact Sub.nil|refine Aw rfl rfl ?_|refine B3 ?_|refine B4 rfl ?_|refine B5 rfl ?_)))⟩
  rintro S ⟨b1,x,f,kd,hx,rfl⟩;refine Ab (h:=BO (h:=?_));refine A3 rfl (fun ke kc=>?_) (fun ke kc=>?_)
  ·have hp2:=hp.add (f:=f) hx (by simpa using kc);refine Aq (l_ (h:=s_ (h:=Bu (Bz (t_ (BU (h:=LQ (h:=D4 (h:=?_)))))))));obtain⟨j,rfl⟩:∃i,j=i+1:=⟨j - 1,by omega⟩;refine⟨_,_,?_,⟨j,_,_,by omega,rfl,?_,hp2.mono (by omega),rfl⟩,At 4 0 rfl rfl rfl rfl (by repeat (first|exact Sub.nil|refine Aw rfl rfl ?_|(apply Sub.of;(focus exact rfl);(focus exact LeA.of_eq (vi (by omega)));(focus exact rfl))))⟩<;>omega
  have hp2:=hp.mono (Nat.le_succ _);refine Ej (h:=BU (h:=LQ (h:=D4 (h:=?_))));obtain⟨j,rfl⟩:∃i,j=i+1:=⟨j - 1,by omega⟩;refine⟨_,_,?_,⟨j,_,_,by omega,rfl,?_,hp2.mono (by omega),rfl⟩,At 4 0 rfl rfl rfl rfl (by repeat (first|exact Sub.nil|refine Aw rfl rfl ?_|(apply Sub.of;(focus exact rfl);(focus exact LeA.of_eq (vi (by omega)));(focus exact rfl))))⟩<;>omega
 refine C4 (h:=EX (h:=?_));refine AO none (h5:=(A6 _)) (h6:=⟨_,rfl,rfl,b,by omega,rfl,p,hp.mono (by omega),rfl⟩)
end
structure Vdt where
 sel:Bool
 rule:Int
 key:AD
deriving DecidableEq
def Gk(v:Vdt):List AV:=[.v (.bool v.sel), .v (.int .i64 v.rule), .v (.string v.key)]
def PD:Vdt:=⟨false, -1,⟨#[]⟩⟩
def Fq(l:List Rul)(i:Int):Vdt:=if i<0 then PD else match l[i.toNat]? with|some r=>⟨decide (r.action=1),i,r.key⟩|none=>PD
theorem Vr{l:List Rul}{i:Nat}{r:Rul}(h:l[i]?=some r):Fq l (i:Int)=⟨decide (r.action=1),(i:Int),r.key⟩:=by
 rw[Fq,if_neg (by omega),Int.toNat_natCast,h]
theorem Sl{l:List Rul}{i:Int}(h:i<0):Fq l i=PD:=by rw[Fq,if_pos h]
def Sm(l:List Rul)(i:Int):Prop:=i<0\/∃(k:Nat) (r:Rul),i=(k:Int)/\l[k]?=some r
theorem cZ{α:Type}{p:Nat->α->Bool}:∀{l:List α} {i:Nat},DQ p l i<0\/∃(k:Nat) (r:α),DQ p l i=((i+k:Nat):Int)/\l[k]?=some r
 |[],_=> .inl (by simp[DQ])
 |x::xs,i=>by
   rw[DQ];split
   ·exact .inr ⟨0,x,rfl,rfl⟩
   rcases cZ (p:=p) (l:=xs) (i:=i+1)with h|⟨k,r,h1,h2⟩
   ·exact .inl h
   exact .inr ⟨k+1,r,by rw[h1];congr 1;omega,by simpa using h2⟩
theorem PF(p:Nat->Rul->Bool)(l:List Rul):Sm l (DQ p l 0):=by
 rcases cZ (p:=p) (l:=l) (i:=0)with h|⟨k,r,h1,h2⟩
 ·exact .inl h
 exact .inr ⟨k,r,by rw[h1,Nat.zero_add],h2⟩
def d6(c:Ctx):Ctx:={c with phase:=1,ext:=0,items:=[]}
def KH(p:Pol)(c:Ctx):Int:=DQ (Ly 2 [] (d6 c)) p.rules 0
def Mj(p:Pol)(c:Ctx):Int:=DQ (Ly 4 [] c) p.rules 0
section
theorem v8(p:Pol)(i:Int)(hi:i<0):AFn prog 67 [.agg (C8 p), .v (.int .i64 i)] (fun r=>r= .agg (Gk PD)):=by
 refine enter Tryz.func67 rfl rfl rfl rfl rfl 0 rfl ?_;refine E5 (h:=e_ (Be (h:=Ff (h:=?_))));refine A3 rfl (fun kd ka=>?_) (fun kd ka=>?_)
 ·refine Gq (h:=e_ (BH (Bp (?_))));refine A4 ?_;rfl
 exact Cx
theorem v9(p:Pol)(k:Nat)(r:Rul)(hr:p.rules[k]?=some r)(h1:p.rules.length<=1000):AFn prog 67 [.agg (C8 p), .v (.int .i64 (k:Int))] (fun x=>x= .agg (Gk ⟨decide (r.action=1),(k:Int),r.key⟩)):=by
 have ya:(p.rules.map AW)[k]?=some (AW r):=by rw[List.getElem?_map,hr];rfl
 have hlt:k<p.rules.length:=(AZ.1 hr).1;refine enter Tryz.func67 rfl rfl rfl rfl rfl 0 rfl ?_;refine E5 (h:=e_ (Be (h:=Ff (h:=?_))));refine A3 rfl (fun kd ka=>?_) (fun kd ka=>?_)
 ·exact Cx
 refine AG (F8 (h:=E6 (h:=CP (h:=B2 (h:=Dv (h:=Ac (h:=GR (h:=e_ (BH (?_))))))))));refine A4 ?_;rfl
theorem Qe(p:Pol)(i:Int)(hi:Sm p.rules i)(h1:p.rules.length<=1000):AFn prog 67 [.agg (C8 p), .v (.int .i64 i)] (fun r=>r= .agg (Gk (Fq p.rules i))):=by
 rcases hi with hi|⟨k,r,rfl,hr⟩
 ·rw[Sl hi];exact v8 p i hi
 rw[Vr hr];exact v9 p k r hr h1
variable (p:Pol)(c:Ctx)(k:Cxs)(h1:p.rules.length<=1000)(ht:∀r∈p.rules,r.tests.length<=1000)
include h1 ht
theorem Vs:AFn prog 22 [.agg (C8 p), .agg (EK c k)] (fun r=>r= .tup [.agg (Gk (Fq p.rules (KH p c))), .v (.bool (decide (0<=KH p c)))]):=by
 refine enter Tryz.func22 rfl rfl rfl rfl rfl 0 rfl ?_;refine Ef (h:=Ay (h:=w_ (Cy (h:=Cy (h:=Cg (h:=B2 (h:=l_ (h:=?_))))))));refine AK (Tx p.rules 2 [] (d6 c) k h1 (BG _) ht) ?_;refine Ay (h:=Fy (h:=?_));refine AK (Qe p _ (PF _ _) h1) ?_;refine m_ (h:=Dt (h:=s_ (h:=BW (h:=?_))));refine A4 ?_;rfl
end
theorem d7{s:Spc}{a b:A8}(h:AU s.files b=false):decide (a∈BS s (Bh s.files) b)=false:=by
 have e:BS s (Bh s.files) b=[]:=by
  cases Bh s.files with
  |zero=>rfl
  |succ k=>unfold BS;rw[h];rfl
 rw[e];rfl
section
variable {ev:Operand->Option AV}{h:AH}{R:AV->AH->Prop}{d:Option Tmp}{ty:TypeId}{pos:String}{af:Array Edge}{gd:Option (Nat×Bool)}
theorem vA{x ix:Operand}{a b:A8}(j:Nat)(hx:ev x=some (.agg [.v (.int .i64 a.1), .v (.int .i64 a.2), .v (.int .i64 b.1), .v (.int .i64 b.2)]))(hi:ev ix=some (.v (.int .i64 (j:Int))))(hj:j<2)(hR:R (.agg (AB (if j=0 then a else b))) h):AStep prog ⟨d, .index 176 x ix,ty,pos,af,gd⟩ ev h R:=by
 refine De (fun _ G w ec _ he=>?_) hR;have h1:=he x (by simp[Op.operands]) _ hx;have h2:=he ix (by simp[Op.operands]) _ hi;simp only[rep]at h1 h2;obtain⟨ys,h3,h4⟩:=h1;simp only[AN,rep]at h4;obtain⟨v1,q1,rfl,rfl,v2,q2,rfl,rfl,v3,q3,rfl,rfl,v4,q4,rfl,rfl,rfl⟩:=h4;have u1:=Tryz.underlying176;have u2:=Tryz.isAgg26;have u3:=Tryz.sizeOf26
 match j,hj with
 |0,_=>
   refine⟨.agg #[.int .i64 a.1, .int .i64 a.2],?_,by simp[rep,AN,AB]⟩;simp[execOp,h2,h3,Instr.index,asIntOf,part]
 |1,_=>
   refine⟨.agg #[.int .i64 b.1, .int .i64 b.2],?_,by simp[rep,AN,AB]⟩;simp[execOp,h2,h3,Instr.index,asIntOf,part]
end
theorem KJ{s:Spc}{w:Wch}{d f:A8}{n:AD}(hk:w.kind=1):FL s w d n f=((!decide (w.file=(0,0))&&decide (w.file=f))||(!decide (n=⟨#[]⟩)&&decide (d=w.dir)&&decide (n=w.name))):=by
 unfold FL;rw[if_pos hk];have e1:decide (w.file≠(0,0))= !decide (w.file=(0,0)):=by simp
 have e2:decide (n≠⟨#[]⟩)= !decide (n=⟨#[]⟩):=by simp
 have e3:decide (f=w.file)=decide (w.file=f):=decide_eq_decide.2 ⟨Eq.symm,Eq.symm⟩;rw[e1,e2,e3]
section
theorem vB(s:Spc)(w:Wch)(y:Itm)(hs:SpcB s):AFn prog 73 [.agg (AQ s), .agg (Dj w), .agg (Cn y)] (fun r=>r= .v (.bool (FL s w y.dir y.name y.file))):=by
 refine enter Tryz.func73 rfl rfl rfl rfl rfl 0 rfl ?_;refine Fe (h:=b_ (h:=GT (h:=e_ (BF (Az (h:=?_))))));refine A3 rfl (fun kd ka=>?_) (fun kd ka=>?_)
 ·refine q_ (?_);refine BD (fun S=>S=⟨look [(3, .bp 0 0),(4, .bp 1 0),(5, .bp 2 0),(23, .v (.bool (!decide (w.file=(0,0))&&decide (w.file=y.file))))],⟨[AQ s,Dj w,Cn y],[]⟩⟩) ?_ ?_
  ·refine Aq (Ac (h:=Bd (h:=?_)));refine A7 (Jk rfl rfl (by repeat constructor) (by repeat constructor) (fun W=>tC w.file (0,0) W) (by kernel_rfl) ?_);refine m_ (h:=?_);refine AF true rfl rfl (fun ke kc=>?_) (fun ke kc=>?_)
   ·refine Je (h:=?_);refine Ak (Jk rfl rfl (by repeat constructor) (by repeat constructor) (fun W=>bZ w.file y.file W) (by kernel_rfl) ?_);refine J0 (h:=?_);exact⟨_,rfl,CL 3 0 rfl⟩
   refine BB (h:=DE (h:=FP (h:=?_)));exact⟨_,rfl,CL 3 0 rfl⟩
  rintro S rfl;refine A3 rfl (fun kh kf=>?_) (fun kh kf=>?_)
  ·refine BC (h:=DG (h:=?_));refine A4 ?_;exact vb (by first|(rw[KJ ka,kf];simp[*];done)|(rw[KJ ka,kf];rfl)|(have hj3:j=0\/j=1:=(by omega);rcases hj3 with rfl|rfl<;>simp_all [FL];done)|(simp[FL,hj1 (by omega),hj2 (by omega), *];done)|(simp[FL, *];done))
  refine AG (B2 (h:=Fw (h:=?_)));refine AF true rfl rfl (fun kl kg=>?_) (fun kl kg=>?_)
  ·refine Je (h:=?_);refine Ak (Jk rfl rfl (by repeat constructor) (by repeat constructor) (fun W=>bZ y.dir w.dir W) (by kernel_rfl) ?_);refine Bg (h:=?_);refine AF true rfl rfl (fun ko kk=>?_) (fun ko kk=>?_)
   ·refine Ac (h:=D2 (h:=Bm (h:=BE (h:=?_))));refine A4 ?_;exact vb (by first|(rw[KJ ka,kf];simp[*];done)|(rw[KJ ka,kf];rfl)|(have hj3:j=0\/j=1:=(by omega);rcases hj3 with rfl|rfl<;>simp_all [FL];done)|(simp[FL,hj1 (by omega),hj2 (by omega), *];done)|(simp[FL, *];done))
   refine BB (h:=DE (h:=BE (h:=?_)));refine A4 ?_;exact vb (by first|(rw[KJ ka,kf];simp[*];done)|(rw[KJ ka,kf];rfl)|(have hj3:j=0\/j=1:=(by omega);rcases hj3 with rfl|rfl<;>simp_all [FL];done)|(simp[FL,hj1 (by omega),hj2 (by omega), *];done)|(simp[FL, *];done))
  refine Gt (h:=BB (h:=DE (h:=BE (h:=?_))));refine A4 ?_;exact vb (by first|(rw[KJ ka,kf];simp[*];done)|(rw[KJ ka,kf];rfl)|(have hj3:j=0\/j=1:=(by omega);rcases hj3 with rfl|rfl<;>simp_all [FL];done)|(simp[FL,hj1 (by omega),hj2 (by omega), *];done)|(simp[FL, *];done))
 refine Az (h:=?_);refine A3 rfl (fun kq km=>?_) (fun kq km=>?_)
 ·refine H8 (h:=XD (h:=e_ (BF (?_))));refine BL (fun m S=>∃j:Nat,j<=2/\m=2 - j/\(0<j->Qc s w.file y.dir=false)/\(1<j->Qc s w.file y.file=false)/\S=⟨look [(3, .bp 0 0),(4, .bp 1 0),(5, .bp 2 0),(47, .agg [.v (.int .i64 y.dir.1), .v (.int .i64 y.dir.2), .v (.int .i64 y.file.1), .v (.int .i64 y.file.2)]),(48, .v (.int .i64 (j:Int)))],⟨[AQ s,Dj w,Cn y],[]⟩⟩) (2) ((wk 3 0)) (⟨0,by omega,rfl,fun q=>by omega,fun q=>by omega,rfl⟩) ?_;rintro m S ⟨j,hj,rfl,hj1,hj2,rfl⟩;refine Fz (h:=?_);refine A3 rfl (fun ks kp=>?_) (fun ks kp=>?_)
  ·refine Bq (h:=?_);refine BD (fun S=>∃z,z=(if j=0 then y.dir else y.file)/\S=⟨look [(3, .bp 0 0),(4, .bp 1 0),(5, .bp 2 0),(8, .bp 3 0),(47, .agg [.v (.int .i64 y.dir.1), .v (.int .i64 y.dir.2), .v (.int .i64 y.file.1), .v (.int .i64 y.file.2)]),(48, .v (.int .i64 (j:Int)))],⟨[AQ s,Dj w,Cn y,AB z],[]⟩⟩) ?_ ?_
   ·refine Aq (?_);refine A7 (vA j rfl rfl (by omega) ?_);refine Lt (h:=FP (h:=?_));exact⟨_,⟨_,rfl,rfl⟩,At 4 0 rfl rfl rfl rfl ((by repeat (first|exact Sub.nil|refine Aw rfl rfl ?_|refine B3 ?_|refine B4 rfl ?_|refine B5 rfl ?_)))⟩
   rintro S ⟨z,hz,rfl⟩;refine BD (fun S=>S=⟨look [(3, .bp 0 0),(4, .bp 1 0),(5, .bp 2 0),(47, .agg [.v (.int .i64 y.dir.1), .v (.int .i64 y.dir.2), .v (.int .i64 y.file.1), .v (.int .i64 y.file.2)]),(48, .v (.int .i64 (j:Int))),(60, .v (.bool (Qc s w.file z)))],⟨[AQ s,Dj w,Cn y],[]⟩⟩) ?_ ?_
   ·refine Aq (Fv (h:=?_));refine AK (cB s z hs) ?_;refine m_ (h:=?_);refine AF true rfl rfl (fun kt kr=>?_) (fun kt kr=>?_)
    ·refine l_ (h:=Ac (h:=l_ (h:=?_)));refine Ak (AX (nK s hs w.file z) ?_);rintro r rfl;refine J0 (h:=?_);refine⟨_,rfl,At 3 0 rfl rfl rfl rfl (by repeat (first|exact Sub.nil|refine Aw rfl rfl ?_|(apply Sub.of;(focus exact rfl);(focus exact LeA.of_eq (vb (by first|rfl|exact(d7 ‹_›).symm)));(focus exact rfl))))⟩
    refine BB (h:=DE (h:=FP (h:=?_)));refine⟨_,rfl,At 3 0 rfl rfl rfl rfl (by repeat (first|exact Sub.nil|refine Aw rfl rfl ?_|(apply Sub.of;(focus exact rfl);(focus exact LeA.of_eq (vb (by first|rfl|exact(d7 ‹_›).symm)));(focus exact rfl))))⟩
   rintro S rfl;refine A3 rfl (fun kv ku=>?_) (fun kv ku=>?_)
   ·refine BR (h:=Bp (ML (DG (h:=?_))));refine A4 ?_;exact vb (by first|(rw[KJ ka,kf];simp[*];done)|(rw[KJ ka,kf];rfl)|(have hj3:j=0\/j=1:=(by omega);rcases hj3 with rfl|rfl<;>simp_all [FL];done)|(simp[FL,hj1 (by omega),hj2 (by omega), *];done)|(simp[FL, *];done))
   refine Ej (h:=Aq (GV (h:=?_)));have hj3:j=0\/j=1:=by omega
   refine⟨_,_,?_,⟨j+1,by omega,rfl,?_,?_,rfl⟩,At 3 0 rfl rfl rfl rfl ((by repeat (first|exact Sub.nil|refine Aw rfl rfl ?_|refine B3 ?_|refine B4 rfl ?_|refine B5 rfl ?_)))⟩
   ·omega
   ·intro _;rcases hj3 with rfl|rfl
    ·rw[if_pos rfl]at hz;rw[<-hz];assumption
    exact hj1 (by omega)
   intro q;rcases hj3 with rfl|rfl
   ·omega
   rw[if_neg (by omega)]at hz;rw[<-hz];assumption
  refine LS (h:=Bz (Pg (h:=?_)));refine A4 ?_;exact vb (by first|(rw[KJ ka,kf];simp[*];done)|(rw[KJ ka,kf];rfl)|(have hj3:j=0\/j=1:=(by omega);rcases hj3 with rfl|rfl<;>simp_all [FL];done)|(simp[FL,hj1 (by omega),hj2 (by omega), *];done)|(simp[FL, *];done))
 refine Fi (h:=?_);refine A4 ?_;exact vb (by first|(rw[KJ ka,kf];simp[*];done)|(rw[KJ ka,kf];rfl)|(have hj3:j=0\/j=1:=(by omega);rcases hj3 with rfl|rfl<;>simp_all [FL];done)|(simp[FL,hj1 (by omega),hj2 (by omega), *];done)|(simp[FL, *];done))
end
def qF(s:Spc)(r:Rul)(w:Wch)(x:Itm):Bool:=decide (H6 .i64 x.perm r.perm≠0)&&FL s w x.dir x.name x.file
def PG(s:Spc)(r:Rul)(w:Wch)(items:List Itm):Bool:=decide (r.watch≠0)&&items.any (qF s r w)
def JR(s:Spc)(p:Pol)(items:List Itm):List Bool:=List.zipWith (fun r w=>PG s r w items) p.rules p.wats
theorem vC{s:Spc}{p:Pol}{items:List Itm}{j:Nat}{r:Rul}{w:Wch}(hr:p.rules[j]?=some r)(hw:p.wats[j]?=some w):(JR s p items)[j]?=some (PG s r w items):=by
 simp[JR,List.getElem?_zipWith,hr,hw]
theorem d8{s:Spc}{p:Pol}{items:List Itm}(h:p.wats.length=p.rules.length):(JR s p items).length=p.rules.length:=by simp[JR,h]
theorem d9{α:Type}(q:α->Bool):∀(l:List α) (i:Nat),decide (0<=DQ (fun _ x=>q x) l i)=l.any q
 |[],_=>rfl
 |x::xs,i=>by
   rw[DQ,List.any_cons];split
   ·rename_i h;rw[h];simp
   rename_i h;rw[d9 q xs (i+1)];simp[h]
def Sn(b:Bool):AV:= .v (.bool b)
def HB(L:List Bool)(j:Nat):List AV:=(L.take j++List.replicate (L.length - j) false).map Sn
theorem vD(L:List Bool){j:Nat}(h:j<=L.length):(HB L j).length=L.length:=by simp[HB];omega
theorem vE(L:List Bool):HB L 0=List.replicate L.length (.v (.bool false)):=by simp[HB,Sn]
theorem vF{L:List Bool}{j:Nat}{b:Bool}(h:L[j]?=some b):(HB L j).set j (.v (.bool b))=HB L (j+1):=by
 obtain⟨hj,e⟩:=AZ.1 h;unfold HB;rw[show(AV.v (.bool b))=Sn b from rfl,<-List.map_set,List.take_succ_eq_append_getElem hj,e,show L.length - j=(L.length - (j+1))+1 by omega,List.replicate_succ]
 congr 1
 rw[List.set_append_right _ _ (by simp;omega)];simp[show min j L.length=j by omega]
theorem dA{L:List Bool}{j:Nat}(h:L[j]?=some false):HB L j=HB L (j+1):=by
 obtain⟨hj,e⟩:=AZ.1 h;unfold HB;rw[List.take_succ_eq_append_getElem hj,e,show L.length - j=(L.length - (j+1))+1 by omega,List.replicate_succ,List.append_assoc];rfl
theorem dB{G:Gh}{w:World}{u:Value}:∀n:Nat,AN G w (List.replicate n (.v u)) (List.replicate n u)
 |0=>by simp[AN]
 |n+1=>by
   simp only[List.replicate_succ,AN,rep];exact⟨_,_,rfl,rfl,dB n⟩
section
variable {P:Program}{ev:Operand->Option AV}{h:AH}{R:AV->AH->Prop}{d:Option Tmp}{ty:TypeId}{pos:String}{af:Array Edge}{gd:Option (Nat×Bool)}
theorem vG{T:TypeId}{x y:Operand}{E bytes m k:Nat}{i j:Int}{u:Value}{bx':List (List AV)}[hE:Elm P T E 1 bytes][hzr:Zer P E [.v u]](hx:ev x=some (.v (.int .i64 i)))(hy:ev y=some (.v (.int .i64 j)))(hi:i=(m:Int))(hj:j=(m:Int))(hm0:0<m)(hm:m<=1000000)
    (hset:SnocAt h.bx (List.replicate m (.v u)) k bx') (hR:R (.bs k 0 1 m m) ⟨bx',h.tk⟩):AStep P ⟨d, .makeSlice T x y,ty,pos,af,gd⟩ ev h R:=by
 intro E' G w ec hr he;have k1:=he x (by simp[Op.operands]) _ hx;have k2:=he y (by simp[Op.operands]) _ hy;simp only[rep]at k1 k2;subst hi hj;obtain⟨hu,inf,z,hinf,hz,hzs,hs,hby,hp⟩:=Gl hE.eq;have hw:IntKind.i64.wrap (m:Int)=m:=IntWalk.i64_in _ (by omega)
 have hbig:¬(inf.bytes:Int) * (m:Int)>2 ^ 48:=by
  have h1:inf.bytes * m<=100000 * 1000000:=Nat.mul_le_mul (by rw[hby];exact hE.few) (by omega);have h2:((inf.bytes * m:Nat):Int)<=100000000000:=by omega
  rw[Int.natCast_mul]at h2;omega
 have hneg:¬((m:Int)<0):=by omega
 obtain⟨zs,z1,z2,z3⟩:=hzr.eq;obtain⟨inf',z',k3,k4,k5⟩:=Qz z1;rw[hinf]at k3;injection k3 with k3;subst k3;rw[hz]at k4;injection k4 with k4;subst k4
 obtain⟨v,rfl⟩:∃v,zs=[v]:=by
  match zs,z2 with
  |[v],_=>exact⟨v,rfl⟩
 obtain rfl:v=u:=by simpa using z2
 have hone:v.oneCell'=true:=by simpa using z3
 have hcells:((Array.range (m * 1)).map fun x=>z.cells[x % z.cells.size]!)=(List.replicate m v).toArray:=by
  rw[k5];apply Array.ext
  ·simp
  intro i h1 h2;simp[Nat.mod_one]
 have hrun:(Instr.makeSlice T (.int .i64 m) (.int .i64 m)).run P w= .ok (.slice (some ⟨w.heap.size,0,none⟩) m m) (w.alloc (.cells (List.replicate m v).toArray E)):=by
  rw[<-hcells];have h0:¬m=0:=by omega
  have hnb:(inf.bytes:Int) * (m:Int)<=2 ^ 48:=by omega
  simp[Instr.makeSlice,run_underlying hu,asInt,asIntOf,typeInfo,hinf,hw,hneg,sizeOf,hs,h0,newRow,zeroValue,hz];omega
 obtain⟨G',s1,s2,s3⟩:=ON (T:=E) hr (dB (u:=v) m) (fun q hq=>by rw[List.eq_of_mem_replicate hq];exact hone) hset;simp only[rep]at s3;obtain⟨b',s4,s5⟩:=s3;simp only[execOp,k1,k2,Sem.run_bind,hrun,Result.andThen_ok,Sem.run_pure];refine⟨_,_,G',hR,s1,s2,?_⟩;simp only[rep];injection s5 with s5;injection s5 with s5;injection s5 with s5;exact⟨b',s4,by rw[s5],As _,by unfold maxLen;omega⟩
end
section
theorem vH(s:Spc)(r:Rul)(w:Wch)(x:Itm)(hs:SpcB s):AFn prog 72 [.agg (GG x), .fp (AW r), .fp (AQ s), .fp (Dj w)] (fun y=>y= .v (.bool (qF s r w x))):=by
 refine enter Tryz.func72 rfl rfl rfl rfl rfl 0 rfl ?_;refine Ee (h:=Ay (h:=H8 (h:=Fd (h:=Fw (h:=?_)))));refine AF true rfl rfl (fun kd ka=>?_) (fun kd ka=>?_)
 ·refine Fv (h:=l_ (h:=?_));refine Ak (AX (vB s w x hs) ?_);rintro r rfl;refine Eg (h:=?_);refine A4 ?_;exact vb (by simp_all [qF])
 refine CO (h:=H9 (h:=?_));refine A4 ?_;exact vb (by simp_all [qF])
theorem vJ(l:List Itm)(hl:l.length<=1000)(q:Itm->Bool)(f:FuncId)(caps:List AV)[Fun prog f](hcl:LO caps=true)(hbl:Aa 0 0 (.fn f caps)=true)
    (hp:∀x,AFn prog f ([.agg (GG x)]++caps) (fun y=>y= .v (.bool (q x)))):AFn prog 118 [.sl 13 (l.map GG) none, .fn f caps] (fun r=>r= .v (.int .i64 (DQ (fun _ x=>q x) l 0))):=by
 refine enter Tryz.func118 rfl rfl rfl rfl rfl 0 rfl ?_;refine GE (h:=GU (h:=e_ (BF (?_))));refine BL (fun m t=>∃j:Nat,j<=l.length/\m=l.length - j/\DQ (fun _ x=>q x) (l.drop j) j=DQ (fun _ x=>q x) l 0/\t=⟨look [(0, .sl 13 (l.map GG) none),(1, .fn f caps),(7, .v (.int .i64 ((l.map GG).length:Int))),(8, .v (.int .i64 (j:Int)))],⟨[],[]⟩⟩) (l.length) (At 0 0 rfl rfl rfl rfl (by repeat (first|exact Sub.nil|refine Aw rfl rfl ?_|refine Sub.cons _ _ _ rfl hbl ?_|refine B3 ?_|refine B4 rfl ?_|refine B5 rfl ?_))) (⟨0,by omega,rfl,rfl,rfl⟩) ?_;rintro m t ⟨j,hj,rfl,ha,rfl⟩;refine Fz (h:=?_);refine A3 rfl (fun kd ka=>?_) (fun kd ka=>?_)
 ·obtain⟨hlt,x,hy,ya, -⟩:=Bx GG ka;refine Bq (h:=Ab (h:=Cl (h:=Cp (h:=E6 (h:=?_)))));refine A7 (TO (cy:=[]) rfl (by repeat (first|exact Args.nil|refine Args.cons _ _ _ _ _ rfl (LP rfl) ?_|refine Args.cons _ _ _ _ _ rfl (MK _) ?_|refine Args.cons _ _ _ _ _ rfl (Lq _) ?_|refine Args.cons _ _ _ _ _ rfl (MM rfl (by repeat (first|exact A6 _|exact LeA.nil _|exact LeL.refl _|refine LeA.agg ?_|refine LeA.tup ?_|exact LeL.nil|refine LeL.cons ?_ ?_|exact LeA.any _))) ?_)) hcl rfl (hp x) ?_);rintro y rfl;refine e_ (?_);refine A3 rfl (fun ke kc=>?_) (fun ke kc=>?_)
  ·refine Ab (h:=BE (h:=C1 (h:=?_)));refine A4 ?_;exact vi (by rw[<-ha,Oc hy,if_pos kc])
  refine Ej (h:=Aq (GV (h:=?_)));refine⟨_,_,?_,⟨j+1,by omega,rfl,(by rw[<-ha,Oc hy];simp[*]),rfl⟩,At 0 0 rfl rfl rfl rfl (by repeat (first|exact Sub.nil|refine Aw rfl rfl ?_|refine Sub.cons _ _ _ rfl hbl ?_|refine B3 ?_|refine B4 rfl ?_|refine B5 rfl ?_))⟩;omega
 have e3:=CA GG hj ka;subst e3;refine Hv (h:=?_);refine A4 ?_;exact vi (by rw[<-ha,Tw])
theorem vK(l:List Itm)(hl:l.length<=1000)(q:Itm->Bool)(f:FuncId)(caps:List AV)[Fun prog f](hcl:LO caps=true)(hbl:Aa 0 0 (.fn f caps)=true)
    (hp:∀x,AFn prog f ([.agg (GG x)]++caps) (fun y=>y= .v (.bool (q x)))):AFn prog 71 [.sl 13 (l.map GG) none, .fn f caps] (fun r=>r= .v (.bool (l.any q))):=by
 refine enter Tryz.func71 rfl rfl rfl rfl rfl 0 rfl ?_;refine FB (h:=m_ (h:=?_));refine A7 (Wl rfl (by repeat (first|exact Args.nil|refine Args.cons _ _ _ _ _ rfl (LP (by first|rfl|exact hcl)) ?_)) (vJ l hl q f caps hcl hbl hp) ?_);rintro y rfl;refine Dt (h:=BW (h:=?_));refine A4 ?_;exact vb (d9 q l 0)
end
theorem dC:RowF 1 Jy:=⟨fun _=>rfl,fun b y hy=> .inl ⟨.bool b,by simpa[Jy]using hy⟩,by decide⟩
theorem dD:∀L:List Bool,(L.map Jy).flatten=L.map Sn
 |[]=>rfl
 |x::xs=>by simp only[List.map_cons,List.flatten_cons,dD xs];rfl
theorem dF{L:List Bool}{j:Nat}(h:j<=L.length):HB L j=LB 1 Jy (L.take j++List.replicate (L.length - j) false) L.length:=by
 unfold LB Cm HB;rw[dD];simp;omega
theorem vL(L:List Bool):HB L L.length=LB 1 Jy L L.length:=by
 rw[dF (As _)];simp
theorem Qf{L:List Bool}{j n m:Nat}(h:j<=L.length):Af n m (HB L j)=true:=by rw[dF h];exact C7 dC
theorem vM{L:List Bool}{j:Nat}{b:Bool}(h:L[j]?=some b):SetAt (HB L j) (0+j * 1) (Cf (.v (.bool b))) (HB L (j+1)):=by
 have hj:j<L.length:=(AZ.1 h).1;rw[<-vF h,show 0+j * 1=j by omega];exact SetAt.put1 (by rw[vD L (by omega)];exact hj)
section
theorem vN(s:Spc)(p:Pol)(items:List Itm)(h0:p.rules=[]):AFn prog 32 [.agg (C8 p), .agg (AQ s), .sl 13 (items.map GG) none] (fun r=>r= .sl 1 ((JR s p items).map Jy) none):=by
 rw[show JR s p items=[] by simp[JR,h0],show C8 p=[.sl 8 [] none, .sl 6 (p.wats.map Dj) none] by simp[C8,h0]];refine enter Tryz.func32 rfl rfl rfl rfl rfl 0 rfl ?_;refine Hw (h:=B2 (h:=n_ (h:=?_)));refine A7 (TP rfl rfl (by decide) (by repeat constructor) ?_);refine GT (h:=GU (h:=e_ (BF (?_))));refine BL (fun n S=>n=0/\S=⟨look [(7, .sl 1 [] (some 0)),(17, .v (.int .i64 0)),(18, .v (.int .i64 0))],⟨[[.sl 8 [] none, .sl 6 (p.wats.map Dj) none],AQ s],[(4,1,[])]⟩⟩) (0) ((wk 2 1)) (⟨rfl,rfl⟩) ?_;rintro n S ⟨rfl,rfl⟩;refine Fz (h:=?_);refine A3 rfl (fun kd ka=>?_) (fun kd ka=>?_)
 ·simp at ka
 refine C4 (h:=EW (h:=?_));refine A4 ?_;rfl
theorem vO(s:Spc)(p:Pol)(items:List Itm)(hs:SpcB s)(h0:0<p.rules.length)(h1:p.rules.length<=1000)(h2:p.wats.length=p.rules.length)(hit:items.length<=1000)(L:List Bool)(hL:JR s p items=L):AFn prog 32 [.agg (C8 p), .agg (AQ s), .sl 13 (items.map GG) none] (fun r=>r= .sl 1 (L.map Jy) none):=by
 have yo:L.length=p.rules.length:=by rw[<-hL];exact d8 h2
 refine enter Tryz.func32 rfl rfl rfl rfl rfl 0 rfl ?_;refine Hw (h:=B2 (h:=n_ (h:=?_)));refine A7 (vG (m:=L.length) rfl rfl (by simp[yo]) (by simp[yo]) (by omega) (by omega) (by repeat constructor) ?_);refine GT (h:=GU (h:=e_ (BF (?_))));refine BL (fun n S=>∃j:Nat,j<=p.rules.length/\n=p.rules.length - j/\S=⟨look [(2, .sl 13 (items.map GG) none),(3, .bp 0 0),(4, .bp 1 0),(7, .bs 2 0 1 L.length L.length),(16, .sl 8 (p.rules.map AW) none),(17, .v (.int .i64 ((p.rules.map AW).length:Int))),(18, .v (.int .i64 (j:Int)))],⟨[C8 p,AQ s,HB L j],[]⟩⟩) (p.rules.length) (by rw[<-vE];exact CF 3 0 (by simp[Am,Qf,C8,AQ,Af,Aa])) (⟨0,BG _,rfl,rfl⟩) ?_;rintro n S ⟨j,hj,rfl,rfl⟩;refine Fz (h:=?_);refine A3 rfl (fun kd ka=>?_) (fun kd ka=>?_)
 ·obtain⟨hlt,r,hy,ya, -⟩:=Bx AW ka;obtain⟨w,hyw⟩:∃w,p.wats[j]?=some w:=⟨_,B7 (by omega)⟩;have hLj:=vC (s:=s) (items:=items) hy hyw;rw[hL]at hLj;refine Bq (h:=Ab (h:=E6 (h:=Ck (h:=a_ (h:=GF (h:=Fu (h:=BO (h:=?_))))))));refine A3 rfl (fun ke kc=>?_) (fun ke kc=>?_)
  ·have kw:L[j]?=some false:=by rw[hLj];simp_all [PG]
   refine Tm (h:=Ku (t_ (Aq (GV (h:=?_)))));refine⟨_,_,?_,⟨j+1,by omega,rfl,rfl⟩,?_⟩
   ·omega
   first|(rw[<-dA kw];exact CF 3 0 (by simp[Am,Qf (L:=L) (j:=j) (by omega),C8,AQ,Af,Aa]))|exact CF 3 0 (by simp[Am,Qf (L:=L) (j:=j+1) (by omega),C8,AQ,Af,Aa])
  have ke:L[j]?=some (items.any (qF s r w)):=by rw[hLj];simp_all [PG]
  refine AG (Fy (h:=?_));refine AK (cM p j w (by omega) hyw) ?_;refine CP (h:=BU (h:=Cp (h:=Th (h:=?_))));refine A7 (TW rfl (by repeat (first|exact ArgsL.nil|refine ArgsL.cons _ _ _ _ _ rfl rfl ?_)) (vK items hit (qF s r w) 72 [.fp (AW r), .fp (AQ s), .fp (Dj w)] rfl rfl fun x=>vH s r w x hs) ?_);rintro x rfl;refine⟨rfl,?_⟩;refine A7 (EF (m:=j) rfl rfl rfl (by omega) ?_);refine Mz (Es (row':=HB L (j+1)) rfl rfl rfl rfl rfl rfl (vM ke) (by repeat constructor) ?_);refine Bu (Bz (t_ (Aq (GV (h:=?_)))));refine⟨_,_,?_,⟨j+1,by omega,rfl,rfl⟩,?_⟩
  ·omega
  first|(rw[<-dA kw];exact CF 3 0 (by simp[Am,Qf (L:=L) (j:=j) (by omega),C8,AQ,Af,Aa]))|exact CF 3 0 (by simp[Am,Qf (L:=L) (j:=j+1) (by omega),C8,AQ,Af,Aa])
 have e:=CA AW hj ka;subst e;refine C4 (h:=?_);refine BD (fun S=>S=⟨look [(6, .sl 1 (L.map Jy) none)],⟨[C8 p,AQ s],[]⟩⟩) ?_ ?_
 ·refine BU (h:=D4 (h:=?_));rw[<-yo,vL];exact⟨_,rfl,Jm 2 1 rfl rfl (.cons _ _ _ _ rfl (LeA.of_eq (P4 dC rfl rfl (As _))) .nil)⟩
 rintro S rfl;refine BH (?_);refine A4 ?_;rfl
end
def Vt(c:Ctx):Ctx:={c with phase:=2}
def KK(s:Spc)(p:Pol)(c:Ctx):Int:=DQ (Ly 3 (JR s p c.items) (Vt c)) p.rules 0
def NQ(s:Spc)(p:Pol)(c:Ctx):Vdt:=if c.audited=false then PD else if 0<=KH p c then Fq p.rules (KH p c)else Fq p.rules (KK s p c)
section
theorem vP(s:Spc)(p:Pol)(items:List Itm)(hs:SpcB s)(h1:p.rules.length<=1000)(h2:p.wats.length=p.rules.length)(hit:items.length<=1000):AFn prog 32 [.agg (C8 p), .agg (AQ s), .sl 13 (items.map GG) none] (fun r=>r= .sl 1 ((JR s p items).map Jy) none):=by
 rcases Nat.eq_zero_or_pos p.rules.length with h0|h0
 ·exact vN s p items (ER h0)
 exact vO s p items hs h0 h1 h2 hit _ rfl
variable (s:Spc)(p:Pol)(c:Ctx)(k:Cxs)(hs:SpcB s)(h1:p.rules.length<=1000)(h2:p.wats.length=p.rules.length)(ht:∀r∈p.rules,r.tests.length<=1000)(hit:c.items.length<=1000)
include hs h1 h2 ht hit
theorem Vu:AFn prog 24 [.agg (C8 p), .agg (AQ s), .agg (EK c k)] (fun r=>r= .agg (Gk (Fq p.rules (KK s p c)))):=by
 refine enter Tryz.func24 rfl rfl rfl rfl rfl 0 rfl ?_;refine w_ (b_ (h:=b_ (h:=b_ (h:=Ck (h:=e_ (w_ (f_ (h:=s_ (h:=e_ (q_ (BJ ([(0,C8 p),(1,AQ s),(2,EK (Vt c) k)]) 12 (h:=A9 0 (h:=AA 1 (h:=A9 2 (h:=A9 3 (h:=A9 4 (h:=AA 5 (h:=A9 6 (h:=A9 8 (h:=?_))))))))))))))))))));refine c_ 7 rfl (AX (vP s p c.items hs h1 h2 hit) ?_);rintro r rfl;refine o_ (h:=c_ 9 rfl (AX (Tx p.rules 3 (JR s p c.items) (Vt c) k h1 hit ht) ?_));rintro r rfl;refine o_ (h:=c_ 10 rfl (AX (Qe p (KK s p c) (PF _ _) h1) ?_));rintro r rfl;refine o_ (h:=Ax 11 (h:=z_ (h:=t_ (BH (?_)))));refine A4 ?_;rfl
theorem dG:AFn prog 26 [.agg (C8 p), .agg (AQ s), .agg (EK c k)] (fun r=>r= .agg (Gk (NQ s p c))):=by
 refine enter Tryz.func26 rfl rfl rfl rfl rfl 0 rfl ?_;refine Fe (h:=b_ (h:=Ck (h:=e_ (q_ (w_ (E4 (h:=CY (h:=?_))))))));refine A3 rfl (fun kd ka=>?_) (fun kd ka=>?_)
 ·have k1:c.audited=false:=by simpa using ka
  refine Bw (h:=?_);refine AK (Qe p (-1) (.inl (by decide)) h1) ?_;refine GF (h:=BH (Bp (?_)));refine A4 ?_;rw[NQ,if_pos k1,<-Sl (l:=p.rules) (i:= -1) (by decide)];rfl
 have k1:¬c.audited=false:=by simpa using ka
 refine FA (h:=C9 (h:=?_));refine AK (Vs p c k h1 ht) ?_;refine EU (h:=Cl (h:=e_ (?_)));refine A3 rfl (fun ke kc=>?_) (fun ke kc=>?_)
 ·refine EX (h:=Bp (?_));refine A4 ?_;rw[NQ,if_neg k1,if_pos (by simpa using kc)];rfl
 refine AG (C9 (h:=l_ (h:=?_)));refine AK (Vu s p c k hs h1 h2 ht hit) ?_;refine GF (h:=BH (?_));refine A4 ?_;rw[NQ,if_neg k1,if_neg (by simpa using kc)];rfl
variable (hv:SpcV s)
include hv
end
def So:Rul:=⟨2,2,1,[⟨3,1,0,⟨#[]⟩,0⟩],0,⟨#[]⟩,0,⟨#[]⟩⟩
def Sq:Rul:=⟨3,1,1,[],0,⟨#[]⟩,0,⟨#[107]⟩⟩
def Jj:List Rul:=[So,Sq]
def Ko:Pol:=⟨Jj,[G6,G6]⟩
def Mk(u:Int):Ctx:={uF u with audited:=true}
theorem dH:∀r∈Jj,Dz r:=by
 intro r hr;simp[Jj]at hr;rcases hr with rfl|rfl<;>exact⟨by decide,by decide,by decide,by decide⟩
theorem vQ:∀r∈Jj,r.watch=0:=by
 intro r hr;simp[Jj]at hr;rcases hr with rfl|rfl<;>rfl
theorem vR(s:Spc):ME s Jj=(Ko,0):=by
 have hp:∀r∈Jj,Cu s r=(G6,0):=by
  intro r hr;simp[Jj]at hr;rcases hr with rfl|rfl<;>exact if_pos rfl
 rw[cO (by decide) fun r hr=>by rw[hp r hr]]
 have:KG s Jj=[G6,G6]:=by
  simp[KG,Jj,hp So (by simp[Jj]),hp Sq (by simp[Jj])]
 rw[this];rfl
theorem vS(s:Spc):NQ s Ko (Mk 0)=⟨false,0,⟨#[]⟩⟩:=by
 rw[NQ,if_neg (by decide),if_pos (by decide)];decide
theorem vT(s:Spc):NQ s Ko (Mk 5)=⟨true,1,⟨#[107]⟩⟩:=by
 rw[NQ,if_neg (by decide),if_neg (by decide),KK];rw[show JR s Ko (Mk 5).items=[false,false] by simp[JR,Ko,Jj,So,Sq,PG]];decide
theorem vU:(Ki 1).2=0:=by decide+kernel
section
theorem Ml:AFn prog 34 [] (fun x=>x= .v (.bool true)):=by
 have fk:AFn prog 60 [.v (.int .i64 1)] (fun r=>r= .tup [.agg (Cb (Ki 1).1), .v (.int .i64 0)]):=(bB 1).mono fun r hr=>by rw[hr,SX,vU]
 have hv:=cR.1.v;have hm:=cR.1.m;obtain⟨S0,hS0⟩:∃S,S=(Ki 1).1:=⟨_,rfl⟩;rw[<-hS0]at fk hv hm;clear hS0;have hmm:S0.spc.mounts.length<=1000:=by omega
 have ht:∀r∈Ko.rules,r.tests.length<=1000:=fun r hr=>(dH r hr).2.2.2;have pn:AFn prog 41 [.sl 8 (Jj.map AW) none, .agg (AQ S0.spc)] (fun r=>r= .tup [.agg (C8 Ko), .v (.int .i64 0)]):=(uP S0.spc Jj (by decide) dH fun r h=>uO _ r (vQ r h)).mono fun r hr=>by rw[hr,vR];rfl
 have hd0:AFn prog 26 [.agg (C8 Ko), .agg (AQ S0.spc), .agg (EK (Mk 0) PC)] (fun r=>r= .agg [.v (.bool false), .v (.int .i64 0), .v (.string ⟨#[]⟩)]):=(dG S0.spc Ko (Mk 0) PC (hv.b hmm) (by decide) rfl ht (by decide)).mono fun r hr=>by rw[hr,vS];rfl
 have hd5:AFn prog 26 [.agg (C8 Ko), .agg (AQ S0.spc), .agg (EK (Mk 5) PC)] (fun r=>r= .agg [.v (.bool true), .v (.int .i64 1), .v (.string ⟨#[107]⟩)]):=(dG S0.spc Ko (Mk 5) PC (hv.b hmm) (by decide) rfl ht (by decide)).mono fun r hr=>by rw[hr,vT];rfl
 refine enter Tryz.func34 rfl rfl rfl rfl rfl 0 rfl ?_;refine DZ (h:=w_ (?_));refine AK (fk) ?_;refine EU (h:=Ay (h:=w_ (Bd (h:=BT (h:=?_)))));refine A7 (Hr (y:= .agg (AW So)) (E3 ⟨rfl,rfl⟩) ?_);refine A7 (Hr (y:= .agg (AW Sq)) (E3 ⟨rfl,rfl⟩) ?_);refine BT (h:=Cl (h:=Ac (h:=?_)));refine AK (pn) ?_;refine EU (h:=Ay (h:=Bw (h:=Ac (h:=Bd (h:=?_)))));refine A7 (Hr (y:= .agg (EK (Mk 0) PC)) (E3 ⟨rfl,rfl⟩) ?_);refine AK (hd0) ?_;refine CP (h:=Bw (h:=Ac (h:=Bd (h:=?_))));refine A7 (Hr (y:= .agg (EK (Mk 5) PC)) (E3 ⟨rfl,rfl⟩) ?_);refine AK (hd5) ?_;refine CP (h:=Ab (h:=Dv (h:=?_)));refine AF true rfl rfl (fun kd ka=>?_) (fun kd ka=>?_)
 ·refine Ac (h:=D1 (h:=Bg (h:=?_)));refine AF true rfl rfl (fun ke kc=>?_) (fun ke kc=>?_)
  ·refine D2 (h:=Bg (h:=?_));refine AF true rfl rfl (fun kh kf=>?_) (fun kh kf=>?_)
   ·refine Ac (h:=Bg (h:=?_));refine AF true rfl rfl (fun kl kg=>?_) (fun kl kg=>?_)
    ·refine D2 (h:=Bg (h:=?_));refine AF true rfl rfl (fun ko kk=>?_) (fun ko kk=>?_)
     ·refine D2 (h:=Eg (h:=?_));refine A4 ?_;rfl
     refine Hy (h:=?_);refine A4 ?_;exact Cx
    refine GS (h:=Hy (h:=?_));refine A4 ?_;exact Cx
   refine BB (h:=BZ (h:=GS (h:=Hy (h:=?_))));refine A4 ?_;exact Cx
  refine GS (h:=BB (h:=BZ (h:=GS (h:=Hy (h:=?_)))));refine A4 ?_;exact Cx
 refine GS (h:=GS (h:=BB (h:=BZ (h:=GS (h:=DE (h:=a_ (h:=?_)))))));refine e_ (BH (?_));refine A4 ?_;exact Cx
end
structure SmP(p:Pol):Prop where
 rl:p.rules.length<=1000
 wl:p.wats.length<=1000
 ts:∀r∈p.rules,r.tests.length<=1000
theorem PolOk.sm{s:Spc}{p:Pol}{n:Nat}(h:PolOk s p n)(hn:n<=1000):SmP p:=⟨Nat.le_trans h.lst.len hn,by rw[h.len];exact Nat.le_trans h.lst.len hn,fun r hr=>(h.lst.ins r hr).2.2.2⟩
def NR(l:List Rul)(b:Bool)(i:Int):Vdt:=if b=false then PD else if i<0 then⟨true, -1,⟨#[]⟩⟩else Fq l i
section
variable (p:Pol)(c:Ctx)(k:Cxs)(h1:p.rules.length<=1000)(ht:∀r∈p.rules,r.tests.length<=1000)(hit:c.items.length<=1000)
include h1 ht hit
theorem dJ(i:Int)(hI:Mj p c=i):AFn prog 30 [.agg (C8 p), .agg (EK c k)] (fun x=>x= .agg (Gk (NR p.rules c.audited i))):=by
 have hin:Sm p.rules i:=hI ▸ PF _ _;have hf:AFn prog 16 [.sl 8 (p.rules.map AW) none, .v (.int .i64 4), .sl 1 [] none, .agg (EK c k)] (fun x=>x= .v (.int .i64 i)):=by rw[<-hI];exact Tx p.rules 4 [] c k h1 hit ht
 refine enter Tryz.func30 rfl rfl rfl rfl rfl 0 rfl ?_;refine Ef (h:=e_ (q_ (w_ (E4 (h:=CY (h:=?_))))));refine A3 rfl (fun kd ka=>?_) (fun kd ka=>?_)
 ·have k1:c.audited=false:=by simpa using ka
  refine Bw (h:=?_);refine AK (Qe p (-1) (.inl (by decide)) h1) ?_;refine GF (h:=BH (Bp (?_)));refine A4 ?_;rw[NR,if_pos k1,<-Sl (l:=p.rules) (i:= -1) (by decide)];rfl
 have k1:¬c.audited=false:=by simpa using ka
 refine AG (B2 (h:=l_ (h:=?_)));refine AK (hf) ?_;refine Du (h:=Ff (h:=?_));refine A3 rfl (fun ke kc=>?_) (fun ke kc=>?_)
 ·have k2:i<0:=kc;refine Gq (h:=e_ (BH (Bp (?_))));refine A4 ?_;rw[NR,if_neg k1,if_pos k2];rfl
 have k2:¬i<0:=kc;refine AG (Fy (h:=?_));refine AK (Qe p i hin h1) ?_;refine GF (h:=BH (?_));refine A4 ?_;rw[NR,if_neg k1,if_neg k2];rfl
end
theorem dL(w:Wrk)(R:Fj):(Bf w R).1.r.items=w.r.items:=by
 unfold Bf;split<;>rfl
section
theorem vV(w:Wrk)(cap:Nat)(f g:Fnd)(x1:Itm)(hv:SpcV w.s.spc)(hm:w.s.spc.mounts.length<=1000)(hf:w.found[0]?=some f)(hg:w.found[1]?=some g)(hx1:w.r.items[1]?=some x1)(hn2:g.name.size<=100000):ACall prog 146 [.bp 0 0] [WA w cap,IB w cap] (fun r b t=>t=[]/\r= .v (.int .i64 (Gf w).2)/\b=[WA (Gf w).1 cap,IB (Gf w).1 cap]):=by
 have hsb:=hv.b hm;have mj:(w.found.map Ah)[0]?=some (Ah f):=by rw[List.getElem?_map,hf];rfl
 have hrow1:(w.found.map Ah)[1]?=some (Ah g):=by rw[List.getElem?_map,hg];rfl
 have hfn:Av w 0=f:=by unfold Av;rw[hf];rfl
 have hgn:Av w 1=g:=by unfold Av;rw[hg];rfl
 obtain⟨R,hR⟩:∃R,R=FU w.s.spc.files g.dir g.name f.file:=⟨_,rfl⟩;have hok:=Yr hv.files g.dir g.name f.file;rw[<-hR]at hok;have ow:AFn prog 172 [.agg (Ap w.s.spc.files), .agg (AB g.dir), .v (.string g.name), .agg (AB f.file)] (fun r=>r=Cs R):=by rw[hR];exact lL _ _ _ _ hv.files hn2
 have hlk:Gf w=if f.ex=false then(w,2)else if AU w.s.spc.files f.file=true then(w,1)else if g.ex=true then(w,17)else if g.slash=true then(w,2)else if f.file.1≠g.dir.1 then(w,18)else if CU w g.dir 2=false then(w,13)else if R.2.2≠0 then(w,R.2.2)else(LG (Bf w R).1 1 f.file,0):=by
  unfold Gf LF;rw[hfn,hgn,<-hR]
 clear hR;refine enter Tryz.func146 rfl rfl rfl rfl rfl 2 rfl ?_;refine DZ (h:=?_);refine BD (fun S=>S=⟨look [(0, .bp 0 0),(3, .bp 2 0),(4, .bp 3 0)],⟨[WA w cap,IB w cap,Ah f,Ah g],[]⟩⟩) ?_ ?_
 ·refine BJ ([(0,WA w cap)]) 16 (h:=AE 0 (h:=BA 1 (h:=AA 2 (h:=A9 3 (h:=?_)))));refine CE 4 rfl (fun _ hS=>DM (n:=0) rfl rfl rfl mj ⟨rfl,rfl⟩) ?_;refine A9 5 (h:=AE 6 (h:=BA 7 (h:=AA 8 (h:=A9 9 (h:=?_)))));refine CE 10 rfl (fun _ hS=>DM (n:=1) rfl rfl rfl hrow1 ⟨rfl,rfl⟩) ?_;refine A9 11 (h:=?_);refine Ed 12 13 rfl rfl ?_ ?_
  ·refine Bn (by repeat constructor) ?_;refine o_ (h:=c_ 13 rfl (Bn (by repeat constructor) ?_));refine o_ (h:=Ax 14 (h:=?_));refine Ax 15 (h:=z_ (h:=?_));refine AT ?_;exact⟨_,rfl,Ds 4 0⟩
  refine Bn (by repeat constructor) ?_;refine o_ (h:=c_ 12 rfl (Bn (by repeat constructor) ?_));refine o_ (h:=Ax 14 (h:=?_));refine Ax 15 (h:=z_ (h:=?_));refine AT ?_;exact⟨_,rfl,JZ [0,1,3,2] Ub (by decide) (.cons _ _ _ _ _ rfl rfl (.cons _ _ _ _ _ rfl (Me B9 _ _ _) (.cons _ _ _ _ _ rfl rfl (.cons _ _ _ _ _ rfl rfl .nil)))) (by repeat (first|exact SubK.nil|refine SubK.cons _ _ _ _ rfl (A6 _) ?_))⟩
 rintro S rfl;refine q_ (BF (B2 (h:=D1 (h:=Ay (h:=?_)))));refine A3 rfl (fun kd ka=>?_) (fun kd ka=>?_)
 ·have k1:f.ex=false:=by simpa using ka
  refine BR (h:=?_);refine BV (r:= .v (.int .i64 (Gf w).2)) none (h5:=(by rw[hlk,if_pos k1];exact A6 _)) (h6:=⟨rfl,rfl,?_⟩);rw[hlk,if_pos k1];rfl
 have k1:¬f.ex=false:=by simpa using ka
 refine Ab (h:=?_);refine A7 (DX 1 rfl (.cons _ _ _ _ _ rfl (LeA.of_eq rfl) (.cons _ _ _ _ _ rfl (A6 _) .nil)) (NN w .any 0 f hsb hf) ?_);rintro r rfl;refine⟨rfl,?_⟩;refine Ay (h:=?_);refine A3 rfl (fun ke kc=>?_) (fun ke kc=>?_)
 ·have k2:AU w.s.spc.files f.file=true:=kc;refine BR (h:=?_);refine BV (r:= .v (.int .i64 (Gf w).2)) none (h5:=(by rw[hlk,if_neg k1,if_pos k2];exact A6 _)) (h6:=⟨rfl,rfl,?_⟩);rw[hlk,if_neg k1,if_pos k2];rfl
 have k2:¬AU w.s.spc.files f.file=true:=by simpa using kc
 refine B2 (h:=Ay (h:=?_));refine A3 rfl (fun kh kf=>?_) (fun kh kf=>?_)
 ·have k3:g.ex=true:=kf;refine BR (h:=?_);refine BV (r:= .v (.int .i64 (Gf w).2)) none (h5:=(by rw[hlk,if_neg k1,if_neg k2,if_pos k3];exact A6 _)) (h6:=⟨rfl,rfl,?_⟩);rw[hlk,if_neg k1,if_neg k2,if_pos k3];rfl
 have k3:¬g.ex=true:=by simpa using kf
 refine B2 (h:=Ay (h:=?_));refine A3 rfl (fun kl kg=>?_) (fun kl kg=>?_)
 ·have k4:g.slash=true:=kg;refine BR (h:=?_);refine BV (r:= .v (.int .i64 (Gf w).2)) none (h5:=(by rw[hlk,if_neg k1,if_neg k2,if_neg k3,if_pos k4];exact A6 _)) (h6:=⟨rfl,rfl,?_⟩);rw[hlk,if_neg k1,if_neg k2,if_neg k3,if_pos k4];rfl
 have k4:¬g.slash=true:=by simpa using kg
 refine w_ (E4 (h:=E4 (h:=Hp (h:=Ay (h:=?_)))));refine A3 rfl (fun ko kk=>?_) (fun ko kk=>?_)
 ·have k5:f.file.1≠g.dir.1:=by simpa using kk
  refine BR (h:=?_);refine BV (r:= .v (.int .i64 (Gf w).2)) none (h5:=(by rw[hlk,if_neg k1,if_neg k2,if_neg k3,if_neg k4,if_pos k5];exact A6 _)) (h6:=⟨rfl,rfl,?_⟩);rw[hlk,if_neg k1,if_neg k2,if_neg k3,if_neg k4,if_pos k5];rfl
 have k5:¬f.file.1≠g.dir.1:=by simpa using kk
 refine Ab (h:=Ac (h:=?_));refine A7 (DX 1 rfl (.cons _ _ _ _ _ rfl (LeA.of_eq rfl) (.cons _ _ _ _ _ rfl (A6 _) (.cons _ _ _ _ _ rfl (A6 _) .nil))) (Li w .any g.dir 2 hsb) ?_);rintro r rfl;refine⟨rfl,?_⟩;refine D1 (h:=Ay (h:=?_));refine A3 rfl (fun kq km=>?_) (fun kq km=>?_)
 ·have k6:CU w g.dir 2=false:=by simpa using km
  refine BR (h:=?_);refine BV (r:= .v (.int .i64 (Gf w).2)) none (h5:=(by rw[hlk,if_neg k1,if_neg k2,if_neg k3,if_neg k4,if_neg k5,if_pos k6];exact A6 _)) (h6:=⟨rfl,rfl,?_⟩);rw[hlk,if_neg k1,if_neg k2,if_neg k3,if_neg k4,if_neg k5,if_pos k6];rfl
 have k6:¬CU w g.dir 2=false:=by simpa using km
 refine Ej (h:=?_);refine BD (fun S=>S=⟨look [(0, .bp 0 0),(3, .bp 2 0),(5, .v (.int .i64 R.2.2))],⟨[WA (Bf w R).1 cap,IB (Bf w R).1 cap,Ah f],[]⟩⟩) ?_ ?_
 ·refine BJ ([(0,WA w cap),(1,IB w cap),(2,Ah f),(3,Ah g)]) 17 (h:=AE 0 (h:=AE 1 (h:=BA 2 (h:=AA 3 (h:=AA 4 (h:=AA 5 (h:=A9 6 (h:=AA 7 (h:=A9 8 (h:=AA 9 (h:=A9 10 (h:=AA 11 (h:=A9 12 (h:=?_))))))))))))));refine c_ 13 rfl (AX (ow) ?_);rintro r rfl;refine o_ (h:=B6 14 (h:=B6 15 (h:=B6 16 (h:=?_))));refine c_ 17 rfl (Bo [0,1] rfl (.cons _ _ _ _ _ rfl (A6 _) (.cons _ _ _ _ _ rfl (A6 _) (.cons _ _ _ _ _ rfl (A6 _) (.cons _ _ _ _ _ rfl (A6 _) .nil)))) (by decide) (.cons _ _ _ _ _ rfl rfl (.cons _ _ _ _ _ rfl (Dp B9 _ _ _) .nil)) (P8 w cap R.1 R.2.1 R.2.2) ?_);rintro r bc tc ⟨rfl,rfl,rfl⟩;refine⟨rfl,_,EO rfl ((Bf w R).1) cap,?_⟩;refine o_ (h:=c_ 18 rfl (JU rfl ?_));refine J1 (h:=?_);refine AT ?_;exact⟨_,rfl,Ds 3 0⟩
 rintro S rfl;refine Be (h:=BO (h:=?_));refine A3 rfl (fun ks kp=>?_) (fun ks kp=>?_)
 ·have h0:R.2.2=0:=kp;have hfb:FlsB (Bf w R).1.s.spc.files:=by rw[Mh h0];exact(hok h0).1.b
  have hxr:(Bf w R).1.r.items[1]?=some x1:=by rw[dL];exact hx1
  refine BU (h:=Ac (h:=?_));refine A7 (Bo [0,1] rfl (.cons _ _ _ _ _ rfl (A6 _) (.cons _ _ _ _ _ rfl (A6 _) (.cons _ _ _ _ _ rfl (A6 _) .nil))) (by decide) (.cons _ _ _ _ _ rfl rfl (.cons _ _ _ _ _ rfl (Dp B9 _ _ _) .nil)) (Vf (Bf w R).1 cap 1 f.file x1 hfb hxr) ?_);rintro r bc tc ⟨rfl,rfl,rfl⟩;refine⟨rfl,_,EO rfl (LG (Bf w R).1 1 f.file) cap,?_⟩;refine e_ (EW (h:=?_));refine BV (r:= .v (.int .i64 (Gf w).2)) none (h5:=(by rw[hlk,if_neg k1,if_neg k2,if_neg k3,if_neg k4,if_neg k5,if_neg k6,if_neg (by simp[h0])];exact LeA.of_eq (vi h0))) (h6:=⟨rfl,rfl,?_⟩);rw[hlk,if_neg k1,if_neg k2,if_neg k3,if_neg k4,if_neg k5,if_neg k6,if_neg (by simp[h0])];rfl
 have h0:¬R.2.2=0:=kp;refine AG (EW (h:=?_));refine BV (r:= .v (.int .i64 (Gf w).2)) none (h5:=(by rw[hlk,if_neg k1,if_neg k2,if_neg k3,if_neg k4,if_neg k5,if_neg k6,if_pos h0];exact A6 _)) (h6:=⟨rfl,rfl,?_⟩);rw[hlk,if_neg k1,if_neg k2,if_neg k3,if_neg k4,if_neg k5,if_neg k6,if_pos h0];rw[SY h0];rfl
theorem dM(w:Wrk)(cap:Nat)(f:Fnd)(x0:Itm)(hv:SpcV w.s.spc)(hm:w.s.spc.mounts.length<=1000)(hps:w.s.tab.ps.length<=1000)(hf:w.found[0]?=some f)(hx0:w.r.items[0]?=some x0)(hn:f.name.size<=100000):ACall prog 147 [.bp 0 0] [WA w cap,IB w cap] (fun r b t=>t=[]/\r= .v (.int .i64 (FW w).2)/\b=[WA (FW w).1 cap,IB (FW w).1 cap]):=by
 have hsb:=hv.b hm;have mj:(w.found.map Ah)[0]?=some (Ah f):=by rw[List.getElem?_map,hf];rfl
 have hfn:Av w 0=f:=by unfold Av;rw[hf];rfl
 have hil:0<w.r.items.length:=(AZ.1 hx0).1;obtain⟨R1,hR1⟩:∃R,R=JL w.s.spc.files f.dir f.name:=⟨_,rfl⟩;obtain⟨R2,hR2⟩:∃R,R=Hc w.s.spc.files f.dir f.name:=⟨_,rfl⟩;have hcall1:AFn prog 173 [.agg (Ap w.s.spc.files), .agg (AB f.dir), .v (.string f.name)] (fun r=>r=Cs R1):=by rw[hR1];exact lN _ _ _ hv.files hn
 have hcall2:AFn prog 174 [.agg (Ap w.s.spc.files), .agg (AB f.dir), .v (.string f.name)] (fun r=>r=Cs R2):=by rw[hR2];exact lO _ _ _ hv.files hn
 obtain⟨y,hyd⟩:∃y,y=(AJ w.s.spc.files f.dir f.name).1:=⟨_,rfl⟩;have hl1:AFn prog 134 [.agg (Ap w.s.spc.files), .agg (AB f.dir), .v (.string f.name)] (fun r=>r= .tup [.agg (AB y), .v (.int .i64 (AJ w.s.spc.files f.dir f.name).2)]):=by rw[hyd];exact LV _ _ _ hsb.files
 have hrm:FW w=if f.ex=false then(w,2)else if w.c.num=10 then(if f.name=⟨#[]⟩\/AU w.s.spc.files f.file=true then(w,21)else if CU w f.dir 2=false then(w,13)else Kg w R1)else(if f.name=⟨#[]⟩then(w,16)else if AU w.s.spc.files f.file=false then(w,20)else if K8 w y=true then(w,16)else if CU w f.dir 2=false then(w,13)else Kg w R2):=by
  unfold FW LF;rw[hfn,<-hR1,<-hR2,<-hyd]
 clear hR1 hR2 hyd;refine enter Tryz.func147 rfl rfl rfl rfl rfl 2 rfl ?_;refine FB (h:=k_ (h:=Ac (h:=?_)));refine A7 (DM (n:=0) rfl rfl rfl mj ?_);refine l_ (h:=CP (h:=Fu (h:=CY (h:=?_))));refine A3 rfl (fun kd ka=>?_) (fun kd ka=>?_)
 ·have k1:f.ex=false:=by simpa using ka
  refine BC (h:=?_);refine BV (r:= .v (.int .i64 (FW w).2)) none (h5:=(by rw[hrm,if_pos k1];exact A6 _)) (h6:=⟨rfl,rfl,?_⟩);rw[hrm,if_pos k1];rfl
 have k1:¬f.ex=false:=by simpa using ka
 refine AG (DZ (h:=?_));refine BD (fun S=>∃R,FW w=Kg w R/\S=⟨look [(0, .bp 0 0),(4, .v (.int .i64 R.2.2))],⟨[WA (Bf w R).1 cap,IB (Bf w R).1 cap],[]⟩⟩) ?_ ?_
 ·refine Ab (h:=Dw (h:=BO (h:=?_)));refine A3 rfl (fun ke kc=>?_) (fun ke kc=>?_)
  ·have k2:w.c.num=10:=kc;refine q_ (?_);refine BD (fun S=>S=⟨look [(0, .bp 0 0),(3, .bp 2 0),(28, .v (.bool (decide (f.name=⟨#[]⟩)||AU w.s.spc.files f.file)))],⟨[WA w cap,IB w cap,Ah f],[]⟩⟩) ?_ ?_
   ·refine Aq (Ju (h:=?_));refine AF false rfl rfl (fun kh kf=>?_) (fun kh kf=>?_)
    ·refine BB (h:=J0 (h:=?_));exact⟨_,rfl,CL 3 0 (by simp[Am,Af,Aa,C7 B9,BN,WA,IB,DA,Ah,Al,AB,Ao,AQ,Ap])⟩
    refine m_ (h:=?_);refine Ak (DX 1 rfl (.cons _ _ _ _ _ rfl (LeA.of_eq rfl) (.cons _ _ _ _ _ rfl (A6 _) .nil)) (NN w .any 0 f hsb hf) ?_);rintro r rfl;refine⟨rfl,?_⟩;refine F9 (h:=?_);exact⟨_,rfl,CL 3 0 (by simp[Am,Af,Aa,C7 B9,BN,WA,IB,DA,Ah,Al,AB,Ao,AQ,Ap])⟩
   rintro S rfl;refine A3 rfl (fun kl kg=>?_) (fun kl kg=>?_)
   ·have k3:f.name=⟨#[]⟩\/AU w.s.spc.files f.file=true:=by simpa using kg
    refine BC (h:=Bp (?_));refine BV (r:= .v (.int .i64 (FW w).2)) none (h5:=(by rw[hrm,if_neg k1,if_pos k2,if_pos k3];exact A6 _)) (h6:=⟨rfl,rfl,?_⟩);rw[hrm,if_neg k1,if_pos k2,if_pos k3];rfl
   have k3:¬(f.name=⟨#[]⟩\/AU w.s.spc.files f.file=true):=by simpa using kg
   refine D5 (h:=Ac (h:=?_));refine A7 (DX 1 rfl (.cons _ _ _ _ _ rfl (LeA.of_eq rfl) (.cons _ _ _ _ _ rfl (A6 _) (.cons _ _ _ _ _ rfl (A6 _) .nil))) (Li w .any f.dir 2 hsb) ?_);rintro r rfl;refine⟨rfl,?_⟩;refine CY (h:=?_);refine A3 rfl (fun ko kk=>?_) (fun ko kk=>?_)
   ·have k4:CU w f.dir 2=false:=by simpa using kk
    refine BC (h:=Bp (?_));refine BV (r:= .v (.int .i64 (FW w).2)) none (h5:=(by rw[hrm,if_neg k1,if_pos k2,if_neg k3,if_pos k4];exact A6 _)) (h6:=⟨rfl,rfl,?_⟩);rw[hrm,if_neg k1,if_pos k2,if_neg k3,if_pos k4];rfl
   have k4:¬CU w f.dir 2=false:=by simpa using kk
   refine AG (BJ ([(0,WA w cap),(1,IB w cap),(2,Ah f)]) 15 (h:=AE 0 (h:=AE 1 (h:=BA 2 (h:=AA 3 (h:=AA 4 (h:=AA 5 (h:=A9 6 (h:=AA 7 (h:=A9 8 (h:=AA 9 (h:=A9 10 (h:=?_)))))))))))));refine c_ 11 rfl (AX (hcall1) ?_);rintro r rfl;refine o_ (h:=B6 12 (h:=B6 13 (h:=B6 14 (h:=?_))));refine c_ 15 rfl (Bo [0,1] rfl (.cons _ _ _ _ _ rfl (A6 _) (.cons _ _ _ _ _ rfl (A6 _) (.cons _ _ _ _ _ rfl (A6 _) (.cons _ _ _ _ _ rfl (A6 _) .nil)))) (by decide) (.cons _ _ _ _ _ rfl rfl (.cons _ _ _ _ _ rfl (Dp B9 _ _ _) .nil)) (P8 w cap R1.1 R1.2.1 R1.2.2) ?_);rintro r bc tc ⟨rfl,rfl,rfl⟩;refine⟨rfl,_,EO rfl ((Bf w R1).1) cap,?_⟩;refine o_ (h:=c_ 16 rfl (JU rfl ?_));refine J1 (h:=?_);refine AT ?_;exact⟨_,⟨R1,(by rw[hrm,if_neg k1,if_pos k2,if_neg k3,if_neg k4]),rfl⟩,Ds 2 0⟩
  have k2:¬w.c.num=10:=kc;refine Fu (h:=BO (h:=?_));refine A3 rfl (fun kq km=>?_) (fun kq km=>?_)
  ·have k3:f.name=⟨#[]⟩:=km;refine BC (h:=Bp (?_));refine BV (r:= .v (.int .i64 (FW w).2)) none (h5:=(by rw[hrm,if_neg k1,if_neg k2,if_pos k3];exact A6 _)) (h6:=⟨rfl,rfl,?_⟩);rw[hrm,if_neg k1,if_neg k2,if_pos k3];rfl
  have k3:¬f.name=⟨#[]⟩:=km;refine D5 (h:=?_);refine A7 (DX 1 rfl (.cons _ _ _ _ _ rfl (LeA.of_eq rfl) (.cons _ _ _ _ _ rfl (A6 _) .nil)) (NN w .any 0 f hsb hf) ?_);rintro r rfl;refine⟨rfl,?_⟩;refine CY (h:=?_);refine A3 rfl (fun ks kp=>?_) (fun ks kp=>?_)
  ·have k4:AU w.s.spc.files f.file=false:=by simpa using kp
   refine BC (h:=Bp (?_));refine BV (r:= .v (.int .i64 (FW w).2)) none (h5:=(by rw[hrm,if_neg k1,if_neg k2,if_neg k3,if_pos k4];exact A6 _)) (h6:=⟨rfl,rfl,?_⟩);rw[hrm,if_neg k1,if_neg k2,if_neg k3,if_pos k4];rfl
  have k4:¬AU w.s.spc.files f.file=false:=by simpa using kp
  refine AG (?_);refine BD (fun S=>S=⟨look [(0, .bp 0 0),(3, .bp 2 0),(5, .bp 3 0)],⟨[WA w cap,IB w cap,Ah f,AB y],[]⟩⟩) ?_ ?_
  ·refine BJ ([(0,WA w cap),(1,IB w cap),(2,Ah f)]) 17 (h:=AE 0 (h:=BA 1 (h:=AA 2 (h:=AA 3 (h:=AA 4 (h:=A9 5 (h:=AA 6 (h:=A9 7 (h:=AA 8 (h:=A9 9 (h:=?_)))))))))));refine Ed 10 14 rfl rfl ?_ ?_
   ·refine AX (hl1) ?_;rintro r rfl;refine o_ (h:=AE 11 (h:=B6 12 (h:=B6 13 (h:=?_))));refine c_ 14 rfl (Bn (by repeat constructor) ?_);refine o_ (h:=Ax 15 (h:=B8 16 (h:=z_ (h:=?_))));refine AT ?_;exact⟨_,rfl,Ds 4 0⟩
   refine Bn (by repeat constructor) ?_;refine o_ (h:=c_ 10 rfl (AX (hl1) ?_));rintro r rfl;refine o_ (h:=AE 11 (h:=B6 12 (h:=B6 13 (h:=?_))));refine Ax 15 (h:=B8 16 (h:=z_ (h:=?_)));refine AT ?_;exact⟨_,rfl,Ds 4 0⟩
  rintro S rfl;refine Be (h:=l_ (h:=?_));refine A7 (DX 1 rfl (.cons _ _ _ _ _ rfl (LeA.of_eq rfl) (.cons _ _ _ _ _ rfl (A6 _) .nil)) (bC w .any y hsb hps) ?_);rintro r rfl;refine⟨rfl,?_⟩;refine e_ (?_);refine A3 rfl (fun kt kr=>?_) (fun kt kr=>?_)
  ·have k5:K8 w y=true:=kr;refine BC (h:=Bp (?_));refine BV (r:= .v (.int .i64 (FW w).2)) none (h5:=(by rw[hrm,if_neg k1,if_neg k2,if_neg k3,if_neg k4,if_pos k5];exact A6 _)) (h6:=⟨rfl,rfl,?_⟩);rw[hrm,if_neg k1,if_neg k2,if_neg k3,if_neg k4,if_pos k5];rfl
  have k5:¬K8 w y=true:=by simpa using kr
  refine D5 (h:=Ac (h:=?_));refine A7 (DX 1 rfl (.cons _ _ _ _ _ rfl (LeA.of_eq rfl) (.cons _ _ _ _ _ rfl (A6 _) (.cons _ _ _ _ _ rfl (A6 _) .nil))) (Li w .any f.dir 2 hsb) ?_);rintro r rfl;refine⟨rfl,?_⟩;refine CY (h:=?_);refine A3 rfl (fun kv ku=>?_) (fun kv ku=>?_)
  ·have k6:CU w f.dir 2=false:=by simpa using ku
   refine BC (h:=Bp (?_));refine BV (r:= .v (.int .i64 (FW w).2)) none (h5:=(by rw[hrm,if_neg k1,if_neg k2,if_neg k3,if_neg k4,if_neg k5,if_pos k6];exact A6 _)) (h6:=⟨rfl,rfl,?_⟩);rw[hrm,if_neg k1,if_neg k2,if_neg k3,if_neg k4,if_neg k5,if_pos k6];rfl
  have k6:¬CU w f.dir 2=false:=by simpa using ku
  refine AG (BJ ([(0,WA w cap),(1,IB w cap),(2,Ah f)]) 15 (h:=AE 0 (h:=AE 1 (h:=BA 2 (h:=AA 3 (h:=AA 4 (h:=AA 5 (h:=A9 6 (h:=AA 7 (h:=A9 8 (h:=AA 9 (h:=A9 10 (h:=?_)))))))))))));refine c_ 11 rfl (AX (hcall2) ?_);rintro r rfl;refine o_ (h:=B6 12 (h:=B6 13 (h:=B6 14 (h:=?_))));refine c_ 15 rfl (Bo [0,1] rfl (.cons _ _ _ _ _ rfl (A6 _) (.cons _ _ _ _ _ rfl (A6 _) (.cons _ _ _ _ _ rfl (A6 _) (.cons _ _ _ _ _ rfl (A6 _) .nil)))) (by decide) (.cons _ _ _ _ _ rfl rfl (.cons _ _ _ _ _ rfl (Dp B9 _ _ _) .nil)) (P8 w cap R2.1 R2.2.1 R2.2.2) ?_);rintro r bc tc ⟨rfl,rfl,rfl⟩;refine⟨rfl,_,EO rfl ((Bf w R2).1) cap,?_⟩;refine o_ (h:=c_ 16 rfl (JU rfl ?_));refine J1 (h:=?_);refine AT ?_;exact⟨_,⟨R2,(by rw[hrm,if_neg k1,if_neg k2,if_neg k3,if_neg k4,if_neg k5,if_neg k6]),rfl⟩,Ds 2 0⟩
 rintro S ⟨R,hrm2,rfl⟩;have hit:(Bf w R).1.r.items=w.r.items:=dL w R;have hxa:(Bf w R).1.r.items[0]?=some x0:=by rw[hit];exact hx0
 have hil1:0<(Bf w R).1.r.items.length:=by rw[hit];exact hil
 refine Be (h:=BO (h:=?_));refine A3 rfl (fun yf yb=>?_) (fun yf yb=>?_)
 ·have h0:R.2.2=0:=yb;refine BU (h:=Dw (h:=?_));refine A7 (EF (m:=0) rfl rfl rfl hil1 ?_);refine f_ (h:=?_);refine Mz (Es rfl rfl rfl rfl rfl rfl (Mf B9 (x':={x0 with role:=3}) hxa (by repeat constructor) (List.cons_ne_nil _ _)) (by repeat constructor) ?_);refine e_ (EW (h:=?_));refine BV (r:= .v (.int .i64 (FW w).2)) none (h5:=(by rw[hrm2,Kg,if_neg (by simp[h0])];exact LeA.of_eq (vi h0))) (h6:=⟨rfl,rfl,?_⟩);rw[hrm2,Kg,if_neg (by simp[h0])];rw[bM,bO hxa];rfl
 have h0:¬R.2.2=0:=yb;refine AG (EW (h:=?_));refine BV (r:= .v (.int .i64 (FW w).2)) none (h5:=(by rw[hrm2,Kg,if_pos h0];exact A6 _)) (h6:=⟨rfl,rfl,?_⟩);rw[hrm2,Kg,if_pos h0];rw[SY h0];rfl
theorem dO(w:Wrk)(cap:Nat)(f:Fnd)(hv:SpcV w.s.spc)(hm:w.s.spc.mounts.length<=1000)(hf:w.found[0]?=some f):ACall prog 149 [.bp 0 0] [WA w cap,IB w cap] (fun r b t=>t=[]/\r= .v (.int .i64 (H0 w).2)/\b=[WA (H0 w).1 cap,IB (H0 w).1 cap]):=by
 have hsb:=hv.b hm;have mj:(w.found.map Ah)[0]?=some (Ah f):=by rw[List.getElem?_map,hf];rfl
 have hfn:Av w 0=f:=by unfold Av;rw[hf];rfl
 obtain⟨n,hnd⟩:∃n,n=AY w.s.spc.files f.file:=⟨_,rfl⟩;have fg:AFn prog 123 [.agg (Ap w.s.spc.files), .agg (AB f.file)] (fun r=>r= .tup [.agg (Al n), .v (.bool (Dl w.s.spc.files f.file))]):=by rw[hnd];exact G0 _ _ hsb.files
 have hat:H0 w=if f.ex=false then(w,2)else if w.c.num=14 then(if w.p.euid≠0/\w.p.euid≠n.uid then(w,1)else M8 w (Gb w.s.spc.files f.file w.c.a0 n.uid n.gid))else if w.p.euid≠0 then(w,1)else M8 w (Gb w.s.spc.files f.file n.mode w.c.a0 w.c.a1):=by
  unfold H0;rw[hfn,<-hnd]
 clear hnd;refine enter Tryz.func149 rfl rfl rfl rfl rfl 2 rfl ?_;refine FB (h:=k_ (h:=Ac (h:=?_)));refine A7 (DM (n:=0) rfl rfl rfl mj ?_);refine l_ (h:=CP (h:=Fu (h:=CY (h:=?_))));refine A3 rfl (fun kd ka=>?_) (fun kd ka=>?_)
 ·have k1:f.ex=false:=by simpa using ka
  refine BC (h:=?_);refine BV (r:= .v (.int .i64 (H0 w).2)) none (h5:=(by rw[hat,if_pos k1];exact A6 _)) (h6:=⟨rfl,rfl,?_⟩);rw[hat,if_pos k1];rfl
 have k1:¬f.ex=false:=by simpa using ka
 refine AG (?_);refine BD (fun S=>S=⟨look [(0, .bp 0 0),(3, .bp 2 0),(4, .bp 3 0)],⟨[WA w cap,IB w cap,Ah f,Al n],[]⟩⟩) ?_ ?_
 ·refine BJ ([(0,WA w cap),(1,IB w cap),(2,Ah f)]) 15 (h:=AE 0 (h:=BA 1 (h:=AA 2 (h:=AA 3 (h:=AA 4 (h:=A9 5 (h:=AA 6 (h:=A9 7 (h:=?_)))))))));refine Ed 8 12 rfl rfl ?_ ?_
  ·refine AX (fg) ?_;rintro r rfl;refine o_ (h:=AE 9 (h:=B6 10 (h:=B6 11 (h:=?_))));refine c_ 12 rfl (Bn (by repeat constructor) ?_);refine o_ (h:=Ax 13 (h:=B8 14 (h:=z_ (h:=?_))));refine AT ?_;exact⟨_,rfl,Ds 4 0⟩
  refine Bn (by repeat constructor) ?_;refine o_ (h:=c_ 8 rfl (AX (fg) ?_));rintro r rfl;refine o_ (h:=AE 9 (h:=B6 10 (h:=B6 11 (h:=?_))));refine Ax 13 (h:=B8 14 (h:=z_ (h:=?_)));refine AT ?_;exact⟨_,rfl,Ds 4 0⟩
 rintro S rfl;refine BD (fun S=>∃m u g,H0 w=M8 w (Gb w.s.spc.files f.file m u g)/\S=⟨look [(0, .bp 0 0),(3, .bp 2 0),(4, .bp 3 0)],⟨[WA w cap,IB w cap,Ah f,Al {n with mode:=m,uid:=u,gid:=g}],[]⟩⟩) ?_ ?_
 ·refine Ab (h:=Dw (h:=BO (h:=?_)));refine A3 rfl (fun ke kc=>?_) (fun ke kc=>?_)
  ·have k2:w.c.num=14:=kc;refine q_ (?_);refine BD (fun S=>S=⟨look [(0, .bp 0 0),(3, .bp 2 0),(4, .bp 3 0),(50, .v (.bool (!decide (w.p.euid=0)&& !decide (w.p.euid=n.uid))))],⟨[WA w cap,IB w cap,Ah f,Al n],[]⟩⟩) ?_ ?_
   ·refine E0 16 (h:=AE 0 (h:=BA 1 (h:=AA 2 (h:=AA 3 (h:=A9 4 (h:=Pe 5 (h:=AE 6 (h:=?_))))))));refine MJ (j:=6) rfl (fun kh=>?_) (fun kh=>?_)
    ·have kf:=bp kh;refine AE 7 (h:=BA 8 (h:=AA 9 (h:=AA 10 (h:=A9 11 (h:=AA 12 (h:=A9 13 (h:=Pe 14 (h:=Ls 15 (h:=z_ (h:=?_))))))))));refine AT ?_;exact⟨_,rfl,CL 4 0 (by simp[Am,Af,Aa,C7 B9,BN,WA,IB,DA,Ah,Al,AB,Ao,AQ,Ap])⟩
    have kf:=bp kh;refine BX 7 (h:=BX 8 (h:=BX 9 (h:=BX 10 (h:=BX 11 (h:=BX 12 (h:=BX 13 (h:=BX 14 (h:=L0 15 (h:=z_ (h:=?_))))))))));refine AT ?_;exact⟨_,rfl,CL 4 0 (by simp[Am,Af,Aa,C7 B9,BN,WA,IB,DA,Ah,Al,AB,Ao,AQ,Ap])⟩
   rintro S rfl;refine A3 rfl (fun kl kg=>?_) (fun kl kg=>?_)
   ·have k3:w.p.euid≠0/\w.p.euid≠n.uid:=by simpa using kg
    refine BC (h:=Bp (?_));refine BV (r:= .v (.int .i64 (H0 w).2)) none (h5:=(by rw[hat,if_neg k1,if_pos k2,if_pos k3];exact A6 _)) (h6:=⟨rfl,rfl,?_⟩);rw[hat,if_neg k1,if_pos k2,if_pos k3];rfl
   have k3:¬(w.p.euid≠0/\w.p.euid≠n.uid):=by simpa using kg
   refine AG (BU (h:=J3 (h:=f_ (h:=?_))));refine A7 (CX (len:=4) (sz:=1) (n:=0) (by kernel_rfl) rfl rfl rfl rfl ?_);refine l_ (h:=Jf (h:=?_));exact⟨_,⟨w.c.a0,n.uid,n.gid,(by rw[hat,if_neg k1,if_pos k2,if_neg k3]),rfl⟩,Ds 4 0⟩
  have k2:¬w.c.num=14:=kc;refine Be (h:=Dw (h:=D3 (h:=?_)));refine A3 rfl (fun ko kk=>?_) (fun ko kk=>?_)
  ·have k3:w.p.euid≠0:=by simpa using kk
   refine BC (h:=Bp (?_));refine BV (r:= .v (.int .i64 (H0 w).2)) none (h5:=(by rw[hat,if_neg k1,if_neg k2,if_pos k3];exact A6 _)) (h6:=⟨rfl,rfl,?_⟩);rw[hat,if_neg k1,if_neg k2,if_pos k3];rfl
  have k3:¬w.p.euid≠0:=by simpa using kk
  refine AG (BJ ([(0,WA w cap),(1,IB w cap),(2,Ah f)]) 16 (h:=AE 0 (h:=BA 1 (h:=AA 2 (h:=AA 3 (h:=?_))))));refine CE 4 rfl (fun _ hS=>CX (len:=4) (sz:=1) (n:=0) (by kernel_rfl) rfl rfl rfl rfl ⟨rfl,rfl⟩) ?_;refine A9 5 (h:=AE 6 (h:=BA 7 (h:=AA 8 (h:=AA 9 (h:=?_)))));refine CE 10 rfl (fun _ hS=>CX (len:=4) (sz:=1) (n:=1) (by kernel_rfl) rfl rfl rfl rfl ⟨rfl,rfl⟩) ?_;refine A9 11 (h:=AA 12 (h:=?_));refine Ax 13 (h:=AA 14 (h:=?_));refine Ax 15 (h:=z_ (h:=?_));refine AT ?_;exact⟨_,⟨n.mode,w.c.a0,w.c.a1,(by rw[hat,if_neg k1,if_neg k2,if_neg k3]),rfl⟩,Ds 4 0⟩
 rintro S ⟨m,u,g,pu,rfl⟩;obtain⟨R,hR⟩:∃R,R=Gb w.s.spc.files f.file m u g:=⟨_,rfl⟩;have yp:AFn prog 176 [.agg (Ap w.s.spc.files), .agg (AB f.file), .v (.int .i64 m), .v (.int .i64 u), .v (.int .i64 g)] (fun r=>r=QJ R):=by rw[hR];exact lR _ _ _ _ _ hv.files
 rw[<-hR]at pu;clear hR;refine BD (fun S=>S=⟨look [(0, .bp 0 0),(6, .bp 4 0),(7, .v (.int .i64 R.2))],⟨[WA w cap,IB w cap,Ah f,Al {n with mode:=m,uid:=u,gid:=g},Ap R.1],[]⟩⟩) ?_ ?_
 ·refine BJ ([(0,WA w cap),(1,IB w cap),(2,Ah f),(3,Al {n with mode:=m,uid:=u,gid:=g})]) 21 (h:=AE 0 (h:=BA 1 (h:=AA 2 (h:=AA 3 (h:=AA 4 (h:=A9 5 (h:=AA 6 (h:=A9 7 (h:=AA 8 (h:=A9 9 (h:=AA 10 (h:=A9 11 (h:=AA 12 (h:=A9 13 (h:=?_)))))))))))))));refine Ed 14 18 rfl rfl ?_ ?_
  ·refine AX (yp) ?_;rintro r rfl;refine o_ (h:=AE 15 (h:=B6 16 (h:=B6 17 (h:=?_))));refine c_ 18 rfl (Bn (by repeat constructor) ?_);refine o_ (h:=Ax 19 (h:=B8 20 (h:=z_ (h:=?_))));refine AT ?_;exact⟨_,rfl,Ds 5 0⟩
  refine Bn (by repeat constructor) ?_;refine o_ (h:=c_ 14 rfl (AX (yp) ?_));rintro r rfl;refine o_ (h:=AE 15 (h:=B6 16 (h:=B6 17 (h:=?_))));refine Ax 19 (h:=B8 20 (h:=z_ (h:=?_)));refine AT ?_;exact⟨_,rfl,Ds 5 0⟩
 rintro S rfl;refine Ab (h:=GD (h:=?_));refine A7 (Bo [0,1] rfl (.cons _ _ _ _ _ rfl (A6 _) (.cons _ _ _ _ _ rfl (A6 _) (.cons _ _ _ _ _ rfl (LeA.nil _) (.cons _ _ _ _ _ rfl (A6 _) .nil)))) (by decide) (.cons _ _ _ _ _ rfl rfl (.cons _ _ _ _ _ rfl (Dp B9 _ _ _) .nil)) (P8 w cap R.1 [] R.2) ?_);rintro r bc tc ⟨rfl,rfl,rfl⟩;refine⟨rfl,_,EO rfl (Bf w (R.1,[],R.2)).1 cap,?_⟩;refine BW (h:=?_);refine BV (r:= .v (.int .i64 (H0 w).2)) none (h5:=(by rw[pu,M8,sQ];exact A6 _)) (h6:=⟨rfl,rfl,?_⟩);rw[pu,M8];rfl
end
def Dk(t:Tab):Prop:=0<=t.next/\0<=t.nextS
theorem vW{t:Tab}{pid:Int}{j:Nat}{x:Prc}{acc:List Prc}(hy:t.ps[j]?=some x)(ha:((t.ps.take j).filter fun p=>decide (p.pid≠pid)).map (Kd pid)=acc):((t.ps.take (j+1)).filter fun p=>decide (p.pid≠pid)).map (Kd pid)=if x.pid≠pid then acc++[Kd pid x]else acc:=by
 rw[List.take_add_one,hy,List.filter_append,List.map_append,ha];by_cases h:x.pid=pid<;>simp[h]
section
theorem Vv(n:Int):AFn prog 251 [.v (.int .i64 n)] (fun r=>r= .v (.bool (LC n))):=by
 refine enter Tryz.func251 rfl rfl rfl rfl rfl 0 rfl ?_;refine FB (h:=Dt (h:=m_ (h:=?_)));refine AF true rfl rfl (fun kd ka=>?_) (fun kd ka=>?_)
 ·refine m_ (h:=Jc (h:=Eg (h:=?_)));refine A4 ?_;exact vb (by simp[LC, *])
 refine BB (h:=H9 (h:=?_));refine A4 ?_;exact vb (by simp[LC, *])
theorem dQ(b:Bool)(x y n:Int):AFn prog 252 [.v (.bool b), .v (.int .i64 x), .v (.int .i64 y), .v (.int .i64 n)] (fun r=>r= .tup [.v (.int .i64 (Fo b x y n).1), .v (.int .i64 (Fo b x y n).2.1), .v (.int .i64 (Fo b x y n).2.2)]):=by
 refine enter Tryz.func252 rfl rfl rfl rfl rfl 0 rfl ?_;refine w_ (a_ (h:=Jq (h:=e_ (?_))));refine A3 rfl (fun kd ka=>?_) (fun kd ka=>?_)
 ·refine Eh (h:=a_ (h:=DY (h:=?_)));refine A4 ?_;unfold Fo;simp[*];rfl
 refine AG (EH (h:=Dv (h:=?_)));refine AF false rfl rfl (fun ke kc=>?_) (fun ke kc=>?_)
 ·refine EV (h:=Eh (h:=a_ (h:=DY (h:=?_))));refine A4 ?_;unfold Fo;simp[*];rfl
 refine Cp (h:=Df (h:=Cq (h:=?_)));refine A3 rfl (fun kh kf=>?_) (fun kh kf=>?_)
 ·refine Eh (h:=a_ (h:=DY (h:=?_)));refine A4 ?_;unfold Fo;simp[*];rfl
 refine AG (w_ (a_ (h:=a_ (h:=BW (h:=?_)))));refine A4 ?_;unfold Fo;simp[*];rfl
theorem vX(t:Tab)(pid:Int)(a:A8)(ht:TabB t):AFn prog 206 [.agg (Ao t), .v (.int .i64 pid), .agg (AB a)] (fun r=>r=D9 (Le t pid a)):=by
 have h8:=KC ht pid;refine enter Tryz.func206 rfl rfl rfl rfl rfl 0 rfl ?_;refine Ef (h:=Ay (h:=Fy (h:=?_)));refine AK (Kk t pid ht) ?_;refine HQ (h:=?_);refine A3 rfl (fun kd ka=>?_) (fun kd ka=>?_)
 ·have hno:Ca t pid=false:=by simpa using ka
  refine Bj (h:=?_);refine AO (r:=D9 (Le t pid a)) none (h5:=?_) (h6:=⟨rfl,rfl,rfl⟩);rw[Le,if_pos hno];exact Gi _
 have ym:Ca t pid=true:=by simpa using ka
 refine AG (Bw (h:=Cg (h:=C9 (h:=?_))));refine AK (O9 t {AP t pid with cwd:=a} ht (NL ym) (by show(AP t pid).opens.length<=1000;omega)) ?_;refine s_ (h:=BW (h:=?_));refine A4 ?_;rw[Le,if_neg (by simp[ym])];rfl
theorem vY(t:Tab)(pid:Int)(x y:AD)(ht:TabB t):AFn prog 205 [.agg (Ao t), .v (.int .i64 pid), .v (.string x), .v (.string y)] (fun r=>r=D9 (Lf t pid x y)):=by
 have h8:=KC ht pid;refine enter Tryz.func205 rfl rfl rfl rfl rfl 0 rfl ?_;refine E5 (h:=Ay (h:=Fy (h:=?_)));refine AK (Kk t pid ht) ?_;refine HQ (h:=?_);refine A3 rfl (fun kd ka=>?_) (fun kd ka=>?_)
 ·have hno:Ca t pid=false:=by simpa using ka
  refine Bj (h:=?_);refine AO (r:=D9 (Lf t pid x y)) none (h5:=?_) (h6:=⟨rfl,rfl,rfl⟩);rw[Lf,if_pos hno];exact Gi _
 have ym:Ca t pid=true:=by simpa using ka
 refine AG (Eh (h:=Cy (h:=Cg (h:=C9 (h:=?_)))));refine AK (O9 t {AP t pid with exe:=x,comm:=y} ht (NL ym) (by show(AP t pid).opens.length<=1000;omega)) ?_;refine s_ (h:=BW (h:=?_));refine A4 ?_;rw[Lf,if_neg (by simp[ym])];rfl
theorem vZ(t:Tab)(pid u:Int)(ht:TabB t):AFn prog 209 [.agg (Ao t), .v (.int .i64 pid), .v (.int .i64 u)] (fun r=>r=D9 (K6 t pid u)):=by
 have h8:=KC ht pid;refine enter Tryz.func209 rfl rfl rfl rfl rfl 0 rfl ?_;refine E5 (h:=Ay (h:=Fy (h:=?_)));refine AK (Kk t pid ht) ?_;refine HQ (h:=?_);refine A3 rfl (fun kd ka=>?_) (fun kd ka=>?_)
 ·have hno:Ca t pid=false:=by simpa using ka
  refine Bj (h:=?_);refine AO (r:=D9 (K6 t pid u)) none (h5:=?_) (h6:=⟨rfl,rfl,rfl⟩);rw[K6,if_pos hno];exact Gi _
 have ym:Ca t pid=true:=by simpa using ka
 refine D5 (h:=?_);refine AK (Vv u) ?_;refine CY (h:=?_);refine A3 rfl (fun ke kc=>?_) (fun ke kc=>?_)
 ·have hid:LC u=false:=by simpa using kc
  refine Bj (h:=?_);refine AO (r:=D9 (K6 t pid u)) none (h5:=?_) (h6:=⟨rfl,rfl,rfl⟩);rw[K6,if_neg (by simp[ym]),if_pos hid];exact Gi _
 have hid:¬LC u=false:=by simpa using kc
 refine AG (DZ (h:=B2 (h:=Df (h:=Ac (h:=Eu (h:=?_))))));refine AK (dQ (decide ((AP t pid).euid=0)) (AP t pid).uid (AP t pid).euid u) ?_;refine Ft (h:=x_ (h:=Cy (h:=Cy (h:=Du (h:=D3 (h:=?_))))));refine A3 rfl (fun kh kf=>?_) (fun kh kf=>?_)
 ·have hce:(Fo (decide ((AP t pid).euid=0)) (AP t pid).uid (AP t pid).euid u).2.2≠0:=by simpa using kf
  refine w_ (Jt (h:=?_));refine AO (r:=D9 (K6 t pid u)) none (h5:=?_) (h6:=⟨rfl,rfl,rfl⟩);rw[K6,if_neg (by simp[ym]),if_neg hid,if_pos hce];exact Gi _
 have hce:¬(Fo (decide ((AP t pid).euid=0)) (AP t pid).uid (AP t pid).euid u).2.2≠0:=by simpa using kf
 refine AG (C9 (h:=?_));refine AK (O9 t {AP t pid with uid:=(Fo (decide ((AP t pid).euid=0)) (AP t pid).uid (AP t pid).euid u).1,euid:=(Fo (decide ((AP t pid).euid=0)) (AP t pid).uid (AP t pid).euid u).2.1} ht (NL ym) (by show(AP t pid).opens.length<=1000;omega)) ?_;refine s_ (h:=BW (h:=?_));refine A4 ?_;rw[K6,if_neg (by simp[ym]),if_neg hid,if_neg hce];rfl
theorem w6(t:Tab)(pid u:Int)(ht:TabB t):AFn prog 210 [.agg (Ao t), .v (.int .i64 pid), .v (.int .i64 u)] (fun r=>r=D9 (K7 t pid u)):=by
 have h8:=KC ht pid;refine enter Tryz.func210 rfl rfl rfl rfl rfl 0 rfl ?_;refine E5 (h:=Ay (h:=Fy (h:=?_)));refine AK (Kk t pid ht) ?_;refine HQ (h:=?_);refine A3 rfl (fun kd ka=>?_) (fun kd ka=>?_)
 ·have hno:Ca t pid=false:=by simpa using ka
  refine Bj (h:=?_);refine AO (r:=D9 (K7 t pid u)) none (h5:=?_) (h6:=⟨rfl,rfl,rfl⟩);rw[K7,if_pos hno];exact Gi _
 have ym:Ca t pid=true:=by simpa using ka
 refine D5 (h:=?_);refine AK (Vv u) ?_;refine CY (h:=?_);refine A3 rfl (fun ke kc=>?_) (fun ke kc=>?_)
 ·have hid:LC u=false:=by simpa using kc
  refine Bj (h:=?_);refine AO (r:=D9 (K7 t pid u)) none (h5:=?_) (h6:=⟨rfl,rfl,rfl⟩);rw[K7,if_neg (by simp[ym]),if_pos hid];exact Gi _
 have hid:¬LC u=false:=by simpa using kc
 refine AG (DZ (h:=B2 (h:=Df (h:=Ac (h:=Eu (h:=?_))))));refine AK (dQ (decide ((AP t pid).euid=0)) (AP t pid).gid (AP t pid).egid u) ?_;refine Ft (h:=x_ (h:=Cy (h:=Cy (h:=Du (h:=D3 (h:=?_))))));refine A3 rfl (fun kh kf=>?_) (fun kh kf=>?_)
 ·have hce:(Fo (decide ((AP t pid).euid=0)) (AP t pid).gid (AP t pid).egid u).2.2≠0:=by simpa using kf
  refine w_ (Jt (h:=?_));refine AO (r:=D9 (K7 t pid u)) none (h5:=?_) (h6:=⟨rfl,rfl,rfl⟩);rw[K7,if_neg (by simp[ym]),if_neg hid,if_pos hce];exact Gi _
 have hce:¬(Fo (decide ((AP t pid).euid=0)) (AP t pid).gid (AP t pid).egid u).2.2≠0:=by simpa using kf
 refine AG (C9 (h:=?_));refine AK (O9 t {AP t pid with gid:=(Fo (decide ((AP t pid).euid=0)) (AP t pid).gid (AP t pid).egid u).1,egid:=(Fo (decide ((AP t pid).euid=0)) (AP t pid).gid (AP t pid).egid u).2.1} ht (NL ym) (by show(AP t pid).opens.length<=1000;omega)) ?_;refine s_ (h:=BW (h:=?_));refine A4 ?_;rw[K7,if_neg (by simp[ym]),if_neg hid,if_neg hce];rfl
theorem w7(t:Tab)(pid u:Int)(ht:TabB t)(hn:Dk t):AFn prog 211 [.agg (Ao t), .v (.int .i64 pid), .v (.int .i64 u)] (fun r=>r=D9 (Gy t pid u)):=by
 have h8:=KC ht pid;have hn1:=hn.2;have hn2:=ht.nextS;obtain⟨tp,htp⟩:∃x,x=Jh t {AP t pid with auid:=u,ses:=t.nextS}:=⟨_,rfl⟩;have e1:tp.nextS=t.nextS:=by rw[htp];rfl
 have hput:Ca t pid=true->AFn prog 250 [.agg (Ao t), .agg (Ar {AP t pid with auid:=u,ses:=t.nextS})] (fun r=>r= .agg (Ao tp)):=fun h=>by rw[htp];exact O9 t _ ht (NL h) (by show(AP t pid).opens.length<=1000;omega)
 refine enter Tryz.func211 rfl rfl rfl rfl rfl 0 rfl ?_;refine E5 (h:=Ay (h:=Fy (h:=?_)));refine AK (Kk t pid ht) ?_;refine HQ (h:=?_);refine A3 rfl (fun kd ka=>?_) (fun kd ka=>?_)
 ·have hno:Ca t pid=false:=by simpa using ka
  refine Bj (h:=?_);refine AO (r:=D9 (Gy t pid u)) none (h5:=?_) (h6:=⟨rfl,rfl,rfl⟩);rw[Gy,if_pos hno];exact Gi _
 have ym:Ca t pid=true:=by simpa using ka
 refine D5 (h:=?_);refine AK (Vv u) ?_;refine CY (h:=?_);refine A3 rfl (fun ke kc=>?_) (fun ke kc=>?_)
 ·have hid:LC u=false:=by simpa using kc
  refine Bj (h:=?_);refine AO (r:=D9 (Gy t pid u)) none (h5:=?_) (h6:=⟨rfl,rfl,rfl⟩);rw[Gy,if_neg (by simp[ym]),if_pos hid];exact Gi _
 have hid:¬LC u=false:=by simpa using kc
 refine DF (h:=Fw (h:=?_));refine AF true rfl rfl (fun kh kf=>?_) (fun kh kf=>?_)
 ·refine CG (h:=Bm (h:=e_ (?_)));refine A3 rfl (fun kl kg=>?_) (fun kl kg=>?_)
  ·refine Bj (h:=?_);refine AO (r:=D9 (Gy t pid u)) none (h5:=?_) (h6:=⟨rfl,rfl,rfl⟩);rw[Gy,if_neg (by simp[ym]),if_neg hid,if_pos (by first|assumption|omega)];exact Gi _
  refine DF (h:=BO (h:=?_));refine A3 rfl (fun ko kk=>?_) (fun ko kk=>?_)
  ·have hse:t.nextS=1073741824:=kk;refine Bj (h:=?_);refine AO (r:=D9 (Gy t pid u)) none (h5:=?_) (h6:=⟨rfl,rfl,rfl⟩);rw[Gy,if_neg (by simp[ym]),if_neg hid,if_neg (by first|assumption|omega),if_pos hse];exact Gi _
  have hse:¬t.nextS=1073741824:=kk;refine AG (q_ (BJ ([(0,Ao t),(1,Dq)]) 7 (h:=AE 0 (h:=AA 1 (h:=A9 2 (h:=AA 3 (h:=?_)))))));refine Ax 4 (h:=AA 5 (h:=?_));refine Ax 6 (h:=z_ (h:=t_ (w_ (l_ (h:=l_ (h:=?_))))));refine AK (hput ym) ?_;refine CP (h:=B2 (h:=Ez (h:=Cg (h:=Jp (h:=?_)))));refine A4 ?_;rw[Gy,if_neg (by simp[ym]),if_neg hid,if_neg (by first|assumption|omega),if_neg hse,<-htp,<-e1];exact congrArg (fun n=>AV.tup [.agg [.v (.int .i64 n), .v (.int .i64 (tp.nextS+1)), .sl 14 (tp.ps.map Ar) none], .v (.int .i64 0)]) (by rw[htp];rfl)
 refine DE (h:=e_ (Ja (h:=DF (h:=BO (h:=?_)))));refine A3 rfl (fun kq km=>?_) (fun kq km=>?_)
 ·have hse:t.nextS=1073741824:=km;refine Bj (h:=?_);refine AO (r:=D9 (Gy t pid u)) none (h5:=?_) (h6:=⟨rfl,rfl,rfl⟩);rw[Gy,if_neg (by simp[ym]),if_neg hid,if_neg (by first|assumption|omega),if_pos hse];exact Gi _
 have hse:¬t.nextS=1073741824:=km;refine AG (q_ (BJ ([(0,Ao t),(1,Dq)]) 7 (h:=AE 0 (h:=AA 1 (h:=A9 2 (h:=AA 3 (h:=?_)))))));refine Ax 4 (h:=AA 5 (h:=?_));refine Ax 6 (h:=z_ (h:=t_ (w_ (l_ (h:=l_ (h:=?_))))));refine AK (hput ym) ?_;refine CP (h:=B2 (h:=Ez (h:=Cg (h:=Jp (h:=?_)))));refine A4 ?_;rw[Gy,if_neg (by simp[ym]),if_neg hid,if_neg (by first|assumption|omega),if_neg hse,<-htp,<-e1];exact congrArg (fun n=>AV.tup [.agg [.v (.int .i64 n), .v (.int .i64 (tp.nextS+1)), .sl 14 (tp.ps.map Ar) none], .v (.int .i64 0)]) (by rw[htp];rfl)
theorem w8(t:Tab)(pid fd:Int)(ht:TabB t):AFn prog 212 [.agg (Ao t), .v (.int .i64 pid), .v (.int .i64 fd)] (fun r=>r=D9 (LD t pid fd)):=by
 have h8:=KC ht pid;have hol:((AP t pid).opens.map Hj).length=(AP t pid).opens.length:=List.length_map _;refine enter Tryz.func212 rfl rfl rfl rfl rfl 0 rfl ?_;refine E5 (h:=Ay (h:=Fy (h:=?_)));refine AK (Kk t pid ht) ?_;refine HQ (h:=?_);refine A3 rfl (fun kd ka=>?_) (fun kd ka=>?_)
 ·have hno:Ca t pid=false:=by simpa using ka
  refine Bj (h:=?_);refine AO (r:=D9 (LD t pid fd)) none (h5:=?_) (h6:=⟨rfl,rfl,rfl⟩);rw[LD,if_pos hno];exact Gi _
 have ym:Ca t pid=true:=by simpa using ka
 refine AG (DZ (h:=Cz (h:=?_)));refine NZ 10 291 4 rfl (by repeat constructor) ?_;refine BL (fun m s=>∃(j:Nat) (acc:List Dsc),j<=(AP t pid).opens.length/\m=(AP t pid).opens.length - j/\((AP t pid).opens.take j).filter (fun d=>decide (d.fd≠fd))=acc/\acc.length<=j/\s=⟨look [(2, .v (.int .i64 fd)),(3, .bp 0 0),(6, .bp 1 0),(8, .bp 2 0),(10, .sl 4 (acc.map Hj) (some 0)),(11, .v (.int .i64 (j:Int)))],⟨[Ao t,Dq,Ar (AP t pid)],[(291,4,acc.map Hj)]⟩⟩) ((AP t pid).opens.length) ((wk 3 1)) (⟨0,[],BG _,rfl,rfl,As _,rfl⟩) ?_;rintro m s ⟨j,acc,hj,rfl,yl,hal,rfl⟩;refine Hz (h:=?_);refine A3 rfl (fun ke kc=>?_) (fun ke kc=>?_)
 ·obtain⟨hlt,x,hy,ya, -⟩:=Bx Hj kc;refine Bq (h:=F8 (h:=i_ (h:=Eu (h:=D3 (h:=?_)))));refine A3 rfl (fun kh kf=>?_) (fun kh kf=>?_)
  ·have hne:x.fd≠fd:=by simpa using kf
   have hk:((AP t pid).opens.take (j+1)).filter (fun d=>decide (d.fd≠fd))=acc++[x]:=by rw[List.take_add_one,hy,List.filter_append,yl];simp[hne]
   refine BU (h:=Eu (h:=E6 (h:=BT (h:=?_))));refine A7 (G7 rfl rfl rfl (by simp;omega) (by repeat constructor) ?_);refine Ht (h:=FO (h:=?_));exact⟨(AP t pid).opens.length - (j+1),_,by omega,⟨j+1,acc++[x],by omega,rfl,hk,by simp;omega,rfl⟩,(by rw[List.map_append];exact At 3 1 rfl rfl rfl rfl ((by repeat (first|exact Sub.nil|refine Aw rfl rfl ?_|refine B3 ?_|refine B4 rfl ?_|refine B5 rfl ?_))))⟩
  have hne:x.fd=fd:=by simpa using kf
  have hk:((AP t pid).opens.take (j+1)).filter (fun d=>decide (d.fd≠fd))=acc:=by rw[List.take_add_one,hy,List.filter_append,yl];simp[hne]
  refine Dg (h:=?_);exact⟨(AP t pid).opens.length - (j+1),_,by omega,⟨j+1,acc,by omega,rfl,hk,by omega,rfl⟩,At 3 1 rfl rfl rfl rfl ((by repeat (first|exact Sub.nil|refine Aw rfl rfl ?_|refine B3 ?_|refine B4 rfl ?_|refine B5 rfl ?_)))⟩
 have e:=CA Hj hj kc;subst e;rw[List.take_length]at yl;refine C4 (h:=Be (h:=n_ (h:=Gr (h:=BO (h:=?_)))));refine A3 rfl (fun kl kg=>?_) (fun kl kg=>?_)
 ·have hln:(((AP t pid).opens.filter fun d=>decide (d.fd≠fd)).length:Int)=((AP t pid).opens.length:Int):=by rw[yl];simpa using kg
  refine Bj (h:=?_);refine AO (r:=D9 (LD t pid fd)) none (h5:=?_) (h6:=⟨rfl,rfl,rfl⟩);rw[LD,if_neg (by simp[ym]),if_pos hln];exact Gi _
 have hln:¬(((AP t pid).opens.filter fun d=>decide (d.fd≠fd)).length:Int)=((AP t pid).opens.length:Int):=by rw[yl];simpa using kg
 refine Ei (h:=Cg (h:=Bw (h:=?_)));refine A7 (JC (y:= .agg (Ar {AP t pid with opens:=(AP t pid).opens.filter fun d=>decide (d.fd≠fd)})) (Kv rfl rfl rfl ⟨rfl,rfl⟩) (b8 _ _ _ _ (by rw[yl])) ?_);refine AK (O9 t {AP t pid with opens:=(AP t pid).opens.filter fun d=>decide (d.fd≠fd)} ht (NL ym) (by have:=List.length_filter_le (fun d:Dsc=>decide (d.fd≠fd)) (AP t pid).opens;show((AP t pid).opens.filter _).length<=1000;omega)) ?_;refine s_ (h:=BW (h:=?_));refine A4 ?_;rw[LD,if_neg (by simp[ym]),if_neg hln];rfl
theorem dR(t:Tab)(pid:Int)(ht:TabB t):AFn prog 208 [.agg (Ao t), .v (.int .i64 pid)] (fun r=>r=D9 (K5 t pid)):=by
 have fa:=ht.few;refine enter Tryz.func208 rfl rfl rfl rfl rfl 0 rfl ?_;refine E5 (h:=Ay (h:=q_ (Fy (h:=?_))));refine AK (Kk t pid ht) ?_;refine EU (h:=Cl (h:=CY (h:=?_)));refine A3 rfl (fun kd ka=>?_) (fun kd ka=>?_)
 ·have hno:Ca t pid=false:=by simpa using ka
  refine Bj (h:=?_);refine AO (r:=D9 (K5 t pid)) none (h5:=?_) (h6:=⟨rfl,rfl,rfl⟩);rw[K5,if_pos hno];exact Gi _
 have ym:Ca t pid=true:=by simpa using ka
 refine D5 (h:=BO (h:=?_));refine A3 rfl (fun ke kc=>?_) (fun ke kc=>?_)
 ·have h1:pid=1:=kc;refine Bj (h:=?_);refine AO (r:=D9 (K5 t pid)) none (h5:=?_) (h6:=⟨rfl,rfl,rfl⟩);rw[K5,if_neg (by simp[ym]),if_pos h1];exact Gi _
 have h1:¬pid=1:=kc;refine AG (H8 (h:=Bd (h:=CP (h:=Cz (h:=?_)))));refine MN 3 2 29 14 rfl rfl (by repeat constructor) (by repeat constructor) (by repeat constructor) ?_;refine BL (fun m s=>∃(j:Nat) (acc:List Prc),j<=t.ps.length/\m=t.ps.length - j/\((t.ps.take j).filter fun p=>decide (p.pid≠pid)).map (Kd pid)=acc/\acc.length<=j/\s=⟨look [(1, .v (.int .i64 pid)),(2, .bp 0 0),(4, .bp 1 0),(8, .bp 3 0),(9, .v (.int .i64 (j:Int)))],⟨[Ao t,Dq,Ar (AP t pid),Dr t (.sl 14 (acc.map Ar) (some 0))],[(29,14,acc.map Ar)]⟩⟩) (t.ps.length) ((wk 4 1)) (⟨0,[],BG _,rfl,rfl,As _,rfl⟩) ?_;rintro m s ⟨j,acc,hj,rfl,yl,hal,rfl⟩;refine Hz (h:=?_);refine A3 rfl (fun kh kf=>?_) (fun kh kf=>?_)
 ·obtain⟨hlt,x,hy,ya, -⟩:=Bx Ar kf;have hop:x.opens.length<=1000:=by have:=ht.opens x (Aj hy);omega
  have hk:=vW hy yl;refine Bq (h:=F8 (h:=E6 (h:=?_)));refine AK (QY x hop) ?_;refine CP (h:=?_);refine BD (fun s=>s=⟨look [(1, .v (.int .i64 pid)),(2, .bp 0 0),(4, .bp 1 0),(8, .bp 3 0),(9, .v (.int .i64 (j:Int))),(10, .bp 4 0)],⟨[Ao t,Dq,Ar (AP t pid),Dr t (.sl 14 (acc.map Ar) (some 0)),Ar (Kd pid x)],[(29,14,acc.map Ar)]⟩⟩) ?_ ?_
  ·refine F8 (h:=BO (h:=?_));refine A3 rfl (fun kl kg=>?_) (fun kl kg=>?_)
   ·have hpp:x.ppid=pid:=kg;refine Aq (Jf (h:=?_));refine⟨_,rfl,?_⟩;unfold Kd
    (rw[if_pos hpp];exact At 5 1 rfl rfl rfl rfl ((by repeat (first|exact Sub.nil|refine Aw rfl rfl ?_|refine B3 ?_|refine B4 rfl ?_|refine B5 rfl ?_))))
   have hpp:¬x.ppid=pid:=kg;refine Ci (AT (?_));refine⟨_,rfl,?_⟩;unfold Kd;rw[if_neg hpp];exact At 5 1 rfl rfl rfl rfl ((by repeat (first|exact Sub.nil|refine Aw rfl rfl ?_|refine B3 ?_|refine B4 rfl ?_|refine B5 rfl ?_)))
  rintro s rfl;have hop2:(Kd pid x).pid=x.pid:=by unfold Kd;split<;>rfl
  refine F8 (h:=D3 (h:=?_));refine A3 rfl (fun ko kk=>?_) (fun ko kk=>?_)
  ·have hpe:x.pid≠pid:=by rw[<-hop2];simpa using kk
   rw[if_pos hpe]at hk;refine Aq (Ac (h:=l_ (h:=BT (h:=?_))));refine A7 (G7 rfl rfl rfl (by simp;omega) (by repeat constructor) ?_);refine Cy (h:=Bu (FO (h:=?_)));exact⟨t.ps.length - (j+1),_,by omega,⟨j+1,acc++[Kd pid x],by omega,rfl,hk,by simp;omega,rfl⟩,(by rw[List.map_append];exact At 4 1 rfl rfl rfl rfl ((by repeat (first|exact Sub.nil|refine Aw rfl rfl ?_|refine B3 ?_|refine B4 rfl ?_|refine B5 rfl ?_))))⟩
  have hpe:¬x.pid≠pid:=by rw[<-hop2];simpa using kk
  rw[if_neg hpe]at hk;refine Dg (h:=?_);exact⟨t.ps.length - (j+1),_,by omega,⟨j+1,acc,by omega,rfl,hk,by omega,rfl⟩,At 4 1 rfl rfl rfl rfl ((by repeat (first|exact Sub.nil|refine Aw rfl rfl ?_|refine B3 ?_|refine B4 rfl ?_|refine B5 rfl ?_)))⟩
 have e:=CA Ar hj kf;subst e;rw[List.take_length]at yl;refine C4 (h:=Jp (h:=?_));refine AO (r:=D9 (K5 t pid)) none (h5:=?_) (h6:=⟨rfl,rfl,rfl⟩);rw[K5,if_neg (by simp[ym]),if_neg h1,yl];exact LeA.tup (.cons (LeA.agg (.cons (A6 _) (.cons (A6 _) (.cons (LeA.tok _ _ _) .nil)))) (.cons (A6 _) .nil))
theorem w9(t:Tab)(pid q:Int)(b:Bool)(ht:TabB t):AFn prog 214 [.agg (Ao t), .v (.int .i64 pid), .v (.int .i64 q), .v (.bool b)] (fun r=>r=D9 (Ji t pid q b)):=by
 refine enter Tryz.func214 rfl rfl rfl rfl rfl 0 rfl ?_;refine E5 (h:=Ay (h:=Fy (h:=?_)));refine AK (Kk t pid ht) ?_;refine HQ (h:=?_);refine A3 rfl (fun kd ka=>?_) (fun kd ka=>?_)
 ·have hno:Ca t pid=false:=by simpa using ka
  refine Bj (h:=?_);refine AO (r:=D9 (Ji t pid q b)) none (h5:=?_) (h6:=⟨rfl,rfl,rfl⟩);rw[Ji,if_pos hno];exact Gi _
 have ym:Ca t pid=true:=by simpa using ka
 refine AG (Fy (h:=?_));refine AK (Kk t q ht) ?_;refine HQ (h:=?_);refine A3 rfl (fun ke kc=>?_) (fun ke kc=>?_)
 ·have hno2:Ca t q=false:=by simpa using kc
  refine Bj (h:=?_);refine AO (r:=D9 (Ji t pid q b)) none (h5:=?_) (h6:=⟨rfl,rfl,rfl⟩);rw[Ji,if_neg (by simp[ym]),if_pos hno2];exact Gi _
 have hhas2:Ca t q=true:=by simpa using kc
 refine FA (h:=?_);refine BD (fun S=>S=⟨look [(2, .v (.int .i64 q)),(3, .v (.bool b)),(4, .bp 0 0),(8, .bp 1 0),(44, .v (.bool (decide (q=1\/(AP t pid).euid≠0/\(AP t pid).euid≠(AP t q).uid))))],⟨[Ao t,Dq],[]⟩⟩) ?_ ?_
 ·refine BU (h:=Dv (h:=?_));refine AF false rfl rfl (fun kh kf=>?_) (fun kh kf=>?_)
  ·refine Hu (h:=Gp (h:=Lu (h:=J0 (h:=?_))));exact⟨_,rfl,CL 2 0 rfl⟩
  refine CG (h:=m_ (h:=?_));refine AF true rfl rfl (fun kl kg=>?_) (fun kl kg=>?_)
  ·refine Ac (h:=CG (h:=Bm (h:=F9 (h:=?_))));exact⟨_,rfl,CL 2 0 rfl⟩
  refine BB (h:=DE (h:=F9 (h:=?_)));exact⟨_,rfl,CL 2 0 rfl⟩
 rintro S rfl;refine A3 rfl (fun ko kk=>?_) (fun ko kk=>?_)
 ·refine Bj (h:=?_);refine AO (r:=D9 (Ji t pid q b)) none (h5:=?_) (h6:=⟨rfl,rfl,rfl⟩);rw[Ji,if_neg (by simp[ym]),if_neg (by simp[hhas2]),if_pos (by first|assumption|simpa using ‹_›)];exact Gi _
 refine D5 (h:=e_ (?_));refine A3 rfl (fun kq km=>?_) (fun kq km=>?_)
 ·have hb:b=true:=km;refine Fy (h:=?_);refine AK (dR t q ht) ?_;refine LR (h:=s_ (h:=FN (h:=?_)));refine A4 ?_;rw[Ji,if_neg (by simp[ym]),if_neg (by simp[hhas2]),if_neg (by first|assumption|simpa using ‹_›),if_pos hb];rfl
 have hb:¬b=true:=by simpa using km
 refine AG (Bw (h:=?_));refine AK (Zm t ht) ?_;refine s_ (h:=BW (h:=?_));refine A4 ?_;rw[Ji,if_neg (by simp[ym]),if_neg (by simp[hhas2]),if_neg (by first|assumption|simpa using ‹_›),if_neg hb];rfl
theorem wA(t:Tab)(pid:Int)(ht:TabB t)(hn:Dk t):AFn prog 207 [.agg (Ao t), .v (.int .i64 pid)] (fun r=>r=Mg (Hg t pid)):=by
 have fa:=ht.few;have hn1:=hn.1;have hn2:=ht.next;have hpl:(t.ps.map Ar).length=t.ps.length:=List.length_map _;obtain⟨p,hp⟩:∃p:Prc,p={AP t pid with pid:=t.next,ppid:=pid}:=⟨_,rfl⟩;have yo:(t.ps++[p]).length=t.ps.length+1:=by simp
 obtain⟨tF,htF⟩:∃x:Tab,x=⟨t.next+1,t.nextS,t.ps++[p]⟩:=⟨_,rfl⟩;refine enter Tryz.func207 rfl rfl rfl rfl rfl 0 rfl ?_;refine E5 (h:=a_ (h:=Ay (h:=Fy (h:=?_))));refine AK (Kk t pid ht) ?_;refine HQ (h:=?_);refine A3 rfl (fun kd ka=>?_) (fun kd ka=>?_)
 ·have hno:Ca t pid=false:=by simpa using ka
  refine Fh (h:=?_);refine AO (r:=Mg (Hg t pid)) none (h5:=?_) (h6:=⟨rfl,rfl,rfl⟩);rw[Hg,if_pos hno];exact Qb _ _
 have ym:Ca t pid=true:=by simpa using ka
 refine DF (h:=n_ (h:=Dt (h:=m_ (h:=?_))));refine AF false rfl rfl (fun ke kc=>?_) (fun ke kc=>?_)
 ·refine EV (h:=Fh (h:=?_));refine AO (r:=Mg (Hg t pid)) none (h5:=?_) (h6:=⟨rfl,rfl,rfl⟩);rw[Hg,if_neg (by simp[ym]),if_pos (by first|assumption|omega)];exact Qb _ _
 refine D2 (h:=Cq (h:=?_));refine A3 rfl (fun kh kf=>?_) (fun kh kf=>?_)
 ·refine Fh (h:=?_);refine AO (r:=Mg (Hg t pid)) none (h5:=?_) (h6:=⟨rfl,rfl,rfl⟩);rw[Hg,if_neg (by simp[ym]),if_pos (by first|assumption|omega)];exact Qb _ _
 refine AG (?_);refine BD (fun s=>s=⟨look [(2, .bp 0 0),(4, .bp 1 0),(7, .bp 2 0)],⟨[Ao t,Dq,Ar p],[]⟩⟩) ?_ ?_
 ·refine Aq (Eu (h:=Cy (h:=Jf (h:=?_))));rw[hp];exact⟨_,rfl,At 3 0 rfl rfl rfl rfl ((by repeat (first|exact Sub.nil|refine Aw rfl rfl ?_|refine B3 ?_|refine B4 rfl ?_|refine B5 rfl ?_)))⟩
 rintro s rfl;refine BD (fun s=>∃cap,t.ps.length<=cap/\s=⟨look [(4, .bp 1 0),(7, .bp 2 0),(9, .bp 3 0)],⟨[Ao t,Dq,Ar p,Dr t (.bs 4 0 14 t.ps.length cap),LB 14 Ar t.ps cap],[]⟩⟩) ?_ ?_
 ·refine Aq (l_ (h:=?_));refine A7 (Bo [] rfl (.cons _ _ _ _ _ rfl (A6 _) .nil) (by decide) .nil (Zn t ht (NL ym)) ?_);rintro r bc tc ⟨rfl,cap,yk,rfl,rfl⟩;refine⟨rfl,_,(Zl (n:=3) rfl t cap:Back _ [] _ [_,_,_,_,_,_,_]),?_⟩;refine Lt (h:=FP (h:=?_));exact⟨_,⟨cap,yk,rfl⟩,JZ [0,1,2,7,6] (fun i hi=>absurd hi (Nat.not_lt_zero i)) (by decide) (.cons _ _ _ _ _ rfl rfl (.cons _ _ _ _ _ rfl rfl (.cons _ _ _ _ _ rfl rfl (.cons _ _ _ _ _ rfl rfl (.cons _ _ _ _ _ rfl (Me FX _ _ _) .nil))))) (by repeat (first|exact SubK.nil|refine SubK.cons _ _ _ _ rfl (A6 _) ?_))⟩
 rintro s ⟨cap,hcp,rfl⟩;refine B2 (h:=Ez (h:=Cg (h:=?_)));refine BD (fun s=>s=⟨look [(4, .bp 1 0),(7, .bp 2 0),(9, .bp 3 0)],⟨[Ao t,Dq,Ar p,Ao tF],[]⟩⟩) ?_ ?_
 ·refine Aq (Ac (h:=l_ (h:=BT (h:=?_))));refine A7 (OS rfl rfl rfl (by rw[SO FX hcp];omega) Ma (by omega) (by omega) ?_ ?_)
  ·rintro hg row2 bx2 hs hb;obtain rfl:=VS FX hs hg;obtain rfl:bx2=[_,_,_,_,_]:=hb.one.2;have hcpx:(t.ps++[p]).length<=cap:=by simpa using hg
   refine Jf (h:=?_);rw[htF];refine⟨_,rfl,?_⟩;rw[<-yo];exact Jm 4 1 rfl (congrArg (fun x=>[Ao t,Dq,Ar p,[.v (.int .i64 (t.next+1)), .v (.int .i64 t.nextS),x]]) (P4 (l:=t.ps++[p]) FX rfl rfl hcpx)) (.cons _ _ _ _ rfl (A6 _) (.cons _ _ _ _ rfl (A6 _) (.cons _ _ _ _ rfl (A6 _) .nil)))
  rintro hg cap3 k bx2 mz hs;rw[show((LB 14 Ar t.ps cap).drop 0).take (t.ps.length * 14)++Cf (.agg (Ar p))++List.replicate ((cap3 - (t.ps.length+1)) * 14) AV.any=LB 14 Ar (t.ps++[p]) cap3 from VR FX t.ps p cap cap3]at hs;obtain⟨rfl,rfl⟩:k=5/\bx2=[_,_,_,_,_,_]:=hs.eq;have hcpx:(t.ps++[p]).length<=cap3:=by simpa using mz
  refine Jf (h:=?_);rw[htF];refine⟨_,rfl,?_⟩;rw[<-yo];exact Jm 4 1 rfl (congrArg (fun x=>[Ao t,Dq,Ar p,[.v (.int .i64 (t.next+1)), .v (.int .i64 t.nextS),x]]) (P4 (l:=t.ps++[p]) FX rfl rfl hcpx)) (.cons _ _ _ _ rfl (A6 _) (.cons _ _ _ _ rfl (A6 _) (.cons _ _ _ _ rfl (A6 _) .nil)))
 rintro s rfl;refine q_ (BJ ([(0,Ao t),(2,Ar p),(3,Ao tF)]) 6 (h:=A9 0 (h:=AA 1 (h:=A9 2 (h:=?_)))));refine Ax 3 (h:=B8 4 (h:=B8 5 (h:=z_ (h:=t_ (BH (?_))))));refine A4 ?_;rw[Hg,if_neg (by simp[ym]),if_neg (by first|assumption|omega),<-hp,<-htF];rw[hp];rfl
end
section
theorem Sr(w:Wrk)(cap:Nat)(f:Fnd)(hv:SpcV w.s.spc)(hm:w.s.spc.mounts.length<=1000)(htb:TabB w.s.tab)(hf:w.found[0]?=some f):ACall prog 150 [.bp 0 0] [WA w cap,IB w cap] (fun r b t=>t=[]/\r= .v (.int .i64 (EC w).2)/\b=[WA (EC w).1 cap,IB (EC w).1 cap]):=by
 have hsb:=hv.b hm;have mj:(w.found.map Ah)[0]?=some (Ah f):=by rw[List.getElem?_map,hf];rfl
 have hfn:Av w 0=f:=by unfold Av;rw[hf];rfl
 have hre:EC w=if f.ex=false then(w,2)else if w.c.num=1 then(if AU w.s.spc.files f.file=true\/CU w f.file 1=false then(w,13)else CV w (Lf w.s.tab w.p.pid f.path f.name))else if w.c.num=16 then(if AU w.s.spc.files f.file=false then(w,20)else if CU w f.file 1=false then(w,13)else CV w (Le w.s.tab w.p.pid f.file))else if w.c.num=17 then(if AU w.s.spc.files f.file=false then(w,20)else M9 w (Eo w.s.spc w.c.a0 f.file))else if AU w.s.spc.files f.file=true then(w,21)else if CU w f.file 2=false then(w,13)else(w,0):=by
  unfold EC LF;rw[hfn]
 obtain⟨T1,hT1⟩:∃T,T=Lf w.s.tab w.p.pid f.path f.name:=⟨_,rfl⟩;obtain⟨T2,hT2⟩:∃T,T=Le w.s.tab w.p.pid f.file:=⟨_,rfl⟩;obtain⟨R,hR⟩:∃R,R=Eo w.s.spc w.c.a0 f.file:=⟨_,rfl⟩;have hexec:AFn prog 205 [.agg (Ao w.s.tab), .v (.int .i64 w.p.pid), .v (.string f.path), .v (.string f.name)] (fun r=>r=D9 T1):=by rw[hT1];exact vY _ _ _ _ htb
 have hchd:AFn prog 206 [.agg (Ao w.s.tab), .v (.int .i64 w.p.pid), .agg (AB f.file)] (fun r=>r=D9 T2):=by rw[hT2];exact vX _ _ _ htb
 have pm:AFn prog 76 [.agg (AQ w.s.spc), .v (.int .i64 w.c.a0), .agg (AB f.file)] (fun r=>r=J7 R):=by rw[hR];exact mG _ _ _ hsb
 rw[<-hT1,<-hT2,<-hR]at hre;clear hT1 hT2 hR;refine enter Tryz.func150 rfl rfl rfl rfl rfl 2 rfl ?_;refine FB (h:=k_ (h:=Ac (h:=?_)));refine A7 (DM (n:=0) rfl rfl rfl mj ?_);refine l_ (h:=CP (h:=Fu (h:=CY (h:=?_))));refine A3 rfl (fun kd ka=>?_) (fun kd ka=>?_)
 ·have k1:f.ex=false:=by simpa using ka
  refine BC (h:=?_);refine BV (r:= .v (.int .i64 (EC w).2)) none (h5:=(by rw[hre,if_pos k1];exact A6 _)) (h6:=⟨rfl,rfl,?_⟩);rw[hre,if_pos k1];rfl
 have k1:¬f.ex=false:=by simpa using ka
 refine D5 (h:=Dw (h:=e_ (BF (Az (h:=?_)))));refine A3 rfl (fun ke kc=>?_) (fun ke kc=>?_)
 ·have k2:w.c.num=1:=kc;refine q_ (?_);refine BD (fun S=>S=⟨look [(0, .bp 0 0),(3, .bp 2 0),(30, .v (.bool (AU w.s.spc.files f.file|| !CU w f.file 1)))],⟨[WA w cap,IB w cap,Ah f],[]⟩⟩) ?_ ?_
  ·refine BU (h:=?_);refine A7 (DX 1 rfl (.cons _ _ _ _ _ rfl (LeA.of_eq rfl) (.cons _ _ _ _ _ rfl (A6 _) .nil)) (NN w .any 0 f hsb hf) ?_);rintro r rfl;refine⟨rfl,?_⟩;refine m_ (h:=?_);refine AF false rfl rfl (fun kh kf=>?_) (fun kh kf=>?_)
   ·refine BB (h:=JG (h:=?_));exact⟨_,rfl,CL 3 0 (by simp[Am,Af,Aa,C7 B9,BN,WA,IB,DA,Ah,Al,AB,Ao,AQ,Ap])⟩
   refine m_ (h:=Ac (h:=?_));refine Ak (DX 1 rfl (.cons _ _ _ _ _ rfl (LeA.of_eq rfl) (.cons _ _ _ _ _ rfl (A6 _) (.cons _ _ _ _ _ rfl (A6 _) .nil))) (Li w .any f.file 1 hsb) ?_);rintro r rfl;refine⟨rfl,?_⟩;refine D1 (h:=F9 (h:=?_));exact⟨_,rfl,CL 3 0 (by simp[Am,Af,Aa,C7 B9,BN,WA,IB,DA,Ah,Al,AB,Ao,AQ,Ap])⟩
  rintro S rfl;refine A3 rfl (fun kl kg=>?_) (fun kl kg=>?_)
  ·have k5:AU w.s.spc.files f.file=true\/CU w f.file 1=false:=by simpa using kg
   refine BC (h:=DG (h:=?_));refine BV (r:= .v (.int .i64 (EC w).2)) none (h5:=(by rw[hre,if_neg k1,if_pos k2,if_pos k5];exact A6 _)) (h6:=⟨rfl,rfl,?_⟩);rw[hre,if_neg k1,if_pos k2,if_pos k5];rfl
  have k5:¬(AU w.s.spc.files f.file=true\/CU w f.file 1=false):=by simpa using kg
  refine AG (q_ (BJ ([(0,WA w cap),(1,IB w cap),(2,Ah f)]) 18 (h:=AE 0 (h:=AE 1 (h:=BA 2 (h:=AA 3 (h:=AA 4 (h:=A9 5 (h:=AE 6 (h:=BA 7 (h:=AA 8 (h:=AA 9 (h:=A9 10 (h:=AA 11 (h:=A9 12 (h:=AA 13 (h:=A9 14 (h:=?_))))))))))))))))));refine c_ 15 rfl (AX (hexec) ?_);rintro r rfl;refine o_ (h:=B6 16 (h:=B6 17 (h:=?_)));refine c_ 18 rfl (Bo [0,1] rfl (.cons _ _ _ _ _ rfl (A6 _) (.cons _ _ _ _ _ rfl (A6 _) (.cons _ _ _ _ _ rfl (A6 _) .nil))) (by decide) (.cons _ _ _ _ _ rfl rfl (.cons _ _ _ _ _ rfl (Dp B9 _ _ _) .nil)) (Ve w cap T1.1 T1.2) ?_);rintro r bc tc ⟨rfl,rfl,rfl⟩;refine⟨rfl,_,EO rfl ((CV w T1).1) cap,?_⟩;refine o_ (h:=c_ 19 rfl (JU rfl ?_));refine J1 (h:=t_ (BH (DG (h:=?_))));refine BV (r:= .v (.int .i64 (EC w).2)) none (h5:=(by rw[hre,if_neg k1,if_pos k2,if_neg k5,MC];exact A6 _)) (h6:=⟨rfl,rfl,?_⟩);rw[hre,if_neg k1,if_pos k2,if_neg k5];rfl
 have k2:¬w.c.num=1:=kc;refine Az (h:=?_);refine A3 rfl (fun ko kk=>?_) (fun ko kk=>?_)
 ·have k3:w.c.num=16:=kk;refine Be (h:=?_);refine A7 (DX 1 rfl (.cons _ _ _ _ _ rfl (LeA.of_eq rfl) (.cons _ _ _ _ _ rfl (A6 _) .nil)) (NN w .any 0 f hsb hf) ?_);rintro r rfl;refine⟨rfl,?_⟩;refine CY (h:=?_);refine A3 rfl (fun kq km=>?_) (fun kq km=>?_)
  ·have k5:AU w.s.spc.files f.file=false:=by simpa using km
   refine BC (h:=DG (h:=?_));refine BV (r:= .v (.int .i64 (EC w).2)) none (h5:=(by rw[hre,if_neg k1,if_neg k2,if_pos k3,if_pos k5];exact A6 _)) (h6:=⟨rfl,rfl,?_⟩);rw[hre,if_neg k1,if_neg k2,if_pos k3,if_pos k5];rfl
  have k5:¬AU w.s.spc.files f.file=false:=by simpa using km
  refine D5 (h:=Ac (h:=?_));refine A7 (DX 1 rfl (.cons _ _ _ _ _ rfl (LeA.of_eq rfl) (.cons _ _ _ _ _ rfl (A6 _) (.cons _ _ _ _ _ rfl (A6 _) .nil))) (Li w .any f.file 1 hsb) ?_);rintro r rfl;refine⟨rfl,?_⟩;refine CY (h:=?_);refine A3 rfl (fun ks kp=>?_) (fun ks kp=>?_)
  ·have k6:CU w f.file 1=false:=by simpa using kp
   refine BC (h:=DG (h:=?_));refine BV (r:= .v (.int .i64 (EC w).2)) none (h5:=(by rw[hre,if_neg k1,if_neg k2,if_pos k3,if_neg k5,if_pos k6];exact A6 _)) (h6:=⟨rfl,rfl,?_⟩);rw[hre,if_neg k1,if_neg k2,if_pos k3,if_neg k5,if_pos k6];rfl
  have k6:¬CU w f.file 1=false:=by simpa using kp
  refine AG (q_ (BJ ([(0,WA w cap),(1,IB w cap),(2,Ah f)]) 16 (h:=AE 0 (h:=AE 1 (h:=BA 2 (h:=AA 3 (h:=AA 4 (h:=A9 5 (h:=AE 6 (h:=BA 7 (h:=AA 8 (h:=AA 9 (h:=A9 10 (h:=AA 11 (h:=A9 12 (h:=?_))))))))))))))));refine c_ 13 rfl (AX (hchd) ?_);rintro r rfl;refine o_ (h:=B6 14 (h:=B6 15 (h:=?_)));refine c_ 16 rfl (Bo [0,1] rfl (.cons _ _ _ _ _ rfl (A6 _) (.cons _ _ _ _ _ rfl (A6 _) (.cons _ _ _ _ _ rfl (A6 _) .nil))) (by decide) (.cons _ _ _ _ _ rfl rfl (.cons _ _ _ _ _ rfl (Dp B9 _ _ _) .nil)) (Ve w cap T2.1 T2.2) ?_);rintro r bc tc ⟨rfl,rfl,rfl⟩;refine⟨rfl,_,EO rfl ((CV w T2).1) cap,?_⟩;refine o_ (h:=c_ 17 rfl (JU rfl ?_));refine J1 (h:=t_ (BH (DG (h:=?_))));refine BV (r:= .v (.int .i64 (EC w).2)) none (h5:=(by rw[hre,if_neg k1,if_neg k2,if_pos k3,if_neg k5,if_neg k6,MC];exact A6 _)) (h6:=⟨rfl,rfl,?_⟩);rw[hre,if_neg k1,if_neg k2,if_pos k3,if_neg k5,if_neg k6];rfl
 have k3:¬w.c.num=16:=kk;refine Az (h:=?_);refine A3 rfl (fun kt kr=>?_) (fun kt kr=>?_)
 ·have k4:w.c.num=17:=kr;refine Be (h:=?_);refine A7 (DX 1 rfl (.cons _ _ _ _ _ rfl (LeA.of_eq rfl) (.cons _ _ _ _ _ rfl (A6 _) .nil)) (NN w .any 0 f hsb hf) ?_);rintro r rfl;refine⟨rfl,?_⟩;refine CY (h:=?_);refine A3 rfl (fun kv ku=>?_) (fun kv ku=>?_)
  ·have k5:AU w.s.spc.files f.file=false:=by simpa using ku
   refine BC (h:=DG (h:=?_));refine BV (r:= .v (.int .i64 (EC w).2)) none (h5:=(by rw[hre,if_neg k1,if_neg k2,if_neg k3,if_pos k4,if_pos k5];exact A6 _)) (h6:=⟨rfl,rfl,?_⟩);rw[hre,if_neg k1,if_neg k2,if_neg k3,if_pos k4,if_pos k5];rfl
  have k5:¬AU w.s.spc.files f.file=false:=by simpa using ku
  refine AG (?_);refine BD (fun S=>S=⟨look [(0, .bp 0 0),(4, .bp 3 0),(5, .v (.int .i64 R.2))],⟨[WA w cap,IB w cap,Ah f,AQ R.1],[]⟩⟩) ?_ ?_
  ·refine BJ ([(0,WA w cap),(1,IB w cap),(2,Ah f)]) 20 (h:=AE 0 (h:=BA 1 (h:=AA 2 (h:=AA 3 (h:=A9 4 (h:=AE 5 (h:=BA 6 (h:=AA 7 (h:=AA 8 (h:=?_))))))))));refine CE 9 rfl (fun _ hS=>CX (len:=4) (sz:=1) (n:=0) (by kernel_rfl) rfl rfl rfl rfl ⟨rfl,rfl⟩) ?_;refine A9 10 (h:=AA 11 (h:=A9 12 (h:=?_)));refine Ed 13 17 rfl rfl ?_ ?_
   ·refine AX (pm) ?_;rintro r rfl;refine o_ (h:=AE 14 (h:=B6 15 (h:=B6 16 (h:=?_))));refine c_ 17 rfl (Bn (by repeat constructor) ?_);refine o_ (h:=Ax 18 (h:=B8 19 (h:=z_ (h:=?_))));refine AT ?_;exact⟨_,rfl,Ds 4 0⟩
   refine Bn (by repeat constructor) ?_;refine o_ (h:=c_ 13 rfl (AX (pm) ?_));rintro r rfl;refine o_ (h:=AE 14 (h:=B6 15 (h:=B6 16 (h:=?_))));refine Ax 18 (h:=B8 19 (h:=z_ (h:=?_)));refine AT ?_;exact⟨_,rfl,Ds 4 0⟩
  rintro S rfl;refine Be (h:=BO (h:=?_));refine A3 rfl (fun yf yb=>?_) (fun yf yb=>?_)
  ·have h0:R.2=0:=yb;refine BU (h:=l_ (h:=J3 (h:=Cg (h:=Ab (h:=BE (h:=?_))))));refine BV (r:= .v (.int .i64 (EC w).2)) none (h5:=(by rw[hre,if_neg k1,if_neg k2,if_neg k3,if_pos k4,if_neg k5,M9,if_pos h0];exact LeA.of_eq (vi h0))) (h6:=⟨rfl,rfl,?_⟩);rw[hre,if_neg k1,if_neg k2,if_neg k3,if_pos k4,if_neg k5,M9,if_pos h0];rfl
  have h0:¬R.2=0:=yb;refine Ei (h:=BE (h:=?_));refine BV (r:= .v (.int .i64 (EC w).2)) none (h5:=(by rw[hre,if_neg k1,if_neg k2,if_neg k3,if_pos k4,if_neg k5,M9,if_neg h0];exact A6 _)) (h6:=⟨rfl,rfl,?_⟩);rw[hre,if_neg k1,if_neg k2,if_neg k3,if_pos k4,if_neg k5,M9,if_neg h0];rfl
 have k4:¬w.c.num=17:=kr;refine Ej (h:=Be (h:=?_));refine A7 (DX 1 rfl (.cons _ _ _ _ _ rfl (LeA.of_eq rfl) (.cons _ _ _ _ _ rfl (A6 _) .nil)) (NN w .any 0 f hsb hf) ?_);rintro r rfl;refine⟨rfl,?_⟩;refine e_ (?_);refine A3 rfl (fun yq yc=>?_) (fun yq yc=>?_)
 ·have k5:AU w.s.spc.files f.file=true:=yc;refine BC (h:=?_);refine BV (r:= .v (.int .i64 (EC w).2)) none (h5:=(by rw[hre,if_neg k1,if_neg k2,if_neg k3,if_neg k4,if_pos k5];exact A6 _)) (h6:=⟨rfl,rfl,?_⟩);rw[hre,if_neg k1,if_neg k2,if_neg k3,if_neg k4,if_pos k5];rfl
 have k5:¬AU w.s.spc.files f.file=true:=by simpa using yc
 refine D5 (h:=Ac (h:=?_));refine A7 (DX 1 rfl (.cons _ _ _ _ _ rfl (LeA.of_eq rfl) (.cons _ _ _ _ _ rfl (A6 _) (.cons _ _ _ _ _ rfl (A6 _) .nil))) (Li w .any f.file 2 hsb) ?_);rintro r rfl;refine⟨rfl,?_⟩;refine CY (h:=?_);refine A3 rfl (fun yu yg=>?_) (fun yu yg=>?_)
 ·have k6:CU w f.file 2=false:=by simpa using yg
  refine BC (h:=?_);refine BV (r:= .v (.int .i64 (EC w).2)) none (h5:=(by rw[hre,if_neg k1,if_neg k2,if_neg k3,if_neg k4,if_neg k5,if_pos k6];exact A6 _)) (h6:=⟨rfl,rfl,?_⟩);rw[hre,if_neg k1,if_neg k2,if_neg k3,if_neg k4,if_neg k5,if_pos k6];rfl
 have k6:¬CU w f.file 2=false:=by simpa using yg
 refine AG (KT (h:=?_));refine BV (r:= .v (.int .i64 (EC w).2)) none (h5:=(by rw[hre,if_neg k1,if_neg k2,if_neg k3,if_neg k4,if_neg k5,if_neg k6];exact A6 _)) (h6:=⟨rfl,rfl,?_⟩);rw[hre,if_neg k1,if_neg k2,if_neg k3,if_neg k4,if_neg k5,if_neg k6];rfl
theorem dS(w:Wrk)(cap:Nat)(f:Fnd)(x:Itm)(hv:SpcV w.s.spc)(hm:w.s.spc.mounts.length<=1000)(hf:w.found[0]?=some f)(hx:w.r.items[0]?=some x)(hn:f.name.size<=100000)(h9:w.c.num=9->0<w.c.args.length)(hsz:∀p∈w.c.args,p.size<=1000):ACall prog 151 [.bp 0 0] [WA w cap,IB w cap] (fun r b t=>t=[]/\r= .v (.int .i64 (H3 w).2)/\b=[WA (H3 w).1 cap,IB (H3 w).1 cap]):=by
 have hsb:=hv.b hm;have mj:(w.found.map Ah)[0]?=some (Ah f):=by rw[List.getElem?_map,hf];rfl
 have hfn:Av w 0=f:=by unfold Av;rw[hf];rfl
 have hpl:H3 w=if f.ex=true then(w,17)else if f.slash=true/\w.c.num=9 then(w,2)else if CU w f.dir 2=false then(w,13)else if w.c.num=9 then DK w 0 (Oz (LE w.c))else DK w 0 (QW w.c.a0):=by
  unfold H3;rw[hfn]
 refine enter Tryz.func151 rfl rfl rfl rfl rfl 2 rfl ?_;refine FB (h:=k_ (h:=Ac (h:=?_)));refine A7 (DM (n:=0) rfl rfl rfl mj ?_);refine l_ (h:=CP (h:=q_ (BF (B2 (h:=Ay (h:=?_))))));refine A3 rfl (fun kd ka=>?_) (fun kd ka=>?_)
 ·have k1:f.ex=true:=ka;refine BR (h:=?_);refine BV (r:= .v (.int .i64 (H3 w).2)) none (h5:=(by rw[hpl,if_pos k1];exact A6 _)) (h6:=⟨rfl,rfl,?_⟩);rw[hpl,if_pos k1];rfl
 have k1:¬f.ex=true:=by simpa using ka
 refine BD (fun S=>S=⟨look [(0, .bp 0 0),(3, .bp 2 0),(13, .v (.bool (f.slash&&decide (w.c.num=9))))],⟨[WA w cap,IB w cap,Ah f],[]⟩⟩) ?_ ?_
 ·refine Aq (Eu (h:=?_));refine AF true rfl rfl (fun ke kc=>?_) (fun ke kc=>?_)
  ·refine m_ (h:=Dw (h:=Df (h:=Bm (h:=D4 (h:=?_)))));exact⟨_,rfl,CL 3 0 (by simp[Am,Af,Aa,C7 B9,BN,WA,IB,DA,Ah,Al,AB,Ao,AQ,Ap])⟩
  refine Jo (h:=C3 (h:=D4 (h:=?_)));exact⟨_,rfl,CL 3 0 (by simp[Am,Af,Aa,C7 B9,BN,WA,IB,DA,Ah,Al,AB,Ao,AQ,Ap])⟩
 rintro S rfl;refine A3 rfl (fun kh kf=>?_) (fun kh kf=>?_)
 ·have k2:f.slash=true/\w.c.num=9:=by simpa using kf
  refine BR (h:=?_);refine BV (r:= .v (.int .i64 (H3 w).2)) none (h5:=(by rw[hpl,if_neg k1,if_pos k2];exact A6 _)) (h6:=⟨rfl,rfl,?_⟩);rw[hpl,if_neg k1,if_pos k2];rfl
 have k2:¬(f.slash=true/\w.c.num=9):=by simpa using kf
 refine Ab (h:=Ac (h:=?_));refine A7 (DX 1 rfl (.cons _ _ _ _ _ rfl (LeA.of_eq rfl) (.cons _ _ _ _ _ rfl (A6 _) (.cons _ _ _ _ _ rfl (A6 _) .nil))) (Li w .any f.dir 2 hsb) ?_);rintro r rfl;refine⟨rfl,?_⟩;refine D1 (h:=Ay (h:=?_));refine A3 rfl (fun kl kg=>?_) (fun kl kg=>?_)
 ·have k3:CU w f.dir 2=false:=by simpa using kg
  refine BR (h:=?_);refine BV (r:= .v (.int .i64 (H3 w).2)) none (h5:=(by rw[hpl,if_neg k1,if_neg k2,if_pos k3];exact A6 _)) (h6:=⟨rfl,rfl,?_⟩);rw[hpl,if_neg k1,if_neg k2,if_pos k3];rfl
 have k3:¬CU w f.dir 2=false:=by simpa using kg
 refine Ej (h:=Be (h:=Dw (h:=BO (h:=?_))));refine A3 rfl (fun ko kk=>?_) (fun ko kk=>?_)
 ·have k4:w.c.num=9:=kk;obtain⟨a0,ha0⟩:∃a,w.c.args[0]?=some a:=⟨_,B7 (h9 kk)⟩;have pw:(w.c.args.map DV)[0]?=some (DV a0):=by rw[List.getElem?_map,ha0];rfl
  have hag:LE w.c=a0:=by unfold LE;rw[List.headD_eq_head?_getD,List.head?_eq_getElem?,ha0];rfl
  have hsa:(Oz a0).target.size<=100000:=by have:=hsz a0 (Aj ha0);show a0.size<=100000;omega
  refine Eh (h:=Dw (h:=?_));refine A7 (DM (n:=0) rfl rfl rfl pw ?_);refine l_ (h:=?_);refine A7 (Hr (y:= .agg (Al (Oz a0))) (E3 ⟨rfl,rfl⟩) ?_);refine A7 (Bo [0,1] rfl (.cons _ _ _ _ _ rfl (A6 _) (.cons _ _ _ _ _ rfl (A6 _) (.cons _ _ _ _ _ rfl (A6 _) .nil))) (by decide) (.cons _ _ _ _ _ rfl rfl (.cons _ _ _ _ _ rfl (Dp B9 _ _ _) .nil)) (Vg w cap 0 (Oz a0) f x hv.files hf hx hn hsa rfl) ?_);rintro r bc tc ⟨rfl,rfl,rfl⟩;refine⟨rfl,_,EO rfl ((DK w 0 (Oz a0)).1) cap,?_⟩;refine FN (h:=?_);refine BV (r:= .v (.int .i64 (H3 w).2)) none (h5:=(by rw[hpl,if_neg k1,if_neg k2,if_neg k3,if_pos k4,hag];exact A6 _)) (h6:=⟨rfl,rfl,?_⟩);rw[hpl,if_neg k1,if_neg k2,if_neg k3,if_pos k4,hag];rfl
 have k4:¬w.c.num=9:=kk;refine AG (Eh (h:=J3 (h:=f_ (h:=?_))));refine A7 (CX (len:=4) (sz:=1) (n:=0) (by kernel_rfl) rfl rfl rfl rfl ?_);refine l_ (h:=?_);refine A7 (Hr (y:= .agg (Al (QW w.c.a0))) (E3 ⟨rfl,rfl⟩) ?_);refine A7 (Bo [0,1] rfl (.cons _ _ _ _ _ rfl (A6 _) (.cons _ _ _ _ _ rfl (A6 _) (.cons _ _ _ _ _ rfl (A6 _) .nil))) (by decide) (.cons _ _ _ _ _ rfl rfl (.cons _ _ _ _ _ rfl (Dp B9 _ _ _) .nil)) (Vg w cap 0 (QW w.c.a0) f x hv.files hf hx hn (BG _) rfl) ?_);rintro r bc tc ⟨rfl,rfl,rfl⟩;refine⟨rfl,_,EO rfl ((DK w 0 (QW w.c.a0)).1) cap,?_⟩;refine BW (h:=?_);refine BV (r:= .v (.int .i64 (H3 w).2)) none (h5:=(by rw[hpl,if_neg k1,if_neg k2,if_neg k3,if_neg k4];exact A6 _)) (h6:=⟨rfl,rfl,?_⟩);rw[hpl,if_neg k1,if_neg k2,if_neg k3,if_neg k4];rfl
end
section
variable {P:Program}{ev:Operand->Option AV}{h:AH}{R:AV->AH->Prop}{d:Option Tmp}{ty:TypeId}{pos:String}{af:Array Edge}{gd:Option (Nat×Bool)}
theorem wB{T:TypeId}{s y:Operand}{T' sz bytes:Nat}[hE:Elm P T T' sz bytes](hs:ev s=some (.v (.slice none 0 0)))(hy:ev y=some (.v (.slice none 0 0)))(hR:R (.v (.slice none 0 0)) h):AStep P ⟨d, .call {callee:= .builtin .append,args:=#[s,y],argTypes:=#[T,T]},ty,pos,af,gd⟩ ev h R:=by
 intro E G w ec hr he;have k1:=he s (by simp[Op.operands,Call.operands]) _ hs;have k2:=he y (by simp[Op.operands,Call.operands]) _ hy;obtain⟨hu,inf,z,hinf,hz,hzs,hsz,hbts,hp⟩:=Gl hE.eq;simp only[rep]at k1 k2
 have hrun:(Builtin.append_ #[T,T] ty #[.slice none 0 0, .slice none 0 0]).run P w= .ok (.slice none 0 0) w:=by
  simp[Builtin.append_,run_underlying hu,sizeOf,typeInfo,hinf,Builtin.lenOf,Builtin.firstCells,storeCells]
 simp only[execOp,resolve,invoke,builtin,Sem.run_bind,Sem.run_pure,Result.andThen_ok,List.map_toArray,List.map_cons,List.map_nil,k1,k2,hrun];exact⟨_,_,G,hR,hr,Ext.refl _ _,by simp only[rep]⟩
end
def WN(w:Wrk):List AV:=Dn w (.v (.slice none 0 0)) (.v (.slice none 0 0))
theorem MF{a:List AV}{rest:List (List AV)}(w:Wrk):Back (a::rest) [0] [WN w] (WN w::rest):=by
 have:=QX (bx:=a::rest) (is:=[0]) (bc:=[WN w]) (by simp) (by simp) (by simp);have e1:ES (FM [0] (a::rest).length) (WN w)=WN w:=rfl
 have hb:ED (a::rest) (FM [0] (a::rest).length) [0] [WN w]=WN w::rest:=by
  unfold ED;rw[e1];simp[ED]
 rw[hb]at this;exact this
def DC(c:Cal):List AV:=[.v (.int .i64 c.a0), .v (.int .i64 c.a1), .v (.int .i64 c.a2), .v (.int .i64 c.a3)]
theorem wC{t:Tab}{dev:Int}(h:∀i y,i<t.ps.length->t.ps[i]?=some y->(decide (y.cwd.1=dev)||y.opens.any fun d=>decide (d.file.1=dev))=false):P0 t dev=false:=Oe h
section
theorem OD(w:Wrk)(t:Tab)(e:Int):ACall prog 200 [.bp 0 0, .agg (Ao t), .v (.int .i64 e)] [WN w] (fun r b tk=>tk=[]/\r= .v (.int .i64 e)/\b=[WN (CV w (t,e)).1]):=by
 refine enter Tryz.func200 rfl rfl rfl rfl rfl 1 rfl ?_;refine Ee (h:=Du (h:=BO (h:=?_)));refine A3 rfl (fun kd ka=>?_) (fun kd ka=>?_)
 ·refine BU (h:=l_ (h:=J3 (h:=Cg (h:=EW (h:=?_)))));refine AO (r:= .v (.int .i64 e)) none (h4:=(by simp[Am,Af,Aa,BN,WN,DC,Ao,Ar,AQ])) (h5:=(A6 _)) (h6:=⟨rfl,rfl,?_⟩);rw[CV,if_pos ka];rfl
 refine AG (EW (h:=?_));refine AO (r:= .v (.int .i64 e)) none (h4:=(by simp[Am,Af,Aa,BN,WN,DC,Ao,Ar,AQ])) (h5:=(A6 _)) (h6:=⟨rfl,rfl,?_⟩);rw[CV,if_neg ka];rfl
theorem wD(w:Wrk)(hs:SpcB w.s.spc)(htb:TabB w.s.tab):ACall prog 213 [.bp 0 0] [WN w] (fun r b t=>t=[]/\r= .v (.int .i64 (J9 w).2)/\b=[WN (J9 w).1]):=by
 have fa:=htb.few;obtain⟨R,hR⟩:∃R,R=JM w.s.spc w.c.a0:=⟨_,rfl⟩;have hrem:AFn prog 253 [.agg (AQ w.s.spc), .v (.int .i64 w.c.a0)] (fun r=>r=J7 R):=by rw[hR];exact mH _ _ hs
 have hum:J9 w=if w.p.euid≠0 then(w,1)else if w.c.a0=0\/CR w.s.spc w.c.a0=false then(w,22)else if P0 w.s.tab w.c.a0=true then(w,16)else MA w R:=by
  unfold J9;rw[<-hR]
 clear hR;refine enter Tryz.func213 rfl rfl rfl rfl rfl 1 rfl ?_;refine FB (h:=J3 (h:=f_ (h:=?_)));refine A7 (CX (len:=4) (sz:=1) (n:=0) (by kernel_rfl) rfl rfl rfl rfl ?_);refine l_ (h:=Du (h:=Dw (h:=D3 (h:=?_))));refine A3 rfl (fun kd ka=>?_) (fun kd ka=>?_)
 ·have k1:w.p.euid≠0:=by simpa using ka
  refine BC (h:=?_);refine AO (r:= .v (.int .i64 (J9 w).2)) none (h4:=(by simp[Am,Af,Aa,BN,WN,DC,Ao,Ar,AQ])) (h5:=(by rw[hum,if_pos k1];exact A6 _)) (h6:=⟨rfl,rfl,?_⟩);rw[hum,if_pos k1];rfl
 have k1:¬w.p.euid≠0:=by simpa using ka
 refine FA (h:=?_);refine BD (fun S=>S=⟨look [(0, .bp 0 0),(3, .v (.int .i64 w.c.a0)),(32, .v (.bool (decide (w.c.a0=0)|| !CR w.s.spc w.c.a0)))],⟨[WN w],[]⟩⟩) ?_ ?_
 ·refine BU (h:=Dv (h:=?_));refine AF false rfl rfl (fun ke kc=>?_) (fun ke kc=>?_)
  ·refine CO (h:=GB (h:=FP (h:=?_)));exact⟨_,rfl,CL 1 0 (by simp[Am,Af,Aa,BN,WN,DC,Ao,Ar,AQ])⟩
  refine m_ (h:=Dw (h:=m_ (h:=?_)));refine Ak (AX (Pi w.s.spc w.c.a0 hs) ?_);rintro r rfl;refine D1 (h:=F9 (h:=?_));exact⟨_,rfl,CL 1 0 (by simp[Am,Af,Aa,BN,WN,DC,Ao,Ar,AQ])⟩
 rintro S rfl;refine A3 rfl (fun kh kf=>?_) (fun kh kf=>?_)
 ·have k2:w.c.a0=0\/CR w.s.spc w.c.a0=false:=by simpa using kf
  refine BC (h:=?_);refine AO (r:= .v (.int .i64 (J9 w).2)) none (h4:=(by simp[Am,Af,Aa,BN,WN,DC,Ao,Ar,AQ])) (h5:=(by rw[hum,if_neg k1,if_pos k2];exact A6 _)) (h6:=⟨rfl,rfl,?_⟩);rw[hum,if_neg k1,if_pos k2];rfl
 have k2:¬(w.c.a0=0\/CR w.s.spc w.c.a0=false):=by simpa using kf
 refine AG (Cz (h:=?_));refine BL (fun m S=>∃j:Nat,j<=w.s.tab.ps.length/\m=w.s.tab.ps.length - j/\(∀i y,i<j->w.s.tab.ps[i]?=some y->(decide (y.cwd.1=w.c.a0)||y.opens.any fun d=>decide (d.file.1=w.c.a0))=false)/\S=⟨look [(0, .bp 0 0),(3, .v (.int .i64 w.c.a0)),(4, .v (.int .i64 (j:Int)))],⟨[WN w],[]⟩⟩) (w.s.tab.ps.length) (CF 1 0 (by simp[Am,Af,Aa,BN,WN,DC,Ao,Ar,AQ])) (⟨0,BG _,rfl,fun i y hi=>by omega,rfl⟩) ?_;rintro m S ⟨j,hj,rfl,ha,rfl⟩;refine EH (h:=J3 (h:=E4 (h:=JD (h:=?_))));refine A3 rfl (fun kl kg=>?_) (fun kl kg=>?_)
 ·obtain⟨hlt,p,hy,ya, -⟩:=Bx Ar kg;have hop:=htb.opens p (Aj hy);have hpl:(p.opens.map Hj).length=p.opens.length:=List.length_map _;refine Bq (h:=Ab (h:=J3 (h:=E4 (h:=m_ (h:=E6 (h:=CP (h:=q_ (w_ (E4 (h:=m_ (h:=BO (h:=?_))))))))))));refine A3 rfl (fun ko kk=>?_) (fun ko kk=>?_)
  ·have hbz:P0 w.s.tab w.c.a0=true:=Nt hy (by simp[kk]);refine BC (h:=DG (h:=C1 (h:=?_)));refine AO (r:= .v (.int .i64 (J9 w).2)) none (h4:=(by simp[Am,Af,Aa,BN,WN,DC,Ao,Ar,AQ])) (h5:=(by rw[hum,if_neg k1,if_neg k2,if_pos hbz];exact A6 _)) (h6:=⟨rfl,rfl,?_⟩);rw[hum,if_neg k1,if_neg k2,if_pos hbz];rfl
  have hcw:¬p.cwd.1=w.c.a0:=kk;refine AG (OV (h:=?_));refine BL (fun m S=>∃k:Nat,k<=p.opens.length/\m=p.opens.length - k/\(∀i y,i<k->p.opens[i]?=some y->decide (y.file.1=w.c.a0)=false)/\S=⟨look [(0, .bp 0 0),(3, .v (.int .i64 w.c.a0)),(4, .v (.int .i64 (j:Int))),(5, .bp 1 0),(6, .v (.int .i64 (k:Int)))],⟨[WN w,Ar p],[]⟩⟩) (p.opens.length) (CF 2 0 (by simp[Am,Af,Aa,BN,WN,DC,Ao,Ar,AQ])) (⟨0,BG _,rfl,fun i y hi=>by omega,rfl⟩) ?_;rintro m S ⟨k,hk2,rfl,hak,rfl⟩;refine Hz (h:=?_);refine A3 rfl (fun kq km=>?_) (fun kq km=>?_)
  ·obtain⟨hltk,q,hyk,hrowk, -⟩:=Bx Hj km;refine Bq (h:=F8 (h:=i_ (h:=E4 (h:=m_ (h:=BO (h:=?_))))));refine A3 rfl (fun ks kp=>?_) (fun ks kp=>?_)
   ·have hbz:P0 w.s.tab w.c.a0=true:=Nt hy (by rw[Bool.or_eq_true];exact .inr (Nt hyk (decide_eq_true kp)));refine BR (h:=Bp (ML (DG (h:=C1 (h:=?_)))));refine AO (r:= .v (.int .i64 (J9 w).2)) none (h4:=(by simp[Am,Af,Aa,BN,WN,DC,Ao,Ar,AQ])) (h5:=(by rw[hum,if_neg k1,if_neg k2,if_pos hbz];exact A6 _)) (h6:=⟨rfl,rfl,?_⟩);rw[hum,if_neg k1,if_neg k2,if_pos hbz];rfl
   have hqn:decide (q.file.1=w.c.a0)=false:=decide_eq_false kp;refine Dg (h:=?_);refine⟨_,_,?_,⟨k+1,by omega,rfl,GX hyk hak hqn,rfl⟩,CF 2 0 (by simp[Am,Af,Aa,BN,WN,DC,Ao,Ar,AQ])⟩;omega
  have e2:=CA Hj hk2 km;have hno:(p.opens.any fun d=>decide (d.file.1=w.c.a0))=false:=Oe (by rw[<-e2];exact hak);refine LS (h:=FO (h:=?_));refine⟨_,_,?_,⟨j+1,by omega,rfl,GX hy ha (by rw[decide_eq_false hcw,hno];rfl),rfl⟩,CF 1 0 (by simp[Am,Af,Aa,BN,WN,DC,Ao,Ar,AQ])⟩;omega
 have e:=CA Ar hj kg;have hbz:P0 w.s.tab w.c.a0=false:=wC (by rw[<-e];exact ha);refine C4 (h:=Ab (h:=Dw (h:=m_ (h:=?_))));refine AK (hrem) ?_;refine Nl (h:=BO (h:=?_));refine A3 rfl (fun kt kr=>?_) (fun kt kr=>?_)
 ·have h0:R.2=0:=kr;refine Ab (h:=l_ (h:=J3 (h:=Cg (h:=HU (h:=J3 (h:=Cg (h:=EW (h:=?_))))))));refine AO (r:= .v (.int .i64 (J9 w).2)) none (h4:=(by simp[Am,Af,Aa,BN,WN,DC,Ao,Ar,AQ])) (h5:=(by rw[hum,if_neg k1,if_neg k2,if_neg (by rw[hbz];simp),MA,if_pos h0];exact LeA.of_eq (vi h0))) (h6:=⟨rfl,rfl,?_⟩);rw[hum,if_neg k1,if_neg k2,if_neg (by rw[hbz];simp),MA,if_pos h0];rfl
 have h0:¬R.2=0:=kr;refine AG (EW (h:=?_));refine AO (r:= .v (.int .i64 (J9 w).2)) none (h4:=(by simp[Am,Af,Aa,BN,WN,DC,Ao,Ar,AQ])) (h5:=(by rw[hum,if_neg k1,if_neg k2,if_neg (by rw[hbz];simp),MA,if_neg h0];exact A6 _)) (h6:=⟨rfl,rfl,?_⟩);rw[hum,if_neg k1,if_neg k2,if_neg (by rw[hbz];simp),MA,if_neg h0];rfl
theorem wE(w:Wrk)(hs:SpcB w.s.spc)(htb:TabB w.s.tab)(htn:Dk w.s.tab)(h19:w.c.num=19->0<w.c.args.length):ACall prog 152 [.bp 0 0] [WN w] (fun r b t=>t=[]/\r= .v (.int .i64 (Fp w).2)/\b=[WN (Fp w).1]):=by
 obtain⟨F0,hF0⟩:∃F,F=Hg w.s.tab w.p.pid:=⟨_,rfl⟩;obtain⟨F2,hF2⟩:∃F,F=K5 w.s.tab w.p.pid:=⟨_,rfl⟩;obtain⟨F3,hF3⟩:∃F,F=K6 w.s.tab w.p.pid w.c.a0:=⟨_,rfl⟩;obtain⟨F4,hF4⟩:∃F,F=K7 w.s.tab w.p.pid w.c.a0:=⟨_,rfl⟩;obtain⟨F5,hF5⟩:∃F,F=Gy w.s.tab w.p.pid w.c.a0:=⟨_,rfl⟩;obtain⟨F7,hF7⟩:∃F,F=LD w.s.tab w.p.pid w.c.a0:=⟨_,rfl⟩;obtain⟨FK,hFK⟩:∃F,F=Ji w.s.tab w.p.pid w.c.a0 (!decide (w.c.a1=0)):=⟨_,rfl⟩;have q0:AFn prog 207 [.agg (Ao w.s.tab), .v (.int .i64 w.p.pid)] (fun r=>r=Mg F0):=by rw[hF0];exact wA _ _ htb htn
 have q2:AFn prog 208 [.agg (Ao w.s.tab), .v (.int .i64 w.p.pid)] (fun r=>r=D9 F2):=by rw[hF2];exact dR _ _ htb
 have q3:AFn prog 209 [.agg (Ao w.s.tab), .v (.int .i64 w.p.pid), .v (.int .i64 w.c.a0)] (fun r=>r=D9 F3):=by rw[hF3];exact vZ _ _ _ htb
 have q4:AFn prog 210 [.agg (Ao w.s.tab), .v (.int .i64 w.p.pid), .v (.int .i64 w.c.a0)] (fun r=>r=D9 F4):=by rw[hF4];exact w6 _ _ _ htb
 have q5:AFn prog 211 [.agg (Ao w.s.tab), .v (.int .i64 w.p.pid), .v (.int .i64 w.c.a0)] (fun r=>r=D9 F5):=by rw[hF5];exact w7 _ _ _ htb htn
 have q7:AFn prog 212 [.agg (Ao w.s.tab), .v (.int .i64 w.p.pid), .v (.int .i64 w.c.a0)] (fun r=>r=D9 F7):=by rw[hF7];exact w8 _ _ _ htb
 have qk:AFn prog 214 [.agg (Ao w.s.tab), .v (.int .i64 w.p.pid), .v (.int .i64 w.c.a0), .v (.bool (!decide (w.c.a1=0)))] (fun r=>r=D9 FK):=by rw[hFK];exact w9 _ _ _ _ htb
 have hot:Fp w=if w.c.num=0 then CV (P3 w F0.2.1) (F0.1,F0.2.2)else if w.c.num=2 then CV w F2 else if w.c.num=3 then CV w F3 else if w.c.num=4 then CV w F4 else if w.c.num=5 then CV w F5 else if w.c.num=7 then CV w F7 else if w.c.num=18 then J9 w
     else if w.c.num=19 then(if w.c.a0<0\/65535<w.c.a0\/LE w.c=⟨#[]⟩then(w,22)else if w.c.a0=0 then(w,111)else(w,0))else if w.c.a1<0\/64<w.c.a1 then(w,22)else CV w FK:=by
  have hb:decide (w.c.a1≠0)= !decide (w.c.a1=0):=by simp
  unfold Fp;rw[hb,<-hF0,<-hF2,<-hF3,<-hF4,<-hF5,<-hF7,<-hFK]
 clear hF0 hF2 hF3 hF4 hF5 hF7 hFK;refine enter Tryz.func152 rfl rfl rfl rfl rfl 1 rfl ?_;refine DZ (h:=?_);refine BD (fun S=>S=⟨look [(0, .bp 0 0),(3, .bp 1 0),(4, .v (.int .i64 w.p.pid)),(5, .bp 2 0)],⟨[WN w,Ao w.s.tab,DC w.c],[]⟩⟩) ?_ ?_
 ·refine BJ ([(0,WN w)]) 20 (h:=AE 0 (h:=BA 1 (h:=AA 2 (h:=AA 3 (h:=A9 4 (h:=AE 5 (h:=BA 6 (h:=AA 7 (h:=AA 8 (h:=A9 9 (h:=AE 10 (h:=BA 11 (h:=AA 12 (h:=AA 13 (h:=A9 14 (h:=?_))))))))))))))));refine Ed 15 16 rfl rfl ?_ ?_
  ·refine Bn (by repeat constructor) ?_;refine o_ (h:=c_ 16 rfl (Bn (by repeat constructor) ?_));refine o_ (h:=Ax 17 (h:=B8 18 (h:=?_)));refine Ax 19 (h:=z_ (h:=?_));refine AT ?_;exact⟨_,rfl,CF 3 0 (by simp[Am,Af,Aa,BN,WN,DC,Ao,Ar,AQ])⟩
  refine Bn (by repeat constructor) ?_;refine o_ (h:=c_ 15 rfl (Bn (by repeat constructor) ?_));refine o_ (h:=Ax 17 (h:=B8 18 (h:=?_)));refine Ax 19 (h:=z_ (h:=?_));refine AT ?_;exact⟨_,rfl,JZ [0,2,1] bD (by decide) (.cons _ _ _ _ _ rfl rfl (.cons _ _ _ _ _ rfl rfl (.cons _ _ _ _ _ rfl rfl .nil))) (by repeat (first|exact SubK.nil|refine SubK.cons _ _ _ _ rfl (A6 _) ?_))⟩
 rintro S rfl;refine Be (h:=Dw (h:=e_ (BF (Az (h:=?_)))));refine A3 rfl (fun kd ka=>?_) (fun kd ka=>?_)
 ·have k0:w.c.num=0:=ka;refine Fy (h:=?_);refine AK (q0) ?_;refine Ft (h:=x_ (h:=Lt (h:=a_ (h:=Cl (h:=Cp (h:=m_ (h:=J3 (h:=Cy (h:=J3 (h:=Cg (h:=w_ (?_))))))))))));refine m_ (h:=GD (h:=?_));refine A7 (Bo [0] rfl (.cons _ _ _ _ _ rfl (A6 _) (.cons _ _ _ _ _ rfl (A6 _) (.cons _ _ _ _ _ rfl (A6 _) .nil))) (by decide) (.cons _ _ _ _ _ rfl rfl .nil) (OD (P3 w F0.2.1) F0.1 F0.2.2) ?_);rintro r bc tc ⟨rfl,rfl,rfl⟩;refine⟨rfl,_,MF ((CV (P3 w F0.2.1) (F0.1,F0.2.2)).1),?_⟩;refine BE (h:=?_);refine AO (r:= .v (.int .i64 (Fp w).2)) none (h4:=(by simp[Am,Af,Aa,BN,WN,DC,Ao,Ar,AQ])) (h5:=(by rw[hot,if_pos k0,MC];exact A6 _)) (h6:=⟨rfl,rfl,?_⟩);rw[hot,if_pos k0];rfl
 have k0:¬w.c.num=0:=ka;refine Az (h:=?_);refine A3 rfl (fun ke kc=>?_) (fun ke kc=>?_)
 ·have k1:w.c.num=2:=kc;refine Ab (h:=GD (h:=?_));refine AK (q2) ?_;refine LR (h:=?_);refine A7 (Bo [0] rfl (.cons _ _ _ _ _ rfl (A6 _) (.cons _ _ _ _ _ rfl (A6 _) (.cons _ _ _ _ _ rfl (A6 _) .nil))) (by decide) (.cons _ _ _ _ _ rfl rfl .nil) (OD w F2.1 F2.2) ?_);rintro r bc tc ⟨rfl,rfl,rfl⟩;refine⟨rfl,_,MF ((CV w F2).1),?_⟩;refine BE (h:=?_);refine AO (r:= .v (.int .i64 (Fp w).2)) none (h4:=(by simp[Am,Af,Aa,BN,WN,DC,Ao,Ar,AQ])) (h5:=(by rw[hot,if_neg k0,if_pos k1,MC];exact A6 _)) (h6:=⟨rfl,rfl,?_⟩);rw[hot,if_neg k0,if_pos k1];rfl
 have k1:¬w.c.num=2:=kc;refine Az (h:=?_);refine A3 rfl (fun kh kf=>?_) (fun kh kf=>?_)
 ·have k2:w.c.num=3:=kf;refine Ab (h:=GD (h:=?_));refine A7 (CX (len:=4) (sz:=1) (n:=0) (by kernel_rfl) rfl rfl rfl rfl ?_);refine l_ (h:=?_);refine AK (q3) ?_;refine LR (h:=?_);refine A7 (Bo [0] rfl (.cons _ _ _ _ _ rfl (A6 _) (.cons _ _ _ _ _ rfl (A6 _) (.cons _ _ _ _ _ rfl (A6 _) .nil))) (by decide) (.cons _ _ _ _ _ rfl rfl .nil) (OD w F3.1 F3.2) ?_);rintro r bc tc ⟨rfl,rfl,rfl⟩;refine⟨rfl,_,MF ((CV w F3).1),?_⟩;refine BE (h:=?_);refine AO (r:= .v (.int .i64 (Fp w).2)) none (h4:=(by simp[Am,Af,Aa,BN,WN,DC,Ao,Ar,AQ])) (h5:=(by rw[hot,if_neg k0,if_neg k1,if_pos k2,MC];exact A6 _)) (h6:=⟨rfl,rfl,?_⟩);rw[hot,if_neg k0,if_neg k1,if_pos k2];rfl
 have k2:¬w.c.num=3:=kf;refine Az (h:=?_);refine A3 rfl (fun kl kg=>?_) (fun kl kg=>?_)
 ·have k3:w.c.num=4:=kg;refine Ab (h:=GD (h:=?_));refine A7 (CX (len:=4) (sz:=1) (n:=0) (by kernel_rfl) rfl rfl rfl rfl ?_);refine l_ (h:=?_);refine AK (q4) ?_;refine LR (h:=?_);refine A7 (Bo [0] rfl (.cons _ _ _ _ _ rfl (A6 _) (.cons _ _ _ _ _ rfl (A6 _) (.cons _ _ _ _ _ rfl (A6 _) .nil))) (by decide) (.cons _ _ _ _ _ rfl rfl .nil) (OD w F4.1 F4.2) ?_);rintro r bc tc ⟨rfl,rfl,rfl⟩;refine⟨rfl,_,MF ((CV w F4).1),?_⟩;refine BE (h:=?_);refine AO (r:= .v (.int .i64 (Fp w).2)) none (h4:=(by simp[Am,Af,Aa,BN,WN,DC,Ao,Ar,AQ])) (h5:=(by rw[hot,if_neg k0,if_neg k1,if_neg k2,if_pos k3,MC];exact A6 _)) (h6:=⟨rfl,rfl,?_⟩);rw[hot,if_neg k0,if_neg k1,if_neg k2,if_pos k3];rfl
 have k3:¬w.c.num=4:=kg;refine Az (h:=?_);refine A3 rfl (fun ko kk=>?_) (fun ko kk=>?_)
 ·have k4:w.c.num=5:=kk;refine Ab (h:=GD (h:=?_));refine A7 (CX (len:=4) (sz:=1) (n:=0) (by kernel_rfl) rfl rfl rfl rfl ?_);refine l_ (h:=?_);refine AK (q5) ?_;refine LR (h:=?_);refine A7 (Bo [0] rfl (.cons _ _ _ _ _ rfl (A6 _) (.cons _ _ _ _ _ rfl (A6 _) (.cons _ _ _ _ _ rfl (A6 _) .nil))) (by decide) (.cons _ _ _ _ _ rfl rfl .nil) (OD w F5.1 F5.2) ?_);rintro r bc tc ⟨rfl,rfl,rfl⟩;refine⟨rfl,_,MF ((CV w F5).1),?_⟩;refine BE (h:=?_);refine AO (r:= .v (.int .i64 (Fp w).2)) none (h4:=(by simp[Am,Af,Aa,BN,WN,DC,Ao,Ar,AQ])) (h5:=(by rw[hot,if_neg k0,if_neg k1,if_neg k2,if_neg k3,if_pos k4,MC];exact A6 _)) (h6:=⟨rfl,rfl,?_⟩);rw[hot,if_neg k0,if_neg k1,if_neg k2,if_neg k3,if_pos k4];rfl
 have k4:¬w.c.num=5:=kk;refine Az (h:=?_);refine A3 rfl (fun kq km=>?_) (fun kq km=>?_)
 ·have k5:w.c.num=7:=km;refine Ab (h:=GD (h:=?_));refine A7 (CX (len:=4) (sz:=1) (n:=0) (by kernel_rfl) rfl rfl rfl rfl ?_);refine l_ (h:=?_);refine AK (q7) ?_;refine LR (h:=?_);refine A7 (Bo [0] rfl (.cons _ _ _ _ _ rfl (A6 _) (.cons _ _ _ _ _ rfl (A6 _) (.cons _ _ _ _ _ rfl (A6 _) .nil))) (by decide) (.cons _ _ _ _ _ rfl rfl .nil) (OD w F7.1 F7.2) ?_);rintro r bc tc ⟨rfl,rfl,rfl⟩;refine⟨rfl,_,MF ((CV w F7).1),?_⟩;refine BE (h:=?_);refine AO (r:= .v (.int .i64 (Fp w).2)) none (h4:=(by simp[Am,Af,Aa,BN,WN,DC,Ao,Ar,AQ])) (h5:=(by rw[hot,if_neg k0,if_neg k1,if_neg k2,if_neg k3,if_neg k4,if_pos k5,MC];exact A6 _)) (h6:=⟨rfl,rfl,?_⟩);rw[hot,if_neg k0,if_neg k1,if_neg k2,if_neg k3,if_neg k4,if_pos k5];rfl
 have k5:¬w.c.num=7:=km;refine Az (h:=?_);refine A3 rfl (fun ks kp=>?_) (fun ks kp=>?_)
 ·have k6:w.c.num=18:=kp;refine Ab (h:=?_);refine A7 (Bo [0] rfl (.cons _ _ _ _ _ rfl (A6 _) .nil) (by decide) (.cons _ _ _ _ _ rfl rfl .nil) (wD w hs htb) ?_);rintro r bc tc ⟨rfl,rfl,rfl⟩;refine⟨rfl,_,MF ((J9 w).1),?_⟩;refine BE (h:=?_);refine AO (r:= .v (.int .i64 (Fp w).2)) none (h4:=(by simp[Am,Af,Aa,BN,WN,DC,Ao,Ar,AQ])) (h5:=(by rw[hot,if_neg k0,if_neg k1,if_neg k2,if_neg k3,if_neg k4,if_neg k5,if_pos k6];exact A6 _)) (h6:=⟨rfl,rfl,?_⟩);rw[hot,if_neg k0,if_neg k1,if_neg k2,if_neg k3,if_neg k4,if_neg k5,if_pos k6];rfl
 have k6:¬w.c.num=18:=kp;refine Az (h:=?_);refine A3 rfl (fun kt kr=>?_) (fun kt kr=>?_)
 ·have k7:w.c.num=19:=kr;obtain⟨a0,ha0⟩:∃a,w.c.args[0]?=some a:=⟨_,B7 (h19 kr)⟩;have pw:(w.c.args.map DV)[0]?=some (DV a0):=by rw[List.getElem?_map,ha0];rfl
  have hag:LE w.c=a0:=by unfold LE;rw[List.headD_eq_head?_getD,List.head?_eq_getElem?,ha0];rfl
  refine q_ (?_);refine BD (fun S=>∃b:Bool,(b=true↔(w.c.a0<0\/65535<w.c.a0\/a0=⟨#[]⟩))/\S=⟨look [(0, .bp 0 0),(3, .bp 1 0),(4, .v (.int .i64 w.p.pid)),(5, .bp 2 0),(128, .v (.bool b))],⟨[WN w,Ao w.s.tab,DC w.c],[]⟩⟩) ?_ ?_
  ·refine Aq (?_);refine A7 (CX (len:=4) (sz:=1) (n:=0) (by kernel_rfl) rfl rfl rfl rfl ?_);refine l_ (h:=EG (h:=?_));refine AF false rfl rfl (fun kv ku=>?_) (fun kv ku=>?_)
   ·refine Co (h:=CO (h:=GB (h:=FP (h:=?_))));refine⟨_,⟨_,?_,rfl⟩,CF 3 0 (by simp[Am,Af,Aa,BN,WN,DC,Ao,Ar,AQ])⟩
    (simp[*];done)
   refine Ak (CX (len:=4) (sz:=1) (n:=0) (by kernel_rfl) rfl rfl rfl rfl ?_);refine l_ (h:=ET (h:=BZ (h:=?_)));refine AF false rfl rfl (fun yf yb=>?_) (fun yf yb=>?_)
   ·refine CO (h:=GB (h:=FP (h:=?_)));refine⟨_,⟨_,?_,rfl⟩,CF 3 0 (by simp[Am,Af,Aa,BN,WN,DC,Ao,Ar,AQ])⟩
    (simp[*];done)
   refine m_ (h:=Dw (h:=?_));refine Ak (DM (n:=0) rfl rfl rfl pw ?_);refine l_ (h:=Df (h:=F9 (h:=?_)));refine⟨_,⟨_,?_,rfl⟩,CF 3 0 (by simp[Am,Af,Aa,BN,WN,DC,Ao,Ar,AQ])⟩
   (simp[*];done)
  rintro S ⟨b20,ob,rfl⟩;refine A3 rfl (fun yq yc=>?_) (fun yq yc=>?_)
  ·refine BC (h:=DG (h:=?_));refine AO (r:= .v (.int .i64 (Fp w).2)) none (h4:=(by simp[Am,Af,Aa,BN,WN,DC,Ao,Ar,AQ])) (h5:=(by rw[hot,if_neg k0,if_neg k1,if_neg k2,if_neg k3,if_neg k4,if_neg k5,if_neg k6,if_pos k7,if_pos (by rw[hag];exact ob.1 ‹_›)];exact A6 _)) (h6:=⟨rfl,rfl,?_⟩);rw[hot,if_neg k0,if_neg k1,if_neg k2,if_neg k3,if_neg k4,if_neg k5,if_neg k6,if_pos k7,if_pos (by rw[hag];exact ob.1 ‹_›)];rfl
  refine FA (h:=w_ (?_));refine A7 (CX (len:=4) (sz:=1) (n:=0) (by kernel_rfl) rfl rfl rfl rfl ?_);refine l_ (h:=BO (h:=?_));refine A3 rfl (fun yu yg=>?_) (fun yu yg=>?_)
  ·have k9:w.c.a0=0:=yg;refine BC (h:=DG (h:=?_));refine AO (r:= .v (.int .i64 (Fp w).2)) none (h4:=(by simp[Am,Af,Aa,BN,WN,DC,Ao,Ar,AQ])) (h5:=(by rw[hot,if_neg k0,if_neg k1,if_neg k2,if_neg k3,if_neg k4,if_neg k5,if_neg k6,if_pos k7,if_neg (by rw[hag];exact fun q=>absurd (ob.2 q) (by simp[*])),if_pos k9];exact A6 _)) (h6:=⟨rfl,rfl,?_⟩);rw[hot,if_neg k0,if_neg k1,if_neg k2,if_neg k3,if_neg k4,if_neg k5,if_neg k6,if_pos k7,if_neg (by rw[hag];exact fun q=>absurd (ob.2 q) (by simp[*])),if_pos k9];rfl
  have k9:¬w.c.a0=0:=yg;refine AG (BR (h:=?_));refine AO (r:= .v (.int .i64 (Fp w).2)) none (h4:=(by simp[Am,Af,Aa,BN,WN,DC,Ao,Ar,AQ])) (h5:=(by rw[hot,if_neg k0,if_neg k1,if_neg k2,if_neg k3,if_neg k4,if_neg k5,if_neg k6,if_pos k7,if_neg (by rw[hag];exact fun q=>absurd (ob.2 q) (by simp[*])),if_neg k9];exact A6 _)) (h6:=⟨rfl,rfl,?_⟩);rw[hot,if_neg k0,if_neg k1,if_neg k2,if_neg k3,if_neg k4,if_neg k5,if_neg k6,if_pos k7,if_neg (by rw[hag];exact fun q=>absurd (ob.2 q) (by simp[*])),if_neg k9];rfl
 have k7:¬w.c.num=19:=kr;refine Ej (h:=q_ (?_));refine BD (fun S=>∃b:Bool,(b=true↔(w.c.a1<0\/64<w.c.a1))/\S=⟨look [(0, .bp 0 0),(3, .bp 1 0),(4, .v (.int .i64 w.p.pid)),(5, .bp 2 0),(139, .v (.bool b))],⟨[WN w,Ao w.s.tab,DC w.c],[]⟩⟩) ?_ ?_
 ·refine Aq (?_);refine A7 (CX (len:=4) (sz:=1) (n:=1) (by kernel_rfl) rfl rfl rfl rfl ?_);refine l_ (h:=EG (h:=?_));refine AF false rfl rfl (fun yy yr=>?_) (fun yy yr=>?_)
  ·refine JG (h:=?_);refine⟨_,⟨_,?_,rfl⟩,CF 3 0 (by simp[Am,Af,Aa,BN,WN,DC,Ao,Ar,AQ])⟩
   (simp[*];done)
  refine Ak (CX (len:=4) (sz:=1) (n:=1) (by kernel_rfl) rfl rfl rfl rfl ?_);refine l_ (h:=ET (h:=F9 (h:=?_)));refine⟨_,⟨_,?_,rfl⟩,CF 3 0 (by simp[Am,Af,Aa,BN,WN,DC,Ao,Ar,AQ])⟩
  (simp[*];done)
 rintro S ⟨b25,mq,rfl⟩;refine A3 rfl (fun ff fc=>?_) (fun ff fc=>?_)
 ·refine BC (h:=?_);refine AO (r:= .v (.int .i64 (Fp w).2)) none (h4:=(by simp[Am,Af,Aa,BN,WN,DC,Ao,Ar,AQ])) (h5:=(by rw[hot,if_neg k0,if_neg k1,if_neg k2,if_neg k3,if_neg k4,if_neg k5,if_neg k6,if_neg k7,if_pos (mq.1 ‹_›)];exact A6 _)) (h6:=⟨rfl,rfl,?_⟩);rw[hot,if_neg k0,if_neg k1,if_neg k2,if_neg k3,if_neg k4,if_neg k5,if_neg k6,if_neg k7,if_pos (mq.1 ‹_›)];rfl
 refine Ei (h:=GD (h:=?_));refine A7 (CX (len:=4) (sz:=1) (n:=0) (by kernel_rfl) rfl rfl rfl rfl ?_);refine l_ (h:=?_);refine A7 (CX (len:=4) (sz:=1) (n:=1) (by kernel_rfl) rfl rfl rfl rfl ?_);refine l_ (h:=Hp (h:=?_));refine AK (qk) ?_;refine LR (h:=?_);refine A7 (Bo [0] rfl (.cons _ _ _ _ _ rfl (A6 _) (.cons _ _ _ _ _ rfl (A6 _) (.cons _ _ _ _ _ rfl (A6 _) .nil))) (by decide) (.cons _ _ _ _ _ rfl rfl .nil) (OD w FK.1 FK.2) ?_);rintro r bc tc ⟨rfl,rfl,rfl⟩;refine⟨rfl,_,MF ((CV w FK).1),?_⟩;refine BW (h:=?_);refine AO (r:= .v (.int .i64 (Fp w).2)) none (h4:=(by simp[Am,Af,Aa,BN,WN,DC,Ao,Ar,AQ])) (h5:=(by rw[hot,if_neg k0,if_neg k1,if_neg k2,if_neg k3,if_neg k4,if_neg k5,if_neg k6,if_neg k7,if_neg (fun q=>absurd (mq.2 q) (by simp[*])),MC];exact A6 _)) (h6:=⟨rfl,rfl,?_⟩);rw[hot,if_neg k0,if_neg k1,if_neg k2,if_neg k3,if_neg k4,if_neg k5,if_neg k6,if_neg k7,if_neg (fun q=>absurd (mq.2 q) (by simp[*]))];rfl
theorem wF(w:Wrk)(e:Int)(hp:w.c.paths=[]):ACall prog 96 [.bp 0 0, .v (.int .i64 e)] [WN w] (fun r b t=>t=[]/\r= .v (.int .i64 e)/\b=[WN w]):=by
 have hpl:w.c.paths.length=0:=by rw[hp];rfl
 refine enter Tryz.func96 rfl rfl rfl rfl rfl 1 rfl ?_;refine FB (h:=k_ (h:=Ac (h:=?_)));refine AK (Zt w.c) ?_;refine Ay (h:=Cz (h:=?_));refine BL (fun m S=>S=⟨look [(0, .bp 0 0),(1, .v (.int .i64 e)),(5, .sl 1 ((DS w.c).map Cc) none),(6, .v (.int .i64 0))],⟨[WN w],[]⟩⟩) (0) (CF 1 0 (by simp[Am,Af,Aa,BN,WN,DC,Ao,Ar,AQ])) (rfl) ?_;rintro m S rfl;refine EH (h:=Dw (h:=JD (h:=?_)));refine A3 rfl (fun kd ka=>?_) (fun kd ka=>?_)
 ·exfalso;have h3:=ka;rw[List.length_map,hpl]at h3;omega
 refine C4 (h:=EW (h:=?_));refine AO (r:= .v (.int .i64 e)) none (h4:=(by simp[Am,Af,Aa,BN,WN,DC,Ao,Ar,AQ])) (h5:=(A6 _)) (h6:=⟨rfl,rfl,rfl⟩)
theorem wG(w:Wrk)(hs:SpcB w.s.spc)(htb:TabB w.s.tab)(htn:Dk w.s.tab)(h19:w.c.num=19->0<w.c.args.length)(hq:w.c.num≠1/\w.c.num≠6/\w.c.num≠8/\w.c.num≠9/\w.c.num≠10/\w.c.num≠11/\w.c.num≠12/\w.c.num≠13/\w.c.num≠14/\w.c.num≠15/\w.c.num≠16/\w.c.num≠17/\w.c.num≠21):ACall prog 98 [.bp 0 0] [WN w] (fun r b t=>t=[]/\r= .v (.int .i64 (Bb w).2)/\b=[WN (Bb w).1]):=by
 have yt:Bb w=Fp w:=by
  unfold Bb;rw[if_neg (by omega),if_neg (by omega),if_neg (by omega),if_neg (by omega),if_neg (by omega),if_neg (by omega),if_neg (by omega)]
 refine enter Tryz.func98 rfl rfl rfl rfl rfl 1 rfl ?_;refine GE (h:=Dw (h:=e_ (BF (Az (h:=?_)))));refine A3 rfl (fun kd ka=>?_) (fun kd ka=>?_)
 ·exact Cx
 refine Az (h:=?_);refine A3 rfl (fun ke kc=>?_) (fun ke kc=>?_)
 ·exact Cx
 refine q_ (Az (h:=?_));refine A3 rfl (fun kh kf=>?_) (fun kh kf=>?_)
 ·exact Cx
 refine Aq (Et (h:=?_));refine A3 rfl (fun kl kg=>?_) (fun kl kg=>?_)
 ·exact Cx
 refine Az (h:=?_);refine A3 rfl (fun ko kk=>?_) (fun ko kk=>?_)
 ·exact Cx
 refine q_ (Az (h:=?_));refine A3 rfl (fun kq km=>?_) (fun kq km=>?_)
 ·exact Cx
 refine Aq (Et (h:=?_));refine A3 rfl (fun ks kp=>?_) (fun ks kp=>?_)
 ·exact Cx
 refine q_ (Az (h:=?_));refine A3 rfl (fun kt kr=>?_) (fun kt kr=>?_)
 ·exact Cx
 refine Az (h:=?_);refine A3 rfl (fun kv ku=>?_) (fun kv ku=>?_)
 ·exact Cx
 refine Az (h:=?_);refine A3 rfl (fun yf yb=>?_) (fun yf yb=>?_)
 ·exact Cx
 refine Aq (Et (h:=?_));refine A3 rfl (fun yq yc=>?_) (fun yq yc=>?_)
 ·exact Cx
 refine q_ (Az (h:=?_));refine A3 rfl (fun yu yg=>?_) (fun yu yg=>?_)
 ·exact Cx
 refine Aq (Et (h:=?_));refine A3 rfl (fun yy yr=>?_) (fun yy yr=>?_)
 ·exact Cx
 refine Ej (h:=Ab (h:=?_));refine A7 (Bo [0] rfl (.cons _ _ _ _ _ rfl (A6 _) .nil) (by decide) (.cons _ _ _ _ _ rfl rfl .nil) (wE w hs htb htn h19) ?_);rintro r bc tc ⟨rfl,rfl,rfl⟩;refine⟨rfl,_,MF ((Fp w).1),?_⟩;refine BW (h:=?_);refine AO (r:= .v (.int .i64 (Bb w).2)) none (h4:=(by simp[Am,Af,Aa,BN,WN,DC,Ao,Ar,AQ])) (h5:=(by rw[yt];exact A6 _)) (h6:=⟨rfl,rfl,?_⟩);rw[yt];rfl
end
theorem wH(w:Wrk):(Gf w).1.r.items.length=w.r.items.length:=by
 unfold Gf
 repeat' split
 all_goals first|rfl|exact(Vh _ _ _).trans (P9 _ _)
theorem wJ(w:Wrk)(R:Fj):(Kg w R).1.r.items.length=w.r.items.length:=by
 unfold Kg;split
 ·rfl
 exact(bV _ _ _).trans (P9 _ _)
theorem wK(w:Wrk):(FW w).1.r.items.length=w.r.items.length:=by
 unfold FW
 repeat' split
 all_goals first|rfl|exact wJ _ _
theorem wL(w:Wrk):(H0 w).1.r.items.length=w.r.items.length:=by
 unfold H0 M8
 repeat' split
 all_goals first|rfl|exact P9 _ _
theorem wM(w:Wrk)(R:Spc×Int):(M9 w R).1.r.items.length=w.r.items.length:=by
 unfold M9;split<;>rfl
theorem wN(w:Wrk):(EC w).1.r.items.length=w.r.items.length:=by
 unfold EC
 repeat' split
 all_goals first|rfl|exact SZ _ _|exact wM _ _
theorem wO(w:Wrk):(H3 w).1.r.items.length=w.r.items.length:=by
 unfold H3
 repeat' split
 all_goals first|rfl|exact Vi _ _ _
theorem wP(w:Wrk)(R:Spc×Int):(MA w R).1.r.items.length=w.r.items.length:=by
 unfold MA;split<;>rfl
theorem wQ(w:Wrk):(J9 w).1.r.items.length=w.r.items.length:=by
 unfold J9
 repeat' split
 all_goals first|rfl|exact wP _ _
theorem wR(w:Wrk):(Fp w).1.r.items.length=w.r.items.length:=by
 unfold Fp
 repeat' split
 all_goals first|rfl|exact wQ _|exact SZ _ _|exact SZ (P3 w _) _
theorem Vw(w:Wrk):(Bb w).1.r.items.length=w.r.items.length:=by
 unfold Bb
 repeat' split
 all_goals first|exact t9 _|exact wH _|exact wK _|exact tB _|exact wL _|exact wN _|exact wO _|exact wR _
theorem dT{n:Int}(h:0<(C6 n).2.2.1):(n=1\/n=6\/n=8\/n=9\/n=10\/n=11\/n=12\/n=13\/n=14\/n=15\/n=16\/n=17\/n=21)/\((n=8\/n=13)->(C6 n).2.2.1=2)/\(¬(n=8\/n=13)->(C6 n).2.2.1=1):=by
 unfold C6 at h ⊢;split at h
 ·exact absurd h (by decide)
 rename_i c;rw[if_neg c];obtain⟨m,rfl⟩:=Int.eq_ofNat_of_zero_le (show 0<=n by omega);have hm:m<22:=by omega
 have k1:∀m,m<22->0<((GL[m]?).getD (⟨#[]⟩,0,0,0,0)).2.2.1->m∈[1,6,8,9,10,11,12,13,14,15,16,17,21]:=by decide
 have k2:∀m,m<22->m∈[8,13]->((GL[m]?).getD (⟨#[]⟩,0,0,0,0)).2.2.1=2:=by decide
 have k3:∀m,m<22->0<((GL[m]?).getD (⟨#[]⟩,0,0,0,0)).2.2.1->m∉[8,13]->((GL[m]?).getD (⟨#[]⟩,0,0,0,0)).2.2.1=1:=by decide
 have k1:=k1 m hm h;have k2:=k2 m hm;have k3:=k3 m hm h;simp only[List.mem_cons,List.not_mem_nil,or_false]at k1 k2 k3;exact⟨by omega,fun q=>k2 (by omega),fun q=>k3 (by omega)⟩
theorem dU{n:Int}(h:(C6 n).2.2.1=0):n≠1/\n≠6/\n≠8/\n≠9/\n≠10/\n≠11/\n≠12/\n≠13/\n≠14/\n≠15/\n≠16/\n≠17/\n≠21:=by
 refine⟨?_,?_,?_,?_,?_,?_,?_,?_,?_,?_,?_,?_,?_⟩<;>(rintro rfl;revert h;decide)
theorem wS(n:Int):0<(C6 n).2.2.1\/(C6 n).2.2.1=0:=by
 unfold C6;split
 ·exact .inr rfl
 rename_i c;obtain⟨m,rfl⟩:=Int.eq_ofNat_of_zero_le (show 0<=n by omega);have hm:m<22:=by omega
 have key:∀m,m<22->0<((GL[m]?).getD (⟨#[]⟩,0,0,0,0)).2.2.1\/((GL[m]?).getD (⟨#[]⟩,0,0,0,0)).2.2.1=0:=by decide
 exact key m hm
theorem wT{c:Cal}(h:0<(C6 c.num).2.2.1):((DS c).length:Int)=(C6 c.num).2.2.1:=by
 obtain⟨k1,k2,k3⟩:=dT h;by_cases c2:c.num=8\/c.num=13
 ·rw[k2 c2];rcases c2 with q|q<;>simp[DS,q]
 rw[k3 c2];rcases k1 with q|q|q|q|q|q|q|q|q|q|q|q|q<;>first|(exfalso;omega)|simp[DS,q]
theorem wU{c0 c1 c2 c3 c4 c5:List AV}(w:Wrk):Back [c0,c1,c2,c3,c4,c5] [5] [WN w] [c0,c1,c2,c3,c4,WN w]:=by
 have:=QX (bx:=[c0,c1,c2,c3,c4,c5]) (is:=[5]) (bc:=[WN w]) (by simp) (by simp) (by simp)
 have hb:ED [c0,c1,c2,c3,c4,c5] (FM [5] [c0,c1,c2,c3,c4,c5].length) [5] [WN w]=[c0,c1,c2,c3,c4,WN w]:=by
  unfold ED;unfold ED;rfl
 rw[hb]at this;exact this
section
theorem wV(w:Wrk)(cap:Nat)(hv:SpcV w.s.spc)(hm:w.s.spc.mounts.length<=1000)(htb:TabB w.s.tab)(hnm:∀f∈w.found,f.name.size<=12)(h1:1<=w.found.length)(h1i:1<=w.r.items.length)(h2:w.c.num=8\/w.c.num=13->2<=w.found.length/\2<=w.r.items.length)(hin:w.c.num=1\/w.c.num=6\/w.c.num=8\/w.c.num=9\/w.c.num=10\/w.c.num=11\/w.c.num=12\/w.c.num=13\/w.c.num=14\/w.c.num=15\/w.c.num=16\/w.c.num=17\/w.c.num=21)(h9:w.c.num=9->0<w.c.args.length)(hsz:∀p∈w.c.args,p.size<=1000):ACall prog 98 [.bp 0 0] [WA w cap,IB w cap] (fun r b t=>t=[]/\r= .v (.int .i64 (Bb w).2)/\b=[WA (Bb w).1 cap,IB (Bb w).1 cap]):=by
 have hps:w.s.tab.ps.length<=1000:=by have:=htb.few;omega
 refine enter Tryz.func98 rfl rfl rfl rfl rfl 2 rfl ?_;refine GE (h:=Dw (h:=e_ (BF (Az (h:=?_)))));refine A3 rfl (fun kd ka=>?_) (fun kd ka=>?_)
 ·obtain⟨f,hf⟩:∃f,w.found[0]?=some f:=⟨_,B7 (by omega)⟩;obtain⟨x,hx⟩:∃x,w.r.items[0]?=some x:=⟨_,B7 (by omega)⟩;have yt:Bb w=D8 w:=by simp[Bb,ka]
  refine Ab (h:=?_);refine A7 (Bo [0,1] rfl (.cons _ _ _ _ _ rfl (A6 _) .nil) (by decide) (.cons _ _ _ _ _ rfl rfl (.cons _ _ _ _ _ rfl (Dp B9 _ _ _) .nil)) (sU w cap f x hv hm htb hf hx (by have:=hnm f (Aj hf);omega)) ?_);rintro r bc tc ⟨rfl,rfl,rfl⟩;refine⟨rfl,_,EO rfl ((D8 w).1) cap,?_⟩;refine BE (h:=?_);refine BV (r:= .v (.int .i64 (Bb w).2)) none (h5:=(by rw[yt];exact A6 _)) (h6:=⟨rfl,rfl,?_⟩);rw[yt];rfl
 refine Az (h:=?_);refine A3 rfl (fun ke kc=>?_) (fun ke kc=>?_)
 ·obtain⟨f,hf⟩:∃f,w.found[0]?=some f:=⟨_,B7 (by omega)⟩;obtain⟨x,hx⟩:∃x,w.r.items[0]?=some x:=⟨_,B7 (by omega)⟩;obtain⟨g,hg⟩:∃f,w.found[1]?=some f:=⟨_,B7 (h2 (by omega)).1⟩;obtain⟨x1,hx1⟩:∃x,w.r.items[1]?=some x:=⟨_,B7 (h2 (by omega)).2⟩;have yt:Bb w=Gf w:=by simp[Bb,kc]
  refine Ab (h:=?_);refine A7 (Bo [0,1] rfl (.cons _ _ _ _ _ rfl (A6 _) .nil) (by decide) (.cons _ _ _ _ _ rfl rfl (.cons _ _ _ _ _ rfl (Dp B9 _ _ _) .nil)) (vV w cap f g x1 hv hm hf hg hx1 (by have:=hnm g (Aj hg);omega)) ?_);rintro r bc tc ⟨rfl,rfl,rfl⟩;refine⟨rfl,_,EO rfl ((Gf w).1) cap,?_⟩;refine BE (h:=?_);refine BV (r:= .v (.int .i64 (Bb w).2)) none (h5:=(by rw[yt];exact A6 _)) (h6:=⟨rfl,rfl,?_⟩);rw[yt];rfl
 refine q_ (Az (h:=?_));refine A3 rfl (fun kh kf=>?_) (fun kh kf=>?_)
 ·obtain⟨f,hf⟩:∃f,w.found[0]?=some f:=⟨_,B7 (by omega)⟩;obtain⟨x,hx⟩:∃x,w.r.items[0]?=some x:=⟨_,B7 (by omega)⟩;have yt:Bb w=FW w:=by simp[Bb,kf]
  refine AG (GQ (h:=Ab (h:=?_)));refine A7 (Bo [0,1] rfl (.cons _ _ _ _ _ rfl (A6 _) .nil) (by decide) (.cons _ _ _ _ _ rfl rfl (.cons _ _ _ _ _ rfl (Dp B9 _ _ _) .nil)) (dM w cap f x hv hm hps hf hx (by have:=hnm f (Aj hf);omega)) ?_);rintro r bc tc ⟨rfl,rfl,rfl⟩;refine⟨rfl,_,EO rfl ((FW w).1) cap,?_⟩;refine BE (h:=?_);refine BV (r:= .v (.int .i64 (Bb w).2)) none (h5:=(by rw[yt];exact A6 _)) (h6:=⟨rfl,rfl,?_⟩);rw[yt];rfl
 refine Aq (Et (h:=?_));refine A3 rfl (fun kl kg=>?_) (fun kl kg=>?_)
 ·obtain⟨f,hf⟩:∃f,w.found[0]?=some f:=⟨_,B7 (by omega)⟩;obtain⟨x,hx⟩:∃x,w.r.items[0]?=some x:=⟨_,B7 (by omega)⟩;have yt:Bb w=FW w:=by simp[Bb,kg]
  refine Ab (h:=?_);refine A7 (Bo [0,1] rfl (.cons _ _ _ _ _ rfl (A6 _) .nil) (by decide) (.cons _ _ _ _ _ rfl rfl (.cons _ _ _ _ _ rfl (Dp B9 _ _ _) .nil)) (dM w cap f x hv hm hps hf hx (by have:=hnm f (Aj hf);omega)) ?_);rintro r bc tc ⟨rfl,rfl,rfl⟩;refine⟨rfl,_,EO rfl ((FW w).1) cap,?_⟩;refine BE (h:=?_);refine BV (r:= .v (.int .i64 (Bb w).2)) none (h5:=(by rw[yt];exact A6 _)) (h6:=⟨rfl,rfl,?_⟩);rw[yt];rfl
 refine Az (h:=?_);refine A3 rfl (fun ko kk=>?_) (fun ko kk=>?_)
 ·obtain⟨f,hf⟩:∃f,w.found[0]?=some f:=⟨_,B7 (by omega)⟩;obtain⟨x,hx⟩:∃x,w.r.items[0]?=some x:=⟨_,B7 (by omega)⟩;obtain⟨g,hg⟩:∃f,w.found[1]?=some f:=⟨_,B7 (h2 (by omega)).1⟩;obtain⟨x1,hx1⟩:∃x,w.r.items[1]?=some x:=⟨_,B7 (h2 (by omega)).2⟩;have yt:Bb w=Gg w:=by simp[Bb,kk]
  refine Ab (h:=?_);refine A7 (Bo [0,1] rfl (.cons _ _ _ _ _ rfl (A6 _) .nil) (by decide) (.cons _ _ _ _ _ rfl rfl (.cons _ _ _ _ _ rfl (Dp B9 _ _ _) .nil)) (sV w cap f g x x1 hv hm hps hf hg hx hx1 (by have:=hnm f (Aj hf);omega) (by have:=hnm g (Aj hg);omega)) ?_);rintro r bc tc ⟨rfl,rfl,rfl⟩;refine⟨rfl,_,EO rfl ((Gg w).1) cap,?_⟩;refine BE (h:=?_);refine BV (r:= .v (.int .i64 (Bb w).2)) none (h5:=(by rw[yt];exact A6 _)) (h6:=⟨rfl,rfl,?_⟩);rw[yt];rfl
 refine q_ (Az (h:=?_));refine A3 rfl (fun kq km=>?_) (fun kq km=>?_)
 ·obtain⟨f,hf⟩:∃f,w.found[0]?=some f:=⟨_,B7 (by omega)⟩;obtain⟨x,hx⟩:∃x,w.r.items[0]?=some x:=⟨_,B7 (by omega)⟩;have yt:Bb w=H0 w:=by simp[Bb,km]
  refine AG (GQ (h:=Ab (h:=?_)));refine A7 (Bo [0,1] rfl (.cons _ _ _ _ _ rfl (A6 _) .nil) (by decide) (.cons _ _ _ _ _ rfl rfl (.cons _ _ _ _ _ rfl (Dp B9 _ _ _) .nil)) (dO w cap f hv hm hf) ?_);rintro r bc tc ⟨rfl,rfl,rfl⟩;refine⟨rfl,_,EO rfl ((H0 w).1) cap,?_⟩;refine BE (h:=?_);refine BV (r:= .v (.int .i64 (Bb w).2)) none (h5:=(by rw[yt];exact A6 _)) (h6:=⟨rfl,rfl,?_⟩);rw[yt];rfl
 refine Aq (Et (h:=?_));refine A3 rfl (fun ks kp=>?_) (fun ks kp=>?_)
 ·obtain⟨f,hf⟩:∃f,w.found[0]?=some f:=⟨_,B7 (by omega)⟩;obtain⟨x,hx⟩:∃x,w.r.items[0]?=some x:=⟨_,B7 (by omega)⟩;have yt:Bb w=H0 w:=by simp[Bb,kp]
  refine Ab (h:=?_);refine A7 (Bo [0,1] rfl (.cons _ _ _ _ _ rfl (A6 _) .nil) (by decide) (.cons _ _ _ _ _ rfl rfl (.cons _ _ _ _ _ rfl (Dp B9 _ _ _) .nil)) (dO w cap f hv hm hf) ?_);rintro r bc tc ⟨rfl,rfl,rfl⟩;refine⟨rfl,_,EO rfl ((H0 w).1) cap,?_⟩;refine BE (h:=?_);refine BV (r:= .v (.int .i64 (Bb w).2)) none (h5:=(by rw[yt];exact A6 _)) (h6:=⟨rfl,rfl,?_⟩);rw[yt];rfl
 refine q_ (Az (h:=?_));refine A3 rfl (fun kt kr=>?_) (fun kt kr=>?_)
 ·obtain⟨f,hf⟩:∃f,w.found[0]?=some f:=⟨_,B7 (by omega)⟩;obtain⟨x,hx⟩:∃x,w.r.items[0]?=some x:=⟨_,B7 (by omega)⟩;have yt:Bb w=EC w:=by simp[Bb,kr]
  refine AG (GQ (h:=Ab (h:=?_)));refine A7 (Bo [0,1] rfl (.cons _ _ _ _ _ rfl (A6 _) .nil) (by decide) (.cons _ _ _ _ _ rfl rfl (.cons _ _ _ _ _ rfl (Dp B9 _ _ _) .nil)) (Sr w cap f hv hm htb hf) ?_);rintro r bc tc ⟨rfl,rfl,rfl⟩;refine⟨rfl,_,EO rfl ((EC w).1) cap,?_⟩;refine BE (h:=?_);refine BV (r:= .v (.int .i64 (Bb w).2)) none (h5:=(by rw[yt];exact A6 _)) (h6:=⟨rfl,rfl,?_⟩);rw[yt];rfl
 refine Az (h:=?_);refine A3 rfl (fun kv ku=>?_) (fun kv ku=>?_)
 ·obtain⟨f,hf⟩:∃f,w.found[0]?=some f:=⟨_,B7 (by omega)⟩;obtain⟨x,hx⟩:∃x,w.r.items[0]?=some x:=⟨_,B7 (by omega)⟩;have yt:Bb w=EC w:=by simp[Bb,ku]
  refine AG (GQ (h:=Ab (h:=?_)));refine A7 (Bo [0,1] rfl (.cons _ _ _ _ _ rfl (A6 _) .nil) (by decide) (.cons _ _ _ _ _ rfl rfl (.cons _ _ _ _ _ rfl (Dp B9 _ _ _) .nil)) (Sr w cap f hv hm htb hf) ?_);rintro r bc tc ⟨rfl,rfl,rfl⟩;refine⟨rfl,_,EO rfl ((EC w).1) cap,?_⟩;refine BE (h:=?_);refine BV (r:= .v (.int .i64 (Bb w).2)) none (h5:=(by rw[yt];exact A6 _)) (h6:=⟨rfl,rfl,?_⟩);rw[yt];rfl
 refine Az (h:=?_);refine A3 rfl (fun yf yb=>?_) (fun yf yb=>?_)
 ·obtain⟨f,hf⟩:∃f,w.found[0]?=some f:=⟨_,B7 (by omega)⟩;obtain⟨x,hx⟩:∃x,w.r.items[0]?=some x:=⟨_,B7 (by omega)⟩;have yt:Bb w=EC w:=by simp[Bb,yb]
  refine AG (GQ (h:=Ab (h:=?_)));refine A7 (Bo [0,1] rfl (.cons _ _ _ _ _ rfl (A6 _) .nil) (by decide) (.cons _ _ _ _ _ rfl rfl (.cons _ _ _ _ _ rfl (Dp B9 _ _ _) .nil)) (Sr w cap f hv hm htb hf) ?_);rintro r bc tc ⟨rfl,rfl,rfl⟩;refine⟨rfl,_,EO rfl ((EC w).1) cap,?_⟩;refine BE (h:=?_);refine BV (r:= .v (.int .i64 (Bb w).2)) none (h5:=(by rw[yt];exact A6 _)) (h6:=⟨rfl,rfl,?_⟩);rw[yt];rfl
 refine Aq (Et (h:=?_));refine A3 rfl (fun yq yc=>?_) (fun yq yc=>?_)
 ·obtain⟨f,hf⟩:∃f,w.found[0]?=some f:=⟨_,B7 (by omega)⟩;obtain⟨x,hx⟩:∃x,w.r.items[0]?=some x:=⟨_,B7 (by omega)⟩;have yt:Bb w=EC w:=by simp[Bb,yc]
  refine Ab (h:=?_);refine A7 (Bo [0,1] rfl (.cons _ _ _ _ _ rfl (A6 _) .nil) (by decide) (.cons _ _ _ _ _ rfl rfl (.cons _ _ _ _ _ rfl (Dp B9 _ _ _) .nil)) (Sr w cap f hv hm htb hf) ?_);rintro r bc tc ⟨rfl,rfl,rfl⟩;refine⟨rfl,_,EO rfl ((EC w).1) cap,?_⟩;refine BE (h:=?_);refine BV (r:= .v (.int .i64 (Bb w).2)) none (h5:=(by rw[yt];exact A6 _)) (h6:=⟨rfl,rfl,?_⟩);rw[yt];rfl
 refine q_ (Az (h:=?_));refine A3 rfl (fun yu yg=>?_) (fun yu yg=>?_)
 ·obtain⟨f,hf⟩:∃f,w.found[0]?=some f:=⟨_,B7 (by omega)⟩;obtain⟨x,hx⟩:∃x,w.r.items[0]?=some x:=⟨_,B7 (by omega)⟩;have yt:Bb w=H3 w:=by simp[Bb,yg]
  refine AG (GQ (h:=Ab (h:=?_)));refine A7 (Bo [0,1] rfl (.cons _ _ _ _ _ rfl (A6 _) .nil) (by decide) (.cons _ _ _ _ _ rfl rfl (.cons _ _ _ _ _ rfl (Dp B9 _ _ _) .nil)) (dS w cap f x hv hm hf hx (by have:=hnm f (Aj hf);omega) h9 hsz) ?_);rintro r bc tc ⟨rfl,rfl,rfl⟩;refine⟨rfl,_,EO rfl ((H3 w).1) cap,?_⟩;refine BE (h:=?_);refine BV (r:= .v (.int .i64 (Bb w).2)) none (h5:=(by rw[yt];exact A6 _)) (h6:=⟨rfl,rfl,?_⟩);rw[yt];rfl
 refine Aq (Et (h:=?_));refine A3 rfl (fun yy yr=>?_) (fun yy yr=>?_)
 ·obtain⟨f,hf⟩:∃f,w.found[0]?=some f:=⟨_,B7 (by omega)⟩;obtain⟨x,hx⟩:∃x,w.r.items[0]?=some x:=⟨_,B7 (by omega)⟩;have yt:Bb w=H3 w:=by simp[Bb,yr]
  refine Ab (h:=?_);refine A7 (Bo [0,1] rfl (.cons _ _ _ _ _ rfl (A6 _) .nil) (by decide) (.cons _ _ _ _ _ rfl rfl (.cons _ _ _ _ _ rfl (Dp B9 _ _ _) .nil)) (dS w cap f x hv hm hf hx (by have:=hnm f (Aj hf);omega) h9 hsz) ?_);rintro r bc tc ⟨rfl,rfl,rfl⟩;refine⟨rfl,_,EO rfl ((H3 w).1) cap,?_⟩;refine BE (h:=?_);refine BV (r:= .v (.int .i64 (Bb w).2)) none (h5:=(by rw[yt];exact A6 _)) (h6:=⟨rfl,rfl,?_⟩);rw[yt];rfl
 exact Cx
theorem wW(s:Syst)(pid:Int)(c:Cal)(hv:SpcV s.spc)(hm:s.spc.mounts.length<=1000)(ht:TabB s.tab)(hcp:c.paths.length<=1000)(hca:c.args.length<=1000)(h6:0<(C6 c.num).2.2.1):AFn prog 49 [.agg (Cb s), .v (.int .i64 pid), .agg (GN c)] (fun r=>r=OB (DL s pid c)):=by
 have hsb:=hv.b hm;obtain⟨W1,hW1⟩:∃W,W=Kh s pid c:=⟨_,rfl⟩;have hwf:=bS s pid c;rw[<-hW1]at hwf;have hWs:W1.s=s:=by rw[hW1];rfl
 have hWc:W1.c=c:=by rw[hW1];rfl
 refine enter Tryz.func49 rfl rfl rfl rfl rfl 0 rfl ?_;refine Ef (h:=Ck (h:=e_ (F8 (h:=?_))));refine AK (Kk s.tab pid ht) ?_;refine HQ (h:=?_);refine A3 rfl (fun kd ka=>?_) (fun kd ka=>?_)
 ·have hno:Ca s.tab pid=false:=by simpa using ka
  refine Bw (h:=?_);refine AK (NM s hsb ht) ?_;refine A7 (Hr (y:= .agg (Kj {Hf with exit:= -4})) (E3 ⟨rfl,rfl⟩) ?_);refine s_ (h:=GF (h:=BH (Bp (?_))));refine A4 ?_;rw[DL,if_pos hno];rfl
 have hno:¬Ca s.tab pid=false:=by simpa using ka
 refine FA (h:=Bw (h:=?_));refine AK (Zs c hcp hca) ?_;refine D3 (h:=?_);refine A3 rfl (fun ke kc=>?_) (fun ke kc=>?_)
 ·have hck:Bt c≠0:=by simpa using kc
  refine Bw (h:=?_);refine AK (NM s hsb ht) ?_;refine A7 (Hr (y:= .agg (Kj {Hf with exit:= -22})) (E3 ⟨rfl,rfl⟩) ?_);refine s_ (h:=GF (h:=BH (Bp (?_))));refine A4 ?_;rw[DL,if_neg hno,if_pos hck];rfl
 have hck:Bt c=0:=by simpa using kc
 obtain⟨hk1,hk2,hk3,hk4,hk5⟩:=bR hck;have ph:∀p∈(EP s pid c).c.args,p.size<=1000:=fun p hp=>by have:=hk5 p hp;omega
 have hpaths:∀p∈(EP s pid c).c.paths,p.size<=100000:=fun p hp=>by have:=hk4 p hp;omega
 obtain⟨hp1,hp2,hp3⟩:=dT h6;have hp4:=wT h6;have h9:c.num=9->0<c.args.length:=fun q=>by rw[q]at hk2;have:(C6 9).2.2.2.1=1:=rfl;omega
 have hpp:(EP s pid c).c.paths.length=(DS (EP s pid c).c).length:=by show c.paths.length=(DS c).length;omega
 have hp0:0<(EP s pid c).c.paths.length:=by show 0<c.paths.length;omega
 have hzl:(c.paths.zip (DS c)).length=c.paths.length:=by rw[List.length_zip];omega
 have hil0:0<W1.r.items.length:=by rw[hwf.2.2,hzl];omega
 refine AG (q_ (BJ ([(0,Cb s),(1,GN c),(4,Ar (AP s.tab pid))]) 7 (h:=?_)));refine A9 0 (h:=?_);refine A9 2 (h:=?_);refine A9 3 (h:=?_);refine c_ 1 rfl (AX (NM s hsb ht) ?_);rintro r rfl;refine o_ (h:=CE 4 rfl (fun _ hS=>JC (y:= .agg (Dn (EP s pid c) (.v (.slice none 0 0)) (.v (.slice none 0 0)))) (E3 ⟨rfl,rfl⟩) (bU s pid c) ⟨rfl,rfl⟩) ?_);refine c_ 5 rfl (RQ rfl rfl (by repeat constructor) ?_);refine o_ (h:=B8 6 (h:=z_ (h:=t_ (?_))));refine BD (fun S=>∃cap,W1.r.items.length<=cap/\S=⟨look [(3, .bp 2 0),(6, .bp 3 0),(7, .bp 4 0),(10, .bp 0 0),(11, .v (.int .i64 (Hi s (AP s.tab pid) c).2.2))],⟨[WA W1 cap,IB W1 cap,Cb s,Lj,Mi],[]⟩⟩) ?_ ?_
 ·refine HU (h:=?_);refine A7 (DX 1 rfl (.cons _ _ _ _ _ rfl (LeA.of_eq rfl) .nil) (bT (EP s pid c) (.v (.slice none 0 0)) (.v (.slice none 0 0)) h9 ph) ?_);rintro r rfl;refine⟨rfl,?_⟩;refine A7 (Bo [5] rfl (.cons _ _ _ _ _ rfl (A6 _) (.cons _ _ _ _ _ rfl (A6 _) .nil)) (by decide) (.cons _ _ _ _ _ rfl rfl .nil) (sP (EP s pid c) (DU (AP s.tab pid) c) hv hm hpp (by show c.paths.length<=1000;omega) hp0 hpaths) ?_);rintro r bc tc ⟨rfl,cap,yk,rfl,rfl⟩;refine⟨rfl,_,t7 (EP s pid c) _ _ cap _,?_⟩;refine D4 (h:=?_);rw[hW1];exact⟨_,⟨cap,yk,rfl⟩,JZ [5,6,0,2,3] (fun i hi=>absurd hi (Nat.not_lt_zero i)) (by decide) (.cons _ _ _ _ _ rfl rfl (.cons _ _ _ _ _ rfl (Me B9 _ _ _) (.cons _ _ _ _ _ rfl rfl (.cons _ _ _ _ _ rfl rfl (.cons _ _ _ _ _ rfl rfl .nil))))) (by repeat (first|exact SubK.nil|refine SubK.cons _ _ _ _ rfl (A6 _) ?_))⟩
 rintro S ⟨cap,yk,rfl⟩;refine Ab (h:=Dw (h:=?_));refine A7 (Rj rfl rfl (SrcA.bs 1 0 _ cap _ rfl (by rw[show IB W1 cap=LB 13 Cn W1.r.items cap from rfl,SO B9 yk];omega)) hil0 (by rw[hwf.2.2,hzl];omega) ?_);rintro cap2 k bx2 hcp2 hs;rw[show((IB W1 cap).drop 0).take (W1.r.items.length * 13)++List.replicate ((cap2 - W1.r.items.length) * 13) AV.any=LB 13 Cn W1.r.items cap2 from t8 B9 _ cap cap2]at hs;obtain⟨rfl,rfl⟩:k=5/\bx2=[_,_,_,_,_,_]:=hs.eq;refine Ay (h:=?_);refine BD (fun S=>∃(W2:Wrk) (E2:Int),((¬(Hi s (AP s.tab pid) c).2.2=0/\E2=(Hi s (AP s.tab pid) c).2.2)\/((Hi s (AP s.tab pid) c).2.2=0/\W2=(Bb W1).1/\E2=(Bb W1).2))/\S=⟨look [(3, .bp 2 0),(6, .bp 3 0),(7, .bp 4 0),(10, .bp 0 0),(11, .v (.int .i64 E2)),(12, .bs 5 0 13 W1.r.items.length cap2)],⟨[WA W2 cap,IB W2 cap,Cb s,Lj,Mi,LB 13 Cn W1.r.items cap2],[]⟩⟩) ?_ ?_
 ·refine Ab (h:=BO (h:=?_));refine A3 rfl (fun kh kf=>?_) (fun kh kf=>?_)
  ·have he1:(Hi s (AP s.tab pid) c).2.2=0:=by simpa using kf
   refine BU (h:=?_);refine A7 (Bo [0,1] rfl (.cons _ _ _ _ _ rfl (A6 _) .nil) (by decide) (.cons _ _ _ _ _ rfl rfl (.cons _ _ _ _ _ rfl (Dp B9 _ _ _) .nil)) (wV W1 cap (by rw[hWs];exact hv) (by rw[hWs];exact hm) (by rw[hWs];exact ht) hwf.1 (by rw[hwf.2.1,hzl];omega) (by rw[hwf.2.2,hzl];omega) (by rw[hWc,hwf.2.1,hwf.2.2,hzl];omega) (by rw[hWc];exact hp1) (by rw[hWc];exact h9) (by rw[hWc];exact ph)) ?_);rintro r bc tc ⟨rfl,rfl,rfl⟩;refine⟨rfl,_,EO rfl (Bb W1).1 cap,?_⟩;refine D4 (h:=?_);exact⟨_,⟨(Bb W1).1,(Bb W1).2, .inr ⟨he1,rfl,rfl⟩,rfl⟩,At 6 0 rfl rfl rfl (by simp[Am,Af,Aa,C7 B9,BN,WA,IB,DA,Cb,Lj,Mi]) ((by repeat (first|exact Sub.nil|refine Aw rfl rfl ?_|refine B3 ?_|refine B4 rfl ?_|refine B5 rfl ?_)))⟩
  have he1:¬(Hi s (AP s.tab pid) c).2.2=0:=by simpa using kf
  refine Ci (AT (?_));exact⟨_,⟨W1,_, .inl ⟨he1,rfl⟩,rfl⟩,CF 6 0 (by simp[Am,Af,Aa,C7 B9,BN,WA,IB,DA,Cb,Lj,Mi])⟩
 rintro S ⟨W2,E2,hQ,rfl⟩;refine Be (h:=D3 (h:=?_));refine A3 rfl (fun kl kg=>?_) (fun kl kg=>?_)
 ·have he2:E2≠0:=by simpa using kg
  have ye:DL s pid c=(s,{Hf with exit:=LL E2,items:=W1.r.items}):=by
   rw[DL,if_neg hno,if_neg (by simp[hck])];rcases hQ with⟨q1,q2⟩|⟨q1,q2,q3⟩
   ·rw[if_pos q1,<-q2,hW1];rfl
   rw[if_neg (by simp[q1]),<-hW1,<-q3,if_pos he2,hW1];rfl
  refine BD (fun S=>S=⟨look [(6, .bp 0 0),(7, .bp 1 0)],⟨[Cb s,OC {Hf with exit:=LL E2} (.sl 13 (W1.r.items.map Cn) none)],[]⟩⟩) ?_ ?_
  ·refine Aq (l_ (h:=?_));refine AK (NM s hsb ht) ?_;refine m_ (h:=?_);refine A7 (bY rfl ?_);refine m_ (h:=?_);refine A7 (Hr (y:= .agg (OC {Hf with exit:=LL E2} (.bs 5 0 13 W1.r.items.length cap2))) (E3 ⟨rfl,rfl⟩) ?_);refine s_ (h:=s_ (h:=FP (h:=?_)));refine⟨_,rfl,(JZ [3,4,5] (rows:=[Cb s,OC {Hf with exit:=LL E2} (.bs 2 0 13 W1.r.items.length cap2),LB 13 Cn W1.r.items cap2]) (l:=[(6, .bp 0 0),(7, .bp 1 0)]) (fun i hi=>absurd hi (Nat.not_lt_zero i)) (by decide) (.cons _ _ _ _ _ rfl rfl (.cons _ _ _ _ _ rfl rfl (.cons _ _ _ _ _ rfl (Me B9 _ _ _) .nil))) (by repeat (first|exact SubK.nil|refine SubK.cons _ _ _ _ rfl (A6 _) ?_))).trans (Jm 2 1 rfl (congrArg (fun x=>[Cb s,OC {Hf with exit:=LL E2} x]) (P4 B9 rfl rfl hcp2)) (.cons _ _ _ _ rfl (A6 _) (.cons _ _ _ _ rfl (A6 _) .nil)))⟩
  rintro S rfl;refine BH (Bp (?_));refine AO (r:=OB (DL s pid c)) none (h5:=(by rw[ye];exact(by repeat (first|exact A6 _|exact LeA.nil _|exact LeL.refl _|refine LeA.agg ?_|refine LeA.tup ?_|exact LeL.nil|refine LeL.cons ?_ ?_|exact LeA.any _)))) (h6:=⟨rfl,rfl,rfl⟩)
 have he2:E2=0:=by simpa using kg
 have hlen2:W2.r.items.length<=cap:=by
  rcases hQ with⟨q1,q2⟩|⟨q1,q2,q3⟩
  ·exact absurd (q2.symm.trans he2) q1
  rw[q2,Vw];exact yk
 have ye:DL s pid c=(W2.s,W2.r):=by
  rcases hQ with⟨q1,q2⟩|⟨q1,q2,q3⟩
  ·exact absurd (q2.symm.trans he2) q1
  rw[DL,if_neg hno,if_neg (by simp[hck]),if_neg (by simp[q1]),<-hW1,<-q3,if_neg (by simp[he2]),q2]
 refine AG (?_);refine BD (fun S=>S=⟨look [(6, .bp 0 0),(7, .bp 1 0)],⟨[Cb W2.s,OC W2.r (.sl 13 (W2.r.items.map Cn) none)],[]⟩⟩) ?_ ?_
 ·refine BJ ([(0,WA W2 cap)]) 10 (h:=AE 0 (h:=BA 1 (h:=AA 2 (h:=A9 3 (h:=AE 4 (h:=BA 5 (h:=AA 6 (h:=A9 7 (h:=?_)))))))));refine Ax 8 (h:=?_);refine Ax 9 (h:=z_ (h:=?_));refine AT ?_;refine⟨_,rfl,(JZ [3,4,1] (rows:=[Cb W2.s,OC W2.r (.bs 2 0 13 W2.r.items.length cap),LB 13 Cn W2.r.items cap]) (l:=[(6, .bp 0 0),(7, .bp 1 0)]) (fun i hi=>absurd hi (Nat.not_lt_zero i)) (by decide) (.cons _ _ _ _ _ rfl rfl (.cons _ _ _ _ _ rfl rfl (.cons _ _ _ _ _ rfl (Me B9 _ _ _) .nil))) (by repeat (first|exact SubK.nil|refine SubK.cons _ _ _ _ rfl (A6 _) ?_))).trans (Jm 2 1 rfl (congrArg (fun x=>[Cb W2.s,OC W2.r x]) (P4 B9 rfl rfl hlen2)) (.cons _ _ _ _ rfl (A6 _) (.cons _ _ _ _ rfl (A6 _) .nil)))⟩
 rintro S rfl;refine BH (?_);refine A4 ?_;rw[ye];rfl
theorem wX{s:Syst}{p:Prc}{c:Cal}(h:c.paths=[]):Hi s p c=([],[],DU p c):=by
 unfold Hi M6;rw[h];rfl
theorem wY(s:Syst)(pid:Int)(c:Cal)(hv:SpcV s.spc)(hm:s.spc.mounts.length<=1000)(ht:TabB s.tab)(htn:Dk s.tab)(hcp:c.paths.length<=1000)(hca:c.args.length<=1000)(h6:(C6 c.num).2.2.1=0):AFn prog 49 [.agg (Cb s), .v (.int .i64 pid), .agg (GN c)] (fun r=>r=OB (DL s pid c)):=by
 have hsb:=hv.b hm;have hwl:Kh s pid c=⟨s,AP s.tab pid,c,(Hi s (AP s.tab pid) c).2.1,{Hf with items:=(Hi s (AP s.tab pid) c).1}⟩:=rfl;refine enter Tryz.func49 rfl rfl rfl rfl rfl 0 rfl ?_;refine Ef (h:=Ck (h:=e_ (F8 (h:=?_))));refine AK (Kk s.tab pid ht) ?_;refine HQ (h:=?_);refine A3 rfl (fun kd ka=>?_) (fun kd ka=>?_)
 ·have hno:Ca s.tab pid=false:=by simpa using ka
  refine Bw (h:=?_);refine AK (NM s hsb ht) ?_;refine A7 (Hr (y:= .agg (Kj {Hf with exit:= -4})) (E3 ⟨rfl,rfl⟩) ?_);refine s_ (h:=GF (h:=BH (Bp (?_))));refine A4 ?_;rw[DL,if_pos hno];rfl
 have hno:¬Ca s.tab pid=false:=by simpa using ka
 refine FA (h:=Bw (h:=?_));refine AK (Zs c hcp hca) ?_;refine D3 (h:=?_);refine A3 rfl (fun ke kc=>?_) (fun ke kc=>?_)
 ·have hck:Bt c≠0:=by simpa using kc
  refine Bw (h:=?_);refine AK (NM s hsb ht) ?_;refine A7 (Hr (y:= .agg (Kj {Hf with exit:= -22})) (E3 ⟨rfl,rfl⟩) ?_);refine s_ (h:=GF (h:=BH (Bp (?_))));refine A4 ?_;rw[DL,if_neg hno,if_pos hck];rfl
 have hck:Bt c=0:=by simpa using kc
 obtain⟨hk1,hk2,hk3,hk4,hk5⟩:=bR hck;have ph:∀p∈(EP s pid c).c.args,p.size<=1000:=fun p hp=>by have:=hk5 p hp;omega
 have hp0:c.paths=[]:=by rw[h6]at hk1;exact List.length_eq_zero_iff.1 (by omega)
 have hpz:(EP s pid c).c.paths=[]:=hp0;have h9:(EP s pid c).c.num=9->0<(EP s pid c).c.args.length:=fun q=>absurd q (dU h6).2.2.2.1;have h19:(EP s pid c).c.num=19->0<(EP s pid c).c.args.length:=fun q=>by have q2:c.num=19:=q;rw[q2]at hk2;have:(C6 19).2.2.2.1=1:=rfl;show 0<c.args.length;omega
 have hlok:=wX (s:=s) (p:=AP s.tab pid) hp0;have hwk:Kh s pid c=EP s pid c:=by rw[hwl,hlok];rfl
 refine AG (q_ (BJ ([(0,Cb s),(1,GN c),(4,Ar (AP s.tab pid))]) 7 (h:=?_)));refine A9 0 (h:=?_);refine A9 2 (h:=?_);refine A9 3 (h:=?_);refine c_ 1 rfl (AX (NM s hsb ht) ?_);rintro r rfl;refine o_ (h:=CE 4 rfl (fun _ hS=>JC (y:= .agg (Dn (EP s pid c) (.v (.slice none 0 0)) (.v (.slice none 0 0)))) (E3 ⟨rfl,rfl⟩) (bU s pid c) ⟨rfl,rfl⟩) ?_);refine c_ 5 rfl (RQ rfl rfl (by repeat constructor) ?_);refine o_ (h:=B8 6 (h:=z_ (h:=t_ (?_))));refine BD (fun S=>S=⟨look [(3, .bp 2 0),(6, .bp 3 0),(7, .bp 4 0),(10, .bp 0 0),(11, .v (.int .i64 (DU (AP s.tab pid) c)))],⟨[WN (EP s pid c),GN c,Cb s,Lj,Mi],[]⟩⟩) ?_ ?_
 ·refine HU (h:=?_);refine A7 (DX 1 rfl (.cons _ _ _ _ _ rfl (LeA.of_eq rfl) .nil) (bT (EP s pid c) (.v (.slice none 0 0)) (.v (.slice none 0 0)) h9 ph) ?_);rintro r rfl;refine⟨rfl,?_⟩;refine A7 (Bo [5] rfl (.cons _ _ _ _ _ rfl (A6 _) (.cons _ _ _ _ _ rfl (A6 _) .nil)) (by decide) (.cons _ _ _ _ _ rfl rfl .nil) (wF (EP s pid c) (DU (AP s.tab pid) c) hpz) ?_);rintro r bc tc ⟨rfl,rfl,rfl⟩;refine⟨rfl,_,wU (EP s pid c),?_⟩;refine D4 (h:=?_);exact⟨_,rfl,JZ [5,1,0,2,3] (fun i hi=>absurd hi (Nat.not_lt_zero i)) (by decide) (.cons _ _ _ _ _ rfl rfl (.cons _ _ _ _ _ rfl rfl (.cons _ _ _ _ _ rfl rfl (.cons _ _ _ _ _ rfl rfl (.cons _ _ _ _ _ rfl rfl .nil))))) (by repeat (first|exact SubK.nil|refine SubK.cons _ _ _ _ rfl (A6 _) ?_))⟩
 rintro S rfl;refine Ab (h:=Dw (h:=?_));refine A7 (wB rfl rfl ?_);refine Ay (h:=?_);refine BD (fun S=>∃(W2:Wrk) (E2:Int),((¬DU (AP s.tab pid) c=0/\E2=DU (AP s.tab pid) c)\/(DU (AP s.tab pid) c=0/\W2=(Bb (EP s pid c)).1/\E2=(Bb (EP s pid c)).2))/\S=⟨look [(3, .bp 2 0),(6, .bp 3 0),(7, .bp 4 0),(10, .bp 0 0),(11, .v (.int .i64 E2)),(12, .v (.slice none 0 0))],⟨[WN W2,GN c,Cb s,Lj,Mi],[]⟩⟩) ?_ ?_
 ·refine Ab (h:=BO (h:=?_));refine A3 rfl (fun kh kf=>?_) (fun kh kf=>?_)
  ·have he1:DU (AP s.tab pid) c=0:=by simpa using kf
   refine BU (h:=?_);refine A7 (Bo [0] rfl (.cons _ _ _ _ _ rfl (A6 _) .nil) (by decide) (.cons _ _ _ _ _ rfl rfl .nil) (wG (EP s pid c) hsb ht htn h19 (dU h6)) ?_);rintro r bc tc ⟨rfl,rfl,rfl⟩;refine⟨rfl,_,MF ((Bb (EP s pid c)).1),?_⟩;refine D4 (h:=?_);exact⟨_,⟨(Bb (EP s pid c)).1,(Bb (EP s pid c)).2, .inr ⟨he1,rfl,rfl⟩,rfl⟩,At 5 0 rfl rfl rfl (by simp[Am,Af,Aa,BN,WN,Cb,Lj,Mi,GN]) ((by repeat (first|exact Sub.nil|refine Aw rfl rfl ?_|refine B3 ?_|refine B4 rfl ?_|refine B5 rfl ?_)))⟩
  have he1:¬DU (AP s.tab pid) c=0:=by simpa using kf
  refine Ci (AT (?_));exact⟨_,⟨EP s pid c,_, .inl ⟨he1,rfl⟩,rfl⟩,CF 5 0 (by simp[Am,Af,Aa,BN,WN,Cb,Lj,Mi,GN])⟩
 rintro S ⟨W2,E2,hQ,rfl⟩;refine Be (h:=D3 (h:=?_));refine A3 rfl (fun kl kg=>?_) (fun kl kg=>?_)
 ·have he2:E2≠0:=by simpa using kg
  have ye:DL s pid c=(s,{Hf with exit:=LL E2}):=by
   rw[DL,if_neg hno,if_neg (by simp[hck]),hlok];rcases hQ with⟨q1,q2⟩|⟨q1,q2,q3⟩
   ·rw[if_pos q1,<-q2];rfl
   rw[if_neg (by simp[q1]),hwk,<-q3,if_pos he2];rfl
  refine Bw (h:=?_);refine AK (NM s hsb ht) ?_;refine m_ (h:=?_);refine A7 (bY rfl ?_);refine m_ (h:=?_);refine A7 (Hr (y:= .agg (Kj {Hf with exit:=LL E2})) (E3 ⟨rfl,rfl⟩) ?_);refine s_ (h:=GF (h:=BH (Bp (?_))));refine AO (r:=OB (DL s pid c)) none (h5:=(by rw[ye];exact(by repeat (first|exact A6 _|exact LeA.nil _|exact LeL.refl _|refine LeA.agg ?_|refine LeA.tup ?_|exact LeL.nil|refine LeL.cons ?_ ?_|exact LeA.any _)))) (h6:=⟨rfl,rfl,rfl⟩)
 have he2:E2=0:=by simpa using kg
 have ye:DL s pid c=(W2.s,W2.r)/\W2.r.items=[]:=by
  rcases hQ with⟨q1,q2⟩|⟨q1,q2,q3⟩
  ·exact absurd (q2.symm.trans he2) q1
  refine⟨?_,?_⟩
  ·rw[DL,if_neg hno,if_neg (by simp[hck]),hlok,if_neg (by simp[q1]),hwk,<-q3,if_neg (by simp[he2]),q2]
  refine List.length_eq_zero_iff.1 ?_;rw[q2,Vw];rfl
 refine AG (q_ (BJ ([(0,WN W2)]) 10 (h:=AE 0 (h:=BA 1 (h:=AA 2 (h:=A9 3 (h:=AE 4 (h:=BA 5 (h:=AA 6 (h:=A9 7 (h:=?_)))))))))));refine Ax 8 (h:=?_);refine Ax 9 (h:=z_ (h:=t_ (BH (?_))));refine AO (r:=OB (DL s pid c)) none (h5:=?_) (h6:=⟨rfl,rfl,rfl⟩);rw[ye.1,OB,Kj,ye.2];exact(by repeat (first|exact A6 _|exact LeA.nil _|exact LeL.refl _|refine LeA.agg ?_|refine LeA.tup ?_|exact LeL.nil|refine LeL.cons ?_ ?_|exact LeA.any _))
theorem Qg(s:Syst)(pid:Int)(c:Cal)(hv:SpcV s.spc)(hm:s.spc.mounts.length<=1000)(ht:TabB s.tab)(htn:Dk s.tab)(hcp:c.paths.length<=1000)(hca:c.args.length<=1000):AFn prog 49 [.agg (Cb s), .v (.int .i64 pid), .agg (GN c)] (fun r=>r=OB (DL s pid c)):=by
 rcases wS c.num with h|h
 ·exact wW s pid c hv hm ht hcp hca h
 exact wY s pid c hv hm ht htn hcp hca h
end
def Hk(ns:List Nod)(i:Int):Option Int:=(ns.find? fun n:Nod=>n.ino==i).map (·.kind)
def Mm(f:AR)(a:A8):Option Int:=match GW f a.1 with
 |none=>none
 |some d=>Hk d.nodes a.2
theorem wZ(f:AR)(a:A8):AU f a=decide (Mm f a=some 2):=by
 have key:∀o:Option Nod,(match o with|none=>false|some n=>n.kind==2)=decide (o.map (·.kind)=some 2):=by
  intro o
  cases o with
  |none=>rfl
  |some n=>by_cases h:n.kind=2<;>simp[h]
 unfold AU Mm C5
 cases GW f a.1 with
 |none=>rfl
 |some d=>exact key _
theorem Ss{j:Int}{g:Nod->Nod}(hi:∀n,(g n).ino=n.ino)(hk:∀n,(g n).kind=n.kind)(i:Int):∀ns:List Nod,Hk (DJ ns j g) i=Hk ns i
 |[]=>rfl
 |n::ns=>by
   have ih:=Ss hi hk (j:=j) i ns;unfold Hk DJ at ih ⊢;rw[List.map_cons,List.find?_cons,List.find?_cons];have e1:(if n.ino=j then g n else n).ino=n.ino:=by split<;>simp[hi]
   have e2:(if n.ino=j then g n else n).kind=n.kind:=by split<;>simp[hk]
   rw[e1]
   cases n.ino==i with
   |true=>simp[e2]
   |false=>exact ih
theorem dV{ns:List Nod}{i j:Int}(h:i≠j):Hk (CK ns j) i=Hk ns i:=by
 unfold Hk CK;rw[List.find?_filter]
 congr 2
 funext n
 by_cases e:n.ino=i
 ·subst e;simp[h]
 simp[e]
theorem OE(ns:List Nod)(p:Int)(name:AD)(ino i:Int):Hk (Bk ns p name ino) i=Hk ns i:=Ss (g:=Ok name ino) (j:=p) (fun _=>rfl) (fun _=>rfl) i ns
theorem x4(ns:List Nod)(a p:Int)(b:Bool)(i:Int):Hk (M4 ns a p b) i=Hk ns i:=by
 unfold M4;split
 ·exact Ss (g:=fun n=>{n with parent:=p}) (j:=a) (fun _=>rfl) (fun _=>rfl) i ns
 rfl
theorem x5{ns:List Nod}{i k:Int}(h:Hk ns i=some k)(m:Nod):Hk (ns++[m]) i=some k:=by
 unfold Hk at h ⊢;rw[List.find?_append]
 cases e:ns.find? fun n:Nod=>n.ino==i with
 |none=>rw[e]at h;simp at h
 |some n=>rw[e]at h;simpa using h
theorem dW{f:AR}{q:Nat}{d d':Dvc}(hq:f[q]?=some d){a:A8}{k:Int}(h:Mm f a=some k)(hd:a.1=(q:Int)->Hk d.nodes a.2=some k->Hk d'.nodes a.2=some k):Mm (f.set q d') a=some k:=by
 unfold Mm at h ⊢;unfold GW at h ⊢;by_cases c:a.1<0
 ·rw[if_pos c]at h;cases h
 rw[if_neg c]at h ⊢;rw[List.getElem?_set];by_cases e:q=a.1.toNat
 ·subst e;have hl:=(AZ.1 hq).1;rw[if_pos rfl,if_pos hl];rw[hq]at h;exact hd (by omega) h
 rw[if_neg e];exact h
theorem Su{f:AR}{q:Nat}{g:List Nod->List Nod}{a:A8}{k:Int}(h:Mm f a=some k)(hd:∀ns,a.1=(q:Int)->Hk ns a.2=some k->Hk (g ns) a.2=some k):Mm (K1 f q g) a=some k:=by
 cases e:f[q]? with
 |none=>
   have:K1 f q g=f:=by
    unfold K1;apply List.ext_getElem?;intro i;rw[List.getElem?_modify];by_cases c:q=i
    ·subst c;rw[e];rfl
    cases f[i]?<;>simp[c]
   rw[this];exact h
 |some d=>
   rw[KY e];exact dW e h (hd d.nodes)
theorem Qh{f g:AR}{a:A8}(h:AU f a=true)(hk:Mm f a=some 2->Mm g a=some 2):AU g a=true:=by
 rw[wZ,decide_eq_true_iff]at h ⊢;exact hk h
theorem x6{f:AR}{dir:A8}{name:AD}{n:Nod}(h0:(Fl f dir name n).2.2=0){a:A8}(h:AU f a=true):AU (Fl f dir name n).1 a=true:=by
 unfold Fl at h0 ⊢;split at h0
 ·rename_i c;exact absurd h0 c
 rename_i c1;rw[if_neg c1];split at h0
 ·exact absurd h0 (by decide)
 rename_i c2;rw[if_neg c2];split at h0
 ·exact absurd h0 (by decide)
 rename_i c3;rw[if_neg c3]
 cases e:GW f dir.1 with
 |none=>rw[e]at h0;exact absurd h0 (by simp)
 |some d=>
   rw[e]at h0;simp only at h0 ⊢;split at h0
   ·exact absurd h0 (by decide)
   rename_i c4;rw[if_neg c4]
   have hq:f[dir.1.toNat]?=some d:=by
    unfold GW at e;split at e
    ·cases e
    exact e
   refine Qh h fun hk=>dW hq hk fun _ hk=>x5 ?_ _;rw[OE];exact hk
theorem x7{f:AR}{dir:A8}{name:AD}{b:A8}(h0:(FU f dir name b).2.2=0){a:A8}(h:AU f a=true):AU (FU f dir name b).1 a=true:=by
 revert h0;unfold FU
 repeat' split
 all_goals first|exact fun h0=>absurd h0 (by assumption)|exact fun h0=>absurd h0 (by decide)|skip
 exact fun _=>Qh h fun hk=>Su hk fun ns _ hn=>(OE ns dir.2 name b.2 a.2).trans hn
theorem dY{f:AR}{dir:A8}{name:AD}{o:A8}(ho:o.1=dir.1){a:A8}(h:AU f a=true)(hne:a≠o)(h0:0<=dir.1):AU (K1 f dir.1.toNat fun ns=>CK (Bk ns dir.2 name 0) o.2) a=true:=
 Qh h fun hk=>Su hk fun ns ha hn=>by
  rw[dV (fun e=>hne (Prod.ext (by rw[ha,ho];omega) e)),OE];exact hn
theorem Vx{f:AR}{dir:A8}{name:AD}(h:(AJ f dir name).2=0):(AJ f dir name).1.1=dir.1:=by
 unfold AJ at h ⊢;split
 ·rename_i e;rw[e]at h;exact absurd h (by simp)
 rename_i n e;rw[e]at h;simp only at h;split at h
 ·rename_i c;rw[if_pos c];split
  ·rename_i e2;rw[e2]at h;exact absurd h (by simp)
  rfl
 exact absurd h (by decide)
theorem Vy{f:AR}{dir:A8}{name:AD}(h:Cr f dir name=0):0<=dir.1:=by
 unfold Cr C5 GW at h;by_cases c:dir.1<0
 ·rw[if_pos c]at h;exact absurd h (by simp)
 omega
theorem x8{f:AR}{dir:A8}{name:AD}(h0:(JL f dir name).2.2=0){a:A8}(h:AU f a=true):AU (JL f dir name).1 a=true:=by
 unfold JL at h0 ⊢;split at h0
 ·rename_i c;exact absurd h0 c
 rename_i c1;rw[if_neg c1];split at h0
 ·rename_i c;exact absurd h0 c
 rename_i c2;rw[if_neg c2];split at h0
 ·exact absurd h0 (by decide)
 rename_i c3;rw[if_neg c3];exact dY (Vx (by omega)) h (fun e=>c3 (by rw[<-e];exact h)) (Vy (f:=f) (name:=name) (by omega))
theorem x9{f:AR}{dir:A8}{name:AD}(h0:(Hc f dir name).2.2=0){a:A8}(h:AU f a=true)(hne:a≠(AJ f dir name).1):AU (Hc f dir name).1 a=true:=by
 unfold Hc at h0 ⊢;split at h0
 ·rename_i c;exact absurd h0 c
 rename_i c1;rw[if_neg c1];split at h0
 ·rename_i c;exact absurd h0 c
 rename_i c2;rw[if_neg c2];split at h0
 ·exact absurd h0 (by decide)
 rename_i c3;rw[if_neg c3];split at h0
 ·exact absurd h0 (by decide)
 rename_i c4;rw[if_neg c4];exact dY (Vx (by omega)) h hne (Vy (f:=f) (name:=name) (by omega))
theorem xA{f:AR}{b:A8}{m u g:Int}(h0:(Gb f b m u g).2=0){a:A8}(h:AU f a=true):AU (Gb f b m u g).1 a=true:=by
 unfold Gb at h0 ⊢;split at h0
 ·exact absurd h0 (by decide)
 rename_i c1;rw[if_neg c1];split at h0
 ·exact absurd h0 (by decide)
 rename_i c2;rw[if_neg c2];exact Qh h fun hk=>Su hk fun ns _ hn=>(Ss (g:=Gw m u g) (j:=b.2) (fun _=>rfl) (fun _=>rfl) a.2 ns).trans hn
theorem xB{f:AR}{src to:A8}{name name2:AD}(h0:(Gd f src name to name2).2.2=0){a:A8}(h:AU f a=true)
    (hne:(AJ f to name2).2=0->(AJ f to name2).1≠(AJ f src name).1->a≠(AJ f to name2).1):AU (Gd f src name to name2).1 a=true:=by
 unfold Gd at h0 ⊢;split at h0
 ·rename_i c;exact absurd h0 c
 rename_i c1;rw[if_neg c1];split at h0
 ·rename_i c;exact absurd h0 c
 rename_i c2;rw[if_neg c2];split at h0
 ·exact absurd h0 (by decide)
 rename_i c3;rw[if_neg c3];split at h0
 ·exact absurd h0 (by decide)
 rename_i c4;rw[if_neg c4];split at h0
 ·rename_i c5;rw[if_pos c5];exact h
 rename_i c5;rw[if_neg c5];split at h0
 ·rename_i c;exact absurd h0 c
 rename_i c6;rw[if_neg c6];refine Qh h fun hk=>?_;dsimp only;refine Su hk fun ns ha hn=>?_;rw[x4];unfold O3;split
 ·rename_i e0;have hd:=Vx e0;have hne':=hne e0 fun e=>c5 ⟨e0,e⟩;have hto:=Vy (Uv (f:=f) (x:=src) (y:=to) (name:=name) (name2:=name2) (by omega)).2;have hk2:a.2≠(AJ f to name2).1.2:=fun e=>hne' (Prod.ext (by rw[ha,hd];omega) e);rw[dV hk2,OE,OE];exact hn
 rw[OE,OE];exact hn
theorem SpcV.keep{s:Spc}(hs:SpcV s){g:AR}(hv:FlsV g)(hl:g.length=s.files.length)(hd:∀a,(CH s a).isSome=true->AU s.files a=true->AU g a=true):SpcV ⟨g,s.mounts⟩:=by
 refine⟨hv,by show 0<g.length;rw[hl];exact hs.pos,fun i m hm=>?_⟩;have h:=hs.mnt i m hm;refine⟨h.dev1,by rw[hl];exact h.dev2,h.fresh,hd _ ?_ h.dir,h.there,h.free⟩;unfold CH;rw[Option.isSome_map,List.find?_isSome];exact⟨m,Aj hm,by simp⟩
structure SysV(s:Syst)(m:Nat):Prop where
 spc:SpcV s.spc
 few:s.spc.mounts.length<=m
 tab:TabB s.tab
 num:Dk s.tab
theorem SysV.mono{s:Syst}{m n:Nat}(h:SysV s m)(hm:m<=n):SysV s n:=⟨h.spc,Nat.le_trans h.few hm,h.tab,h.num⟩
def Fr(w w':Syst):Prop:=∀m,SysV w m->SysV w' (m+1)
theorem PH{t:Tab}(ht:TabB t){p:Prc}(hp:p.opens.length<=8):TabB (Jh t p):=by
 refine⟨by simpa[Jh]using ht.few,fun q hq=>?_,ht.next,ht.nextS⟩;simp only[Jh,List.mem_map]at hq;obtain⟨x,hx,rfl⟩:=hq;split
 ·exact hp
 exact ht.opens x hx
theorem xC{t:Tab}(ht:TabB t)(pid:Int):TabB (Hg t pid).1:=by
 unfold Hg;split
 ·exact Kn
 split
 ·exact Kn
 rename_i c;refine⟨?_,fun q hq=>?_,?_,ht.nextS⟩
 ·show(t.ps++[_]).length<=16;rw[List.length_append,List.length_singleton];omega
 ·rcases List.mem_append.1 hq with hq|hq
  ·exact ht.opens q hq
  rw[List.mem_singleton]at hq;subst hq;exact KC ht pid
 have:=ht.next;show t.next+1<=1073741824;omega
theorem dZ{t:Tab}(ht:TabB t)(pid:Int):TabB (K5 t pid).1:=by
 unfold K5;split
 ·exact Kn
 split
 ·exact Kn
 refine⟨?_,fun q hq=>?_,ht.next,ht.nextS⟩
 ·show((t.ps.filter _).map _).length<=16;rw[List.length_map];exact Nat.le_trans (List.length_filter_le _ _) ht.few
 have hq:q∈(t.ps.filter fun p=>decide (p.pid≠pid)).map (Kd pid):=hq;rw[List.mem_map]at hq;obtain⟨x,hx,rfl⟩:=hq;have h8:=ht.opens x (List.mem_filter.1 hx).1;unfold Kd;split
 ·exact h8
 exact h8
theorem xD{t:Tab}(ht:TabB t)(pid u:Int):TabB (K6 t pid u).1:=by
 unfold K6
 repeat' split
 all_goals first|exact Kn|exact PH ht (KC ht pid)
theorem xE{t:Tab}(ht:TabB t)(pid u:Int):TabB (K7 t pid u).1:=by
 unfold K7
 repeat' split
 all_goals first|exact Kn|exact PH ht (KC ht pid)
theorem xF{t:Tab}(ht:TabB t)(pid u:Int):TabB (Gy t pid u).1:=by
 unfold Gy
 repeat' split
 all_goals first|exact Kn|skip
 rename_i c;have h:=PH ht (p:={AP t pid with auid:=u,ses:=t.nextS}) (KC ht pid);refine⟨h.few,h.opens,h.next,?_⟩;have:=ht.nextS;show t.nextS+1<=1073741824;omega
theorem xG{t:Tab}(ht:TabB t)(pid fd:Int):TabB (LD t pid fd).1:=by
 unfold LD
 repeat' split
 all_goals first|exact Kn|skip
 exact PH ht (Nat.le_trans (List.length_filter_le _ _) (KC ht pid))
theorem xH{t:Tab}(ht:TabB t)(pid:Int)(a:A8):TabB (Le t pid a).1:=by
 unfold Le;split
 ·exact Kn
 exact PH ht (KC ht pid)
theorem xJ{t:Tab}(ht:TabB t)(pid:Int)(a b:AD):TabB (Lf t pid a b).1:=by
 unfold Lf;split
 ·exact Kn
 exact PH ht (KC ht pid)
theorem xK{t:Tab}(ht:TabB t)(pid target:Int)(b:Bool):TabB (Ji t pid target b).1:=by
 unfold Ji
 repeat' split
 all_goals first|exact Kn|exact dZ ht _|exact ht
theorem MG:Dk EZ:=⟨Int.le_refl _,Int.le_refl _⟩
theorem xL{t:Tab}(ht:Dk t)(pid:Int):Dk (Hg t pid).1:=by
 unfold Hg
 repeat' split
 all_goals first|exact MG|(have h1:=ht.1;have h2:=ht.2;exact⟨by show 0<=t.next+1;omega,h2⟩)
theorem eB{t:Tab}(ht:Dk t)(pid:Int):Dk (K5 t pid).1:=by
 unfold K5
 repeat' split
 all_goals first|exact MG|exact ht
theorem xM{t:Tab}(ht:Dk t)(pid u:Int):Dk (K6 t pid u).1:=by
 unfold K6
 repeat' split
 all_goals first|exact MG|exact ht
theorem xN{t:Tab}(ht:Dk t)(pid u:Int):Dk (K7 t pid u).1:=by
 unfold K7
 repeat' split
 all_goals first|exact MG|exact ht
theorem xO{t:Tab}(ht:Dk t)(pid u:Int):Dk (Gy t pid u).1:=by
 unfold Gy
 repeat' split
 all_goals first|exact MG|(have h1:=ht.1;have h2:=ht.2;exact⟨h1,by show 0<=t.nextS+1;omega⟩)
theorem xP{t:Tab}(ht:Dk t)(pid fd:Int):Dk (LD t pid fd).1:=by
 unfold LD
 repeat' split
 all_goals first|exact MG|exact ht
theorem xQ{t:Tab}(ht:Dk t)(pid:Int)(a:A8):Dk (Le t pid a).1:=by
 unfold Le
 repeat' split
 all_goals first|exact MG|exact ht
theorem xR{t:Tab}(ht:Dk t)(pid:Int)(a b:AD):Dk (Lf t pid a b).1:=by
 unfold Lf
 repeat' split
 all_goals first|exact MG|exact ht
theorem xS{t:Tab}(ht:Dk t)(pid target:Int)(b:Bool):Dk (Ji t pid target b).1:=by
 unfold Ji
 repeat' split
 all_goals first|exact MG|exact eB ht _|exact ht
theorem xT{t:Tab}(ht:Dk t)(pid:Int)(a:A8)(fl:Int):Dk (Gz t pid a fl).1:=by
 unfold Gz
 repeat' split
 all_goals first|exact MG|exact ht
theorem eC{w:Wrk}{R:Tab×Int}(h:Dk w.s.tab)(hR:Dk R.1):Dk (CV w R).1.s.tab:=by
 unfold CV;split
 ·exact hR
 exact h
theorem Kq(s:Syst):Fr s s:=fun _ h=>h.mono (Nat.le_succ _)
theorem Mn{w:Wrk}{R:Tab×Int}(hR:∀m,SysV w.s m->TabB R.1/\Dk R.1):Fr w.s (CV w R).1.s:=by
 intro m h;refine⟨by rw[Vn];exact h.spc,by rw[Vn];exact Nat.le_trans h.few (Nat.le_succ _),cQ h.tab (hR m h).1,eC h.num (hR m h).2⟩
theorem PJ{w:Wrk}{R:Fj}(hO:SpcV w.s.spc->O4 w.s.spc.files R)(hd:R.2.2=0->SpcV w.s.spc->∀a,(CH w.s.spc a).isSome=true->AU w.s.spc.files a=true->AU R.1 a=true):Fr w.s (Bf w R).1.s:=by
 intro m h;unfold Bf;split
 ·rename_i h0;obtain⟨k1,k2⟩:=hO h.spc h0;exact⟨h.spc.keep k1 k2 (hd h0 h.spc),Nat.le_trans h.few (Nat.le_succ _),h.tab,h.num⟩
 exact h.mono (Nat.le_succ _)
theorem Vz(w:Wrk)(i:Nat)(n:Nod):Fr w.s (DK w i n).1.s:=by
 unfold DK;split
 ·rename_i h0;exact PJ (w:=w) (R:=GM w i n) (fun h=>Yt h.files _ _ _) fun h0 _ a _ ha=>x6 h0 ha
 exact Kq _
theorem xU(w:Wrk)(i:Nat)(n:Nod):(DK w i n).1.s.spc.mounts=w.s.spc.mounts:=by
 unfold DK;split
 ·show(Bf w _).1.s.spc.mounts=_;unfold Bf;split<;>rfl
 rfl
theorem eD{w w':Wrk}(hw:Fr w'.s w.s)(hmnt:w.s.spc.mounts=w'.s.spc.mounts)(a:A8):Fr w'.s (Lg w a).1.s:=by
 intro m h;have h2:=hw m h;have hspc:(Lg w a).1.s.spc=w.s.spc:=Vn _ _;refine⟨by rw[hspc];exact h2.spc,by rw[hspc,hmnt];exact Nat.le_trans h.few (Nat.le_succ _),?_,?_⟩
 ·unfold Lg;exact cQ (w:=SN w _) h2.tab (uR h2.tab _ _ _)
 unfold Lg;exact eC (w:=SN w _) h2.num (xT h2.num _ _ _)
theorem xV(w:Wrk):Fr w.s (D8 w).1.s:=by
 unfold D8
 repeat' split
 all_goals first|exact Kq _|exact Vz w _ _|exact eD (Kq _) rfl _|exact eD (Vz w _ _) (xU _ _ _) _
theorem xW(w:Wrk):Fr w.s (Gf w).1.s:=by
 unfold Gf
 repeat' split
 all_goals first|exact Kq _|skip
 exact PJ (w:=w) (R:=FU w.s.spc.files _ _ _) (fun h=>Yr h.files _ _ _) fun h0 _ a _ ha=>x7 h0 ha
theorem eF{w:Wrk}{R:Fj}(h:Fr w.s (Bf w R).1.s):Fr w.s (Kg w R).1.s:=by
 unfold Kg;split
 ·exact Kq _
 exact h
theorem xX(w:Wrk):Fr w.s (FW w).1.s:=by
 unfold FW
 repeat' split
 all_goals first|exact Kq _|skip
 ·exact eF (PJ (fun h=>mA h.files _ _) fun h0 _ a _ ha=>x8 h0 ha)
 rename_i c _;refine eF (PJ (fun h=>mB h.files _ _) fun h0 _ a hc ha=>x9 h0 ha ?_);rintro rfl;refine c ?_;unfold K8;rw[hc];rfl
theorem xY{w:Wrk}{R:Fj}{x:A8}(h:Fr w.s (Bf w R).1.s):Fr w.s (M7 w R x).1.s:=by
 unfold M7
 repeat' split
 all_goals first|exact Kq _|exact h
theorem xZ(w:Wrk):Fr w.s (Gg w).1.s:=by
 unfold Gg
 repeat' split
 all_goals first|exact Kq _|skip
 rename_i c;refine xY (PJ (fun h=>Yv h.files _ _ _ _) fun h0 _ a hc ha=>xB h0 ha fun e1 e2 e3=>c ⟨e1,e2,?_,?_⟩)
 ·rw[<-e3];exact ha
 rw[<-e3];unfold K8;rw[hc];rfl
theorem y4{w:Wrk}(b:A8)(x y z:Int):Fr w.s (M8 w (Gb w.s.spc.files b x y z)).1.s:=by
 unfold M8;exact PJ (fun h=>mC h.files _ _ _ _) fun h0 _ a _ ha=>xA h0 ha
theorem y5(w:Wrk):Fr w.s (H0 w).1.s:=by
 unfold H0
 repeat' split
 all_goals first|exact Kq _|exact y4 _ _ _ _
theorem y6(w:Wrk)(dev:Int)(a:A8):Fr w.s (M9 w (Eo w.s.spc dev a)).1.s:=by
 intro m h;unfold M9;split
 ·rename_i h0;obtain⟨k1,k2⟩:=mM h.spc dev a h0;refine⟨k1,?_,h.tab,h.num⟩;show(Eo w.s.spc dev a).1.mounts.length<=m+1;rw[k2];have:=h.few;simp only[List.length_append,List.length_singleton];omega
 exact h.mono (Nat.le_succ _)
theorem y7(w:Wrk)(dev:Int):Fr w.s (MA w (JM w.s.spc dev)).1.s:=by
 intro m h;unfold MA;split
 ·rename_i h0;obtain⟨k1,k2⟩:=qE h.spc dev h0;refine⟨k1,?_,h.tab,h.num⟩;show(JM w.s.spc dev).1.mounts.length<=m+1;rw[k2];exact Nat.le_trans (List.length_filter_le _ _) (Nat.le_trans h.few (Nat.le_succ _))
 exact h.mono (Nat.le_succ _)
theorem y8(w:Wrk):Fr w.s (EC w).1.s:=by
 unfold EC
 repeat' split
 all_goals first|exact Kq _|exact y6 w _ _|exact Mn (fun m h=>⟨xJ h.tab _ _ _,xR h.num _ _ _⟩)|exact Mn (fun m h=>⟨xH h.tab _ _,xQ h.num _ _⟩)
theorem y9(w:Wrk):Fr w.s (H3 w).1.s:=by
 unfold H3
 repeat' split
 all_goals first|exact Kq _|exact Vz w _ _
theorem yA(w:Wrk):Fr w.s (J9 w).1.s:=by
 unfold J9
 repeat' split
 all_goals first|exact Kq _|exact y7 w _
theorem yB(w:Wrk):Fr w.s (Fp w).1.s:=by
 unfold Fp
 repeat' split
 all_goals first
  |exact Kq _
  |exact yA w
  |exact Mn (w:=P3 w _) (R:=((Hg w.s.tab w.p.pid).1,(Hg w.s.tab w.p.pid).2.2)) (fun m h=>⟨xC h.tab _,xL h.num _⟩)
  |exact Mn (fun m h=>⟨dZ h.tab _,eB h.num _⟩)
  |exact Mn (fun m h=>⟨xD h.tab _ _,xM h.num _ _⟩)
  |exact Mn (fun m h=>⟨xE h.tab _ _,xN h.num _ _⟩)
  |exact Mn (fun m h=>⟨xF h.tab _ _,xO h.num _ _⟩)
  |exact Mn (fun m h=>⟨xG h.tab _ _,xP h.num _ _⟩)
  |exact Mn (fun m h=>⟨xK h.tab _ _ _,xS h.num _ _ _⟩)
theorem yC(w:Wrk):Fr w.s (Bb w).1.s:=by
 unfold Bb
 repeat' split
 all_goals first|exact xV w|exact xW w|exact xX w|exact xZ w|exact y5 w|exact y8 w|exact y9 w|exact yB w
theorem Sv{s:Syst}{m:Nat}(h:SysV s m)(pid:Int)(c:Cal):SysV (DL s pid c).1 (m+1):=by
 have ha:=yC (Kh s pid c) m h;unfold DL
 repeat' split
 all_goals first|exact h.mono (Nat.le_succ _)|exact ha
theorem yD(a:A8):TabB (Ov a):=⟨by show(1:Nat)<=16;decide,fun p hp=>by
 simp only[Ov,List.mem_singleton]at hp;subst hp
 exact BG _,by show(2:Int)<=1073741824;decide,by show(1:Int)<=1073741824;decide⟩
theorem yE(a:A8):Dk (Ov a):=⟨by show(0:Int)<=2;decide,by show(0:Int)<=1;decide⟩
theorem yF{n:Int}(h1:1<=n)(h2:n<=3):SysV (Ki n).1 0:=by
 unfold Ki;have h:=Yz h1 h2;split
 ·rename_i c;exfalso;refine c ?_;unfold Gu;split
  ·omega
  rfl
 exact⟨⟨h.1,h.2,fun i m hm=>by cases hm⟩,BG _,yD _,yE _⟩
theorem yG{a b:Nat}(h:a<b):Nat.blt a b=true:=by rw[Nat.blt_eq];exact h
theorem SetAt.sym{α:Type}{x:α}:∀{row:List α} {o:Nat},o<row.length->SetAt row o [x] (row.set o x)
 |[],_,h=>by simp at h
 |y::ys,0,_=>SetAt.here y x ys [] ys (SetAt.nil ys 0)
 |y::ys,o+1,h=>SetAt.there y x ys [] (ys.set o x) o (SetAt.sym (by simpa using h))
theorem yH(n:Int):0<=(C6 n).2.1/\(C6 n).2.1<=2/\0<=(C6 n).2.2.1/\(C6 n).2.2.1<=2/\0<=(C6 n).2.2.2.1/\(C6 n).2.2.2.1<=(C6 n).2.2.2.2/\(C6 n).2.2.2.2<=100:=by
 unfold C6;split
 ·decide
 rename_i h;obtain⟨m,rfl⟩:=Int.eq_ofNat_of_zero_le (show 0<=n by omega);have hm:m<22:=by omega
 have key:∀m,m<22->0<=((GL[m]?).getD (⟨#[]⟩,0,0,0,0)).2.1/\((GL[m]?).getD (⟨#[]⟩,0,0,0,0)).2.1<=2/\0<=((GL[m]?).getD (⟨#[]⟩,0,0,0,0)).2.2.1/\((GL[m]?).getD (⟨#[]⟩,0,0,0,0)).2.2.1<=2/\0<=((GL[m]?).getD (⟨#[]⟩,0,0,0,0)).2.2.2.1/\((GL[m]?).getD (⟨#[]⟩,0,0,0,0)).2.2.2.1<=((GL[m]?).getD (⟨#[]⟩,0,0,0,0)).2.2.2.2/\((GL[m]?).getD (⟨#[]⟩,0,0,0,0)).2.2.2.2<=100:=by decide
 exact key m hm
def Qi(p:Prc)(c:Cal)(r:Res):List AV:=[.v (.int .i64 2), .v (.int .i64 p.pid), .v (.int .i64 p.ppid), .v (.int .i64 p.uid), .v (.int .i64 p.euid), .v (.int .i64 p.gid), .v (.int .i64 p.egid), .v (.int .i64 p.auid), .v (.int .i64 p.ses), .v (.int .i64 p.cwd.1), .v (.int .i64 p.cwd.2), .v (.string p.comm), .v (.string p.exe), .sl 4 (p.opens.map Hj) none, .v (.bool p.audited),
 .v (.int .i64 c.num), .v (.int .i64 c.a0), .v (.int .i64 c.a1), .v (.int .i64 c.a2), .v (.int .i64 c.a3), .sl 1 (c.paths.map DV) none, .sl 1 (c.args.map DV) none, .v (.int .i64 r.exit), .sl 13 (r.items.map Cn) none, .v (.int .i64 0)]
def yJ:List AV:=[.v (.int .i64 0), .v (.int .i64 0), .v (.int .i64 0), .v (.int .i64 0), .v (.int .i64 0), .v (.int .i64 0), .v (.int .i64 0), .v (.int .i64 0), .v (.int .i64 0), .v (.int .i64 0), .v (.int .i64 0), .v (.string ⟨#[]⟩), .v (.string ⟨#[]⟩), .v (.slice none 0 0), .v (.bool false), .v (.int .i64 0), .v (.int .i64 0), .v (.int .i64 0), .v (.int .i64 0), .v (.int .i64 0), .v (.slice none 0 0), .v (.slice none 0 0), .v (.int .i64 0), .v (.slice none 0 0), .v (.int .i64 0)]
theorem yK(s:Syst)(pid:Int)(c:Cal):(DL s pid c).2.items.length<=c.paths.length:=by
 have hw:=(bS s pid c).2.2;have hz:(c.paths.zip (DS c)).length<=c.paths.length:=by rw[List.length_zip];omega
 have h1:(Hi s (AP s.tab pid) c).1.length<=c.paths.length:=by
  have:(Kh s pid c).r.items=(Hi s (AP s.tab pid) c).1:=rfl;rw[this]at hw;omega
 have h2:(Bb (Kh s pid c)).1.r.items.length<=c.paths.length:=by rw[Vw];omega
 unfold DL
 repeat' split
 all_goals first|exact BG _|exact h1|exact h2
section
theorem yL(n:Int):AFn prog 99 [.v (.int .i64 n)] (fun r=>r= .tup [.v (.int .i64 (C6 n).2.1), .v (.int .i64 (C6 n).2.2.1), .v (.int .i64 (C6 n).2.2.2.1), .v (.int .i64 (C6 n).2.2.2.2)]):=by
 refine enter Tryz.func99 rfl rfl rfl rfl rfl 0 rfl ?_;refine w_ (a_ (h:=a_ (h:=a_ (h:=Cl (h:=?_)))));refine AK (Zr n) ?_;refine Ck (h:=s_ (h:=e_ (q_ (E0 12 (h:=AA 0 (h:=A9 1 (h:=AA 2 (h:=A9 3 (h:=AA 4 (h:=A9 5 (h:=AA 6 (h:=A9 7 (h:=B8 8 (h:=B8 9 (h:=B8 10 (h:=B8 11 (h:=z_ (h:=t_ (BH (?_))))))))))))))))))));refine A4 ?_;rfl
theorem Qj(l:List Int)(a:Nat)(ha:a<=10000000000):GenF prog 51 l a [] 300 (fun r=>∃c:Cal,c.paths.length<=1000/\c.args.length<=1000/\r= .agg (GN c)):=by
 refine enter Tryz.func51 rfl rfl rfl rfl rfl 1 rfl ?_;refine w_ (Ck (h:=e_ (Ab (h:=BT (h:=?_)))));refine A7 (B0 0 (hc:=Hd l _ _ (fun _=>true) (by omega) (by rfl) (by rfl) (by rfl)) (hR:=?_));rintro r a1 ha1 ⟨k1,rfl,p1⟩;refine B1 ?_;refine Bd (h:=CP (h:=B2 (h:=?_)));refine AK (yL _) ?_;obtain⟨q1,q2,q3,q4,q5,q6,q7⟩:=yH k1;generalize (C6 k1).2.1=la at q1 q2 q3 q4 q5 q6 q7 ⊢;generalize (C6 k1).2.2.1=lb at q1 q2 q3 q4 q5 q6 q7 ⊢;generalize (C6 k1).2.2.2.1=lc at q1 q2 q3 q4 q5 q6 q7 ⊢;generalize (C6 k1).2.2.2.2=ld at q1 q2 q3 q4 q5 q6 q7 ⊢;obtain⟨na,rfl⟩:=Int.eq_ofNat_of_zero_le q1;obtain⟨nb,rfl⟩:=Int.eq_ofNat_of_zero_le q3;refine Ft (h:=LR (h:=a_ (h:=a_ (h:=a_ (h:=Ay (h:=Cz (h:=?_)))))));refine BL (fun n s=>∃(j b1:Nat) (n0 y0 y1 y2 y3:Int),j<=na/\n=na - j/\b1<=a+1+j/\s=⟨look [(0, .bp 0 0),(2, .bp 1 0),(3, .bp 2 0),(4, .v (.int .i64 (na:Int))),(5, .v (.int .i64 (nb:Int))),(6, .v (.int .i64 lc)),(7, .v (.int .i64 ld)),(8, .v (.int .i64 (j:Int)))],⟨[EE l b1,[.v (.int .i64 0), .v (.int .i64 0), .v (.int .i64 0), .v (.int .i64 0), .v (.int .i64 0), .v (.slice none 0 0), .v (.slice none 0 0)],[.v (.int .i64 n0), .v (.int .i64 y0), .v (.int .i64 y1), .v (.int .i64 y2), .v (.int .i64 y3), .v (.slice none 0 0), .v (.slice none 0 0)]],[]⟩⟩) (na) ((wk 3 0)) (⟨0,_,_,_,_,_,_,by omega,rfl,by omega,rfl⟩) ?_;rintro n s ⟨j,b1,n0,y0,y1,y2,y3,hj,rfl,kd,rfl⟩;refine EH (h:=Ff (h:=?_));refine A3 rfl (fun kd ka=>?_) (fun kd ka=>?_)
 ·refine Bq (h:=HU (h:=BT (h:=?_)));refine A7 (B0 0 (hc:=Hd l _ _ (fun _=>true) (by omega) (by rfl) (by rfl) (by rfl)) (hR:=?_));rintro r a2 ha2 ⟨k2,rfl,p2⟩;refine B1 ?_;refine f_ (h:=?_);refine A7 (CX (len:=4) (sz:=1) (n:=j) (by kernel_rfl) rfl rfl rfl (yG (by omega)) ?_);refine Mz (Es rfl rfl rfl rfl rfl rfl (SetAt.sym (by simp;omega)) (by repeat constructor) ?_);refine Bu (FO (h:=?_));have hj2:j=0\/j=1:=by omega
  rcases hj2 with rfl|rfl
  ·refine⟨_,_,?_,⟨1,_,_,_,_,_,_,by omega,rfl,?_,rfl⟩,(wk 3 0)⟩<;>omega
  refine⟨_,_,?_,⟨2,_,_,_,_,_,_,by omega,rfl,?_,rfl⟩,(wk 3 0)⟩<;>omega
 refine C4 (h:=?_);refine BD (fun s=>∃(b2:Nat) (n1 x0 x1 x2 x3:Int),b2<=a+20/\s=⟨look [(0, .bp 0 0),(2, .bp 1 0),(3, .bp 2 0),(5, .v (.int .i64 (nb:Int))),(6, .v (.int .i64 lc)),(7, .v (.int .i64 ld))],⟨[EE l b2,[.v (.int .i64 0), .v (.int .i64 0), .v (.int .i64 0), .v (.int .i64 0), .v (.int .i64 0), .v (.slice none 0 0), .v (.slice none 0 0)],[.v (.int .i64 n1), .v (.int .i64 x0), .v (.int .i64 x1), .v (.int .i64 x2), .v (.int .i64 x3), .v (.slice none 0 0), .v (.slice none 0 0)]],[]⟩⟩) ?_ ?_
 ·refine B2 (h:=e_ (BF (Az (h:=?_))));refine A3 rfl (fun ke kc=>?_) (fun ke kc=>?_)
  ·refine BU (h:=BT (h:=?_));refine A7 (B0 0 (hc:=Hd l _ _ (fun _=>true) (by omega) (by rfl) (by rfl) (by rfl)) (hR:=?_));rintro r a3 ha3 ⟨k3,rfl,p3⟩;refine B1 ?_;refine m_ (h:=BT (h:=?_));refine A7 (B0 0 (hc:=Hd l _ _ (fun _=>true) (by omega) (by rfl) (by rfl) (by rfl)) (hR:=?_));rintro r a4 ha4 ⟨k4,rfl,p4⟩;refine B1 ?_;refine Bd (h:=Cy (h:=Bu (Bz (AT (?_)))));refine⟨_,⟨_,_,_,_,_,_,?_,rfl⟩,(wk 3 0)⟩<;>omega
  refine Az (h:=?_);refine A3 rfl (fun kh kf=>?_) (fun kh kf=>?_)
  ·refine BU (h:=BT (h:=?_));refine A7 (B0 0 (hc:=Hd l _ _ (fun _=>true) (by omega) (by rfl) (by rfl) (by rfl)) (hR:=?_));rintro r a5 ha5 ⟨k5,rfl,p5⟩;refine B1 ?_;refine f_ (h:=?_);refine A7 (CX (len:=4) (sz:=1) (n:=0) (by kernel_rfl) rfl rfl rfl rfl ?_);refine s_ (h:=Bu (Bz (AT (?_))));refine⟨_,⟨_,_,_,_,_,_,?_,rfl⟩,(wk 3 0)⟩<;>omega
  refine q_ (Az (h:=?_));refine A3 rfl (fun kl kg=>?_) (fun kl kg=>?_)
  ·refine AG (GQ (h:=BU (h:=?_)));refine A7 (B0 0 (hc:=Gn l _ (3) (by omega) (by omega)) (hR:=?_));rintro r a6 ha6 ⟨k6,rfl,p6,q6,o6⟩;refine B1 ?_;refine f_ (h:=?_);refine A7 (CX (len:=4) (sz:=1) (n:=0) (by kernel_rfl) rfl rfl rfl rfl ?_);refine s_ (h:=Bu (Bz (AT (?_))));refine⟨_,⟨_,_,_,_,_,_,?_,rfl⟩,(wk 3 0)⟩<;>omega
  refine Aq (Et (h:=?_));refine A3 rfl (fun ko kk=>?_) (fun ko kk=>?_)
  ·refine BU (h:=?_);refine A7 (B0 0 (hc:=Gn l _ (3) (by omega) (by omega)) (hR:=?_));rintro r a7 ha7 ⟨k7,rfl,p7,q7,o7⟩;refine B1 ?_;refine f_ (h:=?_);refine A7 (CX (len:=4) (sz:=1) (n:=0) (by kernel_rfl) rfl rfl rfl rfl ?_);refine s_ (h:=Bu (Bz (AT (?_))));refine⟨_,⟨_,_,_,_,_,_,?_,rfl⟩,(wk 3 0)⟩<;>omega
  refine Az (h:=?_);refine A3 rfl (fun kq km=>?_) (fun kq km=>?_)
  ·refine BU (h:=?_);refine A7 (B0 0 (hc:=EM l _ (1) (4) (by omega) (by omega) (by omega) (by omega)) (hR:=?_));rintro r a8 ha8 ⟨k8,rfl,p8,q8⟩;refine B1 ?_;refine m_ (h:=BT (h:=?_));refine A7 (B0 0 (hc:=Hd l _ _ (fun _=>true) (by omega) (by rfl) (by rfl) (by rfl)) (hR:=?_));rintro r a9 ha9 ⟨k9,rfl,p9⟩;refine B1 ?_;refine Bd (h:=Cy (h:=Bu (Bz (AT (?_)))));refine⟨_,⟨_,_,_,_,_,_,?_,rfl⟩,(wk 3 0)⟩<;>omega
  refine JE (h:=AT (?_));refine⟨_,⟨_,_,_,_,_,_,?_,rfl⟩,(wk 3 0)⟩<;>omega
 rintro s ⟨b2,n1,x0,x1,x2,x3,ke,rfl⟩;refine Cz (h:=?_);refine MN 2 5 9 1 rfl rfl (by repeat constructor) (by repeat constructor) (by repeat constructor) ?_;refine BL (fun n s=>∃(j b1:Nat) (ps:List AD),j<=nb/\n=nb - j/\b1<=b2+20 * j/\ps.length=j/\s=⟨look [(0, .bp 0 0),(2, .bp 1 0),(3, .bp 2 0),(5, .v (.int .i64 (nb:Int))),(6, .v (.int .i64 lc)),(7, .v (.int .i64 ld)),(9, .v (.int .i64 (j:Int)))],⟨[EE l b1,[.v (.int .i64 0), .v (.int .i64 0), .v (.int .i64 0), .v (.int .i64 0), .v (.int .i64 0), .v (.slice none 0 0), .v (.slice none 0 0)],[.v (.int .i64 n1), .v (.int .i64 x0), .v (.int .i64 x1), .v (.int .i64 x2), .v (.int .i64 x3), .sl 1 (ps.map DV) (some 0), .v (.slice none 0 0)]],[(9,1,ps.map DV)]⟩⟩) (nb) ((wk 3 1)) (⟨0,b2,[],by omega,rfl,by omega,by simp,rfl⟩) ?_;rintro n s ⟨j,b1,ps,hj,rfl,kd,hps,rfl⟩;refine EH (h:=Ff (h:=?_));refine A3 rfl (fun ks kp=>?_) (fun ks kp=>?_)
 ·refine AG (q_ (BF (BJ ([(1,[.v (.int .i64 0), .v (.int .i64 0), .v (.int .i64 0), .v (.int .i64 0), .v (.int .i64 0), .v (.slice none 0 0), .v (.slice none 0 0)]),(2,[.v (.int .i64 n1), .v (.int .i64 x0), .v (.int .i64 x1), .v (.int .i64 x2), .v (.int .i64 x3), .sl 1 (ps.map DV) (some 0), .v (.slice none 0 0)])]) 7 (h:=AA 0 (h:=A9 1 (h:=AE 2 (h:=?_)))))));refine c_ 3 rfl (B0 0 (hc:=mK l _ (by omega)) (hR:=?_));rintro r a10 ha10 ⟨k10,rfl,p10⟩;refine B1 ?_;refine o_ (h:=KR 4 (h:=?_));refine c_ 5 rfl (G7 rfl rfl rfl (by simp<;>omega) (by repeat constructor) ?_);refine o_ (h:=AA 6 (h:=?_));refine Ax 7 (h:=z_ (h:=Bz (t_ (Aq (m_ (h:=Ez (h:=a_ (h:=Bu (AT (?_))))))))));refine⟨_,_,?_,⟨j+1,_,ps++[_],by omega,rfl,?_,?_,rfl⟩,(by rw[List.map_append];exact At 3 1 rfl rfl rfl rfl ((by repeat (first|exact Sub.nil|refine Aw rfl rfl ?_|refine B3 ?_|refine B4 rfl ?_|refine B5 rfl ?_))))⟩
  ·omega
  ·omega
  simp;omega
 refine C4 (h:=Be (h:=Cp (h:=?_)));refine A7 (B0 0 (hc:=EM l _ lc ld (by omega) (by omega) (by omega) (by omega)) (hR:=?_));rintro r a11 ha11 ⟨k0,rfl,p0,p1⟩;refine B1 ?_;obtain⟨m,rfl⟩:=Int.eq_ofNat_of_zero_le (show 0<=k0 by omega);refine Ay (h:=BF (?_));refine MN 2 6 9 1 rfl rfl (by repeat constructor) (by repeat constructor) (by repeat constructor) ?_;refine BL (fun n s=>∃(j b3:Nat) (rs:List AD),j<=m/\n=j/\b3<=b1+1+(m - j)/\rs.length=m - j/\s=⟨look [(0, .bp 0 0),(2, .bp 1 0),(3, .bp 2 0),(10, .v (.int .i64 (j:Int)))],⟨[EE l b3,[.v (.int .i64 0), .v (.int .i64 0), .v (.int .i64 0), .v (.int .i64 0), .v (.int .i64 0), .v (.slice none 0 0), .v (.slice none 0 0)],[.v (.int .i64 n1), .v (.int .i64 x0), .v (.int .i64 x1), .v (.int .i64 x2), .v (.int .i64 x3), .sl 1 (ps.map DV) (some 0), .sl 1 (rs.map DV) (some 1)]],[(9,1,ps.map DV),(9,1,rs.map DV)]⟩⟩) (m) ((wk 3 2)) (⟨m,_,[],by omega,rfl,by omega,by simp,rfl⟩) ?_;rintro n s ⟨j,b3,rs,hj,hn,kh,hrs,rfl⟩;subst n;refine Be (h:=ET (h:=e_ (?_)));refine A3 rfl (fun kt kr=>?_) (fun kt kr=>?_)
 ·refine AG (q_ (BF (BJ ([(1,[.v (.int .i64 0), .v (.int .i64 0), .v (.int .i64 0), .v (.int .i64 0), .v (.int .i64 0), .v (.slice none 0 0), .v (.slice none 0 0)]),(2,[.v (.int .i64 n1), .v (.int .i64 x0), .v (.int .i64 x1), .v (.int .i64 x2), .v (.int .i64 x3), .sl 1 (ps.map DV) (some 0), .sl 1 (rs.map DV) (some 1)])]) 8 (h:=AA 0 (h:=A9 1 (h:=AE 2 (h:=KR 3 (h:=?_))))))));refine c_ 4 rfl (B0 0 (hc:=NG l _ _ (fun _=>true) (by omega) (by rfl) (by rfl) (by rfl)) (hR:=?_));rintro r a12 ha12 ⟨k12,rfl,p12⟩;refine B1 ?_;refine o_ (h:=KR 5 (h:=?_));refine c_ 6 rfl (G7 rfl rfl rfl (by simp<;>omega) (by repeat constructor) ?_);refine o_ (h:=AA 7 (h:=?_));refine Ax 8 (h:=z_ (h:=Bz (t_ (Aq (m_ (h:=LQ (h:=a_ (h:=Bu (AT (?_))))))))));obtain⟨j,rfl⟩:∃i,j=i+1:=⟨j - 1,by omega⟩;refine⟨_,_,?_,⟨j,_,rs++[_],by omega,rfl,?_,?_,rfl⟩,(by rw[List.map_append];exact At 3 2 rfl rfl rfl rfl (by repeat (first|exact Sub.nil|refine Aw rfl rfl ?_|(apply Sub.of;(focus exact rfl);(focus exact LeA.of_eq (vi (by omega)));(focus exact rfl)))))⟩
  ·omega
  ·omega
  simp;omega
 refine C4 (h:=?_);refine BD (fun S=>∃(b9:Nat) (n2 w0 w1 w2 w3:Int),b9<=a+300/\S=⟨look [(2, .bp 1 0),(3, .bp 2 0)],⟨[EE l b9,[.v (.int .i64 0), .v (.int .i64 0), .v (.int .i64 0), .v (.int .i64 0), .v (.int .i64 0), .v (.slice none 0 0), .v (.slice none 0 0)],[.v (.int .i64 n2), .v (.int .i64 w0), .v (.int .i64 w1), .v (.int .i64 w2), .v (.int .i64 w3), .sl 1 (ps.map DV) (some 0), .sl 1 (rs.map DV) (some 1)]],[(9,1,ps.map DV),(9,1,rs.map DV)]⟩⟩) ?_ ?_
 ·refine Ab (h:=?_);refine A7 (B0 0 (hc:=Gn l _ (40) (by omega) (by omega)) (hR:=?_));rintro r a13 ha13 ⟨k13,rfl,p13,q13,o13⟩;refine B1 ?_;refine BO (h:=?_);refine A3 rfl (fun kv ku=>?_) (fun kv ku=>?_)
  ·refine BU (h:=?_);refine A7 (B0 0 (hc:=Gn l _ (2) (by omega) (by omega)) (hR:=?_));rintro r a14 ha14 ⟨k14,rfl,p14,q14,o14⟩;refine B1 ?_;refine m_ (h:=?_);refine A7 (B0 0 (hc:=EM l _ (-1) (33) (by omega) (by omega) (by omega) (by omega)) (hR:=?_));rintro r a15 ha15 ⟨k15,rfl,p15,q15⟩;refine B1 ?_;refine f_ (h:=?_);refine A7 (CX (len:=4) (sz:=1) (n:=3) (by kernel_rfl) rfl rfl rfl rfl ?_);refine s_ (h:=Jf (h:=?_));refine⟨_,⟨_,_,_,_,_,_,?_,rfl⟩,(wk 3 2)⟩;omega
  refine Ci (AT (?_));refine⟨_,⟨_,_,_,_,_,_,?_,rfl⟩,(wk 3 2)⟩;omega
 rintro S ⟨b9,n2,w0,w1,w2,w3,kv,rfl⟩;refine EX (h:=?_);refine AO (r:= .agg (GN ⟨n2,w0,w1,w2,w3,ps,rs⟩)) none (h5:=?_) (h6:=⟨_,rfl,rfl,b9,by omega,rfl,⟨n2,w0,w1,w2,w3,ps,rs⟩,(by show ps.length<=1000;omega),(by show rs.length<=1000;omega),rfl⟩);exact LeA.agg (.cons (A6 _) (.cons (A6 _) (.cons (A6 _) (.cons (A6 _) (.cons (A6 _) (.cons (LeA.tok _ _ _) (.cons (LeA.tok _ _ _) .nil)))))))
theorem Sw(l:List Int)(a:Nat)(t:Tab)(ha:a<=10000000000)(ht:TabB t):GenF prog 50 l a [.agg (Ao t)] 3 (fun r=>∃p:Int,r= .v (.int .i64 p)):=by
 have fa:=ht.few;have hpl:(t.ps.map Ar).length=t.ps.length:=List.length_map _;refine enter Tryz.func50 rfl rfl rfl rfl rfl 1 rfl ?_;refine Ee (h:=Ay (h:=q_ (?_)));refine BD (fun S=>∃(b:Nat) (q:Bool),b<=a+1/\(q=false->0<t.ps.length)/\S=⟨look [(0, .bp 0 0),(3, .bp 1 0),(13, .v (.bool q))],⟨[EE l b,Ao t],[]⟩⟩) ?_ ?_
 ·refine Aq (Gr (h:=Dv (h:=?_)));refine AF false rfl rfl (fun kd ka=>?_) (fun kd ka=>?_)
  ·refine JG (h:=?_);refine⟨_,⟨_,_,?_,?_,rfl⟩,At 2 0 rfl rfl rfl rfl ((by repeat (first|exact Sub.nil|refine Aw rfl rfl ?_|refine B3 ?_|refine B4 rfl ?_|refine B5 rfl ?_)))⟩
   ·omega
   intro q
   (cases q;done)
  refine m_ (h:=?_);refine Ak (B0 0 (hc:=Gn l _ (24) (by omega) (by omega)) (hR:=?_));rintro r a1 ha1 ⟨k1,rfl,p1,q1,o1⟩;refine B1 ?_;refine Df (h:=F9 (h:=?_));refine⟨_,⟨_,_,?_,?_,rfl⟩,At 2 0 rfl rfl rfl rfl ((by repeat (first|exact Sub.nil|refine Aw rfl rfl ?_|refine B3 ?_|refine B4 rfl ?_|refine B5 rfl ?_)))⟩
  ·omega
  intro q;omega
 rintro S ⟨b,q,hb,hq,rfl⟩;refine A3 rfl (fun ke kc=>?_) (fun ke kc=>?_)
 ·refine Ab (h:=?_);refine A7 (B0 0 (hc:=EM l _ (0) (9) (by omega) (by omega) (by omega) (by omega)) (hR:=?_));rintro r a2 ha2 ⟨k2,rfl,p2,q2⟩;refine B1 ?_;refine FN (h:=?_);refine AO none (h5:=(A6 _)) (h6:=⟨_,rfl,rfl,_,?_,rfl,_,rfl⟩)<;>omega
 have hq0:0<t.ps.length:=hq (by assumption);refine AG (q_ (BJ ([(1,Ao t)]) 11 (h:=AA 0 (h:=A9 1 (h:=AE 2 (h:=AA 3 (h:=A9 4 (h:=N1 5 (h:=?_)))))))));refine c_ 6 rfl (B0 0 (hc:=Gn l _ ((t.ps.map Ar).length:Int) (by omega) (by rw[hpl];omega)) (hR:=?_));rintro r a3 ha3 ⟨kn,rfl,p0,q0, -⟩;refine B1 ?_;obtain⟨m,rfl⟩:=Int.eq_ofNat_of_zero_le p0;have hm:m<t.ps.length:=by have:=q0 (by rw[hpl];omega);rw[hpl]at this;omega
 obtain⟨x,hx⟩:∃x,t.ps[m]?=some x:=⟨_,B7 hm⟩;have ya:(t.ps.map Ar)[m]?=some (Ar x):=by rw[List.getElem?_map,hx];rfl
 refine o_ (h:=CE 7 rfl (fun _ hS=>DM (n:=m) rfl rfl rfl ya ⟨rfl,rfl⟩) ?_);refine AA 8 (h:=A9 9 (h:=B8 10 (h:=z_ (h:=t_ (BH (?_))))));refine AO none (h5:=(A6 _)) (h6:=⟨_,rfl,rfl,_,?_,rfl,_,rfl⟩)<;>omega
theorem yM(l:List Int)(a:Nat)(ha:a<=10000000):GenF prog 14 l a [] 6000 (fun r=>∃s,r= .agg (Cb s)/\SysV s 14):=by
 refine enter Tryz.func14 rfl rfl rfl rfl rfl 1 rfl ?_;refine w_ (Ck (h:=e_ (Ab (h:=?_))));refine A7 (B0 0 (hc:=EM l _ (1) (3) (by omega) (by omega) (by omega) (by omega)) (hR:=?_));rintro r a1 ha1 ⟨k1,rfl,p1,q1⟩;refine B1 ?_;refine AK (bB k1) ?_;refine Nl (h:=?_);refine A7 (B0 0 (hc:=EM l _ (3) (14) (by omega) (by omega) (by omega) (by omega)) (hR:=?_));rintro r a2 ha2 ⟨k2,rfl,p2,q2⟩;refine B1 ?_;refine Ay (h:=BF (?_));have hs0:=yF p1 q1;obtain⟨M,rfl⟩:=Int.eq_ofNat_of_zero_le (show 0<=k2 by omega);refine BL (fun n S=>∃(j b:Nat) (s:Syst),j<=M/\n=j/\b+400 * j<=a+2+400 * M/\SysV s (14 - j)/\S=⟨look [(0, .bp 0 0),(2, .bp 1 0),(3, .bp 2 0),(5, .v (.int .i64 (j:Int)))],⟨[EE l b,Lj,Cb s],[]⟩⟩) (M) ((wk 3 0)) (⟨M,_,_,As _,rfl,by omega,hs0.mono (BG _),rfl⟩) ?_;rintro n S ⟨j,b,s,hj,rfl,hb,hs,rfl⟩;refine Be (h:=ET (h:=e_ (?_)));refine A3 rfl (fun kd ka=>?_) (fun kd ka=>?_)
 ·refine AG (q_ (BF (BJ ([(1,Lj)]) 12 (h:=AE 1 (h:=AA 2 (h:=AE 5 (h:=?_)))))));refine Ed 0 3 rfl rfl ?_ ?_
  ·refine Kv rfl rfl rfl ?_;refine o_ (h:=c_ 3 rfl (KN rfl rfl rfl ?_));refine o_ (h:=c_ 4 rfl (B0 0 (hc:=Sw l _ s.tab (by omega) hs.tab) (hR:=?_)));rintro r a3 ha3 ⟨pid,rfl⟩;refine B1 ?_;refine o_ (h:=c_ 6 rfl (B0 0 (hc:=Qj l _ (by omega)) (hR:=?_)));rintro r a4 ha4 ⟨c,hcp,hca,rfl⟩;refine B1 ?_;refine o_ (h:=c_ 7 rfl (AX (Qg s pid c hs.spc (by have:=hs.few;omega) hs.tab hs.num hcp hca) ?_));rintro r rfl;refine o_ (h:=AE 8 (h:=B6 9 (h:=B6 10 (h:=?_))));refine Ax 11 (h:=z_ (h:=Bz (t_ (Aq (m_ (h:=?_))))));refine A7 (Mt rfl rfl (by omega) ?_);refine D4 (h:=?_);refine⟨n - 1,_,by omega,⟨n - 1,_,(DL s pid c).1,by omega,rfl,?_,(Sv hs pid c).mono (by omega),rfl⟩,(by rw[show((n - 1:Nat):Int)=(n:Int) - 1 by omega];exact At 3 0 rfl rfl rfl rfl ((by repeat (first|exact Sub.nil|refine Aw rfl rfl ?_|refine B3 ?_|refine B4 rfl ?_|refine B5 rfl ?_))))⟩;omega
  refine KN rfl rfl rfl ?_;refine o_ (h:=Ed 0 4 rfl rfl ?_ ?_)
  ·refine Kv rfl rfl rfl ?_;refine o_ (h:=c_ 4 rfl (B0 0 (hc:=Sw l _ s.tab (by omega) hs.tab) (hR:=?_)));rintro r a5 ha5 ⟨pid,rfl⟩;refine B1 ?_;refine o_ (h:=c_ 6 rfl (B0 0 (hc:=Qj l _ (by omega)) (hR:=?_)));rintro r a6 ha6 ⟨c,hcp,hca,rfl⟩;refine B1 ?_;refine o_ (h:=c_ 7 rfl (AX (Qg s pid c hs.spc (by have:=hs.few;omega) hs.tab hs.num hcp hca) ?_));rintro r rfl;refine o_ (h:=AE 8 (h:=B6 9 (h:=B6 10 (h:=?_))));refine Ax 11 (h:=z_ (h:=Bz (t_ (Aq (m_ (h:=?_))))));refine A7 (Mt rfl rfl (by omega) ?_);refine D4 (h:=?_);refine⟨n - 1,_,by omega,⟨n - 1,_,(DL s pid c).1,by omega,rfl,?_,(Sv hs pid c).mono (by omega),rfl⟩,(by rw[show((n - 1:Nat):Int)=(n:Int) - 1 by omega];exact At 3 0 rfl rfl rfl rfl ((by repeat (first|exact Sub.nil|refine Aw rfl rfl ?_|refine B3 ?_|refine B4 rfl ?_|refine B5 rfl ?_))))⟩;omega
  refine B0 0 (hc:=Sw l _ s.tab (by omega) hs.tab) (hR:=?_);rintro r a7 ha7 ⟨pid,rfl⟩;refine B1 ?_;refine o_ (h:=Ed 0 6 rfl rfl ?_ ?_)
  ·refine Kv rfl rfl rfl ?_;refine o_ (h:=c_ 6 rfl (B0 0 (hc:=Qj l _ (by omega)) (hR:=?_)));rintro r a8 ha8 ⟨c,hcp,hca,rfl⟩;refine B1 ?_;refine o_ (h:=c_ 7 rfl (AX (Qg s pid c hs.spc (by have:=hs.few;omega) hs.tab hs.num hcp hca) ?_));rintro r rfl;refine o_ (h:=AE 8 (h:=B6 9 (h:=B6 10 (h:=?_))));refine Ax 11 (h:=z_ (h:=Bz (t_ (Aq (m_ (h:=?_))))));refine A7 (Mt rfl rfl (by omega) ?_);refine D4 (h:=?_);refine⟨n - 1,_,by omega,⟨n - 1,_,(DL s pid c).1,by omega,rfl,?_,(Sv hs pid c).mono (by omega),rfl⟩,(by rw[show((n - 1:Nat):Int)=(n:Int) - 1 by omega];exact At 3 0 rfl rfl rfl rfl ((by repeat (first|exact Sub.nil|refine Aw rfl rfl ?_|refine B3 ?_|refine B4 rfl ?_|refine B5 rfl ?_))))⟩;omega
  refine B0 0 (hc:=Qj l _ (by omega)) (hR:=?_);rintro r a9 ha9 ⟨c,hcp,hca,rfl⟩;refine B1 ?_;refine o_ (h:=c_ 0 rfl (Kv rfl rfl rfl ?_));refine o_ (h:=c_ 7 rfl (AX (Qg s pid c hs.spc (by have:=hs.few;omega) hs.tab hs.num hcp hca) ?_));rintro r rfl;refine o_ (h:=AE 8 (h:=B6 9 (h:=B6 10 (h:=?_))));refine Ax 11 (h:=z_ (h:=Bz (t_ (Aq (m_ (h:=?_))))));refine A7 (Mt rfl rfl (by omega) ?_);refine D4 (h:=?_);refine⟨n - 1,_,by omega,⟨n - 1,_,(DL s pid c).1,by omega,rfl,?_,(Sv hs pid c).mono (by omega),rfl⟩,(by rw[show((n - 1:Nat):Int)=(n:Int) - 1 by omega];exact At 3 0 rfl rfl rfl rfl ((by repeat (first|exact Sub.nil|refine Aw rfl rfl ?_|refine B3 ?_|refine B4 rfl ?_|refine B5 rfl ?_))))⟩;omega
 refine C4 (h:=EX (h:=?_));refine AO none (h5:=(A6 _)) (h6:=⟨_,rfl,rfl,b,by omega,rfl,s,rfl,hs.mono (by omega)⟩)
theorem yN(l:List Int)(a:Nat)(s:Syst)(ha:a<=100000000)(hs:SysV s 900):GenF prog 13 l a [.agg (Cb s)] 400 (fun r=>∃(pid:Int) (c:Cal) (p:Prc),c.paths.length<=1000/\c.args.length<=1000/\r= .tup [.agg (Qi p c (DL s pid c).2), .agg (Cb (DL s pid c).1), .agg (Kj (DL s pid c).2)]):=by
 have fa:=hs.tab.few;refine enter Tryz.func13 rfl rfl rfl rfl rfl 1 rfl ?_;refine E5 (h:=Ck (h:=Ck (h:=e_ (Ab (h:=Ac (h:=?_))))));refine A7 (B0 0 (hc:=Sw l _ s.tab (by omega) hs.tab) (hR:=?_));rintro r a1 ha1 ⟨pid,rfl⟩;refine B1 ?_;refine m_ (h:=?_);refine A7 (B0 0 (hc:=Qj l _ (by omega)) (hR:=?_));rintro r a2 ha2 ⟨c,hcp,hca,rfl⟩;refine B1 ?_;refine Ck (h:=a_ (h:=GF (h:=Fy (h:=l_ (h:=?_)))));refine AK (Qg s pid c hs.spc (by have:=hs.few;omega) hs.tab hs.num hcp hca) ?_;refine Ft (h:=Ck (h:=Lt (h:=GF (h:=Bw (h:=Je (h:=?_))))));refine A7 (Hr (y:= .agg (Qi VO c (DL s pid c).2)) (E3 ⟨rfl,rfl⟩) ?_);refine CP (h:=Cz (h:=?_));obtain⟨b1,kd⟩:∃b,b=a2:=⟨_,rfl⟩;subst kd;refine BL (fun n S=>∃(j:Nat) (p:Prc),j<=s.tab.ps.length/\n=s.tab.ps.length - j/\S=⟨look [(0, .bp 0 0),(3, .bp 1 0),(4, .bp 2 0),(5, .bp 3 0),(6, .bp 4 0),(7, .v (.int .i64 pid)),(9, .bp 6 0),(10, .bp 7 0),(11, .bp 8 0),(12, .v (.int .i64 (j:Int)))],⟨[EE l b1,Cb s,yJ,Lj,Mi,GN c,Cb (DL s pid c).1,Kj (DL s pid c).2,Qi p c (DL s pid c).2],[]⟩⟩) (s.tab.ps.length) ((wk 9 0)) (⟨0,VO,BG _,rfl,rfl⟩) ?_;rintro n S ⟨j,p,hj,rfl,rfl⟩;refine Be (h:=E4 (h:=JD (h:=?_)));refine A3 rfl (fun kd ka=>?_) (fun kd ka=>?_)
 ·obtain⟨hlt,x,hy,ya, -⟩:=Bx Ar ka;refine Bq (h:=w_ (E4 (h:=m_ (h:=i_ (h:=Eu (h:=BO (h:=?_)))))));refine A3 rfl (fun ke kc=>?_) (fun ke kc=>?_)
  ·refine Aq (E4 (h:=m_ (h:=E6 (h:=Cy (h:=Bu (FO (h:=?_)))))));exact⟨s.tab.ps.length - (j+1),_,by omega,⟨j+1,x,by omega,rfl,rfl⟩,At 9 0 rfl rfl rfl rfl ((by repeat (first|exact Sub.nil|refine Aw rfl rfl ?_|refine B3 ?_|refine B4 rfl ?_|refine B5 rfl ?_)))⟩
  refine Dg (h:=?_);exact⟨s.tab.ps.length - (j+1),_,by omega,⟨j+1,p,by omega,rfl,rfl⟩,At 9 0 rfl rfl rfl rfl ((by repeat (first|exact Sub.nil|refine Aw rfl rfl ?_|refine B3 ?_|refine B4 rfl ?_|refine B5 rfl ?_)))⟩
 refine Ll (H5 (H5 (Ku (t_ (q_ (BJ ([(0,EE l b1),(1,Cb s),(5,GN c),(6,Cb (DL s pid c).1),(7,Kj (DL s pid c).2),(8,Qi p c (DL s pid c).2)]) 6 (h:=A9 0 (h:=A9 1 (h:=A9 2 (h:=?_))))))))));refine Ax 3 (h:=?_);refine Ax 4 (h:=?_);refine Ax 5 (h:=z_ (h:=t_ (BH (?_))));refine AO none (h5:=(A6 _)) (h6:=⟨_,rfl,rfl,_,?_,rfl,pid,c,p,hcp,hca,rfl⟩);omega
end
def PK(v:Vdt):List Value:=[.bool v.sel, .int .i64 v.rule, .string v.key]
set_option maxRecDepth 10000 in
set_option maxHeartbeats 1000000 in
theorem yO(op:BinOp)(x:Vdt)(w:World)(h:op= .eql\/op= .neq):(binOp op 67 (.agg (PK x).toArray) (.agg (PK x).toArray)).run prog w= .ok (.bool (decide (op= .eql))) w:=by
 have u3:=Tryz.underlying3;have a3:=Tryz.isAgg3;have z3:=Tryz.sizeOf3;have u4:=Tryz.underlying4;have a4:=Tryz.isAgg4;have z4:=Tryz.sizeOf4;have u9:=Tryz.underlying9;have a9:=Tryz.isAgg9;have z9:=Tryz.sizeOf9;have hS:prog.underlying 67=some (.struct (prog.fieldsOf 67)):=by kernel_rfl
 have hp:prog.stoodInHeld 67=false:=by kernel_rfl
 have e:∀w,(Op.equalIn 10000 67 (.agg (PK x).toArray) (.agg (PK x).toArray)).run prog w= .ok true w:=by
  intro w;rw[show(10000:Nat)=9999+1 from rfl,run_equalIn_agg w 9999 67 _ _ hS hp];simp only[Program.fieldsOf,Tryz.underlying67,PK]
  go_simp
 rcases h with rfl|rfl
 ·rw[run_eql_struct,e];rfl
 rw[run_neq_struct,e];rfl
theorem eG(x:Vdt):AllV (Gk x) (PK x):=by repeat constructor
theorem OF{ev:Operand->Option AV}{h:AH}{R:AV->AH->Prop}{d:Option Tmp}{ty:TypeId}{pos:String}{af:Array Edge}{gd:Option (Nat×Bool)}{yT:TypeId}{x y:Operand}(z:Vdt)(hx:ev x=some (.agg (Gk z)))(hy:ev y=some (.agg (Gk z)))(hR:R (.v (.bool true)) h):AStep prog ⟨d, .binOp .eql 67 x y yT,ty,pos,af,gd⟩ ev h R:=
 Jk hx hy (eG z) (eG z) (fun w=>yO .eql z w (.inl rfl)) (by kernel_rfl) hR
theorem yP(p:Prc)(c:Cal)(r:Res):∃(c':Ctx) (k':Cxs),Qi p c r=EK c' k'/\c'.items.length=r.items.length:=
 ⟨⟨2,p.pid,p.ppid,p.uid,p.euid,p.gid,p.egid,p.auid,p.ses,p.cwd,p.comm,p.exe,p.audited,c.num,c.a0,c.a1,c.a2,c.a3,r.exit,r.items,0⟩,⟨p.opens.map Hj,c.paths.map DV,c.args.map DV⟩,rfl,rfl⟩
theorem yQ(l:List Int)(a:Nat)(s:Syst)(ha:a<=100000000)(hs:SysV s 900):GenF prog 13 l a [.agg (Cb s)] 400 (fun r=>∃(c:Ctx) (k:Cxs) (s1:Syst) (r1:Res),c.items.length<=1000/\r= .tup [.agg (EK c k), .agg (Cb s1), .agg (Kj r1)]):=
 (yN l a s ha hs).mono (As _) fun r ⟨pid,c,p,hp,_,e⟩=>by
   obtain⟨c',k',e1,e2⟩:=yP p c (DL s pid c).2;exact⟨c',k',_,_,by rw[e2];exact Nat.le_trans (yK s pid c) hp,by rw[e,e1]⟩
def cT(c:Ctx):Ctx:={c with audited:=true}
theorem Sx{α:Type}{p p':Nat->α->Bool}(x:α):∀(l:List α) (i:Nat),(∀k y,l[k]?=some y->p' (i+k) y=p (i+k) y)->0<=DQ p l i->DQ p' (l++[x]) i=DQ p l i
 |[],i,_,h=>by simp[DQ]at h
 |y::ys,i,h,h0=>by
   have hy:p' i y=p i y:=by simpa using h 0 y rfl
   rw[List.cons_append,DQ,DQ,hy];rw[DQ]at h0;split
   ·rfl
   rename_i c;rw[if_neg c]at h0;exact Sx x ys (i+1) (fun k z hz=>by have:=h (k+1) z (by simpa using hz);rwa [show i+(k+1)=i+1+k by omega]at this) h0
theorem W8{l:List Rul}{x:Rul}{i:Int}(hi:Sm l i)(h0:0<=i):Fq (l++[x]) i=Fq l i:=by
 rcases hi with h|⟨k,r,rfl,hr⟩
 ·omega
 rw[Vr hr,Vr (r:=r) (by rw[DD (AZ.1 hr).1];exact hr)]
theorem eH{l:List Rul}{i:Int}(h:i<0):(Fq l i).rule= -1:=by rw[Sl h];rfl
theorem yR{p q:Pol}{r:Rul}{c:Ctx}(hq:q.rules=p.rules++[r]):(Fq p.rules (KH p c)).rule= -1\/Fq p.rules (KH p c)=Fq q.rules (KH q c):=by
 by_cases h:KH p c<0
 ·exact .inl (eH h)
 have h0:0<=KH p c:=by omega
 refine .inr ?_;rw[show KH q c=KH p c by unfold KH at h0 ⊢;rw[hq];exact Sx r _ _ (fun _ _ _=>rfl) h0,hq];exact(W8 (PF _ _) h0).symm
theorem yS{p q:Pol}{r:Rul}{c:Ctx}{b:Bool}(hq:q.rules=p.rules++[r]):(NR p.rules b (Mj p c)).rule= -1\/NR p.rules b (Mj p c)=NR q.rules b (Mj q c):=by
 unfold NR;by_cases hb:b=false
 ·exact .inl (by rw[if_pos hb];rfl)
 rw[if_neg hb,if_neg hb];by_cases h:Mj p c<0
 ·exact .inl (by rw[if_pos h])
 have h0:0<=Mj p c:=by omega
 refine .inr ?_;rw[show Mj q c=Mj p c by unfold Mj at h0 ⊢;rw[hq];exact Sx r _ _ (fun _ _ _=>rfl) h0,if_neg h,if_neg h,hq];exact(W8 (PF _ _) h0).symm
theorem yU{s:Spc}{p q:Pol}{r:Rul}{w:Wch}{c:Ctx}(hq:q.rules=p.rules++[r])(hw:q.wats=p.wats++[w])(hl:p.wats.length=p.rules.length):(Fq p.rules (KK s p c)).rule= -1\/Fq p.rules (KK s p c)=Fq q.rules (KK s q c):=by
 by_cases h:KK s p c<0
 ·exact .inl (eH h)
 have h0:0<=KK s p c:=by omega
 refine .inr ?_
 have hh:JR s q c.items=JR s p c.items++[PG s r w c.items]:=by
  unfold JR;rw[hq,hw,List.zipWith_append hl.symm];rfl
 rw[show KK s q c=KK s p c by
  unfold KK at h0 ⊢;rw[hq,hh];refine Sx r _ _ (fun k y hy=>?_) h0;have hk:k<p.rules.length:=(AZ.1 hy).1;unfold Ly Od
  rw[DD (by rw[d8 hl];omega)],hq]
 exact(W8 (PF _ _) h0).symm
end Go.Proofs.YtbgnigjfkbmceaaGreatDoor
