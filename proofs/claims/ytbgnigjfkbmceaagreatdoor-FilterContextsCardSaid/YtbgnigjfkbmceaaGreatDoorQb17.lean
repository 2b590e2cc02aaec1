/-
  Part 17 of the proof of FilterContextsP: what the statement's proof uses of the texts in wip/tpl.
-/
import Derived.Test.YtbgnigjfkbmceaaGreatDoorQb16
open Go.Proofs.Tryz (prog)
set_option maxRecDepth 10000
set_option maxHeartbeats 4000000
set_option linter.unusedVariables false
set_option linter.unusedSimpArgs false
namespace Go.Proofs.YtbgnigjfkbmceaaGreatDoor
open Go.RowKit
def Nr:Rul:=⟨2,2,1,[⟨3,1,0,⟨#[]⟩,0⟩],0,⟨#[]⟩,0,⟨#[]⟩⟩
def Ns:Rul:=⟨3,1,1,[],0,⟨#[]⟩,0,⟨#[107]⟩⟩
def FR:List Rul:=[Nr,Ns]
def FS:Pol:=⟨FR,[Dl,Dl]⟩
def H3(u:Int):Ctx:={dU u with audited:=true}
theorem V5:∀r∈FR,DA r:=by
 intro r hr;simp[FR]at hr;rcases hr with rfl|rfl<;>exact⟨by decide,by decide,by decide,by decide⟩
theorem fM(s:Spc):GY s FR=(FS,0):=by
 have hp:∀r∈FR,Ca s r=(Dl,0):=by
  intro r hr;simp[FR]at hr;rcases hr with rfl|rfl<;>exact if_pos rfl
 rw[Ug (by decide) fun r hr=>by rw[hp r hr]]
 have:EV s FR=[Dl,Dl]:=by
  simp[EV,FR,hp Nr (by simp[FR]),hp Ns (by simp[FR])]
 rw[this];rfl
theorem fN(s:Spc):FQ s FS (H3 0)=⟨false,0,⟨#[]⟩⟩:=by
 rw[FQ,if_neg (by decide),if_pos (by decide)];decide
theorem fO(s:Spc):FQ s FS (H3 5)=⟨true,1,⟨#[107]⟩⟩:=by
 rw[FQ,if_neg (by decide),if_neg (by decide),Jg];rw[show Ek s FS (H3 5).items=[false,false] by simp[Ek,FS,FR,Nr,Ns,J6]];decide
theorem fP:(G5 1).2=0:=by decide+kernel
section
theorem fQ:AFn prog 34 [] (fun x=>x= .v (.bool true)):=by
 have hnew:AFn prog 60 [.v (.int .i64 1)] (fun r=>r= .tup [.agg (U2 (G5 1).1), .v (.int .i64 0)]):=(cM 1).mono fun r hr=>by rw[hr,Nd,fP]
 have hv:=Ui.1.v;have hm:=Ui.1.m;obtain⟨S0,hS0⟩:∃S,S=(G5 1).1:=⟨_,rfl⟩;rw[←hS0]at hnew hv hm;clear hS0;have hmm:S0.spc.mounts.length≤1000:=by omega
 have ht:∀r∈FS.rules,r.tests.length≤1000:=fun r hr=>(V5 r hr).2.2.2;have hload:AFn prog 41 [.sl 8 (FR.map Ak) none, .agg (Aj S0.spc)] (fun r=>r= .tup [.agg (Bb FS), .v (.int .i64 0)]):=(eG S0.spc FR hv hmm (by decide) V5).mono fun r hr=>by rw[hr,fM];rfl
 have hd0:AFn prog 26 [.agg (Bb FS), .agg (Aj S0.spc), .agg (Bf (H3 0) KS)] (fun r=>r= .agg [.v (.bool false), .v (.int .i64 0), .v (.string ⟨#[]⟩)]):=(QS S0.spc FS (H3 0) KS (hv.b hmm) (by decide) rfl ht (by decide)).mono fun r hr=>by rw[hr,fN];rfl
 have hd5:AFn prog 26 [.agg (Bb FS), .agg (Aj S0.spc), .agg (Bf (H3 5) KS)] (fun r=>r= .agg [.v (.bool true), .v (.int .i64 1), .v (.string ⟨#[107]⟩)]):=(QS S0.spc FS (H3 5) KS (hv.b hmm) (by decide) rfl ht (by decide)).mono fun r hr=>by rw[hr,fO];rfl
 refine enter Tryz.func34 rfl rfl rfl rfl rfl 0 rfl ?_;refine w_ (a_ (h:=e_ (w_ (?_))));refine A6 rfl (AB (hnew) ?_);rintro r rfl;refine m_ (h:=x_ (h:=x_ (h:=Aa (h:=s_ (h:=a_ (h:=e_ (w_ (AX (h:=BX (h:=?_))))))))));refine A6 rfl (Hj (y:= .agg (Ak Nr)) (EE ⟨rfl,rfl⟩) ?_);refine A6 rfl (Hj (y:= .agg (Ak Ns)) (EE ⟨rfl,rfl⟩) ?_);refine BX (h:=a_ (h:=e_ (w_ (m_ (h:=f_ (h:=l_ (h:=?_)))))));refine A6 rfl (AB (hload) ?_);rintro r rfl;refine m_ (h:=x_ (h:=x_ (h:=Aa (h:=s_ (h:=a_ (h:=e_ (w_ (l_ (h:=f_ (h:=l_ (h:=AX (h:=?_))))))))))));refine A6 rfl (Hj (y:= .agg (Bf (H3 0) KS)) (EE ⟨rfl,rfl⟩) ?_);refine A6 rfl (AB (hd0) ?_);rintro r rfl;refine Aa (h:=s_ (h:=e_ (w_ (l_ (h:=f_ (h:=l_ (h:=AX (h:=?_))))))));refine A6 rfl (Hj (y:= .agg (Bf (H3 5) KS)) (EE ⟨rfl,rfl⟩) ?_);refine A6 rfl (AB (hd5) ?_);rintro r rfl;refine Aa (h:=s_ (h:=e_ (w_ (m_ (h:=AK (h:=m_ (h:=?_)))))));refine AT true rfl rfl (fun hb1=>?_) (fun hb1=>?_)
 ·have hc1:=bp hb1;refine f_ (h:=l_ (h:=B7 (h:=AA (h:=m_ (h:=?_)))));refine AT true rfl rfl (fun hb2=>?_) (fun hb2=>?_)
  ·have hc2:=bp hb2;refine f_ (h:=l_ (h:=AK (h:=AA (h:=m_ (h:=?_)))));refine AT true rfl rfl (fun hb3=>?_) (fun hb3=>?_)
   ·have hc3:=bp hb3;refine f_ (h:=l_ (h:=AA (h:=m_ (h:=?_))));refine AT true rfl rfl (fun hb4=>?_) (fun hb4=>?_)
    ·have hc4:=bp hb4;refine f_ (h:=l_ (h:=AK (h:=AA (h:=m_ (h:=?_)))));refine AT true rfl rfl (fun hb5=>?_) (fun hb5=>?_)
     ·have hc5:=bp hb5;refine f_ (h:=l_ (h:=AK (h:=AA (h:=a_ (h:=e_ (A4 (?_)))))));refine A7 ?_
      first|rfl|(exfalso;first|contradiction|omega)|exact vb (by simp)
     have hc5:=bp hb5;refine A3 (h:=A3 (h:=A3 (h:=AE (h:=a_ (h:=e_ (A4 (?_)))))));refine A7 ?_
     first|rfl|(exfalso;first|contradiction|omega)|exact vb (by simp)
    have hc4:=bp hb4;refine A3 (h:=A3 (h:=A3 (h:=AE (h:=m_ (h:=A3 (h:=A3 (h:=A3 (h:=AE (h:=a_ (h:=e_ (A4 (?_))))))))))));refine A7 ?_
    first|rfl|(exfalso;first|contradiction|omega)|exact vb (by simp)
   have hc3:=bp hb3;refine A3 (h:=A3 (h:=AE (h:=m_ (h:=A3 (h:=A3 (h:=A3 (h:=AE (h:=m_ (h:=A3 (h:=A3 (h:=A3 (h:=AE (h:=a_ (h:=e_ (A4 (?_))))))))))))))));refine A7 ?_
   first|rfl|(exfalso;first|contradiction|omega)|exact vb (by simp)
  have hc2:=bp hb2;refine A3 (h:=A3 (h:=A3 (h:=AE (h:=m_ (h:=A3 (h:=A3 (h:=AE (h:=m_ (h:=A3 (h:=A3 (h:=A3 (h:=AE (h:=m_ (h:=A3 (h:=A3 (h:=A3 (h:=AE (h:=a_ (h:=e_ (A4 (?_)))))))))))))))))))));refine A7 ?_
  first|rfl|(exfalso;first|contradiction|omega)|exact vb (by simp)
 have hc1:=bp hb1;refine A3 (h:=A3 (h:=A3 (h:=AE (h:=m_ (h:=A3 (h:=A3 (h:=A3 (h:=AE (h:=m_ (h:=A3 (h:=A3 (h:=AE (h:=m_ (h:=A3 (h:=A3 (h:=A3 (h:=AE (h:=m_ (h:=A3 (h:=A3 (h:=A3 (h:=AE (h:=a_ (h:=?_))))))))))))))))))))))));refine e_ (A4 (?_));refine A7 ?_
 first|rfl|(exfalso;first|contradiction|omega)|exact vb (by simp)
end
structure SmP(p:Pol):Prop where
 rl:p.rules.length≤1000
 wl:p.wats.length≤1000
 ts:∀r∈p.rules,r.tests.length≤1000
theorem PolOk.sm{s:Spc}{p:Pol}{n:Nat}(h:PolOk s p n)(hn:n≤1000):SmP p:=⟨Nat.le_trans h.lst.len hn,by rw[h.len];exact Nat.le_trans h.lst.len hn,fun r hr=>(h.lst.ins r hr).2.2.2⟩
def Df(l:List Rul)(i:Int):Int:=match l[i.toNat]? with|some r=>r.action|none=>0
def Ga(l:List Rul)(i:Int):Bool:=decide (i<0)|| !decide (Df l i=2)
def H4(l:List Rul)(b:Bool)(i:Int):Vdt:=if b=false then J5 else if i<0 then⟨true, -1,⟨#[]⟩⟩else Ej l i
def El(t:Int):Bool:=decide (t=1005)||decide (t=1300)||decide (t=1306)||decide (t=1307)||decide (t=1302)||decide (t=1309)
def Lr(c:Ctx)(t:Int):Ctx:={c with typ:=t}
def V6(p:Pol)(c:Ctx)(t:Int):Int:=CX (DH 5 [] (Lr c t)) p.rules 0
def Ez(l:List Rul)(t i:Int):Bool:=El t&&(decide (0≤i)&&decide (Df l i=1))
section
variable (p:Pol)(c:Ctx)(k:Cxs)(h1:p.rules.length≤1000)(ht:∀r∈p.rules,r.tests.length≤1000)(hit:c.items.length≤1000)
include h1 ht hit
theorem fR(i:Int)(hI:Ur p c=i):AFn prog 28 [.agg (Bb p), .agg (Bf c k)] (fun x=>x= .v (.bool (Ga p.rules i))):=by
 have hin:H0 p.rules i:=hI ▸ GZ _ _;have hf:AFn prog 16 [.sl 8 (p.rules.map Ak) none, .v (.int .i64 1), .sl 1 [] none, .agg (Bf c k)] (fun x=>x= .v (.int .i64 i)):=by rw[←hI];exact Kx p.rules 1 [] c k h1 hit ht
 refine enter Tryz.func28 rfl rfl rfl rfl rfl 0 rfl ?_;refine w_ (b_ (h:=b_ (h:=a_ (h:=e_ (w_ (f_ (h:=l_ (h:=l_ (h:=?_)))))))));refine A6 rfl (AB (hf) ?_);rintro r rfl;refine a_ (h:=e_ (w_ (m_ (h:=B4 (h:=m_ (h:=?_))))));refine AT false rfl rfl (fun hb1=>?_) (fun hb1=>?_)
 ·have hc1:=bp hb1;refine A3 (h:=A3 (h:=A3 (h:=A3 (h:=A3 (h:=A3 (h:=A3 (h:=AA (h:=a_ (h:=e_ (A4 (?_)))))))))));refine A7 ?_
  first|(exfalso;first|contradiction|omega)|(exact vb (by first|(simp_all [Ga,Df];done)|(simp_all [Ga,Df];intro h;omega)))
 have hc1:=bp hb1;rcases hin with hneg|⟨q,r,rfl,hr⟩
 ·exact absurd hneg (by omega)
 have hrow:(p.rules.map Ak)[q]?=some (Ak r):=by rw[List.getElem?_map,hr];rfl
 have hlt:q<p.rules.length:=(Al.1 hr).1;refine f_ (h:=l_ (h:=m_ (h:=i_ (h:=f_ (h:=l_ (h:=Ao (h:=AE (h:=a_ (h:=e_ (A4 (?_)))))))))));refine A7 ?_
 first|(exfalso;first|contradiction|omega)|(exact vb (by first|(simp_all [Ga,Df];done)|(simp_all [Ga,Df];intro h;omega)))
theorem fS(i:Int)(hI:Ur p c=i):AFn prog 29 [.agg (Bb p), .agg (Bf c k)] (fun x=>x= .v (.bool (Ga p.rules i))):=by
 have hin:H0 p.rules i:=hI ▸ GZ _ _;have hf:AFn prog 18 [.sl 8 (p.rules.map Ak) none, .v (.int .i64 1), .sl 1 [] none, .agg (Bf c k)] (fun x=>x= .v (.int .i64 i)):=by rw[←hI];exact Ky p.rules 1 [] c k h1 hit ht
 refine enter Tryz.func29 rfl rfl rfl rfl rfl 0 rfl ?_;refine w_ (b_ (h:=b_ (h:=a_ (h:=e_ (w_ (f_ (h:=l_ (h:=l_ (h:=?_)))))))));refine A6 rfl (AB (hf) ?_);rintro r rfl;refine a_ (h:=e_ (w_ (m_ (h:=B4 (h:=m_ (h:=?_))))));refine AT false rfl rfl (fun hb1=>?_) (fun hb1=>?_)
 ·have hc1:=bp hb1;refine A3 (h:=A3 (h:=A3 (h:=A3 (h:=A3 (h:=A3 (h:=A3 (h:=AA (h:=a_ (h:=e_ (A4 (?_)))))))))));refine A7 ?_
  first|(exfalso;first|contradiction|omega)|(exact vb (by first|(simp_all [Ga,Df];done)|(simp_all [Ga,Df];intro h;omega)))
 have hc1:=bp hb1;rcases hin with hneg|⟨q,r,rfl,hr⟩
 ·exact absurd hneg (by omega)
 have hrow:(p.rules.map Ak)[q]?=some (Ak r):=by rw[List.getElem?_map,hr];rfl
 have hlt:q<p.rules.length:=(Al.1 hr).1;refine f_ (h:=l_ (h:=m_ (h:=i_ (h:=f_ (h:=l_ (h:=Ao (h:=AE (h:=a_ (h:=e_ (A4 (?_)))))))))));refine A7 ?_
 first|(exfalso;first|contradiction|omega)|(exact vb (by first|(simp_all [Ga,Df];done)|(simp_all [Ga,Df];intro h;omega)))
theorem fT(i:Int)(hI:QP p c=i):AFn prog 30 [.agg (Bb p), .agg (Bf c k)] (fun x=>x= .agg (EB (H4 p.rules c.audited i))):=by
 have hin:H0 p.rules i:=hI ▸ GZ _ _;have hf:AFn prog 16 [.sl 8 (p.rules.map Ak) none, .v (.int .i64 4), .sl 1 [] none, .agg (Bf c k)] (fun x=>x= .v (.int .i64 i)):=by rw[←hI];exact Kx p.rules 4 [] c k h1 hit ht
 refine enter Tryz.func30 rfl rfl rfl rfl rfl 0 rfl ?_;refine w_ (b_ (h:=b_ (h:=Aa (h:=e_ (q_ (w_ (f_ (h:=f_ (h:=l_ (h:=B7 (h:=e_ (?_))))))))))));refine A9 rfl (fun hb1=>?_) (fun hb1=>?_)
 ·have hc1:=bp hb1;have k1:c.audited=false:=by simpa using hc1
  refine w_ (l_ (h:=?_));refine A6 rfl (AB (Lo p (-1) (.inl (by decide)) h1) ?_);rintro r rfl;refine s_ (h:=e_ (A4 (A8 (?_))));refine A7 ?_;rw[H4,if_pos k1,←Np (l:=p.rules) (i:= -1) (by decide)];rfl
 have hc1:=bp hb1;have k1:¬c.audited=false:=by simpa using hc1
 refine AD (w_ (f_ (h:=l_ (h:=l_ (h:=?_)))));refine A6 rfl (AB (hf) ?_);rintro r rfl;refine a_ (h:=e_ (q_ (w_ (m_ (h:=B4 (h:=e_ (?_)))))));refine A9 rfl (fun hb2=>?_) (fun hb2=>?_)
 ·have hc2:=bp hb2;have k2:i<0:=hc2;refine w_ (AX (h:=s_ (h:=e_ (A4 (A8 (?_))))));refine A7 ?_;rw[H4,if_neg k1,if_pos k2];rfl
 have hc2:=bp hb2;have k2:¬i<0:=hc2;refine AD (w_ (l_ (h:=m_ (h:=?_))));refine A6 rfl (AB (Lo p i hin h1) ?_);rintro r rfl;refine s_ (h:=e_ (A4 (?_)));refine A7 ?_;rw[H4,if_neg k1,if_neg k2];rfl
theorem fU(i:Int)(hI:QP p c=i):AFn prog 31 [.agg (Bb p), .agg (Bf c k)] (fun x=>x= .agg (EB (H4 p.rules c.audited i))):=by
 have hin:H0 p.rules i:=hI ▸ GZ _ _;have hf:AFn prog 18 [.sl 8 (p.rules.map Ak) none, .v (.int .i64 4), .sl 1 [] none, .agg (Bf c k)] (fun x=>x= .v (.int .i64 i)):=by rw[←hI];exact Ky p.rules 4 [] c k h1 hit ht
 refine enter Tryz.func31 rfl rfl rfl rfl rfl 0 rfl ?_;refine w_ (b_ (h:=b_ (h:=Aa (h:=e_ (q_ (w_ (f_ (h:=f_ (h:=l_ (h:=B7 (h:=e_ (?_))))))))))));refine A9 rfl (fun hb1=>?_) (fun hb1=>?_)
 ·have hc1:=bp hb1;have k1:c.audited=false:=by simpa using hc1
  refine w_ (?_);refine A6 rfl (AB (QQ) ?_);rintro r rfl;refine s_ (h:=e_ (A4 (A8 (?_))));refine A7 ?_;rw[H4,if_pos k1];rfl
 have hc1:=bp hb1;have k1:¬c.audited=false:=by simpa using hc1
 refine AD (w_ (f_ (h:=l_ (h:=l_ (h:=?_)))));refine A6 rfl (AB (hf) ?_);rintro r rfl;refine a_ (h:=e_ (q_ (w_ (m_ (h:=B4 (h:=e_ (?_)))))));refine A9 rfl (fun hb2=>?_) (fun hb2=>?_)
 ·have hc2:=bp hb2;have k2:i<0:=hc2;refine w_ (AX (h:=s_ (h:=e_ (A4 (A8 (?_))))));refine A7 ?_;rw[H4,if_neg k1,if_pos k2];rfl
 have hc2:=bp hb2;have k2:¬i<0:=hc2;refine AD (w_ (l_ (h:=m_ (h:=?_))));refine A6 rfl (AB (QR p i hin h1) ?_);rintro r rfl;refine s_ (h:=e_ (A4 (?_)));refine A7 ?_;rw[H4,if_neg k1,if_neg k2];rfl
theorem fV(t i:Int)(hI:V6 p c t=i):AFn prog 38 [.agg (Bb p), .agg (Bf c k), .v (.int .i64 t)] (fun x=>x= .v (.bool (Ez p.rules t i))):=by
 have hin:H0 p.rules i:=hI ▸ GZ _ _;have hf:AFn prog 16 [.sl 8 (p.rules.map Ak) none, .v (.int .i64 5), .sl 1 [] none, .agg (Bf (Lr c t) k)] (fun x=>x= .v (.int .i64 i)):=by rw[←hI];exact Kx p.rules 5 [] (Lr c t) k h1 hit ht
 refine enter Tryz.func38 rfl rfl rfl rfl rfl 0 rfl ?_;refine w_ (b_ (h:=b_ (h:=a_ (h:=e_ (q_ (w_ (m_ (h:=e_ (Ab (?_))))))))));refine Bx (fun S=>S=⟨look [(2, .v (.int .i64 t)),(3, .bp 0 0),(4, .bp 1 0),(9, .v (.bool (El t)))],⟨[Bb p,Bf c k],[]⟩⟩) ?_ ?_
 ·skip
  refine w_ (AK (h:=a_ (h:=e_ (?_))));refine A9 rfl (fun hb1=>?_) (fun hb1=>?_)
  ·have hc1:=bp hb1;refine Aq (?_);refine AJ ?_;exact⟨_,rfl,Ar 2 0 rfl rfl rfl rfl (by repeat (first|exact Sub.nil|refine As rfl rfl ?_|refine Ay ?_|refine Az rfl ?_|refine B0 rfl ?_|(apply Sub.of;(focus exact rfl);(focus exact LeA.of_eq (vb (by simp_all [El])));(focus exact rfl))))⟩
  have hc1:=bp hb1;refine w_ (AK (h:=a_ (h:=e_ (?_))));refine A9 rfl (fun hb2=>?_) (fun hb2=>?_)
  ·have hc2:=bp hb2;refine Aq (?_);refine AJ ?_;exact⟨_,rfl,Ar 2 0 rfl rfl rfl rfl (by repeat (first|exact Sub.nil|refine As rfl rfl ?_|refine Ay ?_|refine Az rfl ?_|refine B0 rfl ?_|(apply Sub.of;(focus exact rfl);(focus exact LeA.of_eq (vb (by simp_all [El])));(focus exact rfl))))⟩
  have hc2:=bp hb2;refine w_ (AK (h:=a_ (h:=e_ (?_))));refine A9 rfl (fun hb3=>?_) (fun hb3=>?_)
  ·have hc3:=bp hb3;refine Aq (?_);refine AJ ?_;exact⟨_,rfl,Ar 2 0 rfl rfl rfl rfl (by repeat (first|exact Sub.nil|refine As rfl rfl ?_|refine Ay ?_|refine Az rfl ?_|refine B0 rfl ?_|(apply Sub.of;(focus exact rfl);(focus exact LeA.of_eq (vb (by simp_all [El])));(focus exact rfl))))⟩
  have hc3:=bp hb3;refine w_ (AK (h:=a_ (h:=e_ (?_))));refine A9 rfl (fun hb4=>?_) (fun hb4=>?_)
  ·have hc4:=bp hb4;refine Aq (?_);refine AJ ?_;exact⟨_,rfl,Ar 2 0 rfl rfl rfl rfl (by repeat (first|exact Sub.nil|refine As rfl rfl ?_|refine Ay ?_|refine Az rfl ?_|refine B0 rfl ?_|(apply Sub.of;(focus exact rfl);(focus exact LeA.of_eq (vb (by simp_all [El])));(focus exact rfl))))⟩
  have hc4:=bp hb4;refine w_ (AK (h:=a_ (h:=e_ (?_))));refine A9 rfl (fun hb5=>?_) (fun hb5=>?_)
  ·have hc5:=bp hb5;refine Aq (?_);refine AJ ?_;exact⟨_,rfl,Ar 2 0 rfl rfl rfl rfl (by repeat (first|exact Sub.nil|refine As rfl rfl ?_|refine Ay ?_|refine Az rfl ?_|refine B0 rfl ?_|(apply Sub.of;(focus exact rfl);(focus exact LeA.of_eq (vb (by simp_all [El])));(focus exact rfl))))⟩
  have hc5:=bp hb5;refine AR (AK (h:=a_ (h:=AP (?_))));refine AJ ?_;exact⟨_,rfl,Ar 2 0 rfl rfl rfl rfl (by repeat (first|exact Sub.nil|refine As rfl rfl ?_|refine Ay ?_|refine Az rfl ?_|refine B0 rfl ?_|(apply Sub.of;(focus exact rfl);(focus exact LeA.of_eq (vb (by simp_all [El])));(focus exact rfl))))⟩
 rintro S rfl;refine A9 rfl (fun hb6=>?_) (fun hb6=>?_)
 ·have hc6:=bp hb6;refine Aq (Ai (t_ (w_ (m_ (h:=f_ (h:=s_ (h:=e_ (w_ (f_ (h:=l_ (h:=l_ (h:=?_))))))))))));refine A6 rfl (AB (hf) ?_);rintro r rfl;refine a_ (h:=e_ (w_ (m_ (h:=Cm (h:=m_ (h:=?_))))));refine AT true rfl rfl (fun hb7=>?_) (fun hb7=>?_)
  ·have hc7:=bp hb7;rcases hin with hneg|⟨q,r,rfl,hr⟩
   ·exact absurd hneg (by omega)
   have hrow:(p.rules.map Ak)[q]?=some (Ak r):=by rw[List.getElem?_map,hr];rfl
   have hlt:q<p.rules.length:=(Al.1 hr).1;refine f_ (h:=l_ (h:=m_ (h:=i_ (h:=f_ (h:=l_ (h:=AK (h:=AA (h:=a_ (h:=e_ (A4 (?_)))))))))));refine A7 ?_
   first|(exfalso;first|contradiction|omega)|(exact vb (by first|(simp_all [Ez,Df];done)|(simp_all [Ez,Df];intro h;omega)))
  have hc7:=bp hb7;refine A3 (h:=A3 (h:=A3 (h:=A3 (h:=A3 (h:=A3 (h:=A3 (h:=AE (h:=a_ (h:=e_ (A4 (?_)))))))))));refine A7 ?_
  first|(exfalso;first|contradiction|omega)|(exact vb (by first|(simp_all [Ez,Df];done)|(simp_all [Ez,Df];intro h;omega)))
 have hc6:=bp hb6;refine w_ (a_ (h:=e_ (A4 (AN (A8 (?_))))));refine A7 ?_
 first|(exfalso;first|contradiction|omega)|(exact vb (by first|(simp_all [Ez,Df];done)|(simp_all [Ez,Df];intro h;omega)))
theorem fW(t i:Int)(hI:V6 p c t=i):AFn prog 39 [.agg (Bb p), .agg (Bf c k), .v (.int .i64 t)] (fun x=>x= .v (.bool (Ez p.rules t i))):=by
 have hin:H0 p.rules i:=hI ▸ GZ _ _;have hf:AFn prog 18 [.sl 8 (p.rules.map Ak) none, .v (.int .i64 5), .sl 1 [] none, .agg (Bf (Lr c t) k)] (fun x=>x= .v (.int .i64 i)):=by rw[←hI];exact Ky p.rules 5 [] (Lr c t) k h1 hit ht
 refine enter Tryz.func39 rfl rfl rfl rfl rfl 0 rfl ?_;refine w_ (b_ (h:=b_ (h:=a_ (h:=e_ (q_ (w_ (m_ (h:=e_ (Ab (?_))))))))));refine Bx (fun S=>S=⟨look [(2, .v (.int .i64 t)),(3, .bp 0 0),(4, .bp 1 0),(9, .v (.bool (El t)))],⟨[Bb p,Bf c k],[]⟩⟩) ?_ ?_
 ·skip
  refine w_ (AK (h:=a_ (h:=e_ (?_))));refine A9 rfl (fun hb1=>?_) (fun hb1=>?_)
  ·have hc1:=bp hb1;refine Aq (?_);refine AJ ?_;exact⟨_,rfl,Ar 2 0 rfl rfl rfl rfl (by repeat (first|exact Sub.nil|refine As rfl rfl ?_|refine Ay ?_|refine Az rfl ?_|refine B0 rfl ?_|(apply Sub.of;(focus exact rfl);(focus exact LeA.of_eq (vb (by simp_all [El])));(focus exact rfl))))⟩
  have hc1:=bp hb1;refine w_ (AK (h:=a_ (h:=e_ (?_))));refine A9 rfl (fun hb2=>?_) (fun hb2=>?_)
  ·have hc2:=bp hb2;refine Aq (?_);refine AJ ?_;exact⟨_,rfl,Ar 2 0 rfl rfl rfl rfl (by repeat (first|exact Sub.nil|refine As rfl rfl ?_|refine Ay ?_|refine Az rfl ?_|refine B0 rfl ?_|(apply Sub.of;(focus exact rfl);(focus exact LeA.of_eq (vb (by simp_all [El])));(focus exact rfl))))⟩
  have hc2:=bp hb2;refine w_ (AK (h:=a_ (h:=e_ (?_))));refine A9 rfl (fun hb3=>?_) (fun hb3=>?_)
  ·have hc3:=bp hb3;refine Aq (?_);refine AJ ?_;exact⟨_,rfl,Ar 2 0 rfl rfl rfl rfl (by repeat (first|exact Sub.nil|refine As rfl rfl ?_|refine Ay ?_|refine Az rfl ?_|refine B0 rfl ?_|(apply Sub.of;(focus exact rfl);(focus exact LeA.of_eq (vb (by simp_all [El])));(focus exact rfl))))⟩
  have hc3:=bp hb3;refine w_ (AK (h:=a_ (h:=e_ (?_))));refine A9 rfl (fun hb4=>?_) (fun hb4=>?_)
  ·have hc4:=bp hb4;refine Aq (?_);refine AJ ?_;exact⟨_,rfl,Ar 2 0 rfl rfl rfl rfl (by repeat (first|exact Sub.nil|refine As rfl rfl ?_|refine Ay ?_|refine Az rfl ?_|refine B0 rfl ?_|(apply Sub.of;(focus exact rfl);(focus exact LeA.of_eq (vb (by simp_all [El])));(focus exact rfl))))⟩
  have hc4:=bp hb4;refine w_ (AK (h:=a_ (h:=e_ (?_))));refine A9 rfl (fun hb5=>?_) (fun hb5=>?_)
  ·have hc5:=bp hb5;refine Aq (?_);refine AJ ?_;exact⟨_,rfl,Ar 2 0 rfl rfl rfl rfl (by repeat (first|exact Sub.nil|refine As rfl rfl ?_|refine Ay ?_|refine Az rfl ?_|refine B0 rfl ?_|(apply Sub.of;(focus exact rfl);(focus exact LeA.of_eq (vb (by simp_all [El])));(focus exact rfl))))⟩
  have hc5:=bp hb5;refine AR (AK (h:=a_ (h:=AP (?_))));refine AJ ?_;exact⟨_,rfl,Ar 2 0 rfl rfl rfl rfl (by repeat (first|exact Sub.nil|refine As rfl rfl ?_|refine Ay ?_|refine Az rfl ?_|refine B0 rfl ?_|(apply Sub.of;(focus exact rfl);(focus exact LeA.of_eq (vb (by simp_all [El])));(focus exact rfl))))⟩
 rintro S rfl;refine A9 rfl (fun hb6=>?_) (fun hb6=>?_)
 ·have hc6:=bp hb6;refine w_ (m_ (h:=f_ (h:=s_ (h:=e_ (w_ (f_ (h:=l_ (h:=l_ (h:=?_)))))))));refine A6 rfl (AB (hf) ?_);rintro r rfl;refine a_ (h:=e_ (w_ (m_ (h:=Cm (h:=m_ (h:=?_))))));refine AT true rfl rfl (fun hb7=>?_) (fun hb7=>?_)
  ·have hc7:=bp hb7;rcases hin with hneg|⟨q,r,rfl,hr⟩
   ·exact absurd hneg (by omega)
   have hrow:(p.rules.map Ak)[q]?=some (Ak r):=by rw[List.getElem?_map,hr];rfl
   have hlt:q<p.rules.length:=(Al.1 hr).1;refine f_ (h:=l_ (h:=m_ (h:=i_ (h:=f_ (h:=l_ (h:=AK (h:=AA (h:=a_ (h:=e_ (A4 (AN (A8 (?_)))))))))))));refine A7 ?_
   first|(exfalso;first|contradiction|omega)|(exact vb (by first|(simp_all [Ez,Df];done)|(simp_all [Ez,Df];intro h;omega)))
  have hc7:=bp hb7;refine A3 (h:=A3 (h:=A3 (h:=A3 (h:=A3 (h:=A3 (h:=A3 (h:=AE (h:=a_ (h:=e_ (A4 (AN (A8 (?_)))))))))))));refine A7 ?_
  first|(exfalso;first|contradiction|omega)|(exact vb (by first|(simp_all [Ez,Df];done)|(simp_all [Ez,Df];intro h;omega)))
 have hc6:=bp hb6;refine Aq (Ai (t_ (w_ (a_ (h:=e_ (A4 (?_)))))));refine A7 ?_
 first|(exfalso;first|contradiction|omega)|(exact vb (by first|(simp_all [Ez,Df];done)|(simp_all [Ez,Df];intro h;omega)))
end
section
theorem fX(l:List Int)(a:Nat)(ha:a≤100000000000):GenF prog 77 l a [] 20 (fun r=>∃(p1 p2 p3 p4 p5 p6 p7 p8:Int) (s t:ByteArray) (w:Bool),r= .agg [.v (.int .i64 p1), .v (.int .i64 p2), .v (.int .i64 p3), .v (.int .i64 p4), .v (.int .i64 p5), .v (.int .i64 p6), .v (.int .i64 p7), .v (.int .i64 p8), .v (.int .i64 0), .v (.int .i64 0), .v (.string s), .v (.string t), .sl 4 [] none, .v (.bool w)]):=by
 refine enter Tryz.func77 rfl rfl rfl rfl rfl 1 rfl ?_;refine w_ (Aa (h:=e_ (w_ (BX (h:=a_ (h:=e_ (w_ (m_ (h:=?_)))))))));refine A6 rfl (Ag 0 (hc:=CH l _ (1) (4) (by omega) (by omega) (by omega) (by omega)) (hR:=?_));rintro r a1 ha1 ⟨k1,rfl,p1,q1⟩;refine⟨rfl,_,(by repeat constructor),?_⟩;refine m_ (h:=?_);refine A6 rfl (Ag 0 (hc:=Gn l _ (3) (by omega) (by omega)) (hR:=?_));rintro r a2 ha2 ⟨k2,rfl,p2,q2,o2⟩;refine⟨rfl,_,(by repeat constructor),?_⟩;refine m_ (h:=m_ (h:=?_));refine A6 rfl (Ag 0 (hc:=Ce l _ _ (fun _=>true) (by omega) (by rfl) (by rfl) (by rfl)) (hR:=?_));rintro r a3 ha3 ⟨k3,rfl,p3⟩;refine⟨rfl,_,(by repeat constructor),?_⟩;refine m_ (h:=m_ (h:=?_));refine A6 rfl (Ag 0 (hc:=Ce l _ _ (fun _=>true) (by omega) (by rfl) (by rfl) (by rfl)) (hR:=?_));rintro r a4 ha4 ⟨k4,rfl,p4⟩;refine⟨rfl,_,(by repeat constructor),?_⟩;refine m_ (h:=m_ (h:=?_));refine A6 rfl (Ag 0 (hc:=Ce l _ _ (fun _=>true) (by omega) (by rfl) (by rfl) (by rfl)) (hR:=?_));rintro r a5 ha5 ⟨k5,rfl,p5⟩;refine⟨rfl,_,(by repeat constructor),?_⟩;refine m_ (h:=m_ (h:=?_));refine A6 rfl (Ag 0 (hc:=Ce l _ _ (fun _=>true) (by omega) (by rfl) (by rfl) (by rfl)) (hR:=?_));rintro r a6 ha6 ⟨k6,rfl,p6⟩;refine⟨rfl,_,(by repeat constructor),?_⟩;refine m_ (h:=m_ (h:=?_));refine A6 rfl (Ag 0 (hc:=Ce l _ _ (fun _=>true) (by omega) (by rfl) (by rfl) (by rfl)) (hR:=?_));rintro r a7 ha7 ⟨k7,rfl,p7⟩;refine⟨rfl,_,(by repeat constructor),?_⟩;refine m_ (h:=m_ (h:=?_));refine A6 rfl (Ag 0 (hc:=Ce l _ _ (fun _=>true) (by omega) (by rfl) (by rfl) (by rfl)) (hR:=?_));rintro r a8 ha8 ⟨k8,rfl,p8⟩;refine⟨rfl,_,(by repeat constructor),?_⟩;refine m_ (h:=BX (h:=?_));refine A6 rfl (Ag 0 (hc:=GU l _ _ (fun _=>true) (by omega) (by rfl) (by rfl) (by rfl)) (hR:=?_));rintro r a9 ha9 ⟨k9,rfl,p9⟩;refine⟨rfl,_,(by repeat constructor),?_⟩;refine m_ (h:=BX (h:=?_));refine A6 rfl (Ag 0 (hc:=GU l _ _ (fun _=>true) (by omega) (by rfl) (by rfl) (by rfl)) (hR:=?_));rintro r a10 ha10 ⟨k10,rfl,p10⟩;refine⟨rfl,_,(by repeat constructor),?_⟩;refine m_ (h:=?_);refine A6 rfl (Ag 0 (hc:=Gn l _ (8) (by omega) (by omega)) (hR:=?_));rintro r a11 ha11 ⟨k11,rfl,p11,q11,o11⟩;refine⟨rfl,_,(by repeat constructor),?_⟩;refine Ba (h:=AX (h:=s_ (h:=e_ (A4 (?_)))));refine Av none (h5:=(by repeat (first|exact AZ _|exact LeA.nil _|exact LeL.refl _|refine LeA.agg ?_|refine LeA.tup ?_|exact LeL.nil|refine LeL.cons ?_ ?_|exact LeA.any _))) (h6:=⟨_,rfl,rfl,_,?_,rfl,_,_,_,_,_,_,_,_,_,_,_,rfl⟩)<;>omega
end
theorem fY{a b:Nat}(h:a<b):Nat.blt a b=true:=by rw[Nat.blt_eq];exact h
theorem SetAt.sym{α:Type}{x:α}:∀{row:List α} {o:Nat},o<row.length→SetAt row o [x] (row.set o x)
 |[],_,h=>by simp at h
 |y::ys,0,_=>SetAt.here y x ys [] ys (SetAt.nil ys 0)
 |y::ys,o+1,h=>SetAt.there y x ys [] (ys.set o x) o (SetAt.sym (by simpa using h))
theorem fZ(n:Int):0≤(Di n).2.1∧(Di n).2.1≤2∧0≤(Di n).2.2.1∧(Di n).2.2.1≤2∧0≤(Di n).2.2.2.1∧(Di n).2.2.2.1≤(Di n).2.2.2.2∧(Di n).2.2.2.2≤100:=by
 unfold Di;split
 ·decide
 rename_i h;obtain⟨m,rfl⟩:=Int.eq_ofNat_of_zero_le (show 0≤n by omega);have hm:m<22:=by omega
 have key:∀m,m<22→0≤((FN[m]?).getD (⟨#[]⟩,0,0,0,0)).2.1∧((FN[m]?).getD (⟨#[]⟩,0,0,0,0)).2.1≤2∧0≤((FN[m]?).getD (⟨#[]⟩,0,0,0,0)).2.2.1∧((FN[m]?).getD (⟨#[]⟩,0,0,0,0)).2.2.1≤2∧0≤((FN[m]?).getD (⟨#[]⟩,0,0,0,0)).2.2.2.1∧((FN[m]?).getD (⟨#[]⟩,0,0,0,0)).2.2.2.1≤((FN[m]?).getD (⟨#[]⟩,0,0,0,0)).2.2.2.2∧((FN[m]?).getD (⟨#[]⟩,0,0,0,0)).2.2.2.2≤100:=by decide
 exact key m hm
section
theorem g7(n:Int):AFn prog 99 [.v (.int .i64 n)] (fun r=>r= .tup [.v (.int .i64 (Di n).2.1), .v (.int .i64 (Di n).2.2.1), .v (.int .i64 (Di n).2.2.2.1), .v (.int .i64 (Di n).2.2.2.2)]):=by
 refine enter Tryz.func99 rfl rfl rfl rfl rfl 0 rfl ?_;refine w_ (a_ (h:=a_ (h:=a_ (h:=a_ (h:=e_ (w_ (m_ (h:=?_))))))));refine A6 rfl (AB (Zh n) ?_);rintro r rfl;refine Aa (h:=s_ (h:=e_ (q_ (Cj 12 (h:=Aw 0 (h:=AO 1 (h:=Aw 2 (h:=AO 3 (h:=Aw 4 (h:=AO 5 (h:=Aw 6 (h:=AO 7 (h:=BL 8 (h:=BL 9 (h:=BL 10 (h:=BL 11 (h:=z_ (h:=t_ (A4 (?_))))))))))))))))))));refine A7 ?_;rfl
theorem g8(l:List Int)(a:Nat)(ha:a≤10000000000):GenF prog 51 l a [] 300 (fun r=>∃c:Cal,c.paths.length≤1000∧c.args.length≤1000∧r= .agg (U3 c)):=by
 refine enter Tryz.func51 rfl rfl rfl rfl rfl 1 rfl ?_;refine w_ (Aa (h:=e_ (w_ (m_ (h:=BX (h:=?_))))));refine A6 rfl (Ag 0 (hc:=Ce l _ _ (fun _=>true) (by omega) (by rfl) (by rfl) (by rfl)) (hR:=?_));rintro r a1 ha1 ⟨k1,rfl,p1⟩;refine⟨rfl,_,(by repeat constructor),?_⟩;refine AX (h:=Aa (h:=s_ (h:=e_ (w_ (f_ (h:=l_ (h:=?_)))))));refine A6 rfl (AB (g7 _) ?_);rintro r rfl;obtain⟨q1,q2,q3,q4,q5,q6,q7⟩:=fZ k1;generalize (Di k1).2.1=la at q1 q2 q3 q4 q5 q6 q7 ⊢;generalize (Di k1).2.2.1=lb at q1 q2 q3 q4 q5 q6 q7 ⊢;generalize (Di k1).2.2.2.1=lc at q1 q2 q3 q4 q5 q6 q7 ⊢;generalize (Di k1).2.2.2.2=ld at q1 q2 q3 q4 q5 q6 q7 ⊢;obtain⟨na,rfl⟩:=Int.eq_ofNat_of_zero_le q1;obtain⟨nb,rfl⟩:=Int.eq_ofNat_of_zero_le q3;refine m_ (h:=x_ (h:=x_ (h:=x_ (h:=x_ (h:=a_ (h:=a_ (h:=a_ (h:=a_ (h:=e_ (q_ (w_ (a_ (h:=e_ (Ab (?_)))))))))))))));refine BT (fun n s=>∃(j b1:Nat) (n0 y0 y1 y2 y3:Int),j≤na∧n=na - j∧b1≤a+1+j∧s=⟨look [(0, .bp 0 0),(2, .bp 1 0),(3, .bp 2 0),(4, .v (.int .i64 (na:Int))),(5, .v (.int .i64 (nb:Int))),(6, .v (.int .i64 lc)),(7, .v (.int .i64 ld)),(8, .v (.int .i64 (j:Int)))],⟨[Cc l b1,[.v (.int .i64 0), .v (.int .i64 0), .v (.int .i64 0), .v (.int .i64 0), .v (.int .i64 0), .v (.slice none 0 0), .v (.slice none 0 0)],[.v (.int .i64 n0), .v (.int .i64 y0), .v (.int .i64 y1), .v (.int .i64 y2), .v (.int .i64 y3), .v (.slice none 0 0), .v (.slice none 0 0)]],[]⟩⟩) (na) ((wk 3 0)) (⟨0,_,_,_,_,_,_,by omega,rfl,by omega,rfl⟩) ?_;rintro n s ⟨j,b1,n0,y0,y1,y2,y3,hj,rfl,hb1,rfl⟩;refine q_ (w_ (m_ (h:=m_ (h:=B4 (h:=e_ (?_))))));refine A9 rfl (fun hb1=>?_) (fun hb1=>?_)
 ·have hc1:=bp hb1;refine AD (q_ (Ab (AR (m_ (h:=m_ (h:=BX (h:=?_)))))));refine A6 rfl (Ag 0 (hc:=Ce l _ _ (fun _=>true) (by omega) (by rfl) (by rfl) (by rfl)) (hR:=?_));rintro r a2 ha2 ⟨k2,rfl,p2⟩;refine⟨rfl,_,(by repeat constructor),?_⟩;refine f_ (h:=?_);refine A6 rfl (CK (len:=4) (sz:=1) (n:=j) (by kernel_rfl) rfl rfl rfl (fY (by omega)) ?_);refine Ki (BY rfl rfl rfl rfl rfl rfl (SetAt.sym (by simp;omega)) (by repeat constructor) ?_);refine AP (Ai (t_ (AR (m_ (h:=B8 (h:=a_ (h:=AP (?_))))))));refine AJ ?_;have hj2:j=0∨j=1:=by omega
  rcases hj2 with rfl|rfl
  ·refine⟨_,_,?_,⟨1,_,_,_,_,_,_,by omega,rfl,?_,rfl⟩,(wk 3 0)⟩<;>omega
  refine⟨_,_,?_,⟨2,_,_,_,_,_,_,by omega,rfl,?_,rfl⟩,(wk 3 0)⟩<;>omega
 have hc1:=bp hb1;refine BF (Ah (Ah (BG (t_ (?_)))));refine Bx (fun s=>∃(b2:Nat) (n1 x0 x1 x2 x3:Int),b2≤a+20∧s=⟨look [(0, .bp 0 0),(2, .bp 1 0),(3, .bp 2 0),(5, .v (.int .i64 (nb:Int))),(6, .v (.int .i64 lc)),(7, .v (.int .i64 ld))],⟨[Cc l b2,[.v (.int .i64 0), .v (.int .i64 0), .v (.int .i64 0), .v (.int .i64 0), .v (.int .i64 0), .v (.slice none 0 0), .v (.slice none 0 0)],[.v (.int .i64 n1), .v (.int .i64 x0), .v (.int .i64 x1), .v (.int .i64 x2), .v (.int .i64 x3), .v (.slice none 0 0), .v (.slice none 0 0)]],[]⟩⟩) ?_ ?_
 ·skip
  refine w_ (f_ (h:=l_ (h:=e_ (Ab (w_ (AK (h:=a_ (h:=e_ (?_)))))))));refine A9 rfl (fun hb2=>?_) (fun hb2=>?_)
  ·have hc2:=bp hb2;refine AR (m_ (h:=BX (h:=?_)));refine A6 rfl (Ag 0 (hc:=Ce l _ _ (fun _=>true) (by omega) (by rfl) (by rfl) (by rfl)) (hR:=?_));rintro r a3 ha3 ⟨k3,rfl,p3⟩;refine⟨rfl,_,(by repeat constructor),?_⟩;refine m_ (h:=BX (h:=?_));refine A6 rfl (Ag 0 (hc:=Ce l _ _ (fun _=>true) (by omega) (by rfl) (by rfl) (by rfl)) (hR:=?_));rintro r a4 ha4 ⟨k4,rfl,p4⟩;refine⟨rfl,_,(by repeat constructor),?_⟩;refine AX (h:=f_ (h:=s_ (h:=AP (Ai (?_)))));refine AJ ?_;refine⟨_,⟨_,_,_,_,_,_,?_,rfl⟩,(wk 3 0)⟩<;>omega
  have hc2:=bp hb2;refine w_ (AK (h:=a_ (h:=e_ (?_))));refine A9 rfl (fun hb3=>?_) (fun hb3=>?_)
  ·have hc3:=bp hb3;refine AR (m_ (h:=BX (h:=?_)));refine A6 rfl (Ag 0 (hc:=Ce l _ _ (fun _=>true) (by omega) (by rfl) (by rfl) (by rfl)) (hR:=?_));rintro r a5 ha5 ⟨k5,rfl,p5⟩;refine⟨rfl,_,(by repeat constructor),?_⟩;refine f_ (h:=?_);refine A6 rfl (CK (len:=4) (sz:=1) (n:=0) (by kernel_rfl) rfl rfl rfl rfl ?_);refine s_ (h:=AP (Ai (?_)));refine AJ ?_;refine⟨_,⟨_,_,_,_,_,_,?_,rfl⟩,(wk 3 0)⟩<;>omega
  have hc3:=bp hb3;refine q_ (w_ (AK (h:=a_ (h:=e_ (?_)))));refine A9 rfl (fun hb4=>?_) (fun hb4=>?_)
  ·have hc4:=bp hb4;refine AD (B6 (h:=AR (m_ (h:=?_))));refine A6 rfl (Ag 0 (hc:=Gn l _ (3) (by omega) (by omega)) (hR:=?_));rintro r a6 ha6 ⟨k6,rfl,p6,q6,o6⟩;refine⟨rfl,_,(by repeat constructor),?_⟩;refine f_ (h:=?_);refine A6 rfl (CK (len:=4) (sz:=1) (n:=0) (by kernel_rfl) rfl rfl rfl rfl ?_);refine s_ (h:=AP (Ai (?_)));refine AJ ?_;refine⟨_,⟨_,_,_,_,_,_,?_,rfl⟩,(wk 3 0)⟩<;>omega
  have hc4:=bp hb4;refine AR (AK (h:=a_ (h:=e_ (?_))));refine A9 rfl (fun hb5=>?_) (fun hb5=>?_)
  ·have hc5:=bp hb5;refine AR (m_ (h:=?_));refine A6 rfl (Ag 0 (hc:=Gn l _ (3) (by omega) (by omega)) (hR:=?_));rintro r a7 ha7 ⟨k7,rfl,p7,q7,o7⟩;refine⟨rfl,_,(by repeat constructor),?_⟩;refine f_ (h:=?_);refine A6 rfl (CK (len:=4) (sz:=1) (n:=0) (by kernel_rfl) rfl rfl rfl rfl ?_);refine s_ (h:=AP (Ai (?_)));refine AJ ?_;refine⟨_,⟨_,_,_,_,_,_,?_,rfl⟩,(wk 3 0)⟩<;>omega
  have hc5:=bp hb5;refine w_ (AK (h:=a_ (h:=e_ (?_))));refine A9 rfl (fun hb6=>?_) (fun hb6=>?_)
  ·have hc6:=bp hb6;refine AR (m_ (h:=?_));refine A6 rfl (Ag 0 (hc:=CH l _ (1) (4) (by omega) (by omega) (by omega) (by omega)) (hR:=?_));rintro r a8 ha8 ⟨k8,rfl,p8,q8⟩;refine⟨rfl,_,(by repeat constructor),?_⟩;refine m_ (h:=BX (h:=?_));refine A6 rfl (Ag 0 (hc:=Ce l _ _ (fun _=>true) (by omega) (by rfl) (by rfl) (by rfl)) (hR:=?_));rintro r a9 ha9 ⟨k9,rfl,p9⟩;refine⟨rfl,_,(by repeat constructor),?_⟩;refine AX (h:=f_ (h:=s_ (h:=AP (Ai (?_)))));refine AJ ?_;refine⟨_,⟨_,_,_,_,_,_,?_,rfl⟩,(wk 3 0)⟩<;>omega
  have hc6:=bp hb6;refine Aq (Ai (?_));refine AJ ?_;refine⟨_,⟨_,_,_,_,_,_,?_,rfl⟩,(wk 3 0)⟩<;>omega
 rintro s ⟨b2,n1,x0,x1,x2,x3,hb2,rfl⟩;refine q_ (w_ (a_ (h:=e_ (Ab (?_)))));refine JJ 2 5 9 1 rfl rfl (by repeat constructor) (by repeat constructor) (by repeat constructor) ?_;refine BT (fun n s=>∃(j b1:Nat) (ps:List AM),j≤nb∧n=nb - j∧b1≤b2+20 * j∧ps.length=j∧s=⟨look [(0, .bp 0 0),(2, .bp 1 0),(3, .bp 2 0),(5, .v (.int .i64 (nb:Int))),(6, .v (.int .i64 lc)),(7, .v (.int .i64 ld)),(9, .v (.int .i64 (j:Int)))],⟨[Cc l b1,[.v (.int .i64 0), .v (.int .i64 0), .v (.int .i64 0), .v (.int .i64 0), .v (.int .i64 0), .v (.slice none 0 0), .v (.slice none 0 0)],[.v (.int .i64 n1), .v (.int .i64 x0), .v (.int .i64 x1), .v (.int .i64 x2), .v (.int .i64 x3), .sl 1 (ps.map Eg) (some 0), .v (.slice none 0 0)]],[(9,1,ps.map Eg)]⟩⟩) (nb) ((wk 3 1)) (⟨0,b2,[],by omega,rfl,by omega,by simp,rfl⟩) ?_;rintro n s ⟨j,b1,ps,hj,rfl,hb1,hps,rfl⟩;refine q_ (w_ (m_ (h:=m_ (h:=B4 (h:=e_ (?_))))));refine A9 rfl (fun hb7=>?_) (fun hb7=>?_)
 ·have hc7:=bp hb7;refine AD (q_ (Ab (C3 ([(1,[.v (.int .i64 0), .v (.int .i64 0), .v (.int .i64 0), .v (.int .i64 0), .v (.int .i64 0), .v (.slice none 0 0), .v (.slice none 0 0)]),(2,[.v (.int .i64 n1), .v (.int .i64 x0), .v (.int .i64 x1), .v (.int .i64 x2), .v (.int .i64 x3), .sl 1 (ps.map Eg) (some 0), .v (.slice none 0 0)])]) 7 (h:=Aw 0 (h:=AO 1 (h:=Ac 2 (h:=?_)))))));refine c_ 3 rfl (Ag 0 (hc:=NE l _ (by omega)) (hR:=?_));rintro r a10 ha10 ⟨k10,rfl,p10⟩;refine⟨rfl,_,(by repeat constructor),?_⟩;refine o_ (h:=Hi 4 (h:=?_))
  first|refine c_ 5 rfl (E2 rfl rfl rfl (by simp<;>omega) (by repeat constructor) ?_)|refine c_ 5 rfl (E3 rfl rfl (by simp<;>omega) (by repeat constructor) ?_)
  refine o_ (h:=Aw 6 (h:=?_));refine Bd 7 rfl (BY rfl rfl rfl rfl rfl rfl (by repeat constructor) (by repeat constructor) ?_);refine o_ (h:=z_ (h:=Ai (t_ (AR (m_ (h:=B8 (h:=a_ (h:=AP (?_)))))))));refine AJ ?_;refine⟨_,_,?_,⟨j+1,_,ps++[_],by omega,rfl,?_,?_,rfl⟩,(by rw[List.map_append];exact Ar 3 1 rfl rfl rfl rfl ((by repeat (first|exact Sub.nil|refine As rfl rfl ?_|refine Ay ?_|refine Az rfl ?_|refine B0 rfl ?_))))⟩
  ·omega
  ·omega
  simp;omega
 have hc7:=bp hb7;refine BF (Ah (Ah (BG (t_ (q_ (w_ (m_ (h:=m_ (h:=m_ (h:=?_))))))))));refine A6 rfl (Ag 0 (hc:=CH l _ lc ld (by omega) (by omega) (by omega) (by omega)) (hR:=?_));rintro r a11 ha11 ⟨k0,rfl,p0,p1⟩;refine⟨rfl,_,(by repeat constructor),?_⟩;obtain⟨m,rfl⟩:=Int.eq_ofNat_of_zero_le (show 0≤k0 by omega);refine a_ (h:=e_ (Ab (?_)));refine JJ 2 6 9 1 rfl rfl (by repeat constructor) (by repeat constructor) (by repeat constructor) ?_;refine BT (fun n s=>∃(j b3:Nat) (rs:List AM),j≤m∧n=j∧b3≤b1+1+(m - j)∧rs.length=m - j∧s=⟨look [(0, .bp 0 0),(2, .bp 1 0),(3, .bp 2 0),(10, .v (.int .i64 (j:Int)))],⟨[Cc l b3,[.v (.int .i64 0), .v (.int .i64 0), .v (.int .i64 0), .v (.int .i64 0), .v (.int .i64 0), .v (.slice none 0 0), .v (.slice none 0 0)],[.v (.int .i64 n1), .v (.int .i64 x0), .v (.int .i64 x1), .v (.int .i64 x2), .v (.int .i64 x3), .sl 1 (ps.map Eg) (some 0), .sl 1 (rs.map Eg) (some 1)]],[(9,1,ps.map Eg),(9,1,rs.map Eg)]⟩⟩) (m) ((wk 3 2)) (⟨m,_,[],by omega,rfl,by omega,by simp,rfl⟩) ?_;rintro n s ⟨j,b3,rs,hj,hn,hb3,hrs,rfl⟩;subst n;refine q_ (w_ (m_ (h:=Ba (h:=e_ (?_)))));refine A9 rfl (fun hb8=>?_) (fun hb8=>?_)
 ·have hc8:=bp hb8;refine AD (q_ (Ab (C3 ([(1,[.v (.int .i64 0), .v (.int .i64 0), .v (.int .i64 0), .v (.int .i64 0), .v (.int .i64 0), .v (.slice none 0 0), .v (.slice none 0 0)]),(2,[.v (.int .i64 n1), .v (.int .i64 x0), .v (.int .i64 x1), .v (.int .i64 x2), .v (.int .i64 x3), .sl 1 (ps.map Eg) (some 0), .sl 1 (rs.map Eg) (some 1)])]) 8 (h:=Aw 0 (h:=AO 1 (h:=Ac 2 (h:=Hi 3 (h:=?_))))))));refine c_ 4 rfl (Ag 0 (hc:=GU l _ _ (fun _=>true) (by omega) (by rfl) (by rfl) (by rfl)) (hR:=?_));rintro r a12 ha12 ⟨k12,rfl,p12⟩;refine⟨rfl,_,(by repeat constructor),?_⟩;refine o_ (h:=Hi 5 (h:=?_))
  first|refine c_ 6 rfl (E2 rfl rfl rfl (by simp<;>omega) (by repeat constructor) ?_)|refine c_ 6 rfl (E3 rfl rfl (by simp<;>omega) (by repeat constructor) ?_)
  refine o_ (h:=Aw 7 (h:=?_));refine Bd 8 rfl (BY rfl rfl rfl rfl rfl rfl (by repeat constructor) (by repeat constructor) ?_);refine o_ (h:=z_ (h:=Ai (t_ (AR (m_ (h:=EN (h:=a_ (h:=AP (?_)))))))));refine AJ ?_;obtain⟨j,rfl⟩:∃i,j=i+1:=⟨j - 1,by omega⟩;refine⟨_,_,?_,⟨j,_,rs++[_],by omega,rfl,?_,?_,rfl⟩,(by rw[List.map_append];exact Ar 3 2 rfl rfl rfl rfl (by repeat (first|exact Sub.nil|refine As rfl rfl ?_|(apply Sub.of;(focus exact rfl);(focus exact LeA.of_eq (vi (by omega)));(focus exact rfl)))))⟩
  ·omega
  ·omega
  simp;omega
 have hc8:=bp hb8;refine BF (Ah (Ah (BG (t_ (?_)))));refine Bx (fun S=>∃(b9:Nat) (n2 w0 w1 w2 w3:Int),b9≤a+300∧S=⟨look [(2, .bp 1 0),(3, .bp 2 0)],⟨[Cc l b9,[.v (.int .i64 0), .v (.int .i64 0), .v (.int .i64 0), .v (.int .i64 0), .v (.int .i64 0), .v (.slice none 0 0), .v (.slice none 0 0)],[.v (.int .i64 n2), .v (.int .i64 w0), .v (.int .i64 w1), .v (.int .i64 w2), .v (.int .i64 w3), .sl 1 (ps.map Eg) (some 0), .sl 1 (rs.map Eg) (some 1)]],[(9,1,ps.map Eg),(9,1,rs.map Eg)]⟩⟩) ?_ ?_
 ·skip
  refine w_ (m_ (h:=?_));refine A6 rfl (Ag 0 (hc:=Gn l _ (40) (by omega) (by omega)) (hR:=?_));rintro r a13 ha13 ⟨k13,rfl,p13,q13,o13⟩;refine⟨rfl,_,(by repeat constructor),?_⟩;refine AK (h:=e_ (?_));refine A9 rfl (fun hb9=>?_) (fun hb9=>?_)
  ·have hc9:=bp hb9;refine AR (m_ (h:=?_));refine A6 rfl (Ag 0 (hc:=Gn l _ (2) (by omega) (by omega)) (hR:=?_));rintro r a14 ha14 ⟨k14,rfl,p14,q14,o14⟩;refine⟨rfl,_,(by repeat constructor),?_⟩;refine m_ (h:=?_);refine A6 rfl (Ag 0 (hc:=CH l _ (-1) (33) (by omega) (by omega) (by omega) (by omega)) (hR:=?_));rintro r a15 ha15 ⟨k15,rfl,p15,q15⟩;refine⟨rfl,_,(by repeat constructor),?_⟩;refine f_ (h:=?_);refine A6 rfl (CK (len:=4) (sz:=1) (n:=3) (by kernel_rfl) rfl rfl rfl rfl ?_);refine s_ (h:=f_ (h:=s_ (h:=AP (?_))));refine AJ ?_;refine⟨_,⟨_,_,_,_,_,_,?_,rfl⟩,(wk 3 2)⟩;omega
  have hc9:=bp hb9;refine Aq (?_);refine AJ ?_;refine⟨_,⟨_,_,_,_,_,_,?_,rfl⟩,(wk 3 2)⟩;omega
 rintro S ⟨b9,n2,w0,w1,w2,w3,hb9,rfl⟩;refine w_ (l_ (h:=s_ (h:=e_ (A4 (?_)))));refine Av (r:= .agg (U3 ⟨n2,w0,w1,w2,w3,ps,rs⟩)) none (h5:=?_) (h6:=⟨_,rfl,rfl,b9,by omega,rfl,⟨n2,w0,w1,w2,w3,ps,rs⟩,(by show ps.length≤1000;omega),(by show rs.length≤1000;omega),rfl⟩);exact LeA.agg (.cons (AZ _) (.cons (AZ _) (.cons (AZ _) (.cons (AZ _) (.cons (AZ _) (.cons (LeA.tok _ _ _) (.cons (LeA.tok _ _ _) .nil)))))))
theorem g9(l:List Int)(a:Nat)(ha:a≤10000000000):GenF prog 79 l a [] 60 (fun r=>∃y:Itm,r= .agg (Je y)):=by
 refine enter Tryz.func79 rfl rfl rfl rfl rfl 1 rfl ?_;refine w_ (Aa (h:=e_ (w_ (m_ (h:=?_)))));refine A6 rfl (Ag 0 (hc:=NE l _ (by omega)) (hR:=?_));rintro r a1 ha1 ⟨k1,rfl,p1⟩;refine⟨rfl,_,(by repeat constructor),?_⟩;refine m_ (h:=?_);refine A6 rfl (Ag 0 (hc:=CH l _ (1) (3) (by omega) (by omega) (by omega) (by omega)) (hR:=?_));rintro r a2 ha2 ⟨k2,rfl,p2,q2⟩;refine⟨rfl,_,(by repeat constructor),?_⟩;refine m_ (h:=?_);refine A6 rfl (Ag 0 (hc:=Gn l _ (16) (by omega) (by omega)) (hR:=?_));rintro r a3 ha3 ⟨k3,rfl,p3,q3,o3⟩;refine⟨rfl,_,(by repeat constructor),?_⟩;refine AX (h:=Aa (h:=s_ (h:=e_ (q_ (w_ (m_ (h:=?_)))))));refine A6 rfl (Ag 0 (hc:=Gn l _ (4) (by omega) (by omega)) (hR:=?_));rintro r a4 ha4 ⟨k4,rfl,p4,q4,o4⟩;refine⟨rfl,_,(by repeat constructor),?_⟩;refine Ba (h:=e_ (?_));refine A9 rfl (fun hb1=>?_) (fun hb1=>?_)
 ·have hc1:=bp hb1;refine w_ (m_ (h:=?_));refine A6 rfl (Ag 0 (hc:=Uh l _ (by omega)) (hR:=?_));rintro r a5 ha5 ⟨k5,rfl,p5⟩;refine⟨rfl,_,(by repeat constructor),?_⟩;refine m_ (h:=?_);refine A6 rfl (Ag 0 (hc:=CH l _ (1) (4) (by omega) (by omega) (by omega) (by omega)) (hR:=?_));rintro r a6 ha6 ⟨k6,rfl,p6,q6⟩;refine⟨rfl,_,(by repeat constructor),?_⟩;refine AX (h:=m_ (h:=?_));refine A6 rfl (Ag 0 (hc:=Ld l _ (by omega)) (hR:=?_));rintro r a7 ha7 ⟨k7,rfl,p7⟩;refine⟨rfl,_,(by repeat constructor),?_⟩;refine f_ (h:=s_ (h:=f_ (h:=s_ (h:=f_ (h:=s_ (h:=e_ (AR (m_ (h:=?_)))))))));refine A6 rfl (Ag 0 (hc:=Gn l _ (2) (by omega) (by omega)) (hR:=?_));rintro r a8 ha8 ⟨k8,rfl,p8,q8,o8⟩;refine⟨rfl,_,(by repeat constructor),?_⟩;refine m_ (h:=?_);refine A6 rfl (Ag 0 (hc:=Gn l _ (5) (by omega) (by omega)) (hR:=?_));rintro r a9 ha9 ⟨k9,rfl,p9,q9,o9⟩;refine⟨rfl,_,(by repeat constructor),?_⟩;refine AX (h:=m_ (h:=?_));refine A6 rfl (Ag 0 (hc:=Gn l _ (4) (by omega) (by omega)) (hR:=?_));rintro r a10 ha10 ⟨k10,rfl,p10,q10,o10⟩;refine⟨rfl,_,(by repeat constructor),?_⟩;refine m_ (h:=BX (h:=?_));refine A6 rfl (Ag 0 (hc:=Ce l _ _ (fun _=>true) (by omega) (by rfl) (by rfl) (by rfl)) (hR:=?_));rintro r a11 ha11 ⟨k11,rfl,p11⟩;refine⟨rfl,_,(by repeat constructor),?_⟩;refine m_ (h:=BX (h:=?_));refine A6 rfl (Ag 0 (hc:=Ce l _ _ (fun _=>true) (by omega) (by rfl) (by rfl) (by rfl)) (hR:=?_));rintro r a12 ha12 ⟨k12,rfl,p12⟩;refine⟨rfl,_,(by repeat constructor),?_⟩;refine f_ (h:=s_ (h:=f_ (h:=s_ (h:=f_ (h:=s_ (h:=f_ (h:=s_ (h:=f_ (h:=s_ (h:=e_ (w_ (l_ (h:=s_ (h:=e_ (A4 (?_))))))))))))))));refine Av none (h5:=(AZ _)) (h6:=⟨_,rfl,rfl,_,?_,rfl,⟨_,_,(_,_),_,(_,_),_,_,_,_,_,_⟩,rfl⟩)<;>omega
 have hc1:=bp hb1;refine AD (w_ (l_ (h:=s_ (h:=e_ (A4 (?_))))));refine Av none (h5:=(AZ _)) (h6:=⟨_,rfl,rfl,_,?_,rfl,⟨_,_,(_,_),_,(_,_),_,_,_,_,_,_⟩,rfl⟩)<;>omega
end
theorem gA(l:List Int)(a:Nat)(ha:a≤10000000000):GenF prog 51 l a [] 300 (fun r=>∃(n a0 a1 a2 a3:Int) (ps rs:List (List AV)),r= .agg [.v (.int .i64 n), .v (.int .i64 a0), .v (.int .i64 a1), .v (.int .i64 a2), .v (.int .i64 a3), .sl 1 ps none, .sl 1 rs none]):=
 (g8 l a ha).mono (B3 _) fun r h=>by
   obtain⟨c,_,_,rfl⟩:=h;exact⟨_,_,_,_,_,_,_,rfl⟩
theorem gB(l:List Int)(a:Nat)(ha:a≤10000000000):GenF prog 79 l a [] 60 (fun r=>∃y:Itm,r= .agg (CN y)):=g9 l a ha
section
theorem gC(l:List Int)(a:Nat)(ha:a≤1000000000):GenF prog 36 l a [] 600 (fun r=>∃(c:Ctx) (k:Cxs),c.items.length≤2∧r= .agg (Bf c k)):=by
 refine enter Tryz.func36 rfl rfl rfl rfl rfl 1 rfl ?_;refine w_ (Aa (h:=e_ (w_ (m_ (h:=?_)))));refine A6 rfl (Ag 0 (hc:=CH l _ (1) (2) (by omega) (by omega) (by omega) (by omega)) (hR:=?_));rintro r a1 ha1 ⟨k1,rfl,p1,q1⟩;refine⟨rfl,_,(by repeat constructor),?_⟩;refine m_ (h:=?_);refine A6 rfl (Ag 0 (hc:=fX l _ (by omega)) (hR:=?_));rintro r a2 ha2 ⟨i1,i2,i3,i4,i5,i6,i7,i8,s1,s2,w1,rfl⟩;refine⟨rfl,_,(by repeat constructor),?_⟩;refine m_ (h:=?_);refine A6 rfl (Ag 0 (hc:=gA l _ (by omega)) (hR:=?_));rintro r a3 ha3 ⟨c0,c1,c2,c3,c4,ps,rs,rfl⟩;refine⟨rfl,_,(by repeat constructor),?_⟩;refine AX (h:=Aa (h:=s_ (h:=e_ (?_))));refine Bx (fun s=>∃(b2:Nat) (ph:Int),b2≤a+330∧s=⟨look [(0, .bp 0 0),(2, .bp 1 0),(3, .bp 2 0)],⟨[Cc l b2,[.v (.int .i64 0), .v (.int .i64 0), .v (.int .i64 0), .v (.int .i64 0), .v (.int .i64 0), .v (.int .i64 0), .v (.int .i64 0), .v (.int .i64 0), .v (.int .i64 0), .v (.int .i64 0), .v (.int .i64 0), .v (.string ⟨#[]⟩), .v (.string ⟨#[]⟩), .v (.slice none 0 0), .v (.bool false), .v (.int .i64 0), .v (.int .i64 0), .v (.int .i64 0), .v (.int .i64 0), .v (.int .i64 0), .v (.slice none 0 0), .v (.slice none 0 0), .v (.int .i64 0), .v (.slice none 0 0), .v (.int .i64 0)],[.v (.int .i64 ph), .v (.int .i64 i1), .v (.int .i64 i2), .v (.int .i64 i3), .v (.int .i64 i4), .v (.int .i64 i5), .v (.int .i64 i6), .v (.int .i64 i7), .v (.int .i64 i8), .v (.int .i64 0), .v (.int .i64 0), .v (.string s1), .v (.string s2), .sl 4 [] none, .v (.bool w1), .v (.int .i64 c0), .v (.int .i64 c1), .v (.int .i64 c2), .v (.int .i64 c3), .v (.int .i64 c4), .sl 1 ps none, .sl 1 rs none, .v (.int .i64 0), .v (.slice none 0 0), .v (.int .i64 0)]],[]⟩⟩) ?_ ?_
 ·skip
  refine w_ (m_ (h:=?_));refine A6 rfl (Ag 0 (hc:=Gn l _ (4) (by omega) (by omega)) (hR:=?_));rintro r a4 ha4 ⟨k4,rfl,p4,q4,o4⟩;refine⟨rfl,_,(by repeat constructor),?_⟩;refine Ba (h:=e_ (?_));refine A9 rfl (fun hb1=>?_) (fun hb1=>?_)
  ·have hc1:=bp hb1;refine AR (f_ (h:=s_ (h:=AP (?_))));refine AJ ?_;refine⟨_,⟨_,_,?_,rfl⟩,(wk 3 0)⟩<;>omega
  have hc1:=bp hb1;refine Aq (?_);refine AJ ?_;refine⟨_,⟨_,_,?_,rfl⟩,(wk 3 0)⟩<;>omega
 rintro s ⟨b2,ph,hb2,rfl⟩;refine JJ 2 23 121 13 rfl rfl (by repeat constructor) (by repeat constructor) (by repeat constructor) ?_;refine Bx (fun s=>∃(b3:Nat) (ext:Int) (is:List Itm),b3≤a+500∧is.length≤2∧s=⟨look [(0, .bp 0 0),(2, .bp 1 0),(3, .bp 2 0)],⟨[Cc l b3,[.v (.int .i64 0), .v (.int .i64 0), .v (.int .i64 0), .v (.int .i64 0), .v (.int .i64 0), .v (.int .i64 0), .v (.int .i64 0), .v (.int .i64 0), .v (.int .i64 0), .v (.int .i64 0), .v (.int .i64 0), .v (.string ⟨#[]⟩), .v (.string ⟨#[]⟩), .v (.slice none 0 0), .v (.bool false), .v (.int .i64 0), .v (.int .i64 0), .v (.int .i64 0), .v (.int .i64 0), .v (.int .i64 0), .v (.slice none 0 0), .v (.slice none 0 0), .v (.int .i64 0), .v (.slice none 0 0), .v (.int .i64 0)],[.v (.int .i64 ph), .v (.int .i64 i1), .v (.int .i64 i2), .v (.int .i64 i3), .v (.int .i64 i4), .v (.int .i64 i5), .v (.int .i64 i6), .v (.int .i64 i7), .v (.int .i64 i8), .v (.int .i64 0), .v (.int .i64 0), .v (.string s1), .v (.string s2), .sl 4 [] none, .v (.bool w1), .v (.int .i64 c0), .v (.int .i64 c1), .v (.int .i64 c2), .v (.int .i64 c3), .v (.int .i64 c4), .sl 1 ps none, .sl 1 rs none, .v (.int .i64 ext), .sl 13 (is.map CN) (some 0), .v (.int .i64 0)]],[(121,13,is.map CN)]⟩⟩) ?_ ?_
 ·skip
  refine w_ (f_ (h:=l_ (h:=AK (h:=e_ (?_)))));refine A9 rfl (fun hb2=>?_) (fun hb2=>?_)
  ·have hc2:=bp hb2;refine w_ (m_ (h:=BX (h:=?_)));refine A6 rfl (Ag 0 (hc:=Ce l _ _ (fun _=>true) (by omega) (by rfl) (by rfl) (by rfl)) (hR:=?_));rintro r a5 ha5 ⟨k5,rfl,p5⟩;refine⟨rfl,_,(by repeat constructor),?_⟩;refine f_ (h:=s_ (h:=e_ (w_ (m_ (h:=?_)))));refine A6 rfl (Ag 0 (hc:=Gn l _ (3) (by omega) (by omega)) (hR:=?_));rintro r a6 ha6 ⟨k6,rfl,p6,q6,o6⟩;refine⟨rfl,_,(by repeat constructor),?_⟩;obtain⟨m,rfl⟩:=Int.eq_ofNat_of_zero_le p6;refine a_ (h:=e_ (Ab (?_)));refine BT (fun n s=>∃(j b1:Nat) (ext:Int) (is:List Itm),j≤m∧n=j∧b1≤b2+2+60 * (m - j)∧is.length=m - j∧s=⟨look [(0, .bp 0 0),(2, .bp 1 0),(3, .bp 2 0),(4, .v (.int .i64 (j:Int)))],⟨[Cc l b1,[.v (.int .i64 0), .v (.int .i64 0), .v (.int .i64 0), .v (.int .i64 0), .v (.int .i64 0), .v (.int .i64 0), .v (.int .i64 0), .v (.int .i64 0), .v (.int .i64 0), .v (.int .i64 0), .v (.int .i64 0), .v (.string ⟨#[]⟩), .v (.string ⟨#[]⟩), .v (.slice none 0 0), .v (.bool false), .v (.int .i64 0), .v (.int .i64 0), .v (.int .i64 0), .v (.int .i64 0), .v (.int .i64 0), .v (.slice none 0 0), .v (.slice none 0 0), .v (.int .i64 0), .v (.slice none 0 0), .v (.int .i64 0)],[.v (.int .i64 ph), .v (.int .i64 i1), .v (.int .i64 i2), .v (.int .i64 i3), .v (.int .i64 i4), .v (.int .i64 i5), .v (.int .i64 i6), .v (.int .i64 i7), .v (.int .i64 i8), .v (.int .i64 0), .v (.int .i64 0), .v (.string s1), .v (.string s2), .sl 4 [] none, .v (.bool w1), .v (.int .i64 c0), .v (.int .i64 c1), .v (.int .i64 c2), .v (.int .i64 c3), .v (.int .i64 c4), .sl 1 ps none, .sl 1 rs none, .v (.int .i64 ext), .sl 13 (is.map CN) (some 0), .v (.int .i64 0)]],[(121,13,is.map CN)]⟩⟩) (m) ((wk 3 1)) (⟨m,_,_,[],by omega,rfl,by omega,by simp,rfl⟩) ?_;rintro n s ⟨j,b1,ext,is,hj,hn,hb1,his,rfl⟩;subst n;refine q_ (w_ (m_ (h:=Ba (h:=e_ (?_)))));refine A9 rfl (fun hb3=>?_) (fun hb3=>?_)
   ·have hc3:=bp hb3;refine AD (q_ (Ab (C3 ([(1,[.v (.int .i64 0), .v (.int .i64 0), .v (.int .i64 0), .v (.int .i64 0), .v (.int .i64 0), .v (.int .i64 0), .v (.int .i64 0), .v (.int .i64 0), .v (.int .i64 0), .v (.int .i64 0), .v (.int .i64 0), .v (.string ⟨#[]⟩), .v (.string ⟨#[]⟩), .v (.slice none 0 0), .v (.bool false), .v (.int .i64 0), .v (.int .i64 0), .v (.int .i64 0), .v (.int .i64 0), .v (.int .i64 0), .v (.slice none 0 0), .v (.slice none 0 0), .v (.int .i64 0), .v (.slice none 0 0), .v (.int .i64 0)]),(2,[.v (.int .i64 ph), .v (.int .i64 i1), .v (.int .i64 i2), .v (.int .i64 i3), .v (.int .i64 i4), .v (.int .i64 i5), .v (.int .i64 i6), .v (.int .i64 i7), .v (.int .i64 i8), .v (.int .i64 0), .v (.int .i64 0), .v (.string s1), .v (.string s2), .sl 4 [] none, .v (.bool w1), .v (.int .i64 c0), .v (.int .i64 c1), .v (.int .i64 c2), .v (.int .i64 c3), .v (.int .i64 c4), .sl 1 ps none, .sl 1 rs none, .v (.int .i64 ext), .sl 13 (is.map CN) (some 0), .v (.int .i64 0)])]) 7 (h:=Aw 0 (h:=AO 1 (h:=Ac 2 (h:=?_)))))));refine c_ 3 rfl (Ag 0 (hc:=gB l _ (by omega)) (hR:=?_));rintro r a7 ha7 ⟨Y,rfl⟩;refine⟨rfl,_,(by repeat constructor),?_⟩;refine o_ (h:=Hi 4 (h:=?_))
    first|refine c_ 5 rfl (E2 rfl rfl rfl (by simp<;>omega) (by repeat constructor) ?_)|refine c_ 5 rfl (E3 rfl rfl (by simp<;>omega) (by repeat constructor) ?_)
    refine o_ (h:=Aw 6 (h:=?_));refine Bd 7 rfl (BY rfl rfl rfl rfl rfl rfl (by repeat constructor) (by repeat constructor) ?_);refine o_ (h:=z_ (h:=Ai (t_ (AR (m_ (h:=EN (h:=a_ (h:=AP (?_)))))))));refine AJ ?_;obtain⟨j,rfl⟩:∃i,j=i+1:=⟨j - 1,by omega⟩;refine⟨_,_,?_,⟨j,_,_,is++[Y],by omega,rfl,?_,?_,rfl⟩,(by rw[List.map_append];exact Ar 3 1 rfl rfl rfl rfl (by repeat (first|exact Sub.nil|refine As rfl rfl ?_|(apply Sub.of;(focus exact rfl);(focus exact LeA.of_eq (vi (by omega)));(focus exact rfl)))))⟩
    ·omega
    ·omega
    simp;omega
   have hc3:=bp hb3;refine BF (Ah (Ah (BG (?_))));refine AJ ?_
   first|(refine⟨_,⟨_,_,is,?_,?_,rfl⟩,(wk 3 1)⟩<;>omega)|(refine⟨_,⟨_,_,[],?_,?_,rfl⟩,(wk 3 1)⟩<;>first|omega|exact BR _)
  have hc2:=bp hb2;refine Aq (?_);refine AJ ?_
  first|(refine⟨_,⟨_,_,is,?_,?_,rfl⟩,(wk 3 1)⟩<;>omega)|(refine⟨_,⟨_,_,[],?_,?_,rfl⟩,(wk 3 1)⟩<;>first|omega|exact BR _)
 rintro s ⟨b3,ext,is,hb3,his,rfl⟩;refine q_ (w_ (m_ (h:=?_)));refine A6 rfl (Ag 0 (hc:=Gn l _ (6) (by omega) (by omega)) (hR:=?_));rintro r a8 ha8 ⟨k8,rfl,p8,q8,o8⟩;refine⟨rfl,_,(by repeat constructor),?_⟩;refine AK (h:=e_ (?_));refine A9 rfl (fun hb4=>?_) (fun hb4=>?_)
 ·have hc4:=bp hb4;refine AR (m_ (h:=BX (h:=?_)));refine A6 rfl (Ag 0 (hc:=Ce l _ _ (fun _=>true) (by omega) (by rfl) (by rfl) (by rfl)) (hR:=?_));rintro r a9 ha9 ⟨k9,rfl,p9⟩;refine⟨rfl,_,(by repeat constructor),?_⟩;refine f_ (h:=s_ (h:=e_ (w_ (l_ (h:=s_ (h:=e_ (A4 (?_))))))));refine Av none (h5:=(AZ _)) (h6:=⟨_,rfl,rfl,_,?_,rfl,⟨ph,i1,i2,i3,i4,i5,i6,i7,i8,(0,0),s1,s2,w1,c0,c1,c2,c3,c4,ext,is,_⟩,⟨[],ps,rs⟩,his,rfl⟩)<;>omega
 have hc4:=bp hb4;refine AD (w_ (l_ (h:=s_ (h:=e_ (A4 (?_))))));refine Av none (h5:=(AZ _)) (h6:=⟨_,rfl,rfl,_,?_,rfl,⟨ph,i1,i2,i3,i4,i5,i6,i7,i8,(0,0),s1,s2,w1,c0,c1,c2,c3,c4,ext,is,_⟩,⟨[],ps,rs⟩,his,rfl⟩)<;>omega
end
def KU(v:Vdt):List Value:=[.bool v.sel, .int .i64 v.rule, .string v.key]
set_option maxRecDepth 10000 in
set_option maxHeartbeats 1000000 in
theorem gD(op:BinOp)(x:Vdt)(w:World)(h:op= .eql∨op= .neq):(binOp op 67 (.agg (KU x).toArray) (.agg (KU x).toArray)).run prog w= .ok (.bool (decide (op= .eql))) w:=by
 have u3:=Tryz.underlying3;have a3:=Tryz.isAgg3;have z3:=Tryz.sizeOf3;have u4:=Tryz.underlying4;have a4:=Tryz.isAgg4;have z4:=Tryz.sizeOf4;have u9:=Tryz.underlying9;have a9:=Tryz.isAgg9;have z9:=Tryz.sizeOf9;have hS:prog.underlying 67=some (.struct (prog.fieldsOf 67)):=by kernel_rfl
 have hp:prog.stoodInHeld 67=false:=by kernel_rfl
 have e:∀w,(Op.equalIn 10000 67 (.agg (KU x).toArray) (.agg (KU x).toArray)).run prog w= .ok true w:=by
  intro w;rw[show(10000:Nat)=9999+1 from rfl,run_equalIn_agg w 9999 67 _ _ hS hp];simp only[Program.fieldsOf,Tryz.underlying67,KU]
  go_simp
 rcases h with rfl|rfl
 ·rw[run_eql_struct,e];rfl
 rw[run_neq_struct,e];rfl
theorem V7(x:Vdt):AllV (EB x) (KU x):=by repeat constructor
theorem Nt{ev:Operand→Option AV}{h:AH}{R:AV→AH→Prop}{d:Option Tmp}{ty:TypeId}{pos:String}{af:Array Edge}{gd:Option (Nat×Bool)}{yT:TypeId}{x y:Operand}(z:Vdt)(hx:ev x=some (.agg (EB z)))(hy:ev y=some (.agg (EB z)))(hR:R (.v (.bool true)) h):AStep prog ⟨d, .binOp .eql 67 x y yT,ty,pos,af,gd⟩ ev h R:=
 E4 hx hy (V7 z) (V7 z) (fun w=>gD .eql z w (.inl rfl)) (by kernel_rfl) hR
def Ls(x:AM×Int×Bool):List AV:=[.v (.string x.1), .v (.int .i64 x.2.1), .v (.bool x.2.2)]
def QT:List (AM×Int×Bool):=[(⟨#[85,83,69,82]⟩,1005,true),(⟨#[68,65,69,77,79,78]⟩,1200,true),(⟨#[83,89,83,67,65,76,76]⟩,1300,false),(⟨#[80,65,84,72]⟩,1302,false),(⟨#[67,79,78,70,73,71]⟩,1305,true),(⟨#[83,79,67,75,65,68,68,82]⟩,1306,false),(⟨#[67,87,68]⟩,1307,false),(⟨#[69,88,69,67,86,69]⟩,1309,false),(⟨#[69,79,69]⟩,1320,false),(⟨#[76,79,83,83]⟩,1331,true)]
def Nu:List Int:=QT.map fun x=>x.2.1
section
theorem gE:AFn prog 80 [] (fun r=>r= .sl 3 (QT.map Ls) none):=by
 refine enter Tryz.func80 rfl rfl rfl rfl rfl 0 rfl ?_;refine w_ (a_ (h:=e_ (w_ (AX (h:=AX (h:=AX (h:=AX (h:=AX (h:=AX (h:=AX (h:=AX (h:=AX (h:=AX (h:=BX (h:=a_ (h:=e_ (A4 (?_))))))))))))))))));refine A7 ?_;rfl
theorem gF:Jt prog 37 [] (fun g=> .sl 1 (Nu.map DD) g) (3,1,Nu.map DD):=by
 obtain⟨K,hK⟩:∃K,QT=K:=⟨_,rfl⟩;have hk:AFn prog 80 [] (fun r=>r= .sl 3 (K.map Ls) none):=hK ▸ gE;have hlen:K.length≤1000:=by rw[←hK];decide
 unfold Nu;rw[hK];clear hK;refine enter Tryz.func37 rfl rfl rfl rfl rfl 0 rfl ?_;refine w_ (a_ (h:=e_ (w_ (a_ (h:=e_ (w_ (?_)))))));refine A6 rfl (AB (hk) ?_);rintro r rfl;refine a_ (h:=e_ (q_ (w_ (a_ (h:=e_ (Ab (?_)))))));refine Jr 1 3 1 rfl (by repeat constructor) ?_;refine BT (fun n S=>∃j:Nat,j≤K.length∧n=K.length - j∧S=⟨look [(1, .sl 1 (((K.take j).map fun x=>x.2.1).map DD) (some 0)),(2, .sl 3 (K.map Ls) none),(3, .v (.int .i64 (j:Int)))],⟨[],[(3,1,((K.take j).map fun x=>x.2.1).map DD)]⟩⟩) (K.length) ((wk 0 1)) (⟨0,BR _,rfl,rfl⟩) ?_;rintro n S ⟨j,hj,rfl,rfl⟩;refine q_ (w_ (m_ (h:=m_ (h:=n_ (h:=B4 (h:=e_ (?_)))))));refine A9 rfl (fun hb1=>?_) (fun hb1=>?_)
 ·have hc1:=bp hb1;obtain⟨hlt,y,hy,hrow,e⟩:=Bt Ls hc1;refine AD (q_ (Ab (AR (m_ (h:=m_ (h:=m_ (h:=i_ (h:=f_ (h:=l_ (h:=BX (h:=Dm (h:=a_ (h:=AP (Ai (t_ (AR (m_ (h:=B8 (h:=a_ (h:=AP (?_)))))))))))))))))))));refine AJ ?_;refine⟨_,_,?_,⟨j+1,by omega,rfl,rfl⟩,?_⟩
  ·omega
  rw[List.take_add_one,hy,List.map_append,List.map_append];exact(wk 0 1)
 have hc1:=bp hb1;have e:=C9 Ls hj hc1;subst e;rw[List.take_length];refine BF (Ah (Ah (BG (t_ (w_ (m_ (h:=a_ (h:=e_ (A4 (?_))))))))));refine Av (some 0) (h5:=(AZ _)) (h6:=⟨rfl,rfl,rfl⟩)
theorem gG(l:List Int)(t:Int):AFn prog 5 [.sl 1 (l.map DD) none, .v (.int .i64 t)] (fun r=>r= .v (.bool true)):=by
 obtain⟨T,hT⟩:∃T,Nu=T:=⟨_,rfl⟩;have hty:Jt prog 37 [] (fun g=> .sl 1 (T.map DD) g) (3,1,T.map DD):=hT ▸ gF;have hTl:T.length≤1000:=by rw[←hT];decide
 clear hT;obtain⟨U,hU⟩:∃U,T++[t,0,1301]=U:=⟨_,rfl⟩;have hUm:T.map DD++[CJ (.v (.int .i64 t)),CJ (.v (.int .i64 0)),CJ (.v (.int .i64 1301))]=U.map DD:=by rw[←hU,List.map_append];rfl
 have hUl:U.length≤2000:=by rw[←hU];simp;omega
 refine enter Tryz.func5 rfl rfl rfl rfl rfl 0 rfl ?_;refine w_ (a_ (h:=e_ (w_ (m_ (h:=?_)))));refine A6 rfl (Vj rfl (by repeat (first|exact Args.nil|refine Args.cons _ _ _ _ _ rfl (GE rfl) ?_|refine Args.cons _ _ _ _ _ rfl (Hc _) ?_|refine Args.cons _ _ _ _ _ rfl (Ge _) ?_|refine Args.cons _ _ _ _ _ rfl (Hf rfl (by repeat (first|exact AZ _|exact LeA.nil _|exact LeL.refl _|refine LeA.agg ?_|refine LeA.tup ?_|exact LeL.nil|refine LeL.cons ?_ ?_|exact LeA.any _))) ?_)) rfl (YV l) (by repeat constructor) ?_)
 skip
 refine a_ (h:=e_ (w_ (m_ (h:=?_))));refine A6 rfl (Ag 0 (hc:=Yw l _ (by omega)) (hR:=?_));rintro r a1 ha1 ⟨s,rfl,hv,hm⟩;refine⟨rfl,_,(by repeat constructor),?_⟩;have hmm:s.mounts.length≤1000:=by omega
 have hsb:=hv.b hmm;refine Aa (h:=s_ (h:=e_ (w_ (m_ (h:=l_ (h:=?_))))));refine A6 rfl (Ag 0 (hc:=eS l _ 10 s (by omega) (by omega) hv hmm) (hR:=?_));rintro r a2 ha2 ⟨p,hp,rfl⟩;refine⟨rfl,_,(by repeat constructor),?_⟩;have sp:=hp.sm (by decide);have hpw:=hp.len;refine Aa (h:=s_ (h:=e_ (w_ (m_ (h:=?_)))));refine A6 rfl (Ag 0 (hc:=gC l _ (by omega)) (hR:=?_));rintro r a3 ha3 ⟨c,k,hc,rfl⟩;refine⟨rfl,_,(by repeat constructor),?_⟩;have hit:c.items.length≤1000:=by omega
 refine Aa (h:=s_ (h:=e_ (?_)));refine Bx (fun S=>∃b:Nat,S=⟨look [(6, .bp 1 0),(7, .bp 2 0),(8, .bp 3 0),(9, .sl 1 (U.map DD) none)],⟨[Cc l b,Aj s,Bb p,Bf c k],[]⟩⟩) ?_ ?_
 ·skip
  refine AR (?_);refine A6 rfl (OM rfl (by repeat (first|exact Args.nil|refine Args.cons _ _ _ _ _ rfl (GE rfl) ?_|refine Args.cons _ _ _ _ _ rfl (Hc _) ?_|refine Args.cons _ _ _ _ _ rfl (Ge _) ?_|refine Args.cons _ _ _ _ _ rfl (Hf rfl (by repeat (first|exact AZ _|exact LeA.nil _|exact LeL.refl _|refine LeA.agg ?_|refine LeA.tup ?_|exact LeL.nil|refine LeL.cons ?_ ?_|exact LeA.any _))) ?_)) hty (fun _=>rfl) (by repeat constructor) ?_);refine m_ (h:=BX (h:=Dm (h:=a_ (h:=AP (?_)))));refine AJ ?_;rw[hUm];exact⟨_,⟨_,rfl⟩,Ar 4 0 rfl rfl rfl rfl ((by repeat (first|exact Sub.nil|refine As rfl rfl ?_|refine Ay ?_|refine Az rfl ?_|refine B0 rfl ?_)))⟩
 rintro S ⟨b,rfl⟩;refine q_ (w_ (a_ (h:=e_ (Ab (?_)))));refine BT (fun n S=>∃j:Nat,j≤U.length∧n=U.length - j∧S=⟨look [(6, .bp 1 0),(7, .bp 2 0),(8, .bp 3 0),(9, .sl 1 (U.map DD) none),(10, .v (.int .i64 (j:Int)))],⟨[Cc l b,Aj s,Bb p,Bf c k],[]⟩⟩) (U.length) ((wk 4 0)) (⟨0,BR _,rfl,rfl⟩) ?_;rintro n S ⟨j,hj,rfl,rfl⟩;refine q_ (w_ (m_ (h:=m_ (h:=n_ (h:=B4 (h:=e_ (?_)))))));refine A9 rfl (fun hb1=>?_) (fun hb1=>?_)
 ·have hc1:=bp hb1;obtain⟨hlt,z,hy,hrow, -⟩:=Bt DD hc1;refine AD (q_ (Ab (q_ (Cj 15 (h:=AO 0 (h:=AO 1 (h:=Ac 2 (h:=Ac 3 (h:=Cl 4 (h:=AO 5 (h:=AO 7 (h:=AO 8 (h:=Ac 9 (h:=Ac 10 (h:=Cl 11 (h:=AO 12 (h:=?_)))))))))))))))));refine c_ 6 rfl (AB (fV p c k sp.rl sp.ts hit z _ rfl) ?_);rintro r rfl;refine o_ (h:=?_);refine c_ 13 rfl (AB (fW p c k sp.rl sp.ts hit z _ rfl) ?_);rintro r rfl;refine o_ (h:=Ks 14 (h:=z_ (h:=t_ (?_))));refine A9 rfl (fun hb2=>?_) (fun hb2=>?_)
  ·have hc2:=bp hb2;simp at hc2
  have hc2:=bp hb2;refine Aq (Ai (t_ (AR (m_ (h:=B8 (h:=a_ (h:=AP (?_))))))));refine AJ ?_;refine⟨_,_,?_,⟨j+1,by omega,rfl,rfl⟩,Ar 4 0 rfl rfl rfl rfl ((by repeat (first|exact Sub.nil|refine As rfl rfl ?_|refine Ay ?_|refine Az rfl ?_|refine B0 rfl ?_)))⟩;omega
 have hc1:=bp hb1;have e:=C9 DD hj hc1;subst e;refine BF (Ah (Ah (BG (t_ (w_ (l_ (h:=l_ (h:=?_))))))));refine A6 rfl (AB (Us p c k sp.rl sp.ts) ?_);rintro r rfl;refine m_ (h:=x_ (h:=x_ (h:=Aa (h:=s_ (h:=a_ (h:=e_ (w_ (l_ (h:=l_ (h:=?_))))))))));refine A6 rfl (AB (Ut p c k sp.rl sp.ts) ?_);rintro r rfl;refine m_ (h:=x_ (h:=x_ (h:=Aa (h:=s_ (h:=a_ (h:=e_ (q_ (Cj 52 (h:=Ac 0 (h:=Ac 1 (h:=Eb 2 (h:=Ac 3 (h:=?_)))))))))))));refine EJ (j:=3) rfl (fun hb3=>?_) (fun hb3=>?_)
 ·have hc3:=bp hb3;refine AO 4 (h:=AO 5 (h:=?_));refine Dw (i:=6) rfl (Nt (Ej p.rules (Jf p c)) rfl rfl ⟨rfl,rfl⟩) ?_;refine E5 7 (h:=Ac 8 (h:=?_));refine EJ (j:=8) rfl (fun hb4=>?_) (fun hb4=>?_)
  ·have hc4:=bp hb4;refine AO 9 (h:=AO 10 (h:=AO 11 (h:=AO 13 (h:=AO 14 (h:=AO 15 (h:=?_))))));refine c_ 12 rfl (AB (V3 s p c k hsb sp.rl hpw sp.ts hit) ?_);rintro r rfl;refine o_ (h:=?_);refine c_ 16 rfl (AB (V4 s p c k hsb sp.rl hpw sp.ts hit hv) ?_);rintro r rfl;refine o_ (h:=?_);refine Dw (i:=17) rfl (Nt (Ej p.rules (Jg s p c)) rfl rfl ⟨rfl,rfl⟩) ?_;refine E5 18 (h:=Ac 19 (h:=?_));refine EJ (j:=19) rfl (fun hb5=>?_) (fun hb5=>?_)
   ·have hc5:=bp hb5;refine AO 20 (h:=AO 21 (h:=AO 22 (h:=AO 24 (h:=AO 25 (h:=AO 26 (h:=?_))))));refine c_ 23 rfl (AB (QS s p c k hsb sp.rl hpw sp.ts hit) ?_);rintro r rfl;refine o_ (h:=?_);refine c_ 27 rfl (AB (fL s p c k hsb sp.rl hpw sp.ts hit hv) ?_);rintro r rfl;refine o_ (h:=?_);refine Dw (i:=28) rfl (Nt (FQ s p c) rfl rfl ⟨rfl,rfl⟩) ?_;refine E5 29 (h:=Ac 30 (h:=?_));refine EJ (j:=30) rfl (fun hb6=>?_) (fun hb6=>?_)
    ·have hc6:=bp hb6;refine AO 31 (h:=AO 32 (h:=AO 34 (h:=AO 35 (h:=?_))));refine c_ 33 rfl (AB (fR p c k sp.rl sp.ts hit _ rfl) ?_);rintro r rfl;refine o_ (h:=?_);refine c_ 36 rfl (AB (fS p c k sp.rl sp.ts hit _ rfl) ?_);rintro r rfl;refine o_ (h:=Eb 37 (h:=E5 38 (h:=Ac 39 (h:=?_))));refine EJ (j:=39) rfl (fun hb7=>?_) (fun hb7=>?_)
     ·have hc7:=bp hb7;refine AO 40 (h:=AO 41 (h:=AO 43 (h:=AO 44 (h:=?_))));refine c_ 42 rfl (AB (fT p c k sp.rl sp.ts hit _ rfl) ?_);rintro r rfl;refine o_ (h:=?_);refine c_ 45 rfl (AB (fU p c k sp.rl sp.ts hit _ rfl) ?_);rintro r rfl;refine o_ (h:=?_);refine Dw (i:=46) rfl (Nt (H4 p.rules c.audited (QP p c)) rfl rfl ⟨rfl,rfl⟩) ?_;refine E5 47 (h:=Ac 48 (h:=?_));refine EJ (j:=48) rfl (fun hb8=>?_) (fun hb8=>?_)
      ·have hc8:=bp hb8;refine c_ 49 rfl (AB (fQ) ?_);rintro r rfl;refine o_ (h:=E5 50 (h:=BL 51 (h:=z_ (h:=t_ (A4 (?_))))));refine A7 ?_
       first|rfl|(exfalso;first|contradiction|omega|(simp_all;done))
      have hc8:=bp hb8;simp at hc8
     have hc7:=bp hb7;simp at hc7
    have hc6:=bp hb6;simp at hc6
   have hc5:=bp hb5;simp at hc5
  have hc4:=bp hb4;simp at hc4
 have hc3:=bp hb3;simp at hc3
end
theorem FilterContexts_walk{H:Type}{enc:TypeId×Value→H}{sp:Nat→Bool}{held:Bool}{base:Nat}(a:Option Addr)(n c:Nat)(k:Int)(w:World){d:DataW H}{p:List MemPlace}(h:DataW.Trod enc prog w base sp held 22 (.slice a n c) d p)(_: -9223372036854775808≤k)(_:k≤9223372036854775807):
    Calls prog 5 #[.slice a n c, .int .i64 k] w fun e w'=>e= .returned (.bool true)∧Below w.heap.size w w':=Z7 [.int .i64 k] (fun l=>gG l k) a n c w h
end Go.Proofs.YtbgnigjfkbmceaaGreatDoor
