/-
  Part 15 of the proof of WatchNamesP: what the statement's proof uses of the texts in wip/tpl.
-/
import Derived.Test.YtobclmbkdhbnpaaGreatDoorQb14
open Go.Proofs.Tryz (prog)
set_option maxRecDepth 10000
set_option maxHeartbeats 4000000
set_option linter.unusedVariables false
set_option linter.unusedSimpArgs false
namespace Go.Proofs.YtobclmbkdhbnpaaGreatDoor
open Go.RowKit
def Pb(i:Nat):Itm:=⟨⟨#[]⟩,⟨#[]⟩,Cc,GO i,Ez,0,0,0,0,0,0⟩
def Pc:Itm:=⟨⟨#[]⟩,⟨#[]⟩,Cc,⟨#[97]⟩,(0,0),0,0,0,0,0,0⟩
def Pd:Itm:=⟨⟨#[]⟩,⟨#[]⟩,Cc,⟨#[98]⟩,Ez,0,0,0,0,0,0⟩
def Pe:Itm:=⟨⟨#[]⟩,⟨#[]⟩,Cc,⟨#[122]⟩,Cc,0,0,0,0,0,0⟩
def N5:List (List AV):=[[.v (.string ⟨#[98]⟩)],[.v (.string ⟨#[99]⟩)],[.v (.string ⟨#[100]⟩)],[.v (.string ⟨#[101]⟩)]]
theorem UN:∀{j:Nat},j<4→N5[j]?=some [.v (.string (GO j))]
 |0,_=>rfl
 |1,_=>rfl
 |2,_=>rfl
 |3,_=>rfl
 |n+4,h=>by omega
structure WnC(S:Syst)(F U:Nat→AR):Prop where
 new:AFn prog 17 [.v (.int .i64 1)] (fun r=>r= .tup [.agg (CB S), .v (.int .i64 0)])
 make:AFn prog 18 [.agg (Am S.spc.files), .agg (A7 (0,1)), .v (.string ⟨#[97]⟩), .agg (AW KD)] (fun r=>r= .tup [.agg (Am (F 0)), .sl 7 [C2 ((0,1),⟨#[97]⟩,(0,0),(0,2))] none, .v (.int .i64 0)])
 link:∀j,j<4→AFn prog 19 [.agg (Am (F j)), .agg (A7 (0,1)), .v (.string (GO j)), .agg (A7 (0,2))] (fun r=>∃c,r= .tup [.agg (Am (F (j+1))), .sl 7 c none, .v (.int .i64 0)])
 place:∀k,k<5→AFn prog 20 [.agg (As ⟨F k,[]⟩), .v (.int .i64 1), .v (.string ⟨#[47,97]⟩)] (fun r=>r= .tup [.agg (CL Ee), .v (.int .i64 0)])
 hit:∀k j,k<5→AFn prog 16 [.agg (As ⟨F k,[]⟩), .agg (CL Ee), .agg (Bm (Pb j))] (fun r=>r= .v (.bool true))
 unl:∀k,k<5→AFn prog 21 [.agg (Am (F k)), .agg (A7 (0,1)), .v (.string ⟨#[97]⟩)] (fun r=>∃c,r= .tup [.agg (Am (U k)), .sl 7 c none, .v (.int .i64 0)])
 fol:∀k,k<5→AFn prog 14 [.agg (As ⟨U k,[]⟩), .agg (CL Ee)] (fun r=>r= .tup [.agg (CL GP), .v (.bool true)])
 hit0:∀k,k<5→AFn prog 16 [.agg (As ⟨U k,[]⟩), .agg (CL GP), .agg (Bm Pc)] (fun r=>r= .v (.bool true))
 no:∀k,k<5→AFn prog 16 [.agg (As ⟨U k,[]⟩), .agg (CL GP), .agg (Bm Pd)] (fun r=>r= .v (.bool false))
 noz:∀k,k<5→AFn prog 16 [.agg (As ⟨F k,[]⟩), .agg (CL Ee), .agg (Bm Pe)] (fun r=>r= .v (.bool false))
theorem d6:∃S F U,WnC S F U:=by
 have hb:∀k,k<5→SpcB ⟨Dx k,[]⟩:=fun k hk=>(UM hk).b (BC _);have hu:∀k,k<5→SpcB ⟨JP k,[]⟩:=fun k hk=>(cZ hk).b (BC _);have hn:(FE 1).2=0:=UD.2.2.2.2.2.2.2;refine⟨(FE 1).1,Dx,JP,?_,?_,?_,?_,?_,?_,?_,?_,?_,?_⟩
 ·exact(Th 1).mono fun r hr=>by rw[hr,LV,hn]
 ·exact(Rz LZ Cc ⟨#[97]⟩ KD UK (by decide) (by decide)).mono fun r hr=>by
     rw[hr];have e:DU LZ Cc ⟨#[97]⟩ KD=(Dx 0,[(Cc,⟨#[97]⟩,(0,0),Ez)],0):=Prod.ext rfl UG;rw[CH,e];rfl
 ·intro j hj;exact(X0 (Dx j) Cc (GO j) Ez (JQ j (by omega)).1 (by show 1≤100000;decide)).mono fun r hr=>⟨(DS (Dx j) Cc (GO j) Ez).2.1.map C2,by rw[hr,CH,UH j hj];rfl⟩
 ·intro k hk;exact(U1 ⟨Dx k,[]⟩ 1 ⟨#[47,97]⟩ (UM hk) (BC _) (by decide)).mono fun r hr=>by rw[hr,PV,cR k hk]
 ·intro k j hk;exact(N1 ⟨Dx k,[]⟩ Ee (Pb j) (hb k hk)).mono fun r hr=>by rw[hr];exact congrArg (fun b=>AV.v (.bool b)) (cU _ j)
 ·intro k hk;exact(X6 (Dx k) Cc ⟨#[97]⟩ (JQ k hk).1 (by decide)).mono fun r hr=>⟨(EV (Dx k) Cc ⟨#[97]⟩).2.1.map C2,by rw[hr,CH,UJ k hk];rfl⟩
 ·intro k hk;exact(U6 ⟨JP k,[]⟩ Ee (hu k hk)).mono fun r hr=>by rw[hr,cT k hk];rfl
 ·intro k hk;exact(N1 ⟨JP k,[]⟩ GP Pc (hu k hk)).mono fun r hr=>by rw[hr];exact congrArg (fun b=>AV.v (.bool b)) (cV _)
 ·intro k hk;exact(N1 ⟨JP k,[]⟩ GP Pd (hu k hk)).mono fun r hr=>by rw[hr];exact congrArg (fun b=>AV.v (.bool b)) (cW _)
 intro k hk;exact(N1 ⟨Dx k,[]⟩ Ee Pe (hb k hk)).mono fun r hr=>by rw[hr];exact congrArg (fun b=>AV.v (.bool b)) (cY _)
section
theorem d7(n:Int)(hn:0≤n)(ms:Bool):AFn prog 4 [.v (.int .u8 n), .v (.bool ms)] (fun r=>r= .v (.bool true)):=by
 obtain⟨k,hk,hk5⟩:∃k:Nat,n.tmod 5=(k:Int)∧k≤4:=⟨(n.tmod 5).toNat,by have:=Int.tmod_nonneg 5 hn;omega,by have:=Int.tmod_lt_of_pos n (show(0:Int)<5 by decide);have:=Int.tmod_nonneg 5 hn;omega⟩
 have hw:IntKind.i64.wrap (k:Int)=(k:Int):=by
  have:∀k:Nat,k≤4→IntKind.i64.wrap (k:Int)=(k:Int):=by decide
  exact this k hk5
 obtain⟨S,F,U,hC⟩:=d6;refine enter Tryz.func4 rfl rfl rfl rfl rfl 0 rfl ?_;refine w_ (a_ (h:=e_ (w_ (?_))));refine A8 rfl (AN (hC.new) ?_);rintro r rfl;refine m_ (h:=x_ (h:=x_ (h:=Ak (h:=s_ (h:=a_ (h:=e_ (w_ (Aa (h:=Ak (h:=s_ (h:=e_ (w_ (f_ (h:=f_ (h:=l_ (h:=l_ (h:=Aa (h:=?_))))))))))))))))));refine A8 rfl (AN (hC.make) ?_);rintro r rfl;refine m_ (h:=x_ (h:=x_ (h:=x_ (h:=Ak (h:=s_ (h:=a_ (h:=a_ (h:=e_ (q_ (w_ (m_ (h:=Bf (h:=m_ (h:=?_))))))))))))));refine Aw false rfl rfl (fun hb1=>?_) (fun hb1=>?_)
 ·have hc1:=bp hb1;refine A3 (h:=A3 (h:=A3 (h:=AY (h:=e_ (CD (h:=w_ (?_)))))));refine A8 rfl (AN (N4) ?_);rintro r rfl;refine a_ (h:=e_ (A4 (A9 (?_))));refine AD ?_
  first|rfl|(exfalso;first|contradiction|omega|(simp_all;done))
 have hc1:=bp hb1;refine m_ (h:=n_ (h:=Bf (h:=Aj (h:=e_ (?_)))));refine AA rfl (fun hb2=>?_) (fun hb2=>?_)
 ·have hc2:=bp hb2;refine w_ (?_);refine A8 rfl (AN (N4) ?_);rintro r rfl;refine a_ (h:=e_ (A4 (A9 (?_))));refine AD ?_
  first|rfl|(exfalso;first|contradiction|omega|(simp_all;done))
 have hc2:=bp hb2;refine AO (w_ (m_ (h:=i_ (h:=f_ (h:=l_ (h:=Ak (h:=s_ (h:=e_ (w_ (CR (h:=a_ (h:=e_ (?_)))))))))))));refine BR (fun t=>t=⟨look [(0, .v (.int .u8 n)),(1, .v (.bool ms)),(7, .bp 1 0),(8, .bp 2 0),(11, .bp 3 0),(12, .sl 1 N5 none)],⟨[CB S,A7 (0,1),Am (F k),A7 (0,2)],[]⟩⟩) ?_ ?_
 ·skip
  refine w_ (a_ (h:=e_ (Ap (?_))));refine By (fun m t=>∃j:Nat,j≤k∧m=k - j∧t=⟨look [(0, .v (.int .u8 n)),(1, .v (.bool ms)),(5, .bp 0 0),(7, .bp 1 0),(8, .bp 2 0),(11, .bp 3 0),(12, .sl 1 N5 none),(13, .v (.int .i64 (j:Int)))],⟨[CB S,A7 (0,1),Am (F j),A7 (0,2)],[]⟩⟩) (k) (wk 4 0) (⟨0,by omega,rfl,rfl⟩) ?_;rintro m t ⟨j,hj,rfl,rfl⟩;refine q_ (w_ (m_ (h:=m_ (h:=?_))));refine A8 rfl (Pw rfl rfl (by decide) ?_);rw[hk];refine A8 rfl (QK rfl Tryz.underlying5 Tryz.underlying3 ?_);rw[hw];refine BQ (h:=m_ (h:=?_));refine Aw true rfl rfl (fun hb3=>?_) (fun hb3=>?_)
  ·have hc3:=bp hb3;refine m_ (h:=m_ (h:=n_ (h:=BQ (h:=AY (h:=e_ (?_))))));refine AA rfl (fun hb4=>?_) (fun hb4=>?_)
   ·have hc4:=bp hb4;have hrow:=UN (j:=j) (by omega);refine AO (q_ (Ap (Bo ([(0,CB S),(1,A7 (0,1)),(3,A7 (0,2))]) 13 (h:=AF 1 (h:=AQ 2 (h:=AQ 3 (h:=DD 4 (h:=AF 5 (h:=AF 6 (h:=?_))))))))));refine c_ 0 rfl (Eg rfl rfl rfl ?_);refine o_ (h:=?_);refine c_ 7 rfl (AN (hC.link j (by omega)) ?_);rintro r ⟨c,rfl⟩;refine o_ (h:=AQ 8 (h:=BU 9 (h:=BU 10 (h:=BU 11 (h:=?_)))));refine BA 12 rfl (B1 rfl rfl rfl rfl rfl rfl (by repeat constructor) (by repeat constructor) ?_);refine o_ (h:=z_ (h:=Ay (t_ (AX (m_ (h:=BB (h:=a_ (h:=AT (?_)))))))));refine AG ?_;refine⟨_,_,?_,⟨j+1,by omega,rfl,rfl⟩,wk 4 0⟩;omega
   have hc4:=bp hb4;exact absurd (show((j:Nat):Int)<((4:Nat):Int) by omega) hc4
  have hc3:=bp hb3;obtain rfl:k=j:=by omega
  refine A3 (h:=A3 (h:=A3 (h:=A3 (h:=Aj (h:=e_ (F6 (h:=Ba (Ao (Ao (Bb (?_)))))))))));refine AG ?_;exact⟨_,rfl,wk 4 0⟩
 rintro t rfl;refine w_ (l_ (h:=?_));refine A8 rfl (Em (y:= .agg (As ⟨F k,[]⟩)) (D8 ⟨rfl,rfl⟩) ?_);refine Ak (h:=s_ (h:=e_ (w_ (l_ (h:=?_)))));refine A8 rfl (AN (hC.place k (by omega)) ?_);rintro r rfl;refine m_ (h:=x_ (h:=x_ (h:=Ak (h:=s_ (h:=a_ (h:=e_ (q_ (w_ (m_ (h:=Bf (h:=m_ (h:=?_))))))))))));refine Aw false rfl rfl (fun hb5=>?_) (fun hb5=>?_)
 ·have hc5:=bp hb5;refine A3 (h:=A3 (h:=A3 (h:=A3 (h:=AY (h:=e_ (CD (h:=w_ (a_ (h:=e_ (A4 (A9 (?_))))))))))));refine AD ?_
  first|rfl|(exfalso;first|contradiction|omega|(simp_all;done))
 have hc5:=bp hb5;refine f_ (h:=l_ (h:=l_ (h:=?_)));refine Ax (EQ rfl rfl (by repeat constructor) (by repeat constructor) (fun W=>Tx (0,2) (0,2) W) (by kernel_rfl) ?_);refine Aj (h:=e_ (?_));refine AA rfl (fun hb6=>?_) (fun hb6=>?_)
 ·have hc6:=bp hb6;refine w_ (a_ (h:=e_ (A4 (A9 (?_)))));refine AD ?_
  first|rfl|(exfalso;first|contradiction|omega|(simp_all;done))
 have hc6:=bp hb6;refine AO (?_);refine BR (fun t=>t=⟨look [(1, .v (.bool ms)),(7, .bp 1 0),(8, .bp 2 0),(11, .bp 3 0),(14, .bp 4 0),(15, .bp 5 0)],⟨[CB S,A7 (0,1),Am (F k),A7 (0,2),As ⟨F k,[]⟩,CL Ee],[]⟩⟩) ?_ ?_
 ·skip
  refine w_ (a_ (h:=e_ (Ap (?_))));refine By (fun m t=>∃j:Nat,j≤k∧m=k - j∧t=⟨look [(0, .v (.int .u8 n)),(1, .v (.bool ms)),(7, .bp 1 0),(8, .bp 2 0),(11, .bp 3 0),(12, .sl 1 N5 none),(14, .bp 4 0),(15, .bp 5 0),(17, .v (.int .i64 (j:Int)))],⟨[CB S,A7 (0,1),Am (F k),A7 (0,2),As ⟨F k,[]⟩,CL Ee],[]⟩⟩) (k) (wk 6 0) (⟨0,by omega,rfl,rfl⟩) ?_;rintro m t ⟨j,hj,rfl,rfl⟩;refine q_ (w_ (m_ (h:=m_ (h:=?_))));refine A8 rfl (Pw rfl rfl (by decide) ?_);rw[hk];refine A8 rfl (QK rfl Tryz.underlying5 Tryz.underlying3 ?_);rw[hw];refine BQ (h:=m_ (h:=?_));refine Aw true rfl rfl (fun hb7=>?_) (fun hb7=>?_)
  ·have hc7:=bp hb7;refine m_ (h:=m_ (h:=n_ (h:=BQ (h:=AY (h:=e_ (?_))))));refine AA rfl (fun hb8=>?_) (fun hb8=>?_)
   ·have hc8:=bp hb8;have hrow:=UN (j:=j) (by omega);refine AO (q_ (Ap (q_ (Dp 11 (h:=AF 0 (h:=AF 1 (h:=AF 2 (h:=AQ 3 (h:=AQ 4 (h:=DD 5 (h:=AF 6 (h:=AF 7 (h:=?_)))))))))))));refine F3 (i:=8) rfl (F1 (y:= .agg (Bm (Pb j))) (D8 ⟨rfl,rfl⟩) (by repeat (first|exact AM _|exact LeA.nil _|exact LeL.refl _|refine LeA.agg ⟨rfl,rfl⟩|refine LeA.tup ⟨rfl,rfl⟩|exact LeL.nil|refine LeL.cons ⟨rfl,rfl⟩ ⟨rfl,rfl⟩|exact LeA.any _)) ⟨rfl,rfl⟩) ?_;refine c_ 9 rfl (AN (hC.hit k j (by omega)) ?_);rintro r rfl;refine o_ (h:=M9 10 (h:=z_ (h:=t_ (?_))));refine AA rfl (fun hb9=>?_) (fun hb9=>?_)
    ·have hc9:=bp hb9;refine w_ (a_ (h:=e_ (A4 (Ab (A9 (A9 (Ab (A9 (?_)))))))));refine AD ?_
     first|rfl|(exfalso;first|contradiction|omega|(simp_all;done))
    have hc9:=bp hb9;refine BH (Ay (t_ (AX (m_ (h:=BB (h:=a_ (h:=AT (?_))))))));refine AG ?_;refine⟨_,_,?_,⟨j+1,by omega,rfl,rfl⟩,wk 6 0⟩;omega
   have hc8:=bp hb8;exact absurd (show((j:Nat):Int)<((4:Nat):Int) by omega) hc8
  have hc7:=bp hb7;obtain rfl:k=j:=by omega
  refine A3 (h:=A3 (h:=A3 (h:=A3 (h:=Aj (h:=e_ (F6 (h:=Ba (Ao (Ao (Bb (?_)))))))))));refine AG ?_;exact⟨_,rfl,wk 6 0⟩
 rintro t rfl;refine q_ (w_ (m_ (h:=e_ (?_))));refine AA rfl (fun hb10=>?_) (fun hb10=>?_)
 ·have hc10:=bp hb10;refine w_ (l_ (h:=l_ (h:=?_)));refine A8 rfl (AN (hC.unl k (by omega)) ?_);rintro r ⟨c,rfl⟩;refine m_ (h:=x_ (h:=x_ (h:=x_ (h:=s_ (h:=e_ (w_ (l_ (h:=f_ (h:=s_ (h:=e_ (w_ (l_ (h:=l_ (h:=?_))))))))))))));refine A8 rfl (AN (hC.fol k (by omega)) ?_);rintro r rfl;refine m_ (h:=x_ (h:=x_ (h:=Ak (h:=s_ (h:=a_ (h:=e_ (w_ (m_ (h:=m_ (h:=?_))))))))));refine Aw true rfl rfl (fun hb11=>?_) (fun hb11=>?_)
  ·have hc11:=bp hb11;refine f_ (h:=l_ (h:=Aa (h:=?_)));refine Ax (EQ rfl rfl (by repeat constructor) (by repeat constructor) (fun W=>K4 (0,0) (0,0) W) (by kernel_rfl) ?_);refine AY (h:=m_ (h:=?_));refine Aw true rfl rfl (fun hb12=>?_) (fun hb12=>?_)
   ·have hc12:=bp hb12;refine l_ (h:=l_ (h:=l_ (h:=?_)));refine Ax (Em (y:= .agg (Bm Pc)) (D8 ⟨rfl,rfl⟩) ?_);refine Ax (AN (hC.hit0 k (by omega)) ?_);rintro r rfl;refine AY (h:=m_ (h:=?_));refine Aw true rfl rfl (fun hb13=>?_) (fun hb13=>?_)
    ·have hc13:=bp hb13;refine l_ (h:=l_ (h:=l_ (h:=l_ (h:=?_))));refine Ax (Em (y:= .agg (Bm Pd)) (D8 ⟨rfl,rfl⟩) ?_);refine Ax (AN (hC.no k (by omega)) ?_);rintro r rfl;refine Bt (h:=AY (h:=m_ (h:=?_)));refine Aw true rfl rfl (fun hb14=>?_) (fun hb14=>?_)
     ·have hc14:=bp hb14;refine Ax (AN (N4) ?_);rintro r rfl;refine AY (h:=a_ (h:=e_ (A4 (A9 (?_)))));refine AD ?_
      first|rfl|(exfalso;first|contradiction|omega|(simp_all;done))
     have hc14:=bp hb14;refine A3 (h:=Aj (h:=a_ (h:=e_ (A4 (A9 (?_))))));refine AD ?_
     first|rfl|(exfalso;first|contradiction|omega|(simp_all;done))
    have hc13:=bp hb13;refine A3 (h:=A3 (h:=A3 (h:=A3 (h:=A3 (h:=A3 (h:=A3 (h:=Aj (h:=m_ (h:=A3 (h:=Aj (h:=a_ (h:=e_ (A4 (A9 (?_)))))))))))))));refine AD ?_
    first|rfl|(exfalso;first|contradiction|omega|(simp_all;done))
   have hc12:=bp hb12;refine A3 (h:=A3 (h:=A3 (h:=A3 (h:=A3 (h:=Aj (h:=m_ (h:=A3 (h:=A3 (h:=A3 (h:=A3 (h:=A3 (h:=A3 (h:=A3 (h:=Aj (h:=m_ (h:=A3 (h:=Aj (h:=a_ (h:=e_ (A4 (A9 (?_))))))))))))))))))))));refine AD ?_
   first|rfl|(exfalso;first|contradiction|omega|(simp_all;done))
  have hc11:=bp hb11;refine A3 (h:=A3 (h:=A3 (h:=A3 (h:=Aj (h:=m_ (h:=A3 (h:=A3 (h:=A3 (h:=A3 (h:=A3 (h:=Aj (h:=m_ (h:=A3 (h:=A3 (h:=A3 (h:=A3 (h:=A3 (h:=A3 (h:=A3 (h:=Aj (h:=m_ (h:=A3 (h:=Aj (h:=?_))))))))))))))))))))))));refine a_ (h:=e_ (A4 (A9 (?_))));refine AD ?_
  first|rfl|(exfalso;first|contradiction|omega|(simp_all;done))
 have hc10:=bp hb10;refine AO (w_ (l_ (h:=l_ (h:=l_ (h:=l_ (h:=?_))))));refine A8 rfl (Em (y:= .agg (Bm Pe)) (D8 ⟨rfl,rfl⟩) ?_);refine A8 rfl (AN (hC.noz k (by omega)) ?_);rintro r rfl;refine Bt (h:=m_ (h:=?_));refine Aw true rfl rfl (fun hb15=>?_) (fun hb15=>?_)
 ·have hc15:=bp hb15;refine Ax (AN (N4) ?_);rintro r rfl;refine AY (h:=a_ (h:=e_ (A4 (?_))));refine AD ?_
  first|rfl|(exfalso;first|contradiction|omega|(simp_all;done))
 have hc15:=bp hb15;refine A3 (h:=Aj (h:=a_ (h:=e_ (A4 (?_)))));refine AD ?_
 first|rfl|(exfalso;first|contradiction|omega|(simp_all;done))
end
theorem WatchNames_walk(n:Int)(m:Bool)(w:World)(h0:0≤n)(_:n≤255):
    Calls prog 4 #[.int .u8 n, .bool m] w fun e w'=>e= .returned (.bool true)∧Below w.heap.size w w':=V2 [.int .u8 n, .bool m] (d7 n h0 m) w
end Go.Proofs.YtobclmbkdhbnpaaGreatDoor
