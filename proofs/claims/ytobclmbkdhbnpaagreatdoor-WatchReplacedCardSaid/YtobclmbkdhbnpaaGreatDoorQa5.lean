/-
  Part 5 of the proof of WatchReplacedP: what the statement's proof uses of the texts in wip/tpl.
-/
import Derived.Laws.StructEq
import Derived.Laws.Pointers
import Derived.Test.YtobclmbkdhbnpaaGreatDoorProg
import Derived.WalkKit
import Derived.WalkSpells
import Derived.WalkLawsBesides
import Derived.Deep.QuietTactic
import Derived.BigQuiet
import Derived.Lib.Hide
import Derived.Outline
import Derived.Maps.AppendAt
import Derived.OwnWalk
import Derived.Test.YtobclmbkdhbnpaaGreatDoorQa4
open Go.Proofs.Tryz (prog)
set_option maxRecDepth 10000
set_option maxHeartbeats 4000000
set_option linter.unusedVariables false
set_option linter.unusedSimpArgs false
namespace Go.Proofs.YtobclmbkdhbnpaaGreatDoor
open Go.RowKit
def Co(m:Db):List AV:=[.v (.int .i64 m.1), .v (.int .i64 m.2.1), .v (.int .i64 m.2.2)]
def Ar(s:Spc):List AV:=[.sl 2 (s.files.map Be) none, .sl 3 (s.mounts.map Co) none]
structure SpcB(s:Spc):Prop where
 files:FlsB s.files
 few:s.mounts.length≤1000
def Bu(s:Spc)(dev:Int):Option A9:=(s.mounts.find? fun m:Db=>decide (m.1=dev)).map (·.2)
def C3(s:Spc)(a:A9):Option Int:=(s.mounts.find? fun m:Db=>decide (m.2=a)).map (·.1)
def C4(s:Spc)(dev:Int):Bool:=(Bu s dev).isSome||decide (dev=0)
section
theorem Sf(op:BinOp)(a b c d:Int)(w:World):(op= .eql∨op= .neq)→(binOp op 33 (.agg #[.int .i64 a, .int .i64 b]) (.agg #[.int .i64 c, .int .i64 d])).run prog w= .ok (.bool (decide ((a,b)=(c,d))==decide (op= .eql))) w:=by
 have u3:=Tryz.underlying3;have a3:=Tryz.isAgg3;have z3:=Tryz.sizeOf3;have hS:prog.underlying 33=some (.struct (prog.fieldsOf 33)):=by kernel_rfl
 have hp:prog.stoodInHeld 33=false:=by kernel_rfl
 have e:∀w,(Op.equalIn 10000 33 (.agg #[.int .i64 a, .int .i64 b]) (.agg #[.int .i64 c, .int .i64 d])).run prog w= .ok (a==c&&b==d) w:=by
  intro w;rw[show(10000:Nat)=9999+1 from rfl,run_equalIn_agg w 9999 33 _ _ hS hp];simp only[Program.fieldsOf,Tryz.underlying33]
  go_simp
  by_cases h1:a=c<;>by_cases h2:b=d<;>simp[h1,h2]
 rintro(rfl|rfl)
 ·rw[run_eql_struct,e];by_cases h1:a=c<;>by_cases h2:b=d<;>simp[h1,h2]
 rw[run_neq_struct,e];by_cases h1:a=c<;>by_cases h2:b=d<;>simp[h1,h2]
theorem Ke(a b c d:Int)(w:World):(binOp .eql 33 (.agg #[.int .i64 a, .int .i64 b]) (.agg #[.int .i64 c, .int .i64 d])).run prog w= .ok (.bool (decide ((a,b)=(c,d)))) w:=by
 rw[Sf .eql a b c d w (.inl rfl)];by_cases h:(a,b)=(c,d)<;>simp[h]
theorem PX(a b c d:Int)(w:World):(binOp .neq 33 (.agg #[.int .i64 a, .int .i64 b]) (.agg #[.int .i64 c, .int .i64 d])).run prog w= .ok (.bool (!decide ((a,b)=(c,d)))) w:=by
 rw[Sf .neq a b c d w (.inr rfl)];by_cases h:(a,b)=(c,d)<;>simp[h]
theorem PY(s:Spc)(dev:Int)(hs:SpcB s):AFn prog 68 [.agg (Ar s), .v (.int .i64 dev)] (fun r=>r= .tup [.agg (AB ((Bu s dev).getD (0,0))), .v (.bool (Bu s dev).isSome)]):=by
 have hfew:=hs.few;refine enter Tryz.func68 rfl rfl rfl rfl rfl 0 rfl ?_;refine w_ (b_ (h:=Af (h:=a_ (h:=e_ (q_ (w_ (a_ (h:=e_ (Ao (?_))))))))));refine Bm (fun m t=>∃j:Nat,j≤s.mounts.length∧m=s.mounts.length - j∧(∀i y,i<j→s.mounts[i]?=some y→decide (y.1=dev)=false)∧t=⟨look [(1, .v (.int .i64 dev)),(2, .bp 0 0),(4, .bp 1 0),(6, .v (.int .i64 (j:Int)))],⟨[Ar s,[.v (.int .i64 0), .v (.int .i64 0)]],[]⟩⟩) (s.mounts.length) ((wk 2 0)) (⟨0,by omega,rfl,fun i y hi=>by omega,rfl⟩) ?_;rintro m t ⟨j,hj,rfl,ha,rfl⟩;refine q_ (w_ (m_ (h:=f_ (h:=l_ (h:=n_ (h:=BO (h:=e_ (?_))))))));refine A8 rfl (fun hb1=>?_) (fun hb1=>?_)
 ·have hc1:=bp hb1;obtain⟨hlt,x,hy,hrow, -⟩:=CF Co hc1;refine AN (q_ (Ao (w_ (f_ (h:=l_ (h:=m_ (h:=i_ (h:=f_ (h:=l_ (h:=m_ (h:=Ac (h:=e_ (?_)))))))))))));refine A8 rfl (fun hb2=>?_) (fun hb2=>?_)
  ·have hc2:=bp hb2;refine w_ (f_ (h:=l_ (h:=m_ (h:=i_ (h:=f_ (h:=l_ (h:=s_ (h:=a_ (h:=e_ (A6 (AR (A4 (A4 (AR (A4 (?_))))))))))))))));refine AA ?_;rw[show Bu s dev=some x.2 by simp only[Bu];rw[GM hy (by simpa using hc2) ha];rfl];rfl
  have hc2:=bp hb2;refine BA (Au (t_ (AX (m_ (h:=B2 (h:=a_ (h:=AW (?_))))))));refine AJ ?_;refine⟨_,_,?_,⟨j+1,by omega,rfl,EW hy ha (by simpa using hc2),rfl⟩,(wk 2 0)⟩;omega
 have hc1:=bp hb1;have e3:=Cx Co hj hc1;subst e3;refine BU (Am (Am (BV (t_ (w_ (Aa (h:=s_ (h:=a_ (h:=e_ (A6 (?_)))))))))));refine AA ?_;rw[show Bu s dev=none by simp only[Bu];rw[GN ha];rfl];rfl
theorem Ls(s:Spc)(dev:Int)(hs:SpcB s):AFn prog 42 [.agg (Ar s), .v (.int .i64 dev)] (fun r=>r= .v (.bool (C4 s dev))):=by
 refine enter Tryz.func42 rfl rfl rfl rfl rfl 0 rfl ?_;refine w_ (b_ (h:=a_ (h:=e_ (w_ (l_ (h:=m_ (h:=?_)))))));refine A7 rfl (AK (PY s dev hs) ?_);rintro r rfl;refine m_ (h:=x_ (h:=x_ (h:=Af (h:=s_ (h:=a_ (h:=e_ (w_ (m_ (h:=m_ (h:=?_))))))))));refine As false rfl rfl (fun hb1=>?_) (fun hb1=>?_)
 ·have hc1:=bp hb1;refine A3 (h:=A3 (h:=AU (h:=a_ (h:=e_ (A6 (?_))))));refine AA ?_;exact vb (by unfold C4;rw[hc1];simp)
 have hc1:=bp hb1;refine m_ (h:=Ac (h:=Ah (h:=a_ (h:=e_ (A6 (?_))))));refine AA ?_;exact vb (by unfold C4;rw[hc1];simp)
theorem Sg(s:Spc)(a:A9)(hs:SpcB s):AFn prog 69 [.agg (Ar s), .agg (AB a)] (fun r=>r= .tup [.v (.int .i64 ((C3 s a).getD 0)), .v (.bool (C3 s a).isSome)]):=by
 have hfew:=hs.few;refine enter Tryz.func69 rfl rfl rfl rfl rfl 0 rfl ?_;refine w_ (b_ (h:=b_ (h:=a_ (h:=a_ (h:=e_ (q_ (w_ (a_ (h:=e_ (Ao (?_)))))))))));refine Bm (fun m t=>∃j:Nat,j≤s.mounts.length∧m=s.mounts.length - j∧(∀i y,i<j→s.mounts[i]?=some y→decide (y.2=a)=false)∧t=⟨look [(2, .bp 0 0),(3, .bp 1 0),(6, .v (.int .i64 (j:Int)))],⟨[Ar s,AB a],[]⟩⟩) (s.mounts.length) ((wk 2 0)) (⟨0,by omega,rfl,fun i y hi=>by omega,rfl⟩) ?_;rintro m t ⟨j,hj,rfl,ha,rfl⟩;refine q_ (w_ (m_ (h:=f_ (h:=l_ (h:=n_ (h:=BO (h:=e_ (?_))))))));refine A8 rfl (fun hb1=>?_) (fun hb1=>?_)
 ·have hc1:=bp hb1;obtain⟨hlt,x,hy,hrow, -⟩:=CF Co hc1;refine AN (q_ (Ao (q_ (Dk 8 (h:=AQ 0 (h:=AF 1 (h:=AP 2 (h:=Dr 3 (h:=AQ 4 (h:=AF 5 (h:=AF 6 (h:=?_))))))))))));refine F1 (i:=7) rfl (Er rfl rfl (by repeat constructor) (by repeat constructor) (fun w=>Ke _ _ _ _ w) (by kernel_rfl) ⟨rfl,rfl⟩) ?_;refine z_ (h:=t_ (?_));refine A8 rfl (fun hb2=>?_) (fun hb2=>?_)
  ·have hc2:=bp hb2;refine w_ (f_ (h:=l_ (h:=m_ (h:=i_ (h:=f_ (h:=l_ (h:=a_ (h:=a_ (h:=e_ (A6 (AR (A4 (A4 (AR (A4 (?_))))))))))))))));refine AA ?_;rw[show C3 s a=some x.1 by simp only[C3];rw[GM hy (decide_eq_true hc2) ha];rfl];rfl
  have hc2:=bp hb2;refine BA (Au (t_ (AX (m_ (h:=B2 (h:=a_ (h:=AW (?_))))))));refine AJ ?_;refine⟨_,_,?_,⟨j+1,by omega,rfl,EW hy ha (decide_eq_false hc2),rfl⟩,(wk 2 0)⟩;omega
 have hc1:=bp hb1;have e3:=Cx Co hj hc1;subst e3;refine BU (Am (Am (BV (t_ (w_ (a_ (h:=a_ (h:=e_ (A6 (?_))))))))));refine AA ?_;rw[show C3 s a=none by simp only[C3];rw[GN ha];rfl];rfl
theorem PZ(s:Spc)(a:A9)(hs:SpcB s):AFn prog 43 [.agg (Ar s), .agg (AB a)] (fun r=>r= .v (.bool (C3 s a).isSome)):=by
 refine enter Tryz.func43 rfl rfl rfl rfl rfl 0 rfl ?_;refine w_ (b_ (h:=b_ (h:=a_ (h:=e_ (w_ (l_ (h:=l_ (h:=?_))))))));refine A7 rfl (AK (Sg s a hs) ?_);rintro r rfl;refine m_ (h:=x_ (h:=x_ (h:=a_ (h:=a_ (h:=e_ (w_ (m_ (h:=a_ (h:=e_ (A6 (?_)))))))))));refine AA ?_;rfl
theorem Pa(s:Spc)(dev:Int)(hs:SpcB s):AFn prog 110 [.agg (Ar s), .v (.int .i64 dev)] (fun r=>r= .tup [.agg (AB ((Bu s dev).getD (0,0))), .v (.bool (Bu s dev).isSome)]):=by
 have hfew:=hs.few;refine enter Tryz.func110 rfl rfl rfl rfl rfl 0 rfl ?_;refine w_ (b_ (h:=Af (h:=a_ (h:=e_ (q_ (w_ (f_ (h:=l_ (h:=n_ (h:=m_ (h:=e_ (Ao (?_)))))))))))));refine Bm (fun m t=>∃j:Nat,j≤s.mounts.length∧m=s.mounts.length - j∧(∀i y,i<j→s.mounts[i]?=some y→decide (y.1=dev)=false)∧t=⟨look [(1, .v (.int .i64 dev)),(4, .bp 1 0),(9, .sl 3 (s.mounts.map Co) none),(10, .v (.int .i64 ((s.mounts.map Co).length:Int))),(11, .v (.int .i64 (j:Int)))],⟨[Ar s,[.v (.int .i64 0), .v (.int .i64 0)]],[]⟩⟩) (s.mounts.length) ((wk 2 0)) (⟨0,by omega,rfl,fun i y hi=>by omega,rfl⟩) ?_;rintro m t ⟨j,hj,rfl,ha,rfl⟩;refine w_ (BO (h:=e_ (q_ (?_))));refine A8 rfl (fun hb1=>?_) (fun hb1=>?_)
 ·have hc1:=bp hb1;obtain⟨hlt,x,hy,hrow, -⟩:=CF Co hc1;refine AN (q_ (Ao (w_ (i_ (h:=l_ (h:=Af (h:=s_ (h:=e_ (w_ (f_ (h:=l_ (h:=m_ (h:=Ac (h:=e_ (?_)))))))))))))));refine A8 rfl (fun hb2=>?_) (fun hb2=>?_)
  ·have hc2:=bp hb2;refine w_ (f_ (h:=l_ (h:=s_ (h:=a_ (h:=e_ (A6 (AR (A4 (A4 (AR (A4 (?_))))))))))));refine AA ?_;rw[show Bu s dev=some x.2 by simp only[Bu];rw[GM hy (by simpa using hc2) ha];rfl];rfl
  have hc2:=bp hb2;refine BA (Au (t_ (AX (B2 (h:=m_ (h:=AW (?_)))))));refine AJ ?_;refine⟨_,_,?_,⟨j+1,by omega,rfl,EW hy ha (by simpa using hc2),rfl⟩,(wk 2 0)⟩;omega
 have hc1:=bp hb1;have e3:=Cx Co hj hc1;subst e3;refine BU (Am (Am (BV (t_ (w_ (Aa (h:=s_ (h:=a_ (h:=e_ (A6 (?_)))))))))));refine AA ?_;rw[show Bu s dev=none by simp only[Bu];rw[GN ha];rfl];rfl
theorem Sh(s:Spc)(dev:Int)(hs:SpcB s):AFn prog 70 [.agg (Ar s), .v (.int .i64 dev)] (fun r=>r= .v (.bool (C4 s dev))):=by
 refine enter Tryz.func70 rfl rfl rfl rfl rfl 0 rfl ?_;refine w_ (b_ (h:=a_ (h:=e_ (q_ (w_ (m_ (h:=Ac (h:=e_ (?_)))))))));refine A8 rfl (fun hb1=>?_) (fun hb1=>?_)
 ·have hc1:=bp hb1;refine w_ (a_ (h:=e_ (A6 (A4 (?_)))));refine AA ?_;exact vb (by unfold C4;simp[hc1])
 have hc1:=bp hb1;refine AN (w_ (l_ (h:=m_ (h:=?_))));refine A7 rfl (AK (Pa s dev hs) ?_);rintro r rfl;refine m_ (h:=x_ (h:=x_ (h:=Af (h:=s_ (h:=a_ (h:=e_ (w_ (m_ (h:=a_ (h:=e_ (A6 (?_))))))))))));refine AA ?_;exact vb (by unfold C4;simp[hc1])
theorem XH(s:Spc)(a:A9)(hs:SpcB s):AFn prog 160 [.agg (Ar s), .agg (AB a)] (fun r=>r= .tup [.v (.int .i64 ((C3 s a).getD 0)), .v (.bool (C3 s a).isSome)]):=by
 have hfew:=hs.few;refine enter Tryz.func160 rfl rfl rfl rfl rfl 0 rfl ?_;refine w_ (b_ (h:=b_ (h:=a_ (h:=a_ (h:=e_ (q_ (w_ (f_ (h:=l_ (h:=n_ (h:=m_ (h:=e_ (Ao (?_))))))))))))));refine Bm (fun m t=>∃j:Nat,j≤s.mounts.length∧m=s.mounts.length - j∧(∀i y,i<j→s.mounts[i]?=some y→decide (y.2=a)=false)∧t=⟨look [(3, .bp 1 0),(9, .sl 3 (s.mounts.map Co) none),(10, .v (.int .i64 ((s.mounts.map Co).length:Int))),(11, .v (.int .i64 (j:Int)))],⟨[Ar s,AB a],[]⟩⟩) (s.mounts.length) ((wk 2 0)) (⟨0,by omega,rfl,fun i y hi=>by omega,rfl⟩) ?_;rintro m t ⟨j,hj,rfl,ha,rfl⟩;refine w_ (BO (h:=e_ (q_ (?_))));refine A8 rfl (fun hb1=>?_) (fun hb1=>?_)
 ·have hc1:=bp hb1;obtain⟨hlt,x,hy,hrow, -⟩:=CF Co hc1;refine AN (q_ (Ao (w_ (i_ (h:=l_ (h:=Af (h:=s_ (h:=e_ (w_ (f_ (h:=l_ (h:=l_ (h:=?_)))))))))))));refine A7 rfl (Er rfl rfl (by repeat constructor) (by repeat constructor) (fun w=>Ke _ _ _ _ w) (by kernel_rfl) ?_);refine e_ (?_);refine A8 rfl (fun hb2=>?_) (fun hb2=>?_)
  ·have hc2:=bp hb2;refine w_ (f_ (h:=l_ (h:=a_ (h:=a_ (h:=e_ (A6 (AR (A4 (A4 (AR (A4 (?_))))))))))));refine AA ?_;rw[show C3 s a=some x.1 by simp only[C3];rw[GM hy (decide_eq_true hc2) ha];rfl];rfl
  have hc2:=bp hb2;refine BA (Au (t_ (AX (B2 (h:=m_ (h:=AW (?_)))))));refine AJ ?_;refine⟨_,_,?_,⟨j+1,by omega,rfl,EW hy ha (decide_eq_false hc2),rfl⟩,(wk 2 0)⟩;omega
 have hc1:=bp hb1;have e3:=Cx Co hj hc1;subst e3;refine BU (Am (Am (BV (t_ (w_ (a_ (h:=a_ (h:=e_ (A6 (?_))))))))));refine AA ?_;rw[show C3 s a=none by simp only[C3];rw[GN ha];rfl];rfl
end
def GP(s:Spc)(a:A9):A9:=match C3 s a with
 |some d=>(d,1)
 |none=>a
def Ci(s:Spc):Nat→A9→A9
 |0,a=>a
 |n+1,a=>Ci s n (GP s a)
theorem Si{s:Spc}{a:A9}(h:(C3 s a).isSome=true):GP s a=((C3 s a).getD 0,1):=by
 unfold GP
 cases hc:C3 s a with
 |none=>rw[hc]at h;cases h
 |some d=>rfl
theorem Pb{s:Spc}{a:A9}(h:(C3 s a).isSome=false):GP s a=a:=by
 unfold GP
 cases hc:C3 s a with
 |none=>rfl
 |some d=>rw[hc]at h;cases h
theorem Ni{s:Spc}{a:A9}(h:(C3 s a).isSome=false):∀n,Ci s n a=a
 |0=>rfl
 |n+1=>by rw[Ci,Pb h,Ni h n]
section
theorem XJ(s:Spc)(a:A9)(hs:SpcB s):AFn prog 88 [.agg (Ar s), .agg (AB a)] (fun r=>r= .agg (AB (Ci s (s.mounts.length+1) a))):=by
 have hfew:=hs.few;have hml:(s.mounts.map Co).length=s.mounts.length:=by simp
 refine enter Tryz.func88 rfl rfl rfl rfl rfl 0 rfl ?_;refine w_ (b_ (h:=b_ (h:=Af (h:=e_ (q_ (w_ (a_ (h:=e_ (Ao (?_))))))))));refine Bm (fun m t=>∃(j:Nat) (b:A9),j≤s.mounts.length+1∧m=s.mounts.length+1 - j∧Ci s (s.mounts.length+1 - j) b=Ci s (s.mounts.length+1) a∧t=⟨look [(2, .bp 0 0),(3, .bp 1 0),(4, .bp 2 0),(5, .v (.int .i64 (j:Int)))],⟨[Ar s,AB b,[.v (.int .i64 0), .v (.int .i64 0)]],[]⟩⟩) (s.mounts.length+1) ((wk 3 0)) (⟨0,a,by omega,rfl,rfl,rfl⟩) ?_;rintro m t ⟨j,b,hj,rfl,hit,rfl⟩;refine q_ (w_ (m_ (h:=f_ (h:=l_ (h:=n_ (h:=Lo (h:=e_ (?_))))))));refine A8 rfl (fun hb1=>?_) (fun hb1=>?_)
 ·have hc1:=bp hb1;obtain⟨k,hk⟩:∃k,s.mounts.length+1 - j=k+1:=⟨s.mounts.length - j,by omega⟩;rw[hk]at hit;refine AN (q_ (Ao (w_ (l_ (h:=l_ (h:=?_))))));refine A7 rfl (AK (Sg s b hs) ?_);rintro r rfl;refine m_ (h:=x_ (h:=x_ (h:=a_ (h:=a_ (h:=e_ (w_ (m_ (h:=e_ (?_)))))))));refine A8 rfl (fun hb2=>?_) (fun hb2=>?_)
  ·have hc2:=bp hb2;rw[Ci,Si hc2]at hit;refine AX (m_ (h:=Aa (h:=s_ (h:=AW (Au (t_ (AX (m_ (h:=B2 (h:=a_ (h:=AW (?_))))))))))));refine AJ ?_
   first|(refine⟨_,_,?_,⟨j+1,((C3 s b).getD 0,1),by omega,rfl,(by rw[show s.mounts.length+1 - (j+1)=k by omega];exact hit),rfl⟩,(wk 3 0)⟩;omega)|(refine⟨_,_,?_,⟨j+1,b,by omega,rfl,(by rw[show s.mounts.length+1 - (j+1)=k by omega];exact hit),rfl⟩,(wk 3 0)⟩;omega)
  have hc2:=bp hb2;rw[Ci,Pb hc2]at hit;refine BA (Au (t_ (AX (m_ (h:=B2 (h:=a_ (h:=AW (?_))))))));refine AJ ?_
  first|(refine⟨_,_,?_,⟨j+1,((C3 s b).getD 0,1),by omega,rfl,(by rw[show s.mounts.length+1 - (j+1)=k by omega];exact hit),rfl⟩,(wk 3 0)⟩;omega)|(refine⟨_,_,?_,⟨j+1,b,by omega,rfl,(by rw[show s.mounts.length+1 - (j+1)=k by omega];exact hit),rfl⟩,(wk 3 0)⟩;omega)
 have hc1:=bp hb1;have ej:s.mounts.length+1 - j=0:=by omega
 rw[ej]at hit;refine BU (Am (Am (BV (t_ (w_ (l_ (h:=s_ (h:=e_ (A6 (?_))))))))));refine AA ?_;rw[←hit];rfl
theorem Pc(s:Spc)(a:A9)(hs:SpcB s):AFn prog 122 [.agg (Ar s), .agg (AB a)] (fun r=>r= .agg (AB (Ci s s.mounts.length a))):=by
 have hfew:=hs.few;have hml:(s.mounts.map Co).length=s.mounts.length:=by simp
 refine enter Tryz.func122 rfl rfl rfl rfl rfl 0 rfl ?_;refine w_ (b_ (h:=b_ (h:=Af (h:=e_ (q_ (w_ (f_ (h:=l_ (h:=n_ (h:=m_ (h:=e_ (Ao (?_)))))))))))));refine Bm (fun m t=>∃(j:Nat) (b:A9),j≤s.mounts.length∧m=s.mounts.length - j∧Ci s (s.mounts.length - j) b=Ci s s.mounts.length a∧t=⟨look [(2, .bp 0 0),(3, .bp 1 0),(4, .bp 2 0),(9, .v (.int .i64 ((s.mounts.map Co).length:Int))),(10, .v (.int .i64 (j:Int)))],⟨[Ar s,AB b,[.v (.int .i64 0), .v (.int .i64 0)]],[]⟩⟩) (s.mounts.length) ((wk 3 0)) (⟨0,a,by omega,rfl,rfl,rfl⟩) ?_;rintro m t ⟨j,b,hj,rfl,hit,rfl⟩;refine w_ (BO (h:=e_ (q_ (?_))));refine A8 rfl (fun hb1=>?_) (fun hb1=>?_)
 ·have hc1:=bp hb1;obtain⟨k,hk⟩:∃k,s.mounts.length - j=k+1:=⟨s.mounts.length - j - 1,by omega⟩;rw[hk]at hit;refine AN (q_ (Ao (w_ (l_ (h:=l_ (h:=?_))))));refine A7 rfl (AK (XH s b hs) ?_);rintro r rfl;refine m_ (h:=x_ (h:=x_ (h:=a_ (h:=a_ (h:=e_ (q_ (w_ (m_ (h:=BZ (h:=e_ (?_)))))))))));refine A8 rfl (fun hb2=>?_) (fun hb2=>?_)
  ·have hc2:=bp hb2;rw[Ni hc2]at hit;refine BU (Am (LR rfl (Am (Am (BV (t_ (w_ (l_ (h:=s_ (h:=e_ (A6 (?_))))))))))));refine AA ?_;rw[←hit];rfl
  have hc2:=bp hb2;rw[Ci,Si hc2]at hit;refine AN (AX (m_ (h:=Aa (h:=s_ (h:=AW (Au (t_ (AX (B2 (h:=m_ (h:=AW (?_))))))))))));refine AJ ?_;refine⟨_,_,?_,⟨j+1,((C3 s b).getD 0,1),by omega,rfl,(by rw[show s.mounts.length - (j+1)=k by omega];exact hit),rfl⟩,(wk 3 0)⟩;omega
 have hc1:=bp hb1;have ej:s.mounts.length - j=0:=by omega
 rw[ej]at hit;refine BU (Am (Am (BV (t_ (w_ (l_ (h:=s_ (h:=e_ (A6 (?_))))))))));refine AA ?_;rw[←hit];rfl
end
theorem Pd{f:AT}{a:A9}{k:Nat}{d:Dvc}(hk:a.1=(k:Int))(hd:f[k]?=some d):Bo f a=d.nodes.find? (fun n:Nod=>n.ino==a.2):=by
 unfold Bo;rw[hk,Hg,hd]
def XK(f:AT)(a:A9)(r:AV):Prop:=(Bo f a=none∧r= .v (.pointer none))∨∃n,Bo f a=some n∧r= .fp (Ab n)
section
theorem Pe(f:AT)(a:A9)(hf:FlsB f):AFn prog 113 [.agg (Al f), .agg (AB a)] (XK f a):=by
 refine enter Tryz.func113 rfl rfl rfl rfl rfl 0 rfl ?_;refine w_ (b_ (h:=b_ (h:=a_ (h:=e_ (q_ (w_ (f_ (h:=l_ (h:=BO (h:=m_ (h:=?_)))))))))));refine As false rfl rfl (fun hb1=>?_) (fun hb1=>?_)
 ·have hc1:=bp hb1;refine A3 (h:=A3 (h:=A3 (h:=A3 (h:=A3 (h:=A3 (h:=AU (h:=e_ (BQ (h:=w_ (a_ (h:=e_ (A6 (A4 (?_))))))))))))));refine AA ?_;exact .inl ⟨by unfold Bo;rw[Nc (.inl hc1)],rfl⟩
 have hc1:=bp hb1;refine f_ (h:=l_ (h:=f_ (h:=l_ (h:=n_ (h:=G6 (h:=Ah (h:=e_ (?_))))))));refine A8 rfl (fun hb2=>?_) (fun hb2=>?_)
 ·have hc2:=bp hb2;refine w_ (a_ (h:=e_ (A6 (A4 (?_)))));refine AA ?_;exact .inl ⟨by unfold Bo;rw[Nc (.inr (by rw[List.length_map]at hc2;exact hc2))],rfl⟩
 have hc2:=bp hb2;obtain⟨k,hk⟩:=Int.eq_ofNat_of_zero_le (show 0≤a.1 by omega);rw[hk]at hc2;obtain⟨-,d,hd,hrow, -⟩:=CF Be (l:=f) (k:=k) (by omega);have hdn:=hf.nodes d (Aj hd);refine AN (w_ (f_ (h:=l_ (h:=f_ (h:=l_ (h:=?_))))));refine A7 rfl (CM (n:=k) rfl rfl hk hrow ?_);refine f_ (h:=l_ (h:=a_ (h:=e_ (q_ (w_ (m_ (h:=n_ (h:=m_ (h:=e_ (Ao (?_)))))))))));refine Bm (fun m s=>∃j:Nat,j≤d.nodes.length∧m=d.nodes.length - j∧(∀i y,i<j→d.nodes[i]?=some y→(y.ino==a.2)=false)∧s=⟨look [(3, .bp 1 0),(5, .sl 8 (d.nodes.map Ab) none),(26, .v (.int .i64 ((d.nodes.map Ab).length:Int))),(27, .v (.int .i64 (j:Int)))],⟨[Al f,AB a],[]⟩⟩) (d.nodes.length) ((wk 2 0)) (⟨0,by omega,rfl,fun i y hi=>by omega,rfl⟩) ?_;rintro m s ⟨j,hj,rfl,ha,rfl⟩;refine w_ (BO (h:=e_ (q_ (?_))));refine A8 rfl (fun hb3=>?_) (fun hb3=>?_)
 ·have hc3:=bp hb3;obtain⟨hlt,n,hy,hrow2, -⟩:=CF Ab hc3;refine AN (q_ (Ao (w_ (m_ (h:=a_ (h:=e_ (q_ (Dk 8 (h:=AP 0 (h:=AP 1 (h:=Dr 2 (h:=AQ 3 (h:=AF 4 (h:=AQ 5 (h:=AF 6 (h:=GL 7 (h:=z_ (h:=t_ (?_)))))))))))))))))));refine A8 rfl (fun hb4=>?_) (fun hb4=>?_)
  ·have hc4:=bp hb4;refine w_ (m_ (h:=m_ (h:=i_ (h:=a_ (h:=e_ (A6 (AR (A4 (A4 (AR (A4 (?_))))))))))));refine AA ?_;exact .inr ⟨n,by rw[Pd hk hd];exact GM hy (by simpa using hc4) ha,rfl⟩
  have hc4:=bp hb4;refine BA (Au (t_ (AX (B2 (h:=m_ (h:=AW (?_)))))));refine AJ ?_;refine⟨_,_,?_,⟨j+1,by omega,rfl,EW hy ha (by simpa using hc4),rfl⟩,(wk 2 0)⟩;omega
 have hc3:=bp hb3;have e:=Cx Ab hj hc3;subst e;refine BU (Am (Am (BV (t_ (w_ (a_ (h:=e_ (A6 (?_)))))))));refine AA ?_;exact .inl ⟨by rw[Pd hk hd];exact GN (fun i y hi hy=>ha i y hi hy),rfl⟩
theorem XL(e:B1):AFn prog 151 [.agg (C7 e)] (fun r=>r= .agg (C7 e)):=by
 refine enter Tryz.func151 rfl rfl rfl rfl rfl 0 rfl ?_;refine w_ (b_ (h:=Af (h:=e_ (w_ (l_ (h:=s_ (h:=e_ (A6 (?_)))))))));refine AA ?_;rfl
end
section
theorem XM(es:List B1)(hes:es.length≤1000):AFn prog 150 [.sl 2 (es.map C7) none, .fn 151 []] (fun r=>r= .sl 2 (es.map C7) none):=by
 have hml:(es.map C7).length=es.length:=by simp
 refine enter Tryz.func150 rfl rfl rfl rfl rfl 0 rfl ?_;refine w_ (a_ (h:=e_ (q_ (w_ (m_ (h:=n_ (h:=Ac (h:=e_ (?_)))))))));refine A8 rfl (fun hb1=>?_) (fun hb1=>?_)
 ·have hc1:=bp hb1;refine w_ (a_ (h:=e_ (A6 (A4 (?_)))));refine B0 (r:= .sl 2 (es.map C7) none) none (h5:=?_) (h6:=⟨rfl,rfl,rfl⟩);rw[show es=[] from DE (by omega)];exact LeA.nil _
 have hc1:=bp hb1;refine AN (w_ (m_ (h:=n_ (h:=X6 (h:=a_ (h:=e_ (q_ (w_ (m_ (h:=n_ (h:=m_ (h:=e_ (Ao (?_))))))))))))));refine Bm (fun m s=>∃j:Nat,j≤es.length∧m=es.length - j∧s=⟨look [(1, .fn 151 []),(5, .sl 2 ((es.take j).map C7) (some 0)),(14, .sl 2 (es.map C7) none),(15, .v (.int .i64 ((es.map C7).length:Int))),(16, .v (.int .i64 (j:Int)))],⟨[],[(88,2,(es.take j).map C7)]⟩⟩) (es.length) ((wk 0 1)) (⟨0,by omega,rfl,rfl⟩) ?_;rintro m s ⟨j,hj,rfl,rfl⟩;refine w_ (BO (h:=e_ (q_ (?_))));refine A8 rfl (fun hb2=>?_) (fun hb2=>?_)
 ·have hc2:=bp hb2;obtain⟨hlt,x,hy,hrow,e⟩:=CF C7 hc2;refine AN (q_ (Ao (w_ (i_ (h:=l_ (h:=Af (h:=s_ (h:=e_ (AX (m_ (h:=m_ (h:=l_ (h:=?_)))))))))))));refine A7 rfl (Wj (cy:=[]) (ys:=[.agg (C7 x)]) rfl (by repeat (first|exact Args.nil|refine Args.cons _ _ _ _ _ rfl (Lc rfl) ?_|refine Args.cons _ _ _ _ _ rfl (NG _) ?_|refine Args.cons _ _ _ _ _ rfl (La _) ?_|refine Args.cons _ _ _ _ _ rfl (NQ rfl (by repeat (first|exact AM _|exact LeA.nil _|exact LeL.refl _|refine LeA.agg ?_|refine LeA.tup ?_|exact LeL.nil|refine LeL.cons ?_ ?_|exact LeA.any _))) ?_)) rfl rfl (XL x) ?_);rintro r rfl;refine C2 (h:=?_)
  first|refine A7 rfl (Eo rfl rfl rfl (by simp;omega) (by repeat constructor) ?_)|refine A7 rfl (Ep rfl rfl (by simp;omega) (by repeat constructor) ?_)
  refine a_ (h:=AW (Au (t_ (AX (B2 (h:=m_ (h:=AW (?_))))))));refine AJ ?_;refine⟨_,_,?_,⟨j+1,by omega,rfl,rfl⟩,(by rw[e];exact(wk 0 1))⟩;omega
 have hc2:=bp hb2;have e:=Cx C7 hj hc2;subst e;rw[List.take_length];refine BU (Am (Am (BV (t_ (w_ (m_ (h:=a_ (h:=e_ (A6 (?_))))))))));refine AA ?_;rfl
theorem XN(n:Nod)(hn:n.entries.length≤1000):AFn prog 114 [.agg (Ab n)] (fun r=>r= .agg (Ab n)):=by
 refine enter Tryz.func114 rfl rfl rfl rfl rfl 0 rfl ?_;refine w_ (b_ (h:=Af (h:=e_ (w_ (f_ (h:=l_ (h:=?_)))))));refine A7 rfl (AK (XM n.entries hn) ?_);rintro r rfl;refine f_ (h:=s_ (h:=e_ (w_ (l_ (h:=s_ (h:=e_ (A6 (?_))))))));refine AA ?_;rfl
end
section
variable {P:Program}{ev:Operand→Option AV}{h:AH}{R:AV→AH→Prop}{d:Option Tmp}{ty:TypeId}{pos:String}{af:Array Edge}{gd:Option (Nat×Bool)}
theorem Kf{T yT:TypeId}{x y:Operand}(hp:P.underlying T=some (.pointer (P.pointee T)))(hx:ev x=some (.v (.pointer none)))(hy:ev y=some (.v (.pointer none)))(hR:R (.v (.bool true)) h):AStep P ⟨d, .binOp .eql T x y yT,ty,pos,af,gd⟩ ev h R:=
 Dz hx hy (fun w=>by simp[eqGuard,run_eql_pointer_nil (P:=P) (w:=w) T none hp]) hR
theorem Kg{T yT:TypeId}{x y:Operand}{row:List AV}(hp:P.underlying T=some (.pointer (P.pointee T)))(hx:ev x=some (.fp row))(hy:ev y=some (.v (.pointer none)))(hR:R (.v (.bool false)) h):AStep P ⟨d, .binOp .eql T x y yT,ty,pos,af,gd⟩ ev h R:=by
 refine Cv (fun _ G w ec _ he=>?_) hR;have h1:=he x (by simp[Op.operands]) _ hx;have h2:=he y (by simp[Op.operands]) _ hy;simp only[rep]at h1 h2;obtain⟨b,off,h3,_⟩:=h1;refine⟨.bool false,?_,by simp only[rep]⟩;simp[execOp,h2,h3,eqGuard,run_eql_pointer_nil (P:=P) (w:=w) T (some ⟨b,off,none⟩) hp]
end
section
theorem Gw(f:AT)(a:A9)(hf:FlsB f):AFn prog 72 [.agg (Al f), .agg (AB a)] (fun r=>r= .tup [.agg (Ab (AZ f a)), .v (.bool (Cc f a))]):=by
 have hen:=Kc hf a;refine enter Tryz.func72 rfl rfl rfl rfl rfl 0 rfl ?_;refine w_ (b_ (h:=b_ (h:=Af (h:=a_ (h:=e_ (w_ (l_ (h:=l_ (h:=?_)))))))));refine A7 rfl (AK (Pe f a hf) ?_);rintro r (⟨e,rfl⟩|⟨n,e,rfl⟩)
 ·skip
  refine a_ (h:=e_ (q_ (w_ (m_ (h:=?_)))))
  first|refine A7 rfl (Kf (by kernel_rfl) rfl rfl ?_)|refine A7 rfl (Kg (by kernel_rfl) rfl rfl ?_)
  refine e_ (?_);refine A8 rfl (fun hb1=>?_) (fun hb1=>?_)
  ·have hc1:=bp hb1;refine w_ (Aa (h:=s_ (h:=a_ (h:=e_ (A6 (A4 (?_)))))));refine B0 (r:= .tup [.agg (Ab (AZ f a)), .v (.bool (Cc f a))]) none (h5:=?_) (h6:=⟨rfl,rfl,rfl⟩);rw[show AZ f a=Nod.zero by simp[AZ,e],show Cc f a=false by simp[Cc,e]];exact(by repeat (first|exact AM _|exact LeA.nil _|exact LeL.refl _|refine LeA.agg ?_|refine LeA.tup ?_|exact LeL.nil|refine LeL.cons ?_ ?_|exact LeA.any _))
  have hc1:=bp hb1;exfalso;first|contradiction|omega
 skip
 refine a_ (h:=e_ (q_ (w_ (m_ (h:=?_)))))
 first|refine A7 rfl (Kf (by kernel_rfl) rfl rfl ?_)|refine A7 rfl (Kg (by kernel_rfl) rfl rfl ?_)
 refine e_ (?_);refine A8 rfl (fun hb2=>?_) (fun hb2=>?_)
 ·have hc2:=bp hb2;exfalso;first|contradiction|omega
 have hc2:=bp hb2;refine AN (w_ (m_ (h:=k_ (h:=l_ (h:=?_)))));refine A7 rfl (AK (XN n (by simpa[AZ,e]using hen)) ?_);rintro r rfl;refine s_ (h:=a_ (h:=e_ (A6 (?_))));refine AA ?_;rw[show AZ f a=n by simp[AZ,e],show Cc f a=true by simp[Cc,e]];rfl
end
section
theorem XO(s:Spc)(a:A9)(hs:SpcB s):AFn prog 161 [.agg (Ar s), .agg (AB a)] (fun r=>r= .v (.bool (Ag s.files a))):=by
 refine enter Tryz.func161 rfl rfl rfl rfl rfl 0 rfl ?_;refine w_ (b_ (h:=b_ (h:=a_ (h:=e_ (w_ (f_ (h:=l_ (h:=l_ (h:=?_)))))))));refine A7 rfl (AK (Gw s.files a hs.files) ?_);rintro r rfl;refine m_ (h:=x_ (h:=x_ (h:=Af (h:=s_ (h:=a_ (h:=e_ (w_ (m_ (h:=m_ (h:=?_))))))))));refine As true rfl rfl (fun hb1=>?_) (fun hb1=>?_)
 ·have hc1:=bp hb1;refine f_ (h:=l_ (h:=Ac (h:=AU (h:=a_ (h:=e_ (A6 (?_)))))));refine AA ?_;exact vb (by rw[G7];simp[*])
 have hc1:=bp hb1;refine A3 (h:=A3 (h:=A3 (h:=Ah (h:=a_ (h:=e_ (A6 (?_)))))));refine AA ?_;exact vb (by rw[G7];simp[*])
end
def CN(c:Bp):List AV:=[.v (.int .i64 c.1.1), .v (.int .i64 c.1.2), .v (.string c.2.1), .v (.int .i64 c.2.2.1.1), .v (.int .i64 c.2.2.1.2), .v (.int .i64 c.2.2.2.1), .v (.int .i64 c.2.2.2.2)]
section
theorem Ju(d:A9)(name:AE)(o n:A9):AFn prog 40 [.agg (AB d), .v (.string name), .agg (AB o), .agg (AB n)] (fun r=>r= .sl 7 [CN (d,name,o,n)] none):=by
 refine enter Tryz.func40 rfl rfl rfl rfl rfl 0 rfl ?_;refine w_ (b_ (h:=b_ (h:=b_ (h:=a_ (h:=e_ (w_ (l_ (h:=m_ (h:=l_ (h:=l_ (h:=Aa (h:=C2 (h:=a_ (h:=e_ (A6 (?_))))))))))))))));refine AA ?_;rfl
theorem Sj{n:Int}(h:n<1∨3<n):EY n=([],50):=by unfold EY;rw[if_pos h]
theorem XP{k:Nat}(h1:¬(k:Int)<1)(h2:¬3<(k:Int)):EY (k:Int)=(List.replicate k Kb,0):=by unfold EY;rw[if_neg (by omega)];simp
theorem Sk(n:Int):AFn prog 49 [.v (.int .i64 n)] (fun r=>r= .tup [.agg (Al (EY n).1), .v (.int .i64 (EY n).2)]):=by
 refine enter Tryz.func49 rfl rfl rfl rfl rfl 0 rfl ?_;refine w_ (Af (h:=a_ (h:=e_ (q_ (w_ (m_ (h:=BO (h:=m_ (h:=?_)))))))));refine As false rfl rfl (fun hb1=>?_) (fun hb1=>?_)
 ·have hc1:=bp hb1;refine A3 (h:=A3 (h:=AU (h:=e_ (BQ (h:=w_ (Aa (h:=s_ (h:=a_ (h:=e_ (A6 (A4 (?_))))))))))));refine B0 (r:= .tup [.agg (Al (EY n).1), .v (.int .i64 (EY n).2)]) none (h5:=?_) (h6:=⟨rfl,rfl,rfl⟩);rw[Sj (by omega)];exact(by repeat (first|exact AM _|exact LeA.nil _|exact LeL.refl _|refine LeA.agg ?_|refine LeA.tup ?_|exact LeL.nil|refine LeL.cons ?_ ?_|exact LeA.any _))
 have hc1:=bp hb1;refine m_ (h:=CS (h:=Ah (h:=e_ (?_))));refine A8 rfl (fun hb2=>?_) (fun hb2=>?_)
 ·have hc2:=bp hb2;refine w_ (Aa (h:=s_ (h:=a_ (h:=e_ (A6 (A4 (?_)))))));refine B0 (r:= .tup [.agg (Al (EY n).1), .v (.int .i64 (EY n).2)]) none (h5:=?_) (h6:=⟨rfl,rfl,rfl⟩);rw[Sj (by omega)];exact(by repeat (first|exact AM _|exact LeA.nil _|exact LeL.refl _|refine LeA.agg ?_|refine LeA.tup ?_|exact LeL.nil|refine LeL.cons ?_ ?_|exact LeA.any _))
 have hc2:=bp hb2;obtain⟨k,rfl⟩:=Int.eq_ofNat_of_zero_le (show 0≤n by omega);refine AN (w_ (Af (h:=e_ (q_ (w_ (a_ (h:=e_ (Ao (?_)))))))));refine PJ 1 0 83 2 rfl rfl (by repeat constructor) (by repeat constructor) (by repeat constructor) ?_;refine Bm (fun m s=>∃j:Nat,j≤k∧m=k - j∧s=⟨look [(0, .v (.int .i64 (k:Int))),(2, .bp 0 0),(4, .bp 1 0),(5, .v (.int .i64 (j:Int)))],⟨[[.v (.slice none 0 0)],[.sl 2 ((List.replicate j Kb).map Be) (some 0)]],[(83,2,(List.replicate j Kb).map Be)]⟩⟩) (k) ((wk 2 1)) (⟨0,by omega,rfl,rfl⟩) ?_;rintro m s ⟨j,hj,rfl,rfl⟩;refine q_ (w_ (m_ (h:=m_ (h:=BO (h:=e_ (?_))))));refine A8 rfl (fun hb3=>?_) (fun hb3=>?_)
 ·have hc3:=bp hb3;refine AN (q_ (Ao (AX (f_ (h:=l_ (h:=?_))))));refine A7 rfl (FJ (y:= .agg (Ab Nf)) (DK ⟨rfl,rfl⟩) ?_);refine C2 (h:=Aa (h:=C2 (h:=?_)))
  first|refine A7 rfl (Eo rfl rfl rfl (by simp;omega) (by repeat constructor) ?_)|refine A7 rfl (Ep rfl rfl (by simp;omega) (by repeat constructor) ?_)
  refine f_ (h:=s_ (h:=AW (Au (t_ (AX (m_ (h:=B2 (h:=a_ (h:=AW (?_))))))))));refine AJ ?_;refine⟨_,_,?_,⟨j+1,by omega,rfl,rfl⟩,(by rw[List.replicate_succ',List.map_append];exact(wk 2 1))⟩;omega
 have hc3:=bp hb3;obtain rfl:j=k:=by omega
 refine BU (Am (Am (BV (t_ (w_ (l_ (h:=s_ (h:=a_ (h:=e_ (A6 (?_)))))))))));refine AA ?_;rw[XP hc1 hc2];rfl
end
def Gx(f:AT)(top:A9):Nat→A9→Bool
 |0,_=>false
 |n+1,a=>if a.1≠top.1 then false else if a=top then true else Gx f top n (a.1,(AZ f a).parent)
section
theorem XQ(f:AT)(a top:A9)(hf:FlsB f):AFn prog 33 [.agg (Al f), .agg (AB a), .agg (AB top)] (fun r=>r= .v (.bool (Gx f top 17 a))):=by
 refine enter Tryz.func33 rfl rfl rfl rfl rfl 0 rfl ?_;refine w_ (b_ (h:=b_ (h:=b_ (h:=a_ (h:=e_ (q_ (w_ (a_ (h:=e_ (Ao (?_)))))))))));refine Bm (fun m s=>∃(j:Nat) (b:A9),j≤17∧m=17 - j∧Gx f top (17 - j) b=Gx f top 17 a∧s=⟨look [(3, .bp 0 0),(4, .bp 1 0),(5, .bp 2 0),(7, .v (.int .i64 (j:Int)))],⟨[Al f,AB b,AB top],[]⟩⟩) (17) ((wk 3 0)) (⟨0,a,by omega,rfl,rfl,rfl⟩) ?_;rintro m s ⟨j,b,hj,rfl,hit,rfl⟩;refine q_ (w_ (m_ (h:=Lo (h:=m_ (h:=?_)))));refine As true rfl rfl (fun hb1=>?_) (fun hb1=>?_)
 ·have hc1:=bp hb1;obtain⟨k,hk⟩:∃k,17 - j=k+1:=⟨16 - j,by omega⟩;rw[hk,Gx]at hit;refine f_ (h:=l_ (h:=f_ (h:=l_ (h:=Ac (h:=AU (h:=e_ (?_)))))));refine A8 rfl (fun hb2=>?_) (fun hb2=>?_)
  ·have hc2:=bp hb2;rw[if_neg (by simpa using hc2)]at hit;refine AN (q_ (Ao (q_ (w_ (l_ (h:=l_ (h:=?_)))))));refine A7 rfl (Er rfl rfl (by repeat constructor) (by repeat constructor) (fun w=>Ke _ _ _ _ w) (by kernel_rfl) ?_);refine e_ (?_);refine A8 rfl (fun hb3=>?_) (fun hb3=>?_)
   ·have hc3:=bp hb3;rw[if_pos (show b=top from hc3)]at hit;refine w_ (a_ (h:=e_ (A6 (A4 (AR (A4 (A4 (AR (A4 (?_))))))))));refine AA ?_;exact vb hit
   have hc3:=bp hb3;rw[if_neg (show¬b=top from hc3)]at hit;refine AN (w_ (l_ (h:=l_ (h:=?_))));refine A7 rfl (AK (Dm f b hf) ?_);rintro r rfl;refine m_ (h:=x_ (h:=x_ (h:=Af (h:=s_ (h:=a_ (h:=e_ (AX (f_ (h:=l_ (h:=f_ (h:=s_ (h:=AW (Au (t_ (AX (m_ (h:=B2 (h:=a_ (h:=AW (?_))))))))))))))))))));refine AJ ?_;refine⟨_,_,?_,⟨j+1,(b.1,(AZ f b).parent),by omega,rfl,(by rw[show 17 - (j+1)=k by omega];exact hit),rfl⟩,(wk 3 0)⟩;omega
  have hc2:=bp hb2;rw[if_pos hc2]at hit;refine BU (Am (Am (BV (t_ (w_ (a_ (h:=e_ (A6 (?_)))))))));refine AA ?_;exact vb hit
 have hc1:=bp hb1;have ej:17 - j=0:=by omega
 rw[ej,Gx]at hit;refine A3 (h:=A3 (h:=A3 (h:=A3 (h:=A3 (h:=Ah (h:=e_ (F5 (h:=BU (Am (Am (BV (t_ (w_ (a_ (h:=e_ (A6 (?_)))))))))))))))));refine AA ?_;exact vb hit
end
theorem Nj{α:Type}{p:α→Bool}{l:List α}{j:Nat}{x:α}(hx:l[j]?=some x)(hp:p x=true):l.any p=true:=List.any_eq_true.2 ⟨x,Aj hx,hp⟩
theorem Nk{α:Type}{p:α→Bool}{l:List α}(h:∀i y,i<l.length→l[i]?=some y→p y=false):l.any p=false:=by
 rw[List.any_eq_false];intro x hx;obtain⟨i,hi,rfl⟩:=List.mem_iff_getElem.1 hx;simp[h i _ hi (BM hi)]
section
theorem XR(d:Dvc)(ino:Int)(hd:d.nodes.length≤1000):AFn prog 149 [.agg (Be d), .v (.int .i64 ino)] (fun r=>r= .v (.int .i64 (JJ d ino))):=by
 refine enter Tryz.func149 rfl rfl rfl rfl rfl 0 rfl ?_;refine w_ (b_ (h:=a_ (h:=e_ (q_ (w_ (a_ (h:=e_ (Ao (?_)))))))));refine Bm (fun m s=>∃j:Nat,j≤d.nodes.length∧m=d.nodes.length - j∧(∀i y,i<j→d.nodes[i]?=some y→(y.ino==ino)=false)∧s=⟨look [(1, .v (.int .i64 ino)),(2, .bp 0 0),(5, .v (.int .i64 (j:Int)))],⟨[Be d],[]⟩⟩) (d.nodes.length) ((wk 1 0)) (⟨0,by omega,rfl,fun i y hi=>by omega,rfl⟩) ?_;rintro m s ⟨j,hj,rfl,ha,rfl⟩;refine q_ (w_ (m_ (h:=f_ (h:=l_ (h:=n_ (h:=BO (h:=e_ (?_))))))));refine A8 rfl (fun hb1=>?_) (fun hb1=>?_)
 ·have hc1:=bp hb1;obtain⟨hlt,n,hy,hrow, -⟩:=CF Ab hc1;refine AN (q_ (Ao (w_ (f_ (h:=l_ (h:=m_ (h:=i_ (h:=f_ (h:=l_ (h:=m_ (h:=Ac (h:=e_ (?_)))))))))))));refine A8 rfl (fun hb2=>?_) (fun hb2=>?_)
  ·have hc2:=bp hb2;refine w_ (f_ (h:=l_ (h:=m_ (h:=i_ (h:=f_ (h:=l_ (h:=a_ (h:=e_ (A6 (AR (A4 (A4 (AR (A4 (?_)))))))))))))));refine AA ?_;exact vi (by unfold JJ;rw[GM hy (by simpa using hc2) ha])
  have hc2:=bp hb2;refine BA (Au (t_ (AX (m_ (h:=B2 (h:=a_ (h:=AW (?_))))))));refine AJ ?_;refine⟨_,_,?_,⟨j+1,by omega,rfl,EW hy ha (by simpa using hc2),rfl⟩,(wk 1 0)⟩;omega
 have hc1:=bp hb1;have e:=Cx Ab hj hc1;subst e;refine BU (Am (Am (BV (t_ (w_ (a_ (h:=e_ (A6 (?_)))))))));refine AA ?_;exact vi (by unfold JJ;rw[GN (fun i y hi hy=>ha i y hi hy)])
theorem Sl(n:Nod)(ino:Int)(hn:n.entries.length≤1000):AFn prog 108 [.agg (Ab n), .v (.int .i64 ino)] (fun r=>r= .v (.bool (Lq n ino))):=by
 refine enter Tryz.func108 rfl rfl rfl rfl rfl 0 rfl ?_;refine w_ (b_ (h:=a_ (h:=e_ (q_ (w_ (a_ (h:=e_ (Ao (?_)))))))));refine Bm (fun m s=>∃j:Nat,j≤n.entries.length∧m=n.entries.length - j∧(∀i y,i<j→n.entries[i]?=some y→(y.2==ino)=false)∧s=⟨look [(1, .v (.int .i64 ino)),(2, .bp 0 0),(5, .v (.int .i64 (j:Int)))],⟨[Ab n],[]⟩⟩) (n.entries.length) ((wk 1 0)) (⟨0,by omega,rfl,fun i y hi=>by omega,rfl⟩) ?_;rintro m s ⟨j,hj,rfl,ha,rfl⟩;refine q_ (w_ (m_ (h:=f_ (h:=l_ (h:=n_ (h:=BO (h:=e_ (?_))))))));refine A8 rfl (fun hb1=>?_) (fun hb1=>?_)
 ·have hc1:=bp hb1;obtain⟨hlt,x,hy,hrow, -⟩:=CF C7 hc1;refine AN (q_ (Ao (w_ (f_ (h:=l_ (h:=m_ (h:=i_ (h:=f_ (h:=l_ (h:=m_ (h:=Ac (h:=e_ (?_)))))))))))));refine A8 rfl (fun hb2=>?_) (fun hb2=>?_)
  ·have hc2:=bp hb2;refine w_ (a_ (h:=e_ (A6 (AR (A4 (A4 (AR (A4 (?_)))))))));refine AA ?_;exact vb (by unfold Lq;rw[Nj hy (by simpa using hc2)])
  have hc2:=bp hb2;refine BA (Au (t_ (AX (m_ (h:=B2 (h:=a_ (h:=AW (?_))))))));refine AJ ?_;refine⟨_,_,?_,⟨j+1,by omega,rfl,EW hy ha (by simpa using hc2),rfl⟩,(wk 1 0)⟩;omega
 have hc1:=bp hb1;have e:=Cx C7 hj hc1;subst e;refine BU (Am (Am (BV (t_ (w_ (a_ (h:=e_ (A6 (?_)))))))));refine AA ?_;exact vb (by unfold Lq;rw[Nk (fun i y hi hy=>ha i y hi hy)])
end
theorem SetAt.det{α:Type}{l xs a b:List α}{n:Nat}(h:SetAt l n xs a):SetAt l n xs b→a=b:=by
 induction h generalizing b with
 |nil l n=>intro k;cases k;rfl
 |here a x l xs l' _ ih=>intro k;cases k with|here _ _ _ _ _ k=>rw[ih k]
 |there a x l xs l' n _ ih=>intro k;cases k with|there _ _ _ _ _ _ k=>rw[ih k]
def CJ(sz cap:Nat)(rows:List (List AV)):List AV:=rows.flatten++List.replicate ((cap - rows.length) * sz) .any
theorem Pg{sz cap:Nat}{rows:List (List AV)}(h:∀r∈rows,r.length=sz)(hc:rows.length≤cap):(CJ sz cap rows).length=cap * sz:=by
 unfold CJ;rw[List.length_append,Jp h,List.length_replicate,←Nat.add_mul]
 congr 1
 omega
theorem Sm{sz cap:Nat}{rows:List (List AV)}(h:∀r∈rows,r.length=sz):((CJ sz cap rows).drop 0).take (rows.length * sz)=rows.flatten:=by
 unfold CJ;rw[List.drop_zero,List.take_left' (Jp h)]
theorem Sn{sz cap:Nat}{rows:List (List AV)}{r row':List AV}(h:∀x∈rows,x.length=sz)(hr:r.length=sz)(hp:0<sz)(hc:rows.length+1≤cap)(hs:SetAt (CJ sz cap rows) (0+rows.length * sz) r row'):row'=CJ sz cap (rows++[r]):=by
 refine hs.det ?_;unfold CJ
 have e:List.replicate ((cap - rows.length) * sz) AV.any=List.replicate sz AV.any++List.replicate ((cap - (rows++[r]).length) * sz) AV.any:=by
  rw[List.replicate_append_replicate]
  congr 1
  rw[show(rows++[r]).length=rows.length+1 by simp,show cap - rows.length=(cap - (rows.length+1))+1 by omega,Nat.add_mul];omega
 rw[e,Nat.zero_add,List.flatten_append,List.append_assoc];have key:=SetAt.right (SetAt.whole (xs:=r) (l:=List.replicate sz AV.any) (b:=List.replicate ((cap - (rows++[r]).length) * sz) AV.any) (by simp[hr])) rows.flatten (fun e=>by rw[e]at hr;simp at hr;omega);rw[Jp h,Nat.add_zero]at key
 simpa using key
theorem So{sz cap:Nat}{rows:List (List AV)}{r:List AV}(h:∀x∈rows,x.length=sz){cap0 n:Nat}(hn:n=rows.length):((CJ sz cap0 rows).drop 0).take (n * sz)++r++List.replicate ((cap - (n+1)) * sz) .any=CJ sz cap (rows++[r]):=by
 subst hn;rw[Sm h];unfold CJ;simp
def G8(d:Dvc)(j cap1:Nat):List AV:=[.v (.int .i64 d.next), .bs j 0 8 d.nodes.length cap1]
theorem Sq(l:List Dvc):∀r∈l.map Be,r.length=2:=by
 intro r hr;obtain⟨d,_,rfl⟩:=List.mem_map.1 hr;rfl
theorem JL(l:List Nod):∀r∈l.map Ab,r.length=8:=by
 intro r hr;obtain⟨d,_,rfl⟩:=List.mem_map.1 hr;rfl
end Go.Proofs.YtobclmbkdhbnpaaGreatDoor
namespace Go.Proofs.YtobclmbkdhbnpaaGreatDoor.Old
open Go.RowKit
def Ph(D:Nat→Prop)(w w':World):Prop:=∀b,D b→w'.heap[b]?=w.heap[b]?
def Old(w:World):Nat→Prop:=fun b=>b<w.heap.size
def Pi(w w':World):Nat→Prop:=fun b=>w.heap.size≤b∧b<w'.heap.size
def few:Nat:=65536
theorem Nl{B:Nat}{a w:World}(h:Below B a w)(n:Nat):Below B a (w.drewN n):=⟨h.os,h.tape,h.output,h.size,h.block⟩
theorem Nm{w w':World}(h:Below w.heap.size w w'):Ph (Old w) w w':=fun b hb=>h.block b hb
theorem Lt{w w':World}(h:Below w.heap.size w w')(g:Option Nat):w.grownBy w' g:=⟨h.os,h.tape,h.output,h.size,fun k hk _=>h.block k hk⟩
def RowL{α:Type}(sz:Nat)(cell:α→Nat→Value)(w:World)(D:Nat→Prop)(A:Option Addr)(xs:List α):Prop:=
 0<xs.length→∃b off,A=some ⟨b,off,none⟩∧D b∧∀i x j,xs[i]?=some x→j<sz→w.cell? ⟨b,off+i * sz+j,none⟩=some (cell x j)
def ListR{α:Type}(sz:Nat)(cell:α→Nat→Value)(w:World)(D:Nat→Prop)(v:Value)(xs:List α):Prop:=
 ∃A c,v= .slice A xs.length c∧xs.length≤c∧xs.length≤few∧RowL sz cell w D A xs
section
variable {α:Type}{sz:Nat}{cell:α→Nat→Value}{w w':World}{D D':Nat→Prop}{A:Option Addr}{v:Value}{xs:List α}
theorem RowL.keep(h:RowL sz cell w D A xs)(hs:Ph D w w'):RowL sz cell w' D A xs:=by
 intro hn;obtain⟨b,off,rfl,hb,hc⟩:=h hn;exact⟨b,off,rfl,hb,fun i x j hi hj=>(World.cell?_of_block (w:=w) (a:=⟨b,off+i * sz+j,none⟩) (hs b hb)).trans (hc i x j hi hj)⟩
theorem ListR.keep(h:ListR sz cell w D v xs)(hs:Ph D w w'):ListR sz cell w' D v xs:=by
 obtain⟨A,c,rfl,h1,h2,h3⟩:=h;exact⟨A,c,rfl,h1,h2,h3.keep hs⟩
theorem ListR.nil_:ListR sz cell w D (.slice none 0 0) []:=⟨none,0,rfl,Av _,BJ _,fun h=>absurd h (by simp)⟩
end
def entCell(e:B1):Nat→Value
 |0=> .string e.1
 |_=> .int .i64 e.2
def nodCell(n:Nod×Value):Nat→Value
 |0=> .int .i64 n.1.ino
 |1=> .int .i64 n.1.kind
 |2=> .int .i64 n.1.mode
 |3=> .int .i64 n.1.uid
 |4=> .int .i64 n.1.gid
 |5=> .int .i64 n.1.parent
 |6=> .string n.1.target
 |_=>n.2
def dvcCell(d:Dvc×Value):Nat→Value
 |0=> .int .i64 d.1.next
 |_=>d.2
def Lu(s:AE):Nat→Value
 |_=> .string s
abbrev EntsR:=ListR 2 entCell
abbrev Sr:=ListR 1 Lu
def DW(at_:A9):Value:= .agg #[.int .i64 at_.1, .int .i64 at_.2]
def NodsR(w:World)(D:Nat→Prop)(v:Value)(ns:List Nod):Prop:=
 ∃xs:List (Nod×Value),xs.map (·.1)=ns∧ListR 8 nodCell w D v xs∧∀x∈xs,EntsR w D x.2 x.1.entries
def XS(w:World)(D:Nat→Prop)(v:Value)(f:AT):Prop:=
 ∃xs:List (Dvc×Value),xs.map (·.1)=f∧ListR 2 dvcCell w D v xs∧∀x∈xs,NodsR w D x.2 x.1.nodes
def FlsR(w:World)(D:Nat→Prop)(v:Value)(f:AT):Prop:=∃d,v= .agg #[d]∧XS w D d f
theorem Jv{a b:Bool}(h:a=b):Ending.returned (.bool a)= .returned (.bool b):=by rw[h]
theorem XT{α β:Type}{g:α→β}{xs:List α}{ys:List β}(h:xs.map g=ys):xs.length=ys.length:=by
 subst h;simp
theorem JM{w:World}{g:Nat}{cs:Array Value}{t:TypeId}{fz:Nat×Nat}(h:w.heap[g]?=some (.cells cs t fz))(i:Nat):w.cell? ⟨g,i,none⟩=cs[i]?:=by
 simp[World.cell?,h]
theorem Pj{w:World}{g:Nat}{cs:Array Value}{t:TypeId}(h:w.heap[g]?=some (.cells cs t (0,0)))(i:Nat):w.frozen? ⟨g,i,none⟩=false:=by
 simp[World.frozen?,h]
theorem Lv{w w':World}{b:Nat}{row:Option Nat}{o:Obj}(h:w.heap[b]?=some o)(hg:w.grownBy w' row)(hne:some b≠row):w'.heap[b]?=some o:=by
 have hb:b<w.heap.size:=by
  rcases Nat.lt_or_ge b w.heap.size with hlt|hge
  ·exact hlt
  rw[Array.getElem?_eq_none hge]at h;cases h
 exact(hg.block b hb hne).trans h
theorem Cj{w:World}{b:Nat}{o:Obj}(h:w.heap[b]?=some o)(o':Obj):(w.alloc o').heap[b]?=some o:=by
 have hb:b<w.heap.size:=by
  rcases Nat.lt_or_ge b w.heap.size with hlt|hge
  ·exact hlt
  rw[Array.getElem?_eq_none hge]at h;cases h
 exact(Below.heap_alloc w o' b hb).trans h
theorem C0{w:World}{g:Nat}{cs:Array Value}{t:TypeId}(h:w.heap[g]?=some (.cells cs t (0,0))):(∀i,w.cell? ⟨g,i,none⟩=cs[i]?)∧(∀i,w.frozen? ⟨g,i,none⟩=false):=
 ⟨fun i=>JM h i,fun i=>Pj h i⟩
theorem Kh{w:World}{b:Nat}{cs:Array Value}{t:TypeId}{fz:Nat×Nat}(h:w.heap[b]?=some (.cells cs t fz))(i:Nat)(u:Value):(w.setCell ⟨b,i,none⟩ u).heap[b]?=some (.cells (cs.setIfInBounds i u) t fz):=by
 simp[World.setCell,Array.getElem?_modify,h]
theorem Jw{w:World}{b:Nat}{o:Obj}(h:w.heap[b]?=some o){p:Addr}(hp:b≠p.block)(u:Value):(w.setCell p u).heap[b]?=some o:=(Below.heap_setCell w p u b hp).trans h
theorem Ba{w w':World}{b B:Nat}{o:Obj}(h:w.heap[b]?=some o)(hg:Below B w w')(hb:b<B):w'.heap[b]?=some o:=(hg.block b hb).trans h
theorem FM(w:World)(o1:Obj):Below w.heap.size w (w.alloc o1):=by
 exact(Below.refl _ w).alloc (Av _) _
theorem Lw(w:World)(o1:Obj):(w.alloc o1).heap.size=w.heap.size+1:=by simp
theorem Hl(w:World)(o1:Obj):(w.alloc o1).heap[w.heap.size]?=some o1:=(by have:=heap_alloc_new w o1;simpa using this)
theorem XU{w w1:World}{o1:Obj}(h:Below (w.alloc o1).heap.size (w.alloc o1) w1):Below w.heap.size w w1∧w.heap.size+1≤w1.heap.size∧w1.heap[w.heap.size]?=some o1:=by
 have hs:=h.size;rw[Lw]at hs;exact⟨(FM w o1).trans (h.mono (by simp<;>omega)),hs,Ba (Hl w o1) h (by simp)⟩
theorem Gy(w:World)(o1 o2:Obj):Below w.heap.size w ((w.alloc o1).alloc o2):=by
 exact(FM w o1).alloc (by simp<;>omega) _
theorem Ss(w:World)(o1 o2:Obj):((w.alloc o1).alloc o2).heap.size=w.heap.size+2:=by simp
theorem Hm(w:World)(o1 o2:Obj):((w.alloc o1).alloc o2).heap[w.heap.size]?=some o1:=Cj (Hl w o1) _
theorem Hn(w:World)(o1 o2:Obj):((w.alloc o1).alloc o2).heap[w.heap.size+1]?=some o2:=(by have:=heap_alloc_new (w.alloc o1) o2;simpa using this)
theorem Lx(w:World)(o1 o2 o3:Obj):Below w.heap.size w (((w.alloc o1).alloc o2).alloc o3):=by
 exact(Gy w o1 o2).alloc (by simp<;>omega) _
theorem Ly(w:World)(o1 o2 o3:Obj):(((w.alloc o1).alloc o2).alloc o3).heap[w.heap.size]?=some o1:=Cj (Hm w o1 o2) _
theorem Lz(w:World)(o1 o2 o3:Obj):(((w.alloc o1).alloc o2).alloc o3).heap[w.heap.size+1]?=some o2:=Cj (Hn w o1 o2) _
theorem M0(w:World)(o1 o2 o3:Obj):(((w.alloc o1).alloc o2).alloc o3).heap[w.heap.size+1+1]?=some o3:=(by have:=heap_alloc_new ((w.alloc o1).alloc o2) o3;simpa using this)
theorem Pk(w:World)(o1 o2 o3 o4:Obj):Below w.heap.size w ((((w.alloc o1).alloc o2).alloc o3).alloc o4):=by
 exact(Lx w o1 o2 o3).alloc (by simp<;>omega) _
theorem Su(w:World)(o1 o2 o3 o4:Obj):((((w.alloc o1).alloc o2).alloc o3).alloc o4).heap[w.heap.size]?=some o1:=Cj (Ly w o1 o2 o3) _
theorem Pl(w:World)(o1 o2 o3 o4:Obj):((((w.alloc o1).alloc o2).alloc o3).alloc o4).heap[w.heap.size+1]?=some o2:=Cj (Lz w o1 o2 o3) _
theorem Sv(w:World)(o1 o2 o3 o4:Obj):((((w.alloc o1).alloc o2).alloc o3).alloc o4).heap[w.heap.size+1+1]?=some o3:=Cj (M0 w o1 o2 o3) _
theorem Pm(w:World)(o1 o2 o3 o4:Obj):((((w.alloc o1).alloc o2).alloc o3).alloc o4).heap[w.heap.size+1+1+1]?=some o4:=(by have:=heap_alloc_new (((w.alloc o1).alloc o2).alloc o3) o4;simpa using this)
end Go.Proofs.YtobclmbkdhbnpaaGreatDoor.Old
namespace Go.Proofs.YtobclmbkdhbnpaaGreatDoor.Old
open Go.RowKit
def flat{α:Type}(sz:Nat)(cell:α→Nat→Value)(xs:List α):List Value:=xs.flatMap fun x=>(List.range sz).map (cell x)
section
variable {α:Type}{sz:Nat}{cell:α→Nat→Value}
theorem flat_length(xs:List α):(flat sz cell xs).length=xs.length * sz:=by
 induction xs with
 |nil=>simp[flat]
 |cons x xs ih=>
   unfold flat at ih ⊢;rw[List.flatMap_cons,List.length_append,ih];simp[Nat.add_mul,Nat.add_comm]
theorem XV(xs ys:List α):flat sz cell (xs++ys)=flat sz cell xs++flat sz cell ys:=by simp[flat]
theorem flat_get(xs:List α):∀(i j:Nat) (x:α),xs[i]?=some x→j<sz→(flat sz cell xs)[i * sz+j]?=some (cell x j):=by
 induction xs with
 |nil=>intro i j x h;simp at h
 |cons y ys ih=>
   intro i j x h hj;have e:flat sz cell (y::ys)=(List.range sz).map (cell y)++flat sz cell ys:=by simp[flat]
   rw[e]
   cases i with
   |zero=>
     simp at h;subst h;rw[Ca (by simpa using hj)];simp[hj]
   |succ i=>
     rw[DP (by simp[Nat.add_mul];omega)];simp only[List.getElem?_cons_succ]at h;have:=ih i j x h hj;rw[←this]
     congr 1
     simp[Nat.add_mul];omega
theorem Sw(xs:List α)(hsz:0<sz){k:Nat}{u:Value}(h:(flat sz cell xs)[k]?=some u):∃x,xs[k / sz]?=some x∧u=cell x (k % sz):=by
 have hk:k<xs.length * sz:=by
  have:=(Ai.1 h).1
  rwa [flat_length]at this
 have hq:k / sz<xs.length:=(Nat.div_lt_iff_lt_mul hsz).2 hk;have hx:xs[k / sz]?=some xs[k / sz]:=BM hq;have:=flat_get (cell:=cell) xs (k / sz) (k % sz) _ hx (Nat.mod_lt _ hsz);rw[Nat.mul_comm,Nat.div_add_mod,h]at this;injection this with this;exact⟨_,hx,this⟩
def Ones(w:World)(v:Value):Prop:=∀(g:Nat) (cs:Array Value) (t:TypeId),v.ownBlock=some g→w.heap[g]?=some (.cells cs t (0,0))→∀u∈cs.toList,u.oneCell'=true
theorem Ones.of_block{w w':World}{v:Value}(h:Ones w v)(hb:∀g,v.ownBlock=some g→w'.heap[g]?=w.heap[g]?):Ones w' v:=fun g cs t hg hc=>h g cs t hg ((hb g hg).symm.trans hc)
theorem Ones.nil_(w:World):Ones w (.slice none 0 0):=fun g cs t hg=>by simp[Value.ownBlock]at hg
def OwnL(sz:Nat)(cell:α→Nat→Value)(E:TypeId)(w:World)(base:Nat)(v:Value)(xs:List α):Prop:=
 w.ownsRow base E sz v xs.length (flat sz cell xs)∧Ones w v
theorem OwnL.nil_(E:TypeId)(w:World)(base:Nat):OwnL sz cell E w base (.slice none 0 0) []:=⟨World.ownsRow_nil w base E sz,Ones.nil_ w⟩
theorem OwnL.kept{E:TypeId}{w w':World}{base:Nat}{v:Value}{xs:List α}(h:OwnL sz cell E w base v xs){row:Option Nat}(hg:w.grownBy w' row)(hne:v.ownBlock=none∨v.ownBlock≠row):OwnL sz cell E w' base v xs:=by
 refine⟨World.ownsRow.kept h.1 hg hne,h.2.of_block fun g hb=>hg.block g (World.ownsRow.lt h.1 g hb).2 ?_⟩;rcases hne with e|e
 ·rw[e]at hb;cases hb
 rw[←hb];exact e
theorem OwnL.alloc{E:TypeId}{w:World}{base:Nat}{v:Value}{xs:List α}(h:OwnL sz cell E w base v xs)(o:Obj):OwnL sz cell E (w.alloc o) base v xs:=
 ⟨World.ownsRow.alloc h.1 o,h.2.of_block fun g hb=>heap_alloc_old w o (World.ownsRow.lt h.1 g hb).2⟩
theorem OwnL.below{E:TypeId}{w w':World}{base:Nat}{v:Value}{xs:List α}(h:OwnL sz cell E w base v xs)(hb:Below w.heap.size w w'):OwnL sz cell E w' base v xs:=
 h.kept (Lt hb none) (by cases v.ownBlock<;>simp)
theorem OwnL.set_{E:TypeId}{w:World}{base:Nat}{v:Value}{xs:List α}(h:OwnL sz cell E w base v xs){p:Addr}(hp:v.ownBlock≠some p.block)(u:Value):OwnL sz cell E (w.setCell p u) base v xs:=
 h.kept (row:=some p.block) ⟨rfl,rfl,rfl,by simp[World.setCell],fun k _ hne=>Below.heap_setCell w p u k (fun e=>hne (by rw[e]))⟩ (.inr hp)
theorem OwnL.setb{E:TypeId}{w:World}{base:Nat}{v:Value}{xs:List α}(h:OwnL sz cell E w base v xs){p:Addr}(hp:p.block<base)(u:Value):OwnL sz cell E (w.setCell p u) base v xs:=
 h.set_ (fun e=>by have:=(World.ownsRow.lt h.1 _ e).1;omega) u
theorem OwnL.lt{E:TypeId}{w:World}{base:Nat}{v:Value}{xs:List α}(h:OwnL sz cell E w base v xs):∀k,v.ownBlock=some k→base≤k∧k<w.heap.size:=World.ownsRow.lt h.1
theorem OwnL.ne_{E:TypeId}{w:World}{base:Nat}{v:Value}{xs:List α}(h:OwnL sz cell E w base v xs){g:Nat}{t:TypeId}{cs:Array Value}(hg:w.heap[g]?=some (.cells cs t (0,0)))(hne:E≠t):v.ownBlock≠some g:=by
 rcases h.1.2 with⟨rfl,_⟩|⟨g',cap,cur,rfl,_,hh,_⟩
 ·simp[Value.ownBlock]
 intro he;have:g'=g:=by simpa[Value.ownBlock]using he
 subst this;rw[hg]at hh;injection hh with hh;injection hh with _ ht;exact hne ht.symm
theorem OwnL.form{E:TypeId}{w:World}{base:Nat}{v:Value}{xs:List α}(h:OwnL sz cell E w base v xs):∃A c,v= .slice A xs.length c:=by
 rcases h.1.2 with⟨rfl,hn⟩|⟨g,cap,cur,rfl,_⟩
 ·exact⟨none,0,by rw[hn]⟩
 exact⟨_,_,rfl⟩
theorem OwnL.list{E:TypeId}{w:World}{base:Nat}{v:Value}{xs:List α}(h:OwnL sz cell E w base v xs)(hf:xs.length≤few){D:Nat→Prop}(hD:∀b,base≤b→b<w.heap.size→D b):ListR sz cell w D v xs:=by
 rcases h.1.2 with⟨rfl,hn⟩|⟨g,cap,cur,rfl,hb,hg,hnc,_,hcs,htake⟩
 ·obtain rfl:xs=[]:=DE hn;exact ListR.nil_
 refine⟨_,_,rfl,hnc,hf,fun _=>⟨g,0,rfl,hD g hb (Array.getElem?_eq_some_iff.1 hg).1,fun i x j hi hj=>?_⟩⟩
 have hlt:i * sz+j<xs.length * sz:=by
  have h1:=(Ai.1 hi).1;have h2:(i+1) * sz≤xs.length * sz:=Nat.mul_le_mul_right sz h1;rw[Nat.add_mul]at h2;omega
 rw[Nat.zero_add,cell_of_row w g _ cur E (0,0) hg,←flat_get xs i j x hi hj,←htake,List.getElem?_take,if_pos hlt];simp
end
def Ho(T E sz bytes:Nat):Prop:=prog.underlying T=some (.slice E)∧∃i z,prog.info? E=some i∧i.zero=some z∧i.size=sz∧i.bytes=bytes∧z.cells.size=sz∧(z.cells.toList.all (·.oneCell'))=true
theorem Pn{T E sz bytes:Nat}{z:Value}(hT:prog.underlying T=some (.slice E))(h:(prog.info? E).map (fun i=>(i.zero,i.size,i.bytes))=some (some z,sz,bytes))(hz:z.cells.size=sz)(h1:(z.cells.toList.all (·.oneCell'))=true):Ho T E sz bytes:=by
 refine⟨hT,?_⟩
 cases hi:prog.info? E with
 |none=>rw[hi]at h;cases h
 |some i=>
   rw[hi]at h;simp only[Option.map_some,Option.some.injEq,Prod.mk.injEq]at h;exact⟨i,z,rfl,h.1,h.2.1,h.2.2,hz,h1⟩
theorem XW{P:Program}{w:World}{base:Nat}{t ty e:TypeId}{i:TypeInfo}{size:Nat}(ht:P.underlying t=some (.slice e))(hi:P.info? e=some i)
    {v:Value} {n:Nat} {xs:List Value} (hown:w.ownsRow base e size v n xs) (c:Nat):(Builtin.append_ #[t,t] ty #[v, .slice none 0 c]).run P w= .ok v w:=by
 rcases hown.2 with⟨rfl,rfl⟩|⟨g,cap,cur,rfl,_,_,hnc,_⟩
 ·simp[Builtin.append_,run_underlying ht,sizeOf,typeInfo,hi,Builtin.lenOf,Builtin.firstCells]
 simp[Builtin.append_,run_underlying ht,sizeOf,typeInfo,hi,Builtin.lenOf,Builtin.firstCells,hnc,storeCells]
section
variable {α:Type}{sz:Nat}{cell:α→Nat→Value}
theorem Sx{z:Array Value}(h:(z.toList.all (·.oneCell'))=true){k:Nat}{u:Value}(hu:u∈Builtin.zeroCells z k):u.oneCell'=true:=by
 simp only[Builtin.zeroCells,Array.mem_map,Array.mem_range]at hu;obtain⟨i,hi2,rfl⟩:=hu
 have hpos:0<z.size:=by
  rcases Nat.eq_zero_or_pos z.size with e|e
  ·rw[e]at hi2;simp at hi2
  exact e
 have hlt:i % z.size<z.size:=Nat.mod_lt _ hpos;rw[getElem!_pos z _ hlt];exact List.all_eq_true.1 h _ (by simp)
set_option maxRecDepth 10000 in
theorem Sy{w:World}{T E bytes ty:Nat}(hE:Ho T E sz bytes)(hsz:0<sz)(hby:bytes≤100000){base:Nat}{v:Value}{n:Nat}{xs:List Value}(hown:w.ownsRow base E sz v n xs)(h1:Ones w v)
    (ad:Addr) (m c:Nat) (news:List Value) (hl:news.length=m * sz) (hnews:∀j u,news[j]?=some u→w.cell? (ad.add j)=some u) (hone:∀u∈news,u.oneCell'=true) (hf:n≤1000000) (hm:m≤1000000) {v':Value} {w':World}
    (hrun:(Builtin.append_ #[T,T] ty #[v, .slice (some ad) m c]).run prog w= .ok v' w') (hnil:v'= .slice none 0 0↔v= .slice none 0 0∧m=0):Ones w' v':=by
 obtain⟨ht,i,z,hi,hz,hs,hb,hzs,hz1⟩:=hE;subst hs;have hbb:(n+m) * bytes≤2000000 * 100000:=Nat.mul_le_mul (by omega) hby;rcases hown.2 with⟨rfl,rfl⟩|⟨g,cap,cur,rfl,hbg,hg,hnc,hcm,hcs,htk⟩
 ·rcases Nat.eq_zero_or_pos m with h0|h0
  ·rw[hnil.2 ⟨rfl,h0⟩];exact Ones.nil_ _
  have hr:=run_append_nil (P:=prog) w T ty E i z ht hi hz ad m c news hl hnews h0 (by omega) (by rw[hb];rw[Nat.zero_add]at hbb;omega);have hq:=hrun.symm.trans hr;simp only[Result.ok.injEq]at hq;obtain⟨rfl,rfl⟩:=hq;intro g cs t hgg hc u hu;have:g=w.heap.size:=by simpa[Value.ownBlock]using hgg.symm
  subst this;have hn:=heap_alloc_new w.drew (.cells (news.toArray++Builtin.zeroCells z.cells (grownCap w m 0 E - m)) E);have hn':(w.drew.alloc (.cells (news.toArray++Builtin.zeroCells z.cells (grownCap w m 0 E - m)) E)).heap[w.heap.size]?=some (.cells (news.toArray++Builtin.zeroCells z.cells (grownCap w m 0 E - m)) E):=hn;rw[hn']at hc;injection hc with hc;injection hc with hc _;subst hc;rcases Array.mem_append.1 (Array.mem_toList_iff.1 hu)with h|h
  ·exact hone u (by simpa using h)
  exact Sx hz1 h
 have hgc:w.heap[g]?=some (.cells cur.toList.toArray E (0,0)):=by simpa using hg
 by_cases hroom:n+m≤cap
 ·have hfit:n * i.size+news.length≤cur.size:=by
     rw[hcs,hl,←Nat.add_mul];exact Nat.mul_le_mul_right _ hroom
  have hr:=run_append_room_cells (P:=prog) w T ty E i ht hi g 0 n cap ad m c news hl hnews hone hroom (fun j hj=>by
   have:0+n * i.size+j<cur.size:=by omega
   simp only[World.cell?,hg];simp;omega) (fun j hj=>by simp[World.frozen?,hg])
  have hq:=hrun.symm.trans hr;simp only[Result.ok.injEq]at hq;obtain⟨rfl,rfl⟩:=hq;obtain⟨r1,_⟩:=My g E news (0+n * i.size) cur.toList w hgc;intro g' cs t hgg hc u hu;have:g'=g:=by simpa[Value.ownBlock]using hgg.symm
  subst this;rw[r1]at hc;injection hc with hc;injection hc with hc _;subst hc;rcases LT news _ _ u (by simpa using hu)with h|h
  ·exact h1 g' cur E rfl hg u h
  exact hone u h
 have hr:=run_append_grow (P:=prog) w T ty E i z ht hi hz ⟨g,0,none⟩ n cap xs hown.1 (fun j u hj=>by
  rw[Addr.add_mid];simp only[World.cell?,hg];rw[←htk,List.getElem?_take]at hj;split at hj
  ·simpa using hj
  cases hj) ad m c news hl hnews (by omega) (by omega) (growslice_fits (by omega) (by rw[hb];omega))
 have hq:=hrun.symm.trans hr;simp only[Result.ok.injEq]at hq;obtain⟨rfl,rfl⟩:=hq;intro g' cs t hgg hc u hu;have:g'=w.heap.size:=by simpa[Value.ownBlock]using hgg.symm
 subst this;have hn':(w.drew.alloc (.cells (xs.toArray++news.toArray++Builtin.zeroCells z.cells (grownCap w (n+m) cap E - (n+m))) E)).heap[w.heap.size]?=some (.cells (xs.toArray++news.toArray++Builtin.zeroCells z.cells (grownCap w (n+m) cap E - (n+m))) E):=heap_alloc_new w.drew _;rw[hn']at hc;injection hc with hc;injection hc with hc _;subst hc;rcases Array.mem_append.1 (Array.mem_toList_iff.1 hu)with h|h
 ·rcases Array.mem_append.1 h with h|h
  ·have hx:u∈xs:=by simpa using h
   rw[←htk]at hx;exact h1 g cur E rfl hg u (List.mem_of_mem_take hx)
  exact hone u (by simpa using h)
 exact Sx hz1 h
theorem XX{w:World}{T E bytes ty:Nat}(hE:Ho T E sz bytes)(hsz:0<sz)(hby:bytes≤100000){base:Nat}{v sv:Value}{xs ys:List α}{D:Nat→Prop}(hown:OwnL sz cell E w base v xs)(hr:ListR sz cell w D sv ys)
    (h1:∀y∈ys,∀j,j<sz→(cell y j).oneCell'=true) (hf:xs.length≤1000000) (hbase:base≤w.heap.size):
    ∃v' w',(Builtin.append_ #[T,T] ty #[v,sv]).run prog w= .ok v' w'∧OwnL sz cell E w' base v' (xs++ys)∧w.grownBy w' v.ownBlock∧(v'.ownBlock=v.ownBlock∨v'.ownBlock=some w.heap.size):=by
 have hE0:=hE;obtain⟨ht,i,z,hi,hz,hs,hb,hzs,hz1⟩:=hE;obtain⟨A,c,rfl,hlc,hfew,hrow⟩:=hr;unfold few at hfew;rcases Nat.eq_zero_or_pos ys.length with h0|h0
 ·have hy:ys=[]:=DE h0;subst hy;rcases A with _|ad
  ·exact⟨v,w,XW ht hi hown.1 c,by simpa using hown,World.grownBy.refl w _, .inl rfl⟩
  obtain⟨v',w',hrun,h2,h3,h4,h5⟩:=run_append_own_at (P:=prog) w base T ty E i z sz bytes ht hi hz hs hb hzs hsz v xs.length _ hown.1 ad 0 c [] (by simp) (by simp) (by simp) (by unfold maxLen;omega) (by
   have:(xs.length+0) * bytes≤1000000 * 100000:=Nat.mul_le_mul (by omega) hby
   omega) hbase
  exact⟨v',w',hrun,⟨by simpa using h2,Sy hE0 hsz hby hown.1 hown.2 ad 0 c [] (by simp) (by simp) (by simp) hf (by omega) hrun h4⟩,h3,h5⟩
 obtain⟨b,off,rfl,_,hcell⟩:=hrow h0
 have hcl:∀j u,(flat sz cell ys)[j]?=some u→w.cell? ((⟨b,off,none⟩:Addr).add j)=some u:=by
  intro j u hu;obtain⟨x,hx,rfl⟩:=Sw ys hsz hu;have hcl:=hcell _ x (j % sz) hx (Nat.mod_lt _ hsz)
  have hm:off+j / sz * sz+j % sz=off+j:=by
   have:=Nat.div_add_mod j sz;rw[Nat.mul_comm]at this;omega
  rw[hm]at hcl;rw[Addr.add_lit];exact hcl
 have hon:∀u∈flat sz cell ys,u.oneCell'=true:=by
  intro u hu;obtain⟨k,hk⟩:=List.mem_iff_getElem?.1 hu;obtain⟨x,hx,rfl⟩:=Sw ys hsz hk;exact h1 x (Aj hx) _ (Nat.mod_lt _ hsz)
 obtain⟨v',w',hrun,h2,h3,h4,h5⟩:=run_append_own_at (P:=prog) w base T ty E i z sz bytes ht hi hz hs hb hzs hsz v xs.length _ hown.1 ⟨b,off,none⟩ ys.length c (flat sz cell ys) (flat_length ys) hcl hon (by unfold maxLen;omega) (by
     have:(xs.length+ys.length) * bytes≤1100000 * 100000:=Nat.mul_le_mul (by omega) hby
     omega) hbase
 exact⟨v',w',hrun,⟨by rw[XV,List.length_append];exact h2,Sy hE0 hsz hby hown.1 hown.2 _ _ c _ (flat_length ys) hcl hon hf (by omega) hrun h4⟩,h3,h5⟩
theorem XY{w:World}{o:Oper}{a:Act}{K:Act→World→Prop}{Q:Exit→Act→World→Prop}(s x:Operand)(T:TypeId)
    (ho:o.op= .call {callee:= .builtin .append,args:=#[s,x],argTypes:=#[T,T]}) {E bytes:Nat} (hE:Ho T E sz bytes) (hsz:0<sz) (hby:bytes≤100000)
    {base:Nat} {v sv:Value} {xs ys:List α} {D:Nat→Prop} (hs:a.eval s=v) (hx:a.eval x=sv) (hown:OwnL sz cell E w base v xs) (hr:ListR sz cell w D sv ys)
    (h1:∀y∈ys,∀j,j<sz→(cell y j).oneCell'=true) (hf:xs.length≤1000000) (hbase:base≤w.heap.size)
    (h:∀v' w',OwnL sz cell E w' base v' (xs++ys)→w.grownBy w' v.ownBlock→(v'.ownBlock=v.ownBlock∨v'.ownBlock=some w.heap.size)→K (a.put o.dst v') w'):o.wp prog a w K Q:=by
 obtain⟨v',w',hrun,h2,h3,h4⟩:=XX (ty:=o.type) hE hsz hby hown hr h1 hf hbase;unfold Oper.wp execOp;simp only[ho,resolve,invoke,builtin,Sem.run_bind,Sem.run_pure,Result.andThen_ok,List.map_toArray,List.map_cons,List.map_nil,hs,hx,hrun];exact h v' w' h2 h3 h4
theorem Po{w:World}{ops:Array Oper}{rest:List Oper}{o:Oper}{a:Act}{Q:Exit→Act→World→Prop}(hgd:o.guard=none)(s x:Operand)(T:TypeId)
    (ho:o.op= .call {callee:= .builtin .append,args:=#[s,x],argTypes:=#[T,T]}) {E bytes:Nat} (hE:Ho T E sz bytes) (hsz:0<sz) (hby:bytes≤100000)
    {base:Nat} {v sv:Value} {xs ys:List α} {D:Nat→Prop} (hs:a.eval s=v) (hx:a.eval x=sv) (hown:OwnL sz cell E w base v xs) (hr:ListR sz cell w D sv ys)
    (h1:∀y∈ys,∀j,j<sz→(cell y j).oneCell'=true) (hf:xs.length≤1000000) (hbase:base≤w.heap.size)
    (h:∀v' w',OwnL sz cell E w' base v' (xs++ys)→w.grownBy w' v.ownBlock→(v'.ownBlock=v.ownBlock∨v'.ownBlock=some w.heap.size)→wpList prog ops Q rest (a.put o.dst v') w'):wpList prog ops Q (o::rest) a w:=
 wpList_plain hgd fun _ hK=>XY s x T ho hE hsz hby hs hx hown hr h1 hf hbase fun v' w' h2 h3 h4=>hK _ _ (h v' w' h2 h3 h4)
theorem OwnL.mono{E:TypeId}{w:World}{base base':Nat}{v:Value}{xs:List α}(h:OwnL sz cell E w base v xs)(hb:base'≤base):OwnL sz cell E w base' v xs:=by
 refine⟨⟨h.1.1,?_⟩,h.2⟩;rcases h.1.2 with h'|⟨g,cap,cur,hv,hg,r⟩
 ·exact .inl h'
 exact .inr ⟨g,cap,cur,hv,Nat.le_trans hb hg,r⟩
theorem XZ{w:World}{ops:Array Oper}{rest:List Oper}{o:Oper}{a:Act}{Q:Exit→Act→World→Prop}(hgd:o.guard=none)(s x:Operand)(T:TypeId)
    (ho:o.op= .call {callee:= .builtin .append,args:=#[s,x],argTypes:=#[T,T]}) {E bytes:Nat} (hE:Ho T E sz bytes) (hsz:0<sz) (hby:bytes≤100000)
    (sv:Value) (ys:List α) {D:Nat→Prop} (hs:a.eval s= .slice none 0 0) (hx:a.eval x=sv) (hr:ListR sz cell w D sv ys)
    (h1:∀y∈ys,∀j,j<sz→(cell y j).oneCell'=true)
    (h:∀A c w',OwnL sz cell E w' w.heap.size (.slice A ys.length c) ys→Below w.heap.size w w'→wpList prog ops Q rest (a.put o.dst (.slice A ys.length c)) w'):wpList prog ops Q (o::rest) a w:=
 Po hgd s x T ho hE hsz hby hs hx (OwnL.nil_ E w w.heap.size) hr h1 (by simp) (Av _) fun v' w' h2 h3 _=>by
  rw[List.nil_append]at h2;obtain⟨A,c,rfl⟩:=h2.form;exact h A c w' h2 ⟨h3.os,h3.tape,h3.output,h3.size,fun k hk=>h3.block k hk (by simp[Value.ownBlock])⟩
theorem Sz{w:World}{cs:Array Value}{t:TypeId}{x:α}{B:Nat}(hB:B=w.heap.size)(hcs:∀j,j<sz→cs[j]?=some (cell x j)){D:Nat→Prop}(hD:D w.heap.size):ListR sz cell (w.alloc (.cells cs t)) D (.slice (some ⟨B,0,none⟩) 1 1) [x]:=by
 subst hB;refine⟨_,1,rfl,Av _,by unfold few;simp,fun _=>⟨_,_,rfl,hD,fun i y j hi hj=>?_⟩⟩
 cases i with
 |succ i=>simp at hi
 |zero=>
   simp at hi;subst hi;rw[cell_of_row (w.alloc (.cells cs t)) w.heap.size _ cs t (0,0) (heap_alloc_new w _)];simp[hcs j hj]
end
theorem Xa:Ho 63 88 2 24:=Pn (z:= .agg #[.string ⟨#[]⟩, .int .i64 0]) (by kernel_rfl) (by kernel_rfl) rfl rfl
theorem Xb:Ho 81 65 8 88:=Pn (z:= .agg #[.int .i64 0, .int .i64 0, .int .i64 0, .int .i64 0, .int .i64 0, .int .i64 0, .string ⟨#[]⟩, .slice none 0 0]) (by kernel_rfl) (by kernel_rfl) rfl rfl
theorem Xc:Ho 25 83 2 32:=Pn (z:= .agg #[.int .i64 0, .slice none 0 0]) (by kernel_rfl) (by kernel_rfl) rfl rfl
end Go.Proofs.YtobclmbkdhbnpaaGreatDoor.Old
namespace Go.Proofs.YtobclmbkdhbnpaaGreatDoor.Old
open Go.RowKit
def blk(v:Value):List Nat:=v.ownBlock.toList
theorem mem_blk{v:Value}{b:Nat}:b∈blk v↔v.ownBlock=some b:=by
 unfold blk;cases v.ownBlock<;>simp[eq_comm]
section
variable {α:Type}{sz:Nat}{cell:α→Nat→Value}{E:TypeId}{w w':World}{base:Nat}{v:Value}{xs:List α}
theorem OwnL.frame(h:OwnL sz cell E w base v xs){row:Option Nat}(hg:w.grownBy w' row)(hne:∀b∈blk v,some b≠row):OwnL sz cell E w' base v xs:=by
 refine h.kept hg ?_
 cases hb:v.ownBlock with
 |none=>exact .inl rfl
 |some b=>exact .inr (hne b (mem_blk.2 hb))
theorem OwnL.blk_lt(h:OwnL sz cell E w base v xs):∀b∈blk v,base≤b∧b<w.heap.size:=fun b hb=>h.lt b (mem_blk.1 hb)
theorem OwnL.not_mem(h:OwnL sz cell E w base v xs){g:Nat}{t:TypeId}{cs:Array Value}(hg:w.heap[g]?=some (.cells cs t (0,0)))(hne:E≠t):g∉blk v:=fun hm=>h.ne_ hg hne (mem_blk.1 hm)
end
def fpN(v:Value)(ys:List (Nod×Value)):List Nat:=blk v++ys.flatMap fun y=>blk y.2
def NodsAt(w:World)(base:Nat)(v:Value)(ys:List (Nod×Value)):Prop:=
 OwnL 8 nodCell 65 w base v ys∧(∀y∈ys,OwnL 2 entCell 88 w base y.2 y.1.entries∧y.1.entries.length≤few)∧(fpN v ys).Nodup
abbrev EB:=Int×Value×List (Nod×Value)
def Jy(d:EB):Nat→Value
 |0=> .int .i64 d.1
 |_=>d.2.1
def fpD(v:Value)(L:List EB):List Nat:=blk v++L.flatMap fun x=>fpN x.2.1 x.2.2
def DvcsAt(w:World)(base:Nat)(v:Value)(L:List EB):Prop:=
 OwnL 2 Jy 83 w base v L∧(∀x∈L,NodsAt w base x.2.1 x.2.2∧x.2.2.length≤few)∧(fpD v L).Nodup∧L.length≤few
def dvcOf(x:EB):Dvc:=⟨x.1,x.2.2.map (·.1)⟩
def flsOf(L:List EB):AT:=L.map dvcOf
section
variable {w w':World}{base:Nat}{v:Value}
theorem NodsAt.frame{ys:List (Nod×Value)}(h:NodsAt w base v ys){row:Option Nat}(hg:w.grownBy w' row)(hne:∀b∈fpN v ys,some b≠row):NodsAt w' base v ys:=by
 obtain⟨h1,h2,h3⟩:=h;refine⟨h1.frame hg fun b hb=>hne b (List.mem_append_left _ hb),fun y hy=>⟨(h2 y hy).1.frame hg fun b hb=>hne b (List.mem_append_right _ (List.mem_flatMap.2 ⟨y,hy,hb⟩)),(h2 y hy).2⟩,h3⟩
theorem NodsAt.fp_lt{ys:List (Nod×Value)}(h:NodsAt w base v ys):∀b∈fpN v ys,base≤b∧b<w.heap.size:=by
 intro b hb;rcases List.mem_append.1 hb with hb|hb
 ·exact h.1.blk_lt b hb
 obtain⟨y,hy,hb⟩:=List.mem_flatMap.1 hb;exact(h.2.1 y hy).1.blk_lt b hb
theorem DvcsAt.frame{L:List EB}(h:DvcsAt w base v L){row:Option Nat}(hg:w.grownBy w' row)(hne:∀b∈fpD v L,some b≠row):DvcsAt w' base v L:=by
 obtain⟨h1,h2,h3,h4⟩:=h;refine⟨h1.frame hg fun b hb=>hne b (List.mem_append_left _ hb),fun y hy=>⟨(h2 y hy).1.frame hg fun b hb=>hne b (List.mem_append_right _ (List.mem_flatMap.2 ⟨y,hy,hb⟩)),(h2 y hy).2⟩,h3,h4⟩
theorem DvcsAt.fp_lt{L:List EB}(h:DvcsAt w base v L):∀b∈fpD v L,base≤b∧b<w.heap.size:=by
 intro b hb;rcases List.mem_append.1 hb with hb|hb
 ·exact h.1.blk_lt b hb
 obtain⟨y,hy,hb⟩:=List.mem_flatMap.1 hb;exact(h.2.1 y hy).1.fp_lt b hb
theorem NodsAt.below{ys:List (Nod×Value)}(h:NodsAt w base v ys)(hb:Below w.heap.size w w'):NodsAt w' base v ys:=h.frame (Lt hb none) (by simp)
theorem DvcsAt.below{L:List EB}(h:DvcsAt w base v L)(hb:Below w.heap.size w w'):DvcsAt w' base v L:=h.frame (Lt hb none) (by simp)
theorem DvcsAt.set_{L:List EB}(h:DvcsAt w base v L){p:Addr}(hp:p.block∉fpD v L)(u:Value):DvcsAt (w.setCell p u) base v L:=
 h.frame (row:=some p.block) ⟨rfl,rfl,rfl,by simp[World.setCell],fun k _ hne=>Below.heap_setCell w p u k (fun e=>hne (by rw[e]))⟩ (fun b hb e=>hp (by injection e with e;rwa [←e]))
theorem NodsAt.set_{L:List (Nod×Value)}(h:NodsAt w base v L){p:Addr}(hp:p.block∉fpN v L)(u:Value):NodsAt (w.setCell p u) base v L:=
 h.frame (row:=some p.block) ⟨rfl,rfl,rfl,by simp[World.setCell],fun k _ hne=>Below.heap_setCell w p u k (fun e=>hne (by rw[e]))⟩ (fun b hb e=>hp (by injection e with e;rwa [←e]))
theorem DvcsAt.nil_(w:World)(base:Nat):DvcsAt w base (.slice none 0 0) []:=⟨OwnL.nil_ _ _ _,by simp,by simp[fpD,blk,Value.ownBlock],by simp⟩
theorem NodsAt.nil_(w:World)(base:Nat):NodsAt w base (.slice none 0 0) []:=⟨OwnL.nil_ _ _ _,by simp,by simp[fpN,blk,Value.ownBlock]⟩
end
end Go.Proofs.YtobclmbkdhbnpaaGreatDoor.Old
namespace Go.Proofs.YtobclmbkdhbnpaaGreatDoor.Old
open Go.RowKit
theorem Xd{w:World}{b o:Nat}{x:Nod×Value}(h:∀j,j<8→w.cell? ⟨b,o+j,none⟩=some (nodCell x j)):
    w.cell? ⟨b,o,none⟩=some (.int .i64 x.1.ino)∧w.cell? ⟨b,o+1,none⟩=some (.int .i64 x.1.kind)∧w.cell? ⟨b,o+2,none⟩=some (.int .i64 x.1.mode)∧w.cell? ⟨b,o+3,none⟩=some (.int .i64 x.1.uid)∧
    w.cell? ⟨b,o+4,none⟩=some (.int .i64 x.1.gid)∧w.cell? ⟨b,o+5,none⟩=some (.int .i64 x.1.parent)∧w.cell? ⟨b,o+6,none⟩=some (.string x.1.target)∧w.cell? ⟨b,o+7,none⟩=some x.2:=
 ⟨h 0 (by omega),h 1 (by omega),h 2 (by omega),h 3 (by omega),h 4 (by omega),h 5 (by omega),h 6 (by omega),h 7 (by omega)⟩
theorem Xe(y:B1)(j:Nat):(entCell y j).oneCell'=true:=by
 unfold entCell;split<;>rfl
end Go.Proofs.YtobclmbkdhbnpaaGreatDoor.Old
namespace Go.Proofs.YtobclmbkdhbnpaaGreatDoor.Old
open Go.RowKit
def Jz(w:World)(v:Value)(L:List EB)(dvv:Value)(S:Nat)(next:Int)(ns:List Nod)(k:Nat)(nvv:Value)(ys:List (Nod×Value))(wr:World):Prop:=
 ys.map (·.1)=ns.take k∧wr.heap[S]?=some (.cells #[.int .i64 next,nvv] 83 (0,0))∧NodsAt wr w.heap.size nvv ys∧DvcsAt wr w.heap.size dvv L∧(∀b∈fpN nvv ys,b∉fpD dvv L∧b≠S)∧
 wr.heap[w.heap.size]?=some (.cells #[v] 27 (0,0))∧wr.heap[w.heap.size+1]?=some (.cells #[.slice none 0 0] 27 (0,0))∧wr.heap[w.heap.size+1+1]?=some (.cells #[dvv] 27 (0,0))∧
 Below w.heap.size w wr
theorem K0{w:World}{b:Nat}{o:Obj}(h:w.heap[b]?=some o):b<w.heap.size:=by
 rcases Nat.lt_or_ge b w.heap.size with hlt|hge
 ·exact hlt
 rw[Array.getElem?_eq_none hge]at h;cases h
theorem Nn{l r:List Nat}(h1:l.Nodup)(h2:r.Nodup)(h:∀b∈l,b∉r):(l++r).Nodup:=List.nodup_append.2 ⟨h1,h2,fun a ha _ hb e=>h a ha (e ▸ hb)⟩
theorem Pp(v:Value):(blk v).Nodup:=by
 unfold blk;cases v.ownBlock<;>simp
theorem T0(v:Value)(ys:List (Nod×Value))(y:Nod×Value):fpN v (ys++[y])=blk v++(ys.flatMap (fun y=>blk y.2)++blk y.2):=by simp[fpN]
theorem Xf{n:Nat}(h:n≤few):n≤1000000:=by unfold few at h;omega
theorem Xg{w:World}{v:Value}{L:List EB}{dvv:Value}{S:Nat}{next:Int}{ns:List Nod}{k:Nat}{nvv:Value}{ys:List (Nod×Value)}{wr W4 W5:World}{n:Nod}{ev nvv':Value}
    (h:Jz w v L dvv S next ns k nvv ys wr) (hS:S∉fpD dvv L) (hSB:w.heap.size+1+1<S) (hn:ns[k]?=some n) (hfew:n.entries.length≤few) (h4:Below wr.heap.size wr W4) (hev:OwnL 2 entCell 88 W4 (wr.heap.size+1) ev n.entries)
    (h5:W4.grownBy W5 nvv.ownBlock) (hown:OwnL 8 nodCell 65 W5 w.heap.size nvv' (ys++[(n,ev)])) (hat:nvv'.ownBlock=nvv.ownBlock∨nvv'.ownBlock=some W4.heap.size):
    Jz w v L dvv S next ns (k+1) nvv' (ys++[(n,ev)]) (W5.setCell ⟨S,1,none⟩ nvv'):=by
 obtain⟨e1,e2,e3,e4,e5,e6,e7,e8,e9⟩:=h;have z:=e9.size;have z4:=h4.size;have hSl:=K0 e2;have n4:=e3.below h4;have d4:=e4.below h4;have hold:∀b∈fpN nvv ys,w.heap.size≤b∧b<wr.heap.size:=e3.fp_lt;have hbn:∀b∈blk nvv,b<wr.heap.size:=fun b hb=>(hold b (List.mem_append_left _ hb)).2;have hnd:=e3.2.2;have hnd':=List.nodup_append.1 hnd;have row:∀b,b∉blk nvv→some b≠nvv.ownBlock:=fun b hb e=>hb (mem_blk.2 e.symm);have hevb:∀b∈blk ev,wr.heap.size+1≤b∧b<W4.heap.size:=hev.blk_lt
 have hnew:∀b∈blk nvv',b∈blk nvv∨b=W4.heap.size:=by
  intro b hb;rw[mem_blk]at hb;rcases hat with e|e
  ·left;rw[mem_blk,←e];exact hb
  right;rw[e]at hb;exact(Option.some.inj hb).symm
 have hent5:∀y∈ys,OwnL 2 entCell 88 W5 w.heap.size y.2 y.1.entries∧y.1.entries.length≤few:=fun y hy=>
  ⟨(n4.2.1 y hy).1.frame h5 fun b hb=>row b fun hb'=>hnd'.2.2 b hb' b (List.mem_flatMap.2 ⟨y,hy,hb⟩) rfl,(n4.2.1 y hy).2⟩
 have hev5:OwnL 2 entCell 88 W5 w.heap.size ev n.entries:=(hev.frame h5 fun b hb=>row b fun hb'=>by have:=hbn b hb';have:=(hevb b hb).1;omega).mono (by omega)
 have hfp:∀b∈fpN nvv' (ys++[(n,ev)]),b∈fpN nvv ys∨wr.heap.size≤b:=by
  intro b hb;rw[T0]at hb;rcases List.mem_append.1 hb with hb|hb
  ·rcases hnew b hb with hb|hb
   ·exact .inl (List.mem_append_left _ hb)
   right;omega
  rcases List.mem_append.1 hb with hb|hb
  ·exact .inl (List.mem_append_right _ hb)
  right;have:=(hevb b hb).1;omega
 have n5:NodsAt W5 w.heap.size nvv' (ys++[(n,ev)]):=by
  refine⟨hown,?_,?_⟩
  ·intro y hy;rcases List.mem_append.1 hy with hy|hy
   ·exact hent5 y hy
   obtain rfl:y=(n,ev):=by simpa using hy
   exact⟨hev5,hfew⟩
  rw[T0];refine Nn (Pp _) (Nn hnd'.2.1 (Pp _) ?_) ?_
  ·intro b hb hb';have:=(hold b (List.mem_append_right _ hb)).2;have:=(hevb b hb').1;omega
  intro b hb hb';rcases hnew b hb with hb1|hb1
  ·rcases List.mem_append.1 hb' with hb'|hb'
   ·exact hnd'.2.2 b hb1 b hb' rfl
   have:=hbn b hb1;have:=(hevb b hb').1;omega
  rcases List.mem_append.1 hb' with hb'|hb'
  ·have:=(hold b (List.mem_append_right _ hb')).2;omega
  have:=(hevb b hb').2;omega
 have d5:DvcsAt W5 w.heap.size dvv L:=d4.frame h5 fun b hb=>row b fun hb'=>(e5 b (List.mem_append_left _ hb')).1 hb;have o4:OwnL 8 nodCell 65 W4 w.heap.size nvv ys:=n4.1
 have box:∀(b:Nat) (cs:Array Value),wr.heap[b]?=some (.cells cs 27 (0,0))→b≠S→(W5.setCell ⟨S,1,none⟩ nvv').heap[b]?=some (.cells cs 27 (0,0)):=fun b cs hb hbS=>by
  have hb4:=Ba hb h4 (K0 hb);exact Jw (Lv hb4 h5 (row b (o4.not_mem hb4 (by decide)))) hbS _
 have hfpS:S∉fpN nvv' (ys++[(n,ev)]):=fun hb=>by
  rcases hfp S hb with hb|hb
  ·exact(e5 S hb).2 rfl
  omega
 refine⟨?_,?_,n5.set_ hfpS _,d5.set_ hS _,?_,box _ _ e6 (by omega),box _ _ e7 (by omega),box _ _ e8 (by omega),?_⟩
 ·rw[List.map_append,e1,List.take_add_one,hn];rfl
 ·have hS4:=Ba e2 h4 hSl;exact Kh (Lv hS4 h5 (row S fun hb=>(e5 S (List.mem_append_left _ hb)).2 rfl)) 1 _
 ·intro b hb;rcases hfp b hb with hb|hb
  ·exact e5 b hb
  refine⟨fun hd=>?_,by omega⟩;have:=(e4.fp_lt b hd).2;omega
 exact((e9.trans (h4.mono e9.size)).grown h5 (by omega) fun b hb=>(hold b (List.mem_append_left _ (mem_blk.2 hb))).1).setCell (by show w.heap.size≤S;omega) _
def Pq(w:World)(v:Value)(f:AT)(m:Nat)(dvv:Value)(L:List EB)(wr:World):Prop:=
 flsOf L=f.take m∧DvcsAt wr w.heap.size dvv L∧
 wr.heap[w.heap.size]?=some (.cells #[v] 27 (0,0))∧wr.heap[w.heap.size+1]?=some (.cells #[.slice none 0 0] 27 (0,0))∧wr.heap[w.heap.size+1+1]?=some (.cells #[dvv] 27 (0,0))∧
 Below w.heap.size w wr
theorem Xh(v:Value)(L:List EB)(x:EB):fpD v (L++[x])=blk v++(L.flatMap (fun x=>fpN x.2.1 x.2.2)++fpN x.2.1 x.2.2):=by simp[fpD]
theorem Xi{w:World}{v:Value}{f:AT}{m:Nat}{dvv:Value}{L:List EB}{wr:World}(h:Pq w v f m dvv L wr)(next:Int)(ns:List Nod):
    Jz w v L dvv wr.heap.size next ns 0 (.slice none 0 0) [] (wr.alloc (.cells #[.int .i64 next, .slice none 0 0] 83))∧wr.heap.size∉fpD dvv L∧w.heap.size+1+1<wr.heap.size:=by
 obtain⟨e1,e4,e6,e7,e8,e9⟩:=h;refine⟨⟨by simp,heap_alloc_new _ _,NodsAt.nil_ _ _,e4.below (FM _ _),by simp[fpN,blk,Value.ownBlock],Cj e6 _,Cj e7 _,Cj e8 _,e9.alloc e9.size _⟩,fun hb=>?_,K0 e8⟩;have:=(e4.fp_lt _ hb).2;omega
theorem Xj{w:World}{v:Value}{f:AT}{m:Nat}{dvv:Value}{L:List EB}{S:Nat}{next:Int}{ns:List Nod}{nvv:Value}{ys:List (Nod×Value)}{wr W2:World}{o:Obj}{dvv':Value}{d:Dvc}
    (h:Jz w v L dvv S next ns ns.length nvv ys wr) (hf:f[m]?=some d) (hL:flsOf L=f.take m) (hnx:d.next=next) (hns:d.nodes=ns) (hfew:ns.length≤few) (hfl:f.length≤few)
    (h5:(wr.alloc o).grownBy W2 dvv.ownBlock) (hown:OwnL 2 Jy 83 W2 w.heap.size dvv' (L++[(next,nvv,ys)])) (hat:dvv'.ownBlock=dvv.ownBlock∨dvv'.ownBlock=some (wr.heap.size+1)):
    Pq w v f (m+1) dvv' (L++[(next,nvv,ys)]) (W2.setCell ⟨w.heap.size+1+1,0,none⟩ dvv'):=by
 obtain⟨e1,e2,e3,e4,e5,e6,e7,e8,e9⟩:=h;have hml:=(Ai.1 hf).1;have z:=e9.size;have h4:=FM wr o;have n4:=e3.below h4;have d4:=e4.below h4
 have hyl:ys.length=ns.length:=by
  have:=congrArg List.length e1
  simpa using this
 have hnd':=List.nodup_append.1 e4.2.2.1;have row:∀b,b∉blk dvv→some b≠dvv.ownBlock:=fun b hb e=>hb (mem_blk.2 e.symm)
 have hnew:∀b∈blk dvv',b∈blk dvv∨b=wr.heap.size+1:=by
  intro b hb;rw[mem_blk]at hb;rcases hat with e|e
  ·left;rw[mem_blk,←e];exact hb
  right;rw[e]at hb;exact(Option.some.inj hb).symm
 have n5:NodsAt W2 w.heap.size nvv ys:=n4.frame h5 fun b hb=>row b fun hb'=>(e5 b hb).1 (List.mem_append_left _ hb')
 have l5:∀x∈L,NodsAt W2 w.heap.size x.2.1 x.2.2∧x.2.2.length≤few:=fun x hx=>
  ⟨(d4.2.1 x hx).1.frame h5 fun b hb=>row b fun hb'=>hnd'.2.2 b hb' b (List.mem_flatMap.2 ⟨x,hx,hb⟩) rfl,(d4.2.1 x hx).2⟩
 have d5:DvcsAt W2 w.heap.size dvv' (L++[(next,nvv,ys)]):=by
  refine⟨hown,?_,?_,?_⟩
  ·intro x hx;rcases List.mem_append.1 hx with hx|hx
   ·exact l5 x hx
   obtain rfl:x=(next,nvv,ys):=by simpa using hx
   exact⟨n5,by show ys.length≤few;omega⟩
  ·rw[Xh];refine Nn (Pp _) (Nn hnd'.2.1 e3.2.2 ?_) ?_
   ·exact fun b hb hb'=>(e5 b hb').1 (List.mem_append_right _ hb)
   intro b hb hb';rcases hnew b hb with hb1|hb1
   ·rcases List.mem_append.1 hb' with hb'|hb'
    ·exact hnd'.2.2 b hb1 b hb' rfl
    exact(e5 b hb').1 (List.mem_append_left _ hb1)
   rcases List.mem_append.1 hb' with hb'|hb'
   ·have:=(e4.fp_lt b (List.mem_append_right _ hb')).2;omega
   have:=(e3.fp_lt b hb').2;omega
  have hll:L.length=m:=by
   have:=congrArg List.length hL;simp[flsOf]at this;omega
  rw[List.length_append,hll];show m+1≤few;omega
 have o4:OwnL 2 Jy 83 (wr.alloc o) w.heap.size dvv L:=d4.1
 have box2:∀(b:Nat) (cs:Array Value),wr.heap[b]?=some (.cells cs 27 (0,0))→W2.heap[b]?=some (.cells cs 27 (0,0)):=fun b cs hb=>
  Lv (Cj hb o) h5 (row b (o4.not_mem (Cj hb o) (by decide)))
 have hne:w.heap.size+1+1∉fpD dvv' (L++[(next,nvv,ys)]):=by
  intro hb;have hb8:=box2 _ _ e8;rcases List.mem_append.1 hb with hb|hb
  ·exact d5.1.not_mem hb8 (by decide) hb
  obtain⟨x,hx,hb⟩:=List.mem_flatMap.1 hb;have hx5:=(d5.2.1 x hx).1;rcases List.mem_append.1 hb with hb|hb
  ·exact hx5.1.not_mem hb8 (by decide) hb
  obtain⟨y,hy,hb⟩:=List.mem_flatMap.1 hb;exact(hx5.2.1 y hy).1.not_mem hb8 (by decide) hb
 refine⟨?_,d5.set_ hne _,Jw (box2 _ _ e6) (by show _≠w.heap.size+1+1;omega) _,Jw (box2 _ _ e7) (by show _≠w.heap.size+1+1;omega) _,Kh (box2 _ _ e8) 0 _,?_⟩
 ·have hd:dvcOf (next,nvv,ys)=d:=by
     unfold dvcOf;rw[e1,List.take_length,←hnx,←hns]
  unfold flsOf at hL ⊢;rw[List.map_append,hL,List.take_add_one,hf];simp[hd]
 exact((e9.trans (h4.mono e9.size)).grown h5 (by rw[World.size_alloc];omega) fun b hb=>(e4.fp_lt b (List.mem_append_left _ (mem_blk.2 hb))).1).setCell (by show w.heap.size≤w.heap.size+1+1;omega) _
end Go.Proofs.YtobclmbkdhbnpaaGreatDoor.Old
namespace Go.Proofs.YtobclmbkdhbnpaaGreatDoor.Old
open Go.RowKit
theorem Xk{y:Nod×Value}(h:y.2.oneCell'=true)(j:Nat):(nodCell y j).oneCell'=true:=by
 unfold nodCell;split<;>first|rfl|exact h
theorem Xl(n:Nod)(e:Value):∀j,j<8→(#[.int .i64 n.ino, .int .i64 n.kind, .int .i64 n.mode, .int .i64 n.uid, .int .i64 n.gid, .int .i64 n.parent, .string n.target,e]:Array Value)[j]?=some (nodCell (n,e) j):=by
 intro j hj
 match j,hj with
 |0,_=>rfl
 |1,_=>rfl
 |2,_=>rfl
 |3,_=>rfl
 |4,_=>rfl
 |5,_=>rfl
 |6,_=>rfl
 |7,_=>rfl
theorem Xm{w:World}{v:Value}{L:List EB}{dvv:Value}{S:Nat}{next:Int}{ns:List Nod}{k:Nat}{nvv:Value}{ys:List (Nod×Value)}{wr W4 W5:World}(h:Jz w v L dvv S next ns k nvv ys wr)(h4:Below wr.heap.size wr W4)
    (h5:W4.grownBy W5 nvv.ownBlock):W5.heap[S]?=some (.cells #[.int .i64 next,nvv] 83 (0,0)):=
 Lv (Ba h.2.1 h4 (K0 h.2.1)) h5 (fun e=>(h.2.2.2.2.1 S (List.mem_append_left _ (mem_blk.2 e.symm))).2 rfl)
theorem T1{α:Type}{sz:Nat}{cell:α→Nat→Value}{E:TypeId}{w:World}{base:Nat}{v:Value}{xs:List α}(h:OwnL sz cell E w base v xs){n:Nat}(hn:xs.length=n):∃A c,v= .slice A n c:=by
 subst hn;exact h.form
theorem T2{w:World}{base:Nat}{v:Value}{L:List EB}(h:DvcsAt w base v L){b:Nat}{cs:Array Value}(hb:w.heap[b]?=some (.cells cs 27 (0,0))):b∉fpD v L:=by
 intro hm;rcases List.mem_append.1 hm with hm|hm
 ·exact h.1.not_mem hb (by decide) hm
 obtain⟨x,hx,hm⟩:=List.mem_flatMap.1 hm;have hx5:=(h.2.1 x hx).1;rcases List.mem_append.1 hm with hm|hm
 ·exact hx5.1.not_mem hb (by decide) hm
 obtain⟨y,hy,hm⟩:=List.mem_flatMap.1 hm;exact(hx5.2.1 y hy).1.not_mem hb (by decide) hm
theorem Xn{w:World}{v:Value}{L:List EB}{dvv:Value}{S:Nat}{next:Int}{ns:List Nod}{k:Nat}{nvv:Value}{ys:List (Nod×Value)}{wr W5:World}{o:Obj}(h:Jz w v L dvv S next ns k nvv ys wr)
    (h5:(wr.alloc o).grownBy W5 dvv.ownBlock):W5.heap[w.heap.size+1+1]?=some (.cells #[dvv] 27 (0,0)):=
 Lv (Cj h.2.2.2.2.2.2.2.1 o) h5 (fun e=>T2 h.2.2.2.1 h.2.2.2.2.2.2.2.1 (List.mem_append_left _ (mem_blk.2 e.symm)))
theorem Xo(nx:Int)(v:Value)(ys:List (Nod×Value)):∀j,j<2→(#[.int .i64 nx,v]:Array Value)[j]?=some (Jy (nx,v,ys) j):=by
 intro j hj
 match j,hj with
 |0,_=>rfl
 |1,_=>rfl
theorem Xp(nx:Int)(A:Option Addr)(n c:Nat)(ys:List (Nod×Value))(j:Nat):(Jy (nx, .slice A n c,ys) j).oneCell'=true:=by
 unfold Jy;split<;>rfl
set_option maxRecDepth 100000 in
set_option maxHeartbeats 2000000 in
theorem Copy_any(v:Value)(f:AT)(w:World)(hf:FlsR w (Old w) v f):
    Calls prog 34 #[v] w fun e w'=>∃dv L,e= .returned (.agg #[dv])∧DvcsAt w' w.heap.size dv L∧flsOf L=f∧Below w.heap.size w w':=by
 obtain⟨d,rfl,xs,hxf,⟨A,c,rfl,hc,hl,hr⟩,hn⟩:=hf;have hfl:f.length=xs.length:=(XT hxf).symm;have hlf:=hl;unfold few at hl
 go_enter Tryz.func34,Tryz.ntmps34
 go_wp2_with fail
 have HX:=Lib.hid hxf;have HFL:=Lib.hid hfl;have HN:=Lib.hid hn;clear hxf hfl hn
 go_loopw [4] (fun i wr=>∃(m:Nat) (dvv:Value) (L:List EB),m≤xs.length∧i= .int .i64 m∧Pq w (.slice A xs.length c) f m dvv L wr) (fun i _=>xs.length - (intOf i).toNat)
 case atStart=>
  refine⟨0, .slice none 0 0,[],by omega,rfl,by simp[flsOf],DvcsAt.nil_ _ _,Ly _ _ _ _,Lz _ _ _ _,M0 _ _ _ _,Lx _ _ _ _⟩
 case round=>
  obtain⟨m,dvv,L,hm,rfl,hout⟩:=hrel;have hbw:Below w.heap.size w wr:=hout.2.2.2.2.2;have c0:wr.cell? ⟨w.heap.size,0,none⟩=some (.slice A xs.length c):=by rw[JM hout.2.2.1];rfl
  by_cases hlt:m<xs.length
  ·have hx:xs[m]?=some xs[m]:=BM hlt;obtain⟨b,off,rfl,hb,hcell⟩:=(hr.keep (Nm hbw)) (by omega);have h0:=hcell m _ 0 hx (by omega);have h1:=hcell m _ 1 hx (by omega);obtain⟨ys0,hy0,⟨A1,c1,hv1,hc1,hl1,hr1⟩,hn1⟩:=HN.out _ (Aj hx);simp only[dvcCell,hv1,Nat.add_zero]at h0 h1;have hdm:f[m]?=some xs[m].1:=by rw[←HX.out];simp[hlt]
   have HD:=Lib.hid hdm;have HY:=Lib.hid hy0;have HV:=Lib.hid hv1;have HX':=Lib.hid hx;have HN1:=Lib.hid hn1;have hl1f:=hl1;unfold few at hl1;unfold Old at hb;obtain⟨hin,hSn,hSB⟩:=Xi hout xs[m].1.next (ys0.map (·.1));have HS:=Lib.hid hSn;have HIN:=Lib.hid hin;have HOUT:=Lib.hid hout;clear hcell hdm hy0 hv1 hx hn1 hSn hin hout;generalize hnx:xs[m].1.next=nx at *;have HNX:=Lib.hid hnx;clear hnx
   go_wp2_with fail
   obtain⟨wo,hwo⟩:∃wo:World,wo=wr:=⟨_,rfl⟩;subst hwo
   go_loopw [6] (fun i wr=>∃(k:Nat) (nvv:Value) (ys:List (Nod×Value)),k≤ys0.length∧i= .int .i64 k∧Jz w (.slice (some ⟨b,off,none⟩) xs.length c) L dvv wo.heap.size nx (ys0.map (·.1)) k nvv ys wr) (fun i _=>ys0.length - (intOf i).toNat)
   case atStart=>exact⟨0,_,_,by omega,rfl,HIN.out⟩
   case round=>
    obtain⟨k,nvv,ys,hk,rfl,hin⟩:=hrel;have hb2:Below w.heap.size w wr:=hin.2.2.2.2.2.2.2.2;have c0':wr.cell? ⟨w.heap.size,0,none⟩=some (.slice (some ⟨b,off,none⟩) xs.length c):=by rw[JM hin.2.2.2.2.2.1];rfl
    have hcell':=hr.keep (Nm hb2);obtain⟨b',off',hbo,_,hcell'⟩:=hcell' (by omega);simp only[Option.some.injEq,Addr.mk.injEq,and_true]at hbo;obtain⟨rfl,rfl⟩:=hbo;have h1':=hcell' m _ 1 HX'.out (by omega);simp only[dvcCell,HV.out]at h1';clear hcell' h0 h1 c0;by_cases hkl:k<ys0.length
    ·have hy:ys0[k]?=some ys0[k]:=BM hkl;obtain⟨b1,off1,rfl,hb1,hcell1⟩:=(hr1.keep (Nm hb2)) (by omega);obtain⟨n0,n1,n2,n3,n4,n5,n6,n7⟩:=Xd (fun j hj=>hcell1 k _ j hy hj);have hev:=HN1.out _ (Aj hy);have hnk:(ys0.map (·.1))[k]?=some ys0[k].1:=by simp[hkl]
     have HNK:=Lib.hid hnk;generalize ys0[k]=y at *;obtain⟨n,ev⟩:=y;simp only at hev n0 n1 n2 n3 n4 n5 n6 n7;have hlen:=hev;obtain⟨Ae,ce,rfl,hce,hle,hre⟩:=hev;have HE:=Lib.hid hlen;have HIN2:=Lib.hid hin;have HB2:=Lib.hid hb2;have hS1:wo.heap.size<wr.heap.size:=K0 hin.2.1;have hSc:wr.cell? ⟨wo.heap.size,1,none⟩=some nvv:=by rw[JM hin.2.1];rfl
     obtain⟨An,cn,hnv⟩:=hin.2.2.1.1.form;subst hnv;have hbs:=hb2.size;clear hcell1 hnk hy hlen hre hin hb2
     go_wp2_with (first
      |(at_builtin;refine XZ (cell:=entCell) (D:=Old w) rfl (.const (.slice none 0 0)) (.tmp 43) _ rfl Xa (by omega) (by omega) (.slice Ae n.entries.length ce) n.entries rfl rfl (HE.out.keep (Nm (HB2.out.alloc (by omega) _))) (fun y _ j _=>Xe y j) ?_;intro A2 c2 w2 hown hb2;obtain⟨hbw2,hz2,k2⟩:=XU hb2;obtain⟨k2c,k2f⟩:=C0 k2;have hSc2:=(hbw2.cell (p:=⟨wo.heap.size,1,none⟩) hS1).trans hSc;clear hb2)
      |(at_builtin;refine Po (cell:=nodCell) (xs:=ys) (ys:=[(n, .slice A2 n.entries.length c2)]) (base:=w.heap.size) (D:=fun _=>True) (v:= .slice An ys.length cn) (sv:= .slice (some ⟨w2.heap.size,0,none⟩) 1 1) rfl (.tmp 47) (.tmp 49) _ rfl Xb (by omega) (by omega) rfl rfl (HIN2.out.2.2.1.1.below ((hbw2.setCell (p:=⟨wr.heap.size,7,none⟩) (Av _) _).alloc (by simp[World.setCell];omega) _)) (Sz (by simp[World.setCell]) (Xl n _) trivial) (fun y hy j _=>by obtain rfl:=List.mem_singleton.1 hy;exact Xk rfl j) (by have:=congrArg List.length HIN2.out.1;simp at this;omega) (by simp[World.setCell];omega) ?_;intro v5 w5 hown5 hg5 hat5;obtain⟨A5,c5,rfl⟩:=T1 hown5 (n:=ys.length+1) (by simp);obtain⟨k5c,k5f⟩:=C0 (Xm HIN2.out (by exact(hbw2.setCell (p:=⟨wr.heap.size,7,none⟩) (Av _) _).alloc (by simp[World.setCell];omega) _) hg5);clear k2c k2f hSc hSc2))
     go_roundw
     case rel=>exact⟨k+1,_,_,by omega,by go_num,Xg HIN2.out HS.out hSB HNK.out hle (by exact(hbw2.setCell (p:=⟨wr.heap.size,7,none⟩) (Av _) _).alloc (by simp[World.setCell];omega) _) (by exact((hown.setb (p:=⟨wr.heap.size,7,none⟩) (by show wr.heap.size<(wr.alloc _).heap.size;simp) _).alloc _).mono (by simp)) hg5 hown5 (by simpa[World.setCell]using hat5)⟩
     case measure=>simp[intOf];omega
    have hke:k=ys0.length:=by omega
    have HK:=Lib.hid hke;have HIN2:=Lib.hid hin;have HB2:=Lib.hid hb2;obtain⟨hSc,hSf⟩:=C0 hin.2.1;have hS1:wo.heap.size<wr.heap.size:=K0 hin.2.1;have hoc:wr.cell? ⟨w.heap.size+1+1,0,none⟩=some dvv:=by rw[JM hin.2.2.2.2.2.2.2.1];rfl
    obtain⟨An,cn,hnv⟩:=hin.2.2.1.1.form;subst hnv;obtain⟨Ad,cd,hdv⟩:=hin.2.2.2.1.1.form;subst hdv;have hbs:=hb2.size;have hml:L.length≤1000000:=Xf hin.2.2.2.1.2.2.2;have hz3:w.heap.size+1+1<wr.heap.size:=K0 hin.2.2.2.2.2.2.2.1;clear hke hin hb2
    go_wp2_with (at_builtin;refine Po (cell:=Jy) (xs:=L) (ys:=[(nx, .slice An ys.length cn,ys)]) (base:=w.heap.size) (D:=fun _=>True) (v:= .slice Ad L.length cd) (sv:= .slice (some ⟨wr.heap.size,0,none⟩) 1 1) rfl (.tmp 53) (.tmp 55) _ rfl Xc (by omega) (by omega) rfl rfl (HIN2.out.2.2.2.1.1.below (FM _ _)) (Sz rfl (Xo _ _ _) trivial) (fun y hy j _=>by obtain rfl:=List.mem_singleton.1 hy;exact Xp _ _ _ _ _ j) hml (by simp;omega) ?_;intro v5 w5 hown5 hg5 hat5;obtain⟨A5,c5,rfl⟩:=T1 hown5 (n:=L.length+1) (by simp);obtain⟨k5c,k5f⟩:=C0 (Xn HIN2.out hg5);clear hSc hSf hoc)
    go_roundw
    case rel=>exact⟨m+1,_,_,by omega,by go_num,Xj (ns:=ys0.map (·.1)) (S:=wo.heap.size) (by have h:=HIN2.out;rw[HK.out]at h;simpa using h) HD.out HOUT.out.1 HNX.out (by simpa using HY.out.symm) (by simpa using hl1f) (by rw[HFL.out];exact hlf) hg5 hown5 (by simpa using hat5)⟩
    case measure=>simp[intOf];omega
  have hme:m=xs.length:=by omega
  have HF:Hid (flsOf L=f):=by
   have h:=hout.1;rw[hme,←HFL.out,List.take_length]at h;exact h
  have hrc1:wr.cell? ⟨w.heap.size+1+1,0,none⟩=some dvv:=by rw[JM hout.2.2.2.2.1];rfl
  obtain⟨hrc,hrf⟩:=C0 hout.2.2.2.1;obtain⟨Ad,cd,hdv⟩:=hout.2.1.1.form;subst hdv;have HOUT:=Lib.hid hout;clear hout hme
  go_wp2_with fail
  refine bodyPost_ret (v:= .agg #[.slice Ad L.length cd]) (by simp[results,Tryz.results34,go_sem,hrc]) rfl ?_;refine⟨_,L,rfl,HOUT.out.2.1.set_ ?_ _,HF.out,hbw.setCell (by show w.heap.size≤w.heap.size+1;omega) _⟩;exact T2 HOUT.out.2.1 HOUT.out.2.2.2.1
end Go.Proofs.YtobclmbkdhbnpaaGreatDoor.Old
