/-
  Part 6 of the proof of RulesExecutedP: what the statement's proof uses of the texts in wip/tpl.
-/
import Derived.Laws.StructEq
import Derived.Test.YtbgnigjfkbmceaaGreatDoorProg
import Derived.WalkKit
import Derived.WalkSpells
import Derived.WalkLawsBesides
import Derived.Deep.QuietTactic
import Derived.BigQuiet
import Derived.Lib.Hide
import Derived.Outline
import Derived.Maps.AppendAt
import Derived.OwnWalk
import Derived.Test.YtbgnigjfkbmceaaGreatDoorQc5
open Go.Proofs.Tryz (prog)
set_option maxRecDepth 10000
set_option maxHeartbeats 4000000
set_option linter.unusedVariables false
set_option linter.unusedSimpArgs false
namespace Go.Proofs.YtbgnigjfkbmceaaGreatDoor
open Go.RowKit
def GA(t:Tst):Nat→Bool
 |0=>false
 |k+1=>GA t k||decide (Bg t ((k:Int)+1)=0)
def GB(t:Tst):Bool:=GA t 5
theorem Lo(t:Tst):∀k,GA t k=true↔∃j:Nat,j<k∧Bg t ((j:Int)+1)=0
 |0=>by simp[GA]
 |k+1=>by
   simp only[GA,Bool.or_eq_true,Lo t k,decide_eq_true_eq];constructor
   ·rintro(⟨j,h1,h2⟩|h)
    ·exact⟨j,by omega,h2⟩
    exact⟨k,by omega,h⟩
   rintro⟨j,h1,h2⟩;rcases Nat.lt_or_ge j k with h|h
   ·exact .inl ⟨j,h,h2⟩
   have:j=k:=by omega
   subst this;exact .inr h2
theorem SY{t:Tst}{k:Nat}(hk:k≤5)(h:GA t k=true):GB t=true:=by
 obtain⟨j,h1,h2⟩:=(Lo t k).1 h;exact(Lo t 5).2 ⟨j,by omega,h2⟩
theorem SZ{t:Tst}{k:Nat}(hk:k≤5)(h5:5≤k)(h:GA t k=false):GB t=false:=by
 obtain rfl:k=5:=by omega
 exact h
theorem Sa{list f:Int}(h:Dc list f=true):1≤f∧f≤22:=by
 unfold Dc CL at h
 (repeat' split at h)<;>simp at h<;>omega
theorem Sb{f:Int}(h:Dd f=true):DW f=false:=by
 unfold Dd at h;unfold DW;simp at h ⊢;omega
theorem PP{t:Tst}(h:GB t=true):PK t:=by
 obtain⟨j,_,h2⟩:=(Lo t 5).1 h;generalize (j:Int)+1=list at h2;unfold Bg at h2;split at h2
 ·cases h2
 rename_i h3;split at h2
 ·cases h2
 rename_i h4;simp only[not_or,not_and]at h3 h4;have ha:=Sa (by simpa using h3.1);refine⟨ha.1,ha.2,?_,by omega,by omega⟩;by_cases ho:t.other=0
 ·exact .inl ho
 obtain⟨h5,h6,h7⟩:=h3.2 ho;have hb:=Sa (list:=list) (f:=t.other) (by simpa using h5);exact .inr ⟨hb.1,hb.2,Sb (by simpa using h7)⟩
def Hf(y:Itm):Bool:= !decide (y.file=(0,0))
def K9(t:Tst)(c:Ctx):Bool:=
 if GB t=false then false else if EH t.fld=false∧EH t.other=false then Fn t c Itm.zero else c.items.any fun y=>Hf y&&Fn t c y
def Hg(t:Tst)(c:Ctx):Bool:=
 if GB t=false∨DX t.fld c=false∨t.other≠0∧DX t.other c=false then false else if EH t.fld=false∧EH t.other=false then Gd t c Itm.zero else c.items.any fun y=>Hf y&&Gd t c y
theorem Nd{α:Type}(p:α→Bool)(l:List α)(k:Nat){x:α}(hx:l[k]?=some x):(l.take (k+1)).any p=((l.take k).any p||p x):=by
 obtain⟨hk,e⟩:=At.1 hx;rw[List.take_succ_eq_append_getElem hk,List.any_append,e];simp
theorem Sc{α:Type}{p:α→Bool}{l:List α}{k:Nat}{x:α}(hx:l[k]?=some x)(h:p x=true):l.any p=true:=
 List.any_eq_true.2 ⟨x,Aw hx,h⟩
section
theorem XA(t:Tst):AFn prog 162 [.agg (C3 t)] (fun r=>r= .v (.bool (GB t))):=by
 refine enter Tryz.func162 rfl rfl rfl rfl rfl 0 rfl ?_;refine w_ (b_ (h:=a_ (h:=e_ (q_ (w_ (a_ (h:=e_ (Ag (?_)))))))));refine Be (fun n s=>∃k:Nat,k≤5∧n=5 - k∧GA t k=false∧s=⟨look [(1, .bp 0 0),(3, .v (.int .i64 ((k:Int)+1)))],⟨[C3 t],[]⟩⟩) (5) ((wk 1 0)) (⟨0,by omega,rfl,rfl,rfl⟩) ?_;rintro n s ⟨k,hk,rfl,hs,rfl⟩;refine q_ (w_ (m_ (h:=E6 (h:=e_ (?_)))));refine A8 rfl (fun hb1=>?_) (fun hb1=>?_)
 ·have hc1:=bp hb1;refine AB (q_ (Ag (w_ (l_ (h:=m_ (h:=?_))))));refine A7 rfl (AG (SO _ _) ?_);rintro r rfl;refine AD (h:=e_ (?_));refine A8 rfl (fun hb2=>?_) (fun hb2=>?_)
  ·have hc2:=bp hb2;refine w_ (a_ (h:=e_ (A4 (AK (A6 (A6 (AK (A6 (?_)))))))));refine A9 ?_
   first|(exfalso;first|contradiction|omega)|(exact vb (by rw[SY (k:=k+1) (by omega) (by simp[GA];omega)]))
  have hc2:=bp hb2;refine Au (Ah (t_ (AR (m_ (h:=BD (h:=a_ (h:=AP (?_))))))));refine AE ?_;refine⟨_,_,?_,⟨k+1,by omega,rfl,by simp[GA,hs];omega,rfl⟩,(wk 1 0)⟩;omega
 have hc1:=bp hb1;refine BT (Ao (Ao (BU (t_ (w_ (a_ (h:=e_ (A4 (?_)))))))));refine A9 ?_
 first|(exfalso;first|contradiction|omega)|(exact vb (by rw[SZ hk (by omega) hs]))
end
section
theorem Sd(a b c d:Int)(w:World):(binOp .neq 26 (.agg #[.int .i64 a, .int .i64 b]) (.agg #[.int .i64 c, .int .i64 d])).run prog w= .ok (.bool (!decide ((a,b)=(c,d)))) w:=by
 rw[PN .neq a b c d w (.inr rfl)];simp
theorem XB(t:Tst)(c:Ctx)(k:Cxs)(hn:c.items.length≤1000):AFn prog 113 [.agg (C3 t), .agg (D4 c k)] (fun r=>r= .v (.bool (K9 t c))):=by
 refine enter Tryz.func113 rfl rfl rfl rfl rfl 0 rfl ?_;refine w_ (b_ (h:=b_ (h:=a_ (h:=e_ (w_ (a_ (h:=e_ (q_ (w_ (a_ (h:=e_ (Ag (?_)))))))))))));refine Be (fun n s=>∃j:Nat,j≤5∧n=5 - j∧s=⟨look [(2, .bp 0 0),(3, .bp 1 0),(4, .v (.bool false)),(5, .v (.bool (GA t j))),(6, .v (.int .i64 ((j:Int)+1)))],⟨[C3 t,D4 c k],[]⟩⟩) (5) ((wk 2 0)) (⟨0,by omega,rfl,rfl⟩) ?_;rintro n s ⟨j,hj,rfl,rfl⟩;refine q_ (w_ (m_ (h:=E6 (h:=e_ (?_)))));refine A8 rfl (fun hb1=>?_) (fun hb1=>?_)
 ·have hc1:=bp hb1;refine AB (q_ (Ag (AR (m_ (h:=m_ (h:=?_))))));refine AW false rfl rfl (fun hb2=>?_) (fun hb2=>?_)
  ·have hc2:=bp hb2;refine A3 (h:=A3 (h:=A3 (h:=A3 (h:=AF (h:=a_ (h:=AP (Ah (t_ (AR (m_ (h:=BD (h:=a_ (h:=AP (?_))))))))))))));refine AE ?_;refine⟨_,_,?_,⟨j+1,by omega,rfl,rfl⟩,Av 2 0 rfl rfl rfl rfl (by repeat (first|exact Sub.nil|refine Ax rfl rfl ?_|refine B1 ?_|refine B2 rfl ?_|refine B3 rfl ?_|(apply Sub.of;(focus exact rfl);(focus exact LeA.of_eq (vb (by simp[GA, *])));(focus exact rfl))))⟩;omega
  have hc2:=bp hb2;refine l_ (h:=m_ (h:=?_));refine B4 (AG (SN _ _) ?_);rintro r rfl;refine AD (h:=AM (h:=a_ (h:=AP (Ah (t_ (AR (m_ (h:=BD (h:=a_ (h:=AP (?_)))))))))));refine AE ?_;refine⟨_,_,?_,⟨j+1,by omega,rfl,rfl⟩,Av 2 0 rfl rfl rfl rfl (by repeat (first|exact Sub.nil|refine Ax rfl rfl ?_|refine B1 ?_|refine B2 rfl ?_|refine B3 rfl ?_|(apply Sub.of;(focus exact rfl);(focus exact LeA.of_eq (vb (by simp[GA, *])));(focus exact rfl))))⟩;omega
 have hc1:=bp hb1;refine BT (Ao (Ao (BU (t_ (q_ (w_ (m_ (h:=B9 (h:=e_ (?_))))))))));refine A8 rfl (fun hb3=>?_) (fun hb3=>?_)
 ·have hc3:=bp hb3;have hs:=SZ hj (by omega) hc3;refine w_ (a_ (h:=e_ (A4 (A6 (?_)))));refine A9 ?_
  first|(exfalso;first|contradiction|omega)|(exact vb (by simp[K9,hs]))
 have hc3:=bp hb3;have hs:=SY hj hc3;have ht:=PP hs;refine AB (q_ (?_));refine FZ (⟨look [(2, .bp 0 0),(3, .bp 1 0),(4, .v (.bool false)),(31, .v (.bool (!EH t.fld&& !EH t.other)))],⟨[C3 t,D4 c k],[]⟩⟩) ?_ ?_
 ·skip
  refine AR (f_ (h:=l_ (h:=?_)));refine A7 rfl (AG (SB _) ?_);rintro r rfl;refine B9 (h:=m_ (h:=?_));refine AW true rfl rfl (fun hb4=>?_) (fun hb4=>?_)
  ·have hc4:=bp hb4;refine f_ (h:=l_ (h:=?_));refine B4 (AG (SB _) ?_);rintro r rfl;refine B9 (h:=AF (h:=AP (?_)));refine AE ?_
   first|(exfalso;first|contradiction|omega)|exact Av 2 0 rfl rfl rfl rfl (by repeat (first|exact Sub.nil|refine Ax rfl rfl ?_|refine B1 ?_|refine B2 rfl ?_|refine B3 rfl ?_|(apply Sub.of;(focus exact rfl);(focus exact LeA.of_eq (vb (by simp[*])));(focus exact rfl))))
  have hc4:=bp hb4;refine A3 (h:=A3 (h:=A3 (h:=A3 (h:=AM (h:=AP (?_))))));refine AE ?_
  first|(exfalso;first|contradiction|omega)|exact Av 2 0 rfl rfl rfl rfl (by repeat (first|exact Sub.nil|refine Ax rfl rfl ?_|refine B1 ?_|refine B2 rfl ?_|refine B3 rfl ?_|(apply Sub.of;(focus exact rfl);(focus exact LeA.of_eq (vb (by simp[*])));(focus exact rfl))))
 skip
 refine A8 rfl (fun hb5=>?_) (fun hb5=>?_)
 ·have hc5:=bp hb5;simp at hc5;refine w_ (l_ (h:=l_ (h:=Ak (h:=?_))));refine A7 rfl (AG (SP t c k Itm.zero ht) ?_);rintro r rfl;refine a_ (h:=e_ (A4 (A6 (?_))));refine A9 ?_
  first|(exfalso;first|contradiction|omega)|(exact vb (by simp[K9,hs,hc5]))
 have hc5:=bp hb5;have hi:¬(EH t.fld=false∧EH t.other=false):=by simpa using hc5
 refine AB (q_ (w_ (f_ (h:=l_ (h:=n_ (h:=m_ (h:=e_ (Ag (?_)))))))));refine Be (fun n s=>∃j:Nat,j≤c.items.length∧n=c.items.length - j∧(c.items.take j).any (fun y=>Hf y&&Fn t c y)=false∧s=⟨look [(2, .bp 0 0),(3, .bp 1 0),(37, .sl 13 (c.items.map Ga) none),(38, .v (.int .i64 ((c.items.map Ga).length:Int))),(39, .v (.int .i64 (j:Int)))],⟨[C3 t,D4 c k],[]⟩⟩) (c.items.length) ((wk 2 0)) (⟨0,by omega,rfl,rfl,rfl⟩) ?_;rintro n s ⟨j,hj,rfl,ha,rfl⟩;refine w_ (BB (h:=e_ (q_ (?_))));refine A8 rfl (fun hb6=>?_) (fun hb6=>?_)
 ·have hc6:=bp hb6;obtain⟨hlt,y,hy,hrow, -⟩:=C1 Ga hc6;refine AB (q_ (Ag (w_ (i_ (h:=l_ (h:=Al (h:=s_ (h:=e_ (w_ (f_ (h:=l_ (h:=Ak (h:=?_)))))))))))));refine A7 rfl (Ha rfl rfl (by repeat constructor) (by repeat constructor) (fun w=>Sd _ _ _ _ w) (by kernel_rfl) ?_);refine m_ (h:=?_);refine AW true rfl rfl (fun hb7=>?_) (fun hb7=>?_)
  ·have hc7:=bp hb7;refine l_ (h:=l_ (h:=l_ (h:=?_)));refine B4 (AG (SP t c k y ht) ?_);rintro r rfl;refine AF (h:=e_ (?_));refine A8 rfl (fun hb8=>?_) (fun hb8=>?_)
   ·have hc8:=bp hb8;refine w_ (a_ (h:=e_ (A4 (AK (A6 (A6 (AK (A6 (?_)))))))));refine A9 ?_
    first|(exfalso;first|contradiction|omega)|(exact vb (by rw[K9,if_neg (by simp[hs]),if_neg hi,Sc hy (by simp[Hf, *])]))
   have hc8:=bp hb8;refine Au (Ah (t_ (AR (BD (h:=m_ (h:=AP (?_)))))));refine AE ?_;refine⟨_,_,?_,⟨j+1,by omega,rfl,(by rw[Nd _ _ _ hy,ha];simp[Hf, *]),rfl⟩,(wk 2 0)⟩;omega
  have hc7:=bp hb7;refine A3 (h:=A3 (h:=A3 (h:=A3 (h:=AM (h:=e_ (Bp (h:=Au (Ah (t_ (AR (BD (h:=m_ (h:=AP (?_))))))))))))));refine AE ?_;refine⟨_,_,?_,⟨j+1,by omega,rfl,(by rw[Nd _ _ _ hy,ha];simp[Hf, *]),rfl⟩,(wk 2 0)⟩;omega
 have hc6:=bp hb6;have e:=CA Ga hj hc6;subst e;rw[List.take_length]at ha;refine BT (Ao (Ao (BU (t_ (w_ (a_ (h:=e_ (A4 (?_)))))))));refine A9 ?_
 first|(exfalso;first|contradiction|omega)|(exact vb (by rw[K9,if_neg (by simp[hs]),if_neg hi,ha]))
theorem XC(t:Tst)(c:Ctx)(k:Cxs)(hn:c.items.length≤1000):AFn prog 115 [.agg (C3 t), .agg (D4 c k)] (fun r=>r= .v (.bool (Hg t c))):=by
 refine enter Tryz.func115 rfl rfl rfl rfl rfl 0 rfl ?_;refine w_ (b_ (h:=b_ (h:=a_ (h:=e_ (q_ (?_))))));refine FZ (⟨look [(2, .bp 0 0),(3, .bp 1 0),(4, .v (.bool false)),(27, .v (.bool (!GB t||(!DX t.fld c||(decide (t.other≠0)&& !DX t.other c)))))],⟨[C3 t,D4 c k],[]⟩⟩) ?_ ?_
 ·skip
  refine AR (l_ (h:=?_));refine A7 rfl (AG (XA _) ?_);rintro r rfl;refine B9 (h:=m_ (h:=?_));refine AW false rfl rfl (fun hb1=>?_) (fun hb1=>?_)
  ·have hc1:=bp hb1;refine A3 (h:=A3 (h:=A3 (h:=A3 (h:=A3 (h:=AF (h:=m_ (h:=A3 (h:=A3 (h:=A3 (h:=A3 (h:=AX (h:=AX (h:=AX (h:=AX (h:=AX (h:=A3 (h:=AF (h:=AP (?_)))))))))))))))))));refine AE ?_
   first|(exfalso;first|contradiction|omega)|exact Av 2 0 rfl rfl rfl rfl (by repeat (first|exact Sub.nil|refine Ax rfl rfl ?_|refine B1 ?_|refine B2 rfl ?_|refine B3 rfl ?_|(apply Sub.of;(focus exact rfl);(focus exact LeA.of_eq (vb (by simp[*])));(focus exact rfl))))
  have hc1:=bp hb1;refine f_ (h:=l_ (h:=l_ (h:=?_)));refine B4 (AG (SK _ c k) ?_);rintro r rfl;refine B9 (h:=AM (h:=m_ (h:=?_)));refine AW false rfl rfl (fun hb2=>?_) (fun hb2=>?_)
  ·have hc2:=bp hb2;refine A3 (h:=A3 (h:=A3 (h:=A3 (h:=AX (h:=AX (h:=AX (h:=AX (h:=AX (h:=A3 (h:=AF (h:=AP (?_))))))))))));refine AE ?_
   first|(exfalso;first|contradiction|omega)|exact Av 2 0 rfl rfl rfl rfl (by repeat (first|exact Sub.nil|refine Ax rfl rfl ?_|refine B1 ?_|refine B2 rfl ?_|refine B3 rfl ?_|(apply Sub.of;(focus exact rfl);(focus exact LeA.of_eq (vb (by simp[*])));(focus exact rfl))))
  have hc2:=bp hb2;refine f_ (h:=l_ (h:=Ap (h:=m_ (h:=?_))));refine AW true rfl rfl (fun hb3=>?_) (fun hb3=>?_)
  ·have hc3:=bp hb3;refine f_ (h:=l_ (h:=l_ (h:=?_)));refine B4 (AG (SK _ c k) ?_);rintro r rfl;refine B9 (h:=AF (h:=AM (h:=AP (?_))));refine AE ?_
   first|(exfalso;first|contradiction|omega)|exact Av 2 0 rfl rfl rfl rfl (by repeat (first|exact Sub.nil|refine Ax rfl rfl ?_|refine B1 ?_|refine B2 rfl ?_|refine B3 rfl ?_|(apply Sub.of;(focus exact rfl);(focus exact LeA.of_eq (vb (by simp[*])));(focus exact rfl))))
  have hc3:=bp hb3;refine A3 (h:=A3 (h:=A3 (h:=A3 (h:=A3 (h:=AM (h:=AM (h:=AP (?_))))))));refine AE ?_
  first|(exfalso;first|contradiction|omega)|exact Av 2 0 rfl rfl rfl rfl (by repeat (first|exact Sub.nil|refine Ax rfl rfl ?_|refine B1 ?_|refine B2 rfl ?_|refine B3 rfl ?_|(apply Sub.of;(focus exact rfl);(focus exact LeA.of_eq (vb (by simp[*])));(focus exact rfl))))
 skip
 refine A8 rfl (fun hb4=>?_) (fun hb4=>?_)
 ·have hc4:=bp hb4;have hq:GB t=false∨DX t.fld c=false∨t.other≠0∧DX t.other c=false:=by simpa using hc4
  refine w_ (a_ (h:=e_ (A4 (A6 (?_)))));refine A9 ?_
  first|(exfalso;first|contradiction|omega)|(exact vb (by rw[Hg,if_pos hq]))
 have hc4:=bp hb4;have hq:¬(GB t=false∨DX t.fld c=false∨t.other≠0∧DX t.other c=false):=by simpa using hc4
 have ht:=PP (by simpa using fun e:GB t=false=>hq (.inl e));refine AB (q_ (?_));refine FZ (⟨look [(2, .bp 0 0),(3, .bp 1 0),(4, .v (.bool false)),(37, .v (.bool (!EH t.fld&& !EH t.other)))],⟨[C3 t,D4 c k],[]⟩⟩) ?_ ?_
 ·skip
  refine AR (f_ (h:=l_ (h:=?_)));refine A7 rfl (AG (SC _) ?_);rintro r rfl;refine B9 (h:=m_ (h:=?_));refine AW true rfl rfl (fun hb5=>?_) (fun hb5=>?_)
  ·have hc5:=bp hb5;refine f_ (h:=l_ (h:=?_));refine B4 (AG (SC _) ?_);rintro r rfl;refine B9 (h:=AF (h:=AP (?_)));refine AE ?_
   first|(exfalso;first|contradiction|omega)|exact Av 2 0 rfl rfl rfl rfl (by repeat (first|exact Sub.nil|refine Ax rfl rfl ?_|refine B1 ?_|refine B2 rfl ?_|refine B3 rfl ?_|(apply Sub.of;(focus exact rfl);(focus exact LeA.of_eq (vb (by simp[*])));(focus exact rfl))))
  have hc5:=bp hb5;refine A3 (h:=A3 (h:=A3 (h:=A3 (h:=AM (h:=AP (?_))))));refine AE ?_
  first|(exfalso;first|contradiction|omega)|exact Av 2 0 rfl rfl rfl rfl (by repeat (first|exact Sub.nil|refine Ax rfl rfl ?_|refine B1 ?_|refine B2 rfl ?_|refine B3 rfl ?_|(apply Sub.of;(focus exact rfl);(focus exact LeA.of_eq (vb (by simp[*])));(focus exact rfl))))
 skip
 refine A8 rfl (fun hb6=>?_) (fun hb6=>?_)
 ·have hc6:=bp hb6;have hi:EH t.fld=false∧EH t.other=false:=by simpa using hc6
  refine w_ (l_ (h:=l_ (h:=Ak (h:=?_))));refine A7 rfl (AG (SQ t c k Itm.zero ht) ?_);rintro r rfl;refine a_ (h:=e_ (A4 (A6 (?_))));refine A9 ?_
  first|(exfalso;first|contradiction|omega)|(exact vb (by rw[Hg,if_neg hq,if_pos hi]))
 have hc6:=bp hb6;have hi:¬(EH t.fld=false∧EH t.other=false):=by simpa using hc6
 refine AB (q_ (w_ (a_ (h:=e_ (Ag (?_))))));refine Be (fun n s=>∃j:Nat,j≤c.items.length∧n=c.items.length - j∧(c.items.take j).any (fun y=>Hf y&&Gd t c y)=false∧s=⟨look [(2, .bp 0 0),(3, .bp 1 0),(5, .v (.int .i64 (j:Int)))],⟨[C3 t,D4 c k],[]⟩⟩) (c.items.length) ((wk 2 0)) (⟨0,by omega,rfl,rfl,rfl⟩) ?_;rintro n s ⟨j,hj,rfl,ha,rfl⟩;refine q_ (w_ (m_ (h:=f_ (h:=l_ (h:=n_ (h:=BB (h:=e_ (?_))))))));refine A8 rfl (fun hb7=>?_) (fun hb7=>?_)
 ·have hc7:=bp hb7;obtain⟨hlt,y,hy,hrow, -⟩:=C1 Ga hc7;refine AB (q_ (Ag (q_ (Cp 18 (h:=AO 0 (h:=AJ 1 (h:=AU 2 (h:=Cg 3 (h:=AO 4 (h:=AJ 5 (h:=Hc 6 (h:=?_))))))))))));refine Eg (i:=7) rfl (Ha rfl rfl (by repeat constructor) (by repeat constructor) (fun w=>Sd _ _ _ _ w) (by kernel_rfl) ⟨rfl,rfl⟩) ?_;refine AU 8 (h:=?_);refine G5 (j:=8) rfl (fun hb8=>?_) (fun hb8=>?_)
  ·have hc8:=bp hb8;refine AJ 9 (h:=AJ 10 (h:=AO 11 (h:=AJ 12 (h:=AU 13 (h:=Cg 14 (h:=AJ 15 (h:=?_)))))));refine c_ 16 rfl (AG (SQ t c k y ht) ?_);rintro r rfl;refine o_ (h:=Fb 17 (h:=z_ (h:=t_ (?_))));refine A8 rfl (fun hb9=>?_) (fun hb9=>?_)
   ·have hc9:=bp hb9;refine w_ (a_ (h:=e_ (A4 (AK (A6 (A6 (AK (A6 (?_)))))))));refine A9 ?_
    first|(exfalso;first|contradiction|omega)|(exact vb (by rw[Hg,if_neg hq,if_neg hi,Sc hy (by simp[Hf, *])]))
   have hc9:=bp hb9;refine Au (Ah (t_ (AR (m_ (h:=BD (h:=a_ (h:=AP (?_))))))));refine AE ?_;refine⟨_,_,?_,⟨j+1,by omega,rfl,(by rw[Nd _ _ _ hy,ha];simp[Hf, *]),rfl⟩,(wk 2 0)⟩;omega
  have hc8:=bp hb8;refine BG 9 (h:=BG 10 (h:=BG 11 (h:=BG 12 (h:=BG 13 (h:=BG 14 (h:=BG 15 (h:=BG 16 (h:=Fc 17 (h:=z_ (h:=t_ (Bp (h:=Au (Ah (t_ (AR (m_ (h:=BD (h:=a_ (h:=AP (?_))))))))))))))))))));refine AE ?_;refine⟨_,_,?_,⟨j+1,by omega,rfl,(by rw[Nd _ _ _ hy,ha];simp[Hf, *]),rfl⟩,(wk 2 0)⟩;omega
 have hc7:=bp hb7;have e:=CA Ga hj hc7;subst e;rw[List.take_length]at ha;refine BT (Ao (Ao (BU (t_ (w_ (a_ (h:=e_ (A4 (?_)))))))));refine A9 ?_
 first|(exfalso;first|contradiction|omega)|(exact vb (by rw[Hg,if_neg hq,if_neg hi,ha]))
end
theorem XD{t:Tst}(h:GB t=true)(h2:t.other≠0):DW t.fld=false:=by
 obtain⟨j,_,h3⟩:=(Lo t 5).1 h;unfold Bg at h3;split at h3
 ·cases h3
 rename_i h4;simp only[not_or,not_and]at h4;exact Sb (by simpa using(h4.2 h2).2.1)
theorem Se{f:Int}{c:Ctx}(h1:1≤f)(h2:f≤22)(h3:DW f=false):Bu f c=DX f c:=by
 simp only[DW,decide_eq_false_iff_not]at h3;unfold Bu DX
 (repeat' split)<;>first|omega|(simp;omega)|(simp[*];done)|rfl
theorem XE{f:Int}{c:Ctx}(h:DW f=true):DX f c=true:=by
 simp only[DW,decide_eq_true_eq]at h;unfold DX;rw[if_neg (by omega)];simp;omega
theorem XF{t:Tst}{c:Ctx}(hs:GB t=true)(y:Itm):Fn t c y=if DX t.fld c=false∨t.other≠0∧DX t.other c=false then false else Gd t c y:=by
 obtain⟨f1,f2,o, -, -⟩:=PP hs;have h2:=XD hs;by_cases ht:DW t.fld=true
 ·have ho:t.other=0:=Classical.byContradiction fun e=>by simp[h2 e]at ht
  rw[if_neg (by simp[XE ht,ho])];simp[Fn,Gd,ht]
 have ht':DW t.fld=false:=by simpa using ht
 have e1:=Se (c:=c) f1 f2 ht';by_cases h0:t.other=0
 ·simp only[Fn,Gd,ht',e1,h0];cases DX t.fld c<;>simp
 obtain⟨o1,o2,o3⟩:=o.resolve_left h0;have e2:=Se (c:=c) o1 o2 o3;simp only[Fn,Gd,ht',e1,e2,h0];cases DX t.fld c<;>cases DX t.other c<;>simp[h0]
theorem Sf(t:Tst)(c:Ctx):K9 t c=Hg t c:=by
 unfold K9 Hg
 cases hs:GB t with
 |false=>simp
 |true=>
   simp only[XF hs];by_cases hq:DX t.fld c=false∨t.other≠0∧DX t.other c=false
   ·simp[hq]
   simp[hq]
theorem XG(x:Int):Ef .u64 x 1=0∨Ef .u64 x 1=1:=by
 have e:((BitVec.ofInt 64 x &&& BitVec.ofInt 64 1).toNat)=(BitVec.ofInt 64 x).toNat % 2:=by
  rw[BitVec.toNat_and];exact Nat.and_one_is_mod _
 unfold Ef;show IntKind.u64.wrap ((BitVec.ofInt 64 x &&& BitVec.ofInt 64 1).toNat)=0∨IntKind.u64.wrap ((BitVec.ofInt 64 x &&& BitVec.ofInt 64 1).toNat)=1;rw[e];rcases Nat.mod_two_eq_zero_or_one (BitVec.ofInt 64 x).toNat with h|h<;>rw[h]
 ·exact .inl rfl
 exact .inr rfl
def Ge(m n:Int):Bool:=if 0≤n∧n<32 then decide (Ef .u64 (Ja .u64 m n) 1=1)else false
def Hh(r:Rul)(hit:Bool)(c:Ctx):Bool:=(decide (r.calls=0)||Ge r.calls c.number)&&r.tests.all (fun t=>Hg t c)&&(decide (r.watch=0)||hit)
theorem Sg{α:Type}(p:α→Bool)(l:List α)(k:Nat){x:α}(hx:l[k]?=some x):(l.take (k+1)).all p=((l.take k).all p&&p x):=by
 obtain⟨hk,e⟩:=At.1 hx;rw[List.take_succ_eq_append_getElem hk,List.all_append,e];simp
theorem Sh{α:Type}{p:α→Bool}{l:List α}{k:Nat}{x:α}(hx:l[k]?=some x)(h:p x=false):l.all p=false:=by
 cases e:l.all p with
 |false=>rfl
 |true=>rw[List.all_eq_true]at e;rw[e x (Aw hx)]at h;cases h
theorem PQ{p:Prop}[Decidable p]{b:Bool}(h:(decide (¬p)&& !b)=false):(decide p||b)=true:=by
 by_cases h0:p<;>cases b<;>simp_all
section
theorem XH(m n:Int):AFn prog 112 [.v (.int .u64 m), .v (.int .i64 n)] (fun r=>r= .v (.bool (Ge m n))):=by
 have hb:=XG (Ja .u64 m n);refine enter Tryz.func112 rfl rfl rfl rfl rfl 0 rfl ?_;refine w_ (a_ (h:=e_ (w_ (m_ (h:=Cw (h:=m_ (h:=?_)))))));refine AW true rfl rfl (fun hb1=>?_) (fun hb1=>?_)
 ·have hc1:=bp hb1;refine m_ (h:=BB (h:=AF (h:=m_ (h:=?_))));refine AW true rfl rfl (fun hb2=>?_) (fun hb2=>?_)
  ·have hc2:=bp hb2;refine m_ (h:=m_ (h:=Li (h:=DR (h:=Ap (h:=AF (h:=a_ (h:=e_ (A4 (?_)))))))));refine A9 ?_
   first|(exfalso;first|contradiction|omega)|(exact vb (by unfold Ge;grind))
  have hc2:=bp hb2;refine A3 (h:=A3 (h:=A3 (h:=A3 (h:=A3 (h:=AM (h:=a_ (h:=e_ (A4 (?_)))))))));refine A9 ?_
  first|(exfalso;first|contradiction|omega)|(exact vb (by unfold Ge;grind))
 have hc1:=bp hb1;refine A3 (h:=A3 (h:=AM (h:=m_ (h:=A3 (h:=A3 (h:=A3 (h:=A3 (h:=A3 (h:=AM (h:=a_ (h:=e_ (A4 (?_)))))))))))));refine A9 ?_
 first|(exfalso;first|contradiction|omega)|(exact vb (by unfold Ge;grind))
theorem XJ(m n:Int):AFn prog 114 [.v (.int .u64 m), .v (.int .i64 n)] (fun r=>r= .v (.bool (Ge m n))):=by
 have hw:0≤n→n<32→IntKind.u64.wrap n=n:=fun h1 h2=>by simp[IntKind.wrap,IntKind.signed,IntKind.bits];omega
 refine enter Tryz.func114 rfl rfl rfl rfl rfl 0 rfl ?_;refine w_ (a_ (h:=e_ (w_ (m_ (h:=Cw (h:=m_ (h:=?_)))))));refine AW true rfl rfl (fun hb1=>?_) (fun hb1=>?_)
 ·have hc1:=bp hb1;refine m_ (h:=BB (h:=AF (h:=m_ (h:=?_))));refine AW true rfl rfl (fun hb2=>?_) (fun hb2=>?_)
  ·have hc2:=bp hb2;refine m_ (h:=m_ (h:=?_));refine B4 (Jb rfl Tryz.underlying3 Tryz.underlying113 ?_);refine Li (h:=DR (h:=AD (h:=AF (h:=a_ (h:=e_ (A4 (?_)))))));refine A9 ?_
   first|(exfalso;first|contradiction|omega)|(exact vb (by unfold Ge;grind))
  have hc2:=bp hb2;refine A3 (h:=A3 (h:=A3 (h:=A3 (h:=A3 (h:=A3 (h:=AM (h:=a_ (h:=e_ (A4 (?_))))))))));refine A9 ?_
  first|(exfalso;first|contradiction|omega)|(exact vb (by unfold Ge;grind))
 have hc1:=bp hb1;refine A3 (h:=A3 (h:=AM (h:=m_ (h:=A3 (h:=A3 (h:=A3 (h:=A3 (h:=A3 (h:=A3 (h:=AM (h:=a_ (h:=e_ (A4 (?_))))))))))))));refine A9 ?_
 first|(exfalso;first|contradiction|omega)|(exact vb (by unfold Ge;grind))
theorem Si(r:Rul)(hit:Bool)(c:Ctx)(k:Cxs)(hn:c.items.length≤1000)(hl:r.tests.length≤1000):AFn prog 64 [.agg (Az r), .v (.bool hit), .agg (D4 c k)] (fun x=>x= .v (.bool (Hh r hit c))):=by
 refine enter Tryz.func64 rfl rfl rfl rfl rfl 0 rfl ?_;refine w_ (b_ (h:=b_ (h:=a_ (h:=e_ (q_ (?_))))));refine FZ (⟨look [(1, .v (.bool hit)),(3, .bp 0 0),(5, .bp 1 0),(20, .v (.bool (decide (r.calls≠0)&& !Ge r.calls c.number)))],⟨[Az r,D4 c k],[]⟩⟩) ?_ ?_
 ·skip
  refine AR (f_ (h:=l_ (h:=Ap (h:=m_ (h:=?_)))));refine AW true rfl rfl (fun hb1=>?_) (fun hb1=>?_)
  ·have hc1:=bp hb1;refine f_ (h:=l_ (h:=f_ (h:=f_ (h:=l_ (h:=?_)))));refine B4 (AG (XH _ _) ?_);rintro r rfl;refine B9 (h:=AF (h:=AP (?_)));refine AE ?_
   first|(exfalso;first|contradiction|omega)|exact Av 2 0 rfl rfl rfl rfl (by repeat (first|exact Sub.nil|refine Ax rfl rfl ?_|refine B1 ?_|refine B2 rfl ?_|refine B3 rfl ?_|(apply Sub.of;(focus exact rfl);(focus exact LeA.of_eq (vb (by simp[*])));(focus exact rfl))))
  have hc1:=bp hb1;refine A3 (h:=A3 (h:=A3 (h:=A3 (h:=A3 (h:=A3 (h:=A3 (h:=AM (h:=AP (?_)))))))));refine AE ?_
  first|(exfalso;first|contradiction|omega)|exact Av 2 0 rfl rfl rfl rfl (by repeat (first|exact Sub.nil|refine Ax rfl rfl ?_|refine B1 ?_|refine B2 rfl ?_|refine B3 rfl ?_|(apply Sub.of;(focus exact rfl);(focus exact LeA.of_eq (vb (by simp[*])));(focus exact rfl))))
 skip
 refine A8 rfl (fun hb2=>?_) (fun hb2=>?_)
 ·have hc2:=bp hb2;have hq:r.calls≠0∧Ge r.calls c.number=false:=by simpa using hc2
  refine w_ (a_ (h:=e_ (A4 (A6 (?_)))));refine A9 ?_
  first|(exfalso;first|contradiction|omega)|(exact vb (by simp[Hh,hq]))
 have hc2:=bp hb2;have hq:=PQ hc2;refine AB (q_ (w_ (f_ (h:=l_ (h:=n_ (h:=m_ (h:=e_ (Ag (?_)))))))));refine Be (fun n s=>∃j:Nat,j≤r.tests.length∧n=r.tests.length - j∧(r.tests.take j).all (fun t=>Hg t c)=true∧s=⟨look [(1, .v (.bool hit)),(3, .bp 0 0),(5, .bp 1 0),(22, .sl 5 (r.tests.map C3) none),(23, .v (.int .i64 ((r.tests.map C3).length:Int))),(24, .v (.int .i64 (j:Int)))],⟨[Az r,D4 c k],[]⟩⟩) (r.tests.length) ((wk 2 0)) (⟨0,by omega,rfl,rfl,rfl⟩) ?_;rintro n s ⟨j,hj,rfl,ha,rfl⟩;refine w_ (BB (h:=e_ (q_ (?_))));refine A8 rfl (fun hb3=>?_) (fun hb3=>?_)
 ·have hc3:=bp hb3;obtain⟨hlt,t,hy,hrow, -⟩:=C1 C3 hc3;refine AB (q_ (Ag (w_ (i_ (h:=l_ (h:=Al (h:=s_ (h:=e_ (w_ (l_ (h:=l_ (h:=?_))))))))))));refine A7 rfl (AG (XB t c k hn) ?_);rintro r rfl;refine B9 (h:=e_ (?_));refine A8 rfl (fun hb4=>?_) (fun hb4=>?_)
  ·have hc4:=bp hb4;refine w_ (a_ (h:=e_ (A4 (AK (A6 (A6 (AK (A6 (?_)))))))));refine A9 ?_
   first|(exfalso;first|contradiction|omega)|(exact vb (by rw[Hh,Sh hy (by rw[←Sf];simpa using hc4)];simp))
  have hc4:=bp hb4;refine Au (Ah (t_ (AR (BD (h:=m_ (h:=AP (?_)))))));refine AE ?_;refine⟨_,_,?_,⟨j+1,by omega,rfl,(by rw[Sg _ _ _ hy,ha,←Sf];simp[*]),rfl⟩,(wk 2 0)⟩;omega
 have hc3:=bp hb3;have e:=CA C3 hj hc3;subst e;rw[List.take_length]at ha;refine BT (Ao (Ao (BU (t_ (w_ (f_ (h:=l_ (h:=AD (h:=m_ (h:=?_))))))))));refine AW false rfl rfl (fun hb5=>?_) (fun hb5=>?_)
 ·have hc5:=bp hb5;refine A3 (h:=AF (h:=a_ (h:=e_ (A4 (?_)))));refine A9 ?_
  first|(exfalso;first|contradiction|omega)|(exact vb (by rw[Hh,hq,ha];simp[hc5]))
 have hc5:=bp hb5;refine m_ (h:=AM (h:=a_ (h:=e_ (A4 (?_)))));refine A9 ?_
 first|(exfalso;first|contradiction|omega)|(exact vb (by rw[Hh,hq,ha];simp[*]))
theorem Sj(r:Rul)(hit:Bool)(c:Ctx)(k:Cxs)(hn:c.items.length≤1000)(hl:r.tests.length≤1000):AFn prog 65 [.agg (Az r), .v (.bool hit), .agg (D4 c k)] (fun x=>x= .v (.bool (Hh r hit c))):=by
 refine enter Tryz.func65 rfl rfl rfl rfl rfl 0 rfl ?_;refine w_ (b_ (h:=b_ (h:=a_ (h:=e_ (q_ (?_))))));refine FZ (⟨look [(1, .v (.bool hit)),(3, .bp 0 0),(5, .bp 1 0),(28, .v (.bool (decide (r.calls≠0)&& !Ge r.calls c.number||decide (r.watch≠0)&& !hit)))],⟨[Az r,D4 c k],[]⟩⟩) ?_ ?_
 ·skip
  refine AR (f_ (h:=l_ (h:=Ap (h:=m_ (h:=?_)))));refine AW true rfl rfl (fun hb1=>?_) (fun hb1=>?_)
  ·have hc1:=bp hb1;refine f_ (h:=l_ (h:=f_ (h:=f_ (h:=l_ (h:=?_)))));refine B4 (AG (XJ _ _) ?_);rintro r rfl;refine B9 (h:=AF (h:=m_ (h:=?_)));refine AW false rfl rfl (fun hb2=>?_) (fun hb2=>?_)
   ·have hc2:=bp hb2;refine A3 (h:=A3 (h:=A3 (h:=A3 (h:=AX (h:=AX (h:=A3 (h:=AF (h:=AP (?_)))))))));refine AE ?_
    first|(exfalso;first|contradiction|omega)|exact Av 2 0 rfl rfl rfl rfl (by repeat (first|exact Sub.nil|refine Ax rfl rfl ?_|refine B1 ?_|refine B2 rfl ?_|refine B3 rfl ?_|(apply Sub.of;(focus exact rfl);(focus exact LeA.of_eq (vb (by simp[*])));(focus exact rfl))))
   have hc2:=bp hb2;refine f_ (h:=l_ (h:=Ap (h:=m_ (h:=?_))));refine AW true rfl rfl (fun hb3=>?_) (fun hb3=>?_)
   ·have hc3:=bp hb3;refine m_ (h:=B9 (h:=AF (h:=AM (h:=AP (?_)))));refine AE ?_
    first|(exfalso;first|contradiction|omega)|exact Av 2 0 rfl rfl rfl rfl (by repeat (first|exact Sub.nil|refine Ax rfl rfl ?_|refine B1 ?_|refine B2 rfl ?_|refine B3 rfl ?_|(apply Sub.of;(focus exact rfl);(focus exact LeA.of_eq (vb (by simp[*])));(focus exact rfl))))
   have hc3:=bp hb3;refine A3 (h:=A3 (h:=AM (h:=AM (h:=AP (?_)))));refine AE ?_
   first|(exfalso;first|contradiction|omega)|exact Av 2 0 rfl rfl rfl rfl (by repeat (first|exact Sub.nil|refine Ax rfl rfl ?_|refine B1 ?_|refine B2 rfl ?_|refine B3 rfl ?_|(apply Sub.of;(focus exact rfl);(focus exact LeA.of_eq (vb (by simp[*])));(focus exact rfl))))
  have hc1:=bp hb1;refine A3 (h:=A3 (h:=A3 (h:=A3 (h:=A3 (h:=A3 (h:=A3 (h:=AM (h:=m_ (h:=f_ (h:=l_ (h:=Ap (h:=m_ (h:=?_)))))))))))));refine AW true rfl rfl (fun hb4=>?_) (fun hb4=>?_)
  ·have hc4:=bp hb4;refine m_ (h:=B9 (h:=AF (h:=AM (h:=AP (?_)))));refine AE ?_
   first|(exfalso;first|contradiction|omega)|exact Av 2 0 rfl rfl rfl rfl (by repeat (first|exact Sub.nil|refine Ax rfl rfl ?_|refine B1 ?_|refine B2 rfl ?_|refine B3 rfl ?_|(apply Sub.of;(focus exact rfl);(focus exact LeA.of_eq (vb (by simp[*])));(focus exact rfl))))
  have hc4:=bp hb4;refine A3 (h:=A3 (h:=AM (h:=AM (h:=AP (?_)))));refine AE ?_
  first|(exfalso;first|contradiction|omega)|exact Av 2 0 rfl rfl rfl rfl (by repeat (first|exact Sub.nil|refine Ax rfl rfl ?_|refine B1 ?_|refine B2 rfl ?_|refine B3 rfl ?_|(apply Sub.of;(focus exact rfl);(focus exact LeA.of_eq (vb (by simp[*])));(focus exact rfl))))
 skip
 refine A8 rfl (fun hb5=>?_) (fun hb5=>?_)
 ·have hc5:=bp hb5;refine w_ (a_ (h:=e_ (A4 (A6 (?_)))));refine A9 ?_
  first|(exfalso;first|contradiction|omega)|(exact vb (by rw[Bool.or_eq_true]at hc5;rcases hc5 with h|h<;>simp at h<;>simp[Hh,h]))
 have hc5:=bp hb5;rw[Bool.or_eq_false_iff]at hc5;have hq:=PQ hc5.1;have hq2:=PQ hc5.2;refine AB (q_ (w_ (a_ (h:=e_ (Ag (?_))))));refine Be (fun n s=>∃j:Nat,j≤r.tests.length∧n=r.tests.length - j∧(r.tests.take j).all (fun t=>Hg t c)=true∧s=⟨look [(3, .bp 0 0),(5, .bp 1 0),(7, .v (.int .i64 (j:Int)))],⟨[Az r,D4 c k],[]⟩⟩) (r.tests.length) ((wk 2 0)) (⟨0,by omega,rfl,rfl,rfl⟩) ?_;rintro n s ⟨j,hj,rfl,ha,rfl⟩;refine q_ (w_ (m_ (h:=f_ (h:=l_ (h:=n_ (h:=BB (h:=e_ (?_))))))));refine A8 rfl (fun hb6=>?_) (fun hb6=>?_)
 ·have hc6:=bp hb6;obtain⟨hlt,t,hy,hrow, -⟩:=C1 C3 hc6;refine AB (q_ (Ag (q_ (Cp 8 (h:=AO 0 (h:=AJ 1 (h:=AU 2 (h:=Cg 3 (h:=AJ 4 (h:=AJ 5 (h:=?_)))))))))));refine c_ 6 rfl (AG (XC t c k hn) ?_);rintro r rfl;refine o_ (h:=Ws 7 (h:=z_ (h:=t_ (?_))));refine A8 rfl (fun hb7=>?_) (fun hb7=>?_)
  ·have hc7:=bp hb7;refine w_ (a_ (h:=e_ (A4 (AK (A6 (A6 (AK (A6 (?_)))))))));refine A9 ?_
   first|(exfalso;first|contradiction|omega)|(exact vb (by rw[Hh,Sh hy (by simpa using hc7)];simp))
  have hc7:=bp hb7;refine Au (Ah (t_ (AR (m_ (h:=BD (h:=a_ (h:=AP (?_))))))));refine AE ?_;refine⟨_,_,?_,⟨j+1,by omega,rfl,(by rw[Sg _ _ _ hy,ha];simp[*]),rfl⟩,(wk 2 0)⟩;omega
 have hc6:=bp hb6;have e:=CA C3 hj hc6;subst e;rw[List.take_length]at ha;refine BT (Ao (Ao (BU (t_ (w_ (a_ (h:=e_ (A4 (?_)))))))));refine A9 ?_
 first|(exfalso;first|contradiction|omega)|(exact vb (by rw[Hh,hq,ha,hq2];rfl))
end
def E7{α:Type}(p:Nat→α→Bool):List α→Nat→Int
 |[],_=> -1
 |x::xs,i=>if p i x=true then(i:Int)else E7 p xs (i+1)
theorem Km{α:Type}{p:Nat→α→Bool}{l:List α}{j:Nat}{x:α}(hx:l[j]?=some x):E7 p (l.drop j) j=if p j x=true then(j:Int)else E7 p (l.drop (j+1)) (j+1):=by
 obtain⟨hk,e⟩:=At.1 hx;rw[List.drop_eq_getElem_cons hk,E7,e]
theorem PR{α:Type}{p:Nat→α→Bool}{l:List α}:E7 p (l.drop l.length) l.length= -1:=by
 simp[E7]
def Gf(b:Bool):List AV:=[.v (.bool b)]
def Lp(hits:List Bool)(i:Nat):Bool:=(hits[i]?).getD false
theorem Nf{hits:List Bool}{i:Nat}{b:Bool}(h:hits[i]?=some b):Lp hits i=b:=by simp[Lp,h]
theorem Ng{hits:List Bool}{i:Nat}(h:¬(i:Int)<((hits.map Gf).length:Int)):Lp hits i=false:=by
 have:hits.length≤i:=by simp at h;omega
 simp[Lp,this]
def E8(list:Int)(hits:List Bool)(c:Ctx)(i:Nat)(r:Rul):Bool:=decide (r.list=list)&&Hh r (Lp hits i) c
section
theorem Sk(l:List Rul)(hl:l.length≤1000)(p:Nat→Rul→Bool)(f:FuncId)(caps:List AV)[Fun prog f](hcl:J1 caps=true)(hbl:Aa 0 0 (.fn f caps)=true)
    (hp:∀i r,l[i]?=some r→AFn prog f ([.v (.int .i64 (i:Int)), .agg (Az r)]++caps) (fun x=>x= .v (.bool (p i r)))):AFn prog 62 [.sl 8 (l.map Az) none, .fn f caps] (fun x=>x= .v (.int .i64 (E7 p l 0))):=by
 refine enter Tryz.func62 rfl rfl rfl rfl rfl 0 rfl ?_;refine w_ (a_ (h:=e_ (q_ (w_ (m_ (h:=n_ (h:=m_ (h:=e_ (Ag (?_))))))))));refine Be (fun n s=>∃j:Nat,j≤l.length∧n=l.length - j∧E7 p (l.drop j) j=E7 p l 0∧s=⟨look [(1, .fn f caps),(7, .sl 8 (l.map Az) none),(8, .v (.int .i64 ((l.map Az).length:Int))),(9, .v (.int .i64 (j:Int)))],⟨[],[]⟩⟩) (l.length) (Av 0 0 rfl rfl rfl rfl (by repeat (first|exact Sub.nil|refine Ax rfl rfl ?_|refine Sub.cons _ _ _ rfl hbl ?_|refine B1 ?_|refine B2 rfl ?_|refine B3 rfl ?_))) (⟨0,by omega,rfl,rfl,rfl⟩) ?_;rintro n s ⟨j,hj,rfl,ha,rfl⟩;refine w_ (BB (h:=e_ (q_ (?_))));refine A8 rfl (fun hb1=>?_) (fun hb1=>?_)
 ·have hc1:=bp hb1;obtain⟨hlt,r,hy,hrow, -⟩:=C1 Az hc1;refine AB (q_ (Ag (w_ (m_ (h:=i_ (h:=l_ (h:=Al (h:=a_ (h:=s_ (h:=e_ (w_ (m_ (h:=m_ (h:=l_ (h:=?_)))))))))))))));refine A7 rfl (WQ (cy:=[]) rfl (by repeat (first|exact Args.nil|refine Args.cons _ _ _ _ _ rfl (Jz rfl) ?_|refine Args.cons _ _ _ _ _ rfl (Kf _) ?_|refine Args.cons _ _ _ _ _ rfl (Jy _) ?_|refine Args.cons _ _ _ _ _ rfl (Kg rfl (by repeat (first|exact AA _|exact LeA.nil _|exact LeL.refl _|refine LeA.agg ?_|refine LeA.tup ?_|exact LeL.nil|refine LeL.cons ?_ ?_|exact LeA.any _))) ?_)) hcl rfl (hp j r hy) ?_);rintro x rfl;refine e_ (?_);refine A8 rfl (fun hb2=>?_) (fun hb2=>?_)
  ·have hc2:=bp hb2;refine w_ (m_ (h:=a_ (h:=e_ (A4 (AK (A6 (A6 (AK (A6 (?_))))))))));refine A9 ?_
   first|(exfalso;first|contradiction|omega)|(exact vi (by rw[←ha,Km hy,if_pos hc2]))
  have hc2:=bp hb2;refine Au (Ah (t_ (AR (BD (h:=m_ (h:=AP (?_)))))));refine AE ?_;refine⟨_,_,?_,⟨j+1,by omega,rfl,(by rw[←ha,Km hy];simp[*]),rfl⟩,Av 0 0 rfl rfl rfl rfl (by repeat (first|exact Sub.nil|refine Ax rfl rfl ?_|refine Sub.cons _ _ _ rfl hbl ?_|refine B1 ?_|refine B2 rfl ?_|refine B3 rfl ?_))⟩;omega
 have hc1:=bp hb1;have e:=CA Az hj hc1;subst e;refine BT (Ao (Ao (BU (t_ (w_ (a_ (h:=e_ (A4 (?_)))))))));refine A9 ?_
 first|(exfalso;first|contradiction|omega)|(exact vi (by rw[←ha,PR]))
theorem XK(i:Nat)(r:Rul)(list:Int)(hits:List Bool)(c:Ctx)(k:Cxs)(hn:c.items.length≤1000)(hl:r.tests.length≤1000):AFn prog 63 [.v (.int .i64 (i:Int)), .agg (Az r), .fp [.v (.int .i64 list)], .fp [.sl 1 (hits.map Gf) none], .fp (D4 c k)] (fun x=>x= .v (.bool (E8 list hits c i r))):=by
 refine enter Tryz.func63 rfl rfl rfl rfl rfl 0 rfl ?_;refine w_ (b_ (h:=a_ (h:=e_ (q_ (Cp 20 (h:=AO 0 (h:=AJ 1 (h:=AJ 2 (h:=H3 3 (h:=AU 4 (h:=?_)))))))))));refine G5 (j:=4) rfl (fun hb1=>?_) (fun hb1=>?_)
 ·have hc1:=bp hb1;refine AJ 5 (h:=AU 6 (h:=AJ 7 (h:=Gz 8 (h:=S2 9 (h:=AU 10 (h:=?_))))));refine G5 (j:=10) rfl (fun hb2=>?_) (fun hb2=>?_)
  ·have hc2:=bp hb2;obtain⟨hlt,b,hy,hrow, -⟩:=C1 Gf hc2;refine AJ 11 (h:=AU 12 (h:=Cg 13 (h:=AJ 14 (h:=Fb 15 (h:=AJ 16 (h:=?_))))));refine c_ 17 rfl (AG (Si r b c k hn hl) ?_);rintro r rfl;refine o_ (h:=Fb 18 (h:=BO 19 (h:=z_ (h:=t_ (A4 (?_))))));refine A9 ?_
   first|(exfalso;first|contradiction|omega)|(exact vb (by simp[E8,hc1,Nf hy]))
  have hc2:=bp hb2;refine BG 11 (h:=BG 12 (h:=BG 13 (h:=BG 14 (h:=Fc 15 (h:=AJ 16 (h:=?_))))));refine c_ 17 rfl (AG (Si r false c k hn hl) ?_);rintro r rfl;refine o_ (h:=Fb 18 (h:=BO 19 (h:=z_ (h:=t_ (A4 (?_))))));refine A9 ?_
  first|(exfalso;first|contradiction|omega)|(exact vb (by simp[E8,hc1,Ng hc2]))
 have hc1:=bp hb1;refine BG 5 (h:=BG 6 (h:=BG 7 (h:=BG 8 (h:=BG 9 (h:=BG 10 (h:=BG 11 (h:=BG 12 (h:=BG 13 (h:=BG 14 (h:=BG 15 (h:=BG 16 (h:=BG 17 (h:=Fc 18 (h:=BO 19 (h:=z_ (h:=t_ (A4 (?_))))))))))))))))));refine A9 ?_
 first|(exfalso;first|contradiction|omega)|(exact vb (by simp[E8,hc1]))
theorem PS(l:List Rul)(list:Int)(hits:List Bool)(c:Ctx)(k:Cxs)(hl:l.length≤1000)(hn:c.items.length≤1000)(ht:∀r∈l,r.tests.length≤1000):AFn prog 16 [.sl 8 (l.map Az) none, .v (.int .i64 list), .sl 1 (hits.map Gf) none, .agg (D4 c k)] (fun x=>x= .v (.int .i64 (E7 (E8 list hits c) l 0))):=by
 refine enter Tryz.func16 rfl rfl rfl rfl rfl 0 rfl ?_;refine w_ (b_ (h:=b_ (h:=b_ (h:=a_ (h:=e_ (w_ (m_ (h:=Rz (h:=?_)))))))));refine A7 rfl (Rn rfl (by repeat (first|exact ArgsL.nil|refine ArgsL.cons _ _ _ _ _ rfl rfl ?_)) (Sk l hl (E8 list hits c) 63 [.fp [.v (.int .i64 list)], .fp [.sl 1 (hits.map Gf) none], .fp (D4 c k)] rfl rfl fun i r hi=>XK i r list hits c k hn (ht r (Aw hi))) ?_);rintro x rfl;refine⟨rfl,?_⟩;refine a_ (h:=e_ (A4 (?_)));refine A9 ?_;rfl
theorem XL(l:List Rul)(list:Int)(hits:List Bool)(c:Ctx)(k:Cxs)(hl:l.length≤1000)(hn:c.items.length≤1000)(ht:∀r∈l,r.tests.length≤1000):AFn prog 18 [.sl 8 (l.map Az) none, .v (.int .i64 list), .sl 1 (hits.map Gf) none, .agg (D4 c k)] (fun x=>x= .v (.int .i64 (E7 (E8 list hits c) l 0))):=by
 refine enter Tryz.func18 rfl rfl rfl rfl rfl 0 rfl ?_;refine w_ (b_ (h:=a_ (h:=e_ (q_ (w_ (a_ (h:=e_ (Ag (?_)))))))));refine Be (fun n s=>∃j:Nat,j≤l.length∧n=l.length - j∧E7 (E8 list hits c) (l.drop j) j=E7 (E8 list hits c) l 0∧s=⟨look [(0, .sl 8 (l.map Az) none),(1, .v (.int .i64 list)),(2, .sl 1 (hits.map Gf) none),(7, .bp 0 0),(9, .v (.int .i64 (j:Int)))],⟨[D4 c k],[]⟩⟩) (l.length) ((wk 1 0)) (⟨0,by omega,rfl,rfl,rfl⟩) ?_;rintro n s ⟨j,hj,rfl,ha,rfl⟩;refine q_ (w_ (m_ (h:=m_ (h:=n_ (h:=BB (h:=e_ (?_)))))));refine A8 rfl (fun hb1=>?_) (fun hb1=>?_)
 ·have hc1:=bp hb1;obtain⟨hlt,r,hy,hrow, -⟩:=C1 Az hc1;refine AB (q_ (Ag (?_)));refine FZ (⟨look [(0, .sl 8 (l.map Az) none),(1, .v (.int .i64 list)),(2, .sl 1 (hits.map Gf) none),(7, .bp 0 0),(9, .v (.int .i64 (j:Int))),(40, .v (.bool (E8 list hits c j r)))],⟨[D4 c k],[]⟩⟩) ?_ ?_
  ·skip
   refine Cp 25 (h:=AU 0 (h:=AU 1 (h:=Cg 2 (h:=AO 3 (h:=AJ 4 (h:=AU 5 (h:=H3 6 (h:=AU 7 (h:=?_)))))))));refine G5 (j:=7) rfl (fun hb2=>?_) (fun hb2=>?_)
   ·have hc2:=bp hb2;refine AU 8 (h:=AU 9 (h:=Cg 10 (h:=AJ 11 (h:=AU 12 (h:=AU 13 (h:=Gz 14 (h:=S2 15 (h:=AU 16 (h:=?_)))))))));refine G5 (j:=16) rfl (fun hb3=>?_) (fun hb3=>?_)
    ·have hc3:=bp hb3;obtain⟨hlt,b,hz,hrow2, -⟩:=C1 Gf hc3;refine AU 17 (h:=AU 18 (h:=Cg 19 (h:=AJ 20 (h:=Fb 21 (h:=AJ 22 (h:=?_))))));refine c_ 23 rfl (AG (Sj r b c k hn (ht r (Aw hy))) ?_);rintro r rfl;refine o_ (h:=Fb 24 (h:=z_ (h:=?_)));refine AE ?_
     first|(exfalso;first|contradiction|omega)|exact Av 1 0 rfl rfl rfl rfl (by repeat (first|exact Sub.nil|refine Ax rfl rfl ?_|refine B1 ?_|refine B2 rfl ?_|refine B3 rfl ?_|(apply Sub.of;(focus exact rfl);(focus exact LeA.of_eq (vb (by first|(simp[E8,hc2,Nf hz];done)|(simp[E8,hc2,Ng hc3];done)|simp[E8,hc2])));(focus exact rfl))))
    have hc3:=bp hb3;refine BG 17 (h:=BG 18 (h:=BG 19 (h:=BG 20 (h:=Fc 21 (h:=AJ 22 (h:=?_))))));refine c_ 23 rfl (AG (Sj r false c k hn (ht r (Aw hy))) ?_);rintro r rfl;refine o_ (h:=Fb 24 (h:=z_ (h:=?_)));refine AE ?_
    first|(exfalso;first|contradiction|omega)|exact Av 1 0 rfl rfl rfl rfl (by repeat (first|exact Sub.nil|refine Ax rfl rfl ?_|refine B1 ?_|refine B2 rfl ?_|refine B3 rfl ?_|(apply Sub.of;(focus exact rfl);(focus exact LeA.of_eq (vb (by first|(simp[E8,hc2,Nf hz];done)|(simp[E8,hc2,Ng hc3];done)|simp[E8,hc2])));(focus exact rfl))))
   have hc2:=bp hb2;refine BG 8 (h:=BG 9 (h:=BG 10 (h:=BG 11 (h:=BG 12 (h:=BG 13 (h:=BG 14 (h:=BG 15 (h:=BG 16 (h:=BG 17 (h:=BG 18 (h:=BG 19 (h:=BG 20 (h:=BG 21 (h:=BG 22 (h:=BG 23 (h:=Fc 24 (h:=z_ (h:=?_))))))))))))))))));refine AE ?_
   first|(exfalso;first|contradiction|omega)|exact Av 1 0 rfl rfl rfl rfl (by repeat (first|exact Sub.nil|refine Ax rfl rfl ?_|refine B1 ?_|refine B2 rfl ?_|refine B3 rfl ?_|(apply Sub.of;(focus exact rfl);(focus exact LeA.of_eq (vb (by first|(simp[E8,hc2,Nf hz];done)|(simp[E8,hc2,Ng hc3];done)|simp[E8,hc2])));(focus exact rfl))))
  skip
  refine A8 rfl (fun hb4=>?_) (fun hb4=>?_)
  ·have hc4:=bp hb4;refine w_ (m_ (h:=a_ (h:=e_ (A4 (AK (A6 (A6 (AK (A6 (?_))))))))));refine A9 ?_
   first|(exfalso;first|contradiction|omega)|(exact vi (by rw[←ha,Km hy,if_pos hc4]))
  have hc4:=bp hb4;refine Au (Ah (t_ (AR (m_ (h:=BD (h:=a_ (h:=AP (?_))))))));refine AE ?_;refine⟨_,_,?_,⟨j+1,by omega,rfl,(by rw[←ha,Km hy];simp[hc4]),rfl⟩,(wk 1 0)⟩;omega
 have hc1:=bp hb1;have e:=CA Az hj hc1;subst e;refine BT (Ao (Ao (BU (t_ (w_ (a_ (h:=e_ (A4 (?_)))))))));refine A9 ?_
 first|(exfalso;first|contradiction|omega)|(exact vi (by rw[←ha,PR]))
end
def J9(s:Spc)(a:AQ):AQ:=match D2 s a with
 |some d=>(d,1)
 |none=>a
def E3(s:Spc):Nat→AQ→AQ
 |0,a=>a
 |n+1,a=>E3 s n (J9 s a)
theorem XM{s:Spc}{a:AQ}(h:(D2 s a).isSome=true):J9 s a=((D2 s a).getD 0,1):=by
 unfold J9
 cases hc:D2 s a with
 |none=>rw[hc]at h;cases h
 |some d=>rfl
theorem PT{s:Spc}{a:AQ}(h:(D2 s a).isSome=false):J9 s a=a:=by
 unfold J9
 cases hc:D2 s a with
 |none=>rfl
 |some d=>rw[hc]at h;cases h
theorem Sl{s:Spc}{a:AQ}(h:(D2 s a).isSome=false):∀n,E3 s n a=a
 |0=>rfl
 |n+1=>by rw[E3,PT h,Sl h n]
section
theorem XN(s:Spc)(a:AQ)(hs:SpcB s):AFn prog 193 [.agg (BK s), .agg (AN a)] (fun r=>r= .agg (AN (E3 s (s.mounts.length+1) a))):=by
 have hfew:=hs.few;have hml:(s.mounts.map Fo).length=s.mounts.length:=by simp
 refine enter Tryz.func193 rfl rfl rfl rfl rfl 0 rfl ?_;refine w_ (b_ (h:=b_ (h:=Al (h:=e_ (q_ (w_ (a_ (h:=e_ (Ag (?_))))))))));refine Be (fun m t=>∃(j:Nat) (b:AQ),j≤s.mounts.length+1∧m=s.mounts.length+1 - j∧E3 s (s.mounts.length+1 - j) b=E3 s (s.mounts.length+1) a∧t=⟨look [(2, .bp 0 0),(3, .bp 1 0),(4, .bp 2 0),(5, .v (.int .i64 (j:Int)))],⟨[BK s,AN b,[.v (.int .i64 0), .v (.int .i64 0)]],[]⟩⟩) (s.mounts.length+1) ((wk 3 0)) (⟨0,a,by omega,rfl,rfl,rfl⟩) ?_;rintro m t ⟨j,b,hj,rfl,hit,rfl⟩;refine q_ (w_ (m_ (h:=f_ (h:=l_ (h:=n_ (h:=E6 (h:=e_ (?_))))))));refine A8 rfl (fun hb1=>?_) (fun hb1=>?_)
 ·have hc1:=bp hb1;obtain⟨k,hk⟩:∃k,s.mounts.length+1 - j=k+1:=⟨s.mounts.length - j,by omega⟩;rw[hk]at hit;refine AB (q_ (Ag (w_ (l_ (h:=l_ (h:=?_))))));refine A7 rfl (AG (SW s b hs) ?_);rintro r rfl;refine m_ (h:=x_ (h:=x_ (h:=a_ (h:=a_ (h:=e_ (w_ (m_ (h:=e_ (?_)))))))));refine A8 rfl (fun hb2=>?_) (fun hb2=>?_)
  ·have hc2:=bp hb2;rw[E3,XM hc2]at hit;refine AR (m_ (h:=Ak (h:=s_ (h:=AP (Ah (t_ (AR (m_ (h:=BD (h:=a_ (h:=AP (?_))))))))))));refine AE ?_
   first|(refine⟨_,_,?_,⟨j+1,((D2 s b).getD 0,1),by omega,rfl,(by rw[show s.mounts.length+1 - (j+1)=k by omega];exact hit),rfl⟩,(wk 3 0)⟩;omega)|(refine⟨_,_,?_,⟨j+1,b,by omega,rfl,(by rw[show s.mounts.length+1 - (j+1)=k by omega];exact hit),rfl⟩,(wk 3 0)⟩;omega)
  have hc2:=bp hb2;rw[E3,PT hc2]at hit;refine Au (Ah (t_ (AR (m_ (h:=BD (h:=a_ (h:=AP (?_))))))));refine AE ?_
  first|(refine⟨_,_,?_,⟨j+1,((D2 s b).getD 0,1),by omega,rfl,(by rw[show s.mounts.length+1 - (j+1)=k by omega];exact hit),rfl⟩,(wk 3 0)⟩;omega)|(refine⟨_,_,?_,⟨j+1,b,by omega,rfl,(by rw[show s.mounts.length+1 - (j+1)=k by omega];exact hit),rfl⟩,(wk 3 0)⟩;omega)
 have hc1:=bp hb1;have ej:s.mounts.length+1 - j=0:=by omega
 rw[ej]at hit;refine BT (Ao (Ao (BU (t_ (w_ (l_ (h:=s_ (h:=e_ (A4 (?_))))))))));refine A9 ?_;rw[←hit];rfl
end
def DY(c:J3):List AV:=[.v (.int .i64 c.1.1), .v (.int .i64 c.1.2), .v (.string c.2.1), .v (.int .i64 c.2.2.1.1), .v (.int .i64 c.2.2.1.2), .v (.int .i64 c.2.2.2.1), .v (.int .i64 c.2.2.2.2)]
section
theorem KA(d:AQ)(name:AT)(o n:AQ):AFn prog 233 [.agg (AN d), .v (.string name), .agg (AN o), .agg (AN n)] (fun r=>r= .sl 7 [DY (d,name,o,n)] none):=by
 refine enter Tryz.func233 rfl rfl rfl rfl rfl 0 rfl ?_;refine w_ (b_ (h:=b_ (h:=b_ (h:=a_ (h:=e_ (w_ (l_ (h:=m_ (h:=l_ (h:=l_ (h:=Ak (h:=Bd (h:=a_ (h:=e_ (A4 (?_))))))))))))))));refine A9 ?_;rfl
theorem Sm{n:Int}(h:n<1∨3<n):Eh n=([],50):=by unfold Eh;rw[if_pos h]
theorem XO{k:Nat}(h1:¬(k:Int)<1)(h2:¬3<(k:Int)):Eh (k:Int)=(List.replicate k Kk,0):=by unfold Eh;rw[if_neg (by omega)];simp
theorem XP(n:Int):AFn prog 110 [.v (.int .i64 n)] (fun r=>r= .tup [.agg (B0 (Eh n).1), .v (.int .i64 (Eh n).2)]):=by
 refine enter Tryz.func110 rfl rfl rfl rfl rfl 0 rfl ?_;refine w_ (Al (h:=a_ (h:=e_ (q_ (w_ (m_ (h:=BB (h:=m_ (h:=?_)))))))));refine AW false rfl rfl (fun hb1=>?_) (fun hb1=>?_)
 ·have hc1:=bp hb1;refine A3 (h:=A3 (h:=AF (h:=e_ (B8 (h:=w_ (Ak (h:=s_ (h:=a_ (h:=e_ (A4 (A6 (?_))))))))))));refine Ai (r:= .tup [.agg (B0 (Eh n).1), .v (.int .i64 (Eh n).2)]) none (h5:=?_) (h6:=⟨rfl,rfl,rfl⟩);rw[Sm (by omega)];exact(by repeat (first|exact AA _|exact LeA.nil _|exact LeL.refl _|refine LeA.agg ?_|refine LeA.tup ?_|exact LeL.nil|refine LeL.cons ?_ ?_|exact LeA.any _))
 have hc1:=bp hb1;refine m_ (h:=Bl (h:=AM (h:=e_ (?_))));refine A8 rfl (fun hb2=>?_) (fun hb2=>?_)
 ·have hc2:=bp hb2;refine w_ (Ak (h:=s_ (h:=a_ (h:=e_ (A4 (A6 (?_)))))));refine Ai (r:= .tup [.agg (B0 (Eh n).1), .v (.int .i64 (Eh n).2)]) none (h5:=?_) (h6:=⟨rfl,rfl,rfl⟩);rw[Sm (by omega)];exact(by repeat (first|exact AA _|exact LeA.nil _|exact LeL.refl _|refine LeA.agg ?_|refine LeA.tup ?_|exact LeL.nil|refine LeL.cons ?_ ?_|exact LeA.any _))
 have hc2:=bp hb2;obtain⟨k,rfl⟩:=Int.eq_ofNat_of_zero_le (show 0≤n by omega);refine AB (w_ (Al (h:=e_ (q_ (w_ (a_ (h:=e_ (Ag (?_)))))))));refine K4 1 0 148 2 rfl rfl (by repeat constructor) (by repeat constructor) (by repeat constructor) ?_;refine Be (fun m s=>∃j:Nat,j≤k∧m=k - j∧s=⟨look [(0, .v (.int .i64 (k:Int))),(2, .bp 0 0),(4, .bp 1 0),(5, .v (.int .i64 (j:Int)))],⟨[[.v (.slice none 0 0)],[.sl 2 ((List.replicate j Kk).map Cc) (some 0)]],[(148,2,(List.replicate j Kk).map Cc)]⟩⟩) (k) ((wk 2 1)) (⟨0,by omega,rfl,rfl⟩) ?_;rintro m s ⟨j,hj,rfl,rfl⟩;refine q_ (w_ (m_ (h:=m_ (h:=BB (h:=e_ (?_))))));refine A8 rfl (fun hb3=>?_) (fun hb3=>?_)
 ·have hc3:=bp hb3;refine AB (q_ (Ag (AR (f_ (h:=l_ (h:=?_))))));refine A7 rfl (FJ (y:= .agg (Am Nb)) (D8 ⟨rfl,rfl⟩) ?_);refine Bd (h:=Ak (h:=Bd (h:=?_)))
  first|refine A7 rfl (Dx rfl rfl rfl (by simp;omega) (by repeat constructor) ?_)|refine A7 rfl (Dy rfl rfl (by simp;omega) (by repeat constructor) ?_)
  refine f_ (h:=s_ (h:=AP (Ah (t_ (AR (m_ (h:=BD (h:=a_ (h:=AP (?_))))))))));refine AE ?_;refine⟨_,_,?_,⟨j+1,by omega,rfl,rfl⟩,(by rw[List.replicate_succ',List.map_append];exact(wk 2 1))⟩;omega
 have hc3:=bp hb3;obtain rfl:j=k:=by omega
 refine BT (Ao (Ao (BU (t_ (w_ (l_ (h:=s_ (h:=a_ (h:=e_ (A4 (?_)))))))))));refine A9 ?_;rw[XO hc1 hc2];rfl
end
def Hi(f:Aj)(top:AQ):Nat→AQ→Bool
 |0,_=>false
 |n+1,a=>if a.1≠top.1 then false else if a=top then true else Hi f top n (a.1,(B5 f a).parent)
section
theorem XQ(f:Aj)(a top:AQ)(hf:FlsB f):AFn prog 236 [.agg (B0 f), .agg (AN a), .agg (AN top)] (fun r=>r= .v (.bool (Hi f top 17 a))):=by
 refine enter Tryz.func236 rfl rfl rfl rfl rfl 0 rfl ?_;refine w_ (b_ (h:=b_ (h:=b_ (h:=a_ (h:=e_ (q_ (w_ (a_ (h:=e_ (Ag (?_)))))))))));refine Be (fun m s=>∃(j:Nat) (b:AQ),j≤17∧m=17 - j∧Hi f top (17 - j) b=Hi f top 17 a∧s=⟨look [(3, .bp 0 0),(4, .bp 1 0),(5, .bp 2 0),(7, .v (.int .i64 (j:Int)))],⟨[B0 f,AN b,AN top],[]⟩⟩) (17) ((wk 3 0)) (⟨0,a,by omega,rfl,rfl,rfl⟩) ?_;rintro m s ⟨j,b,hj,rfl,hit,rfl⟩;refine q_ (w_ (m_ (h:=E6 (h:=m_ (h:=?_)))));refine AW true rfl rfl (fun hb1=>?_) (fun hb1=>?_)
 ·have hc1:=bp hb1;obtain⟨k,hk⟩:∃k,17 - j=k+1:=⟨16 - j,by omega⟩;rw[hk,Hi]at hit;refine f_ (h:=l_ (h:=f_ (h:=l_ (h:=AD (h:=AF (h:=e_ (?_)))))));refine A8 rfl (fun hb2=>?_) (fun hb2=>?_)
  ·have hc2:=bp hb2;rw[if_neg (by simpa using hc2)]at hit;refine AB (q_ (Ag (q_ (w_ (l_ (h:=l_ (h:=?_)))))));refine A7 rfl (Ha rfl rfl (by repeat constructor) (by repeat constructor) (fun w=>Nc _ _ _ _ w) (by kernel_rfl) ?_);refine e_ (?_);refine A8 rfl (fun hb3=>?_) (fun hb3=>?_)
   ·have hc3:=bp hb3;rw[if_pos (show b=top from hc3)]at hit;refine w_ (a_ (h:=e_ (A4 (A6 (AK (A6 (A6 (AK (A6 (?_))))))))));refine A9 ?_;exact vb hit
   have hc3:=bp hb3;rw[if_neg (show¬b=top from hc3)]at hit;refine AB (w_ (l_ (h:=l_ (h:=?_))));refine A7 rfl (AG (E0 f b hf) ?_);rintro r rfl;refine m_ (h:=x_ (h:=x_ (h:=Al (h:=s_ (h:=a_ (h:=e_ (AR (f_ (h:=l_ (h:=f_ (h:=s_ (h:=AP (Ah (t_ (AR (m_ (h:=BD (h:=a_ (h:=AP (?_))))))))))))))))))));refine AE ?_;refine⟨_,_,?_,⟨j+1,(b.1,(B5 f b).parent),by omega,rfl,(by rw[show 17 - (j+1)=k by omega];exact hit),rfl⟩,(wk 3 0)⟩;omega
  have hc2:=bp hb2;rw[if_pos hc2]at hit;refine BT (Ao (Ao (BU (t_ (w_ (a_ (h:=e_ (A4 (?_)))))))));refine A9 ?_;exact vb hit
 have hc1:=bp hb1;have ej:17 - j=0:=by omega
 rw[ej,Hi]at hit;refine A3 (h:=A3 (h:=A3 (h:=A3 (h:=A3 (h:=AM (h:=e_ (Bp (h:=BT (Ao (Ao (BU (t_ (w_ (a_ (h:=e_ (A4 (?_)))))))))))))))));refine A9 ?_;exact vb hit
end
theorem KC{α:Type}{p:α→Bool}{l:List α}{j:Nat}{x:α}(hx:l[j]?=some x)(hp:p x=true):l.any p=true:=List.any_eq_true.2 ⟨x,Aw hx,hp⟩
theorem Kn{α:Type}{p:α→Bool}{l:List α}(h:∀i y,i<l.length→l[i]?=some y→p y=false):l.any p=false:=by
 rw[List.any_eq_false];intro x hx;obtain⟨i,hi,rfl⟩:=List.mem_iff_getElem.1 hx;simp[h i _ hi (BJ hi)]
theorem SetAt.det{α:Type}{l xs a b:List α}{n:Nat}(h:SetAt l n xs a):SetAt l n xs b→a=b:=by
 induction h generalizing b with
 |nil l n=>intro k;cases k;rfl
 |here a x l xs l' _ ih=>intro k;cases k with|here _ _ _ _ _ k=>rw[ih k]
 |there a x l xs l' n _ ih=>intro k;cases k with|there _ _ _ _ _ _ k=>rw[ih k]
def CD(sz cap:Nat)(rows:List (List AV)):List AV:=rows.flatten++List.replicate ((cap - rows.length) * sz) .any
theorem PU{sz cap:Nat}{rows:List (List AV)}(h:∀r∈rows,r.length=sz)(hc:rows.length≤cap):(CD sz cap rows).length=cap * sz:=by
 unfold CD;rw[List.length_append,K5 h,List.length_replicate,←Nat.add_mul]
 congr 1
 omega
theorem Sn{sz cap:Nat}{rows:List (List AV)}(h:∀r∈rows,r.length=sz):((CD sz cap rows).drop 0).take (rows.length * sz)=rows.flatten:=by
 unfold CD;rw[List.drop_zero,List.take_left' (K5 h)]
theorem So{sz cap:Nat}{rows:List (List AV)}{r row':List AV}(h:∀x∈rows,x.length=sz)(hr:r.length=sz)(hp:0<sz)(hc:rows.length+1≤cap)(hs:SetAt (CD sz cap rows) (0+rows.length * sz) r row'):row'=CD sz cap (rows++[r]):=by
 refine hs.det ?_;unfold CD
 have e:List.replicate ((cap - rows.length) * sz) AV.any=List.replicate sz AV.any++List.replicate ((cap - (rows++[r]).length) * sz) AV.any:=by
  rw[List.replicate_append_replicate]
  congr 1
  rw[show(rows++[r]).length=rows.length+1 by simp,show cap - rows.length=(cap - (rows.length+1))+1 by omega,Nat.add_mul];omega
 rw[e,Nat.zero_add,List.flatten_append,List.append_assoc];have key:=SetAt.right (SetAt.whole (xs:=r) (l:=List.replicate sz AV.any) (b:=List.replicate ((cap - (rows++[r]).length) * sz) AV.any) (by simp[hr])) rows.flatten (fun e=>by rw[e]at hr;simp at hr;omega);rw[K5 h,Nat.add_zero]at key
 simpa using key
theorem Sq{sz cap:Nat}{rows:List (List AV)}{r:List AV}(h:∀x∈rows,x.length=sz){cap0 n:Nat}(hn:n=rows.length):((CD sz cap0 rows).drop 0).take (n * sz)++r++List.replicate ((cap - (n+1)) * sz) .any=CD sz cap (rows++[r]):=by
 subst hn;rw[Sn h];unfold CD;simp
def Gg(d:Dvc)(j cap1:Nat):List AV:=[.v (.int .i64 d.next), .bs j 0 8 d.nodes.length cap1]
theorem Sr(l:List Dvc):∀r∈l.map Cc,r.length=2:=by
 intro r hr;obtain⟨d,_,rfl⟩:=List.mem_map.1 hr;rfl
theorem Jf(l:List Nod):∀r∈l.map Am,r.length=8:=by
 intro r hr;obtain⟨d,_,rfl⟩:=List.mem_map.1 hr;rfl
end Go.Proofs.YtbgnigjfkbmceaaGreatDoor
namespace Go.Proofs.YtbgnigjfkbmceaaGreatDoor.Old
open Go.RowKit
def PV(D:Nat→Prop)(w w':World):Prop:=∀b,D b→w'.heap[b]?=w.heap[b]?
def Old(w:World):Nat→Prop:=fun b=>b<w.heap.size
def few:Nat:=65536
theorem PW{B:Nat}{a w:World}(h:Below B a w)(n:Nat):Below B a (w.drewN n):=⟨h.os,h.tape,h.output,h.size,h.block⟩
theorem Nh{w w':World}(h:Below w.heap.size w w'):PV (Old w) w w':=fun b hb=>h.block b hb
theorem PX{w w':World}(h:Below w.heap.size w w')(g:Option Nat):w.grownBy w' g:=⟨h.os,h.tape,h.output,h.size,fun k hk _=>h.block k hk⟩
def RowL{α:Type}(sz:Nat)(cell:α→Nat→Value)(w:World)(D:Nat→Prop)(A:Option Addr)(xs:List α):Prop:=
 0<xs.length→∃b off,A=some ⟨b,off,none⟩∧D b∧∀i x j,xs[i]?=some x→j<sz→w.cell? ⟨b,off+i * sz+j,none⟩=some (cell x j)
def ListR{α:Type}(sz:Nat)(cell:α→Nat→Value)(w:World)(D:Nat→Prop)(v:Value)(xs:List α):Prop:=
 ∃A c,v= .slice A xs.length c∧xs.length≤c∧xs.length≤few∧RowL sz cell w D A xs
section
variable {α:Type}{sz:Nat}{cell:α→Nat→Value}{w w':World}{D D':Nat→Prop}{A:Option Addr}{v:Value}{xs:List α}
theorem RowL.keep(h:RowL sz cell w D A xs)(hs:PV D w w'):RowL sz cell w' D A xs:=by
 intro hn;obtain⟨b,off,rfl,hb,hc⟩:=h hn;exact⟨b,off,rfl,hb,fun i x j hi hj=>(World.cell?_of_block (w:=w) (a:=⟨b,off+i * sz+j,none⟩) (hs b hb)).trans (hc i x j hi hj)⟩
theorem ListR.keep(h:ListR sz cell w D v xs)(hs:PV D w w'):ListR sz cell w' D v xs:=by
 obtain⟨A,c,rfl,h1,h2,h3⟩:=h;exact⟨A,c,rfl,h1,h2,h3.keep hs⟩
end
def entCell(e:Bc):Nat→Value
 |0=> .string e.1
 |_=> .int .i64 e.2
def nodCell(n:Nod×Value):Nat→Value
 |0=> .int .i64 n.1.ino
 |1=> .int .i64 n.1.kind
 |2=> .int .i64 n.1.mode
 |3=> .int .i64 n.1.uid
 |4=> .int .i64 n.1.gid
 |5=> .int .i64 n.1.parent
 |6=> .string n.1.target
 |_=>n.2
def dvcCell(d:Dvc×Value):Nat→Value
 |0=> .int .i64 d.1.next
 |_=>d.2
abbrev EntsR:=ListR 2 entCell
def NodsR(w:World)(D:Nat→Prop)(v:Value)(ns:List Nod):Prop:=
 ∃xs:List (Nod×Value),xs.map (·.1)=ns∧ListR 8 nodCell w D v xs∧∀x∈xs,EntsR w D x.2 x.1.entries
def XR(w:World)(D:Nat→Prop)(v:Value)(f:Aj):Prop:=
 ∃xs:List (Dvc×Value),xs.map (·.1)=f∧ListR 2 dvcCell w D v xs∧∀x∈xs,NodsR w D x.2 x.1.nodes
def FlsR(w:World)(D:Nat→Prop)(v:Value)(f:Aj):Prop:=∃d,v= .agg #[d]∧XR w D d f
theorem KD{a b:Bool}(h:a=b):Ending.returned (.bool a)= .returned (.bool b):=by rw[h]
theorem XS{α β:Type}{g:α→β}{xs:List α}{ys:List β}(h:xs.map g=ys):xs.length=ys.length:=by
 subst h;simp
theorem Ko{w:World}{g:Nat}{cs:Array Value}{t:TypeId}{fz:Nat×Nat}(h:w.heap[g]?=some (.cells cs t fz))(i:Nat):w.cell? ⟨g,i,none⟩=cs[i]?:=by
 simp[World.cell?,h]
theorem XT{w:World}{g:Nat}{cs:Array Value}{t:TypeId}(h:w.heap[g]?=some (.cells cs t (0,0)))(i:Nat):w.frozen? ⟨g,i,none⟩=false:=by
 simp[World.frozen?,h]
theorem Lq{w w':World}{b:Nat}{row:Option Nat}{o:Obj}(h:w.heap[b]?=some o)(hg:w.grownBy w' row)(hne:some b≠row):w'.heap[b]?=some o:=by
 have hb:b<w.heap.size:=by
  rcases Nat.lt_or_ge b w.heap.size with hlt|hge
  ·exact hlt
  rw[Array.getElem?_eq_none hge]at h;cases h
 exact(hg.block b hb hne).trans h
theorem GC{w:World}{b:Nat}{o:Obj}(h:w.heap[b]?=some o)(o':Obj):(w.alloc o').heap[b]?=some o:=by
 have hb:b<w.heap.size:=by
  rcases Nat.lt_or_ge b w.heap.size with hlt|hge
  ·exact hlt
  rw[Array.getElem?_eq_none hge]at h;cases h
 exact(Below.heap_alloc w o' b hb).trans h
theorem Lr{w:World}{g:Nat}{cs:Array Value}{t:TypeId}(h:w.heap[g]?=some (.cells cs t (0,0))):(∀i,w.cell? ⟨g,i,none⟩=cs[i]?)∧(∀i,w.frozen? ⟨g,i,none⟩=false):=
 ⟨fun i=>Ko h i,fun i=>XT h i⟩
theorem Ss{w:World}{b:Nat}{cs:Array Value}{t:TypeId}{fz:Nat×Nat}(h:w.heap[b]?=some (.cells cs t fz))(i:Nat)(u:Value):(w.setCell ⟨b,i,none⟩ u).heap[b]?=some (.cells (cs.setIfInBounds i u) t fz):=by
 simp[World.setCell,Array.getElem?_modify,h]
theorem PY{w:World}{b:Nat}{o:Obj}(h:w.heap[b]?=some o){p:Addr}(hp:b≠p.block)(u:Value):(w.setCell p u).heap[b]?=some o:=(Below.heap_setCell w p u b hp).trans h
theorem Hj{w w':World}{b B:Nat}{o:Obj}(h:w.heap[b]?=some o)(hg:Below B w w')(hb:b<B):w'.heap[b]?=some o:=(hg.block b hb).trans h
theorem Jg(w:World)(o1:Obj):Below w.heap.size w (w.alloc o1):=by
 exact(Below.refl _ w).alloc (BN _) _
theorem XU(w:World)(o1:Obj):(w.alloc o1).heap.size=w.heap.size+1:=by simp
theorem Ni(w:World)(o1:Obj):(w.alloc o1).heap[w.heap.size]?=some o1:=(by have:=heap_alloc_new w o1;simpa using this)
theorem XV{w w1:World}{o1:Obj}(h:Below (w.alloc o1).heap.size (w.alloc o1) w1):Below w.heap.size w w1∧w.heap.size+1≤w1.heap.size∧w1.heap[w.heap.size]?=some o1:=by
 have hs:=h.size;rw[XU]at hs;exact⟨(Jg w o1).trans (h.mono (by simp<;>omega)),hs,Hj (Ni w o1) h (by simp)⟩
theorem Ls(w:World)(o1 o2:Obj):Below w.heap.size w ((w.alloc o1).alloc o2):=by
 exact(Jg w o1).alloc (by simp<;>omega) _
theorem Nj(w:World)(o1 o2:Obj):((w.alloc o1).alloc o2).heap[w.heap.size]?=some o1:=GC (Ni w o1) _
theorem Nk(w:World)(o1 o2:Obj):((w.alloc o1).alloc o2).heap[w.heap.size+1]?=some o2:=(by have:=heap_alloc_new (w.alloc o1) o2;simpa using this)
theorem PZ(w:World)(o1 o2 o3:Obj):Below w.heap.size w (((w.alloc o1).alloc o2).alloc o3):=by
 exact(Ls w o1 o2).alloc (by simp<;>omega) _
theorem Pa(w:World)(o1 o2 o3:Obj):(((w.alloc o1).alloc o2).alloc o3).heap[w.heap.size]?=some o1:=GC (Nj w o1 o2) _
theorem Pb(w:World)(o1 o2 o3:Obj):(((w.alloc o1).alloc o2).alloc o3).heap[w.heap.size+1]?=some o2:=GC (Nk w o1 o2) _
theorem Pc(w:World)(o1 o2 o3:Obj):(((w.alloc o1).alloc o2).alloc o3).heap[w.heap.size+1+1]?=some o3:=(by have:=heap_alloc_new ((w.alloc o1).alloc o2) o3;simpa using this)
end Go.Proofs.YtbgnigjfkbmceaaGreatDoor.Old
namespace Go.Proofs.YtbgnigjfkbmceaaGreatDoor.Old
open Go.RowKit
def flat{α:Type}(sz:Nat)(cell:α→Nat→Value)(xs:List α):List Value:=xs.flatMap fun x=>(List.range sz).map (cell x)
section
variable {α:Type}{sz:Nat}{cell:α→Nat→Value}
theorem flat_length(xs:List α):(flat sz cell xs).length=xs.length * sz:=by
 induction xs with
 |nil=>simp[flat]
 |cons x xs ih=>
   unfold flat at ih ⊢;rw[List.flatMap_cons,List.length_append,ih];simp[Nat.add_mul,Nat.add_comm]
theorem XW(xs ys:List α):flat sz cell (xs++ys)=flat sz cell xs++flat sz cell ys:=by simp[flat]
theorem flat_get(xs:List α):∀(i j:Nat) (x:α),xs[i]?=some x→j<sz→(flat sz cell xs)[i * sz+j]?=some (cell x j):=by
 induction xs with
 |nil=>intro i j x h;simp at h
 |cons y ys ih=>
   intro i j x h hj;have e:flat sz cell (y::ys)=(List.range sz).map (cell y)++flat sz cell ys:=by simp[flat]
   rw[e]
   cases i with
   |zero=>
     simp at h;subst h;rw[Ck (by simpa using hj)];simp[hj]
   |succ i=>
     rw[Dj (by simp[Nat.add_mul];omega)];simp only[List.getElem?_cons_succ]at h;have:=ih i j x h hj;rw[←this]
     congr 1
     simp[Nat.add_mul];omega
theorem Su(xs:List α)(hsz:0<sz){k:Nat}{u:Value}(h:(flat sz cell xs)[k]?=some u):∃x,xs[k / sz]?=some x∧u=cell x (k % sz):=by
 have hk:k<xs.length * sz:=by
  have:=(At.1 h).1
  rwa [flat_length]at this
 have hq:k / sz<xs.length:=(Nat.div_lt_iff_lt_mul hsz).2 hk;have hx:xs[k / sz]?=some xs[k / sz]:=BJ hq;have:=flat_get (cell:=cell) xs (k / sz) (k % sz) _ hx (Nat.mod_lt _ hsz);rw[Nat.mul_comm,Nat.div_add_mod,h]at this;injection this with this;exact⟨_,hx,this⟩
def Ones(w:World)(v:Value):Prop:=∀(g:Nat) (cs:Array Value) (t:TypeId),v.ownBlock=some g→w.heap[g]?=some (.cells cs t (0,0))→∀u∈cs.toList,u.oneCell'=true
theorem Ones.of_block{w w':World}{v:Value}(h:Ones w v)(hb:∀g,v.ownBlock=some g→w'.heap[g]?=w.heap[g]?):Ones w' v:=fun g cs t hg hc=>h g cs t hg ((hb g hg).symm.trans hc)
theorem Ones.nil_(w:World):Ones w (.slice none 0 0):=fun g cs t hg=>by simp[Value.ownBlock]at hg
def OwnL(sz:Nat)(cell:α→Nat→Value)(E:TypeId)(w:World)(base:Nat)(v:Value)(xs:List α):Prop:=
 w.ownsRow base E sz v xs.length (flat sz cell xs)∧Ones w v
theorem OwnL.nil_(E:TypeId)(w:World)(base:Nat):OwnL sz cell E w base (.slice none 0 0) []:=⟨World.ownsRow_nil w base E sz,Ones.nil_ w⟩
theorem OwnL.kept{E:TypeId}{w w':World}{base:Nat}{v:Value}{xs:List α}(h:OwnL sz cell E w base v xs){row:Option Nat}(hg:w.grownBy w' row)(hne:v.ownBlock=none∨v.ownBlock≠row):OwnL sz cell E w' base v xs:=by
 refine⟨World.ownsRow.kept h.1 hg hne,h.2.of_block fun g hb=>hg.block g (World.ownsRow.lt h.1 g hb).2 ?_⟩;rcases hne with e|e
 ·rw[e]at hb;cases hb
 rw[←hb];exact e
theorem OwnL.alloc{E:TypeId}{w:World}{base:Nat}{v:Value}{xs:List α}(h:OwnL sz cell E w base v xs)(o:Obj):OwnL sz cell E (w.alloc o) base v xs:=
 ⟨World.ownsRow.alloc h.1 o,h.2.of_block fun g hb=>heap_alloc_old w o (World.ownsRow.lt h.1 g hb).2⟩
theorem OwnL.below{E:TypeId}{w w':World}{base:Nat}{v:Value}{xs:List α}(h:OwnL sz cell E w base v xs)(hb:Below w.heap.size w w'):OwnL sz cell E w' base v xs:=
 h.kept (PX hb none) (by cases v.ownBlock<;>simp)
theorem OwnL.set_{E:TypeId}{w:World}{base:Nat}{v:Value}{xs:List α}(h:OwnL sz cell E w base v xs){p:Addr}(hp:v.ownBlock≠some p.block)(u:Value):OwnL sz cell E (w.setCell p u) base v xs:=
 h.kept (row:=some p.block) ⟨rfl,rfl,rfl,by simp[World.setCell],fun k _ hne=>Below.heap_setCell w p u k (fun e=>hne (by rw[e]))⟩ (.inr hp)
theorem OwnL.setb{E:TypeId}{w:World}{base:Nat}{v:Value}{xs:List α}(h:OwnL sz cell E w base v xs){p:Addr}(hp:p.block<base)(u:Value):OwnL sz cell E (w.setCell p u) base v xs:=
 h.set_ (fun e=>by have:=(World.ownsRow.lt h.1 _ e).1;omega) u
theorem OwnL.lt{E:TypeId}{w:World}{base:Nat}{v:Value}{xs:List α}(h:OwnL sz cell E w base v xs):∀k,v.ownBlock=some k→base≤k∧k<w.heap.size:=World.ownsRow.lt h.1
theorem OwnL.ne_{E:TypeId}{w:World}{base:Nat}{v:Value}{xs:List α}(h:OwnL sz cell E w base v xs){g:Nat}{t:TypeId}{cs:Array Value}(hg:w.heap[g]?=some (.cells cs t (0,0)))(hne:E≠t):v.ownBlock≠some g:=by
 rcases h.1.2 with⟨rfl,_⟩|⟨g',cap,cur,rfl,_,hh,_⟩
 ·simp[Value.ownBlock]
 intro he;have:g'=g:=by simpa[Value.ownBlock]using he
 subst this;rw[hg]at hh;injection hh with hh;injection hh with _ ht;exact hne ht.symm
theorem OwnL.form{E:TypeId}{w:World}{base:Nat}{v:Value}{xs:List α}(h:OwnL sz cell E w base v xs):∃A c,v= .slice A xs.length c:=by
 rcases h.1.2 with⟨rfl,hn⟩|⟨g,cap,cur,rfl,_⟩
 ·exact⟨none,0,by rw[hn]⟩
 exact⟨_,_,rfl⟩
end
def JA(T E sz bytes:Nat):Prop:=prog.underlying T=some (.slice E)∧∃i z,prog.info? E=some i∧i.zero=some z∧i.size=sz∧i.bytes=bytes∧z.cells.size=sz∧(z.cells.toList.all (·.oneCell'))=true
theorem Pd{T E sz bytes:Nat}{z:Value}(hT:prog.underlying T=some (.slice E))(h:(prog.info? E).map (fun i=>(i.zero,i.size,i.bytes))=some (some z,sz,bytes))(hz:z.cells.size=sz)(h1:(z.cells.toList.all (·.oneCell'))=true):JA T E sz bytes:=by
 refine⟨hT,?_⟩
 cases hi:prog.info? E with
 |none=>rw[hi]at h;cases h
 |some i=>
   rw[hi]at h;simp only[Option.map_some,Option.some.injEq,Prod.mk.injEq]at h;exact⟨i,z,rfl,h.1,h.2.1,h.2.2,hz,h1⟩
theorem XX{P:Program}{w:World}{base:Nat}{t ty e:TypeId}{i:TypeInfo}{size:Nat}(ht:P.underlying t=some (.slice e))(hi:P.info? e=some i)
    {v:Value} {n:Nat} {xs:List Value} (hown:w.ownsRow base e size v n xs) (c:Nat):(Builtin.append_ #[t,t] ty #[v, .slice none 0 c]).run P w= .ok v w:=by
 rcases hown.2 with⟨rfl,rfl⟩|⟨g,cap,cur,rfl,_,_,hnc,_⟩
 ·simp[Builtin.append_,run_underlying ht,sizeOf,typeInfo,hi,Builtin.lenOf,Builtin.firstCells]
 simp[Builtin.append_,run_underlying ht,sizeOf,typeInfo,hi,Builtin.lenOf,Builtin.firstCells,hnc,storeCells]
section
variable {α:Type}{sz:Nat}{cell:α→Nat→Value}
theorem Sv{z:Array Value}(h:(z.toList.all (·.oneCell'))=true){k:Nat}{u:Value}(hu:u∈Builtin.zeroCells z k):u.oneCell'=true:=by
 simp only[Builtin.zeroCells,Array.mem_map,Array.mem_range]at hu;obtain⟨i,hi2,rfl⟩:=hu
 have hpos:0<z.size:=by
  rcases Nat.eq_zero_or_pos z.size with e|e
  ·rw[e]at hi2;simp at hi2
  exact e
 have hlt:i % z.size<z.size:=Nat.mod_lt _ hpos;rw[getElem!_pos z _ hlt];exact List.all_eq_true.1 h _ (by simp)
set_option maxRecDepth 10000 in
theorem Sw{w:World}{T E bytes ty:Nat}(hE:JA T E sz bytes)(hsz:0<sz)(hby:bytes≤100000){base:Nat}{v:Value}{n:Nat}{xs:List Value}(hown:w.ownsRow base E sz v n xs)(h1:Ones w v)
    (ad:Addr) (m c:Nat) (news:List Value) (hl:news.length=m * sz) (hnews:∀j u,news[j]?=some u→w.cell? (ad.add j)=some u) (hone:∀u∈news,u.oneCell'=true) (hf:n≤1000000) (hm:m≤1000000) {v':Value} {w':World}
    (hrun:(Builtin.append_ #[T,T] ty #[v, .slice (some ad) m c]).run prog w= .ok v' w') (hnil:v'= .slice none 0 0↔v= .slice none 0 0∧m=0):Ones w' v':=by
 obtain⟨ht,i,z,hi,hz,hs,hb,hzs,hz1⟩:=hE;subst hs;have hbb:(n+m) * bytes≤2000000 * 100000:=Nat.mul_le_mul (by omega) hby;rcases hown.2 with⟨rfl,rfl⟩|⟨g,cap,cur,rfl,hbg,hg,hnc,hcm,hcs,htk⟩
 ·rcases Nat.eq_zero_or_pos m with h0|h0
  ·rw[hnil.2 ⟨rfl,h0⟩];exact Ones.nil_ _
  have hr:=run_append_nil (P:=prog) w T ty E i z ht hi hz ad m c news hl hnews h0 (by omega) (by rw[hb];rw[Nat.zero_add]at hbb;omega);have hq:=hrun.symm.trans hr;simp only[Result.ok.injEq]at hq;obtain⟨rfl,rfl⟩:=hq;intro g cs t hgg hc u hu;have:g=w.heap.size:=by simpa[Value.ownBlock]using hgg.symm
  subst this;have hn:=heap_alloc_new w.drew (.cells (news.toArray++Builtin.zeroCells z.cells (grownCap w m 0 E - m)) E);have hn':(w.drew.alloc (.cells (news.toArray++Builtin.zeroCells z.cells (grownCap w m 0 E - m)) E)).heap[w.heap.size]?=some (.cells (news.toArray++Builtin.zeroCells z.cells (grownCap w m 0 E - m)) E):=hn;rw[hn']at hc;injection hc with hc;injection hc with hc _;subst hc;rcases Array.mem_append.1 (Array.mem_toList_iff.1 hu)with h|h
  ·exact hone u (by simpa using h)
  exact Sv hz1 h
 have hgc:w.heap[g]?=some (.cells cur.toList.toArray E (0,0)):=by simpa using hg
 by_cases hroom:n+m≤cap
 ·have hfit:n * i.size+news.length≤cur.size:=by
     rw[hcs,hl,←Nat.add_mul];exact Nat.mul_le_mul_right _ hroom
  have hr:=run_append_room_cells (P:=prog) w T ty E i ht hi g 0 n cap ad m c news hl hnews hone hroom (fun j hj=>by
   have:0+n * i.size+j<cur.size:=by omega
   simp only[World.cell?,hg];simp;omega) (fun j hj=>by simp[World.frozen?,hg])
  have hq:=hrun.symm.trans hr;simp only[Result.ok.injEq]at hq;obtain⟨rfl,rfl⟩:=hq;obtain⟨r1,_⟩:=Mp g E news (0+n * i.size) cur.toList w hgc;intro g' cs t hgg hc u hu;have:g'=g:=by simpa[Value.ownBlock]using hgg.symm
  subst this;rw[r1]at hc;injection hc with hc;injection hc with hc _;subst hc;rcases LR news _ _ u (by simpa using hu)with h|h
  ·exact h1 g' cur E rfl hg u h
  exact hone u h
 have hr:=run_append_grow (P:=prog) w T ty E i z ht hi hz ⟨g,0,none⟩ n cap xs hown.1 (fun j u hj=>by
  rw[Addr.add_mid];simp only[World.cell?,hg];rw[←htk,List.getElem?_take]at hj;split at hj
  ·simpa using hj
  cases hj) ad m c news hl hnews (by omega) (by omega) (growslice_fits (by omega) (by rw[hb];omega))
 have hq:=hrun.symm.trans hr;simp only[Result.ok.injEq]at hq;obtain⟨rfl,rfl⟩:=hq;intro g' cs t hgg hc u hu;have:g'=w.heap.size:=by simpa[Value.ownBlock]using hgg.symm
 subst this;have hn':(w.drew.alloc (.cells (xs.toArray++news.toArray++Builtin.zeroCells z.cells (grownCap w (n+m) cap E - (n+m))) E)).heap[w.heap.size]?=some (.cells (xs.toArray++news.toArray++Builtin.zeroCells z.cells (grownCap w (n+m) cap E - (n+m))) E):=heap_alloc_new w.drew _;rw[hn']at hc;injection hc with hc;injection hc with hc _;subst hc;rcases Array.mem_append.1 (Array.mem_toList_iff.1 hu)with h|h
 ·rcases Array.mem_append.1 h with h|h
  ·have hx:u∈xs:=by simpa using h
   rw[←htk]at hx;exact h1 g cur E rfl hg u (List.mem_of_mem_take hx)
  exact hone u (by simpa using h)
 exact Sv hz1 h
theorem XY{w:World}{T E bytes ty:Nat}(hE:JA T E sz bytes)(hsz:0<sz)(hby:bytes≤100000){base:Nat}{v sv:Value}{xs ys:List α}{D:Nat→Prop}(hown:OwnL sz cell E w base v xs)(hr:ListR sz cell w D sv ys)
    (h1:∀y∈ys,∀j,j<sz→(cell y j).oneCell'=true) (hf:xs.length≤1000000) (hbase:base≤w.heap.size):
    ∃v' w',(Builtin.append_ #[T,T] ty #[v,sv]).run prog w= .ok v' w'∧OwnL sz cell E w' base v' (xs++ys)∧w.grownBy w' v.ownBlock∧(v'.ownBlock=v.ownBlock∨v'.ownBlock=some w.heap.size):=by
 have hE0:=hE;obtain⟨ht,i,z,hi,hz,hs,hb,hzs,hz1⟩:=hE;obtain⟨A,c,rfl,hlc,hfew,hrow⟩:=hr;unfold few at hfew;rcases Nat.eq_zero_or_pos ys.length with h0|h0
 ·have hy:ys=[]:=ER h0;subst hy;rcases A with _|ad
  ·exact⟨v,w,XX ht hi hown.1 c,by simpa using hown,World.grownBy.refl w _, .inl rfl⟩
  obtain⟨v',w',hrun,h2,h3,h4,h5⟩:=run_append_own_at (P:=prog) w base T ty E i z sz bytes ht hi hz hs hb hzs hsz v xs.length _ hown.1 ad 0 c [] (by simp) (by simp) (by simp) (by unfold maxLen;omega) (by
   have:(xs.length+0) * bytes≤1000000 * 100000:=Nat.mul_le_mul (by omega) hby
   omega) hbase
  exact⟨v',w',hrun,⟨by simpa using h2,Sw hE0 hsz hby hown.1 hown.2 ad 0 c [] (by simp) (by simp) (by simp) hf (by omega) hrun h4⟩,h3,h5⟩
 obtain⟨b,off,rfl,_,hcell⟩:=hrow h0
 have hcl:∀j u,(flat sz cell ys)[j]?=some u→w.cell? ((⟨b,off,none⟩:Addr).add j)=some u:=by
  intro j u hu;obtain⟨x,hx,rfl⟩:=Su ys hsz hu;have hcl:=hcell _ x (j % sz) hx (Nat.mod_lt _ hsz)
  have hm:off+j / sz * sz+j % sz=off+j:=by
   have:=Nat.div_add_mod j sz;rw[Nat.mul_comm]at this;omega
  rw[hm]at hcl;rw[Addr.add_lit];exact hcl
 have hon:∀u∈flat sz cell ys,u.oneCell'=true:=by
  intro u hu;obtain⟨k,hk⟩:=List.mem_iff_getElem?.1 hu;obtain⟨x,hx,rfl⟩:=Su ys hsz hk;exact h1 x (Aw hx) _ (Nat.mod_lt _ hsz)
 obtain⟨v',w',hrun,h2,h3,h4,h5⟩:=run_append_own_at (P:=prog) w base T ty E i z sz bytes ht hi hz hs hb hzs hsz v xs.length _ hown.1 ⟨b,off,none⟩ ys.length c (flat sz cell ys) (flat_length ys) hcl hon (by unfold maxLen;omega) (by
     have:(xs.length+ys.length) * bytes≤1100000 * 100000:=Nat.mul_le_mul (by omega) hby
     omega) hbase
 exact⟨v',w',hrun,⟨by rw[XW,List.length_append];exact h2,Sw hE0 hsz hby hown.1 hown.2 _ _ c _ (flat_length ys) hcl hon hf (by omega) hrun h4⟩,h3,h5⟩
theorem XZ{w:World}{o:Oper}{a:Act}{K:Act→World→Prop}{Q:Exit→Act→World→Prop}(s x:Operand)(T:TypeId)
    (ho:o.op= .call {callee:= .builtin .append,args:=#[s,x],argTypes:=#[T,T]}) {E bytes:Nat} (hE:JA T E sz bytes) (hsz:0<sz) (hby:bytes≤100000)
    {base:Nat} {v sv:Value} {xs ys:List α} {D:Nat→Prop} (hs:a.eval s=v) (hx:a.eval x=sv) (hown:OwnL sz cell E w base v xs) (hr:ListR sz cell w D sv ys)
    (h1:∀y∈ys,∀j,j<sz→(cell y j).oneCell'=true) (hf:xs.length≤1000000) (hbase:base≤w.heap.size)
    (h:∀v' w',OwnL sz cell E w' base v' (xs++ys)→w.grownBy w' v.ownBlock→(v'.ownBlock=v.ownBlock∨v'.ownBlock=some w.heap.size)→K (a.put o.dst v') w'):o.wp prog a w K Q:=by
 obtain⟨v',w',hrun,h2,h3,h4⟩:=XY (ty:=o.type) hE hsz hby hown hr h1 hf hbase;unfold Oper.wp execOp;simp only[ho,resolve,invoke,builtin,Sem.run_bind,Sem.run_pure,Result.andThen_ok,List.map_toArray,List.map_cons,List.map_nil,hs,hx,hrun];exact h v' w' h2 h3 h4
theorem Pe{w:World}{ops:Array Oper}{rest:List Oper}{o:Oper}{a:Act}{Q:Exit→Act→World→Prop}(hgd:o.guard=none)(s x:Operand)(T:TypeId)
    (ho:o.op= .call {callee:= .builtin .append,args:=#[s,x],argTypes:=#[T,T]}) {E bytes:Nat} (hE:JA T E sz bytes) (hsz:0<sz) (hby:bytes≤100000)
    {base:Nat} {v sv:Value} {xs ys:List α} {D:Nat→Prop} (hs:a.eval s=v) (hx:a.eval x=sv) (hown:OwnL sz cell E w base v xs) (hr:ListR sz cell w D sv ys)
    (h1:∀y∈ys,∀j,j<sz→(cell y j).oneCell'=true) (hf:xs.length≤1000000) (hbase:base≤w.heap.size)
    (h:∀v' w',OwnL sz cell E w' base v' (xs++ys)→w.grownBy w' v.ownBlock→(v'.ownBlock=v.ownBlock∨v'.ownBlock=some w.heap.size)→wpList prog ops Q rest (a.put o.dst v') w'):wpList prog ops Q (o::rest) a w:=
 wpList_plain hgd fun _ hK=>XZ s x T ho hE hsz hby hs hx hown hr h1 hf hbase fun v' w' h2 h3 h4=>hK _ _ (h v' w' h2 h3 h4)
theorem OwnL.mono{E:TypeId}{w:World}{base base':Nat}{v:Value}{xs:List α}(h:OwnL sz cell E w base v xs)(hb:base'≤base):OwnL sz cell E w base' v xs:=by
 refine⟨⟨h.1.1,?_⟩,h.2⟩;rcases h.1.2 with h'|⟨g,cap,cur,hv,hg,r⟩
 ·exact .inl h'
 exact .inr ⟨g,cap,cur,hv,Nat.le_trans hb hg,r⟩
theorem Xa{w:World}{ops:Array Oper}{rest:List Oper}{o:Oper}{a:Act}{Q:Exit→Act→World→Prop}(hgd:o.guard=none)(s x:Operand)(T:TypeId)
    (ho:o.op= .call {callee:= .builtin .append,args:=#[s,x],argTypes:=#[T,T]}) {E bytes:Nat} (hE:JA T E sz bytes) (hsz:0<sz) (hby:bytes≤100000)
    (sv:Value) (ys:List α) {D:Nat→Prop} (hs:a.eval s= .slice none 0 0) (hx:a.eval x=sv) (hr:ListR sz cell w D sv ys)
    (h1:∀y∈ys,∀j,j<sz→(cell y j).oneCell'=true)
    (h:∀A c w',OwnL sz cell E w' w.heap.size (.slice A ys.length c) ys→Below w.heap.size w w'→wpList prog ops Q rest (a.put o.dst (.slice A ys.length c)) w'):wpList prog ops Q (o::rest) a w:=
 Pe hgd s x T ho hE hsz hby hs hx (OwnL.nil_ E w w.heap.size) hr h1 (by simp) (BN _) fun v' w' h2 h3 _=>by
  rw[List.nil_append]at h2;obtain⟨A,c,rfl⟩:=h2.form;exact h A c w' h2 ⟨h3.os,h3.tape,h3.output,h3.size,fun k hk=>h3.block k hk (by simp[Value.ownBlock])⟩
theorem Sx{w:World}{cs:Array Value}{t:TypeId}{x:α}{B:Nat}(hB:B=w.heap.size)(hcs:∀j,j<sz→cs[j]?=some (cell x j)){D:Nat→Prop}(hD:D w.heap.size):ListR sz cell (w.alloc (.cells cs t)) D (.slice (some ⟨B,0,none⟩) 1 1) [x]:=by
 subst hB;refine⟨_,1,rfl,BN _,by unfold few;simp,fun _=>⟨_,_,rfl,hD,fun i y j hi hj=>?_⟩⟩
 cases i with
 |succ i=>simp at hi
 |zero=>
   simp at hi;subst hi;rw[cell_of_row (w.alloc (.cells cs t)) w.heap.size _ cs t (0,0) (heap_alloc_new w _)];simp[hcs j hj]
end
theorem Xb:JA 149 234 2 24:=Pd (z:= .agg #[.string ⟨#[]⟩, .int .i64 0]) (by kernel_rfl) (by kernel_rfl) rfl rfl
theorem Xc:JA 146 151 8 88:=Pd (z:= .agg #[.int .i64 0, .int .i64 0, .int .i64 0, .int .i64 0, .int .i64 0, .int .i64 0, .string ⟨#[]⟩, .slice none 0 0]) (by kernel_rfl) (by kernel_rfl) rfl rfl
theorem Xd:JA 37 148 2 32:=Pd (z:= .agg #[.int .i64 0, .slice none 0 0]) (by kernel_rfl) (by kernel_rfl) rfl rfl
end Go.Proofs.YtbgnigjfkbmceaaGreatDoor.Old
namespace Go.Proofs.YtbgnigjfkbmceaaGreatDoor.Old
open Go.RowKit
def blk(v:Value):List Nat:=v.ownBlock.toList
theorem mem_blk{v:Value}{b:Nat}:b∈blk v↔v.ownBlock=some b:=by
 unfold blk;cases v.ownBlock<;>simp[eq_comm]
section
variable {α:Type}{sz:Nat}{cell:α→Nat→Value}{E:TypeId}{w w':World}{base:Nat}{v:Value}{xs:List α}
theorem OwnL.frame(h:OwnL sz cell E w base v xs){row:Option Nat}(hg:w.grownBy w' row)(hne:∀b∈blk v,some b≠row):OwnL sz cell E w' base v xs:=by
 refine h.kept hg ?_
 cases hb:v.ownBlock with
 |none=>exact .inl rfl
 |some b=>exact .inr (hne b (mem_blk.2 hb))
theorem OwnL.blk_lt(h:OwnL sz cell E w base v xs):∀b∈blk v,base≤b∧b<w.heap.size:=fun b hb=>h.lt b (mem_blk.1 hb)
theorem OwnL.not_mem(h:OwnL sz cell E w base v xs){g:Nat}{t:TypeId}{cs:Array Value}(hg:w.heap[g]?=some (.cells cs t (0,0)))(hne:E≠t):g∉blk v:=fun hm=>h.ne_ hg hne (mem_blk.1 hm)
end
def fpN(v:Value)(ys:List (Nod×Value)):List Nat:=blk v++ys.flatMap fun y=>blk y.2
def NodsAt(w:World)(base:Nat)(v:Value)(ys:List (Nod×Value)):Prop:=
 OwnL 8 nodCell 151 w base v ys∧(∀y∈ys,OwnL 2 entCell 234 w base y.2 y.1.entries∧y.1.entries.length≤few)∧(fpN v ys).Nodup
abbrev EJ:=Int×Value×List (Nod×Value)
def KE(d:EJ):Nat→Value
 |0=> .int .i64 d.1
 |_=>d.2.1
def fpD(v:Value)(L:List EJ):List Nat:=blk v++L.flatMap fun x=>fpN x.2.1 x.2.2
def DvcsAt(w:World)(base:Nat)(v:Value)(L:List EJ):Prop:=
 OwnL 2 KE 148 w base v L∧(∀x∈L,NodsAt w base x.2.1 x.2.2∧x.2.2.length≤few)∧(fpD v L).Nodup∧L.length≤few
def dvcOf(x:EJ):Dvc:=⟨x.1,x.2.2.map (·.1)⟩
def flsOf(L:List EJ):Aj:=L.map dvcOf
section
variable {w w':World}{base:Nat}{v:Value}
theorem NodsAt.frame{ys:List (Nod×Value)}(h:NodsAt w base v ys){row:Option Nat}(hg:w.grownBy w' row)(hne:∀b∈fpN v ys,some b≠row):NodsAt w' base v ys:=by
 obtain⟨h1,h2,h3⟩:=h;refine⟨h1.frame hg fun b hb=>hne b (List.mem_append_left _ hb),fun y hy=>⟨(h2 y hy).1.frame hg fun b hb=>hne b (List.mem_append_right _ (List.mem_flatMap.2 ⟨y,hy,hb⟩)),(h2 y hy).2⟩,h3⟩
theorem NodsAt.fp_lt{ys:List (Nod×Value)}(h:NodsAt w base v ys):∀b∈fpN v ys,base≤b∧b<w.heap.size:=by
 intro b hb;rcases List.mem_append.1 hb with hb|hb
 ·exact h.1.blk_lt b hb
 obtain⟨y,hy,hb⟩:=List.mem_flatMap.1 hb;exact(h.2.1 y hy).1.blk_lt b hb
theorem DvcsAt.frame{L:List EJ}(h:DvcsAt w base v L){row:Option Nat}(hg:w.grownBy w' row)(hne:∀b∈fpD v L,some b≠row):DvcsAt w' base v L:=by
 obtain⟨h1,h2,h3,h4⟩:=h;refine⟨h1.frame hg fun b hb=>hne b (List.mem_append_left _ hb),fun y hy=>⟨(h2 y hy).1.frame hg fun b hb=>hne b (List.mem_append_right _ (List.mem_flatMap.2 ⟨y,hy,hb⟩)),(h2 y hy).2⟩,h3,h4⟩
theorem DvcsAt.fp_lt{L:List EJ}(h:DvcsAt w base v L):∀b∈fpD v L,base≤b∧b<w.heap.size:=by
 intro b hb;rcases List.mem_append.1 hb with hb|hb
 ·exact h.1.blk_lt b hb
 obtain⟨y,hy,hb⟩:=List.mem_flatMap.1 hb;exact(h.2.1 y hy).1.fp_lt b hb
theorem NodsAt.below{ys:List (Nod×Value)}(h:NodsAt w base v ys)(hb:Below w.heap.size w w'):NodsAt w' base v ys:=h.frame (PX hb none) (by simp)
theorem DvcsAt.below{L:List EJ}(h:DvcsAt w base v L)(hb:Below w.heap.size w w'):DvcsAt w' base v L:=h.frame (PX hb none) (by simp)
theorem DvcsAt.set_{L:List EJ}(h:DvcsAt w base v L){p:Addr}(hp:p.block∉fpD v L)(u:Value):DvcsAt (w.setCell p u) base v L:=
 h.frame (row:=some p.block) ⟨rfl,rfl,rfl,by simp[World.setCell],fun k _ hne=>Below.heap_setCell w p u k (fun e=>hne (by rw[e]))⟩ (fun b hb e=>hp (by injection e with e;rwa [←e]))
theorem NodsAt.set_{L:List (Nod×Value)}(h:NodsAt w base v L){p:Addr}(hp:p.block∉fpN v L)(u:Value):NodsAt (w.setCell p u) base v L:=
 h.frame (row:=some p.block) ⟨rfl,rfl,rfl,by simp[World.setCell],fun k _ hne=>Below.heap_setCell w p u k (fun e=>hne (by rw[e]))⟩ (fun b hb e=>hp (by injection e with e;rwa [←e]))
theorem DvcsAt.nil_(w:World)(base:Nat):DvcsAt w base (.slice none 0 0) []:=⟨OwnL.nil_ _ _ _,by simp,by simp[fpD,blk,Value.ownBlock],by simp⟩
theorem NodsAt.nil_(w:World)(base:Nat):NodsAt w base (.slice none 0 0) []:=⟨OwnL.nil_ _ _ _,by simp,by simp[fpN,blk,Value.ownBlock]⟩
end
end Go.Proofs.YtbgnigjfkbmceaaGreatDoor.Old
namespace Go.Proofs.YtbgnigjfkbmceaaGreatDoor.Old
open Go.RowKit
theorem Xe{w:World}{b o:Nat}{x:Nod×Value}(h:∀j,j<8→w.cell? ⟨b,o+j,none⟩=some (nodCell x j)):
    w.cell? ⟨b,o,none⟩=some (.int .i64 x.1.ino)∧w.cell? ⟨b,o+1,none⟩=some (.int .i64 x.1.kind)∧w.cell? ⟨b,o+2,none⟩=some (.int .i64 x.1.mode)∧w.cell? ⟨b,o+3,none⟩=some (.int .i64 x.1.uid)∧
    w.cell? ⟨b,o+4,none⟩=some (.int .i64 x.1.gid)∧w.cell? ⟨b,o+5,none⟩=some (.int .i64 x.1.parent)∧w.cell? ⟨b,o+6,none⟩=some (.string x.1.target)∧w.cell? ⟨b,o+7,none⟩=some x.2:=
 ⟨h 0 (by omega),h 1 (by omega),h 2 (by omega),h 3 (by omega),h 4 (by omega),h 5 (by omega),h 6 (by omega),h 7 (by omega)⟩
theorem Xf(y:Bc)(j:Nat):(entCell y j).oneCell'=true:=by
 unfold entCell;split<;>rfl
end Go.Proofs.YtbgnigjfkbmceaaGreatDoor.Old
namespace Go.Proofs.YtbgnigjfkbmceaaGreatDoor.Old
open Go.RowKit
def KF(w:World)(v:Value)(L:List EJ)(dvv:Value)(S:Nat)(next:Int)(ns:List Nod)(k:Nat)(nvv:Value)(ys:List (Nod×Value))(wr:World):Prop:=
 ys.map (·.1)=ns.take k∧wr.heap[S]?=some (.cells #[.int .i64 next,nvv] 148 (0,0))∧NodsAt wr w.heap.size nvv ys∧DvcsAt wr w.heap.size dvv L∧(∀b∈fpN nvv ys,b∉fpD dvv L∧b≠S)∧
 wr.heap[w.heap.size]?=some (.cells #[v] 39 (0,0))∧wr.heap[w.heap.size+1]?=some (.cells #[.slice none 0 0] 39 (0,0))∧wr.heap[w.heap.size+1+1]?=some (.cells #[dvv] 39 (0,0))∧
 Below w.heap.size w wr
theorem KG{w:World}{b:Nat}{o:Obj}(h:w.heap[b]?=some o):b<w.heap.size:=by
 rcases Nat.lt_or_ge b w.heap.size with hlt|hge
 ·exact hlt
 rw[Array.getElem?_eq_none hge]at h;cases h
theorem Nl{l r:List Nat}(h1:l.Nodup)(h2:r.Nodup)(h:∀b∈l,b∉r):(l++r).Nodup:=List.nodup_append.2 ⟨h1,h2,fun a ha _ hb e=>h a ha (e ▸ hb)⟩
theorem Pg(v:Value):(blk v).Nodup:=by
 unfold blk;cases v.ownBlock<;>simp
theorem Sy(v:Value)(ys:List (Nod×Value))(y:Nod×Value):fpN v (ys++[y])=blk v++(ys.flatMap (fun y=>blk y.2)++blk y.2):=by simp[fpN]
theorem Xg{n:Nat}(h:n≤few):n≤1000000:=by unfold few at h;omega
theorem Xh{w:World}{v:Value}{L:List EJ}{dvv:Value}{S:Nat}{next:Int}{ns:List Nod}{k:Nat}{nvv:Value}{ys:List (Nod×Value)}{wr W4 W5:World}{n:Nod}{ev nvv':Value}
    (h:KF w v L dvv S next ns k nvv ys wr) (hS:S∉fpD dvv L) (hSB:w.heap.size+1+1<S) (hn:ns[k]?=some n) (hfew:n.entries.length≤few) (h4:Below wr.heap.size wr W4) (hev:OwnL 2 entCell 234 W4 (wr.heap.size+1) ev n.entries)
    (h5:W4.grownBy W5 nvv.ownBlock) (hown:OwnL 8 nodCell 151 W5 w.heap.size nvv' (ys++[(n,ev)])) (hat:nvv'.ownBlock=nvv.ownBlock∨nvv'.ownBlock=some W4.heap.size):
    KF w v L dvv S next ns (k+1) nvv' (ys++[(n,ev)]) (W5.setCell ⟨S,1,none⟩ nvv'):=by
 obtain⟨e1,e2,e3,e4,e5,e6,e7,e8,e9⟩:=h;have z:=e9.size;have z4:=h4.size;have hSl:=KG e2;have n4:=e3.below h4;have d4:=e4.below h4;have hold:∀b∈fpN nvv ys,w.heap.size≤b∧b<wr.heap.size:=e3.fp_lt;have hbn:∀b∈blk nvv,b<wr.heap.size:=fun b hb=>(hold b (List.mem_append_left _ hb)).2;have hnd:=e3.2.2;have hnd':=List.nodup_append.1 hnd;have row:∀b,b∉blk nvv→some b≠nvv.ownBlock:=fun b hb e=>hb (mem_blk.2 e.symm);have hevb:∀b∈blk ev,wr.heap.size+1≤b∧b<W4.heap.size:=hev.blk_lt
 have hnew:∀b∈blk nvv',b∈blk nvv∨b=W4.heap.size:=by
  intro b hb;rw[mem_blk]at hb;rcases hat with e|e
  ·left;rw[mem_blk,←e];exact hb
  right;rw[e]at hb;exact(Option.some.inj hb).symm
 have hent5:∀y∈ys,OwnL 2 entCell 234 W5 w.heap.size y.2 y.1.entries∧y.1.entries.length≤few:=fun y hy=>
  ⟨(n4.2.1 y hy).1.frame h5 fun b hb=>row b fun hb'=>hnd'.2.2 b hb' b (List.mem_flatMap.2 ⟨y,hy,hb⟩) rfl,(n4.2.1 y hy).2⟩
 have hev5:OwnL 2 entCell 234 W5 w.heap.size ev n.entries:=(hev.frame h5 fun b hb=>row b fun hb'=>by have:=hbn b hb';have:=(hevb b hb).1;omega).mono (by omega)
 have hfp:∀b∈fpN nvv' (ys++[(n,ev)]),b∈fpN nvv ys∨wr.heap.size≤b:=by
  intro b hb;rw[Sy]at hb;rcases List.mem_append.1 hb with hb|hb
  ·rcases hnew b hb with hb|hb
   ·exact .inl (List.mem_append_left _ hb)
   right;omega
  rcases List.mem_append.1 hb with hb|hb
  ·exact .inl (List.mem_append_right _ hb)
  right;have:=(hevb b hb).1;omega
 have n5:NodsAt W5 w.heap.size nvv' (ys++[(n,ev)]):=by
  refine⟨hown,?_,?_⟩
  ·intro y hy;rcases List.mem_append.1 hy with hy|hy
   ·exact hent5 y hy
   obtain rfl:y=(n,ev):=by simpa using hy
   exact⟨hev5,hfew⟩
  rw[Sy];refine Nl (Pg _) (Nl hnd'.2.1 (Pg _) ?_) ?_
  ·intro b hb hb';have:=(hold b (List.mem_append_right _ hb)).2;have:=(hevb b hb').1;omega
  intro b hb hb';rcases hnew b hb with hb1|hb1
  ·rcases List.mem_append.1 hb' with hb'|hb'
   ·exact hnd'.2.2 b hb1 b hb' rfl
   have:=hbn b hb1;have:=(hevb b hb').1;omega
  rcases List.mem_append.1 hb' with hb'|hb'
  ·have:=(hold b (List.mem_append_right _ hb')).2;omega
  have:=(hevb b hb').2;omega
 have d5:DvcsAt W5 w.heap.size dvv L:=d4.frame h5 fun b hb=>row b fun hb'=>(e5 b (List.mem_append_left _ hb')).1 hb;have o4:OwnL 8 nodCell 151 W4 w.heap.size nvv ys:=n4.1
 have box:∀(b:Nat) (cs:Array Value),wr.heap[b]?=some (.cells cs 39 (0,0))→b≠S→(W5.setCell ⟨S,1,none⟩ nvv').heap[b]?=some (.cells cs 39 (0,0)):=fun b cs hb hbS=>by
  have hb4:=Hj hb h4 (KG hb);exact PY (Lq hb4 h5 (row b (o4.not_mem hb4 (by decide)))) hbS _
 have hfpS:S∉fpN nvv' (ys++[(n,ev)]):=fun hb=>by
  rcases hfp S hb with hb|hb
  ·exact(e5 S hb).2 rfl
  omega
 refine⟨?_,?_,n5.set_ hfpS _,d5.set_ hS _,?_,box _ _ e6 (by omega),box _ _ e7 (by omega),box _ _ e8 (by omega),?_⟩
 ·rw[List.map_append,e1,List.take_add_one,hn];rfl
 ·have hS4:=Hj e2 h4 hSl;exact Ss (Lq hS4 h5 (row S fun hb=>(e5 S (List.mem_append_left _ hb)).2 rfl)) 1 _
 ·intro b hb;rcases hfp b hb with hb|hb
  ·exact e5 b hb
  refine⟨fun hd=>?_,by omega⟩;have:=(e4.fp_lt b hd).2;omega
 exact((e9.trans (h4.mono e9.size)).grown h5 (by omega) fun b hb=>(hold b (List.mem_append_left _ (mem_blk.2 hb))).1).setCell (by show w.heap.size≤S;omega) _
def Ph(w:World)(v:Value)(f:Aj)(m:Nat)(dvv:Value)(L:List EJ)(wr:World):Prop:=
 flsOf L=f.take m∧DvcsAt wr w.heap.size dvv L∧
 wr.heap[w.heap.size]?=some (.cells #[v] 39 (0,0))∧wr.heap[w.heap.size+1]?=some (.cells #[.slice none 0 0] 39 (0,0))∧wr.heap[w.heap.size+1+1]?=some (.cells #[dvv] 39 (0,0))∧
 Below w.heap.size w wr
theorem Xi(v:Value)(L:List EJ)(x:EJ):fpD v (L++[x])=blk v++(L.flatMap (fun x=>fpN x.2.1 x.2.2)++fpN x.2.1 x.2.2):=by simp[fpD]
theorem Xj{w:World}{v:Value}{f:Aj}{m:Nat}{dvv:Value}{L:List EJ}{wr:World}(h:Ph w v f m dvv L wr)(next:Int)(ns:List Nod):
    KF w v L dvv wr.heap.size next ns 0 (.slice none 0 0) [] (wr.alloc (.cells #[.int .i64 next, .slice none 0 0] 148))∧wr.heap.size∉fpD dvv L∧w.heap.size+1+1<wr.heap.size:=by
 obtain⟨e1,e4,e6,e7,e8,e9⟩:=h;refine⟨⟨by simp,heap_alloc_new _ _,NodsAt.nil_ _ _,e4.below (Jg _ _),by simp[fpN,blk,Value.ownBlock],GC e6 _,GC e7 _,GC e8 _,e9.alloc e9.size _⟩,fun hb=>?_,KG e8⟩;have:=(e4.fp_lt _ hb).2;omega
theorem Xk{w:World}{v:Value}{f:Aj}{m:Nat}{dvv:Value}{L:List EJ}{S:Nat}{next:Int}{ns:List Nod}{nvv:Value}{ys:List (Nod×Value)}{wr W2:World}{o:Obj}{dvv':Value}{d:Dvc}
    (h:KF w v L dvv S next ns ns.length nvv ys wr) (hf:f[m]?=some d) (hL:flsOf L=f.take m) (hnx:d.next=next) (hns:d.nodes=ns) (hfew:ns.length≤few) (hfl:f.length≤few)
    (h5:(wr.alloc o).grownBy W2 dvv.ownBlock) (hown:OwnL 2 KE 148 W2 w.heap.size dvv' (L++[(next,nvv,ys)])) (hat:dvv'.ownBlock=dvv.ownBlock∨dvv'.ownBlock=some (wr.heap.size+1)):
    Ph w v f (m+1) dvv' (L++[(next,nvv,ys)]) (W2.setCell ⟨w.heap.size+1+1,0,none⟩ dvv'):=by
 obtain⟨e1,e2,e3,e4,e5,e6,e7,e8,e9⟩:=h;have hml:=(At.1 hf).1;have z:=e9.size;have h4:=Jg wr o;have n4:=e3.below h4;have d4:=e4.below h4
 have hyl:ys.length=ns.length:=by
  have:=congrArg List.length e1
  simpa using this
 have hnd':=List.nodup_append.1 e4.2.2.1;have row:∀b,b∉blk dvv→some b≠dvv.ownBlock:=fun b hb e=>hb (mem_blk.2 e.symm)
 have hnew:∀b∈blk dvv',b∈blk dvv∨b=wr.heap.size+1:=by
  intro b hb;rw[mem_blk]at hb;rcases hat with e|e
  ·left;rw[mem_blk,←e];exact hb
  right;rw[e]at hb;exact(Option.some.inj hb).symm
 have n5:NodsAt W2 w.heap.size nvv ys:=n4.frame h5 fun b hb=>row b fun hb'=>(e5 b hb).1 (List.mem_append_left _ hb')
 have l5:∀x∈L,NodsAt W2 w.heap.size x.2.1 x.2.2∧x.2.2.length≤few:=fun x hx=>
  ⟨(d4.2.1 x hx).1.frame h5 fun b hb=>row b fun hb'=>hnd'.2.2 b hb' b (List.mem_flatMap.2 ⟨x,hx,hb⟩) rfl,(d4.2.1 x hx).2⟩
 have d5:DvcsAt W2 w.heap.size dvv' (L++[(next,nvv,ys)]):=by
  refine⟨hown,?_,?_,?_⟩
  ·intro x hx;rcases List.mem_append.1 hx with hx|hx
   ·exact l5 x hx
   obtain rfl:x=(next,nvv,ys):=by simpa using hx
   exact⟨n5,by show ys.length≤few;omega⟩
  ·rw[Xi];refine Nl (Pg _) (Nl hnd'.2.1 e3.2.2 ?_) ?_
   ·exact fun b hb hb'=>(e5 b hb').1 (List.mem_append_right _ hb)
   intro b hb hb';rcases hnew b hb with hb1|hb1
   ·rcases List.mem_append.1 hb' with hb'|hb'
    ·exact hnd'.2.2 b hb1 b hb' rfl
    exact(e5 b hb').1 (List.mem_append_left _ hb1)
   rcases List.mem_append.1 hb' with hb'|hb'
   ·have:=(e4.fp_lt b (List.mem_append_right _ hb')).2;omega
   have:=(e3.fp_lt b hb').2;omega
  have hll:L.length=m:=by
   have:=congrArg List.length hL;simp[flsOf]at this;omega
  rw[List.length_append,hll];show m+1≤few;omega
 have o4:OwnL 2 KE 148 (wr.alloc o) w.heap.size dvv L:=d4.1
 have box2:∀(b:Nat) (cs:Array Value),wr.heap[b]?=some (.cells cs 39 (0,0))→W2.heap[b]?=some (.cells cs 39 (0,0)):=fun b cs hb=>
  Lq (GC hb o) h5 (row b (o4.not_mem (GC hb o) (by decide)))
 have hne:w.heap.size+1+1∉fpD dvv' (L++[(next,nvv,ys)]):=by
  intro hb;have hb8:=box2 _ _ e8;rcases List.mem_append.1 hb with hb|hb
  ·exact d5.1.not_mem hb8 (by decide) hb
  obtain⟨x,hx,hb⟩:=List.mem_flatMap.1 hb;have hx5:=(d5.2.1 x hx).1;rcases List.mem_append.1 hb with hb|hb
  ·exact hx5.1.not_mem hb8 (by decide) hb
  obtain⟨y,hy,hb⟩:=List.mem_flatMap.1 hb;exact(hx5.2.1 y hy).1.not_mem hb8 (by decide) hb
 refine⟨?_,d5.set_ hne _,PY (box2 _ _ e6) (by show _≠w.heap.size+1+1;omega) _,PY (box2 _ _ e7) (by show _≠w.heap.size+1+1;omega) _,Ss (box2 _ _ e8) 0 _,?_⟩
 ·have hd:dvcOf (next,nvv,ys)=d:=by
     unfold dvcOf;rw[e1,List.take_length,←hnx,←hns]
  unfold flsOf at hL ⊢;rw[List.map_append,hL,List.take_add_one,hf];simp[hd]
 exact((e9.trans (h4.mono e9.size)).grown h5 (by rw[World.size_alloc];omega) fun b hb=>(e4.fp_lt b (List.mem_append_left _ (mem_blk.2 hb))).1).setCell (by show w.heap.size≤w.heap.size+1+1;omega) _
end Go.Proofs.YtbgnigjfkbmceaaGreatDoor.Old
