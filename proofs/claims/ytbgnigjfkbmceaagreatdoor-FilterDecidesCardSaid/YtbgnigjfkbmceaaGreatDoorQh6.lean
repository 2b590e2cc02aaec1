/-
  Part 6 of the proof of FilterDecidesP: what the statement's proof uses of the texts in wip/tpl.
-/
import Derived.Laws.StructEq
import Derived.Laws.Pointers
import Derived.Test.YtbgnigjfkbmceaaGreatDoorProg
import Derived.WalkKit
import Derived.WalkSpells
import Derived.WalkLawsBesides
import Derived.Deep.QuietTactic
import Derived.BigQuiet
import Derived.Lib.Hide
import Derived.Outline
import Derived.Maps.AppendAt
import Derived.OwnWalk
import Derived.Test.YtbgnigjfkbmceaaGreatDoorQh5
open Go.Proofs.Tryz (prog)
set_option maxRecDepth 10000
set_option maxHeartbeats 4000000
set_option linter.unusedVariables false
set_option linter.unusedSimpArgs false
namespace Go.Proofs.YtbgnigjfkbmceaaGreatDoor
open Go.RowKit
def K7(t:Tst):Nat→Bool
 |0=>false
 |k+1=>K7 t k||decide (BW t ((k:Int)+1)=0)
def K8(t:Tst):Bool:=K7 t 5
theorem P7(t:Tst):∀k,K7 t k=true↔∃j:Nat,j<k∧BW t ((j:Int)+1)=0
 |0=>by simp[K7]
 |k+1=>by
   simp only[K7,Bool.or_eq_true,P7 t k,decide_eq_true_eq];constructor
   ·rintro(⟨j,h1,h2⟩|h)
    ·exact⟨j,by omega,h2⟩
    exact⟨k,by omega,h⟩
   rintro⟨j,h1,h2⟩;rcases Nat.lt_or_ge j k with h|h
   ·exact .inl ⟨j,h,h2⟩
   have:j=k:=by omega
   subst this;exact .inr h2
theorem WK{t:Tst}{k:Nat}(hk:k≤5)(h:K7 t k=true):K8 t=true:=by
 obtain⟨j,h1,h2⟩:=(P7 t k).1 h;exact(P7 t 5).2 ⟨j,by omega,h2⟩
theorem WM{t:Tst}{k:Nat}(hk:k≤5)(h5:5≤k)(h:K7 t k=false):K8 t=false:=by
 obtain rfl:k=5:=by omega
 exact h
theorem WO{list f:Int}(h:Es list f=true):1≤f∧f≤22:=by
 unfold Es Cx at h
 (repeat' split at h)<;>simp at h<;>omega
theorem WP{f:Int}(h:Et f=true):Ej f=false:=by
 unfold Et at h;unfold Ej;simp at h ⊢;omega
theorem T5{t:Tst}(h:K8 t=true):Sy t:=by
 obtain⟨j,_,h2⟩:=(P7 t 5).1 h;generalize (j:Int)+1=list at h2;unfold BW at h2;split at h2
 ·cases h2
 rename_i h3;split at h2
 ·cases h2
 rename_i h4;simp only[not_or,not_and]at h3 h4;have ha:=WO (by simpa using h3.1);refine⟨ha.1,ha.2,?_,by omega,by omega⟩;by_cases ho:t.other=0
 ·exact .inl ho
 obtain⟨h5,h6,h7⟩:=h3.2 ho;have hb:=WO (list:=list) (f:=t.other) (by simpa using h5);exact .inr ⟨hb.1,hb.2,WP (by simpa using h7)⟩
def LS(y:Itm):Bool:= !decide (y.file=(0,0))
def NO(t:Tst)(c:Ctx):Bool:=
 if K8 t=false then false else if G2 t.fld=false∧G2 t.other=false then Jh t c Itm.zero else c.items.any fun y=>LS y&&Jh t c y
def LT(t:Tst)(c:Ctx):Bool:=
 if K8 t=false∨Eu t.fld c=false∨t.other≠0∧Eu t.other c=false then false else if G2 t.fld=false∧G2 t.other=false then Ke t c Itm.zero else c.items.any fun y=>LS y&&Ke t c y
theorem R5{α:Type}(p:α→Bool)(l:List α)(k:Nat){x:α}(hx:l[k]?=some x):(l.take (k+1)).any p=((l.take k).any p||p x):=by
 obtain⟨hk,e⟩:=Af.1 hx;rw[List.take_succ_eq_append_getElem hk,List.any_append,e];simp
theorem WQ{α:Type}{p:α→Bool}{l:List α}{k:Nat}{x:α}(hx:l[k]?=some x)(h:p x=true):l.any p=true:=
 List.any_eq_true.2 ⟨x,Am hx,h⟩
section
theorem d9(t:Tst):AFn prog 162 [.agg (CF t)] (fun r=>r= .v (.bool (K8 t))):=by
 refine enter Tryz.func162 rfl rfl rfl rfl rfl 0 rfl ?_;refine EG (h:=JK (h:=?_));refine BM (fun n s=>∃k:Nat,k≤5∧n=5 - k∧K7 t k=false∧s=⟨look [(1, .bp 0 0),(3, .v (.int .i64 ((k:Int)+1)))],⟨[CF t],[]⟩⟩) (5) ((wk 1 0)) (⟨0,by omega,rfl,rfl,rfl⟩) ?_;rintro n s ⟨k,hk,rfl,hs,rfl⟩;refine Bf (h:=Fg (h:=e_ (?_)));refine A4 rfl (fun hb1 hc1=>?_) (fun hb1 hc1=>?_)
 ·refine By (h:=L0 (h:=?_));refine A3 rfl (A8 (W9 _ _) ?_);rintro r rfl;refine Bd (h:=?_);refine A4 rfl (fun hb2 hc2=>?_) (fun hb2 hc2=>?_)
  ·refine Hp (h:=?_);refine A6 ?_
   first|(exfalso;first|contradiction|omega)|(exact vb (by rw[WK (k:=k+1) (by omega) (by simp[K7];omega)]))
  refine Cm (h:=?_);refine⟨_,_,?_,⟨k+1,by omega,rfl,by simp[K7,hs];omega,rfl⟩,(wk 1 0)⟩;omega
 refine Fk (h:=?_);refine A6 ?_
 first|(exfalso;first|contradiction|omega)|(exact vb (by rw[WM hk (by omega) hs]))
end
section
theorem WR(a b c d:Int)(w:World):(binOp .neq 26 (.agg #[.int .i64 a, .int .i64 b]) (.agg #[.int .i64 c, .int .i64 d])).run prog w= .ok (.bool (!decide ((a,b)=(c,d)))) w:=by
 rw[T3 .neq a b c d w (.inr rfl)];simp
theorem dA(t:Tst)(c:Ctx)(k:Cxs)(hn:c.items.length≤1000):AFn prog 113 [.agg (CF t), .agg (C7 c k)] (fun r=>r= .v (.bool (NO t c))):=by
 refine enter Tryz.func113 rfl rfl rfl rfl rfl 0 rfl ?_;refine FC (h:=D7 (h:=DT (h:=?_)));refine BM (fun n s=>∃j:Nat,j≤5∧n=5 - j∧s=⟨look [(2, .bp 0 0),(3, .bp 1 0),(4, .v (.bool false)),(5, .v (.bool (K7 t j))),(6, .v (.int .i64 ((j:Int)+1)))],⟨[CF t,C7 c k],[]⟩⟩) (5) ((wk 2 0)) (⟨0,by omega,rfl,rfl⟩) ?_;rintro n s ⟨j,hj,rfl,rfl⟩;refine Bf (h:=Fg (h:=e_ (?_)));refine A4 rfl (fun hb1 hc1=>?_) (fun hb1 hc1=>?_)
 ·refine By (h:=EK (h:=?_));refine AJ false rfl rfl (fun hb2 hc2=>?_) (fun hb2 hc2=>?_)
  ·refine Ho (h:=H6 (h:=Ef (h:=?_)));refine⟨_,_,?_,⟨j+1,by omega,rfl,rfl⟩,Ah 2 0 rfl rfl rfl rfl (by repeat (first|exact Sub.nil|refine Ai rfl rfl ?_|refine Ap ?_|refine Aq rfl ?_|refine Ar rfl ?_|(apply Sub.of;(focus exact rfl);(focus exact LeA.of_eq (vb (by simp[K7, *])));(focus exact rfl))))⟩;omega
  refine HA (h:=?_);refine As (A8 (W8 _ _) ?_);rintro r rfl;refine Dt (h:=Bh (h:=H6 (h:=Ef (h:=?_))));refine⟨_,_,?_,⟨j+1,by omega,rfl,rfl⟩,Ah 2 0 rfl rfl rfl rfl (by repeat (first|exact Sub.nil|refine Ai rfl rfl ?_|refine Ap ?_|refine Aq rfl ?_|refine Ar rfl ?_|(apply Sub.of;(focus exact rfl);(focus exact LeA.of_eq (vb (by simp[K7, *])));(focus exact rfl))))⟩;omega
 refine CP (h:=Bf (h:=D2 (h:=?_)));refine A4 rfl (fun hb3 hc3=>?_) (fun hb3 hc3=>?_)
 ·have hs:=WM hj (by omega) hc3;refine BK (h:=?_);refine A6 ?_
  first|(exfalso;first|contradiction|omega)|(exact vb (by simp[NO,hs]))
 have hs:=WK hj hc3;have ht:=T5 hs;refine Eh (h:=?_);refine JB (⟨look [(2, .bp 0 0),(3, .bp 1 0),(4, .v (.bool false)),(31, .v (.bool (!G2 t.fld&& !G2 t.other)))],⟨[CF t,C7 c k],[]⟩⟩) ?_ ?_
 ·skip
  refine Aw (AO (h:=?_));refine A3 rfl (A8 (Vq _) ?_);rintro r rfl;refine EH (h:=?_);refine AJ true rfl rfl (fun hb4 hc4=>?_) (fun hb4 hc4=>?_)
  ·refine AO (h:=?_);refine As (A8 (Vq _) ?_);rintro r rfl;refine Ck (h:=FE (h:=?_))
   first|(exfalso;first|contradiction|omega)|exact Ah 2 0 rfl rfl rfl rfl (by repeat (first|exact Sub.nil|refine Ai rfl rfl ?_|refine Ap ?_|refine Aq rfl ?_|refine Ar rfl ?_|(apply Sub.of;(focus exact rfl);(focus exact LeA.of_eq (vb (by simp[*])));(focus exact rfl))))
  refine BB (h:=EJ (h:=?_))
  first|(exfalso;first|contradiction|omega)|exact Ah 2 0 rfl rfl rfl rfl (by repeat (first|exact Sub.nil|refine Ai rfl rfl ?_|refine Ap ?_|refine Aq rfl ?_|refine Ar rfl ?_|(apply Sub.of;(focus exact rfl);(focus exact LeA.of_eq (vb (by simp[*])));(focus exact rfl))))
 skip
 refine A4 rfl (fun hb5 hc5=>?_) (fun hb5 hc5=>?_)
 ·simp at hc5;refine CA (h:=Bk (h:=?_));refine A3 rfl (A8 (WB t c k Itm.zero ht) ?_);rintro r rfl;refine Dd (h:=?_);refine A6 ?_
  first|(exfalso;first|contradiction|omega)|(exact vb (by simp[NO,hs,hc5]))
 have hi:¬(G2 t.fld=false∧G2 t.other=false):=by simpa using hc5
 refine DU (h:=JP (h:=e_ (BF (?_))));refine BM (fun n s=>∃j:Nat,j≤c.items.length∧n=c.items.length - j∧(c.items.take j).any (fun y=>LS y&&Jh t c y)=false∧s=⟨look [(2, .bp 0 0),(3, .bp 1 0),(37, .sl 13 (c.items.map Dl) none),(38, .v (.int .i64 ((c.items.map Dl).length:Int))),(39, .v (.int .i64 (j:Int)))],⟨[CF t,C7 c k],[]⟩⟩) (c.items.length) ((wk 2 0)) (⟨0,by omega,rfl,rfl,rfl⟩) ?_;rintro n s ⟨j,hj,rfl,ha,rfl⟩;refine w_ (Cv (h:=q_ (?_)));refine A4 rfl (fun hb6 hc6=>?_) (fun hb6 hc6=>?_)
 ·obtain⟨hlt,y,hy,hrow, -⟩:=Br Dl hc6;refine By (h:=w_ (i_ (h:=Jb (h:=Ay (h:=Bk (h:=?_))))));refine A3 rfl (GF rfl rfl (by repeat constructor) (by repeat constructor) (fun w=>WR _ _ _ _ w) (by kernel_rfl) ?_);refine m_ (h:=?_);refine AJ true rfl rfl (fun hb7 hc7=>?_) (fun hb7 hc7=>?_)
  ·refine H7 (h:=l_ (h:=?_));refine As (A8 (WB t c k y ht) ?_);rintro r rfl;refine DS (h:=?_);refine A4 rfl (fun hb8 hc8=>?_) (fun hb8 hc8=>?_)
   ·refine Hp (h:=?_);refine A6 ?_
    first|(exfalso;first|contradiction|omega)|(exact vb (by rw[NO,if_neg (by simp[hs]),if_neg hi,WQ hy (by simp[LS, *])]))
   refine BG (BA (t_ (Aw (JQ (h:=?_)))));refine⟨_,_,?_,⟨j+1,by omega,rfl,(by rw[R5 _ _ _ hy,ha];simp[LS, *]),rfl⟩,(wk 2 0)⟩;omega
  refine BB (h:=FV (h:=BG (BA (t_ (Aw (JQ (h:=?_)))))));refine⟨_,_,?_,⟨j+1,by omega,rfl,(by rw[R5 _ _ _ hy,ha];simp[LS, *]),rfl⟩,(wk 2 0)⟩;omega
 have e:=C6 Dl hj hc6;subst e;rw[List.take_length]at ha;refine Fk (h:=?_);refine A6 ?_
 first|(exfalso;first|contradiction|omega)|(exact vb (by rw[NO,if_neg (by simp[hs]),if_neg hi,ha]))
theorem dB(t:Tst)(c:Ctx)(k:Cxs)(hn:c.items.length≤1000):AFn prog 115 [.agg (CF t), .agg (C7 c k)] (fun r=>r= .v (.bool (LT t c))):=by
 refine enter Tryz.func115 rfl rfl rfl rfl rfl 0 rfl ?_;refine FC (h:=q_ (?_));refine JB (⟨look [(2, .bp 0 0),(3, .bp 1 0),(4, .v (.bool false)),(27, .v (.bool (!K8 t||(!Eu t.fld c||(decide (t.other≠0)&& !Eu t.other c)))))],⟨[CF t,C7 c k],[]⟩⟩) ?_ ?_
 ·skip
  refine Aw (l_ (h:=?_));refine A3 rfl (A8 (d9 _) ?_);rintro r rfl;refine EH (h:=?_);refine AJ false rfl rfl (fun hb1 hc1=>?_) (fun hb1 hc1=>?_)
  ·refine GL (h:=BB (h:=Ka (h:=Fx (h:=FE (h:=?_)))))
   first|(exfalso;first|contradiction|omega)|exact Ah 2 0 rfl rfl rfl rfl (by repeat (first|exact Sub.nil|refine Ai rfl rfl ?_|refine Ap ?_|refine Aq rfl ?_|refine Ar rfl ?_|(apply Sub.of;(focus exact rfl);(focus exact LeA.of_eq (vb (by simp[*])));(focus exact rfl))))
  refine AO (h:=l_ (h:=?_));refine As (A8 (Vy _ c k) ?_);rintro r rfl;refine Ck (h:=Bc (h:=?_));refine AJ false rfl rfl (fun hb2 hc2=>?_) (fun hb2 hc2=>?_)
  ·refine BB (h:=Ka (h:=Fx (h:=FE (h:=?_))))
   first|(exfalso;first|contradiction|omega)|exact Ah 2 0 rfl rfl rfl rfl (by repeat (first|exact Sub.nil|refine Ai rfl rfl ?_|refine Ap ?_|refine Aq rfl ?_|refine Ar rfl ?_|(apply Sub.of;(focus exact rfl);(focus exact LeA.of_eq (vb (by simp[*])));(focus exact rfl))))
  refine GJ (h:=?_);refine AJ true rfl rfl (fun hb3 hc3=>?_) (fun hb3 hc3=>?_)
  ·refine AO (h:=l_ (h:=?_));refine As (A8 (Vy _ c k) ?_);rintro r rfl;refine Ck (h:=CD (h:=EJ (h:=?_)))
   first|(exfalso;first|contradiction|omega)|exact Ah 2 0 rfl rfl rfl rfl (by repeat (first|exact Sub.nil|refine Ai rfl rfl ?_|refine Ap ?_|refine Aq rfl ?_|refine Ar rfl ?_|(apply Sub.of;(focus exact rfl);(focus exact LeA.of_eq (vb (by simp[*])));(focus exact rfl))))
  refine GM (h:=EJ (h:=?_))
  first|(exfalso;first|contradiction|omega)|exact Ah 2 0 rfl rfl rfl rfl (by repeat (first|exact Sub.nil|refine Ai rfl rfl ?_|refine Ap ?_|refine Aq rfl ?_|refine Ar rfl ?_|(apply Sub.of;(focus exact rfl);(focus exact LeA.of_eq (vb (by simp[*])));(focus exact rfl))))
 skip
 refine A4 rfl (fun hb4 hc4=>?_) (fun hb4 hc4=>?_)
 ·have hq:K8 t=false∨Eu t.fld c=false∨t.other≠0∧Eu t.other c=false:=by simpa using hc4
  refine BK (h:=?_);refine A6 ?_
  first|(exfalso;first|contradiction|omega)|(exact vb (by rw[LT,if_pos hq]))
 have hq:¬(K8 t=false∨Eu t.fld c=false∨t.other≠0∧Eu t.other c=false):=by simpa using hc4
 have ht:=T5 (by simpa using fun e:K8 t=false=>hq (.inl e));refine Eh (h:=?_);refine JB (⟨look [(2, .bp 0 0),(3, .bp 1 0),(4, .v (.bool false)),(37, .v (.bool (!G2 t.fld&& !G2 t.other)))],⟨[CF t,C7 c k],[]⟩⟩) ?_ ?_
 ·skip
  refine Aw (AO (h:=?_));refine A3 rfl (A8 (Vr _) ?_);rintro r rfl;refine EH (h:=?_);refine AJ true rfl rfl (fun hb5 hc5=>?_) (fun hb5 hc5=>?_)
  ·refine AO (h:=?_);refine As (A8 (Vr _) ?_);rintro r rfl;refine Ck (h:=FE (h:=?_))
   first|(exfalso;first|contradiction|omega)|exact Ah 2 0 rfl rfl rfl rfl (by repeat (first|exact Sub.nil|refine Ai rfl rfl ?_|refine Ap ?_|refine Aq rfl ?_|refine Ar rfl ?_|(apply Sub.of;(focus exact rfl);(focus exact LeA.of_eq (vb (by simp[*])));(focus exact rfl))))
  refine BB (h:=EJ (h:=?_))
  first|(exfalso;first|contradiction|omega)|exact Ah 2 0 rfl rfl rfl rfl (by repeat (first|exact Sub.nil|refine Ai rfl rfl ?_|refine Ap ?_|refine Aq rfl ?_|refine Ar rfl ?_|(apply Sub.of;(focus exact rfl);(focus exact LeA.of_eq (vb (by simp[*])));(focus exact rfl))))
 skip
 refine A4 rfl (fun hb6 hc6=>?_) (fun hb6 hc6=>?_)
 ·have hi:G2 t.fld=false∧G2 t.other=false:=by simpa using hc6
  refine CA (h:=Bk (h:=?_));refine A3 rfl (A8 (WC t c k Itm.zero ht) ?_);rintro r rfl;refine Dd (h:=?_);refine A6 ?_
  first|(exfalso;first|contradiction|omega)|(exact vb (by rw[LT,if_neg hq,if_pos hi]))
 have hi:¬(G2 t.fld=false∧G2 t.other=false):=by simpa using hc6
 refine AG (DT (h:=?_));refine BM (fun n s=>∃j:Nat,j≤c.items.length∧n=c.items.length - j∧(c.items.take j).any (fun y=>LS y&&Ke t c y)=false∧s=⟨look [(2, .bp 0 0),(3, .bp 1 0),(5, .v (.int .i64 (j:Int)))],⟨[CF t,C7 c k],[]⟩⟩) (c.items.length) ((wk 2 0)) (⟨0,by omega,rfl,rfl,rfl⟩) ?_;rintro n s ⟨j,hj,rfl,ha,rfl⟩;refine Fz (h:=?_);refine A4 rfl (fun hb7 hc7=>?_) (fun hb7 hc7=>?_)
 ·obtain⟨hlt,y,hy,hrow, -⟩:=Br Dl hc7;refine AG (q_ (BF (q_ (Ct 18 (h:=AA 0 (h:=A9 1 (h:=AE 2 (h:=CL 3 (h:=AA 4 (h:=A9 5 (h:=KZ 6 (h:=?_))))))))))));refine F9 (i:=7) rfl (GF rfl rfl (by repeat constructor) (by repeat constructor) (fun w=>WR _ _ _ _ w) (by kernel_rfl) ⟨rfl,rfl⟩) ?_;refine AE 8 (h:=?_);refine GD (j:=8) rfl (fun hb8=>?_) (fun hb8=>?_)
  ·have hc8:=bp hb8;refine A9 9 (h:=A9 10 (h:=AA 11 (h:=A9 12 (h:=AE 13 (h:=CL 14 (h:=A9 15 (h:=?_)))))));refine c_ 16 rfl (A8 (WC t c k y ht) ?_);rintro r rfl;refine o_ (h:=Hk 17 (h:=z_ (h:=t_ (?_))));refine A4 rfl (fun hb9 hc9=>?_) (fun hb9 hc9=>?_)
   ·refine Hp (h:=?_);refine A6 ?_
    first|(exfalso;first|contradiction|omega)|(exact vb (by rw[LT,if_neg hq,if_neg hi,WQ hy (by simp[LS, *])]))
   refine Cm (h:=?_);refine⟨_,_,?_,⟨j+1,by omega,rfl,(by rw[R5 _ _ _ hy,ha];simp[LS, *]),rfl⟩,(wk 2 0)⟩;omega
  have hc8:=bp hb8;refine Aj 9 (h:=Aj 10 (h:=Aj 11 (h:=Aj 12 (h:=Aj 13 (h:=Aj 14 (h:=Aj 15 (h:=Aj 16 (h:=FB 17 (h:=z_ (h:=t_ (Hh (h:=BG (BA (t_ (Aw (m_ (h:=Ec (h:=a_ (h:=Bw (AR (?_)))))))))))))))))))));refine⟨_,_,?_,⟨j+1,by omega,rfl,(by rw[R5 _ _ _ hy,ha];simp[LS, *]),rfl⟩,(wk 2 0)⟩;omega
 have e:=C6 Dl hj hc7;subst e;rw[List.take_length]at ha;refine Fk (h:=?_);refine A6 ?_
 first|(exfalso;first|contradiction|omega)|(exact vb (by rw[LT,if_neg hq,if_neg hi,ha]))
end
theorem dC{t:Tst}(h:K8 t=true)(h2:t.other≠0):Ej t.fld=false:=by
 obtain⟨j,_,h3⟩:=(P7 t 5).1 h;unfold BW at h3;split at h3
 ·cases h3
 rename_i h4;simp only[not_or,not_and]at h4;exact WP (by simpa using(h4.2 h2).2.1)
theorem WS{f:Int}{c:Ctx}(h1:1≤f)(h2:f≤22)(h3:Ej f=false):C0 f c=Eu f c:=by
 simp only[Ej,decide_eq_false_iff_not]at h3;unfold C0 Eu
 (repeat' split)<;>first|omega|(simp;omega)|(simp[*];done)|rfl
theorem dD{f:Int}{c:Ctx}(h:Ej f=true):Eu f c=true:=by
 simp only[Ej,decide_eq_true_eq]at h;unfold Eu;rw[if_neg (by omega)];simp;omega
theorem dE{t:Tst}{c:Ctx}(hs:K8 t=true)(y:Itm):Jh t c y=if Eu t.fld c=false∨t.other≠0∧Eu t.other c=false then false else Ke t c y:=by
 obtain⟨f1,f2,o, -, -⟩:=T5 hs;have h2:=dC hs;by_cases ht:Ej t.fld=true
 ·have ho:t.other=0:=Classical.byContradiction fun e=>by simp[h2 e]at ht
  rw[if_neg (by simp[dD ht,ho])];simp[Jh,Ke,ht]
 have ht':Ej t.fld=false:=by simpa using ht
 have e1:=WS (c:=c) f1 f2 ht';by_cases h0:t.other=0
 ·simp only[Jh,Ke,ht',e1,h0];cases Eu t.fld c<;>simp
 obtain⟨o1,o2,o3⟩:=o.resolve_left h0;have e2:=WS (c:=c) o1 o2 o3;simp only[Jh,Ke,ht',e1,e2,h0];cases Eu t.fld c<;>cases Eu t.other c<;>simp[h0]
theorem WT(t:Tst)(c:Ctx):NO t c=LT t c:=by
 unfold NO LT
 cases hs:K8 t with
 |false=>simp
 |true=>
   simp only[dE hs];by_cases hq:Eu t.fld c=false∨t.other≠0∧Eu t.other c=false
   ·simp[hq]
   simp[hq]
theorem dF(x:Int):GZ .u64 x 1=0∨GZ .u64 x 1=1:=by
 have e:((BitVec.ofInt 64 x &&& BitVec.ofInt 64 1).toNat)=(BitVec.ofInt 64 x).toNat % 2:=by
  rw[BitVec.toNat_and];exact Nat.and_one_is_mod _
 unfold GZ;show IntKind.u64.wrap ((BitVec.ofInt 64 x &&& BitVec.ofInt 64 1).toNat)=0∨IntKind.u64.wrap ((BitVec.ofInt 64 x &&& BitVec.ofInt 64 1).toNat)=1;rw[e];rcases Nat.mod_two_eq_zero_or_one (BitVec.ofInt 64 x).toNat with h|h<;>rw[h]
 ·exact .inl rfl
 exact .inr rfl
def Kf(m n:Int):Bool:=if 0≤n∧n<32 then decide (GZ .u64 (N9 .u64 m n) 1=1)else false
def LU(r:Rul)(hit:Bool)(c:Ctx):Bool:=(decide (r.calls=0)||Kf r.calls c.number)&&r.tests.all (fun t=>LT t c)&&(decide (r.watch=0)||hit)
theorem WU{α:Type}(p:α→Bool)(l:List α)(k:Nat){x:α}(hx:l[k]?=some x):(l.take (k+1)).all p=((l.take k).all p&&p x):=by
 obtain⟨hk,e⟩:=Af.1 hx;rw[List.take_succ_eq_append_getElem hk,List.all_append,e];simp
theorem WV{α:Type}{p:α→Bool}{l:List α}{k:Nat}{x:α}(hx:l[k]?=some x)(h:p x=false):l.all p=false:=by
 cases e:l.all p with
 |false=>rfl
 |true=>rw[List.all_eq_true]at e;rw[e x (Am hx)]at h;cases h
theorem T6{p:Prop}[Decidable p]{b:Bool}(h:(decide (¬p)&& !b)=false):(decide p||b)=true:=by
 by_cases h0:p<;>cases b<;>simp_all
section
theorem dG(m n:Int):AFn prog 112 [.v (.int .u64 m), .v (.int .i64 n)] (fun r=>r= .v (.bool (Kf m n))):=by
 have hb:=dF (N9 .u64 m n);refine enter Tryz.func112 rfl rfl rfl rfl rfl 0 rfl ?_;refine EL (h:=DR (h:=m_ (h:=?_)));refine AJ true rfl rfl (fun hb1 hc1=>?_) (fun hb1 hc1=>?_)
 ·refine m_ (h:=JG (h:=Bu (h:=?_)));refine AJ true rfl rfl (fun hb2 hc2=>?_) (fun hb2 hc2=>?_)
  ·refine Jd (h:=P5 (h:=ES (h:=Gd (h:=Gf (h:=?_)))));refine A6 ?_
   first|(exfalso;first|contradiction|omega)|(exact vb (by unfold Kf;grind))
  refine GM (h:=Az (h:=?_));refine A6 ?_
  first|(exfalso;first|contradiction|omega)|(exact vb (by unfold Kf;grind))
 refine BY (h:=Bc (h:=GM (h:=Az (h:=?_))));refine A6 ?_
 first|(exfalso;first|contradiction|omega)|(exact vb (by unfold Kf;grind))
theorem dH(m n:Int):AFn prog 114 [.v (.int .u64 m), .v (.int .i64 n)] (fun r=>r= .v (.bool (Kf m n))):=by
 have hw:0≤n→n<32→IntKind.u64.wrap n=n:=fun h1 h2=>by simp[IntKind.wrap,IntKind.signed,IntKind.bits];omega
 refine enter Tryz.func114 rfl rfl rfl rfl rfl 0 rfl ?_;refine EL (h:=DR (h:=m_ (h:=?_)));refine AJ true rfl rfl (fun hb1 hc1=>?_) (fun hb1 hc1=>?_)
 ·refine m_ (h:=JG (h:=Bu (h:=?_)));refine AJ true rfl rfl (fun hb2 hc2=>?_) (fun hb2 hc2=>?_)
  ·refine Jd (h:=?_);refine As (NA rfl Tryz.underlying3 Tryz.underlying113 ?_);refine P5 (h:=ES (h:=Dt (h:=Gf (h:=?_))));refine A6 ?_
   first|(exfalso;first|contradiction|omega)|(exact vb (by unfold Kf;grind))
  refine BB (h:=Fj (h:=Az (h:=?_)));refine A6 ?_
  first|(exfalso;first|contradiction|omega)|(exact vb (by unfold Kf;grind))
 refine BY (h:=Bc (h:=BB (h:=Fj (h:=Az (h:=?_)))));refine A6 ?_
 first|(exfalso;first|contradiction|omega)|(exact vb (by unfold Kf;grind))
theorem WW(r:Rul)(hit:Bool)(c:Ctx)(k:Cxs)(hn:c.items.length≤1000)(hl:r.tests.length≤1000):AFn prog 64 [.agg (Ab r), .v (.bool hit), .agg (C7 c k)] (fun x=>x= .v (.bool (LU r hit c))):=by
 refine enter Tryz.func64 rfl rfl rfl rfl rfl 0 rfl ?_;refine FC (h:=q_ (?_));refine JB (⟨look [(1, .v (.bool hit)),(3, .bp 0 0),(5, .bp 1 0),(20, .v (.bool (decide (r.calls≠0)&& !Kf r.calls c.number)))],⟨[Ab r,C7 c k],[]⟩⟩) ?_ ?_
 ·skip
  refine Aw (GJ (h:=?_));refine AJ true rfl rfl (fun hb1 hc1=>?_) (fun hb1 hc1=>?_)
  ·refine AO (h:=Hn (h:=?_));refine As (A8 (dG _ _) ?_);rintro r rfl;refine Ck (h:=FE (h:=?_))
   first|(exfalso;first|contradiction|omega)|exact Ah 2 0 rfl rfl rfl rfl (by repeat (first|exact Sub.nil|refine Ai rfl rfl ?_|refine Ap ?_|refine Aq rfl ?_|refine Ar rfl ?_|(apply Sub.of;(focus exact rfl);(focus exact LeA.of_eq (vb (by simp[*])));(focus exact rfl))))
  refine BB (h:=Cu (h:=GH (h:=?_)))
  first|(exfalso;first|contradiction|omega)|exact Ah 2 0 rfl rfl rfl rfl (by repeat (first|exact Sub.nil|refine Ai rfl rfl ?_|refine Ap ?_|refine Aq rfl ?_|refine Ar rfl ?_|(apply Sub.of;(focus exact rfl);(focus exact LeA.of_eq (vb (by simp[*])));(focus exact rfl))))
 skip
 refine A4 rfl (fun hb2 hc2=>?_) (fun hb2 hc2=>?_)
 ·have hq:r.calls≠0∧Kf r.calls c.number=false:=by simpa using hc2
  refine BK (h:=?_);refine A6 ?_
  first|(exfalso;first|contradiction|omega)|(exact vb (by simp[LU,hq]))
 have hq:=T6 hc2;refine DU (h:=JP (h:=e_ (BF (?_))));refine BM (fun n s=>∃j:Nat,j≤r.tests.length∧n=r.tests.length - j∧(r.tests.take j).all (fun t=>LT t c)=true∧s=⟨look [(1, .v (.bool hit)),(3, .bp 0 0),(5, .bp 1 0),(22, .sl 5 (r.tests.map CF) none),(23, .v (.int .i64 ((r.tests.map CF).length:Int))),(24, .v (.int .i64 (j:Int)))],⟨[Ab r,C7 c k],[]⟩⟩) (r.tests.length) ((wk 2 0)) (⟨0,by omega,rfl,rfl,rfl⟩) ?_;rintro n s ⟨j,hj,rfl,ha,rfl⟩;refine w_ (Cv (h:=q_ (?_)));refine A4 rfl (fun hb3 hc3=>?_) (fun hb3 hc3=>?_)
 ·obtain⟨hlt,t,hy,hrow, -⟩:=Br CF hc3;refine By (h:=w_ (i_ (h:=Jb (h:=CA (h:=?_)))));refine A3 rfl (A8 (dA t c k hn) ?_);rintro r rfl;refine D2 (h:=?_);refine A4 rfl (fun hb4 hc4=>?_) (fun hb4 hc4=>?_)
  ·refine Hp (h:=?_);refine A6 ?_
   first|(exfalso;first|contradiction|omega)|(exact vb (by rw[LU,WV hy (by rw[←WT];simpa using hc4)];simp))
  refine BG (BA (t_ (Aw (JQ (h:=?_)))));refine⟨_,_,?_,⟨j+1,by omega,rfl,(by rw[WU _ _ _ hy,ha,←WT];simp[*]),rfl⟩,(wk 2 0)⟩;omega
 have e:=C6 CF hj hc3;subst e;rw[List.take_length]at ha;refine CP (h:=Ay (h:=E4 (h:=?_)));refine AJ false rfl rfl (fun hb5 hc5=>?_) (fun hb5 hc5=>?_)
 ·refine Hi (h:=Gf (h:=?_));refine A6 ?_
  first|(exfalso;first|contradiction|omega)|(exact vb (by rw[LU,hq,ha];simp[hc5]))
 refine m_ (h:=Bh (h:=Az (h:=?_)));refine A6 ?_
 first|(exfalso;first|contradiction|omega)|(exact vb (by rw[LU,hq,ha];simp[*]))
theorem WX(r:Rul)(hit:Bool)(c:Ctx)(k:Cxs)(hn:c.items.length≤1000)(hl:r.tests.length≤1000):AFn prog 65 [.agg (Ab r), .v (.bool hit), .agg (C7 c k)] (fun x=>x= .v (.bool (LU r hit c))):=by
 refine enter Tryz.func65 rfl rfl rfl rfl rfl 0 rfl ?_;refine FC (h:=q_ (?_));refine JB (⟨look [(1, .v (.bool hit)),(3, .bp 0 0),(5, .bp 1 0),(28, .v (.bool (decide (r.calls≠0)&& !Kf r.calls c.number||decide (r.watch≠0)&& !hit)))],⟨[Ab r,C7 c k],[]⟩⟩) ?_ ?_
 ·skip
  refine Aw (GJ (h:=?_));refine AJ true rfl rfl (fun hb1 hc1=>?_) (fun hb1 hc1=>?_)
  ·refine AO (h:=Hn (h:=?_));refine As (A8 (dH _ _) ?_);rintro r rfl;refine Ck (h:=Bu (h:=?_));refine AJ false rfl rfl (fun hb2 hc2=>?_) (fun hb2 hc2=>?_)
   ·refine BB (h:=Ka (h:=Hi (h:=FE (h:=?_))))
    first|(exfalso;first|contradiction|omega)|exact Ah 2 0 rfl rfl rfl rfl (by repeat (first|exact Sub.nil|refine Ai rfl rfl ?_|refine Ap ?_|refine Aq rfl ?_|refine Ar rfl ?_|(apply Sub.of;(focus exact rfl);(focus exact LeA.of_eq (vb (by simp[*])));(focus exact rfl))))
   refine GJ (h:=?_);refine AJ true rfl rfl (fun hb3 hc3=>?_) (fun hb3 hc3=>?_)
   ·refine m_ (h:=Ck (h:=CD (h:=EJ (h:=?_))))
    first|(exfalso;first|contradiction|omega)|exact Ah 2 0 rfl rfl rfl rfl (by repeat (first|exact Sub.nil|refine Ai rfl rfl ?_|refine Ap ?_|refine Aq rfl ?_|refine Ar rfl ?_|(apply Sub.of;(focus exact rfl);(focus exact LeA.of_eq (vb (by simp[*])));(focus exact rfl))))
   refine Fj (h:=EJ (h:=?_))
   first|(exfalso;first|contradiction|omega)|exact Ah 2 0 rfl rfl rfl rfl (by repeat (first|exact Sub.nil|refine Ai rfl rfl ?_|refine Ap ?_|refine Aq rfl ?_|refine Ar rfl ?_|(apply Sub.of;(focus exact rfl);(focus exact LeA.of_eq (vb (by simp[*])));(focus exact rfl))))
  refine BB (h:=Fv (h:=GJ (h:=?_)));refine AJ true rfl rfl (fun hb4 hc4=>?_) (fun hb4 hc4=>?_)
  ·refine m_ (h:=Ck (h:=CD (h:=EJ (h:=?_))))
   first|(exfalso;first|contradiction|omega)|exact Ah 2 0 rfl rfl rfl rfl (by repeat (first|exact Sub.nil|refine Ai rfl rfl ?_|refine Ap ?_|refine Aq rfl ?_|refine Ar rfl ?_|(apply Sub.of;(focus exact rfl);(focus exact LeA.of_eq (vb (by simp[*])));(focus exact rfl))))
  refine Fj (h:=EJ (h:=?_))
  first|(exfalso;first|contradiction|omega)|exact Ah 2 0 rfl rfl rfl rfl (by repeat (first|exact Sub.nil|refine Ai rfl rfl ?_|refine Ap ?_|refine Aq rfl ?_|refine Ar rfl ?_|(apply Sub.of;(focus exact rfl);(focus exact LeA.of_eq (vb (by simp[*])));(focus exact rfl))))
 skip
 refine A4 rfl (fun hb5 hc5=>?_) (fun hb5 hc5=>?_)
 ·refine BK (h:=?_);refine A6 ?_
  first|(exfalso;first|contradiction|omega)|(exact vb (by rw[Bool.or_eq_true]at hc5;rcases hc5 with h|h<;>simp at h<;>simp[LU,h]))
 rw[Bool.or_eq_false_iff]at hc5;have hq:=T6 hc5.1;have hq2:=T6 hc5.2;refine AG (DT (h:=?_));refine BM (fun n s=>∃j:Nat,j≤r.tests.length∧n=r.tests.length - j∧(r.tests.take j).all (fun t=>LT t c)=true∧s=⟨look [(3, .bp 0 0),(5, .bp 1 0),(7, .v (.int .i64 (j:Int)))],⟨[Ab r,C7 c k],[]⟩⟩) (r.tests.length) ((wk 2 0)) (⟨0,by omega,rfl,rfl,rfl⟩) ?_;rintro n s ⟨j,hj,rfl,ha,rfl⟩;refine Fz (h:=?_);refine A4 rfl (fun hb6 hc6=>?_) (fun hb6 hc6=>?_)
 ·obtain⟨hlt,t,hy,hrow, -⟩:=Br CF hc6;refine AG (q_ (BF (q_ (Ct 8 (h:=AA 0 (h:=A9 1 (h:=AE 2 (h:=CL 3 (h:=A9 4 (h:=A9 5 (h:=?_)))))))))));refine c_ 6 rfl (A8 (dB t c k hn) ?_);rintro r rfl;refine o_ (h:=cF 7 (h:=z_ (h:=t_ (?_))));refine A4 rfl (fun hb7 hc7=>?_) (fun hb7 hc7=>?_)
  ·refine Hp (h:=?_);refine A6 ?_
   first|(exfalso;first|contradiction|omega)|(exact vb (by rw[LU,WV hy (by simpa using hc7)];simp))
  refine Cm (h:=?_);refine⟨_,_,?_,⟨j+1,by omega,rfl,(by rw[WU _ _ _ hy,ha];simp[*]),rfl⟩,(wk 2 0)⟩;omega
 have e:=C6 CF hj hc6;subst e;rw[List.take_length]at ha;refine Fk (h:=?_);refine A6 ?_
 first|(exfalso;first|contradiction|omega)|(exact vb (by rw[LU,hq,ha,hq2];rfl))
end
def DV{α:Type}(p:Nat→α→Bool):List α→Nat→Int
 |[],_=> -1
 |x::xs,i=>if p i x=true then(i:Int)else DV p xs (i+1)
theorem Mk{α:Type}{p:Nat→α→Bool}{l:List α}{j:Nat}{x:α}(hx:l[j]?=some x):DV p (l.drop j) j=if p j x=true then(j:Int)else DV p (l.drop (j+1)) (j+1):=by
 obtain⟨hk,e⟩:=Af.1 hx;rw[List.drop_eq_getElem_cons hk,DV,e]
theorem R6{α:Type}{p:Nat→α→Bool}{l:List α}:DV p (l.drop l.length) l.length= -1:=by
 simp[DV]
def Dn(b:Bool):List AV:=[.v (.bool b)]
def P8(hits:List Bool)(i:Nat):Bool:=(hits[i]?).getD false
theorem R7{hits:List Bool}{i:Nat}{b:Bool}(h:hits[i]?=some b):P8 hits i=b:=by simp[P8,h]
theorem R8{hits:List Bool}{i:Nat}(h:¬(i:Int)<((hits.map Dn).length:Int)):P8 hits i=false:=by
 have:hits.length≤i:=by simp at h;omega
 simp[P8,this]
def FL(list:Int)(hits:List Bool)(c:Ctx)(i:Nat)(r:Rul):Bool:=decide (r.list=list)&&LU r (P8 hits i) c
section
theorem WY(l:List Rul)(hl:l.length≤1000)(p:Nat→Rul→Bool)(f:FuncId)(caps:List AV)[Fun prog f](hcl:Kx caps=true)(hbl:AQ 0 0 (.fn f caps)=true)
    (hp:∀i r,l[i]?=some r→AFn prog f ([.v (.int .i64 (i:Int)), .agg (Ab r)]++caps) (fun x=>x= .v (.bool (p i r)))):AFn prog 62 [.sl 8 (l.map Ab) none, .fn f caps] (fun x=>x= .v (.int .i64 (DV p l 0))):=by
 refine enter Tryz.func62 rfl rfl rfl rfl rfl 0 rfl ?_;refine w_ (Bo (h:=JP (h:=e_ (BF (?_)))));refine BM (fun n s=>∃j:Nat,j≤l.length∧n=l.length - j∧DV p (l.drop j) j=DV p l 0∧s=⟨look [(1, .fn f caps),(7, .sl 8 (l.map Ab) none),(8, .v (.int .i64 ((l.map Ab).length:Int))),(9, .v (.int .i64 (j:Int)))],⟨[],[]⟩⟩) (l.length) (Ah 0 0 rfl rfl rfl rfl (by repeat (first|exact Sub.nil|refine Ai rfl rfl ?_|refine Sub.cons _ _ _ rfl hbl ?_|refine Ap ?_|refine Aq rfl ?_|refine Ar rfl ?_))) (⟨0,by omega,rfl,rfl,rfl⟩) ?_;rintro n s ⟨j,hj,rfl,ha,rfl⟩;refine w_ (Cv (h:=q_ (?_)));refine A4 rfl (fun hb1 hc1=>?_) (fun hb1 hc1=>?_)
 ·obtain⟨hlt,r,hy,hrow, -⟩:=Br Ab hc1;refine By (h:=Aa (h:=i_ (h:=l_ (h:=CU (h:=a_ (h:=Ei (h:=DA (h:=l_ (h:=?_)))))))));refine A3 rfl (ST (cy:=[]) rfl (by repeat (first|exact Args.nil|refine Args.cons _ _ _ _ _ rfl (LP rfl) ?_|refine Args.cons _ _ _ _ _ rfl (MZ _) ?_|refine Args.cons _ _ _ _ _ rfl (Lq _) ?_|refine Args.cons _ _ _ _ _ rfl (Md rfl (by repeat (first|exact A7 _|exact LeA.nil _|exact LeL.refl _|refine LeA.agg ?_|refine LeA.tup ?_|exact LeL.nil|refine LeL.cons ?_ ?_|exact LeA.any _))) ?_)) hcl rfl (hp j r hy) ?_);rintro x rfl;refine e_ (?_);refine A4 rfl (fun hb2 hc2=>?_) (fun hb2 hc2=>?_)
  ·refine Aa (h:=Ax (h:=Dk (h:=?_)));refine A6 ?_
   first|(exfalso;first|contradiction|omega)|(exact vi (by rw[←ha,Mk hy,if_pos hc2]))
  refine BG (BA (t_ (Aw (JQ (h:=?_)))));refine⟨_,_,?_,⟨j+1,by omega,rfl,(by rw[←ha,Mk hy];simp[*]),rfl⟩,Ah 0 0 rfl rfl rfl rfl (by repeat (first|exact Sub.nil|refine Ai rfl rfl ?_|refine Sub.cons _ _ _ rfl hbl ?_|refine Ap ?_|refine Aq rfl ?_|refine Ar rfl ?_))⟩;omega
 have e:=C6 Ab hj hc1;subst e;refine Fk (h:=?_);refine A6 ?_
 first|(exfalso;first|contradiction|omega)|(exact vi (by rw[←ha,R6]))
theorem dJ(i:Nat)(r:Rul)(list:Int)(hits:List Bool)(c:Ctx)(k:Cxs)(hn:c.items.length≤1000)(hl:r.tests.length≤1000):AFn prog 63 [.v (.int .i64 (i:Int)), .agg (Ab r), .fp [.v (.int .i64 list)], .fp [.sl 1 (hits.map Dn) none], .fp (C7 c k)] (fun x=>x= .v (.bool (FL list hits c i r))):=by
 refine enter Tryz.func63 rfl rfl rfl rfl rfl 0 rfl ?_;refine w_ (b_ (h:=a_ (h:=e_ (q_ (Ct 20 (h:=AA 0 (h:=A9 1 (h:=A9 2 (h:=JF 3 (h:=AE 4 (h:=?_)))))))))));refine GD (j:=4) rfl (fun hb1=>?_) (fun hb1=>?_)
 ·have hc1:=bp hb1;refine A9 5 (h:=AE 6 (h:=A9 7 (h:=Lu 8 (h:=Vi 9 (h:=AE 10 (h:=?_))))));refine GD (j:=10) rfl (fun hb2=>?_) (fun hb2=>?_)
  ·have hc2:=bp hb2;obtain⟨hlt,b,hy,hrow, -⟩:=Br Dn hc2;refine A9 11 (h:=AE 12 (h:=CL 13 (h:=A9 14 (h:=Hk 15 (h:=A9 16 (h:=?_))))));refine c_ 17 rfl (A8 (WW r b c k hn hl) ?_);rintro r rfl;refine o_ (h:=Hk 18 (h:=B9 19 (h:=z_ (h:=t_ (B3 (?_))))));refine A6 ?_
   first|(exfalso;first|contradiction|omega)|(exact vb (by simp[FL,hc1,R7 hy]))
  have hc2:=bp hb2;refine Aj 11 (h:=Aj 12 (h:=Aj 13 (h:=Aj 14 (h:=FB 15 (h:=A9 16 (h:=?_))))));refine c_ 17 rfl (A8 (WW r false c k hn hl) ?_);rintro r rfl;refine o_ (h:=Hk 18 (h:=B9 19 (h:=z_ (h:=t_ (B3 (?_))))));refine A6 ?_
  first|(exfalso;first|contradiction|omega)|(exact vb (by simp[FL,hc1,R8 hc2]))
 have hc1:=bp hb1;refine Aj 5 (h:=Aj 6 (h:=Aj 7 (h:=Aj 8 (h:=Aj 9 (h:=Aj 10 (h:=Aj 11 (h:=Aj 12 (h:=Aj 13 (h:=Aj 14 (h:=Aj 15 (h:=Aj 16 (h:=Aj 17 (h:=FB 18 (h:=B9 19 (h:=z_ (h:=t_ (B3 (?_))))))))))))))))));refine A6 ?_
 first|(exfalso;first|contradiction|omega)|(exact vb (by simp[FL,hc1]))
theorem R9(l:List Rul)(list:Int)(hits:List Bool)(c:Ctx)(k:Cxs)(hl:l.length≤1000)(hn:c.items.length≤1000)(ht:∀r∈l,r.tests.length≤1000):AFn prog 16 [.sl 8 (l.map Ab) none, .v (.int .i64 list), .sl 1 (hits.map Dn) none, .agg (C7 c k)] (fun x=>x= .v (.int .i64 (DV (FL list hits c) l 0))):=by
 refine enter Tryz.func16 rfl rfl rfl rfl rfl 0 rfl ?_;refine JN (h:=Bt (h:=Sj (h:=?_)));refine A3 rfl (Sa rfl (by repeat (first|exact ArgsL.nil|refine ArgsL.cons _ _ _ _ _ rfl rfl ?_)) (WY l hl (FL list hits c) 63 [.fp [.v (.int .i64 list)], .fp [.sl 1 (hits.map Dn) none], .fp (C7 c k)] rfl rfl fun i r hi=>dJ i r list hits c k hn (ht r (Am hi))) ?_);rintro x rfl;refine⟨rfl,?_⟩;refine Az (h:=?_);refine A6 ?_;rfl
theorem RA(l:List Rul)(list:Int)(hits:List Bool)(c:Ctx)(k:Cxs)(hl:l.length≤1000)(hn:c.items.length≤1000)(ht:∀r∈l,r.tests.length≤1000):AFn prog 18 [.sl 8 (l.map Ab) none, .v (.int .i64 list), .sl 1 (hits.map Dn) none, .agg (C7 c k)] (fun x=>x= .v (.int .i64 (DV (FL list hits c) l 0))):=by
 refine enter Tryz.func18 rfl rfl rfl rfl rfl 0 rfl ?_;refine EG (h:=JK (h:=?_));refine BM (fun n s=>∃j:Nat,j≤l.length∧n=l.length - j∧DV (FL list hits c) (l.drop j) j=DV (FL list hits c) l 0∧s=⟨look [(0, .sl 8 (l.map Ab) none),(1, .v (.int .i64 list)),(2, .sl 1 (hits.map Dn) none),(7, .bp 0 0),(9, .v (.int .i64 (j:Int)))],⟨[C7 c k],[]⟩⟩) (l.length) ((wk 1 0)) (⟨0,by omega,rfl,rfl,rfl⟩) ?_;rintro n s ⟨j,hj,rfl,ha,rfl⟩;refine De (h:=Fi (h:=?_));refine A4 rfl (fun hb1 hc1=>?_) (fun hb1 hc1=>?_)
 ·obtain⟨hlt,r,hy,hrow, -⟩:=Br Ab hc1;refine By (h:=?_);refine JB (⟨look [(0, .sl 8 (l.map Ab) none),(1, .v (.int .i64 list)),(2, .sl 1 (hits.map Dn) none),(7, .bp 0 0),(9, .v (.int .i64 (j:Int))),(40, .v (.bool (FL list hits c j r)))],⟨[C7 c k],[]⟩⟩) ?_ ?_
  ·skip
   refine Ct 25 (h:=AE 0 (h:=AE 1 (h:=CL 2 (h:=AA 3 (h:=A9 4 (h:=AE 5 (h:=JF 6 (h:=AE 7 (h:=?_)))))))));refine GD (j:=7) rfl (fun hb2=>?_) (fun hb2=>?_)
   ·have hc2:=bp hb2;refine AE 8 (h:=AE 9 (h:=CL 10 (h:=A9 11 (h:=AE 12 (h:=AE 13 (h:=Lu 14 (h:=Vi 15 (h:=AE 16 (h:=?_)))))))));refine GD (j:=16) rfl (fun hb3=>?_) (fun hb3=>?_)
    ·have hc3:=bp hb3;obtain⟨hlt,b,hz,hrow2, -⟩:=Br Dn hc3;refine AE 17 (h:=AE 18 (h:=CL 19 (h:=A9 20 (h:=Hk 21 (h:=A9 22 (h:=?_))))));refine c_ 23 rfl (A8 (WX r b c k hn (ht r (Am hy))) ?_);rintro r rfl;refine o_ (h:=Hk 24 (h:=z_ (h:=?_)));refine AR ?_
     first|(exfalso;first|contradiction|omega)|exact Ah 1 0 rfl rfl rfl rfl (by repeat (first|exact Sub.nil|refine Ai rfl rfl ?_|refine Ap ?_|refine Aq rfl ?_|refine Ar rfl ?_|(apply Sub.of;(focus exact rfl);(focus exact LeA.of_eq (vb (by first|(simp[FL,hc2,R7 hz];done)|(simp[FL,hc2,R8 hc3];done)|simp[FL,hc2])));(focus exact rfl))))
    have hc3:=bp hb3;refine Aj 17 (h:=Aj 18 (h:=Aj 19 (h:=Aj 20 (h:=FB 21 (h:=A9 22 (h:=?_))))));refine c_ 23 rfl (A8 (WX r false c k hn (ht r (Am hy))) ?_);rintro r rfl;refine o_ (h:=Hk 24 (h:=z_ (h:=?_)));refine AR ?_
    first|(exfalso;first|contradiction|omega)|exact Ah 1 0 rfl rfl rfl rfl (by repeat (first|exact Sub.nil|refine Ai rfl rfl ?_|refine Ap ?_|refine Aq rfl ?_|refine Ar rfl ?_|(apply Sub.of;(focus exact rfl);(focus exact LeA.of_eq (vb (by first|(simp[FL,hc2,R7 hz];done)|(simp[FL,hc2,R8 hc3];done)|simp[FL,hc2])));(focus exact rfl))))
   have hc2:=bp hb2;refine Aj 8 (h:=Aj 9 (h:=Aj 10 (h:=Aj 11 (h:=Aj 12 (h:=Aj 13 (h:=Aj 14 (h:=Aj 15 (h:=Aj 16 (h:=Aj 17 (h:=Aj 18 (h:=Aj 19 (h:=Aj 20 (h:=Aj 21 (h:=Aj 22 (h:=Aj 23 (h:=FB 24 (h:=z_ (h:=?_))))))))))))))))));refine AR ?_
   first|(exfalso;first|contradiction|omega)|exact Ah 1 0 rfl rfl rfl rfl (by repeat (first|exact Sub.nil|refine Ai rfl rfl ?_|refine Ap ?_|refine Aq rfl ?_|refine Ar rfl ?_|(apply Sub.of;(focus exact rfl);(focus exact LeA.of_eq (vb (by first|(simp[FL,hc2,R7 hz];done)|(simp[FL,hc2,R8 hc3];done)|simp[FL,hc2])));(focus exact rfl))))
  skip
  refine A4 rfl (fun hb4 hc4=>?_) (fun hb4 hc4=>?_)
  ·refine Aa (h:=Ax (h:=Dk (h:=?_)));refine A6 ?_
   first|(exfalso;first|contradiction|omega)|(exact vi (by rw[←ha,Mk hy,if_pos hc4]))
  refine Cm (h:=?_);refine⟨_,_,?_,⟨j+1,by omega,rfl,(by rw[←ha,Mk hy];simp[hc4]),rfl⟩,(wk 1 0)⟩;omega
 have e:=C6 Ab hj hc1;subst e;refine Fk (h:=?_);refine A6 ?_
 first|(exfalso;first|contradiction|omega)|(exact vi (by rw[←ha,R6]))
end
def M4(s:Spc)(a:AD):AD:=match Dm s a with
 |some d=>(d,1)
 |none=>a
def Fa(s:Spc):Nat→AD→AD
 |0,a=>a
 |n+1,a=>Fa s n (M4 s a)
theorem dL{s:Spc}{a:AD}(h:(Dm s a).isSome=true):M4 s a=((Dm s a).getD 0,1):=by
 unfold M4
 cases hc:Dm s a with
 |none=>rw[hc]at h;cases h
 |some d=>rfl
theorem T7{s:Spc}{a:AD}(h:(Dm s a).isSome=false):M4 s a=a:=by
 unfold M4
 cases hc:Dm s a with
 |none=>rfl
 |some d=>rw[hc]at h;cases h
theorem WZ{s:Spc}{a:AD}(h:(Dm s a).isSome=false):∀n,Fa s n a=a
 |0=>rfl
 |n+1=>by rw[Fa,T7 h,WZ h n]
section
theorem dM(s:Spc)(a:AD)(hs:SpcB s):AFn prog 193 [.agg (AW s), .agg (AB a)] (fun r=>r= .agg (AB (Fa s (s.mounts.length+1) a))):=by
 have hfew:=hs.few;have hml:(s.mounts.map Gg).length=s.mounts.length:=by simp
 refine enter Tryz.func193 rfl rfl rfl rfl rfl 0 rfl ?_;refine FU (h:=e_ (DT (h:=?_)));refine BM (fun m t=>∃(j:Nat) (b:AD),j≤s.mounts.length+1∧m=s.mounts.length+1 - j∧Fa s (s.mounts.length+1 - j) b=Fa s (s.mounts.length+1) a∧t=⟨look [(2, .bp 0 0),(3, .bp 1 0),(4, .bp 2 0),(5, .v (.int .i64 (j:Int)))],⟨[AW s,AB b,[.v (.int .i64 0), .v (.int .i64 0)]],[]⟩⟩) (s.mounts.length+1) ((wk 3 0)) (⟨0,a,by omega,rfl,rfl,rfl⟩) ?_;rintro m t ⟨j,b,hj,rfl,hit,rfl⟩;refine Mg (h:=n_ (h:=Fg (h:=e_ (?_))));refine A4 rfl (fun hb1 hc1=>?_) (fun hb1 hc1=>?_)
 ·obtain⟨k,hk⟩:∃k,s.mounts.length+1 - j=k+1:=⟨s.mounts.length - j,by omega⟩;rw[hk]at hit;refine By (h:=CA (h:=?_));refine A3 rfl (A8 (WH s b hs) ?_);rintro r rfl;refine Ge (h:=a_ (h:=Bt (h:=e_ (?_))));refine A4 rfl (fun hb2 hc2=>?_) (fun hb2 hc2=>?_)
  ·rw[Fa,dL hc2]at hit;refine C2 (h:=Hm (h:=Bw (Ef (h:=?_))))
   (refine⟨_,_,?_,⟨j+1,((Dm s b).getD 0,1),by omega,rfl,(by rw[show s.mounts.length+1 - (j+1)=k by omega];exact hit),rfl⟩,(wk 3 0)⟩;omega)
  rw[Fa,T7 hc2]at hit;refine Cm (h:=?_)
  first|(refine⟨_,_,?_,⟨j+1,((Dm s b).getD 0,1),by omega,rfl,(by rw[show s.mounts.length+1 - (j+1)=k by omega];exact hit),rfl⟩,(wk 3 0)⟩;omega)|(refine⟨_,_,?_,⟨j+1,b,by omega,rfl,(by rw[show s.mounts.length+1 - (j+1)=k by omega];exact hit),rfl⟩,(wk 3 0)⟩;omega)
 have ej:s.mounts.length+1 - j=0:=by omega
 rw[ej]at hit;refine CP (h:=Di (h:=e_ (B3 (?_))));refine A6 ?_;rw[←hit];rfl
end
theorem Wa{f:AU}{a:AD}{k:Nat}{d:Dvc}(hk:a.1=(k:Int))(hd:f[k]?=some d):CQ f a=d.nodes.find? (fun n:Nod=>n.ino==a.2):=by
 unfold CQ;rw[hk,NL,hd]
def dN(f:AU)(a:AD)(r:AV):Prop:=(CQ f a=none∧r= .v (.pointer none))∨∃n,CQ f a=some n∧r= .fp (AZ n)
section
theorem dO(f:AU)(a:AD)(hf:FlsB f):AFn prog 226 [.agg (Au f), .agg (AB a)] (dN f a):=by
 refine enter Tryz.func226 rfl rfl rfl rfl rfl 0 rfl ?_;refine FC (h:=Fh (h:=DK (h:=?_)));refine AJ false rfl rfl (fun hb1 hc1=>?_) (fun hb1 hc1=>?_)
 ·refine Ja (h:=Fl (h:=?_));refine A6 ?_;exact .inl ⟨by unfold CQ;rw[Qy (.inl hc1)],rfl⟩
 refine Eg (h:=n_ (h:=DR (h:=CO (h:=?_))));refine A4 rfl (fun hb2 hc2=>?_) (fun hb2 hc2=>?_)
 ·refine BK (h:=?_);refine A6 ?_;exact .inl ⟨by unfold CQ;rw[Qy (.inr (by rw[List.length_map]at hc2;exact hc2))],rfl⟩
 obtain⟨k,hk⟩:=Int.eq_ofNat_of_zero_le (show 0≤a.1 by omega);rw[hk]at hc2;obtain⟨-,d,hd,hrow, -⟩:=Br Cg (l:=f) (k:=k) (by omega);have hdn:=hf.nodes d (Am hd);refine FY (h:=AO (h:=?_));refine A3 rfl (DE (n:=k) rfl rfl hk hrow ?_);refine AO (h:=Bo (h:=JP (h:=e_ (BF (?_)))));refine BM (fun m s=>∃j:Nat,j≤d.nodes.length∧m=d.nodes.length - j∧(∀i y,i<j→d.nodes[i]?=some y→(y.ino==a.2)=false)∧s=⟨look [(3, .bp 1 0),(5, .sl 8 (d.nodes.map AZ) none),(26, .v (.int .i64 ((d.nodes.map AZ).length:Int))),(27, .v (.int .i64 (j:Int)))],⟨[Au f,AB a],[]⟩⟩) (d.nodes.length) ((wk 2 0)) (⟨0,by omega,rfl,fun i y hi=>by omega,rfl⟩) ?_;rintro m s ⟨j,hj,rfl,ha,rfl⟩;refine w_ (Cv (h:=q_ (?_)));refine A4 rfl (fun hb3 hc3=>?_) (fun hb3 hc3=>?_)
 ·obtain⟨hlt,n,hy,hrow2, -⟩:=Br AZ hc3;refine AG (q_ (BF (w_ (m_ (h:=a_ (h:=e_ (q_ (Ct 8 (h:=AE 0 (h:=AE 1 (h:=CL 2 (h:=AA 3 (h:=A9 4 (h:=AA 5 (h:=A9 6 (h:=JF 7 (h:=z_ (h:=t_ (?_)))))))))))))))))));refine A4 rfl (fun hb4 hc4=>?_) (fun hb4 hc4=>?_)
  ·refine DA (h:=i_ (h:=Ax (h:=Dk (h:=?_))));refine A6 ?_;exact .inr ⟨n,by rw[Wa hk hd];exact NM hy (by simpa using hc4) ha,rfl⟩
  refine BG (BA (t_ (Aw (JQ (h:=?_)))));refine⟨_,_,?_,⟨j+1,by omega,rfl,GN hy ha (by simpa using hc4),rfl⟩,(wk 2 0)⟩;omega
 have e:=C6 AZ hj hc3;subst e;refine Fk (h:=?_);refine A6 ?_;exact .inl ⟨by rw[Wa hk hd];exact NN (fun i y hi hy=>ha i y hi hy),rfl⟩
theorem dP(e:BS):AFn prog 256 [.agg (Dx e)] (fun r=>r= .agg (Dx e)):=by
 refine enter Tryz.func256 rfl rfl rfl rfl rfl 0 rfl ?_;refine E5 (h:=e_ (Di (h:=e_ (B3 (?_)))));refine A6 ?_;rfl
end
section
theorem dQ(es:List BS)(hes:es.length≤1000):AFn prog 255 [.sl 2 (es.map Dx) none, .fn 256 []] (fun r=>r= .sl 2 (es.map Dx) none):=by
 have hml:(es.map Dx).length=es.length:=by simp
 refine enter Tryz.func255 rfl rfl rfl rfl rfl 0 rfl ?_;refine w_ (Bo (h:=n_ (h:=Bd (h:=?_))));refine A4 rfl (fun hb1 hc1=>?_) (fun hb1 hc1=>?_)
 ·refine BK (h:=?_);refine AX (r:= .sl 2 (es.map Dx) none) none (h5:=?_) (h6:=⟨rfl,rfl,rfl⟩);rw[show es=[] from Ff (by omega)];exact LeA.nil _
 refine AG (Aa (h:=n_ (h:=cD (h:=Bo (h:=JP (h:=e_ (BF (?_))))))));refine BM (fun m s=>∃j:Nat,j≤es.length∧m=es.length - j∧s=⟨look [(1, .fn 256 []),(5, .sl 2 ((es.take j).map Dx) (some 0)),(14, .sl 2 (es.map Dx) none),(15, .v (.int .i64 ((es.map Dx).length:Int))),(16, .v (.int .i64 (j:Int)))],⟨[],[(234,2,(es.take j).map Dx)]⟩⟩) (es.length) ((wk 0 1)) (⟨0,by omega,rfl,rfl⟩) ?_;rintro m s ⟨j,hj,rfl,rfl⟩;refine w_ (Cv (h:=q_ (?_)));refine A4 rfl (fun hb2 hc2=>?_) (fun hb2 hc2=>?_)
 ·obtain⟨hlt,x,hy,hrow,e⟩:=Br Dx hc2;refine By (h:=w_ (i_ (h:=Jb (h:=EK (h:=l_ (h:=?_))))));refine A3 rfl (ST (cy:=[]) (ys:=[.agg (Dx x)]) rfl (by repeat (first|exact Args.nil|refine Args.cons _ _ _ _ _ rfl (LP rfl) ?_|refine Args.cons _ _ _ _ _ rfl (MZ _) ?_|refine Args.cons _ _ _ _ _ rfl (Lq _) ?_|refine Args.cons _ _ _ _ _ rfl (Md rfl (by repeat (first|exact A7 _|exact LeA.nil _|exact LeL.refl _|refine LeA.agg ?_|refine LeA.tup ?_|exact LeL.nil|refine LeL.cons ?_ ?_|exact LeA.any _))) ?_)) rfl rfl (dP x) ?_);rintro r rfl;refine BX (h:=?_)
  first|refine A3 rfl (EF rfl rfl rfl (by simp;omega) (by repeat constructor) ?_)|refine A3 rfl (JC rfl rfl (by simp;omega) (by repeat constructor) ?_)
  refine H6 (h:=BA (t_ (Aw (JQ (h:=?_)))));refine⟨_,_,?_,⟨j+1,by omega,rfl,rfl⟩,(by rw[e];exact(wk 0 1))⟩;omega
 have e:=C6 Dx hj hc2;subst e;rw[List.take_length];refine CP (h:=Dv (h:=?_));refine A6 ?_;rfl
theorem dR(n:Nod)(hn:n.entries.length≤1000):AFn prog 227 [.agg (AZ n)] (fun r=>r= .agg (AZ n)):=by
 refine enter Tryz.func227 rfl rfl rfl rfl rfl 0 rfl ?_;refine E5 (h:=e_ (Ay (h:=?_)));refine A3 rfl (A8 (dQ n.entries hn) ?_);rintro r rfl;refine DF (h:=Di (h:=e_ (B3 (?_))));refine A6 ?_;rfl
end
section
variable {P:Program}{ev:Operand→Option AV}{h:AH}{R:AV→AH→Prop}{d:Option Tmp}{ty:TypeId}{pos:String}{af:Array Edge}{gd:Option (Nat×Bool)}
theorem Wb{T yT:TypeId}{x y:Operand}(hp:P.underlying T=some (.pointer (P.pointee T)))(hx:ev x=some (.v (.pointer none)))(hy:ev y=some (.v (.pointer none)))(hR:R (.v (.bool true)) h):AStep P ⟨d, .binOp .eql T x y yT,ty,pos,af,gd⟩ ev h R:=
 F8 hx hy (fun w=>by simp[eqGuard,run_eql_pointer_nil (P:=P) (w:=w) T none hp]) hR
theorem Wc{T yT:TypeId}{x y:Operand}{row:List AV}(hp:P.underlying T=some (.pointer (P.pointee T)))(hx:ev x=some (.fp row))(hy:ev y=some (.v (.pointer none)))(hR:R (.v (.bool false)) h):AStep P ⟨d, .binOp .eql T x y yT,ty,pos,af,gd⟩ ev h R:=by
 refine DQ (fun _ G w ec _ he=>?_) hR;have h1:=he x (by simp[Op.operands]) _ hx;have h2:=he y (by simp[Op.operands]) _ hy;simp only[rep]at h1 h2;obtain⟨b,off,h3,_⟩:=h1;refine⟨.bool false,?_,by simp only[rep]⟩;simp[execOp,h2,h3,eqGuard,run_eql_pointer_nil (P:=P) (w:=w) T (some ⟨b,off,none⟩) hp]
end
section
theorem Wd(f:AU)(a:AD)(hf:FlsB f):AFn prog 169 [.agg (Au f), .agg (AB a)] (fun r=>r= .tup [.agg (AZ (Ag f a)), .v (.bool (Dy f a))]):=by
 have hen:=Sw hf a;refine enter Tryz.func169 rfl rfl rfl rfl rfl 0 rfl ?_;refine FU (h:=BO (h:=CA (h:=?_)));refine A3 rfl (A8 (dO f a hf) ?_);rintro r (⟨e,rfl⟩|⟨n,e,rfl⟩)
 ·skip
  refine Bo (h:=?_)
  first|refine A3 rfl (Wb (by kernel_rfl) rfl rfl ?_)|refine A3 rfl (Wc (by kernel_rfl) rfl rfl ?_)
  refine e_ (?_);refine A4 rfl (fun hb1 hc1=>?_) (fun hb1 hc1=>?_)
  ·refine Bx (h:=?_);refine AX (r:= .tup [.agg (AZ (Ag f a)), .v (.bool (Dy f a))]) none (h5:=?_) (h6:=⟨rfl,rfl,rfl⟩);rw[show Ag f a=Nod.zero by simp[Ag,e],show Dy f a=false by simp[Dy,e]];exact(by repeat (first|exact A7 _|exact LeA.nil _|exact LeL.refl _|refine LeA.agg ?_|refine LeA.tup ?_|exact LeL.nil|refine LeL.cons ?_ ?_|exact LeA.any _))
  exact ET
 skip
 refine Bo (h:=?_)
 first|refine A3 rfl (Wb (by kernel_rfl) rfl rfl ?_)|refine A3 rfl (Wc (by kernel_rfl) rfl rfl ?_)
 refine e_ (?_);refine A4 rfl (fun hb2 hc2=>?_) (fun hb2 hc2=>?_)
 ·exact ET
 refine AG (Aa (h:=k_ (h:=l_ (h:=?_))));refine A3 rfl (A8 (dR n (by simpa[Ag,e]using hen)) ?_);rintro r rfl;refine s_ (h:=Az (h:=?_));refine A6 ?_;rw[show Ag f a=n by simp[Ag,e],show Dy f a=true by simp[Dy,e]];rfl
end
def Ek(c:Lx):List AV:=[.v (.int .i64 c.1.1), .v (.int .i64 c.1.2), .v (.string c.2.1), .v (.int .i64 c.2.2.1.1), .v (.int .i64 c.2.2.1.2), .v (.int .i64 c.2.2.2.1), .v (.int .i64 c.2.2.2.2)]
section
theorem NP(d:AD)(name:AF)(o n:AD):AFn prog 233 [.agg (AB d), .v (.string name), .agg (AB o), .agg (AB n)] (fun r=>r= .sl 7 [Ek (d,name,o,n)] none):=by
 refine enter Tryz.func233 rfl rfl rfl rfl rfl 0 rfl ?_;refine JN (h:=Je (h:=H7 (h:=Bk (h:=BX (h:=Az (h:=?_))))));refine A6 ?_;rfl
theorem We{n:Int}(h:n<1∨3<n):GO n=([],50):=by unfold GO;rw[if_pos h]
theorem dS{k:Nat}(h1:¬(k:Int)<1)(h2:¬3<(k:Int)):GO (k:Int)=(List.replicate k O4,0):=by unfold GO;rw[if_neg (by omega)];simp
theorem dT(n:Int):AFn prog 110 [.v (.int .i64 n)] (fun r=>r= .tup [.agg (Au (GO n).1), .v (.int .i64 (GO n).2)]):=by
 refine enter Tryz.func110 rfl rfl rfl rfl rfl 0 rfl ?_;refine w_ (CU (h:=Bo (h:=DK (h:=?_))));refine AJ false rfl rfl (fun hb1 hc1=>?_) (fun hb1 hc1=>?_)
 ·refine BY (h:=DS (h:=E3 (h:=Bx (h:=?_))));refine AX (r:= .tup [.agg (Au (GO n).1), .v (.int .i64 (GO n).2)]) none (h5:=?_) (h6:=⟨rfl,rfl,rfl⟩);rw[We (by omega)];exact(by repeat (first|exact A7 _|exact LeA.nil _|exact LeL.refl _|refine LeA.agg ?_|refine LeA.tup ?_|exact LeL.nil|refine LeL.cons ?_ ?_|exact LeA.any _))
 refine m_ (h:=Ed (h:=CO (h:=?_)));refine A4 rfl (fun hb2 hc2=>?_) (fun hb2 hc2=>?_)
 ·refine Bx (h:=?_);refine AX (r:= .tup [.agg (Au (GO n).1), .v (.int .i64 (GO n).2)]) none (h5:=?_) (h6:=⟨rfl,rfl,rfl⟩);rw[We (by omega)];exact(by repeat (first|exact A7 _|exact LeA.nil _|exact LeL.refl _|refine LeA.agg ?_|refine LeA.tup ?_|exact LeL.nil|refine LeL.cons ?_ ?_|exact LeA.any _))
 obtain⟨k,rfl⟩:=Int.eq_ofNat_of_zero_le (show 0≤n by omega);refine AG (w_ (CU (h:=e_ (DT (h:=?_)))));refine Ls 1 0 148 2 rfl rfl (by repeat constructor) (by repeat constructor) (by repeat constructor) ?_;refine BM (fun m s=>∃j:Nat,j≤k∧m=k - j∧s=⟨look [(0, .v (.int .i64 (k:Int))),(2, .bp 0 0),(4, .bp 1 0),(5, .v (.int .i64 (j:Int)))],⟨[[.v (.slice none 0 0)],[.sl 2 ((List.replicate j O4).map Cg) (some 0)]],[(148,2,(List.replicate j O4).map Cg)]⟩⟩) (k) ((wk 2 1)) (⟨0,by omega,rfl,rfl⟩) ?_;rintro m s ⟨j,hj,rfl,rfl⟩;refine De (h:=Cv (h:=?_));refine A4 rfl (fun hb3 hc3=>?_) (fun hb3 hc3=>?_)
 ·refine By (h:=Aw (AO (h:=?_)));refine A3 rfl (H5 (y:= .agg (AZ R3)) (Du ⟨rfl,rfl⟩) ?_);refine BX (h:=Bk (h:=BX (h:=?_)))
  first|refine A3 rfl (EF rfl rfl rfl (by simp;omega) (by repeat constructor) ?_)|refine A3 rfl (JC rfl rfl (by simp;omega) (by repeat constructor) ?_)
  refine Dh (h:=Bw (Ef (h:=?_)));refine⟨_,_,?_,⟨j+1,by omega,rfl,rfl⟩,(by rw[List.replicate_succ',List.map_append];exact(wk 2 1))⟩;omega
 obtain rfl:j=k:=by omega
 refine CP (h:=Di (h:=Az (h:=?_)));refine A6 ?_;rw[dS hc1 hc2];rfl
end
def LV(f:AU)(top:AD):Nat→AD→Bool
 |0,_=>false
 |n+1,a=>if a.1≠top.1 then false else if a=top then true else LV f top n (a.1,(Ag f a).parent)
section
theorem dU(f:AU)(a top:AD)(hf:FlsB f):AFn prog 236 [.agg (Au f), .agg (AB a), .agg (AB top)] (fun r=>r= .v (.bool (LV f top 17 a))):=by
 refine enter Tryz.func236 rfl rfl rfl rfl rfl 0 rfl ?_;refine JN (h:=JK (h:=?_));refine BM (fun m s=>∃(j:Nat) (b:AD),j≤17∧m=17 - j∧LV f top (17 - j) b=LV f top 17 a∧s=⟨look [(3, .bp 0 0),(4, .bp 1 0),(5, .bp 2 0),(7, .v (.int .i64 (j:Int)))],⟨[Au f,AB b,AB top],[]⟩⟩) (17) ((wk 3 0)) (⟨0,a,by omega,rfl,rfl,rfl⟩) ?_;rintro m s ⟨j,b,hj,rfl,hit,rfl⟩;refine Bf (h:=Fg (h:=m_ (h:=?_)));refine AJ true rfl rfl (fun hb1 hc1=>?_) (fun hb1 hc1=>?_)
 ·obtain⟨k,hk⟩:∃k,17 - j=k+1:=⟨16 - j,by omega⟩;rw[hk,LV]at hit;refine AO (h:=CN (h:=DS (h:=?_)));refine A4 rfl (fun hb2 hc2=>?_) (fun hb2 hc2=>?_)
  ·rw[if_neg (by simpa using hc2)]at hit;refine By (h:=q_ (CA (h:=?_)));refine A3 rfl (GF rfl rfl (by repeat constructor) (by repeat constructor) (fun w=>O6 _ _ _ _ w) (by kernel_rfl) ?_);refine e_ (?_);refine A4 rfl (fun hb3 hc3=>?_) (fun hb3 hc3=>?_)
   ·rw[if_pos (show b=top from hc3)]at hit;refine BK (h:=D8 (h:=Dk (h:=?_)));refine A6 ?_;exact vb hit
   rw[if_neg (show¬b=top from hc3)]at hit;refine AG (CA (h:=?_));refine A3 rfl (A8 (FJ f b hf) ?_);rintro r rfl;refine Ee (h:=BO (h:=Aw (AO (h:=Dh (h:=Bw (Ef (h:=?_)))))));refine⟨_,_,?_,⟨j+1,(b.1,(Ag f b).parent),by omega,rfl,(by rw[show 17 - (j+1)=k by omega];exact hit),rfl⟩,(wk 3 0)⟩;omega
  rw[if_pos hc2]at hit;refine Fk (h:=?_);refine A6 ?_;exact vb hit
 have ej:17 - j=0:=by omega
 rw[ej,LV]at hit;refine GM (h:=e_ (Hh (h:=Fk (h:=?_))));refine A6 ?_;exact vb hit
end
theorem NQ{α:Type}{p:α→Bool}{l:List α}{j:Nat}{x:α}(hx:l[j]?=some x)(hp:p x=true):l.any p=true:=List.any_eq_true.2 ⟨x,Am hx,hp⟩
theorem O7{α:Type}{p:α→Bool}{l:List α}(h:∀i y,i<l.length→l[i]?=some y→p y=false):l.any p=false:=by
 rw[List.any_eq_false];intro x hx;obtain⟨i,hi,rfl⟩:=List.mem_iff_getElem.1 hx;simp[h i _ hi (B6 hi)]
theorem SetAt.det{α:Type}{l xs a b:List α}{n:Nat}(h:SetAt l n xs a):SetAt l n xs b→a=b:=by
 induction h generalizing b with
 |nil l n=>intro k;cases k;rfl
 |here a x l xs l' _ ih=>intro k;cases k with|here _ _ _ _ _ k=>rw[ih k]
 |there a x l xs l' n _ ih=>intro k;cases k with|there _ _ _ _ _ _ k=>rw[ih k]
def Cc(sz cap:Nat)(rows:List (List AV)):List AV:=rows.flatten++List.replicate ((cap - rows.length) * sz) .any
theorem T8{sz cap:Nat}{rows:List (List AV)}(h:∀r∈rows,r.length=sz)(hc:rows.length≤cap):(Cc sz cap rows).length=cap * sz:=by
 unfold Cc;rw[List.length_append,NE h,List.length_replicate,←Nat.add_mul]
 congr 1
 omega
theorem Wf{sz cap:Nat}{rows:List (List AV)}(h:∀r∈rows,r.length=sz):((Cc sz cap rows).drop 0).take (rows.length * sz)=rows.flatten:=by
 unfold Cc;rw[List.drop_zero,List.take_left' (NE h)]
theorem Wg{sz cap:Nat}{rows:List (List AV)}{r row':List AV}(h:∀x∈rows,x.length=sz)(hr:r.length=sz)(hp:0<sz)(hc:rows.length+1≤cap)(hs:SetAt (Cc sz cap rows) (0+rows.length * sz) r row'):row'=Cc sz cap (rows++[r]):=by
 refine hs.det ?_;unfold Cc
 have e:List.replicate ((cap - rows.length) * sz) AV.any=List.replicate sz AV.any++List.replicate ((cap - (rows++[r]).length) * sz) AV.any:=by
  rw[List.replicate_append_replicate]
  congr 1
  rw[show(rows++[r]).length=rows.length+1 by simp,show cap - rows.length=(cap - (rows.length+1))+1 by omega,Nat.add_mul];omega
 rw[e,Nat.zero_add,List.flatten_append,List.append_assoc];have key:=SetAt.right (SetAt.whole (xs:=r) (l:=List.replicate sz AV.any) (b:=List.replicate ((cap - (rows++[r]).length) * sz) AV.any) (by simp[hr])) rows.flatten (fun e=>by rw[e]at hr;simp at hr;omega);rw[NE h,Nat.add_zero]at key
 simpa using key
theorem Wh{sz cap:Nat}{rows:List (List AV)}{r:List AV}(h:∀x∈rows,x.length=sz){cap0 n:Nat}(hn:n=rows.length):((Cc sz cap0 rows).drop 0).take (n * sz)++r++List.replicate ((cap - (n+1)) * sz) .any=Cc sz cap (rows++[r]):=by
 subst hn;rw[Wf h];unfold Cc;simp
def Kg(d:Dvc)(j cap1:Nat):List AV:=[.v (.int .i64 d.next), .bs j 0 8 d.nodes.length cap1]
theorem Wi(l:List Dvc):∀r∈l.map Cg,r.length=2:=by
 intro r hr;obtain⟨d,_,rfl⟩:=List.mem_map.1 hr;rfl
theorem Ml(l:List Nod):∀r∈l.map AZ,r.length=8:=by
 intro r hr;obtain⟨d,_,rfl⟩:=List.mem_map.1 hr;rfl
end Go.Proofs.YtbgnigjfkbmceaaGreatDoor
namespace Go.Proofs.YtbgnigjfkbmceaaGreatDoor.Old
open Go.RowKit
def TA(D:Nat→Prop)(w w':World):Prop:=∀b,D b→w'.heap[b]?=w.heap[b]?
def Old(w:World):Nat→Prop:=fun b=>b<w.heap.size
def few:Nat:=65536
theorem TB{B:Nat}{a w:World}(h:Below B a w)(n:Nat):Below B a (w.drewN n):=⟨h.os,h.tape,h.output,h.size,h.block⟩
theorem RB{w w':World}(h:Below w.heap.size w w'):TA (Old w) w w':=fun b hb=>h.block b hb
theorem TC{w w':World}(h:Below w.heap.size w w')(g:Option Nat):w.grownBy w' g:=⟨h.os,h.tape,h.output,h.size,fun k hk _=>h.block k hk⟩
def RowL{α:Type}(sz:Nat)(cell:α→Nat→Value)(w:World)(D:Nat→Prop)(A:Option Addr)(xs:List α):Prop:=
 0<xs.length→∃b off,A=some ⟨b,off,none⟩∧D b∧∀i x j,xs[i]?=some x→j<sz→w.cell? ⟨b,off+i * sz+j,none⟩=some (cell x j)
def ListR{α:Type}(sz:Nat)(cell:α→Nat→Value)(w:World)(D:Nat→Prop)(v:Value)(xs:List α):Prop:=
 ∃A c,v= .slice A xs.length c∧xs.length≤c∧xs.length≤few∧RowL sz cell w D A xs
section
variable {α:Type}{sz:Nat}{cell:α→Nat→Value}{w w':World}{D D':Nat→Prop}{A:Option Addr}{v:Value}{xs:List α}
theorem RowL.keep(h:RowL sz cell w D A xs)(hs:TA D w w'):RowL sz cell w' D A xs:=by
 intro hn;obtain⟨b,off,rfl,hb,hc⟩:=h hn;exact⟨b,off,rfl,hb,fun i x j hi hj=>(World.cell?_of_block (w:=w) (a:=⟨b,off+i * sz+j,none⟩) (hs b hb)).trans (hc i x j hi hj)⟩
theorem ListR.keep(h:ListR sz cell w D v xs)(hs:TA D w w'):ListR sz cell w' D v xs:=by
 obtain⟨A,c,rfl,h1,h2,h3⟩:=h;exact⟨A,c,rfl,h1,h2,h3.keep hs⟩
end
def entCell(e:BS):Nat→Value
 |0=> .string e.1
 |_=> .int .i64 e.2
def nodCell(n:Nod×Value):Nat→Value
 |0=> .int .i64 n.1.ino
 |1=> .int .i64 n.1.kind
 |2=> .int .i64 n.1.mode
 |3=> .int .i64 n.1.uid
 |4=> .int .i64 n.1.gid
 |5=> .int .i64 n.1.parent
 |6=> .string n.1.target
 |_=>n.2
def dvcCell(d:Dvc×Value):Nat→Value
 |0=> .int .i64 d.1.next
 |_=>d.2
abbrev EntsR:=ListR 2 entCell
def Hu(at_:AD):Value:= .agg #[.int .i64 at_.1, .int .i64 at_.2]
def NodsR(w:World)(D:Nat→Prop)(v:Value)(ns:List Nod):Prop:=
 ∃xs:List (Nod×Value),xs.map (·.1)=ns∧ListR 8 nodCell w D v xs∧∀x∈xs,EntsR w D x.2 x.1.entries
def dV(w:World)(D:Nat→Prop)(v:Value)(f:AU):Prop:=
 ∃xs:List (Dvc×Value),xs.map (·.1)=f∧ListR 2 dvcCell w D v xs∧∀x∈xs,NodsR w D x.2 x.1.nodes
def FlsR(w:World)(D:Nat→Prop)(v:Value)(f:AU):Prop:=∃d,v= .agg #[d]∧dV w D d f
theorem NR{a b:Bool}(h:a=b):Ending.returned (.bool a)= .returned (.bool b):=by rw[h]
theorem dW{α β:Type}{g:α→β}{xs:List α}{ys:List β}(h:xs.map g=ys):xs.length=ys.length:=by
 subst h;simp
theorem Mm{w:World}{g:Nat}{cs:Array Value}{t:TypeId}{fz:Nat×Nat}(h:w.heap[g]?=some (.cells cs t fz))(i:Nat):w.cell? ⟨g,i,none⟩=cs[i]?:=by
 simp[World.cell?,h]
theorem TD{w:World}{g:Nat}{cs:Array Value}{t:TypeId}(h:w.heap[g]?=some (.cells cs t (0,0)))(i:Nat):w.frozen? ⟨g,i,none⟩=false:=by
 simp[World.frozen?,h]
theorem P9{w w':World}{b:Nat}{row:Option Nat}{o:Obj}(h:w.heap[b]?=some o)(hg:w.grownBy w' row)(hne:some b≠row):w'.heap[b]?=some o:=by
 have hb:b<w.heap.size:=by
  rcases Nat.lt_or_ge b w.heap.size with hlt|hge
  ·exact hlt
  rw[Array.getElem?_eq_none hge]at h;cases h
 exact(hg.block b hb hne).trans h
theorem Ha{w:World}{b:Nat}{o:Obj}(h:w.heap[b]?=some o)(o':Obj):(w.alloc o').heap[b]?=some o:=by
 have hb:b<w.heap.size:=by
  rcases Nat.lt_or_ge b w.heap.size with hlt|hge
  ·exact hlt
  rw[Array.getElem?_eq_none hge]at h;cases h
 exact(Below.heap_alloc w o' b hb).trans h
theorem GQ{w:World}{g:Nat}{cs:Array Value}{t:TypeId}(h:w.heap[g]?=some (.cells cs t (0,0))):(∀i,w.cell? ⟨g,i,none⟩=cs[i]?)∧(∀i,w.frozen? ⟨g,i,none⟩=false):=
 ⟨fun i=>Mm h i,fun i=>TD h i⟩
theorem O8{w:World}{b:Nat}{cs:Array Value}{t:TypeId}{fz:Nat×Nat}(h:w.heap[b]?=some (.cells cs t fz))(i:Nat)(u:Value):(w.setCell ⟨b,i,none⟩ u).heap[b]?=some (.cells (cs.setIfInBounds i u) t fz):=by
 simp[World.setCell,Array.getElem?_modify,h]
theorem NT{w:World}{b:Nat}{o:Obj}(h:w.heap[b]?=some o){p:Addr}(hp:b≠p.block)(u:Value):(w.setCell p u).heap[b]?=some o:=(Below.heap_setCell w p u b hp).trans h
theorem Fb{w w':World}{b B:Nat}{o:Obj}(h:w.heap[b]?=some o)(hg:Below B w w')(hb:b<B):w'.heap[b]?=some o:=(hg.block b hb).trans h
theorem LW(w:World)(o1:Obj):Below w.heap.size w (w.alloc o1):=by
 exact(Below.refl _ w).alloc (B7 _) _
theorem TE(w:World)(o1:Obj):(w.alloc o1).heap.size=w.heap.size+1:=by simp
theorem O9(w:World)(o1:Obj):(w.alloc o1).heap[w.heap.size]?=some o1:=(by have:=heap_alloc_new w o1;simpa using this)
theorem dX{w w1:World}{o1:Obj}(h:Below (w.alloc o1).heap.size (w.alloc o1) w1):Below w.heap.size w w1∧w.heap.size+1≤w1.heap.size∧w1.heap[w.heap.size]?=some o1:=by
 have hs:=h.size;rw[TE]at hs;exact⟨(LW w o1).trans (h.mono (by simp<;>omega)),hs,Fb (O9 w o1) h (by simp)⟩
theorem NU(w:World)(o1 o2:Obj):Below w.heap.size w ((w.alloc o1).alloc o2):=by
 exact(LW w o1).alloc (by simp<;>omega) _
theorem OA(w:World)(o1 o2:Obj):((w.alloc o1).alloc o2).heap[w.heap.size]?=some o1:=Ha (O9 w o1) _
theorem OB(w:World)(o1 o2:Obj):((w.alloc o1).alloc o2).heap[w.heap.size+1]?=some o2:=(by have:=heap_alloc_new (w.alloc o1) o2;simpa using this)
theorem PA(w:World)(o1 o2 o3:Obj):Below w.heap.size w (((w.alloc o1).alloc o2).alloc o3):=by
 exact(NU w o1 o2).alloc (by simp<;>omega) _
theorem TF(w:World)(o1 o2 o3:Obj):(((w.alloc o1).alloc o2).alloc o3).heap[w.heap.size]?=some o1:=Ha (OA w o1 o2) _
theorem PB(w:World)(o1 o2 o3:Obj):(((w.alloc o1).alloc o2).alloc o3).heap[w.heap.size+1]?=some o2:=Ha (OB w o1 o2) _
theorem TG(w:World)(o1 o2 o3:Obj):(((w.alloc o1).alloc o2).alloc o3).heap[w.heap.size+1+1]?=some o3:=(by have:=heap_alloc_new ((w.alloc o1).alloc o2) o3;simpa using this)
theorem Wj(w:World)(o1 o2 o3 o4:Obj):Below w.heap.size w ((((w.alloc o1).alloc o2).alloc o3).alloc o4):=by
 exact(PA w o1 o2 o3).alloc (by simp<;>omega) _
theorem Wk(w:World)(o1 o2 o3 o4:Obj):((((w.alloc o1).alloc o2).alloc o3).alloc o4).heap[w.heap.size+1]?=some o2:=Ha (PB w o1 o2 o3) _
theorem Wl(w:World)(o1 o2 o3 o4:Obj):((((w.alloc o1).alloc o2).alloc o3).alloc o4).heap[w.heap.size+1+1+1]?=some o4:=(by have:=heap_alloc_new (((w.alloc o1).alloc o2).alloc o3) o4;simpa using this)
end Go.Proofs.YtbgnigjfkbmceaaGreatDoor.Old
namespace Go.Proofs.YtbgnigjfkbmceaaGreatDoor.Old
open Go.RowKit
def flat{α:Type}(sz:Nat)(cell:α→Nat→Value)(xs:List α):List Value:=xs.flatMap fun x=>(List.range sz).map (cell x)
section
variable {α:Type}{sz:Nat}{cell:α→Nat→Value}
theorem flat_length(xs:List α):(flat sz cell xs).length=xs.length * sz:=by
 induction xs with
 |nil=>simp[flat]
 |cons x xs ih=>
   unfold flat at ih ⊢;rw[List.flatMap_cons,List.length_append,ih];simp[Nat.add_mul,Nat.add_comm]
theorem dY(xs ys:List α):flat sz cell (xs++ys)=flat sz cell xs++flat sz cell ys:=by simp[flat]
theorem flat_get(xs:List α):∀(i j:Nat) (x:α),xs[i]?=some x→j<sz→(flat sz cell xs)[i * sz+j]?=some (cell x j):=by
 induction xs with
 |nil=>intro i j x h;simp at h
 |cons y ys ih=>
   intro i j x h hj;have e:flat sz cell (y::ys)=(List.range sz).map (cell y)++flat sz cell ys:=by simp[flat]
   rw[e]
   cases i with
   |zero=>
     simp at h;subst h;rw[DJ (by simpa using hj)];simp[hj]
   |succ i=>
     rw[F1 (by simp[Nat.add_mul];omega)];simp only[List.getElem?_cons_succ]at h;have:=ih i j x h hj;rw[←this]
     congr 1
     simp[Nat.add_mul];omega
theorem Wm(xs:List α)(hsz:0<sz){k:Nat}{u:Value}(h:(flat sz cell xs)[k]?=some u):∃x,xs[k / sz]?=some x∧u=cell x (k % sz):=by
 have hk:k<xs.length * sz:=by
  have:=(Af.1 h).1
  rwa [flat_length]at this
 have hq:k / sz<xs.length:=(Nat.div_lt_iff_lt_mul hsz).2 hk;have hx:xs[k / sz]?=some xs[k / sz]:=B6 hq;have:=flat_get (cell:=cell) xs (k / sz) (k % sz) _ hx (Nat.mod_lt _ hsz);rw[Nat.mul_comm,Nat.div_add_mod,h]at this;injection this with this;exact⟨_,hx,this⟩
def Ones(w:World)(v:Value):Prop:=∀(g:Nat) (cs:Array Value) (t:TypeId),v.ownBlock=some g→w.heap[g]?=some (.cells cs t (0,0))→∀u∈cs.toList,u.oneCell'=true
theorem Ones.of_block{w w':World}{v:Value}(h:Ones w v)(hb:∀g,v.ownBlock=some g→w'.heap[g]?=w.heap[g]?):Ones w' v:=fun g cs t hg hc=>h g cs t hg ((hb g hg).symm.trans hc)
theorem Ones.nil_(w:World):Ones w (.slice none 0 0):=fun g cs t hg=>by simp[Value.ownBlock]at hg
def OwnL(sz:Nat)(cell:α→Nat→Value)(E:TypeId)(w:World)(base:Nat)(v:Value)(xs:List α):Prop:=
 w.ownsRow base E sz v xs.length (flat sz cell xs)∧Ones w v
theorem OwnL.nil_(E:TypeId)(w:World)(base:Nat):OwnL sz cell E w base (.slice none 0 0) []:=⟨World.ownsRow_nil w base E sz,Ones.nil_ w⟩
theorem OwnL.kept{E:TypeId}{w w':World}{base:Nat}{v:Value}{xs:List α}(h:OwnL sz cell E w base v xs){row:Option Nat}(hg:w.grownBy w' row)(hne:v.ownBlock=none∨v.ownBlock≠row):OwnL sz cell E w' base v xs:=by
 refine⟨World.ownsRow.kept h.1 hg hne,h.2.of_block fun g hb=>hg.block g (World.ownsRow.lt h.1 g hb).2 ?_⟩;rcases hne with e|e
 ·rw[e]at hb;cases hb
 rw[←hb];exact e
theorem OwnL.alloc{E:TypeId}{w:World}{base:Nat}{v:Value}{xs:List α}(h:OwnL sz cell E w base v xs)(o:Obj):OwnL sz cell E (w.alloc o) base v xs:=
 ⟨World.ownsRow.alloc h.1 o,h.2.of_block fun g hb=>heap_alloc_old w o (World.ownsRow.lt h.1 g hb).2⟩
theorem OwnL.below{E:TypeId}{w w':World}{base:Nat}{v:Value}{xs:List α}(h:OwnL sz cell E w base v xs)(hb:Below w.heap.size w w'):OwnL sz cell E w' base v xs:=
 h.kept (TC hb none) (by cases v.ownBlock<;>simp)
theorem OwnL.set_{E:TypeId}{w:World}{base:Nat}{v:Value}{xs:List α}(h:OwnL sz cell E w base v xs){p:Addr}(hp:v.ownBlock≠some p.block)(u:Value):OwnL sz cell E (w.setCell p u) base v xs:=
 h.kept (row:=some p.block) ⟨rfl,rfl,rfl,by simp[World.setCell],fun k _ hne=>Below.heap_setCell w p u k (fun e=>hne (by rw[e]))⟩ (.inr hp)
theorem OwnL.setb{E:TypeId}{w:World}{base:Nat}{v:Value}{xs:List α}(h:OwnL sz cell E w base v xs){p:Addr}(hp:p.block<base)(u:Value):OwnL sz cell E (w.setCell p u) base v xs:=
 h.set_ (fun e=>by have:=(World.ownsRow.lt h.1 _ e).1;omega) u
theorem OwnL.lt{E:TypeId}{w:World}{base:Nat}{v:Value}{xs:List α}(h:OwnL sz cell E w base v xs):∀k,v.ownBlock=some k→base≤k∧k<w.heap.size:=World.ownsRow.lt h.1
theorem OwnL.ne_{E:TypeId}{w:World}{base:Nat}{v:Value}{xs:List α}(h:OwnL sz cell E w base v xs){g:Nat}{t:TypeId}{cs:Array Value}(hg:w.heap[g]?=some (.cells cs t (0,0)))(hne:E≠t):v.ownBlock≠some g:=by
 rcases h.1.2 with⟨rfl,_⟩|⟨g',cap,cur,rfl,_,hh,_⟩
 ·simp[Value.ownBlock]
 intro he;have:g'=g:=by simpa[Value.ownBlock]using he
 subst this;rw[hg]at hh;injection hh with hh;injection hh with _ ht;exact hne ht.symm
theorem OwnL.form{E:TypeId}{w:World}{base:Nat}{v:Value}{xs:List α}(h:OwnL sz cell E w base v xs):∃A c,v= .slice A xs.length c:=by
 rcases h.1.2 with⟨rfl,hn⟩|⟨g,cap,cur,rfl,_⟩
 ·exact⟨none,0,by rw[hn]⟩
 exact⟨_,_,rfl⟩
end
def M5(T E sz bytes:Nat):Prop:=prog.underlying T=some (.slice E)∧∃i z,prog.info? E=some i∧i.zero=some z∧i.size=sz∧i.bytes=bytes∧z.cells.size=sz∧(z.cells.toList.all (·.oneCell'))=true
theorem TH{T E sz bytes:Nat}{z:Value}(hT:prog.underlying T=some (.slice E))(h:(prog.info? E).map (fun i=>(i.zero,i.size,i.bytes))=some (some z,sz,bytes))(hz:z.cells.size=sz)(h1:(z.cells.toList.all (·.oneCell'))=true):M5 T E sz bytes:=by
 refine⟨hT,?_⟩
 cases hi:prog.info? E with
 |none=>rw[hi]at h;cases h
 |some i=>
   rw[hi]at h;simp only[Option.map_some,Option.some.injEq,Prod.mk.injEq]at h;exact⟨i,z,rfl,h.1,h.2.1,h.2.2,hz,h1⟩
theorem dZ{P:Program}{w:World}{base:Nat}{t ty e:TypeId}{i:TypeInfo}{size:Nat}(ht:P.underlying t=some (.slice e))(hi:P.info? e=some i)
    {v:Value} {n:Nat} {xs:List Value} (hown:w.ownsRow base e size v n xs) (c:Nat):(Builtin.append_ #[t,t] ty #[v, .slice none 0 c]).run P w= .ok v w:=by
 rcases hown.2 with⟨rfl,rfl⟩|⟨g,cap,cur,rfl,_,_,hnc,_⟩
 ·simp[Builtin.append_,run_underlying ht,sizeOf,typeInfo,hi,Builtin.lenOf,Builtin.firstCells]
 simp[Builtin.append_,run_underlying ht,sizeOf,typeInfo,hi,Builtin.lenOf,Builtin.firstCells,hnc,storeCells]
section
variable {α:Type}{sz:Nat}{cell:α→Nat→Value}
theorem Wn{z:Array Value}(h:(z.toList.all (·.oneCell'))=true){k:Nat}{u:Value}(hu:u∈Builtin.zeroCells z k):u.oneCell'=true:=by
 simp only[Builtin.zeroCells,Array.mem_map,Array.mem_range]at hu;obtain⟨i,hi2,rfl⟩:=hu
 have hpos:0<z.size:=by
  rcases Nat.eq_zero_or_pos z.size with e|e
  ·rw[e]at hi2;simp at hi2
  exact e
 have hlt:i % z.size<z.size:=Nat.mod_lt _ hpos;rw[getElem!_pos z _ hlt];exact List.all_eq_true.1 h _ (by simp)
set_option maxRecDepth 10000 in
theorem Wo{w:World}{T E bytes ty:Nat}(hE:M5 T E sz bytes)(hsz:0<sz)(hby:bytes≤100000){base:Nat}{v:Value}{n:Nat}{xs:List Value}(hown:w.ownsRow base E sz v n xs)(h1:Ones w v)
    (ad:Addr) (m c:Nat) (news:List Value) (hl:news.length=m * sz) (hnews:∀j u,news[j]?=some u→w.cell? (ad.add j)=some u) (hone:∀u∈news,u.oneCell'=true) (hf:n≤1000000) (hm:m≤1000000) {v':Value} {w':World}
    (hrun:(Builtin.append_ #[T,T] ty #[v, .slice (some ad) m c]).run prog w= .ok v' w') (hnil:v'= .slice none 0 0↔v= .slice none 0 0∧m=0):Ones w' v':=by
 obtain⟨ht,i,z,hi,hz,hs,hb,hzs,hz1⟩:=hE;subst hs;have hbb:(n+m) * bytes≤2000000 * 100000:=Nat.mul_le_mul (by omega) hby;rcases hown.2 with⟨rfl,rfl⟩|⟨g,cap,cur,rfl,hbg,hg,hnc,hcm,hcs,htk⟩
 ·rcases Nat.eq_zero_or_pos m with h0|h0
  ·rw[hnil.2 ⟨rfl,h0⟩];exact Ones.nil_ _
  have hr:=run_append_nil (P:=prog) w T ty E i z ht hi hz ad m c news hl hnews h0 (by omega) (by rw[hb];rw[Nat.zero_add]at hbb;omega);have hq:=hrun.symm.trans hr;simp only[Result.ok.injEq]at hq;obtain⟨rfl,rfl⟩:=hq;intro g cs t hgg hc u hu;have:g=w.heap.size:=by simpa[Value.ownBlock]using hgg.symm
  subst this;have hn:=heap_alloc_new w.drew (.cells (news.toArray++Builtin.zeroCells z.cells (grownCap w m 0 E - m)) E);have hn':(w.drew.alloc (.cells (news.toArray++Builtin.zeroCells z.cells (grownCap w m 0 E - m)) E)).heap[w.heap.size]?=some (.cells (news.toArray++Builtin.zeroCells z.cells (grownCap w m 0 E - m)) E):=hn;rw[hn']at hc;injection hc with hc;injection hc with hc _;subst hc;rcases Array.mem_append.1 (Array.mem_toList_iff.1 hu)with h|h
  ·exact hone u (by simpa using h)
  exact Wn hz1 h
 have hgc:w.heap[g]?=some (.cells cur.toList.toArray E (0,0)):=by simpa using hg
 by_cases hroom:n+m≤cap
 ·have hfit:n * i.size+news.length≤cur.size:=by
     rw[hcs,hl,←Nat.add_mul];exact Nat.mul_le_mul_right _ hroom
  have hr:=run_append_room_cells (P:=prog) w T ty E i ht hi g 0 n cap ad m c news hl hnews hone hroom (fun j hj=>by
   have:0+n * i.size+j<cur.size:=by omega
   simp only[World.cell?,hg];simp;omega) (fun j hj=>by simp[World.frozen?,hg])
  have hq:=hrun.symm.trans hr;simp only[Result.ok.injEq]at hq;obtain⟨rfl,rfl⟩:=hq;obtain⟨r1,_⟩:=QD g E news (0+n * i.size) cur.toList w hgc;intro g' cs t hgg hc u hu;have:g'=g:=by simpa[Value.ownBlock]using hgg.symm
  subst this;rw[r1]at hc;injection hc with hc;injection hc with hc _;subst hc;rcases On news _ _ u (by simpa using hu)with h|h
  ·exact h1 g' cur E rfl hg u h
  exact hone u h
 have hr:=run_append_grow (P:=prog) w T ty E i z ht hi hz ⟨g,0,none⟩ n cap xs hown.1 (fun j u hj=>by
  rw[Addr.add_mid];simp only[World.cell?,hg];rw[←htk,List.getElem?_take]at hj;split at hj
  ·simpa using hj
  cases hj) ad m c news hl hnews (by omega) (by omega) (growslice_fits (by omega) (by rw[hb];omega))
 have hq:=hrun.symm.trans hr;simp only[Result.ok.injEq]at hq;obtain⟨rfl,rfl⟩:=hq;intro g' cs t hgg hc u hu;have:g'=w.heap.size:=by simpa[Value.ownBlock]using hgg.symm
 subst this;have hn':(w.drew.alloc (.cells (xs.toArray++news.toArray++Builtin.zeroCells z.cells (grownCap w (n+m) cap E - (n+m))) E)).heap[w.heap.size]?=some (.cells (xs.toArray++news.toArray++Builtin.zeroCells z.cells (grownCap w (n+m) cap E - (n+m))) E):=heap_alloc_new w.drew _;rw[hn']at hc;injection hc with hc;injection hc with hc _;subst hc;rcases Array.mem_append.1 (Array.mem_toList_iff.1 hu)with h|h
 ·rcases Array.mem_append.1 h with h|h
  ·have hx:u∈xs:=by simpa using h
   rw[←htk]at hx;exact h1 g cur E rfl hg u (List.mem_of_mem_take hx)
  exact hone u (by simpa using h)
 exact Wn hz1 h
theorem eB{w:World}{T E bytes ty:Nat}(hE:M5 T E sz bytes)(hsz:0<sz)(hby:bytes≤100000){base:Nat}{v sv:Value}{xs ys:List α}{D:Nat→Prop}(hown:OwnL sz cell E w base v xs)(hr:ListR sz cell w D sv ys)
    (h1:∀y∈ys,∀j,j<sz→(cell y j).oneCell'=true) (hf:xs.length≤1000000) (hbase:base≤w.heap.size):
    ∃v' w',(Builtin.append_ #[T,T] ty #[v,sv]).run prog w= .ok v' w'∧OwnL sz cell E w' base v' (xs++ys)∧w.grownBy w' v.ownBlock∧(v'.ownBlock=v.ownBlock∨v'.ownBlock=some w.heap.size):=by
 have hE0:=hE;obtain⟨ht,i,z,hi,hz,hs,hb,hzs,hz1⟩:=hE;obtain⟨A,c,rfl,hlc,hfew,hrow⟩:=hr;unfold few at hfew;rcases Nat.eq_zero_or_pos ys.length with h0|h0
 ·have hy:ys=[]:=Ff h0;subst hy;rcases A with _|ad
  ·exact⟨v,w,dZ ht hi hown.1 c,by simpa using hown,World.grownBy.refl w _, .inl rfl⟩
  obtain⟨v',w',hrun,h2,h3,h4,h5⟩:=run_append_own_at (P:=prog) w base T ty E i z sz bytes ht hi hz hs hb hzs hsz v xs.length _ hown.1 ad 0 c [] (by simp) (by simp) (by simp) (by unfold maxLen;omega) (by
   have:(xs.length+0) * bytes≤1000000 * 100000:=Nat.mul_le_mul (by omega) hby
   omega) hbase
  exact⟨v',w',hrun,⟨by simpa using h2,Wo hE0 hsz hby hown.1 hown.2 ad 0 c [] (by simp) (by simp) (by simp) hf (by omega) hrun h4⟩,h3,h5⟩
 obtain⟨b,off,rfl,_,hcell⟩:=hrow h0
 have hcl:∀j u,(flat sz cell ys)[j]?=some u→w.cell? ((⟨b,off,none⟩:Addr).add j)=some u:=by
  intro j u hu;obtain⟨x,hx,rfl⟩:=Wm ys hsz hu;have hcl:=hcell _ x (j % sz) hx (Nat.mod_lt _ hsz)
  have hm:off+j / sz * sz+j % sz=off+j:=by
   have:=Nat.div_add_mod j sz;rw[Nat.mul_comm]at this;omega
  rw[hm]at hcl;rw[Addr.add_lit];exact hcl
 have hon:∀u∈flat sz cell ys,u.oneCell'=true:=by
  intro u hu;obtain⟨k,hk⟩:=List.mem_iff_getElem?.1 hu;obtain⟨x,hx,rfl⟩:=Wm ys hsz hk;exact h1 x (Am hx) _ (Nat.mod_lt _ hsz)
 obtain⟨v',w',hrun,h2,h3,h4,h5⟩:=run_append_own_at (P:=prog) w base T ty E i z sz bytes ht hi hz hs hb hzs hsz v xs.length _ hown.1 ⟨b,off,none⟩ ys.length c (flat sz cell ys) (flat_length ys) hcl hon (by unfold maxLen;omega) (by
     have:(xs.length+ys.length) * bytes≤1100000 * 100000:=Nat.mul_le_mul (by omega) hby
     omega) hbase
 exact⟨v',w',hrun,⟨by rw[dY,List.length_append];exact h2,Wo hE0 hsz hby hown.1 hown.2 _ _ c _ (flat_length ys) hcl hon hf (by omega) hrun h4⟩,h3,h5⟩
theorem eC{w:World}{o:Oper}{a:Act}{K:Act→World→Prop}{Q:Exit→Act→World→Prop}(s x:Operand)(T:TypeId)
    (ho:o.op= .call {callee:= .builtin .append,args:=#[s,x],argTypes:=#[T,T]}) {E bytes:Nat} (hE:M5 T E sz bytes) (hsz:0<sz) (hby:bytes≤100000)
    {base:Nat} {v sv:Value} {xs ys:List α} {D:Nat→Prop} (hs:a.eval s=v) (hx:a.eval x=sv) (hown:OwnL sz cell E w base v xs) (hr:ListR sz cell w D sv ys)
    (h1:∀y∈ys,∀j,j<sz→(cell y j).oneCell'=true) (hf:xs.length≤1000000) (hbase:base≤w.heap.size)
    (h:∀v' w',OwnL sz cell E w' base v' (xs++ys)→w.grownBy w' v.ownBlock→(v'.ownBlock=v.ownBlock∨v'.ownBlock=some w.heap.size)→K (a.put o.dst v') w'):o.wp prog a w K Q:=by
 obtain⟨v',w',hrun,h2,h3,h4⟩:=eB (ty:=o.type) hE hsz hby hown hr h1 hf hbase;unfold Oper.wp execOp;simp only[ho,resolve,invoke,builtin,Sem.run_bind,Sem.run_pure,Result.andThen_ok,List.map_toArray,List.map_cons,List.map_nil,hs,hx,hrun];exact h v' w' h2 h3 h4
theorem TJ{w:World}{ops:Array Oper}{rest:List Oper}{o:Oper}{a:Act}{Q:Exit→Act→World→Prop}(hgd:o.guard=none)(s x:Operand)(T:TypeId)
    (ho:o.op= .call {callee:= .builtin .append,args:=#[s,x],argTypes:=#[T,T]}) {E bytes:Nat} (hE:M5 T E sz bytes) (hsz:0<sz) (hby:bytes≤100000)
    {base:Nat} {v sv:Value} {xs ys:List α} {D:Nat→Prop} (hs:a.eval s=v) (hx:a.eval x=sv) (hown:OwnL sz cell E w base v xs) (hr:ListR sz cell w D sv ys)
    (h1:∀y∈ys,∀j,j<sz→(cell y j).oneCell'=true) (hf:xs.length≤1000000) (hbase:base≤w.heap.size)
    (h:∀v' w',OwnL sz cell E w' base v' (xs++ys)→w.grownBy w' v.ownBlock→(v'.ownBlock=v.ownBlock∨v'.ownBlock=some w.heap.size)→wpList prog ops Q rest (a.put o.dst v') w'):wpList prog ops Q (o::rest) a w:=
 wpList_plain hgd fun _ hK=>eC s x T ho hE hsz hby hs hx hown hr h1 hf hbase fun v' w' h2 h3 h4=>hK _ _ (h v' w' h2 h3 h4)
theorem OwnL.mono{E:TypeId}{w:World}{base base':Nat}{v:Value}{xs:List α}(h:OwnL sz cell E w base v xs)(hb:base'≤base):OwnL sz cell E w base' v xs:=by
 refine⟨⟨h.1.1,?_⟩,h.2⟩;rcases h.1.2 with h'|⟨g,cap,cur,hv,hg,r⟩
 ·exact .inl h'
 exact .inr ⟨g,cap,cur,hv,Nat.le_trans hb hg,r⟩
theorem eD{w:World}{ops:Array Oper}{rest:List Oper}{o:Oper}{a:Act}{Q:Exit→Act→World→Prop}(hgd:o.guard=none)(s x:Operand)(T:TypeId)
    (ho:o.op= .call {callee:= .builtin .append,args:=#[s,x],argTypes:=#[T,T]}) {E bytes:Nat} (hE:M5 T E sz bytes) (hsz:0<sz) (hby:bytes≤100000)
    (sv:Value) (ys:List α) {D:Nat→Prop} (hs:a.eval s= .slice none 0 0) (hx:a.eval x=sv) (hr:ListR sz cell w D sv ys)
    (h1:∀y∈ys,∀j,j<sz→(cell y j).oneCell'=true)
    (h:∀A c w',OwnL sz cell E w' w.heap.size (.slice A ys.length c) ys→Below w.heap.size w w'→wpList prog ops Q rest (a.put o.dst (.slice A ys.length c)) w'):wpList prog ops Q (o::rest) a w:=
 TJ hgd s x T ho hE hsz hby hs hx (OwnL.nil_ E w w.heap.size) hr h1 (by simp) (B7 _) fun v' w' h2 h3 _=>by
  rw[List.nil_append]at h2;obtain⟨A,c,rfl⟩:=h2.form;exact h A c w' h2 ⟨h3.os,h3.tape,h3.output,h3.size,fun k hk=>h3.block k hk (by simp[Value.ownBlock])⟩
theorem Wp{w:World}{cs:Array Value}{t:TypeId}{x:α}{B:Nat}(hB:B=w.heap.size)(hcs:∀j,j<sz→cs[j]?=some (cell x j)){D:Nat→Prop}(hD:D w.heap.size):ListR sz cell (w.alloc (.cells cs t)) D (.slice (some ⟨B,0,none⟩) 1 1) [x]:=by
 subst hB;refine⟨_,1,rfl,B7 _,by unfold few;simp,fun _=>⟨_,_,rfl,hD,fun i y j hi hj=>?_⟩⟩
 cases i with
 |succ i=>simp at hi
 |zero=>
   simp at hi;subst hi;rw[cell_of_row (w.alloc (.cells cs t)) w.heap.size _ cs t (0,0) (heap_alloc_new w _)];simp[hcs j hj]
end
theorem eE:M5 149 234 2 24:=TH (z:= .agg #[.string ⟨#[]⟩, .int .i64 0]) (by kernel_rfl) (by kernel_rfl) rfl rfl
theorem eF:M5 146 151 8 88:=TH (z:= .agg #[.int .i64 0, .int .i64 0, .int .i64 0, .int .i64 0, .int .i64 0, .int .i64 0, .string ⟨#[]⟩, .slice none 0 0]) (by kernel_rfl) (by kernel_rfl) rfl rfl
theorem eG:M5 37 148 2 32:=TH (z:= .agg #[.int .i64 0, .slice none 0 0]) (by kernel_rfl) (by kernel_rfl) rfl rfl
end Go.Proofs.YtbgnigjfkbmceaaGreatDoor.Old
namespace Go.Proofs.YtbgnigjfkbmceaaGreatDoor.Old
open Go.RowKit
def blk(v:Value):List Nat:=v.ownBlock.toList
theorem mem_blk{v:Value}{b:Nat}:b∈blk v↔v.ownBlock=some b:=by
 unfold blk;cases v.ownBlock<;>simp[eq_comm]
section
variable {α:Type}{sz:Nat}{cell:α→Nat→Value}{E:TypeId}{w w':World}{base:Nat}{v:Value}{xs:List α}
theorem OwnL.frame(h:OwnL sz cell E w base v xs){row:Option Nat}(hg:w.grownBy w' row)(hne:∀b∈blk v,some b≠row):OwnL sz cell E w' base v xs:=by
 refine h.kept hg ?_
 cases hb:v.ownBlock with
 |none=>exact .inl rfl
 |some b=>exact .inr (hne b (mem_blk.2 hb))
theorem OwnL.blk_lt(h:OwnL sz cell E w base v xs):∀b∈blk v,base≤b∧b<w.heap.size:=fun b hb=>h.lt b (mem_blk.1 hb)
theorem OwnL.not_mem(h:OwnL sz cell E w base v xs){g:Nat}{t:TypeId}{cs:Array Value}(hg:w.heap[g]?=some (.cells cs t (0,0)))(hne:E≠t):g∉blk v:=fun hm=>h.ne_ hg hne (mem_blk.1 hm)
end
def fpN(v:Value)(ys:List (Nod×Value)):List Nat:=blk v++ys.flatMap fun y=>blk y.2
def NodsAt(w:World)(base:Nat)(v:Value)(ys:List (Nod×Value)):Prop:=
 OwnL 8 nodCell 151 w base v ys∧(∀y∈ys,OwnL 2 entCell 234 w base y.2 y.1.entries∧y.1.entries.length≤few)∧(fpN v ys).Nodup
abbrev G3:=Int×Value×List (Nod×Value)
def NV(d:G3):Nat→Value
 |0=> .int .i64 d.1
 |_=>d.2.1
def fpD(v:Value)(L:List G3):List Nat:=blk v++L.flatMap fun x=>fpN x.2.1 x.2.2
def DvcsAt(w:World)(base:Nat)(v:Value)(L:List G3):Prop:=
 OwnL 2 NV 148 w base v L∧(∀x∈L,NodsAt w base x.2.1 x.2.2∧x.2.2.length≤few)∧(fpD v L).Nodup∧L.length≤few
def dvcOf(x:G3):Dvc:=⟨x.1,x.2.2.map (·.1)⟩
def flsOf(L:List G3):AU:=L.map dvcOf
section
variable {w w':World}{base:Nat}{v:Value}
theorem NodsAt.frame{ys:List (Nod×Value)}(h:NodsAt w base v ys){row:Option Nat}(hg:w.grownBy w' row)(hne:∀b∈fpN v ys,some b≠row):NodsAt w' base v ys:=by
 obtain⟨h1,h2,h3⟩:=h;refine⟨h1.frame hg fun b hb=>hne b (List.mem_append_left _ hb),fun y hy=>⟨(h2 y hy).1.frame hg fun b hb=>hne b (List.mem_append_right _ (List.mem_flatMap.2 ⟨y,hy,hb⟩)),(h2 y hy).2⟩,h3⟩
theorem NodsAt.fp_lt{ys:List (Nod×Value)}(h:NodsAt w base v ys):∀b∈fpN v ys,base≤b∧b<w.heap.size:=by
 intro b hb;rcases List.mem_append.1 hb with hb|hb
 ·exact h.1.blk_lt b hb
 obtain⟨y,hy,hb⟩:=List.mem_flatMap.1 hb;exact(h.2.1 y hy).1.blk_lt b hb
theorem DvcsAt.frame{L:List G3}(h:DvcsAt w base v L){row:Option Nat}(hg:w.grownBy w' row)(hne:∀b∈fpD v L,some b≠row):DvcsAt w' base v L:=by
 obtain⟨h1,h2,h3,h4⟩:=h;refine⟨h1.frame hg fun b hb=>hne b (List.mem_append_left _ hb),fun y hy=>⟨(h2 y hy).1.frame hg fun b hb=>hne b (List.mem_append_right _ (List.mem_flatMap.2 ⟨y,hy,hb⟩)),(h2 y hy).2⟩,h3,h4⟩
theorem DvcsAt.fp_lt{L:List G3}(h:DvcsAt w base v L):∀b∈fpD v L,base≤b∧b<w.heap.size:=by
 intro b hb;rcases List.mem_append.1 hb with hb|hb
 ·exact h.1.blk_lt b hb
 obtain⟨y,hy,hb⟩:=List.mem_flatMap.1 hb;exact(h.2.1 y hy).1.fp_lt b hb
theorem NodsAt.below{ys:List (Nod×Value)}(h:NodsAt w base v ys)(hb:Below w.heap.size w w'):NodsAt w' base v ys:=h.frame (TC hb none) (by simp)
theorem DvcsAt.below{L:List G3}(h:DvcsAt w base v L)(hb:Below w.heap.size w w'):DvcsAt w' base v L:=h.frame (TC hb none) (by simp)
theorem DvcsAt.set_{L:List G3}(h:DvcsAt w base v L){p:Addr}(hp:p.block∉fpD v L)(u:Value):DvcsAt (w.setCell p u) base v L:=
 h.frame (row:=some p.block) ⟨rfl,rfl,rfl,by simp[World.setCell],fun k _ hne=>Below.heap_setCell w p u k (fun e=>hne (by rw[e]))⟩ (fun b hb e=>hp (by injection e with e;rwa [←e]))
theorem NodsAt.set_{L:List (Nod×Value)}(h:NodsAt w base v L){p:Addr}(hp:p.block∉fpN v L)(u:Value):NodsAt (w.setCell p u) base v L:=
 h.frame (row:=some p.block) ⟨rfl,rfl,rfl,by simp[World.setCell],fun k _ hne=>Below.heap_setCell w p u k (fun e=>hne (by rw[e]))⟩ (fun b hb e=>hp (by injection e with e;rwa [←e]))
theorem DvcsAt.nil_(w:World)(base:Nat):DvcsAt w base (.slice none 0 0) []:=⟨OwnL.nil_ _ _ _,by simp,by simp[fpD,blk,Value.ownBlock],by simp⟩
theorem NodsAt.nil_(w:World)(base:Nat):NodsAt w base (.slice none 0 0) []:=⟨OwnL.nil_ _ _ _,by simp,by simp[fpN,blk,Value.ownBlock]⟩
end
end Go.Proofs.YtbgnigjfkbmceaaGreatDoor.Old
namespace Go.Proofs.YtbgnigjfkbmceaaGreatDoor.Old
open Go.RowKit
theorem eH{w:World}{b o:Nat}{x:Nod×Value}(h:∀j,j<8→w.cell? ⟨b,o+j,none⟩=some (nodCell x j)):
    w.cell? ⟨b,o,none⟩=some (.int .i64 x.1.ino)∧w.cell? ⟨b,o+1,none⟩=some (.int .i64 x.1.kind)∧w.cell? ⟨b,o+2,none⟩=some (.int .i64 x.1.mode)∧w.cell? ⟨b,o+3,none⟩=some (.int .i64 x.1.uid)∧
    w.cell? ⟨b,o+4,none⟩=some (.int .i64 x.1.gid)∧w.cell? ⟨b,o+5,none⟩=some (.int .i64 x.1.parent)∧w.cell? ⟨b,o+6,none⟩=some (.string x.1.target)∧w.cell? ⟨b,o+7,none⟩=some x.2:=
 ⟨h 0 (by omega),h 1 (by omega),h 2 (by omega),h 3 (by omega),h 4 (by omega),h 5 (by omega),h 6 (by omega),h 7 (by omega)⟩
theorem eJ(y:BS)(j:Nat):(entCell y j).oneCell'=true:=by
 unfold entCell;split<;>rfl
end Go.Proofs.YtbgnigjfkbmceaaGreatDoor.Old
