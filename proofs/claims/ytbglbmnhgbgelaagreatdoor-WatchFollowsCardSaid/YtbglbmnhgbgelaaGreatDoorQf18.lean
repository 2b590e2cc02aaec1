/-
  Part 18 of the proof of WatchFollowsP: what the statement's proof uses of the texts in wip/tpl.
-/
import Derived.Test.YtbglbmnhgbgelaaGreatDoorQf17
open Go.Proofs.Tryz (prog)
set_option maxRecDepth 10000
set_option maxHeartbeats 4000000
set_option linter.unusedVariables false
set_option linter.unusedSimpArgs false
namespace Go.Proofs.YtbglbmnhgbgelaaGreatDoor
open Go.RowKit
theorem mP{a b:Nat}(h:a<b):Nat.blt a b=true:=by rw[Nat.blt_eq];exact h
theorem SetAt.sym{α:Type}{x:α}:∀{row:List α} {o:Nat},o<row.length→SetAt row o [x] (row.set o x)
 |[],_,h=>by simp at h
 |y::ys,0,_=>SetAt.here y x ys [] ys (SetAt.nil ys 0)
 |y::ys,o+1,h=>SetAt.there y x ys [] (ys.set o x) o (SetAt.sym (by simpa using h))
theorem mQ(n:Int):0≤(Br n).2.1∧(Br n).2.1≤2∧0≤(Br n).2.2.1∧(Br n).2.2.1≤2∧0≤(Br n).2.2.2.1∧(Br n).2.2.2.1≤(Br n).2.2.2.2∧(Br n).2.2.2.2≤100:=by
 unfold Br;split
 ·decide
 rename_i h;obtain⟨m,rfl⟩:=Int.eq_ofNat_of_zero_le (show 0≤n by omega);have hm:m<22:=by omega
 have key:∀m,m<22→0≤((EU[m]?).getD (⟨#[]⟩,0,0,0,0)).2.1∧((EU[m]?).getD (⟨#[]⟩,0,0,0,0)).2.1≤2∧0≤((EU[m]?).getD (⟨#[]⟩,0,0,0,0)).2.2.1∧((EU[m]?).getD (⟨#[]⟩,0,0,0,0)).2.2.1≤2∧0≤((EU[m]?).getD (⟨#[]⟩,0,0,0,0)).2.2.2.1∧((EU[m]?).getD (⟨#[]⟩,0,0,0,0)).2.2.2.1≤((EU[m]?).getD (⟨#[]⟩,0,0,0,0)).2.2.2.2∧((EU[m]?).getD (⟨#[]⟩,0,0,0,0)).2.2.2.2≤100:=by decide
 exact key m hm
section
theorem mR(n:Int):AFn prog 69 [.v (.int .i64 n)] (fun r=>r= .tup [.v (.int .i64 (Br n).2.1), .v (.int .i64 (Br n).2.2.1), .v (.int .i64 (Br n).2.2.2.1), .v (.int .i64 (Br n).2.2.2.2)]):=by
 refine enter Tryz.func69 rfl rfl rfl rfl rfl 0 rfl ?_;refine w_ (a_ (h:=a_ (h:=a_ (h:=a_ (h:=e_ (w_ (m_ (h:=?_))))))));refine A6 rfl (AK (Vn n) ?_);rintro r rfl;refine AZ (h:=s_ (h:=e_ (q_ (E4 12 (h:=AG 0 (h:=AM 1 (h:=AG 2 (h:=AM 3 (h:=AG 4 (h:=AM 5 (h:=AG 6 (h:=AM 7 (h:=BK 8 (h:=BK 9 (h:=BK 10 (h:=BK 11 (h:=z_ (h:=t_ (A4 (?_))))))))))))))))))));refine AJ ?_;rfl
theorem Fm(l:List Int)(a:Nat)(ha:a≤10000000000):Gg prog 37 l a [] 300 (fun r=>∃c:Cal,c.paths.length≤1000∧c.args.length≤1000∧r= .agg (Dc c)):=by
 refine enter Tryz.func37 rfl rfl rfl rfl rfl 1 rfl ?_;refine w_ (AZ (h:=e_ (w_ (m_ (h:=Bw (h:=?_))))));refine A6 rfl (BZ 0 (hc:=K8 l _ _ (fun _=>true) (by omega) (by rfl) (by rfl) (by rfl)) (hR:=?_));rintro r a1 ha1 ⟨k1,rfl,p1⟩;refine⟨rfl,_,(by repeat constructor),?_⟩;refine AX (h:=AZ (h:=s_ (h:=e_ (w_ (f_ (h:=l_ (h:=?_)))))));refine A6 rfl (AK (mR _) ?_);rintro r rfl;obtain⟨q1,q2,q3,q4,q5,q6,q7⟩:=mQ k1;generalize (Br k1).2.1=la at q1 q2 q3 q4 q5 q6 q7 ⊢;generalize (Br k1).2.2.1=lb at q1 q2 q3 q4 q5 q6 q7 ⊢;generalize (Br k1).2.2.2.1=lc at q1 q2 q3 q4 q5 q6 q7 ⊢;generalize (Br k1).2.2.2.2=ld at q1 q2 q3 q4 q5 q6 q7 ⊢;obtain⟨na,rfl⟩:=Int.eq_ofNat_of_zero_le q1;obtain⟨nb,rfl⟩:=Int.eq_ofNat_of_zero_le q3;refine m_ (h:=x_ (h:=x_ (h:=x_ (h:=x_ (h:=a_ (h:=a_ (h:=a_ (h:=a_ (h:=e_ (q_ (w_ (a_ (h:=e_ (Av (?_)))))))))))))));refine Bq (fun n s=>∃(j b1:Nat) (n0 y0 y1 y2 y3:Int),j≤na∧n=na - j∧b1≤a+1+j∧s=⟨look [(0, .bp 0 0),(2, .bp 1 0),(3, .bp 2 0),(4, .v (.int .i64 (na:Int))),(5, .v (.int .i64 (nb:Int))),(6, .v (.int .i64 lc)),(7, .v (.int .i64 ld)),(8, .v (.int .i64 (j:Int)))],⟨[E1 l b1,[.v (.int .i64 0), .v (.int .i64 0), .v (.int .i64 0), .v (.int .i64 0), .v (.int .i64 0), .v (.slice none 0 0), .v (.slice none 0 0)],[.v (.int .i64 n0), .v (.int .i64 y0), .v (.int .i64 y1), .v (.int .i64 y2), .v (.int .i64 y3), .v (.slice none 0 0), .v (.slice none 0 0)]],[]⟩⟩) (na) ((wk 3 0)) (⟨0,_,_,_,_,_,_,by omega,rfl,by omega,rfl⟩) ?_;rintro n s ⟨j,b1,n0,y0,y1,y2,y3,hj,rfl,hb1,rfl⟩;refine q_ (w_ (m_ (h:=m_ (h:=BS (h:=e_ (?_))))));refine A8 rfl (fun hb1=>?_) (fun hb1=>?_)
 ·have hc1:=bp hb1;refine AN (q_ (Av (AQ (m_ (h:=m_ (h:=Bw (h:=?_)))))));refine A6 rfl (BZ 0 (hc:=K8 l _ _ (fun _=>true) (by omega) (by rfl) (by rfl) (by rfl)) (hR:=?_));rintro r a2 ha2 ⟨k2,rfl,p2⟩;refine⟨rfl,_,(by repeat constructor),?_⟩;refine f_ (h:=?_);refine A6 rfl (CR (len:=4) (sz:=1) (n:=j) (by kernel_rfl) rfl rfl rfl (mP (by omega)) ?_);refine KQ (Af rfl rfl rfl rfl rfl rfl (SetAt.sym (by simp;omega)) (by repeat constructor) ?_);refine AP (B8 (t_ (AQ (m_ (h:=BH (h:=a_ (h:=AP (?_))))))));refine AF ?_;have hj2:j=0∨j=1:=by omega
  rcases hj2 with rfl|rfl
  ·refine⟨_,_,?_,⟨1,_,_,_,_,_,_,by omega,rfl,?_,rfl⟩,(wk 3 0)⟩<;>omega
  refine⟨_,_,?_,⟨2,_,_,_,_,_,_,by omega,rfl,?_,rfl⟩,(wk 3 0)⟩<;>omega
 have hc1:=bp hb1;refine BX (Aw (Aw (BY (t_ (?_)))));refine BE (fun s=>∃(b2:Nat) (n1 x0 x1 x2 x3:Int),b2≤a+20∧s=⟨look [(0, .bp 0 0),(2, .bp 1 0),(3, .bp 2 0),(5, .v (.int .i64 (nb:Int))),(6, .v (.int .i64 lc)),(7, .v (.int .i64 ld))],⟨[E1 l b2,[.v (.int .i64 0), .v (.int .i64 0), .v (.int .i64 0), .v (.int .i64 0), .v (.int .i64 0), .v (.slice none 0 0), .v (.slice none 0 0)],[.v (.int .i64 n1), .v (.int .i64 x0), .v (.int .i64 x1), .v (.int .i64 x2), .v (.int .i64 x3), .v (.slice none 0 0), .v (.slice none 0 0)]],[]⟩⟩) ?_ ?_
 ·skip
  refine w_ (f_ (h:=l_ (h:=e_ (Av (w_ (AR (h:=a_ (h:=e_ (?_)))))))));refine A8 rfl (fun hb2=>?_) (fun hb2=>?_)
  ·have hc2:=bp hb2;refine AQ (m_ (h:=Bw (h:=?_)));refine A6 rfl (BZ 0 (hc:=K8 l _ _ (fun _=>true) (by omega) (by rfl) (by rfl) (by rfl)) (hR:=?_));rintro r a3 ha3 ⟨k3,rfl,p3⟩;refine⟨rfl,_,(by repeat constructor),?_⟩;refine m_ (h:=Bw (h:=?_));refine A6 rfl (BZ 0 (hc:=K8 l _ _ (fun _=>true) (by omega) (by rfl) (by rfl) (by rfl)) (hR:=?_));rintro r a4 ha4 ⟨k4,rfl,p4⟩;refine⟨rfl,_,(by repeat constructor),?_⟩;refine AX (h:=f_ (h:=s_ (h:=AP (B8 (?_)))));refine AF ?_;refine⟨_,⟨_,_,_,_,_,_,?_,rfl⟩,(wk 3 0)⟩<;>omega
  have hc2:=bp hb2;refine w_ (AR (h:=a_ (h:=e_ (?_))));refine A8 rfl (fun hb3=>?_) (fun hb3=>?_)
  ·have hc3:=bp hb3;refine AQ (m_ (h:=Bw (h:=?_)));refine A6 rfl (BZ 0 (hc:=K8 l _ _ (fun _=>true) (by omega) (by rfl) (by rfl) (by rfl)) (hR:=?_));rintro r a5 ha5 ⟨k5,rfl,p5⟩;refine⟨rfl,_,(by repeat constructor),?_⟩;refine f_ (h:=?_);refine A6 rfl (CR (len:=4) (sz:=1) (n:=0) (by kernel_rfl) rfl rfl rfl rfl ?_);refine s_ (h:=AP (B8 (?_)));refine AF ?_;refine⟨_,⟨_,_,_,_,_,_,?_,rfl⟩,(wk 3 0)⟩<;>omega
  have hc3:=bp hb3;refine q_ (w_ (AR (h:=a_ (h:=e_ (?_)))));refine A8 rfl (fun hb4=>?_) (fun hb4=>?_)
  ·have hc4:=bp hb4;refine AN (C2 (h:=AQ (m_ (h:=?_))));refine A6 rfl (BZ 0 (hc:=Gn l _ (3) (by omega) (by omega)) (hR:=?_));rintro r a6 ha6 ⟨k6,rfl,p6,q6,o6⟩;refine⟨rfl,_,(by repeat constructor),?_⟩;refine f_ (h:=?_);refine A6 rfl (CR (len:=4) (sz:=1) (n:=0) (by kernel_rfl) rfl rfl rfl rfl ?_);refine s_ (h:=AP (B8 (?_)));refine AF ?_;refine⟨_,⟨_,_,_,_,_,_,?_,rfl⟩,(wk 3 0)⟩<;>omega
  have hc4:=bp hb4;refine AQ (AR (h:=a_ (h:=e_ (?_))));refine A8 rfl (fun hb5=>?_) (fun hb5=>?_)
  ·have hc5:=bp hb5;refine AQ (m_ (h:=?_));refine A6 rfl (BZ 0 (hc:=Gn l _ (3) (by omega) (by omega)) (hR:=?_));rintro r a7 ha7 ⟨k7,rfl,p7,q7,o7⟩;refine⟨rfl,_,(by repeat constructor),?_⟩;refine f_ (h:=?_);refine A6 rfl (CR (len:=4) (sz:=1) (n:=0) (by kernel_rfl) rfl rfl rfl rfl ?_);refine s_ (h:=AP (B8 (?_)));refine AF ?_;refine⟨_,⟨_,_,_,_,_,_,?_,rfl⟩,(wk 3 0)⟩<;>omega
  have hc5:=bp hb5;refine w_ (AR (h:=a_ (h:=e_ (?_))));refine A8 rfl (fun hb6=>?_) (fun hb6=>?_)
  ·have hc6:=bp hb6;refine AQ (m_ (h:=?_));refine A6 rfl (BZ 0 (hc:=K7 l _ (1) (4) (by omega) (by omega) (by omega) (by omega)) (hR:=?_));rintro r a8 ha8 ⟨k8,rfl,p8,q8⟩;refine⟨rfl,_,(by repeat constructor),?_⟩;refine m_ (h:=Bw (h:=?_));refine A6 rfl (BZ 0 (hc:=K8 l _ _ (fun _=>true) (by omega) (by rfl) (by rfl) (by rfl)) (hR:=?_));rintro r a9 ha9 ⟨k9,rfl,p9⟩;refine⟨rfl,_,(by repeat constructor),?_⟩;refine AX (h:=f_ (h:=s_ (h:=AP (B8 (?_)))));refine AF ?_;refine⟨_,⟨_,_,_,_,_,_,?_,rfl⟩,(wk 3 0)⟩<;>omega
  have hc6:=bp hb6;refine BM (B8 (?_));refine AF ?_;refine⟨_,⟨_,_,_,_,_,_,?_,rfl⟩,(wk 3 0)⟩<;>omega
 rintro s ⟨b2,n1,x0,x1,x2,x3,hb2,rfl⟩;refine q_ (w_ (a_ (h:=e_ (Av (?_)))));refine LG 2 5 9 1 rfl rfl (by repeat constructor) (by repeat constructor) (by repeat constructor) ?_;refine Bq (fun n s=>∃(j b1:Nat) (ps:List AD),j≤nb∧n=nb - j∧b1≤b2+20 * j∧ps.length=j∧s=⟨look [(0, .bp 0 0),(2, .bp 1 0),(3, .bp 2 0),(5, .v (.int .i64 (nb:Int))),(6, .v (.int .i64 lc)),(7, .v (.int .i64 ld)),(9, .v (.int .i64 (j:Int)))],⟨[E1 l b1,[.v (.int .i64 0), .v (.int .i64 0), .v (.int .i64 0), .v (.int .i64 0), .v (.int .i64 0), .v (.slice none 0 0), .v (.slice none 0 0)],[.v (.int .i64 n1), .v (.int .i64 x0), .v (.int .i64 x1), .v (.int .i64 x2), .v (.int .i64 x3), .sl 1 (ps.map DL) (some 0), .v (.slice none 0 0)]],[(9,1,ps.map DL)]⟩⟩) (nb) ((wk 3 1)) (⟨0,b2,[],by omega,rfl,by omega,by simp,rfl⟩) ?_;rintro n s ⟨j,b1,ps,hj,rfl,hb1,hps,rfl⟩;refine q_ (w_ (m_ (h:=m_ (h:=BS (h:=e_ (?_))))));refine A8 rfl (fun hb7=>?_) (fun hb7=>?_)
 ·have hc7:=bp hb7;refine AN (q_ (Av (BO ([(1,[.v (.int .i64 0), .v (.int .i64 0), .v (.int .i64 0), .v (.int .i64 0), .v (.int .i64 0), .v (.slice none 0 0), .v (.slice none 0 0)]),(2,[.v (.int .i64 n1), .v (.int .i64 x0), .v (.int .i64 x1), .v (.int .i64 x2), .v (.int .i64 x3), .sl 1 (ps.map DL) (some 0), .v (.slice none 0 0)])]) 7 (h:=AG 0 (h:=AM 1 (h:=AO 2 (h:=?_)))))));refine c_ 3 rfl (BZ 0 (hc:=cG l _ (by omega)) (hR:=?_));rintro r a10 ha10 ⟨k10,rfl,p10⟩;refine⟨rfl,_,(by repeat constructor),?_⟩;refine o_ (h:=JK 4 (h:=?_));refine c_ 5 rfl (EO rfl rfl rfl (by simp<;>omega) (by repeat constructor) ?_);refine o_ (h:=AG 6 (h:=?_));refine Aj 7 rfl (Af rfl rfl rfl rfl rfl rfl (by repeat constructor) (by repeat constructor) ?_);refine o_ (h:=z_ (h:=B8 (t_ (AQ (m_ (h:=BH (h:=a_ (h:=AP (?_)))))))));refine AF ?_;refine⟨_,_,?_,⟨j+1,_,ps++[_],by omega,rfl,?_,?_,rfl⟩,(by rw[List.map_append];exact Az 3 1 rfl rfl rfl rfl ((by repeat (first|exact Sub.nil|refine B0 rfl rfl ?_|refine B2 ?_|refine B3 rfl ?_|refine B4 rfl ?_))))⟩
  ·omega
  ·omega
  simp;omega
 have hc7:=bp hb7;refine BX (Aw (Aw (BY (t_ (q_ (w_ (m_ (h:=m_ (h:=m_ (h:=?_))))))))));refine A6 rfl (BZ 0 (hc:=K7 l _ lc ld (by omega) (by omega) (by omega) (by omega)) (hR:=?_));rintro r a11 ha11 ⟨k0,rfl,p0,p1⟩;refine⟨rfl,_,(by repeat constructor),?_⟩;obtain⟨m,rfl⟩:=Int.eq_ofNat_of_zero_le (show 0≤k0 by omega);refine a_ (h:=e_ (Av (?_)));refine LG 2 6 9 1 rfl rfl (by repeat constructor) (by repeat constructor) (by repeat constructor) ?_;refine Bq (fun n s=>∃(j b3:Nat) (rs:List AD),j≤m∧n=j∧b3≤b1+1+(m - j)∧rs.length=m - j∧s=⟨look [(0, .bp 0 0),(2, .bp 1 0),(3, .bp 2 0),(10, .v (.int .i64 (j:Int)))],⟨[E1 l b3,[.v (.int .i64 0), .v (.int .i64 0), .v (.int .i64 0), .v (.int .i64 0), .v (.int .i64 0), .v (.slice none 0 0), .v (.slice none 0 0)],[.v (.int .i64 n1), .v (.int .i64 x0), .v (.int .i64 x1), .v (.int .i64 x2), .v (.int .i64 x3), .sl 1 (ps.map DL) (some 0), .sl 1 (rs.map DL) (some 1)]],[(9,1,ps.map DL),(9,1,rs.map DL)]⟩⟩) (m) ((wk 3 2)) (⟨m,_,[],by omega,rfl,by omega,by simp,rfl⟩) ?_;rintro n s ⟨j,b3,rs,hj,hn,hb3,hrs,rfl⟩;subst n;refine q_ (w_ (m_ (h:=Ck (h:=e_ (?_)))));refine A8 rfl (fun hb8=>?_) (fun hb8=>?_)
 ·have hc8:=bp hb8;refine AN (q_ (Av (BO ([(1,[.v (.int .i64 0), .v (.int .i64 0), .v (.int .i64 0), .v (.int .i64 0), .v (.int .i64 0), .v (.slice none 0 0), .v (.slice none 0 0)]),(2,[.v (.int .i64 n1), .v (.int .i64 x0), .v (.int .i64 x1), .v (.int .i64 x2), .v (.int .i64 x3), .sl 1 (ps.map DL) (some 0), .sl 1 (rs.map DL) (some 1)])]) 8 (h:=AG 0 (h:=AM 1 (h:=AO 2 (h:=JK 3 (h:=?_))))))));refine c_ 4 rfl (BZ 0 (hc:=Le l _ _ (fun _=>true) (by omega) (by rfl) (by rfl) (by rfl)) (hR:=?_));rintro r a12 ha12 ⟨k12,rfl,p12⟩;refine⟨rfl,_,(by repeat constructor),?_⟩;refine o_ (h:=JK 5 (h:=?_));refine c_ 6 rfl (EO rfl rfl rfl (by simp<;>omega) (by repeat constructor) ?_);refine o_ (h:=AG 7 (h:=?_));refine Aj 8 rfl (Af rfl rfl rfl rfl rfl rfl (by repeat constructor) (by repeat constructor) ?_);refine o_ (h:=z_ (h:=B8 (t_ (AQ (m_ (h:=OR (h:=a_ (h:=AP (?_)))))))));refine AF ?_;obtain⟨j,rfl⟩:∃i,j=i+1:=⟨j - 1,by omega⟩;refine⟨_,_,?_,⟨j,_,rs++[_],by omega,rfl,?_,?_,rfl⟩,(by rw[List.map_append];exact Az 3 2 rfl rfl rfl rfl (by repeat (first|exact Sub.nil|refine B0 rfl rfl ?_|(apply Sub.of;(focus exact rfl);(focus exact LeA.of_eq (vi (by omega)));(focus exact rfl)))))⟩
  ·omega
  ·omega
  simp;omega
 have hc8:=bp hb8;refine BX (Aw (Aw (BY (t_ (?_)))));refine BE (fun S=>∃(b9:Nat) (n2 w0 w1 w2 w3:Int),b9≤a+300∧S=⟨look [(2, .bp 1 0),(3, .bp 2 0)],⟨[E1 l b9,[.v (.int .i64 0), .v (.int .i64 0), .v (.int .i64 0), .v (.int .i64 0), .v (.int .i64 0), .v (.slice none 0 0), .v (.slice none 0 0)],[.v (.int .i64 n2), .v (.int .i64 w0), .v (.int .i64 w1), .v (.int .i64 w2), .v (.int .i64 w3), .sl 1 (ps.map DL) (some 0), .sl 1 (rs.map DL) (some 1)]],[(9,1,ps.map DL),(9,1,rs.map DL)]⟩⟩) ?_ ?_
 ·skip
  refine w_ (m_ (h:=?_));refine A6 rfl (BZ 0 (hc:=Gn l _ (40) (by omega) (by omega)) (hR:=?_));rintro r a13 ha13 ⟨k13,rfl,p13,q13,o13⟩;refine⟨rfl,_,(by repeat constructor),?_⟩;refine AR (h:=e_ (?_));refine A8 rfl (fun hb9=>?_) (fun hb9=>?_)
  ·have hc9:=bp hb9;refine AQ (m_ (h:=?_));refine A6 rfl (BZ 0 (hc:=Gn l _ (2) (by omega) (by omega)) (hR:=?_));rintro r a14 ha14 ⟨k14,rfl,p14,q14,o14⟩;refine⟨rfl,_,(by repeat constructor),?_⟩;refine m_ (h:=?_);refine A6 rfl (BZ 0 (hc:=K7 l _ (-1) (33) (by omega) (by omega) (by omega) (by omega)) (hR:=?_));rintro r a15 ha15 ⟨k15,rfl,p15,q15⟩;refine⟨rfl,_,(by repeat constructor),?_⟩;refine f_ (h:=?_);refine A6 rfl (CR (len:=4) (sz:=1) (n:=3) (by kernel_rfl) rfl rfl rfl rfl ?_);refine s_ (h:=f_ (h:=s_ (h:=AP (?_))));refine AF ?_;refine⟨_,⟨_,_,_,_,_,_,?_,rfl⟩,(wk 3 2)⟩;omega
  have hc9:=bp hb9;refine BM (?_);refine AF ?_;refine⟨_,⟨_,_,_,_,_,_,?_,rfl⟩,(wk 3 2)⟩;omega
 rintro S ⟨b9,n2,w0,w1,w2,w3,hb9,rfl⟩;refine w_ (l_ (h:=s_ (h:=e_ (A4 (?_)))));refine Am (r:= .agg (Dc ⟨n2,w0,w1,w2,w3,ps,rs⟩)) none (h5:=?_) (h6:=⟨_,rfl,rfl,b9,by omega,rfl,⟨n2,w0,w1,w2,w3,ps,rs⟩,(by show ps.length≤1000;omega),(by show rs.length≤1000;omega),rfl⟩);exact LeA.agg (.cons (A9 _) (.cons (A9 _) (.cons (A9 _) (.cons (A9 _) (.cons (A9 _) (.cons (LeA.tok _ _ _) (.cons (LeA.tok _ _ _) .nil)))))))
theorem KF(l:List Int)(a:Nat)(t:Tab)(ha:a≤10000000000)(ht:TabB t):Gg prog 36 l a [.agg (Ax t)] 3 (fun r=>∃p:Int,r= .v (.int .i64 p)):=by
 have hfew:=ht.few;have hpl:(t.ps.map B1).length=t.ps.length:=List.length_map _;refine enter Tryz.func36 rfl rfl rfl rfl rfl 1 rfl ?_;refine w_ (b_ (h:=a_ (h:=e_ (q_ (?_)))));refine BE (fun S=>∃(b:Nat) (q:Bool),b≤a+1∧(q=false→0<t.ps.length)∧S=⟨look [(0, .bp 0 0),(3, .bp 1 0),(13, .v (.bool q))],⟨[E1 l b,Ax t],[]⟩⟩) ?_ ?_
 ·skip
  refine AQ (f_ (h:=l_ (h:=n_ (h:=AR (h:=m_ (h:=?_))))));refine B5 false rfl rfl (fun hb1=>?_) (fun hb1=>?_)
  ·have hc1:=bp hb1;refine A3 (h:=A3 (h:=A3 (h:=Ag (h:=AP (?_)))));refine AF ?_;refine⟨_,⟨_,_,?_,?_,rfl⟩,Az 2 0 rfl rfl rfl rfl ((by repeat (first|exact Sub.nil|refine B0 rfl rfl ?_|refine B2 ?_|refine B3 rfl ?_|refine B4 rfl ?_)))⟩
   ·omega
   intro q
   (cases q;done)
  have hc1:=bp hb1;refine m_ (h:=?_);refine BB (BZ 0 (hc:=Gn l _ (24) (by omega) (by omega)) (hR:=?_));rintro r a1 ha1 ⟨k1,rfl,p1,q1,o1⟩;refine⟨rfl,_,(by repeat constructor),?_⟩;refine AR (h:=Ar (h:=AP (?_)));refine AF ?_;refine⟨_,⟨_,_,?_,?_,rfl⟩,Az 2 0 rfl rfl rfl rfl ((by repeat (first|exact Sub.nil|refine B0 rfl rfl ?_|refine B2 ?_|refine B3 rfl ?_|refine B4 rfl ?_)))⟩
  ·omega
  intro q
  first|(cases q;done)|omega
 rintro S ⟨b,q,hb,hq,rfl⟩;refine A8 rfl (fun hb2=>?_) (fun hb2=>?_)
 ·have hc2:=bp hb2;refine w_ (m_ (h:=?_));refine A6 rfl (BZ 0 (hc:=K7 l _ (0) (9) (by omega) (by omega) (by omega) (by omega)) (hR:=?_));rintro r a2 ha2 ⟨k2,rfl,p2,q2⟩;refine⟨rfl,_,(by repeat constructor),?_⟩;refine a_ (h:=e_ (A4 (A7 (?_))));refine Am none (h5:=(A9 _)) (h6:=⟨_,rfl,rfl,_,?_,rfl,_,rfl⟩)<;>omega
 have hc2:=bp hb2;have hq0:0<t.ps.length:=hq (by assumption);refine AN (q_ (BO ([(1,Ax t)]) 11 (h:=AG 0 (h:=AM 1 (h:=AO 2 (h:=AG 3 (h:=AM 4 (h:=KV 5 (h:=?_)))))))));refine c_ 6 rfl (BZ 0 (hc:=Gn l _ ((t.ps.map B1).length:Int) (by omega) (by rw[hpl];omega)) (hR:=?_));rintro r a3 ha3 ⟨kn,rfl,p0,q0, -⟩;refine⟨rfl,_,(by repeat constructor),?_⟩;obtain⟨m,rfl⟩:=Int.eq_ofNat_of_zero_le p0;have hm:m<t.ps.length:=by have:=q0 (by rw[hpl];omega);rw[hpl]at this;omega
 obtain⟨x,hx⟩:∃x,t.ps[m]?=some x:=⟨_,B9 hm⟩;have hrow:(t.ps.map B1)[m]?=some (B1 x):=by rw[List.getElem?_map,hx];rfl
 refine o_ (h:=?_);refine Bz 7 rfl (fun _ hS=>Ci (n:=m) rfl rfl rfl hrow ⟨rfl,rfl⟩) ?_;refine AG 8 (h:=AM 9 (h:=BK 10 (h:=z_ (h:=t_ (A4 (?_))))));refine Am none (h5:=(A9 _)) (h6:=⟨_,rfl,rfl,_,?_,rfl,_,rfl⟩)<;>omega
theorem mT(l:List Int)(a:Nat)(ha:a≤10000000):Gg prog 27 l a [] 6000 (fun r=>∃s,r= .agg (Bn s)∧SysV s 14):=by
 refine enter Tryz.func27 rfl rfl rfl rfl rfl 1 rfl ?_;refine w_ (AZ (h:=e_ (w_ (m_ (h:=?_)))));refine A6 rfl (BZ 0 (hc:=K7 l _ (1) (3) (by omega) (by omega) (by omega) (by omega)) (hR:=?_));rintro r a1 ha1 ⟨k1,rfl,p1,q1⟩;refine⟨rfl,_,(by repeat constructor),?_⟩;refine A6 rfl (AK (Wa k1) ?_);rintro r rfl;refine m_ (h:=x_ (h:=x_ (h:=AZ (h:=s_ (h:=a_ (h:=e_ (q_ (w_ (m_ (h:=?_))))))))));refine A6 rfl (BZ 0 (hc:=K7 l _ (3) (14) (by omega) (by omega) (by omega) (by omega)) (hR:=?_));rintro r a2 ha2 ⟨k2,rfl,p2,q2⟩;refine⟨rfl,_,(by repeat constructor),?_⟩;refine a_ (h:=e_ (Av (?_)));have hs0:=mO p1 q1;obtain⟨M,rfl⟩:=Int.eq_ofNat_of_zero_le (show 0≤k2 by omega);refine Bq (fun n S=>∃(j b:Nat) (s:Syst),j≤M∧n=j∧b+400 * j≤a+2+400 * M∧SysV s (14 - j)∧S=⟨look [(0, .bp 0 0),(2, .bp 1 0),(3, .bp 2 0),(5, .v (.int .i64 (j:Int)))],⟨[E1 l b,FR,Bn s],[]⟩⟩) (M) ((wk 3 0)) (⟨M,_,_,BA _,rfl,by omega,hs0.mono (BJ _),rfl⟩) ?_;rintro n S ⟨j,b,s,hj,rfl,hb,hs,rfl⟩;refine q_ (w_ (m_ (h:=Ck (h:=e_ (?_)))));refine A8 rfl (fun hb1=>?_) (fun hb1=>?_)
 ·have hc1:=bp hb1;refine AN (q_ (Av (BO ([(1,FR)]) 12 (h:=AO 1 (h:=AG 2 (h:=AO 5 (h:=?_)))))));refine Co 0 3 rfl rfl ?_ ?_
  ·refine GE rfl rfl rfl ?_;refine o_ (h:=?_);refine c_ 3 rfl (Fo rfl rfl rfl ?_);refine o_ (h:=?_);refine c_ 4 rfl (BZ 0 (hc:=KF l _ s.tab (by omega) hs.tab) (hR:=?_));rintro r a3 ha3 ⟨pid,rfl⟩;refine⟨rfl,_,(by repeat constructor),?_⟩;refine o_ (h:=?_);refine c_ 6 rfl (BZ 0 (hc:=Fm l _ (by omega)) (hR:=?_));rintro r a4 ha4 ⟨c,hcp,hca,rfl⟩;refine⟨rfl,_,(by repeat constructor),?_⟩;refine o_ (h:=?_);refine c_ 7 rfl (AK (E8 s pid c hs.spc (by have:=hs.few;omega) hs.tab hs.num hcp hca) ?_);rintro r rfl;refine o_ (h:=AO 8 (h:=Au 9 (h:=Au 10 (h:=?_))));refine Aj 11 rfl (Af rfl rfl rfl rfl rfl rfl (by repeat constructor) (by repeat constructor) ?_);refine o_ (h:=z_ (h:=B8 (t_ (AQ (m_ (h:=?_))))));refine A6 rfl (Jm rfl rfl (by omega) ?_);refine a_ (h:=AP (?_));refine AF ?_;refine⟨n - 1,_,by omega,⟨n - 1,_,(Bv s pid c).1,by omega,rfl,?_,(Nf hs pid c).mono (by omega),rfl⟩,(by rw[show((n - 1:Nat):Int)=(n:Int) - 1 by omega];exact Az 3 0 rfl rfl rfl rfl ((by repeat (first|exact Sub.nil|refine B0 rfl rfl ?_|refine B2 ?_|refine B3 rfl ?_|refine B4 rfl ?_))))⟩;omega
  refine Fo rfl rfl rfl ?_;refine o_ (h:=?_);refine Co 0 4 rfl rfl ?_ ?_
  ·refine GE rfl rfl rfl ?_;refine o_ (h:=?_);refine c_ 4 rfl (BZ 0 (hc:=KF l _ s.tab (by omega) hs.tab) (hR:=?_));rintro r a5 ha5 ⟨pid,rfl⟩;refine⟨rfl,_,(by repeat constructor),?_⟩;refine o_ (h:=?_);refine c_ 6 rfl (BZ 0 (hc:=Fm l _ (by omega)) (hR:=?_));rintro r a6 ha6 ⟨c,hcp,hca,rfl⟩;refine⟨rfl,_,(by repeat constructor),?_⟩;refine o_ (h:=?_);refine c_ 7 rfl (AK (E8 s pid c hs.spc (by have:=hs.few;omega) hs.tab hs.num hcp hca) ?_);rintro r rfl;refine o_ (h:=AO 8 (h:=Au 9 (h:=Au 10 (h:=?_))));refine Aj 11 rfl (Af rfl rfl rfl rfl rfl rfl (by repeat constructor) (by repeat constructor) ?_);refine o_ (h:=z_ (h:=B8 (t_ (AQ (m_ (h:=?_))))));refine A6 rfl (Jm rfl rfl (by omega) ?_);refine a_ (h:=AP (?_));refine AF ?_;refine⟨n - 1,_,by omega,⟨n - 1,_,(Bv s pid c).1,by omega,rfl,?_,(Nf hs pid c).mono (by omega),rfl⟩,(by rw[show((n - 1:Nat):Int)=(n:Int) - 1 by omega];exact Az 3 0 rfl rfl rfl rfl ((by repeat (first|exact Sub.nil|refine B0 rfl rfl ?_|refine B2 ?_|refine B3 rfl ?_|refine B4 rfl ?_))))⟩;omega
  refine BZ 0 (hc:=KF l _ s.tab (by omega) hs.tab) (hR:=?_);rintro r a7 ha7 ⟨pid,rfl⟩;refine⟨rfl,_,(by repeat constructor),?_⟩;refine o_ (h:=?_);refine Co 0 6 rfl rfl ?_ ?_
  ·refine GE rfl rfl rfl ?_;refine o_ (h:=?_);refine c_ 6 rfl (BZ 0 (hc:=Fm l _ (by omega)) (hR:=?_));rintro r a8 ha8 ⟨c,hcp,hca,rfl⟩;refine⟨rfl,_,(by repeat constructor),?_⟩;refine o_ (h:=?_);refine c_ 7 rfl (AK (E8 s pid c hs.spc (by have:=hs.few;omega) hs.tab hs.num hcp hca) ?_);rintro r rfl;refine o_ (h:=AO 8 (h:=Au 9 (h:=Au 10 (h:=?_))));refine Aj 11 rfl (Af rfl rfl rfl rfl rfl rfl (by repeat constructor) (by repeat constructor) ?_);refine o_ (h:=z_ (h:=B8 (t_ (AQ (m_ (h:=?_))))));refine A6 rfl (Jm rfl rfl (by omega) ?_);refine a_ (h:=AP (?_));refine AF ?_;refine⟨n - 1,_,by omega,⟨n - 1,_,(Bv s pid c).1,by omega,rfl,?_,(Nf hs pid c).mono (by omega),rfl⟩,(by rw[show((n - 1:Nat):Int)=(n:Int) - 1 by omega];exact Az 3 0 rfl rfl rfl rfl ((by repeat (first|exact Sub.nil|refine B0 rfl rfl ?_|refine B2 ?_|refine B3 rfl ?_|refine B4 rfl ?_))))⟩;omega
  refine BZ 0 (hc:=Fm l _ (by omega)) (hR:=?_);rintro r a9 ha9 ⟨c,hcp,hca,rfl⟩;refine⟨rfl,_,(by repeat constructor),?_⟩;refine o_ (h:=?_);refine c_ 0 rfl (GE rfl rfl rfl ?_);refine o_ (h:=?_);refine c_ 7 rfl (AK (E8 s pid c hs.spc (by have:=hs.few;omega) hs.tab hs.num hcp hca) ?_);rintro r rfl;refine o_ (h:=AO 8 (h:=Au 9 (h:=Au 10 (h:=?_))));refine Aj 11 rfl (Af rfl rfl rfl rfl rfl rfl (by repeat constructor) (by repeat constructor) ?_);refine o_ (h:=z_ (h:=B8 (t_ (AQ (m_ (h:=?_))))));refine A6 rfl (Jm rfl rfl (by omega) ?_);refine a_ (h:=AP (?_));refine AF ?_;refine⟨n - 1,_,by omega,⟨n - 1,_,(Bv s pid c).1,by omega,rfl,?_,(Nf hs pid c).mono (by omega),rfl⟩,(by rw[show((n - 1:Nat):Int)=(n:Int) - 1 by omega];exact Az 3 0 rfl rfl rfl rfl ((by repeat (first|exact Sub.nil|refine B0 rfl rfl ?_|refine B2 ?_|refine B3 rfl ?_|refine B4 rfl ?_))))⟩;omega
 have hc1:=bp hb1;refine BX (Aw (Aw (BY (t_ (w_ (l_ (h:=s_ (h:=e_ (A4 (?_))))))))));refine Am none (h5:=(A9 _)) (h6:=⟨_,rfl,rfl,b,by omega,rfl,s,rfl,hs.mono (by omega)⟩)
end
def ChgOf(f:AU)(Q:Cp):Prop:=(∃dir name a,Q=DP f dir name a)∨(∃dir name,Q=EG f dir name)∨(∃dir name,Q=Dw f dir name)∨(∃src name to name2,Q=Dg f src name to name2)∨(∃dir name n,Q=DW f dir name n)
theorem ChgOf.okay{f:AU}{Q:Cp}(h:ChgOf f Q)(hv:FlsV f):J2 f Q:=by
 rcases h with⟨_,_,_,rfl⟩|⟨_,_,rfl⟩|⟨_,_,rfl⟩|⟨_,_,_,_,rfl⟩|⟨_,_,_,rfl⟩
 ·exact RJ hv _ _ _
 ·exact Us hv _ _
 ·exact Ut hv _ _
 ·exact Ov hv _ _ _ _
 exact Ou hv _ _ _
def SP(i:Nat)(n:Nod):List BW:=n.entries.map fun e=>(((i:Int),n.ino),e.1,(0,0),((i:Int),e.2))
def SQ(i:Nat)(ns:List Nod):List BW:=ns.flatMap (SP i)
def M5(f:AU)(i:Nat):List BW:=match f[i]? with
 |some d=>SQ i d.nodes
 |none=>[]
def EM(f:AU):List BW:=(List.range f.length).flatMap (M5 f)
def PT(c x:BW):Bool:= !decide (x.1=c.1)|| !decide (x.2.1=c.2.1)
def Hq(l:List BW)(c:BW):List BW:=l.filter (PT c)++(if c.2.2.2=(0,0)then[]else[(c.1,c.2.1,(0,0),c.2.2.2)])
def PU(l:List BW)(cs:List BW):List BW:=cs.foldl Hq l
def Ng(a b:List BW):Bool:=decide (a.length=b.length)&&a.all fun x=>b.any fun y=>decide (x=y)
theorem Kx{f:AU}{x:BW}:x∈EM f↔∃(i:Nat) (d:Dvc),f[i]?=some d∧∃n∈d.nodes,∃e∈n.entries,x=(((i:Int),n.ino),e.1,(0,0),((i:Int),e.2)):=by
 unfold EM;rw[List.mem_flatMap];constructor
 ·rintro⟨i,_,h⟩;unfold M5 at h;split at h
  ·rename_i d hd;unfold SQ SP at h;obtain⟨n,hn,h⟩:=List.mem_flatMap.1 h;obtain⟨e,he,rfl⟩:=List.mem_map.1 h;exact⟨i,d,hd,n,hn,e,he,rfl⟩
  cases h
 rintro⟨i,d,hd,n,hn,e,he,rfl⟩;refine⟨i,List.mem_range.2 (As.1 hd).1,?_⟩;unfold M5;rw[hd];exact List.mem_flatMap.2 ⟨n,hn,List.mem_map.2 ⟨e,he,rfl⟩⟩
theorem JB{f:AU}(hv:FlsV f):(EM f).Nodup:=by
 unfold EM List.Nodup;rw[List.pairwise_flatMap];constructor
 ·intro i _;unfold M5;split
  ·rename_i d hd;have hvd:=hv.vd d (Al hd);unfold SQ;rw[List.pairwise_flatMap];constructor
   ·intro n hn;unfold SP;rw[List.pairwise_map];exact List.Pairwise.imp (R:=fun a b:BF=>Ey a.1 b.1=true) (fun{a b} h (e:(((i:Int),n.ino),a.1,((0:Int),(0:Int)),((i:Int),a.2))=((((i:Int),n.ino),b.1,(0,0),((i:Int),b.2)):BW))=>LU (a:=a.1) (b:=b.1) h (congrArg (fun x:BW=>x.2.1) e)) (hvd.sorted n hn)
   refine hvd.asc.imp fun{a b} h x hx y hy e=>?_;obtain⟨_,_,rfl⟩:=List.mem_map.1 hx;obtain⟨_,_,rfl⟩:=List.mem_map.1 hy;have:=congrArg (fun x:BW=>x.1.2) e;simp only at this;omega
  exact List.Pairwise.nil
 refine List.pairwise_lt_range.imp fun{a b} h x hx y hy e=>?_
 have hk:∀(i:Nat) (x:BW),x∈M5 f i→x.1.1=(i:Int):=by
  intro i x hx;unfold M5 at hx;split at hx
  ·obtain⟨n,_,hx⟩:=List.mem_flatMap.1 hx;obtain⟨_,_,rfl⟩:=List.mem_map.1 hx;rfl
  cases hx
 have h1:=hk a x hx;have h2:=hk b y hy;rw[e]at h1;omega
theorem Ky{l:List BW}{c x:BW}:x∈Hq l c↔(x∈l∧¬(x.1=c.1∧x.2.1=c.2.1))∨(c.2.2.2≠(0,0)∧x=(c.1,c.2.1,(0,0),c.2.2.2)):=by
 unfold Hq;rw[List.mem_append,List.mem_filter]
 have e:(PT c x=true)↔¬(x.1=c.1∧x.2.1=c.2.1):=by
  unfold PT;by_cases h1:x.1=c.1<;>by_cases h2:x.2.1=c.2.1<;>simp[h1,h2]
 rw[e];refine or_congr Iff.rfl ?_;split
 ·rename_i h;simp[h]
 rename_i h;simp[h]
theorem PV{l:List BW}(h:l.Nodup)(c:BW):(Hq l c).Nodup:=by
 unfold Hq;rw[List.nodup_append];refine⟨h.filter _,by split<;>simp,?_⟩;intro a ha b hb e;subst e;split at hb
 ·cases hb
 rw[List.mem_singleton]at hb;have:=(List.mem_filter.1 ha).2;rw[hb]at this;simp[PT]at this
theorem PW{α:Type}:∀{xs l:List α},xs.Nodup→(∀x∈xs,x∈l)→xs.length≤l.length
 |[],_,_,_=>BJ _
 |x::r,l,h,hs=>by
   obtain⟨h1,h2⟩:=List.nodup_cons.1 h;obtain⟨s,t,rfl⟩:=List.append_of_mem (hs x (by simp))
   have:=PW (xs:=r) (l:=s++t) h2 fun y hy=>by
    have:=hs y (by simp[hy]);have hne:y≠x:=fun e=>h1 (e ▸ hy);simp only[List.mem_append,List.mem_cons]at this ⊢;rcases this with h|h|h
    ·exact .inl h
    ·exact absurd h hne
    exact .inr h
   simp only[List.length_append,List.length_cons]at this ⊢;omega
theorem PX{a b:List BW}(ha:a.Nodup)(hb:b.Nodup)(h:∀x,x∈a↔x∈b):Ng a b=true:=by
 have h1:=PW ha fun x hx=>(h x).1 hx;have h2:=PW hb fun x hx=>(h x).2 hx;unfold Ng;simp only[Bool.and_eq_true,decide_eq_true_eq,List.all_eq_true,List.any_eq_true];exact⟨by omega,fun x hx=>⟨x,(h x).1 hx,rfl⟩⟩
def PE(ns:List Nod)(i:Int)(e:BF):Prop:=∃n∈ns,n.ino=i∧e∈n.entries
theorem SR{es:List BF}{name:AD}{ino:Int}{e:BF}:e∈Ch es name ino↔(e∈es∧e.1≠name)∨(ino≠0∧e=(name,ino)):=by
 have hw:e∈EE name es↔e∈es∧e.1≠name:=by unfold EE;rw[List.mem_filter];simp
 by_cases h:ino=0
 ·subst h;rw[GN,hw];simp
 rw[(Hz es name h).mem_iff,List.mem_cons,hw];simp only[ne_eq,h,not_false_eq_true,true_and];exact Or.comm
theorem Nh{ns:List Nod}{p:Int}{name:AD}{ino:Int}{n0:Nod}(h0:n0∈ns)(hp:n0.ino=p){i:Int}{e:BF}:PE (BR ns p name ino) i e↔(PE ns i e∧¬(i=p∧e.1=name))∨(ino≠0∧i=p∧e=(name,ino)):=by
 unfold PE;constructor
 ·rintro⟨m,hm,hi,he⟩;obtain⟨n,hn,w⟩:=EF hm;rw[w.ents]at he;have hni:n.ino=i:=by rw[←hi,w.ino]
  split at he
  ·rename_i hnp;rcases SR.1 he with⟨h1,h2⟩|⟨h1,h2⟩
   ·exact .inl ⟨⟨n,hn,hni,h1⟩,fun h=>h2 h.2⟩
   exact .inr ⟨h1,by omega,h2⟩
  rename_i hnp;exact .inl ⟨⟨n,hn,hni,he⟩,fun h=>hnp (by omega)⟩
 rintro(⟨⟨n,hn,hi,he⟩,hne⟩|⟨h1,h2,h3⟩)
 ·obtain⟨m,hm,w⟩:=Hd p name ino hn;refine⟨m,hm,by rw[w.ino];exact hi,?_⟩;rw[w.ents];split
  ·rename_i hnp;exact SR.2 (.inl ⟨he,fun h=>hne ⟨by omega,h⟩⟩)
  exact he
 obtain⟨m,hm,w⟩:=Hd p name ino h0;refine⟨m,hm,by rw[w.ino];omega,?_⟩;rw[w.ents,if_pos hp];exact SR.2 (.inr ⟨h1,h3⟩)
theorem Xj{ns:List Nod}{j:Int}(h:∀m∈ns,m.ino=j→m.entries=[]){i:Int}{e:BF}:PE (Bu ns j) i e↔PE ns i e:=by
 unfold PE;constructor
 ·rintro⟨m,hm,hi,he⟩;exact⟨m,(Ki.1 hm).1,hi,he⟩
 rintro⟨m,hm,hi,he⟩;refine⟨m,Ki.2 ⟨hm, .inl fun hj=>?_⟩,hi,he⟩;rw[h m hm hj]at he;cases he
theorem mU{ns:List Nod}{a p:Int}{b:Bool}{i:Int}{e:BF}:PE (FZ ns a p b) i e↔PE ns i e:=by
 unfold FZ;split
 ·unfold PE CU;constructor
  ·rintro⟨m,hm,hi,he⟩;obtain⟨n,hn,rfl⟩:=List.mem_map.1 hm;refine⟨n,hn,?_,?_⟩
   ·rw[←hi];split<;>rfl
   revert he;split<;>exact id
  rintro⟨n,hn,hi,he⟩;refine⟨_,List.mem_map.2 ⟨n,hn,rfl⟩,?_,?_⟩
  ·rw[←hi];split<;>rfl
  split<;>exact he
 exact Iff.rfl
theorem mV{ns:List Nod}{m:Nod}(h:m.entries=[]){i:Int}{e:BF}:PE (ns++[m]) i e↔PE ns i e:=by
 unfold PE;constructor
 ·rintro⟨n,hn,hi,he⟩;rcases List.mem_append.1 hn with hn|hn
  ·exact⟨n,hn,hi,he⟩
  rw[List.mem_singleton.1 hn,h]at he;cases he
 rintro⟨n,hn,hi,he⟩;exact⟨n,List.mem_append_left _ hn,hi,he⟩
theorem PY{f:AU}{x:BW}:x∈EM f↔∃(i:Nat) (d:Dvc),f[i]?=some d∧∃e,PE d.nodes x.1.2 e∧x=(((i:Int),x.1.2),e.1,(0,0),((i:Int),e.2)):=by
 rw[Kx];constructor
 ·rintro⟨i,d,hd,n,hn,e,he,rfl⟩;exact⟨i,d,hd,e,⟨n,hn,rfl,he⟩,rfl⟩
 rintro⟨i,d,hd,e,⟨n,hn,hi,he⟩,hx⟩;exact⟨i,d,hd,n,hn,e,he,by rw[hx,hi]⟩
theorem SS{f:AU}{q:Nat}{d:Dvc}(hq:f[q]?=some d){ns':List Nod}(nx:Int){p:Int}{name:AD}{ino:Int}{c:BW}(h:∀i e,PE ns' i e↔(PE d.nodes i e∧¬(i=p∧e.1=name))∨(ino≠0∧i=p∧e=(name,ino)))(h1:c.1=((q:Int),p))(h2:c.2.1=name)(h3:c.2.2.2=if ino=0 then(0,0)else((q:Int),ino))(x:BW):x∈Hq (EM f) c↔x∈EM (f.set q ⟨nx,ns'⟩):=by
 have hql:=(As.1 hq).1;rw[Ky,PY,PY,h1,h2,h3];constructor
 ·rintro(⟨⟨i,d',hd',e,hpe,hx⟩,hne⟩|⟨hn,hx⟩)
  ·by_cases hi:i=q
   ·subst hi;obtain rfl:d=d':=Option.some.inj (hq.symm.trans hd');refine⟨i,⟨nx,ns'⟩,by simp[hql],e,(h _ _).2 (.inl ⟨hpe,fun hh=>hne ?_⟩),hx⟩;rw[hx];exact⟨Prod.ext rfl hh.1,hh.2⟩
   exact⟨i,d',by rw[List.getElem?_set,if_neg (fun e=>hi e.symm)];exact hd',e,hpe,hx⟩
  have hi0:ino≠0:=fun hh=>hn (if_pos hh);rw[if_neg hi0]at hx;refine⟨q,⟨nx,ns'⟩,by simp[hql],(name,ino),(h _ _).2 (.inr ⟨hi0,by rw[hx],rfl⟩),?_⟩;rw[hx]
 rintro⟨i,d',hd',e,hpe,hx⟩;by_cases hi:i=q
 ·subst hi;have:d'=⟨nx,ns'⟩:=by simpa[hql]using hd'.symm
  subst this;rcases(h _ _).1 hpe with⟨hpe',hne⟩|⟨hi0,hp,he⟩
  ·refine .inl ⟨⟨i,d,hq,e,hpe',hx⟩,fun hh=>hne ?_⟩;rw[hx]at hh;refine⟨?_,hh.2⟩;rw[hx];exact congrArg (fun y:AA=>y.2) hh.1
  right;rw[if_neg hi0];refine⟨fun hh=>hi0 (congrArg (fun y:AA=>y.2) hh),?_⟩;rw[hx,he,hp]
 rw[List.getElem?_set,if_neg (fun e=>hi e.symm)]at hd';refine .inl ⟨⟨i,d',hd',e,hpe,hx⟩,fun hh=>hi ?_⟩;rw[hx]at hh;have:=congrArg (fun y:AA=>y.1) hh.1;simp only at this;omega
theorem Xk{g:AU}(hv:FlsV g){q:Nat}{d:Dvc}(hq:g[q]?=some d){dir:AA}(hd:dir.1=(q:Int)){e:BF}(h:PE d.nodes dir.2 e):AB g dir e.1=((dir.1,e.2),0):=by
 obtain⟨n,hn,hi,he⟩:=h;have hvd:=hv.vd d (Al hq);have hnl:=Ld hd hq hvd.asc hn hi;have hk:=hvd.dirOf hn he;unfold AB;rw[hnl];simp only[hk,if_true];split
 ·rename_i hx;exact absurd rfl (LW (es:=n.entries) (name:=e.1) hx e he)
 rename_i e' hx;obtain⟨h1,h2⟩:=FY (es:=n.entries) (name:=e.1) hx;rw[N3 (hvd.sorted n hn) h1 he h2]
theorem Xl{g:AU}{q:Nat}{d:Dvc}(hq:g[q]?=some d){dir:AA}(hd:dir.1=(q:Int)){name:AD}(h:∀e,PE d.nodes dir.2 e→e.1≠name):(AB g dir name).1=(0,0):=by
 unfold AB;split
 ·rfl
 rename_i n hn;split
 ·split
  ·rfl
  rename_i e he;exfalso;unfold Bo at hn;rw[hd,JN,hq]at hn;have h1:=List.mem_of_find?_eq_some hn;have h2:=List.find?_some hn;simp only[beq_iff_eq]at h2;obtain⟨h3,h4⟩:=FY (es:=n.entries) (name:=name) he;exact h e ⟨n,h1,h2,h3⟩ h4
 rfl
theorem mW{f g:AU}{q:Nat}{d:Dvc}{ns':List Nod}{nx:Int}(hql:q<f.length)(hg:g=f.set q ⟨nx,ns'⟩)(hv:FlsV g){p:Int}{name:AD}{ino:Int}{c:BW}(h:∀i e,PE ns' i e↔(PE d.nodes i e∧¬(i=p∧e.1=name))∨(ino≠0∧i=p∧e=(name,ino)))(h1:c.1=((q:Int),p))(h2:c.2.1=name)(h3:c.2.2.2=if ino=0 then(0,0)else((q:Int),ino)):(AB g c.1 c.2.1).1=c.2.2.2:=by
 have hq:g[q]?=some ⟨nx,ns'⟩:=by rw[hg];simp[hql]
 rw[h1,h2,h3];split
 ·rename_i h0;refine Xl hq rfl fun e he hn=>?_;rcases(h _ _).1 he with⟨_,hh⟩|⟨hh,_⟩
  ·exact hh ⟨rfl,hn⟩
  exact hh h0
 rename_i h0;rw[Xk hv hq (dir:=((q:Int),p)) rfl (e:=(name,ino)) ((h _ _).2 (.inr ⟨h0,rfl,rfl⟩))]
structure KeptF(f g:AU)(cs:List BW):Prop where
 alike:Ng (PU (EM f) cs) (EM g)=true
 look:∀c∈cs,(AB f c.1 c.2.1).1=c.2.2.1∧(AB g c.1 c.2.1).1=c.2.2.2∧c.2.2.1≠c.2.2.2
 twice:∀c1 c2,cs=[c1,c2]→¬(c1.1=c2.1∧c1.2.1=c2.2.1)
theorem ST{f g:AU}(hv:FlsV f)(hvg:FlsV g){q:Nat}{d:Dvc}(hq:f[q]?=some d){ns':List Nod}{nx:Int}(hg:g=f.set q ⟨nx,ns'⟩){p:Int}{name:AD}{ino:Int}{c:BW}(h:∀i e,PE ns' i e↔(PE d.nodes i e∧¬(i=p∧e.1=name))∨(ino≠0∧i=p∧e=(name,ino)))(h1:c.1=((q:Int),p))(h2:c.2.1=name)(h3:c.2.2.2=if ino=0 then(0,0)else((q:Int),ino))(hold:(AB f c.1 c.2.1).1=c.2.2.1)(hne:c.2.2.1≠c.2.2.2):KeptF f g [c]:=by
 refine⟨?_,?_,?_⟩
 ·refine PX (PV (JB hv) c) (JB hvg) fun x=>?_;rw[hg];exact SS hq nx h h1 h2 h3 x
 ·intro c' hc;rw[List.mem_singleton.1 hc];exact⟨hold,mW (As.1 hq).1 hg hvg h h1 h2 h3,hne⟩
 intro c1 c2 e;cases e
theorem mX{ns:List Nod}{p:Int}{name:AD}{j:Int}(h:∀m∈ns,m.ino=j→m.entries=[]):∀m∈BR ns p name 0,m.ino=j→m.entries=[]:=by
 intro m hm hi;obtain⟨n,hn,w⟩:=EF hm;have:=h n hn (by rw[←w.ino];exact hi);rw[w.ents,this];split
 ·rw[GN];rfl
 rfl
theorem Xm{f:AU}(hv:FlsV f){dir:AA}{name:AD}(hpl:CC f dir name=0)(hl:(AB f dir name).2=0)(hem:∀m,Bo f (AB f dir name).1=some m→m.entries=[])(hvg:FlsV (Ez f dir.1.toNat fun ns=>Bu (BR ns dir.2 name 0) (AB f dir name).1.2)):
    KeptF f (Ez f dir.1.toNat fun ns=>Bu (BR ns dir.2 name 0) (AB f dir name).1.2) [(dir,name,(AB f dir name).1,(0,0))]:=by
 obtain⟨q,i,d,n0,hdq,hq,hn0,hino,hidx,hnode,hk0,hnm⟩:=F1 hpl;have hvd:=hv.vd d (Al hq);obtain⟨e,m,he,hle,hm,hei,he1,hmn⟩:=Kk hv hdq hq hn0 hnode hk0 (name:=name) hl;have hm0:=hem m hmn;have hA2:(AB f dir name).1.2=m.ino:=by rw[hle];exact hei
 refine ST hv hvg hq (by rw[hdq,Int.toNat_natCast,FN hq]) (p:=dir.2) (name:=name) (ino:=0) (c:=(dir,name,(AB f dir name).1,(0,0))) (fun i e=>?_) (Prod.ext hdq rfl) rfl rfl rfl ?_
 ·rw[Xj (mX fun y hy hyi=>?_),Nh (Al hn0) hino];obtain rfl:y=m:=DO hvd.asc hy hm (by rw[hyi,hA2]);exact hm0
 intro h;have:(AB f dir name).1.2=0:=congrArg (fun y:AA=>y.2) h;have:=hvd.pos hm;omega
theorem Xn{f:AU}(hv:FlsV f){Q:Cp}(h:ChgOf f Q)(h0:Q.2.2=0):KeptF f Q.1 Q.2.1:=by
 have hok:=(h.okay hv h0).1;rcases h with⟨dir,name,a,rfl⟩|⟨dir,name,rfl⟩|⟨dir,name,rfl⟩|⟨src,name,to,name2,rfl⟩|⟨dir,name,n,rfl⟩
 ·unfold DP at h0 hok ⊢;split at h0
  ·rename_i hh;exact absurd h0 hh
  rename_i hpl;rw[if_neg hpl]at hok ⊢;split at h0
  ·exact absurd h0 (by decide)
  rename_i hha;rw[if_neg hha]at hok ⊢;split at h0
  ·exact absurd h0 (by decide)
  rename_i hdv;rw[if_neg hdv]at hok ⊢;split at h0
  ·exact absurd h0 (by decide)
  rename_i hkd;rw[if_neg hkd]at hok ⊢;split at h0
  ·exact absurd h0 (by decide)
  rename_i hlk;rw[if_neg hlk]at hok ⊢;split at h0
  ·exact absurd h0 (by decide)
  rename_i hfl;rw[if_neg hfl]at hok ⊢;obtain⟨q,i,d,n0,hdq,hq,hn0,hino,hidx,hnode,hk0,hnm⟩:=F1 (f:=f) (dir:=dir) (name:=name) (by omega);have hvd:=hv.vd d (Al hq);obtain⟨q2,i2,d2,m,haq,hq2,hm,hmi,hmn,hmg⟩:=K5 (f:=f) (a:=a) (by simpa using hha);have hpos:=(hv.vd d2 (Al hq2)).pos (Al hm);have ha0:a.2≠0:=by omega
  have haq':a.1=(q:Int):=by omega
  refine ST hv hok hq (ns':=BR d.nodes dir.2 name a.2) (nx:=d.next) (by show Ez f dir.1.toNat _=_;rw[hdq,Int.toNat_natCast,FN hq];rfl) (p:=dir.2) (name:=name) (ino:=a.2) (fun i e=>Nh (Al hn0) hino) (Prod.ext hdq rfl) rfl ?_ (Kj hnode hk0 hlk).2 ?_
  ·rw[if_neg ha0];exact Prod.ext haq' rfl
  intro hh;exact ha0 (congrArg (fun y:AA=>y.2) hh).symm
 ·unfold EG at h0 hok ⊢;split at h0
  ·rename_i hh;exact absurd h0 hh
  rename_i hpl;rw[if_neg hpl]at hok ⊢;split at h0
  ·rename_i hh;exact absurd h0 hh
  rename_i hlk;rw[if_neg hlk]at hok ⊢;split at h0
  ·exact absurd h0 (by decide)
  rename_i hdr;rw[if_neg hdr]at hok ⊢;refine Xm hv (by omega) (by omega) (fun m hm=>?_) hok;obtain⟨q2,i2,d2,m',haq,hq2,hm2,hmi,hmn,hmg⟩:=K5 (f:=f) (a:=(AB f dir name).1) (by simp[D1,hm]);obtain rfl:m=m':=Option.some.inj (hm.symm.trans hmn);exact((hv.vd d2 (Al hq2)).leaf m (Al hm2) fun hk=>hdr ((J3 hm).2 hk)).2
 ·unfold Dw at h0 hok ⊢;split at h0
  ·rename_i hh;exact absurd h0 hh
  rename_i hpl;rw[if_neg hpl]at hok ⊢;split at h0
  ·rename_i hh;exact absurd h0 hh
  rename_i hlk;rw[if_neg hlk]at hok ⊢;split at h0
  ·exact absurd h0 (by decide)
  rename_i hdr;rw[if_neg hdr]at hok ⊢;split at h0
  ·exact absurd h0 (by decide)
  rename_i hem;rw[if_neg hem]at hok ⊢;exact Xm hv (by omega) (by omega) (fun m hm=>(Ot hm).1 (by simpa using hem)) hok
 ·unfold Dg at h0 hok ⊢;split at h0
  ·rename_i hh;exact absurd h0 hh
  rename_i hord;rw[if_neg hord]at hok ⊢;split at h0
  ·rename_i hh;exact absurd h0 hh
  rename_i hl1;rw[if_neg hl1]at hok ⊢;split at h0
  ·exact absurd h0 (by decide)
  rename_i hdev;rw[if_neg hdev]at hok ⊢;split at h0
  ·exact absurd h0 (by decide)
  rename_i hbel;rw[if_neg hbel]at hok ⊢;split at h0
  ·rename_i hsame;rw[if_pos hsame];exact⟨PX (JB hv) (JB hv) fun x=>Iff.rfl,fun c hc=>(by cases hc),fun c1 c2 e=>(by cases e)⟩
  rename_i hsame;rw[if_neg hsame]at hok ⊢;split at h0
  ·rename_i hh;exact absurd h0 hh
  rename_i hr2;rw[if_neg hr2]at hok ⊢;obtain⟨hpl1,hpl2⟩:=NC (f:=f) (x:=src) (y:=to) (name:=name) (name2:=name2) (by omega);obtain⟨q,i,d,n1,hsq,hq,hn1,hn1i,hidx,hnode,hk1,hnm1⟩:=F1 hpl1;obtain⟨q',i2,d',n2,htq,hq',hn2,hn2i, -,hnode2,hk2,hnm2⟩:=F1 hpl2;obtain rfl:q=q':=by omega
  obtain rfl:d=d':=Option.some.inj (hq.symm.trans hq');have hvd:=hv.vd d (Al hq);have hm1:=Al hn1;have hm2:=Al hn2;have hql:=(As.1 hq).1;obtain⟨e,m,he,hle,hm,hem,he1,hmn⟩:=Kk hv hsq hq hn1 hnode hk1 (name:=name) (by omega);have hA2:(AB f src name).1.2=m.ino:=by rw[hle];exact hem
  have hA1:(AB f src name).1.1=(q:Int):=by rw[hle];exact hsq
  have hpos:(AB f src name).1.2≠0:=by have:=hvd.pos hm;omega
  have hne:¬(src=to∧name=name2):=by
   rintro⟨rfl,rfl⟩;exact hsame ⟨by omega,rfl⟩
  have hO:(AB f to name2).2=0→∀y∈d.nodes,y.ino=(AB f to name2).1.2→y.entries=[]∧y.ino≠to.2:=by
   intro hz y hy hyi;have hr3:Dp f src to (AB f src name).1 (AB f to name2).1 (AB f to name2).2=0:=by omega
   unfold Dp at hr3;rw[if_pos hz]at hr3;obtain⟨eo,o,heo,hleo,hom,heoi,heo1,hon⟩:=Kk hv htq hq hn2 hnode2 hk2 (name:=name2) hz;have hO2:(AB f to name2).1.2=eo.2:=by rw[hleo]
   obtain rfl:y=o:=DO hvd.asc hy hom (by rw[hyi,hO2,heoi])
   have hoe:y.entries=[]:=by
    have hdo:=J3 hon;by_cases hok2:y.kind=2
    ·rw[if_neg (fun hh=>by
        rw[if_pos hh]at hr3;exact absurd hr3 (by decide))]at hr3
     rw[if_neg (fun hh=>by rw[hdo.2 hok2]at hh;exact absurd hh.1 (by decide))]at hr3;split at hr3
     ·exact absurd hr3 (by decide)
     rename_i h5;refine(Ot hon).1 ?_
     cases hem2:JR f (AB f to name2).1 with
     |true=>rfl
     |false=>exact absurd ⟨hdo.2 hok2,hem2⟩ h5
    exact(hvd.leaf y hom hok2).2
   refine⟨hoe,fun hto=>?_⟩;obtain rfl:y=n2:=DO hvd.asc hy hm2 (by omega);have:=(FY heo).1;rw[hoe]at this;cases this
  have hPE:∀i e,PE (FZ (Gs d.nodes src name to name2 (AB f src name).1 (AB f to name2).1 (AB f to name2).2) (AB f src name).1.2 to.2 (AT f (AB f src name).1)) i e↔(PE (BR d.nodes src.2 name 0) i e∧¬(i=to.2∧e.1=name2))∨((AB f src name).1.2≠0∧i=to.2∧e=(name2,(AB f src name).1.2)):=by
   intro i e;obtain⟨m2,hm2',w2⟩:=Hd src.2 name 0 hm2;have hE:=Nh (ns:=BR d.nodes src.2 name 0) (p:=to.2) (name:=name2) (ino:=(AB f src name).1.2) hm2' (by rw[w2.ino];exact hn2i) (i:=i) (e:=e);rw[mU];unfold Gs;split
   ·rename_i hz;rw[Xj,hE];intro y hy hyi;obtain⟨y1,h1,w1⟩:=EF hy;obtain⟨y2,h2,w2⟩:=EF h1;obtain⟨h3,h4⟩:=hO hz y2 h2 (by rw[←w2.ino,←w1.ino];exact hyi);rw[w1.ents,if_neg (by rw[w2.ino];exact h4),w2.ents,h3];split
    ·rw[GN];rfl
    rfl
   exact hE
  have hPE1:∀i e,PE (BR d.nodes src.2 name 0) i e↔(PE d.nodes i e∧¬(i=src.2∧e.1=name))∨((0:Int)≠0∧i=src.2∧e=(name,0)):=fun i e=>Nh hm1 hn1i
  have hset:(Ez f to.1.toNat fun ns=>FZ (Gs ns src name to name2 (AB f src name).1 (AB f to name2).1 (AB f to name2).2) (AB f src name).1.2 to.2 (AT f (AB f src name).1))=f.set q ⟨d.next,FZ (Gs d.nodes src name to name2 (AB f src name).1 (AB f to name2).1 (AB f to name2).2) (AB f src name).1.2 to.2 (AT f (AB f src name).1)⟩:=by
   rw[htq,Int.toNat_natCast,FN hq]
  dsimp only at hok ⊢;rw[hset]at hok ⊢;generalize hns':FZ (Gs d.nodes src name to name2 (AB f src name).1 (AB f to name2).1 (AB f to name2).2) (AB f src name).1.2 to.2 (AT f (AB f src name).1)=ns' at hPE hok ⊢;have hq1:(f.set q ⟨d.next,BR d.nodes src.2 name 0⟩)[q]?=some ⟨d.next,BR d.nodes src.2 name 0⟩:=by simp[hql]
  have hqg:(f.set q ⟨d.next,ns'⟩)[q]?=some ⟨d.next,ns'⟩:=by simp[hql]
  have hs:src=((q:Int),src.2):=Prod.ext hsq rfl;have ht:to=((q:Int),to.2):=Prod.ext htq rfl;have hA:(AB f src name).1=((q:Int),(AB f src name).1.2):=Prod.ext hA1 rfl;have hA0:(AB f src name).1≠(0,0):=fun hh=>hpos (congrArg (fun y:AA=>y.2) hh);refine⟨?_,?_,?_⟩
  ·refine PX (PV (PV (JB hv) _) _) (JB hok) fun x=>?_;have e1:=SS hq d.next hPE1 (c:=(src,name,(AB f src name).1,(0,0))) hs rfl rfl;have e2:=SS hq1 d.next hPE (c:=(to,name2,(AB f to name2).1,(AB f src name).1)) ht rfl (by rw[if_neg hpos];exact hA) x;rw[List.set_set]at e2;rw[←e2];show x∈Hq (Hq (EM f) _) _↔_;rw[Ky,Ky (l:=EM (f.set q ⟨d.next,BR d.nodes src.2 name 0⟩)),e1 x]
  ·intro c hc;simp only[List.mem_cons,List.not_mem_nil,or_false]at hc;rcases hc with rfl|rfl
   ·refine⟨rfl,?_,hA0⟩;show(AB (f.set q ⟨d.next,ns'⟩) src name).1=(0,0);refine Xl hqg hsq fun e he hn=>?_;rcases(hPE _ _).1 he with⟨h1,_⟩|⟨_,h2,h3⟩
    ·rcases(hPE1 _ _).1 h1 with⟨_,h4⟩|⟨h4,_⟩
     ·exact h4 ⟨rfl,hn⟩
     exact h4 rfl
    rw[h3]at hn;exact hne ⟨Prod.ext (by omega) h2,hn.symm⟩
   refine⟨rfl,?_,?_⟩
   ·show(AB (f.set q ⟨d.next,ns'⟩) to name2).1=(AB f src name).1;rw[Xk hok hqg htq (e:=(name2,(AB f src name).1.2)) ((hPE _ _).2 (.inr ⟨hpos,rfl,rfl⟩))];exact Prod.ext (by show to.1=_;omega) rfl
   show(AB f to name2).1≠(AB f src name).1;intro hh;by_cases hz:(AB f to name2).2=0
   ·exact hsame ⟨hz,hh⟩
   rw[(Kj hnode2 hk2 hz).2]at hh;exact hA0 hh.symm
  intro c1 c2 hc;injection hc with h1 h2;injection h2 with h2 _;rw[←h1,←h2];exact hne
 unfold DW at h0 hok ⊢;split at h0
 ·rename_i hh;exact absurd h0 hh
 rename_i hpl;rw[if_neg hpl]at hok ⊢;split at h0
 ·exact absurd h0 (by decide)
 rename_i hpn;rw[if_neg hpn]at hok ⊢;split at h0
 ·exact absurd h0 (by decide)
 rename_i hlk;rw[if_neg hlk]at hok ⊢;obtain⟨q,i,d,n0,hdq,hq,hn0,hino,hidx,hnode,hk0,hnm⟩:=F1 (f:=f) (dir:=dir) (name:=name) (by omega);have hvd:=hv.vd d (Al hq);rw[hdq,JN,hq]at h0 hok ⊢;dsimp only at h0 hok ⊢;split at h0
 ·exact absurd h0 (by decide)
 rename_i hfl;rw[if_neg hfl]at hok ⊢;have hnx:d.next≠0:=by have:=hvd.next2;omega
 refine ST hv hok hq (by show f.set _ _=_;rw[Int.toNat_natCast]) (p:=dir.2) (name:=name) (ino:=d.next) (fun i e=>?_) (Prod.ext hdq rfl) rfl ?_ (Kj hnode hk0 hlk).2 ?_
 ·rw[mV rfl];exact Nh (Al hn0) hino
 ·rw[if_neg hnx]
 intro hh;exact hnx (congrArg (fun y:AA=>y.2) hh).symm
def Kz(l:List BW)(a:AA)(name:AD)(x:AA):Prop:=(x≠(0,0)∧(a,name,(0,0),x)∈l)∨(x=(0,0)∧∀y,(a,name,(0,0),y)∉l)
theorem SU{f:AU}(hv:FlsV f){a:AA}{name:AD}{y:AA}(h:(a,name,(0,0),y)∈EM f):(AB f a name).1=y∧y≠(0,0):=by
 obtain⟨i,d,hd,n,hn,e,he,hx⟩:=Kx.1 h
 obtain⟨rfl,rfl, -,rfl⟩:a=((i:Int),n.ino)∧name=e.1∧True∧y=((i:Int),e.2):=by
  injection hx with h1 h2;injection h2 with h2 h3;injection h3 with _ h4;exact⟨h1,h2,trivial,h4⟩
 have hvd:=hv.vd d (Al hd);have hnode:Bo f ((i:Int),n.ino)=some n:=Ld (a:=((i:Int),n.ino)) rfl hd hvd.asc hn rfl;have hk:=hvd.dirOf hn he
 obtain⟨e',he'⟩:∃e',DV n.entries e.1=some e':=by
  cases h:DV n.entries e.1 with
  |none=>exact absurd rfl (LW h e he)
  |some e'=>exact⟨e',rfl⟩
 obtain⟨k1,k2⟩:=FY he';obtain rfl:=N3 (hvd.sorted n hn) k1 he k2;refine⟨?_,?_⟩
 ·unfold AB;rw[hnode];simp only;rw[if_pos hk];have:n.entries.find? (fun x:BF=>decide (x.1=e'.1))=some e':=he';rw[this]
 intro hz;have hz2:e'.2=0:=congrArg (fun x:AA=>x.2) hz;obtain⟨_,_,m,hm,hmi⟩:=hvd.ent n hn e' he;have:=hvd.pos hm;omega
theorem SV{f:AU}(hv:FlsV f){a:AA}(hd:AT f a=true)(name:AD):Kz (EM f) a name (AB f a name).1:=by
 by_cases h:∃y,(a,name,(0,0),y)∈EM f
 ·obtain⟨y,hy⟩:=h;obtain⟨h1,h2⟩:=SU hv hy;rw[h1];exact .inl ⟨h2,hy⟩
 have hno:∀y,(a,name,(0,0),y)∉EM f:=fun y hy=>h ⟨y,hy⟩;refine .inr ⟨?_,hno⟩;obtain⟨q,d,m,h1,h2,h3,h4,h5,h6⟩:=Gu (f:=f) (a:=a) (by rw[hd];simp);have hvd:=hv.vd d (Al h2);have hnode:Bo f a=some m:=Ld h1 h2 hvd.asc h3 h4;unfold AB;rw[hnode];simp only;rw[if_pos h6];split
 ·rfl
 rename_i e he;exfalso;obtain⟨k1,k2⟩:=FY (es:=m.entries) (name:=name) (e:=e) he;refine hno ((q:Int),e.2) (Kx.2 ⟨q,d,h2,m,h3,e,k1,?_⟩);rw[k2,h4,←h1]
theorem mY{f:AU}(hv:FlsV f){a:AA}{name:AD}{x y:AA}(h:Kz (EM f) a name x)(hy:Kz (EM f) a name y):x=y:=by
 rcases h with⟨_,h⟩|⟨h0,h⟩
 ·rcases hy with⟨_,hy⟩|⟨_,hy⟩
  ·rw[←(SU hv h).1,(SU hv hy).1]
  exact absurd h (hy x)
 rcases hy with⟨_,hy⟩|⟨hy,_⟩
 ·exact absurd hy (h y)
 rw[h0,hy]
def M6(a:AA)(name:AD)(x:AA)(c:BW):AA:=if c.1=a∧c.2.1=name then c.2.2.2 else x
theorem mZ{l:List BW}{a:AA}{name:AD}{x:AA}(h:Kz l a name x)(c:BW):Kz (Hq l c) a name (M6 a name x c):=by
 unfold M6;by_cases e:c.1=a∧c.2.1=name
 ·rw[if_pos e];by_cases h0:c.2.2.2=(0,0)
  ·refine .inr ⟨h0,fun y hy=>?_⟩;rcases Ky.1 hy with⟨_,k⟩|⟨k,_⟩
   ·exact k ⟨e.1.symm,e.2.symm⟩
   exact k h0
  exact .inl ⟨h0,Ky.2 (.inr ⟨h0,by rw[e.1,e.2]⟩)⟩
 rw[if_neg e]
 have key:∀y,(a,name,(0,0),y)∈Hq l c↔(a,name,(0,0),y)∈l:=by
  intro y;rw[Ky];constructor
  ·rintro(⟨k,_⟩|⟨_,k⟩)
   ·exact k
   exfalso;injection k with k1 k2;injection k2 with k2 _;exact e ⟨k1.symm,k2.symm⟩
  exact fun k=> .inl ⟨k,fun k2=>e ⟨k2.1.symm,k2.2.symm⟩⟩
 rcases h with⟨h0,h⟩|⟨h0,h⟩
 ·exact .inl ⟨h0,(key x).2 h⟩
 exact .inr ⟨h0,fun y hy=>h y ((key y).1 hy)⟩
theorem Xo{a:AA}{name:AD}:∀(cs l:List BW) (x:AA),Kz l a name x→Kz (PU l cs) a name (cs.foldl (M6 a name) x)
 |[],_,_,h=>h
 |c::cs,_,_,h=>Xo cs _ _ (mZ h c)
theorem SW:∀(cs l:List BW),l.Nodup→(PU l cs).Nodup
 |[],_,h=>h
 |c::cs,_,h=>SW cs _ (PV h c)
theorem Xp{a b:List BW}(ha:a.Nodup)(h:Ng a b=true)(x:BW):x∈a↔x∈b:=by
 unfold Ng at h;simp only[Bool.and_eq_true,decide_eq_true_eq,List.all_eq_true,List.any_eq_true]at h
 have hab:∀y∈a,y∈b:=fun y hy=>by
  obtain⟨z,hz,rfl⟩:=h.2 y hy;exact hz
 refine⟨hab x,fun hx=>?_⟩;by_cases hxa:x∈a
 ·exact hxa
 exfalso
 have:=PW (xs:=x::a) (l:=b) (List.nodup_cons.2 ⟨hxa,ha⟩) fun y hy=>by
  rcases List.mem_cons.1 hy with rfl|hy
  ·exact hx
  exact hab y hy
 rw[List.length_cons,h.1]at this;omega
theorem Xq{f g:AU}{cs:List BW}(hf:FlsV f)(hg:FlsV g)(hk:KeptF f g cs){a:AA}(h1:AT f a=true)(h2:AT g a=true)(name:AD):(AB g a name).1=cs.foldl (M6 a name) (AB f a name).1:=by
 have k1:=Xo cs _ _ (SV hf h1 name);have km:=Xp (SW cs _ (JB hf)) hk.alike;refine mY hg (SV hg h2 name) ?_;rcases k1 with⟨k0,k1⟩|⟨k0,k1⟩
 ·exact .inl ⟨k0,(km _).1 k1⟩
 exact .inr ⟨k0,fun y hy=>k1 y ((km _).2 hy)⟩
theorem n8{i:Int}{es:List BF}{a b:BF}(ha:a∈es)(hb:b∈es)(h1:a.2=i)(h2:b.2=i)(hc:CS i es≤1):a=b:=by
 induction es with
 |nil=>cases ha
 |cons x es ih=>
   rw[My]at hc;rcases List.mem_cons.1 ha with e1|ha2
   ·rcases List.mem_cons.1 hb with e2|hb2
    ·rw[e1,e2]
    exfalso;have k:=P5 hb2 h2;rw[if_pos (by rw[←e1];exact h1)]at hc;omega
   rcases List.mem_cons.1 hb with e2|hb2
   ·exfalso;have k:=P5 ha2 h1;rw[if_pos (by rw[←e2];exact h2)]at hc;omega
   exact ih ha2 hb2 (by omega)
theorem Xr{i:Int}{n:Nod}:∀{ns:List Nod},n∈ns→CS i n.entries≤Bg i ns
 |[],h=>by cases h
 |x::ns,h=>by
   rw[K4];rcases List.mem_cons.1 h with rfl|h
   ·omega
   have:=Xr (i:=i) h;omega
theorem n9{f:AU}(hv:FlsV f){a:AA}(hd:AT f a=true)(hne:a.2≠1){x y:BW}(hx:x∈EM f)(hy:y∈EM f)(h1:x.2.2.2=a)(h2:y.2.2.2=a):x=y:=by
 obtain⟨q,d,m,e1,e2,e3,e4,e5,e6⟩:=Gu (f:=f) (a:=a) (by rw[hd];simp);have hvd:=hv.vd d (Al e2);have hone:=hvd.one m e3 (by omega) e6;obtain⟨i,d1,hd1,n,hn,e,he,rfl⟩:=Kx.1 hx;obtain⟨j,d2,hd2,p,hp,e',he',rfl⟩:=Kx.1 hy;simp only at h1 h2;obtain rfl:i=q:=by have:=congrArg (fun x:AA=>x.1) h1;simp only at this;omega
 obtain rfl:j=i:=by have:=congrArg (fun x:AA=>x.1) h2;simp only at this;omega
 obtain rfl:d1=d:=Option.some.inj (hd1.symm.trans e2);obtain rfl:d2=d1:=Option.some.inj (hd2.symm.trans e2);have k1:e.2=m.ino:=by have:=congrArg (fun x:AA=>x.2) h1;simp only at this;omega
 have k2:e'.2=m.ino:=by have:=congrArg (fun x:AA=>x.2) h2;simp only at this;omega
 have hnp:n=p:=by
  apply Classical.byContradiction;intro hc;have:=Vx hc (P5 he k1) (P5 he' k2) hn hp;omega
 subst hnp;have hee:e=e':=n8 he he' k1 k2 (by have:=Xr (i:=m.ino) hn;omega);rw[hee]
theorem nA{f:AU}(hv:FlsV f){a:AA}(hd:AT f a=true)(hne:a.2≠1):∃x∈EM f,x.2.2.2=a:=by
 obtain⟨q,d,m,e1,e2,e3,e4,e5,e6⟩:=Gu (f:=f) (a:=a) (by rw[hd];simp);have hvd:=hv.vd d (Al e2);obtain⟨p,hp,_,e,he,hei⟩:=hvd.par m e3 (by omega) e6;exact⟨_,Kx.2 ⟨q,d,e2,p,hp,e,he,rfl⟩,Prod.ext e1.symm (by show e.2=a.2;omega)⟩
theorem nB{f:AU}(hv:FlsV f){dir:AA}{name:AD}(hd:AT f dir=true)(h:(AB f dir name).1≠(0,0)):(dir,name,(0,0),(AB f dir name).1)∈EM f∧(AB f dir name).1.2≠1:=by
 rcases SV hv hd name with⟨_,k⟩|⟨k,_⟩
 ·refine⟨k,?_⟩;obtain⟨i,d,hd,n,hn,e,he,hx⟩:=Kx.1 k;have hy:(AB f dir name).1=((i:Int),e.2):=congrArg (fun x:BW=>x.2.2.2) hx;rw[hy];exact((hv.vd d (Al hd)).ent n hn e he).2.1
 exact absurd k h
theorem Xs{f g:AU}{cs:List BW}(hf:FlsV f)(hg:FlsV g)(hk:KeptF f g cs){dir:AA}{name:AD}(hdir:AT f dir=true){o:AA}(ho:(AB f dir name).1=o)(hod:AT f o=true)(ho0:o≠(0,0))(hc:∃c∈cs,c.1=dir∧c.2.1=name)(hnew:∀c∈cs,c.2.2.2≠o):AT g o=false:=by
 cases hgo:AT g o with
 |false=>rfl
 |true=>
   exfalso;obtain⟨k1,k2⟩:=nB hf hdir (name:=name) (by rw[ho];exact ho0);rw[ho]at k1 k2;obtain⟨x,hx,hxo⟩:=nA hg hgo k2;have hx2:=(Xp (SW cs _ (JB hf)) hk.alike x).2 hx
   have key:∀(cs l:List BW),x∈PU l cs→(∀c∈cs,c.2.2.2≠o)→x∈l∧∀c∈cs,¬(x.1=c.1∧x.2.1=c.2.1):=by
    intro cs
    induction cs with
    |nil=>exact fun l h _=>⟨h,fun c hc=>by cases hc⟩
    |cons c cs ih=>
      intro l h hn;obtain⟨h1,h2⟩:=ih (Hq l c) h fun c' hc'=>hn c' (List.mem_cons_of_mem _ hc');rcases Ky.1 h1 with⟨h3,h4⟩|⟨_,h4⟩
      ·refine⟨h3,fun c' hc'=>?_⟩;rcases List.mem_cons.1 hc' with rfl|hc'
       ·exact h4
       exact h2 c' hc'
      exfalso;refine hn c (by simp) ?_;rw[←hxo,h4]
   obtain⟨m1,m2⟩:=key cs _ hx2 hnew;obtain rfl:=n9 hf hod k2 m1 k1 hxo rfl;obtain⟨c,hc,c1,c2⟩:=hc;exact m2 c hc ⟨c1.symm,c2.symm⟩
structure WOk(s s':Spc)(gone:Int)(cs:List BW):Prop where
 dir:∀a,AT s.files a=true→AT s'.files a= !((cs.any fun c=>decide (c.2.2.1=a))&& !(cs.any fun c=>decide (c.2.2.2=a)))
 look:∀a name,AT s.files a=true→AT s'.files a=true→(AB s'.files a name).1=cs.foldl (M6 a name) (AB s.files a name).1
 mtd:∀d,Bm s d=true→Bm s' d= !decide (gone≠0∧gone=d)
 few:cs.length≤2
theorem WOk.refl(s:Spc):WOk s s 0 []:=⟨fun a h=>by rw[h];rfl,fun a name _ _=>rfl,fun d h=>by rw[h];simp,BJ _⟩
theorem nC(w:Wch)(l:List BW)(hk:w.kind=1):Kt w l={w with file:=l.foldl (M6 w.dir w.name) w.file}:=by
 unfold Kt;rw[if_pos hk];rfl
theorem nD{s:Spc}{w:Wch}(h:Eb s w=true):(w.kind=1∨w.kind=2)∧Ea s (CP w)=true:=by
 unfold Eb at h;unfold CP;split at h
 ·rename_i k;rw[if_neg (by omega)];simp only[Bool.and_eq_true]at h;exact⟨.inl k,h.1.1⟩
 split at h
 ·rename_i k;rw[if_pos k];simp only[Bool.and_eq_true]at h;exact⟨.inr k,h.1.1⟩
 cases h
theorem nE{s s':Spc}{gone:Int}{cs:List BW}(h:WOk s s' gone cs){w:Wch}(hc:Eb s w=true):FA s' w=Jc w gone cs∧((FA s' w).2=true→Eb s' (FA s' w).1=true)∧((FA s' w).2=false→(FA s' w).1=Ew):=by
 obtain⟨hk,hth⟩:=nD hc;have hth2:AT s.files (CP w)=true∧Bm s (CP w).1=true:=by simpa[Ea]using hth
 have hd:=h.dir _ hth2.1;have hm:=h.mtd _ hth2.2
 have hth':Ea s' (CP w)=(!((cs.any fun c=>decide (c.2.2.1=CP w))&& !(cs.any fun c=>decide (c.2.2.2=CP w)))&& !decide (gone≠0∧gone=(CP w).1)):=by
  unfold Ea;rw[hd,hm]
 have hkk:¬(w.kind≠1∧w.kind≠2):=by omega
 by_cases ht:Ea s' (CP w)=true
 ·have hfol:FA s' w=(if w.kind=1 then{w with file:=(AB s'.files w.dir w.name).1}else w,true):=by
     unfold FA;rw[if_neg (by rw[ht];simpa using hkk)];split<;>rfl
  have hchg:Jc w gone cs=(Kt w cs,true):=by
   unfold Jc;rw[hth']at ht;rw[if_neg];rintro(k|k|k)
   ·exact hkk k
   ·rw[decide_eq_true k]at ht;simp at ht
   simp only[k.1,k.2]at ht;simp at ht
  rw[hfol,hchg];rcases hk with hk|hk
  ·have hdo:CP w=w.dir:=by unfold CP;rw[if_neg (by omega)]
   have hds:AT s'.files w.dir=true:=by
    unfold Ea at ht;rw[Bool.and_eq_true,hdo]at ht;exact ht.1
   have hcu:(AB s.files w.dir w.name).1=w.file∧DT w.name=true:=by
    unfold Eb at hc;rw[if_pos hk]at hc;simp only[Bool.and_eq_true,decide_eq_true_eq]at hc;exact⟨hc.1.2,hc.2⟩
   have hlk:=h.look w.dir w.name (by rw[←hdo];exact hth2.1) hds;rw[hcu.1]at hlk;rw[if_pos hk,nC w cs hk,hlk];refine⟨rfl,fun _=>?_,fun k=>by cases k⟩;unfold Eb;simp only;rw[if_pos hk,←hlk,hcu.2,←hdo,ht];simp
  rw[if_neg (by omega)];refine⟨?_,fun _=>?_,fun k=>by cases k⟩
  ·unfold Kt;rw[if_neg (by omega)]
  have hdo:CP w=w.file:=by unfold CP;rw[if_pos hk]
  unfold Eb at hc ⊢;simp only at hc ⊢;rw[if_neg (by omega),if_pos hk]at hc ⊢;rw[←hdo,ht];simp only[Bool.and_eq_true]at hc;rw[hc.1.2,hc.2];rfl
 have hf:Ea s' (CP w)=false:=by simpa using ht
 have hfol:FA s' w=(Ew,false):=by
  unfold FA;rw[if_pos (.inr hf)]
 have hchg:Jc w gone cs=(Ew,false):=by
  unfold Jc;rw[if_pos];rw[hth']at hf;rw[Bool.and_eq_false_iff]at hf;rcases hf with k|k
  ·rw[Bool.not_eq_false',Bool.and_eq_true,Bool.not_eq_true']at k;exact Or.inr (Or.inr k)
  simp only[Bool.not_eq_false',decide_eq_true_eq]at k;exact .inr (.inl k)
 rw[hfol,hchg];exact⟨rfl,(fun k=>by cases k),fun _=>rfl⟩
theorem nF{f:AU}{dir:AA}{name:AD}{b:AA}:(DP f dir name b).2.2=0→(DP f dir name b).2.1=[(dir,name,(0,0),b)]:=by
 unfold DP
 repeat' split
 all_goals first|exact fun _=>rfl|exact fun h=>absurd h (by assumption)|exact fun h=>absurd h (by decide)
theorem nG{f:AU}{dir:AA}{name:AD}:(EG f dir name).2.2=0→(EG f dir name).2.1=[(dir,name,(AB f dir name).1,(0,0))]∧AT f (AB f dir name).1=false:=by
 unfold EG
 repeat' split
 all_goals first|exact fun h=>absurd h (by assumption)|exact fun h=>absurd h (by decide)|skip
 rename_i c;exact fun _=>⟨rfl,by simpa using c⟩
theorem nH{f:AU}{dir:AA}{name:AD}:(Dw f dir name).2.2=0→(Dw f dir name).2.1=[(dir,name,(AB f dir name).1,(0,0))]∧CC f dir name=0∧AT f (AB f dir name).1=true:=by
 unfold Dw
 repeat' split
 all_goals first|exact fun h=>absurd h (by assumption)|exact fun h=>absurd h (by decide)|skip
 rename_i c1 c2 c3 c4;exact fun _=>⟨rfl,by omega,by simpa using c3⟩
theorem nJ{f:AU}{dir:AA}{name:AD}{n:Nod}:(DW f dir name n).2.2=0→∃x,(DW f dir name n).2.1=[(dir,name,(0,0),x)]:=by
 unfold DW
 repeat' split
 all_goals first|exact fun _=>⟨_,rfl⟩|exact fun h=>absurd h (by assumption)|exact fun h=>absurd h (by decide)
theorem nK{f:AU}{src to:AA}{name name2:AD}:(Dg f src name to name2).2.2=0→(Dg f src name to name2=(f,[],0))∨((Dg f src name to name2).2.1=[(src,name,(AB f src name).1,(0,0)),(to,name2,(AB f to name2).1,(AB f src name).1)]∧CC f to name2=0∧¬((AB f to name2).2=0∧(AB f to name2).1=(AB f src name).1)):=by
 unfold Dg
 repeat' split
 all_goals first|exact fun _=> .inl rfl|exact fun h=>absurd h (by assumption)|exact fun h=>absurd h (by decide)|skip
 rename_i c1 c2 c3 c4 c5 c6;exact fun _=> .inr ⟨rfl,(NC (f:=f) (x:=src) (y:=to) (name:=name) (name2:=name2) (by omega)).2,c5⟩
theorem nL{f:AU}(hv:FlsV f){a:AA}(h:AT f a=true):a≠(0,0):=by
 rintro rfl;obtain⟨q,d,m,e1,e2,e3,e4,e5,e6⟩:=Gu (f:=f) (a:=(0,0)) (by rw[h];simp);have:=(hv.vd d (Al e2)).pos e3;simp only at e4;omega
theorem Xt{f:AU}{dir:AA}{name:AD}(h:CC f dir name=0):AT f dir=true:=by
 obtain⟨q,i,d,n0,hdq,hq,hn0,hino,hidx,hnode,hk0,hnm⟩:=F1 h;exact(J3 hnode).2 hk0
theorem M7{c:BW}{p:BW→Bool}:[c].any p=p c:=by simp
theorem PZ{c d:BW}{p:BW→Bool}:[c,d].any p=(p c||p d):=by simp
theorem Jh{p:Prop}[Decidable p](h:¬p):decide p=false:=decide_eq_false h
theorem nM{f:AU}(hv:FlsV f){Q:Cp}(h:ChgOf f Q)(h0:Q.2.2=0)(a:AA)(ha:AT f a=true):AT Q.1 a= !((Q.2.1.any fun c=>decide (c.2.2.1=a))&& !(Q.2.1.any fun c=>decide (c.2.2.2=a))):=by
 have hk:=Xn hv h h0;have hok:=(h.okay hv h0).1;have hz:=nL hv ha;have hz':¬((0,0):AA)=a:=fun e=>hz e.symm;rcases h with⟨dir,name,b,rfl⟩|⟨dir,name,rfl⟩|⟨dir,name,rfl⟩|⟨src,name,to,name2,rfl⟩|⟨dir,name,n,rfl⟩
 ·rw[XY h0 ha,nF h0,M7,Jh hz'];rfl
 ·obtain⟨k1,k2⟩:=nG h0;rw[Xa h0 ha,k1,M7,Jh (fun e=>by rw[e,ha]at k2;cases k2)];rfl
 ·obtain⟨k1,k2,k3⟩:=nH h0;by_cases e:(AB f dir name).1=a
  ·rw[k1,M7,M7,Jh hz',decide_eq_true e]
   exact Xs hv hok hk (Xt k2) e ha hz ⟨(dir,name,(AB f dir name).1,(0,0)),by rw[k1];simp,rfl,rfl⟩ fun c hc=>by
    rw[k1,List.mem_singleton]at hc;subst hc;exact hz'
  rw[Xb h0 ha (fun k=>e k.symm),k1,M7,Jh e];rfl
 ·rcases nK h0 with k|⟨k1,k2,k3⟩
  ·rw[k,ha];rfl
  by_cases e:(AB f to name2).1=a
  ·have e0:(AB f to name2).2=0:=by
      apply Classical.byContradiction;intro c;exact hz (by rw[←e];exact X9 c)
   have hne:¬(AB f src name).1=a:=fun k=>k3 ⟨e0,e.trans k.symm⟩;rw[k1,PZ,PZ,Jh hz',decide_eq_true e,Jh hne]
   exact Xs hv hok hk (Xt k2) e ha hz ⟨(to,name2,(AB f to name2).1,(AB f src name).1),by rw[k1];simp,rfl,rfl⟩ fun c hc=>by
    rw[k1]at hc;rcases List.mem_cons.1 hc with rfl|hc
    ·exact hz'
    rw[List.mem_singleton]at hc;subst hc;exact hne
  rw[Xd h0 ha (fun _ _ k=>e k.symm),k1,PZ,PZ,Jh e,Jh hz'];cases decide ((AB f src name).1=a)<;>rfl
 obtain⟨x,hx⟩:=nJ h0;rw[XX h0 ha,hx,M7,Jh hz'];rfl
theorem nO{f:AU}{Q:Cp}(h:ChgOf f Q):Q.2.1.length≤2:=by
 rcases h with⟨dir,name,b,rfl⟩|⟨dir,name,rfl⟩|⟨dir,name,rfl⟩|⟨src,name,to,name2,rfl⟩|⟨dir,name,n,rfl⟩
 ·unfold DP
  repeat' split
  all_goals simp
 ·unfold EG
  repeat' split
  all_goals simp
 ·unfold Dw
  repeat' split
  all_goals simp
 ·unfold Dg
  repeat' split
  all_goals simp
 unfold DW
 repeat' split
 all_goals simp
theorem nP{s:Spc}(hv:SpcV s){Q:Cp}(h:ChgOf s.files Q)(h0:Q.2.2=0):WOk s ⟨Q.1,s.mounts⟩ 0 Q.2.1:=
 ⟨fun a ha=>nM hv.files h h0 a ha,fun a name h1 h2=>Xq hv.files (h.okay hv.files h0).1 (Xn hv.files h h0) h1 h2 name,fun d hd=>by
  have:Bm ⟨Q.1,s.mounts⟩ d=Bm s d:=rfl;rw[this,hd]
  simp,nO h⟩
theorem Xu{ns:List Nod}{b:Int}{g:Nod→Nod}(h1:∀n,(g n).ino=n.ino)(h2:∀n,(g n).entries=n.entries){i:Int}{e:BF}:PE (CU ns b g) i e↔PE ns i e:=by
 unfold PE CU;constructor
 ·rintro⟨m,hm,hi,he⟩;obtain⟨n,hn,rfl⟩:=List.mem_map.1 hm;refine⟨n,hn,?_,?_⟩
  ·rw[←hi];split<;>simp[h1]
  revert he;split
  ·rw[h2];exact id
  exact id
 rintro⟨n,hn,hi,he⟩;refine⟨_,List.mem_map.2 ⟨n,hn,rfl⟩,?_,?_⟩
 ·rw[←hi];split<;>simp[h1]
 split
 ·rw[h2];exact he
 exact he
theorem nQ{f:AU}(hv:FlsV f){b:AA}{m u g:Int}(h0:(DE f b m u g).2=0):KeptF f (DE f b m u g).1 []:=by
 have hok:=(RK hv b m u g h0).1;refine⟨PX (JB hv) (JB hok) fun x=>?_,(fun c hc=>by cases hc),fun c1 c2 e=>by cases e⟩;show x∈EM f↔_;unfold DE at h0 ⊢;split at h0
 ·exact absurd h0 (by decide)
 rename_i c1;rw[if_neg c1];split at h0
 ·exact absurd h0 (by decide)
 rename_i c2;rw[if_neg c2];obtain⟨q,i,d,m0,hbq,hq,hm,hmi,hmn,hmg⟩:=K5 (f:=f) (a:=b) (by simpa using c1);rw[hbq,Int.toNat_natCast];simp only;rw[FN hq,PY,PY];have hql:=(As.1 hq).1;constructor
 ·rintro⟨j,d',hd',e,he,hx⟩;by_cases hj:j=q
  ·subst hj;obtain rfl:d'=d:=Option.some.inj (hd'.symm.trans hq);exact⟨j,_,by rw[List.getElem?_set_self hql],e,(Xu (g:=ET m u g) (b:=b.2) (fun _=>rfl) (fun _=>rfl)).2 he,hx⟩
  exact⟨j,d',by rw[List.getElem?_set_ne (fun k=>hj k.symm)];exact hd',e,he,hx⟩
 rintro⟨j,d',hd',e,he,hx⟩;by_cases hj:j=q
 ·subst hj;rw[List.getElem?_set_self hql]at hd';obtain rfl:=(Option.some.inj hd').symm;exact⟨j,d,hq,e,(Xu (g:=ET m u g) (b:=b.2) (fun _=>rfl) (fun _=>rfl)).1 he,hx⟩
 rw[List.getElem?_set_ne (fun k=>hj k.symm)]at hd';exact⟨j,d',hd',e,he,hx⟩
theorem nR{s:Spc}(hv:SpcV s){b:AA}{m u g:Int}(h0:(DE s.files b m u g).2=0):WOk s ⟨(DE s.files b m u g).1,s.mounts⟩ 0 []:=
 ⟨fun a ha=>by rw[Xc h0 ha];rfl,fun a name h1 h2=>Xq hv.files (RK hv.files b m u g h0).1 (nQ hv.files h0) h1 h2 name,fun d hd=>by
  have:Bm ⟨(DE s.files b m u g).1,s.mounts⟩ d=Bm s d:=rfl;rw[this,hd]
  simp,BJ _⟩
theorem nT{s:Spc}(hv:SpcV s){dev:Int}{b:AA}(h0:(DQ s dev b).2=0):WOk s (DQ s dev b).1 0 []:=by
 rw[(Uz hv dev b h0).2];refine⟨fun a ha=>by rw[ha];rfl,fun a name h1 h2=>rfl,fun d hd=>?_,BJ _⟩;unfold Bm Bt at hd ⊢;rw[Option.isSome_map]at hd ⊢;simp only;rw[List.find?_append];rcases(Bool.or_eq_true _ _).mp hd with k|k
 ·obtain⟨x,hx⟩:=Option.isSome_iff_exists.1 k;rw[hx];simp
 rw[k];simp
theorem nU{s:Spc}(hv:SpcV s){dev:Int}(h0:(Ef s dev).2=0):WOk s (Ef s dev).1 dev []:=by
 have hne:dev≠0:=by
  rintro rfl;unfold Ef at h0;rw[if_pos (.inl rfl)]at h0;exact absurd h0 (by decide)
 rw[(Vy hv dev h0).2];refine⟨fun a ha=>by rw[ha];rfl,fun a name h1 h2=>rfl,fun d hd=>?_,BJ _⟩;unfold Bm Bt at hd ⊢;rw[Option.isSome_map]at hd ⊢;simp only;rw[List.find?_filter];by_cases e:dev=d
 ·subst e;simp[hne]
 have:(fun a:Cs=>decide (a.1≠dev)&&decide (a.1=d))=fun a:Cs=>decide (a.1=d):=by
  funext x
  by_cases hx:x.1=d
  ·have:x.1≠dev:=by rw[hx];exact fun k=>e k.symm
   simp[hx,this];exact fun k=>e k.symm
  simp[hx]
 have hgo:(fun a:Cs=>decide (decide (a.1≠dev)=true∧decide (a.1=d)=true))=fun a:Cs=>decide (a.1=d):=by
  funext x
  by_cases hx:x.1=d
  ·have:x.1≠dev:=by rw[hx];exact fun k=>e k.symm
   simp[hx];exact fun k=>e k.symm
  simp[hx]
 first|rw[this]|rw[hgo]
 rw[hd];simp[e]
structure Frsh(s:Spc)(w:Wrk):Prop where
 spc:w.s.spc=s
 gone:w.r.gone=0
 chg:w.r.changes=[]
def Di(s:Spc)(w:Wrk):Prop:=WOk s w.s.spc w.r.gone w.r.changes
theorem Frsh.ok{s:Spc}{w:Wrk}(h:Frsh s w):Di s w:=by
 unfold Di;rw[h.spc,h.gone,h.chg];exact WOk.refl s
theorem Pa{w:Wrk}{R:Cp}(hv:SpcV w.s.spc)(hf:Frsh w.s.spc w)(hR:ChgOf w.s.spc.files R):Di w.s.spc (BT w R).1:=by
 by_cases h0:R.2.2=0
 ·unfold Di;rw[Hm h0];simp only;rw[hf.gone];exact nP hv hR h0
 rw[Lv h0];exact hf.ok
theorem Pb{s:Spc}{w:Wrk}{R:Tab×Int}(h:Di s w):Di s (C5 w R).1:=by
 unfold C5;split
 ·exact h
 exact h
theorem SX{w:Wrk}(hv:SpcV w.s.spc)(hf:Frsh w.s.spc w)(i:Nat)(n:Nod):Di w.s.spc (CO w i n).1:=by
 unfold CO;split
 ·exact Pa hv hf (.inr (.inr (.inr (.inr ⟨_,_,_,rfl⟩))))
 exact hf.ok
theorem Xv{s:Spc}{w:Wrk}(h:Di s w)(a:AA):Di s (Fj w a).1:=by
 unfold Fj;exact Pb (w:=NP w _) h
theorem nV{w:Wrk}(hv:SpcV w.s.spc)(hf:Frsh w.s.spc w):Di w.s.spc (CB w).1:=by
 unfold CB
 repeat' split
 all_goals first|exact hf.ok|exact SX hv hf _ _|exact Xv hf.ok _|exact Xv (SX hv hf _ _) _
theorem nW{w:Wrk}(hv:SpcV w.s.spc)(hf:Frsh w.s.spc w):Di w.s.spc (EK w).1:=by
 unfold EK
 repeat' split
 all_goals first|exact hf.ok|exact Pa hv hf (.inl ⟨_,_,_,rfl⟩)
theorem Xw{w:Wrk}{R:Cp}(hv:SpcV w.s.spc)(hf:Frsh w.s.spc w)(hR:ChgOf w.s.spc.files R):Di w.s.spc (Fk w R).1:=by
 unfold Fk;split
 ·exact hf.ok
 exact Pa hv hf hR
theorem nY{w:Wrk}(hv:SpcV w.s.spc)(hf:Frsh w.s.spc w):Di w.s.spc (Dk w).1:=by
 unfold Dk
 repeat' split
 all_goals first|exact hf.ok|exact Xw hv hf (.inr (.inl ⟨_,_,rfl⟩))|exact Xw hv hf (.inr (.inr (.inl ⟨_,_,rfl⟩)))
theorem nZ{w:Wrk}{R:Cp}{x:AA}(hv:SpcV w.s.spc)(hf:Frsh w.s.spc w)(hR:ChgOf w.s.spc.files R):Di w.s.spc (G7 w R x).1:=by
 have:=Pa hv hf hR;unfold G7
 repeat' split
 all_goals first|exact hf.ok|exact this
theorem o0{w:Wrk}(hv:SpcV w.s.spc)(hf:Frsh w.s.spc w):Di w.s.spc (Dl w).1:=by
 unfold Dl
 repeat' split
 all_goals first|exact hf.ok|exact nZ hv hf (.inr (.inr (.inr (.inl ⟨_,_,_,_,rfl⟩))))
theorem o5{w:Wrk}(hv:SpcV w.s.spc)(hf:Frsh w.s.spc w)(b:AA)(x y z:Int):Di w.s.spc (H3 w (DE w.s.spc.files b x y z)).1:=by
 unfold H3;by_cases h0:(DE w.s.spc.files b x y z).2=0
 ·unfold Di;rw[Hm (R:=((DE w.s.spc.files b x y z).1,[],(DE w.s.spc.files b x y z).2)) h0];simp only;rw[hf.gone];exact nR hv h0
 rw[Lv (R:=((DE w.s.spc.files b x y z).1,[],(DE w.s.spc.files b x y z).2)) h0];exact hf.ok
theorem o8{w:Wrk}(hv:SpcV w.s.spc)(hf:Frsh w.s.spc w):Di w.s.spc (EW w).1:=by
 unfold EW
 repeat' split
 all_goals first|exact hf.ok|exact o5 hv hf _ _ _ _
theorem oA{w:Wrk}(hv:SpcV w.s.spc)(hf:Frsh w.s.spc w)(dev:Int)(a:AA):Di w.s.spc (H4 w (DQ w.s.spc dev a)).1:=by
 unfold H4;split
 ·rename_i h0;unfold Di;simp only;rw[hf.gone,hf.chg];exact nT hv h0
 exact hf.ok
theorem oB{w:Wrk}(hv:SpcV w.s.spc)(hf:Frsh w.s.spc w):Di w.s.spc (H5 w (Ef w.s.spc w.c.a0)).1:=by
 unfold H5;split
 ·rename_i h0;unfold Di;simp only;rw[hf.chg];exact nU hv h0
 exact hf.ok
theorem oC{w:Wrk}(hv:SpcV w.s.spc)(hf:Frsh w.s.spc w):Di w.s.spc (DG w).1:=by
 unfold DG
 repeat' split
 all_goals first|exact hf.ok|exact Pb hf.ok|exact oA hv hf _ _
theorem oD{w:Wrk}(hv:SpcV w.s.spc)(hf:Frsh w.s.spc w):Di w.s.spc (EX w).1:=by
 unfold EX
 repeat' split
 all_goals first|exact hf.ok|exact SX hv hf _ _
theorem oE{w:Wrk}(hv:SpcV w.s.spc)(hf:Frsh w.s.spc w):Di w.s.spc (Eu w).1:=by
 unfold Eu
 repeat' split
 all_goals first|exact hf.ok|exact oB hv hf
theorem oF{w:Wrk}(hv:SpcV w.s.spc)(hf:Frsh w.s.spc w):Di w.s.spc (Ds w).1:=by
 unfold Ds
 repeat' split
 all_goals first|exact hf.ok|exact oE hv hf|exact Pb hf.ok|exact Pb (w:=Km w _) hf.ok
theorem oG{w:Wrk}(hv:SpcV w.s.spc)(hf:Frsh w.s.spc w):Di w.s.spc (BD w).1:=by
 unfold BD
 repeat' split
 all_goals first|exact nV hv hf|exact nW hv hf|exact nY hv hf|exact o0 hv hf|exact o8 hv hf|exact oC hv hf|exact oD hv hf|exact oF hv hf
theorem oH{s:Syst}(hv:SpcV s.spc)(pid:Int)(c:Cal):WOk s.spc (Bv s pid c).1.spc (Bv s pid c).2.gone (Bv s pid c).2.changes:=by
 have ha:=oG (w:=Ej s pid c) hv ⟨rfl,rfl,rfl⟩;unfold Bv
 repeat' split
 all_goals first|exact WOk.refl _|exact ha
end Go.Proofs.YtbglbmnhgbgelaaGreatDoor
