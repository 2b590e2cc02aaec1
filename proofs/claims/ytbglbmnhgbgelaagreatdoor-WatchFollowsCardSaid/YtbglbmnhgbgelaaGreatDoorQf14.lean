/-
  Part 14 of the proof of WatchFollowsP: what the statement's proof uses of the texts in wip/tpl.
-/
import Derived.Test.YtbglbmnhgbgelaaGreatDoorQf13
open Go.Proofs.Tryz (prog)
set_option maxRecDepth 10000
set_option maxHeartbeats 4000000
set_option linter.unusedVariables false
set_option linter.unusedSimpArgs false
namespace Go.Proofs.YtbglbmnhgbgelaaGreatDoor
open Go.RowKit
theorem iY{α:Type}{sz:Nat}{F:α→List AV}(hF:RowF sz F){l:List α}{j cap:Nat}{x x':α}(h:l.length=j):SetAt (LB sz F (l++[x]) cap) (0+j * sz) (F x') (LB sz F (l++[x']) cap):=by
 have h1:(l++[x])[j]?=some x:=by rw[←h];simp
 have h2:(l++[x]).set j x'=l++[x']:=by rw[←h];simp
 have key:=Va hF (cap:=cap) (x':=x') h1
 rwa [h2]at key
theorem Wd{is:List Nat}:∀i,i<1→(0::is)[i]?=some i:=by
 intro i hi;obtain rfl:i=0:=by omega
 rfl
theorem iZ{f:Nat→Option AV}{bx:List (List AV)}{tk:List Cj}{N:Dim}(i:Nat){row row':List AV}(hi:bx[i]?=some row)(hle:LeL row row'):Weak N ⟨f,⟨bx,tk⟩⟩ ⟨f,⟨bx.set i row',tk⟩⟩:=by
 rintro E a w ⟨G,h1,h2,h3⟩;exact⟨G,h1.boxLe hi (fun us hu=>hle G w us hu),h2,h3⟩
theorem j0(w:Wrk)(rows:List (List AV))(g:Option Nat)(I:AV):LeL (D6 w (.sl 8 rows g) I) (D6 w (.sl 8 rows none) I):=by
 unfold D6
 repeat (first|exact LeL.nil|refine LeL.cons (A9 _) ?_|refine LeL.cons (LeA.tok _ _ _) ?_)
theorem BL{n m:Nat}(w:Wrk)(F I:AV):Ac n m (D6 w F I)=(Ab n m F&&Ab n m I):=by
 simp[D6,Ac,Ab]
def F9(l:List Fnd):AV:= .sl 8 (l.map Aq) (some 0)
def Lt(w:Wrk)(e:Int)(j:Nat):List Itm×List Fnd×Int:=J5 w.s.spc w.p.cwd (D5 w.c) ((w.c.paths.zip (CK w.c)).take j) e
def LK(w:Wrk)(e:Int):List Itm×List Fnd×Int:=J5 w.s.spc w.p.cwd (D5 w.c) (w.c.paths.zip (CK w.c)) e
theorem j1{w:Wrk}{e:Int}{j:Nat}{g:AD×Int}(h:(w.c.paths.zip (CK w.c))[j]?=some g):Lt w e (j+1)=Fb w.s.spc w.p.cwd (D5 w.c) (Lt w e j) g:=by
 unfold Lt J5;rw[List.take_add_one,h,List.foldl_append];rfl
theorem j2{w:Wrk}{e:Int}{j:Nat}(h:(w.c.paths.zip (CK w.c)).length≤j):Lt w e j=LK w e:=by
 unfold Lt LK;rw[List.take_of_length_le h]
def WA(w:Wrk)(cap:Nat):List AV:=D6 w (CN w) (.bs 1 0 13 w.r.items.length cap)
def IB(w:Wrk)(cap:Nat):List AV:=LB 13 CL w.r.items cap
theorem DH{bx:List (List AV)}{a b:List AV}{rest:List (List AV)}(hb:bx=a::b::rest)(w:Wrk)(cap:Nat):Back bx [0,1] [WA w cap,IB w cap] (WA w cap::IB w cap::rest):=by
 subst hb;have:=NT (bx:=a::b::rest) (is:=[0,1]) (bc:=[WA w cap,IB w cap]) (by simp) (by simp) (by simp);have e1:Da (Du [0,1] (a::b::rest).length) (WA w cap)=WA w cap:=rfl;have e2:Da (Du [0,1] (a::b::rest).length) (IB w cap)=IB w cap:=Cr B6 _ _ _
 have hb:DS (a::b::rest) (Du [0,1] (a::b::rest).length) [0,1] [WA w cap,IB w cap]=WA w cap::IB w cap::rest:=by
  unfold DS;rw[e1];unfold DS;rw[e2];simp[DS]
 rw[hb]at this;exact this
section
theorem We(w:Wrk)(e:Int)(hv:SpcV w.s.spc)(hm:w.s.spc.mounts.length≤1000)(hp:w.c.paths.length=(CK w.c).length)(hpl:w.c.paths.length≤1000)(h0:0<w.c.paths.length)(hps:∀p∈w.c.paths,p.size≤100000):
    ACall prog 66 [.bp 0 0, .v (.int .i64 e)] [D6 w (.v (.slice none 0 0)) (.v (.slice none 0 0))] (fun r b t=>t=[]∧∃cap,(LK w e).1.length≤cap∧r= .v (.int .i64 (LK w e).2.2)∧b=[D6 w (.sl 8 ((LK w e).2.1.map Aq) none) (.bs 1 0 13 (LK w e).1.length cap),LB 13 CL (LK w e).1 cap]):=by
 have hsb:=hv.b hm;have hsn:=hv.n hm;refine enter Tryz.func66 rfl rfl rfl rfl rfl 2 rfl ?_;refine w_ (a_ (h:=e_ (w_ (m_ (h:=k_ (h:=f_ (h:=l_ (h:=?_))))))));refine A6 rfl (AK (Vo w.c) ?_);rintro r rfl;refine a_ (h:=e_ (?_));refine BE (fun s=>∃cap,(LK w e).1.length≤cap∧s=⟨look [(1, .v (.int .i64 (LK w e).2.2))],⟨[D6 w (.sl 8 ((LK w e).2.1.map Aq) none) (.bs 1 0 13 (LK w e).1.length cap),LB 13 CL (LK w e).1 cap],[]⟩⟩) ?_ ?_
 ·skip
  refine w_ (a_ (h:=e_ (Av (?_))));refine LG 0 26 113 8 rfl rfl (by repeat constructor) (by repeat constructor) (by repeat constructor) ?_;refine Bq (fun m s=>∃(j:Nat) (X:List Itm×List Fnd×Int) (Y:AV) (Z:List (List AV)),j≤w.c.paths.length∧m=w.c.paths.length - j∧Lt w e j=X∧X.1.length=j∧X.2.1.length=j∧((Y= .v (.slice none 0 0)∧Z=[]∧X.1=[])∨∃cap,X.1.length≤cap∧Y= .bs 1 0 13 X.1.length cap∧Z=[LB 13 CL X.1 cap])∧s=⟨look [(0, .bp 0 0),(1, .v (.int .i64 X.2.2)),(5, .sl 1 ((CK w.c).map CF) none),(6, .v (.int .i64 (j:Int)))],⟨D6 w (F9 X.2.1) Y::Z,[(113,8,X.2.1.map Aq)]⟩⟩) (w.c.paths.length) ((wk 1 1)) (⟨0,([],[],e),_,_,BJ _,rfl,rfl,rfl,rfl, .inl ⟨rfl,rfl,rfl⟩,rfl⟩) ?_;rintro m s ⟨j,X,Y,Z,hj,rfl,hX,hl1,hl2,hYZ,rfl⟩;refine q_ (w_ (m_ (h:=m_ (h:=k_ (h:=f_ (h:=f_ (h:=l_ (h:=n_ (h:=BS (h:=e_ (?_)))))))))));refine A8 rfl (fun hb1=>?_) (fun hb1=>?_)
  ·have hc1:=bp hb1;obtain⟨hlt,y,hy,hrow, -⟩:=Cu DL hc1;obtain⟨pj,hpj⟩:∃z,(CK w.c)[j]?=some z:=⟨_,B9 (by omega)⟩;have hrow2:((CK w.c).map CF)[j]?=some (CF pj):=by rw[List.getElem?_map,hpj];rfl
   have hz:(w.c.paths.zip (CK w.c))[j]?=some (y,pj):=List.getElem?_zip_eq_some.2 ⟨hy,hpj⟩;have hk:=j1 (e:=e) hz;rw[hX]at hk;have hys:=hps y (Al hy);refine AN (q_ (Av (?_)));refine BE (fun s=>∃cap,X.1.length+1≤cap∧s=⟨look [(0, .bp 0 0),(1, .v (.int .i64 X.2.2)),(5, .sl 1 ((CK w.c).map CF) none),(6, .v (.int .i64 (j:Int)))],⟨[D6 w (F9 X.2.1) (.bs 1 0 13 (X.1.length+1) cap),LB 13 CL (X.1++[G4 y pj]) cap],[(113,8,X.2.1.map Aq)]⟩⟩) ?_ ?_
   ·rcases hYZ with⟨rfl,rfl,hX0⟩|⟨cap,hcp,rfl,rfl⟩
    ·skip
     refine BO ([(0,D6 w (F9 X.2.1) (.v (.slice none 0 0)))]) 24 (h:=AO 0 (h:=AO 1 (h:=BC 2 (h:=AG 3 (h:=AG 4 (h:=AM 5 (h:=AO 6 (h:=BC 7 (h:=AG 8 (h:=AG 9 (h:=AM 10 (h:=AO 11 (h:=EC 12 (h:=AM 13 (h:=AO 14 (h:=AO 15 (h:=EC 16 (h:=AM 17 (h:=?_)))))))))))))))))));refine Bz 18 rfl (fun _ hS=>FF (y:= .agg (CL (G4 y pj))) (DD ⟨rfl,rfl⟩) (A9 _) ⟨rfl,rfl⟩) ?_;refine JK 19 (h:=?_);refine c_ 20 rfl (MX rfl rfl JW (by omega) (by omega) ?_);rintro cap2 k bx2 hcp hs;rw[show Ce (.agg (CL (G4 y pj)))++List.replicate ((cap2 - 1) * 13) AV.any=LB 13 CL [G4 y pj] cap2 from Vb B6 _ cap2]at hs;obtain⟨rfl,rfl⟩:k=1∧bx2=[_,_]:=hs.eq;refine o_ (h:=?_);refine BC 21 (h:=AG 22 (h:=AG 23 (h:=?_)));refine Aj 24 rfl (Af rfl rfl rfl rfl rfl rfl (by repeat constructor) (by repeat constructor) ?_);refine o_ (h:=z_ (h:=?_));refine AF ?_;refine⟨_,⟨cap2,by rw[hX0];exact hcp,rfl⟩,?_⟩;rw[hX0];exact Bl 2 1 (by simp[Ai,Ac,Ab,Bj B6,BL,F9])
    skip
    refine BO ([(0,D6 w (F9 X.2.1) (.bs 1 0 13 X.1.length cap))]) 24 (h:=AO 0 (h:=AO 1 (h:=BC 2 (h:=AG 3 (h:=AG 4 (h:=AM 5 (h:=AO 6 (h:=BC 7 (h:=AG 8 (h:=AG 9 (h:=AM 10 (h:=AO 11 (h:=EC 12 (h:=AM 13 (h:=AO 14 (h:=AO 15 (h:=EC 16 (h:=AM 17 (h:=?_)))))))))))))))))));refine Bz 18 rfl (fun _ hS=>FF (y:= .agg (CL (G4 y pj))) (DD ⟨rfl,rfl⟩) (A9 _) ⟨rfl,rfl⟩) ?_;refine JK 19 (h:=?_);refine c_ 20 rfl (LH rfl rfl rfl (by rw[NR B6 hcp];omega) JW (by omega) (by omega) ?_ ?_)
    ·rintro hg row2 bx2 hs hb;obtain rfl:=Rk B6 hs hg;obtain rfl:bx2=[_,_]:=hb.one.2;refine o_ (h:=?_);refine BC 21 (h:=AG 22 (h:=AG 23 (h:=?_)));refine Aj 24 rfl (Af rfl rfl rfl rfl rfl rfl (by repeat constructor) (by repeat constructor) ?_);refine o_ (h:=z_ (h:=?_));refine AF ?_;exact⟨_,⟨cap,hg,rfl⟩,Bl 2 1 (by simp[Ai,Ac,Ab,Bj B6,BL,F9])⟩
    rintro hg cap3 k bx2 hcp3 hs;rw[show((LB 13 CL X.1 cap).drop 0).take (X.1.length * 13)++Ce (.agg (CL (G4 y pj)))++List.replicate ((cap3 - (X.1.length+1)) * 13) AV.any=LB 13 CL (X.1++[G4 y pj]) cap3 from Rj B6 X.1 _ cap cap3]at hs;obtain⟨rfl,rfl⟩:k=2∧bx2=[_,_,_]:=hs.eq;refine o_ (h:=?_);refine BC 21 (h:=AG 22 (h:=AG 23 (h:=?_)));refine Aj 24 rfl (Af rfl rfl rfl rfl rfl rfl (by repeat constructor) (by repeat constructor) ?_);refine o_ (h:=z_ (h:=?_));refine AF ?_
    first|exact⟨_,⟨cap,hg,rfl⟩,Bl 2 1 (by simp[Ai,Ac,Ab,Bj B6,BL,F9])⟩|exact⟨_,⟨cap3,hcp3,rfl⟩,EB [0,2] Wd (by decide) (.cons _ _ _ _ _ rfl rfl (.cons _ _ _ _ _ rfl (H7 B6 _ _ _) .nil)) (by repeat (first|exact SubK.nil|refine SubK.cons _ _ _ _ rfl (A9 _) ?_))⟩
   rintro s ⟨cap,hcp,rfl⟩;refine w_ (AZ (h:=e_ (?_)));refine BE (fun s=>∃(it:Itm) (F:Fnd) (e2:Int),Fb w.s.spc w.p.cwd (D5 w.c) X (y,pj)=(X.1++[it],X.2.1++[F],e2)∧s=⟨look [(0, .bp 0 0),(1, .v (.int .i64 e2)),(5, .sl 1 ((CK w.c).map CF) none),(6, .v (.int .i64 (j:Int))),(7, .bp 2 0)],⟨[D6 w (F9 X.2.1) (.bs 1 0 13 (X.1.length+1) cap),LB 13 CL (X.1++[it]) cap,Aq F],[(113,8,X.2.1.map Aq)]⟩⟩) ?_ ?_
   ·skip
    refine w_ (m_ (h:=AR (h:=e_ (?_))));refine A8 rfl (fun hb2=>?_) (fun hb2=>?_)
    ·have hc2:=bp hb2;have he0:X.2.2=0:=by simpa using hc2
     refine q_ (BO ([(0,D6 w (F9 X.2.1) (.bs 1 0 13 (X.1.length+1) cap)),(1,LB 13 CL (X.1++[G4 y pj]) cap)]) 29 (h:=AO 0 (h:=BC 1 (h:=AG 2 (h:=AG 3 (h:=AM 4 (h:=AO 5 (h:=BC 6 (h:=AG 7 (h:=AG 8 (h:=AM 9 (h:=AO 10 (h:=BC 11 (h:=AG 12 (h:=AG 13 (h:=AM 14 (h:=AO 15 (h:=EC 16 (h:=AM 17 (h:=AO 18 (h:=BC 19 (h:=AG 20 (h:=AM 21 (h:=?_))))))))))))))))))))))));refine c_ 22 rfl (AK (fJ w.c) ?_);rintro r rfl;refine o_ (h:=?_);refine c_ 23 rfl (AK (WV w.s.spc w.p.cwd y (D5 w.c) hsn hv hys) ?_);rintro r rfl;refine o_ (h:=AO 24 (h:=Au 25 (h:=Au 26 (h:=?_))));refine Aj 27 rfl (Af rfl rfl rfl rfl rfl rfl (by repeat constructor) (by repeat constructor) ?_);refine o_ (h:=BK 28 (h:=z_ (h:=t_ (w_ (m_ (h:=AR (h:=e_ (?_))))))));refine A8 rfl (fun hb3=>?_) (fun hb3=>?_)
     ·have hc3:=bp hb3;have hf0:(Bc w.s.spc w.p.cwd y (D5 w.c)).2=0:=by simpa using hc3
      refine BO ([(0,D6 w (F9 X.2.1) (.bs 1 0 13 (X.1.length+1) cap)),(1,LB 13 CL (X.1++[G4 y pj]) cap),(2,Aq (Bc w.s.spc w.p.cwd y (D5 w.c)).1)]) 26 (h:=AO 0 (h:=BC 1 (h:=AG 2 (h:=AG 3 (h:=AM 4 (h:=AO 5 (h:=AO 6 (h:=BC 7 (h:=AG 8 (h:=AG 9 (h:=AM 10 (h:=AO 11 (h:=BC 12 (h:=AG 13 (h:=AG 14 (h:=AM 15 (h:=AO 16 (h:=EC 17 (h:=AM 18 (h:=AO 19 (h:=AO 20 (h:=EC 21 (h:=AM 22 (h:=?_))))))))))))))))))))))));refine AM 23 (h:=?_);refine c_ 24 rfl (AK (iX w.s.spc y pj (Bc w.s.spc w.p.cwd y (D5 w.c)).1 hsb) ?_);rintro r rfl;refine o_ (h:=?_);refine Bz 25 rfl (fun _ hS=>DZ (m:=j) rfl rfl rfl (by omega) ⟨rfl,rfl⟩) ?_;refine Aj 26 rfl (Af rfl rfl rfl rfl rfl rfl (iY B6 hl1) (by repeat constructor) ?_);refine o_ (h:=z_ (h:=?_));refine AF ?_;exact⟨_,⟨NN w.s.spc y pj (Bc w.s.spc w.p.cwd y (D5 w.c)).1,(Bc w.s.spc w.p.cwd y (D5 w.c)).1,(Bc w.s.spc w.p.cwd y (D5 w.c)).2,(by rw[Fb,if_pos he0,if_pos hf0,hf0]),rfl⟩,Bl 3 1 (by simp[Ai,Ac,Ab,Bj B6,BL,F9,Aq])⟩
     have hc3:=bp hb3;have hf0:¬(Bc w.s.spc w.p.cwd y (D5 w.c)).2=0:=by simpa using hc3
     refine BM (?_);refine AF ?_
     first|exact⟨_,⟨NN w.s.spc y pj (Bc w.s.spc w.p.cwd y (D5 w.c)).1,(Bc w.s.spc w.p.cwd y (D5 w.c)).1,(Bc w.s.spc w.p.cwd y (D5 w.c)).2,(by rw[Fb,if_pos he0,if_pos hf0,hf0]),rfl⟩,Bl 3 1 (by simp[Ai,Ac,Ab,Bj B6,BL,F9,Aq])⟩|exact⟨_,⟨G4 y pj,(Bc w.s.spc w.p.cwd y (D5 w.c)).1,(Bc w.s.spc w.p.cwd y (D5 w.c)).2,(by rw[Fb,if_pos he0,if_neg hf0]),rfl⟩,Bl 3 1 (by simp[Ai,Ac,Ab,Bj B6,BL,F9,Aq])⟩
    have hc2:=bp hb2;have he0:¬X.2.2=0:=by simpa using hc2
    refine BM (?_);refine AF ?_
    first|exact⟨_,⟨NN w.s.spc y pj (Bc w.s.spc w.p.cwd y (D5 w.c)).1,(Bc w.s.spc w.p.cwd y (D5 w.c)).1,(Bc w.s.spc w.p.cwd y (D5 w.c)).2,(by rw[Fb,if_pos he0,if_pos hf0,hf0]),rfl⟩,Bl 3 1 (by simp[Ai,Ac,Ab,Bj B6,BL,F9,Aq])⟩|exact⟨_,⟨G4 y pj,(Bc w.s.spc w.p.cwd y (D5 w.c)).1,(Bc w.s.spc w.p.cwd y (D5 w.c)).2,(by rw[Fb,if_pos he0,if_neg hf0]),rfl⟩,Bl 3 1 (by simp[Ai,Ac,Ab,Bj B6,BL,F9,Aq])⟩|exact⟨_,⟨G4 y pj,Dh,X.2.2,(by rw[Fb,if_neg he0]),rfl⟩,Bl 3 1 (by simp[Ai,Ac,Ab,Bj B6,BL,F9,Aq])⟩
   rintro s ⟨it,F,e2,hlk,rfl⟩;refine BO ([(0,D6 w (F9 X.2.1) (.bs 1 0 13 (X.1.length+1) cap)),(2,Aq F)]) 10 (h:=AO 0 (h:=AO 1 (h:=BC 2 (h:=AG 3 (h:=AM 4 (h:=AM 5 (h:=JK 6 (h:=?_))))))));refine c_ 7 rfl (EO rfl rfl rfl (by simp;omega) (by repeat constructor) ?_);refine o_ (h:=BC 8 (h:=AG 9 (h:=?_)));refine Aj 10 rfl (Af rfl rfl rfl rfl rfl rfl (by repeat constructor) (by repeat constructor) ?_);refine o_ (h:=z_ (h:=B8 (t_ (AQ (m_ (h:=BH (h:=a_ (h:=AP (?_)))))))));refine AF ?_;refine⟨w.c.paths.length - (j+1),_,by omega,⟨j+1,(X.1++[it],X.2.1++[F],e2), .bs 1 0 13 (X.1++[it]).length cap,[LB 13 CL (X.1++[it]) cap],by omega,rfl,by rw[hk,hlk],by simp;omega,by simp;omega, .inr ⟨cap,by simpa using hcp,rfl,rfl⟩,rfl⟩,?_⟩;rw[List.length_append];unfold F9;rw[List.map_append];exact Bl 2 1 (by simp[Ai,Ac,Ab,Bj B6,BL])
  have hc1:=bp hb1;have e3:=D0 DL hj hc1;rcases hYZ with⟨_,_,hX0⟩|⟨cap,hcp,rfl,rfl⟩
  ·exfalso;rw[hX0]at hl1;simp at hl1;omega
  have hfin:LK w e=X:=by rw[←hX];exact(j2 (by rw[List.length_zip];omega)).symm
  refine BX (Aw (Aw (BY (?_))));refine AF ?_;refine⟨_,⟨cap,by rw[hfin];exact hcp,rfl⟩,?_⟩;rw[hfin];exact(iZ 0 rfl (j0 w _ _ _)).trans (Bl 2 0 (by simp[Ai,Ac,Ab,Bj B6,BL]))
 rintro s ⟨cap,hcp,rfl⟩;refine w_ (m_ (h:=a_ (h:=e_ (A4 (?_)))));refine Am (r:= .v (.int .i64 (LK w e).2.2)) none (h4:=(by simp[Ai,Ac,Ab,Bj B6,BL])) (h5:=(A9 _)) (h6:=⟨rfl,cap,hcp,rfl,rfl⟩)
theorem Lu(w:Wrk)(cap:Nat)(f:AU)(l:List BW)(e:Int):ACall prog 154 [.bp 0 0, .agg (Ay f), .sl 7 (l.map CY) none, .v (.int .i64 e)] [WA w cap,IB w cap] (fun r b t=>t=[]∧r= .v (.int .i64 e)∧b=[WA (BT w (f,l,e)).1 cap,IB (BT w (f,l,e)).1 cap]):=by
 refine enter Tryz.func154 rfl rfl rfl rfl rfl 2 rfl ?_;refine w_ (b_ (h:=a_ (h:=e_ (q_ (w_ (m_ (h:=AR (h:=e_ (?_)))))))));refine A8 rfl (fun hb1=>?_) (fun hb1=>?_)
 ·have hc1:=bp hb1;refine w_ (m_ (h:=l_ (h:=k_ (h:=f_ (h:=f_ (h:=f_ (h:=s_ (h:=e_ (AQ (m_ (h:=m_ (h:=k_ (h:=f_ (h:=f_ (h:=s_ (h:=e_ (w_ (m_ (h:=a_ (h:=e_ (A4 (?_))))))))))))))))))))));refine Am (r:= .v (.int .i64 e)) none (h4:=(by simp[Ai,Ac,Ab,Bj B6,IB,CN])) (h5:=(A9 _)) (h6:=⟨rfl,rfl,?_⟩);rw[BT,if_pos hc1];rfl
 have hc1:=bp hb1;refine AN (w_ (m_ (h:=a_ (h:=e_ (A4 (?_))))));refine Am (r:= .v (.int .i64 e)) none (h4:=(by simp[Ai,Ac,Ab,Bj B6,BL,WA,IB,CN])) (h5:=(A9 _)) (h6:=⟨rfl,rfl,?_⟩);rw[BT,if_neg hc1];rfl
theorem Rz(w:Wrk)(cap:Nat)(t:Tab)(e:Int):ACall prog 152 [.bp 0 0, .agg (Ax t), .v (.int .i64 e)] [WA w cap,IB w cap] (fun r b tk=>tk=[]∧r= .v (.int .i64 e)∧b=[WA (C5 w (t,e)).1 cap,IB (C5 w (t,e)).1 cap]):=by
 refine enter Tryz.func152 rfl rfl rfl rfl rfl 2 rfl ?_;refine w_ (b_ (h:=a_ (h:=e_ (q_ (w_ (m_ (h:=AR (h:=e_ (?_)))))))));refine A8 rfl (fun hb1=>?_) (fun hb1=>?_)
 ·have hc1:=bp hb1;refine AQ (m_ (h:=l_ (h:=k_ (h:=f_ (h:=f_ (h:=s_ (h:=e_ (w_ (m_ (h:=a_ (h:=e_ (A4 (?_)))))))))))));refine Am (r:= .v (.int .i64 e)) none (h4:=(by simp[Ai,Ac,Ab,Bj B6,IB,CN])) (h5:=(A9 _)) (h6:=⟨rfl,rfl,?_⟩);rw[C5,if_pos hc1];rfl
 have hc1:=bp hb1;refine AN (w_ (m_ (h:=a_ (h:=e_ (A4 (?_))))));refine Am (r:= .v (.int .i64 e)) none (h4:=(by simp[Ai,Ac,Ab,Bj B6,BL,WA,IB,CN])) (h5:=(A9 _)) (h6:=⟨rfl,rfl,?_⟩);rw[C5,if_neg hc1];rfl
end
section
variable {P:Program}{rs:List ResultVar}{n:Nat}{R:AV→List (List AV)→List Cj→Prop}{s:AS}{xs:List AV}{r:AV}
theorem BU(g:Option Nat){tk':List Cj}(h1:ResA P s rs xs:=by repeat (first|exact ResA.nil|(apply ResA.tmp;(focus exact rfl))|(apply ResA.cellN;(focus exact inferInstance);(focus exact rfl);(focus exact rfl);(focus exact rfl))|(apply ResA.cell1;(focus exact inferInstance);(focus exact rfl);(focus exact rfl);(focus exact rfl))))(h2:Jq s.h.tk g=some tk':=by rfl)(h3:Ab n 1 (De g (El xs))=true:=by rfl)(h4:Ai n 0 (s.h.bx.take n)=true:=by simp[Ai,Ac,Ab,Bj B6,BL,WA,IB,CN,Aq,Ak,AE,Ax,Ao,Ay])(h5:LeA (De g (El xs)) r)(h6:R r (s.h.bx.take n) tk'):Jr P rs n R .ret s:=Q0 g h1 h2 h3 h4 h5 h6
end
theorem Cc{f:Nat→Option AV}{bx:List (List AV)}{tk:List (Nat×Nat×List (List AV))}{l:List (Nat×AV)}{N:Dim}(n m:Nat){bx':List (List AV)}{tk':List (Nat×Nat×List (List AV))}(hn:Nat.ble N.ni n=true:=by rfl)(hb:bx.take n=bx':=by rfl)(ht:tk.take m=tk':=by rfl)(hbp:Ai n m bx'=true:=by simp[Ai,Ac,Ab,Bj B6,BL,WA,IB,CN,Aq,Ak,AE,Ax,Ao,Ay])(hl:Sub n m f l:=by repeat (first|exact Sub.nil|refine Sub.cons _ _ _ rfl rfl ?_|refine Sub.any _ _ ?_|refine Sub.sl _ _ _ _ _ rfl ?_|refine Sub.slnil _ _ _ rfl ?_)):Weak N ⟨f,⟨bx,tk⟩⟩ ⟨look l,⟨bx',tk'⟩⟩:=Az n m hn hb ht hbp hl
theorem Wf{α:Type}{l:List α}{i:Nat}{x:α}(h:l[i]?=some x)(f:α→α):l.modify i f=l.set i (f x):=by
 apply List.ext_getElem?;intro k;rw[List.getElem?_modify,List.getElem?_set];obtain⟨hl,rfl⟩:=As.1 h;by_cases e:i=k
 ·subst e;simp[hl]
 simp[e]
theorem j4(w:Wrk)(R:Cp):(BT w R).2=R.2.2:=by
 unfold BT;split
 ·rename_i h;exact h.symm
 rfl
theorem J6(w:Wrk)(R:Tab×Int):(C5 w R).2=R.2:=by
 unfold C5;split
 ·rename_i h;exact h.symm
 rfl
theorem Hm{w:Wrk}{R:Cp}(h:R.2.2=0):(BT w R).1={w with s:=⟨⟨R.1,w.s.spc.mounts⟩,w.s.tab⟩,r:={w.r with changes:=R.2.1}}:=by
 unfold BT;rw[if_pos h]
theorem Lv{w:Wrk}{R:Cp}(h:¬R.2.2=0):(BT w R).1=w:=by
 unfold BT;rw[if_neg h]
theorem Wg{f:AU}{dir:AA}{name:AD}{n:Nod}(h0:(DW f dir name n).2.2=0):∃c,(DW f dir name n).2.1=[c]:=by
 unfold DW at h0 ⊢;split at h0
 ·rename_i c;exact absurd h0 c
 rename_i c1;rw[if_neg c1];split at h0
 ·exact absurd h0 (by decide)
 rename_i c2;rw[if_neg c2];split at h0
 ·exact absurd h0 (by decide)
 rename_i c3;rw[if_neg c3]
 cases e:Ec f dir.1 with
 |none=>rw[e]at h0;simp at h0
 |some d=>
   rw[e]at h0;simp only at h0 ⊢;split at h0
   ·exact absurd h0 (by decide)
   rename_i c4;rw[if_neg c4];exact⟨_,rfl⟩
theorem j5{w:Wrk}{i:Nat}{n:Nod}(h:(CO w i n).2=0):∃c,(CO w i n).1.r.changes=[c]:=by
 unfold CO at h ⊢;split at h
 ·rename_i h0;obtain⟨c,hc⟩:=Wg h0;rw[if_pos h0,Hm h0];exact⟨c,hc⟩
 rename_i h0;exact absurd h h0
theorem j6(w:Wrk)(i:Nat)(n:Nod):(CO w i n).1.s.tab=w.s.tab∧(CO w i n).1.p=w.p∧(CO w i n).1.c=w.c:=by
 unfold CO;split
 ·rename_i h0;rw[Hm h0];exact⟨rfl,rfl,rfl⟩
 exact⟨rfl,rfl,rfl⟩
section
theorem S4(w:Wrk)(cap i:Nat)(a:AA)(x:Itm)(hs:FlsB w.s.spc.files)(hx:w.r.items[i]?=some x):ACall prog 155 [.bp 0 0, .v (.int .i64 (i:Int)), .agg (AE a)] [WA w cap,IB w cap] (fun r b t=>t=[]∧r= .tup []∧b=[WA (Gz w i a) cap,IB (Gz w i a) cap]):=by
 have hil:=(As.1 hx).1;have hst:∀y:Itm,(w.r.items.set i y)[i]?=some y:=fun y=>by rw[List.getElem?_set_self hil]
 have hfin:w.r.items.modify i (VY (Ah w.s.spc.files a) a)=w.r.items.set i {x with role:=2,file:=a,kind:=(Ah w.s.spc.files a).kind,mode:=(Ah w.s.spc.files a).mode,uid:=(Ah w.s.spc.files a).uid,gid:=(Ah w.s.spc.files a).gid}:=by rw[Wf hx];rfl
 refine enter Tryz.func155 rfl rfl rfl rfl rfl 2 rfl ?_;refine w_ (b_ (h:=e_ (?_)));refine BE (fun s=>s=⟨look [(0, .bp 0 0),(1, .v (.int .i64 (i:Int))),(5, .bp 2 0),(6, .bp 3 0)],⟨[WA w cap,IB w cap,AE a,Ak (Ah w.s.spc.files a)],[]⟩⟩) ?_ ?_
 ·skip
  refine BO ([(0,WA w cap),(1,IB w cap),(2,AE a)]) 14 (h:=AO 0 (h:=BC 1 (h:=AG 2 (h:=AG 3 (h:=AG 4 (h:=AM 5 (h:=AM 6 (h:=?_))))))));refine Co 7 11 rfl rfl ?_ ?_
  ·refine AK (ED w.s.spc.files a hs) ?_;rintro r rfl;refine o_ (h:=?_);refine AO 8 (h:=Au 9 (h:=Au 10 (h:=?_)));refine c_ 11 rfl (BQ (by repeat constructor) ?_);refine o_ (h:=?_);refine Aj 12 rfl (Af rfl rfl rfl rfl rfl rfl (by repeat constructor) (by repeat constructor) ?_);refine o_ (h:=BK 13 (h:=z_ (h:=?_)));refine AF ?_;exact⟨_,rfl,Cc 4 0⟩
  refine BQ (by repeat constructor) ?_;refine o_ (h:=?_);refine c_ 7 rfl (AK (ED w.s.spc.files a hs) ?_);rintro r rfl;refine o_ (h:=AO 8 (h:=Au 9 (h:=Au 10 (h:=?_))));refine Aj 12 rfl (Af rfl rfl rfl rfl rfl rfl (by repeat constructor) (by repeat constructor) ?_);refine o_ (h:=BK 13 (h:=z_ (h:=?_)));refine AF ?_;exact⟨_,rfl,Cc 4 0⟩
 rintro s rfl;refine w_ (m_ (h:=k_ (h:=f_ (h:=f_ (h:=l_ (h:=m_ (h:=?_)))))));refine A6 rfl (DZ (m:=i) rfl rfl rfl hil ?_);refine a_ (h:=e_ (BO ([(0,WA w cap),(2,AE a),(3,Ak (Ah w.s.spc.files a))]) 33 (h:=AO 0 (h:=AO 1 (h:=AO 2 (h:=AO 3 (h:=AO 4 (h:=AO 5 (h:=AM 6 (h:=AG 7 (h:=AM 8 (h:=AG 9 (h:=AM 10 (h:=AG 11 (h:=AM 12 (h:=AG 13 (h:=AM 14 (h:=BC 15 (h:=AG 16 (h:=?_))))))))))))))))))));refine Aj 17 rfl (Af rfl rfl rfl rfl rfl rfl (JZ B6 (x':={x with role:=2}) hx (by repeat constructor) (List.cons_ne_nil _ _)) (by repeat constructor) ?_);refine o_ (h:=BC 18 (h:=AG 19 (h:=?_)));refine Aj 20 rfl (Af rfl rfl rfl rfl rfl rfl (JZ B6 (x':={x with role:=2,file:=a}) (hst _) (by repeat constructor) (List.cons_ne_nil _ _)) (by repeat constructor) ?_);refine o_ (h:=BC 21 (h:=AG 22 (h:=?_)));refine Aj 23 rfl (Af rfl rfl rfl rfl rfl rfl (JZ B6 (x':={x with role:=2,file:=a,kind:=(Ah w.s.spc.files a).kind}) (by rw[List.set_set];exact hst _) (by repeat constructor) (List.cons_ne_nil _ _)) (by repeat constructor) ?_);refine o_ (h:=BC 24 (h:=AG 25 (h:=?_)));refine Aj 26 rfl (Af rfl rfl rfl rfl rfl rfl (JZ B6 (x':={x with role:=2,file:=a,kind:=(Ah w.s.spc.files a).kind,mode:=(Ah w.s.spc.files a).mode}) (by rw[List.set_set,List.set_set];exact hst _) (by repeat constructor) (List.cons_ne_nil _ _)) (by repeat constructor) ?_);refine o_ (h:=BC 27 (h:=AG 28 (h:=?_)));refine Aj 29 rfl (Af rfl rfl rfl rfl rfl rfl (JZ B6 (x':={x with role:=2,file:=a,kind:=(Ah w.s.spc.files a).kind,mode:=(Ah w.s.spc.files a).mode,uid:=(Ah w.s.spc.files a).uid}) (by rw[List.set_set,List.set_set,List.set_set];exact hst _) (by repeat constructor) (List.cons_ne_nil _ _)) (by repeat constructor) ?_);refine o_ (h:=BC 30 (h:=AG 31 (h:=?_)));refine Aj 32 rfl (Af rfl rfl rfl rfl rfl rfl (JZ B6 (x':={x with role:=2,file:=a,kind:=(Ah w.s.spc.files a).kind,mode:=(Ah w.s.spc.files a).mode,uid:=(Ah w.s.spc.files a).uid,gid:=(Ah w.s.spc.files a).gid}) (by rw[List.set_set,List.set_set,List.set_set,List.set_set];exact hst _) (by repeat constructor) (List.cons_ne_nil _ _)) (by repeat constructor) ?_);refine o_ (h:=z_ (h:=?_));refine OQ (r:= .tup []) none (h4:=(by simp[Ai,Ac,Ab,Bj B6,BL,WA,CN])) (h5:=(A9 _)) (h6:=⟨rfl,rfl,?_⟩);rw[List.set_set,List.set_set,List.set_set,List.set_set,List.set_set];unfold WA IB Gz;simp only[hfin,List.length_set];rfl
theorem S5(w:Wrk)(cap i:Nat)(n:Nod)(f:Fnd)(x:Itm)(hv:FlsV w.s.spc.files)(hf:w.found[i]?=some f)(hx:w.r.items[i]?=some x)(hn:f.name.size≤100000)(ht:n.target.size≤100000)(hne:n.entries=[]):ACall prog 150 [.bp 0 0, .v (.int .i64 (i:Int)), .agg (Ak n)] [WA w cap,IB w cap] (fun r b t=>t=[]∧r= .v (.int .i64 (CO w i n).2)∧b=[WA (CO w i n).1 cap,IB (CO w i n).1 cap]):=by
 have hrow:(w.found.map Aq)[i]?=some (Aq f):=by rw[List.getElem?_map,hf];rfl
 have hfn:B7 w i=f:=by unfold B7;rw[hf];rfl
 have hmk:EV w i n=DW w.s.spc.files f.dir f.name (NO w n):=by unfold EV;rw[hfn]
 have hok:=Ou hv f.dir f.name (NO w n);rw[←hmk]at hok;have hcall:AFn prog 45 [.agg (Ay w.s.spc.files), .agg (AE f.dir), .v (.string f.name), .agg (Ak (NO w n))] (fun r=>r=CV (EV w i n)):=by rw[hmk];exact bH _ _ _ _ hv hn ht
 refine enter Tryz.func150 rfl rfl rfl rfl rfl 2 rfl ?_;refine w_ (b_ (h:=a_ (h:=e_ (q_ (BO ([(0,WA w cap),(1,IB w cap)]) 14 (h:=AO 0 (h:=BC 1 (h:=AG 2 (h:=AG 3 (h:=AM 4 (h:=AO 5 (h:=BC 6 (h:=AG 7 (h:=AG 8 (h:=AM 9 (h:=AG 10 (h:=?_)))))))))))))))));refine Aj 11 rfl (Af rfl rfl rfl rfl rfl rfl (by repeat constructor) (by repeat constructor) ?_);refine o_ (h:=AG 12 (h:=?_));refine Aj 13 rfl (Af rfl rfl rfl rfl rfl rfl (by repeat constructor) (by repeat constructor) ?_);refine o_ (h:=z_ (h:=t_ (q_ (BO ([(0,WA w cap),(1,IB w cap),(2,Ak (NO w n))]) 28 (h:=AO 0 (h:=AO 1 (h:=BC 2 (h:=AG 3 (h:=AG 4 (h:=AG 5 (h:=AM 6 (h:=AO 7 (h:=BC 8 (h:=AG 9 (h:=AM 10 (h:=AO 11 (h:=EC 12 (h:=AG 13 (h:=AM 14 (h:=AO 15 (h:=BC 16 (h:=AG 17 (h:=AM 18 (h:=?_))))))))))))))))))))))));refine AO 19 (h:=EC 20 (h:=AG 21 (h:=AM 22 (h:=AM 23 (h:=?_)))));refine c_ 24 rfl (AK (hcall) ?_);rintro r rfl;refine o_ (h:=Au 25 (h:=Au 26 (h:=Au 27 (h:=?_))));refine c_ 28 rfl (Bf [0,1] rfl (.cons _ _ _ _ _ rfl (A9 _) (.cons _ _ _ _ _ rfl (A9 _) (.cons _ _ _ _ _ rfl (A9 _) (.cons _ _ _ _ _ rfl (A9 _) .nil)))) (by decide) (.cons _ _ _ _ _ rfl rfl (.cons _ _ _ _ _ rfl (Cr B6 _ _ _) .nil)) (Lu w cap (EV w i n).1 (EV w i n).2.1 (EV w i n).2.2) ?_);rintro r bc tc ⟨rfl,rfl,rfl⟩;refine⟨rfl,_,DH rfl (BT w (EV w i n)).1 cap,?_⟩;refine o_ (h:=?_);refine c_ 29 rfl (Fe rfl ?_);refine o_ (h:=z_ (h:=t_ (q_ (w_ (m_ (h:=AR (h:=e_ (?_))))))));refine A8 rfl (fun hb1=>?_) (fun hb1=>?_)
 ·have hc1:=bp hb1;have h0:(EV w i n).2.2=0:=hc1;obtain⟨c,hc⟩:∃c,(EV w i n).2.1=[c]:=by rw[hmk]at h0 ⊢;exact Wg h0
  have hch:(BT w (EV w i n)).1.r.changes=[c]:=by rw[Hm h0];exact hc
  have hx1:(BT w (EV w i n)).1.r.items[i]?=some x:=by rw[Hm h0];exact hx
  have hfb:FlsB (BT w (EV w i n)).1.s.spc.files:=by rw[Hm h0];exact(hok h0).1.b
  have hrow2:((BT w (EV w i n)).1.r.changes.map CY)[0]?=some (CY c):=by rw[hch];rfl
  refine AQ (m_ (h:=m_ (h:=m_ (h:=k_ (h:=f_ (h:=f_ (h:=l_ (h:=?_))))))));refine A6 rfl (Ci (n:=0) rfl rfl rfl hrow2 ?_);refine f_ (h:=l_ (h:=?_));refine A6 rfl (Bf [0,1] rfl (.cons _ _ _ _ _ rfl (A9 _) (.cons _ _ _ _ _ rfl (A9 _) (.cons _ _ _ _ _ rfl (A9 _) .nil))) (by decide) (.cons _ _ _ _ _ rfl rfl (.cons _ _ _ _ _ rfl (Cr B6 _ _ _) .nil)) (S4 (BT w (EV w i n)).1 cap i c.2.2.2 x hfb hx1) ?_);rintro r bc tc ⟨rfl,rfl,rfl⟩;refine⟨rfl,_,DH rfl (Gz (BT w (EV w i n)).1 i c.2.2.2) cap,?_⟩;refine e_ (w_ (m_ (h:=a_ (h:=e_ (A4 (?_))))));refine BU (r:= .v (.int .i64 (CO w i n).2)) none (h5:=(by rw[CO,if_pos h0];exact LeA.of_eq (vi h0))) (h6:=⟨rfl,rfl,?_⟩);rw[CO,if_pos h0,hc];rfl
 have hc1:=bp hb1;have h0:¬(EV w i n).2.2=0:=hc1;refine AN (w_ (m_ (h:=a_ (h:=e_ (A4 (?_))))));refine BU (r:= .v (.int .i64 (CO w i n).2)) none (h5:=(by rw[CO,if_neg h0];exact A9 _)) (h6:=⟨rfl,rfl,?_⟩);rw[CO,if_neg h0,Lv h0];rfl
theorem Wh(w:Wrk)(cap:Nat)(f:Fnd)(x:Itm)(hv:SpcV w.s.spc)(hm:w.s.spc.mounts.length≤1000)(htb:TabB w.s.tab)(hf:w.found[0]?=some f)(hx:w.r.items[0]?=some x)(hn:f.name.size≤100000):ACall prog 114 [.bp 0 0] [WA w cap,IB w cap] (fun r b t=>t=[]∧r= .v (.int .i64 (CB w).2)∧b=[WA (CB w).1 cap,IB (CB w).1 cap]):=by
 have hsb:=hv.b hm;have hrow:(w.found.map Aq)[0]?=some (Aq f):=by rw[List.getElem?_map,hf];rfl
 have hfn:B7 w 0=f:=by unfold B7;rw[hf];rfl
 refine enter Tryz.func114 rfl rfl rfl rfl rfl 2 rfl ?_;refine w_ (a_ (h:=e_ (q_ (BO ([(0,WA w cap),(1,IB w cap)]) 15 (h:=AO 0 (h:=BC 1 (h:=AG 2 (h:=AM 3 (h:=EC 4 (h:=AM 5 (h:=AO 6 (h:=BC 7 (h:=AG 8 (h:=AG 9 (h:=?_)))))))))))))));refine Bz 10 rfl (fun _ hS=>CR (len:=4) (sz:=1) (n:=0) (by kernel_rfl) rfl rfl rfl rfl ⟨rfl,rfl⟩) ?_;refine AM 11 (h:=?_);refine c_ 12 rfl (BQ (by repeat constructor) ?_);refine o_ (h:=?_);refine Aj 13 rfl (Af rfl rfl rfl rfl rfl rfl (by repeat constructor) (by repeat constructor) ?_);refine o_ (h:=BK 14 (h:=z_ (h:=t_ (?_))));refine BE (fun s=>∃(w2:Wrk) (F2:Fnd),CB w=Fj w2 F2.file∧TabB w2.s.tab∧s=⟨look [(0, .bp 0 0),(3, .bp 2 0),(4, .v (.int .i64 w2.c.a0))],⟨[WA w2 cap,IB w2 cap,Aq F2],[]⟩⟩) ?_ ?_
 ·skip
  refine w_ (f_ (h:=l_ (h:=e_ (?_))));refine A8 rfl (fun hb1=>?_) (fun hb1=>?_)
  ·have hc1:=bp hb1;have hex:(B7 w 0).ex=true:=by rw[hfn];exact hc1
   refine BE (fun s=>s=⟨look [(0, .bp 0 0),(3, .bp 2 0),(4, .v (.int .i64 w.c.a0)),(5, .bp 3 0)],⟨[WA w cap,IB w cap,Aq f,Ak (Ah w.s.spc.files f.file)],[]⟩⟩) ?_ ?_
   ·skip
    refine BO ([(0,WA w cap),(1,IB w cap),(2,Aq f)]) 15 (h:=AO 0 (h:=BC 1 (h:=AG 2 (h:=AG 3 (h:=AG 4 (h:=AM 5 (h:=AG 6 (h:=AM 7 (h:=?_)))))))));refine Co 8 12 rfl rfl ?_ ?_
    ·refine AK (ED w.s.spc.files f.file hsb.files) ?_;rintro r rfl;refine o_ (h:=?_);refine AO 9 (h:=Au 10 (h:=Au 11 (h:=?_)));refine c_ 12 rfl (BQ (by repeat constructor) ?_);refine o_ (h:=?_);refine Aj 13 rfl (Af rfl rfl rfl rfl rfl rfl (by repeat constructor) (by repeat constructor) ?_);refine o_ (h:=BK 14 (h:=z_ (h:=?_)));refine AF ?_;exact⟨_,rfl,Cc 4 0⟩
    refine BQ (by repeat constructor) ?_;refine o_ (h:=?_);refine c_ 8 rfl (AK (ED w.s.spc.files f.file hsb.files) ?_);rintro r rfl;refine o_ (h:=AO 9 (h:=Au 10 (h:=Au 11 (h:=?_))));refine Aj 13 rfl (Af rfl rfl rfl rfl rfl rfl (by repeat constructor) (by repeat constructor) ?_);refine o_ (h:=BK 14 (h:=z_ (h:=?_)));refine AF ?_;exact⟨_,rfl,Cc 4 0⟩
   rintro s rfl;refine w_ (a_ (h:=e_ (?_)));refine BE (fun s=>s=⟨look [(0, .bp 0 0),(3, .bp 2 0),(4, .v (.int .i64 w.c.a0)),(5, .bp 3 0),(7, .v (.int .i64 (if C9 w.c.a0 1=true then 4 else 0)))],⟨[WA w cap,IB w cap,Aq f,Ak (Ah w.s.spc.files f.file)],[]⟩⟩) ?_ ?_
   ·skip
    refine w_ (m_ (h:=Em (h:=BV (h:=e_ (?_)))));refine A8 rfl (fun hb2=>?_) (fun hb2=>?_)
    ·have hc2:=bp hb2;have k0:C9 w.c.a0 1=true:=by simpa[C9]using hc2
     refine AQ (m_ (h:=BH (h:=a_ (h:=AP (?_)))));refine AF ?_;refine⟨_,rfl,?_⟩
     (rw[if_pos k0];exact Cc 4 0)
    have hc2:=bp hb2;have k0:¬C9 w.c.a0 1=true:=by simpa[C9]using hc2
    refine BM (?_);refine AF ?_;refine⟨_,rfl,?_⟩
    first|(rw[if_pos k0];exact Cc 4 0)|(rw[if_neg k0];exact Cc 4 0)
   rintro s rfl;refine BE (fun s=>s=⟨look [(0, .bp 0 0),(3, .bp 2 0),(4, .v (.int .i64 w.c.a0)),(5, .bp 3 0),(7, .v (.int .i64 (JY w.c.a0)))],⟨[WA w cap,IB w cap,Aq f,Ak (Ah w.s.spc.files f.file)],[]⟩⟩) ?_ ?_
   ·skip
    refine w_ (m_ (h:=Em (h:=BV (h:=e_ (?_)))));refine A8 rfl (fun hb3=>?_) (fun hb3=>?_)
    ·have hc3:=bp hb3;have k00:C9 w.c.a0 18=true:=by simpa[C9]using hc3
     refine AQ (m_ (h:=BH (h:=a_ (h:=AP (?_)))));refine AF ?_;refine⟨_,rfl,?_⟩;unfold JY
     (rw[if_pos k00];exact Cc 4 0)
    have hc3:=bp hb3;have k00:¬C9 w.c.a0 18=true:=by simpa[C9]using hc3
    refine BM (?_);refine AF ?_;refine⟨_,rfl,?_⟩;unfold JY
    first|(rw[if_pos k00];exact Cc 4 0)|(rw[if_neg k00,Int.add_zero];exact Cc 4 0)
   rintro s rfl;refine Av (?_);refine BE (fun s=>s=⟨look [(0, .bp 0 0),(3, .bp 2 0),(4, .v (.int .i64 w.c.a0)),(5, .bp 3 0),(7, .v (.int .i64 (JY w.c.a0))),(48, .v (.bool (C9 w.c.a0 4&&C9 w.c.a0 8)))],⟨[WA w cap,IB w cap,Aq f,Ak (Ah w.s.spc.files f.file)],[]⟩⟩) ?_ ?_
   ·skip
    refine AQ (m_ (h:=Em (h:=BV (h:=m_ (h:=?_)))));refine B5 true rfl rfl (fun hb4=>?_) (fun hb4=>?_)
    ·have hc4:=bp hb4;refine m_ (h:=Em (h:=BV (h:=Ag (h:=a_ (h:=AP (?_))))));refine AF ?_;exact⟨_,rfl,Az 4 0 rfl rfl rfl (by simp[Ai,Ac,Ab,Bj B6,BL,WA,IB,CN,Aq,Ak]) (by repeat (first|exact Sub.nil|refine B0 rfl rfl ?_|refine B2 ?_|refine B3 rfl ?_|refine B4 rfl ?_|(apply Sub.of;(focus exact rfl);(focus exact LeA.of_eq (vb (by simp[C9, *])));(focus exact rfl))))⟩
    have hc4:=bp hb4;refine A3 (h:=A3 (h:=A3 (h:=Ar (h:=a_ (h:=AP (?_))))));refine AF ?_;exact⟨_,rfl,Az 4 0 rfl rfl rfl (by simp[Ai,Ac,Ab,Bj B6,BL,WA,IB,CN,Aq,Ak]) (by repeat (first|exact Sub.nil|refine B0 rfl rfl ?_|refine B2 ?_|refine B3 rfl ?_|refine B4 rfl ?_|(apply Sub.of;(focus exact rfl);(focus exact LeA.of_eq (vb (by simp[C9, *])));(focus exact rfl))))⟩
   rintro s rfl;refine A8 rfl (fun hb5=>?_) (fun hb5=>?_)
   ·have hc5:=bp hb5;have k1:C9 w.c.a0 4=true∧C9 w.c.a0 8=true:=by simpa using hc5
    refine w_ (a_ (h:=e_ (A4 (AY (A7 (?_))))));refine BU (r:= .v (.int .i64 (CB w).2)) none (h5:=(by rw[CB,if_pos hex,if_pos k1];exact A9 _)) (h6:=⟨rfl,rfl,?_⟩);rw[CB,if_pos hex,if_pos k1];rfl
   have hc5:=bp hb5;have k1:¬(C9 w.c.a0 4=true∧C9 w.c.a0 8=true):=by simpa using hc5
   refine w_ (f_ (h:=l_ (h:=AR (h:=a_ (h:=e_ (?_))))));refine A8 rfl (fun hb6=>?_) (fun hb6=>?_)
   ·have hc6:=bp hb6;have k2:(Ah w.s.spc.files (B7 w 0).file).kind=3:=by rw[hfn];exact hc6
    refine w_ (a_ (h:=e_ (A4 (AY (A7 (?_))))));refine BU (r:= .v (.int .i64 (CB w).2)) none (h5:=(by rw[CB,if_pos hex,if_neg k1,if_pos k2];exact A9 _)) (h6:=⟨rfl,rfl,?_⟩);rw[CB,if_pos hex,if_neg k1,if_pos k2];rfl
   have hc6:=bp hb6;have k2:¬(Ah w.s.spc.files (B7 w 0).file).kind=3:=by rw[hfn];exact hc6
   refine BE (fun s=>s=⟨look [(0, .bp 0 0),(3, .bp 2 0),(4, .v (.int .i64 w.c.a0)),(5, .bp 3 0),(7, .v (.int .i64 (JY w.c.a0))),(61, .v (.bool (decide ((Ah w.s.spc.files f.file).kind=2)&&C9 w.c.a0 22)))],⟨[WA w cap,IB w cap,Aq f,Ak (Ah w.s.spc.files f.file)],[]⟩⟩) ?_ ?_
   ·skip
    refine AQ (f_ (h:=l_ (h:=AR (h:=m_ (h:=?_)))));refine B5 true rfl rfl (fun hb7=>?_) (fun hb7=>?_)
    ·have hc7:=bp hb7;refine m_ (h:=Em (h:=BV (h:=Ag (h:=a_ (h:=AP (?_))))));refine AF ?_;exact⟨_,rfl,Az 4 0 rfl rfl rfl (by simp[Ai,Ac,Ab,Bj B6,BL,WA,IB,CN,Aq,Ak]) (by repeat (first|exact Sub.nil|refine B0 rfl rfl ?_|refine B2 ?_|refine B3 rfl ?_|refine B4 rfl ?_|(apply Sub.of;(focus exact rfl);(focus exact LeA.of_eq (vb (by simp[C9, *])));(focus exact rfl))))⟩
    have hc7:=bp hb7;refine A3 (h:=A3 (h:=A3 (h:=Ar (h:=a_ (h:=AP (?_))))));refine AF ?_;exact⟨_,rfl,Az 4 0 rfl rfl rfl (by simp[Ai,Ac,Ab,Bj B6,BL,WA,IB,CN,Aq,Ak]) (by repeat (first|exact Sub.nil|refine B0 rfl rfl ?_|refine B2 ?_|refine B3 rfl ?_|refine B4 rfl ?_|(apply Sub.of;(focus exact rfl);(focus exact LeA.of_eq (vb (by simp[C9, *])));(focus exact rfl))))⟩
   rintro s rfl;refine A8 rfl (fun hb8=>?_) (fun hb8=>?_)
   ·have hc8:=bp hb8;have k3:(Ah w.s.spc.files (B7 w 0).file).kind=2∧C9 w.c.a0 22=true:=by rw[hfn];simpa using hc8
    refine w_ (a_ (h:=e_ (A4 (AY (A7 (?_))))));refine BU (r:= .v (.int .i64 (CB w).2)) none (h5:=(by rw[CB,if_pos hex,if_neg k1,if_neg k2,if_pos k3];exact A9 _)) (h6:=⟨rfl,rfl,?_⟩);rw[CB,if_pos hex,if_neg k1,if_neg k2,if_pos k3];rfl
   have hc8:=bp hb8;have k3:¬((Ah w.s.spc.files (B7 w 0).file).kind=2∧C9 w.c.a0 22=true):=by rw[hfn];simpa using hc8
   refine w_ (m_ (h:=f_ (h:=l_ (h:=m_ (h:=?_)))));refine A6 rfl (Cn 1 rfl (.cons _ _ _ _ _ rfl (LeA.of_eq rfl) (.cons _ _ _ _ _ rfl (A9 _) (.cons _ _ _ _ _ rfl (A9 _) .nil))) (Hl w .any f.file (JY w.c.a0) hsb) ?_);rintro r rfl;refine⟨rfl,?_⟩;refine BG (h:=a_ (h:=e_ (?_)));refine A8 rfl (fun hb9=>?_) (fun hb9=>?_)
   ·have hc9:=bp hb9;have k4:CA w (B7 w 0).file (JY w.c.a0)=false:=by rw[hfn];simpa using hc9
    refine w_ (a_ (h:=e_ (A4 (AY (A7 (?_))))));refine BU (r:= .v (.int .i64 (CB w).2)) none (h5:=(by rw[CB,if_pos hex,if_neg k1,if_neg k2,if_neg k3,if_pos k4];exact A9 _)) (h6:=⟨rfl,rfl,?_⟩);rw[CB,if_pos hex,if_neg k1,if_neg k2,if_neg k3,if_pos k4];rfl
   have hc9:=bp hb9;have k4:¬CA w (B7 w 0).file (JY w.c.a0)=false:=by rw[hfn];simpa using hc9
   refine BM (B8 (?_));refine AF ?_;exact⟨_,⟨w,f,(by rw[CB,if_pos hex,if_neg k1,if_neg k2,if_neg k3,if_neg k4,hfn]),htb,rfl⟩,Cc 3 0⟩
  have hc1:=bp hb1;have hex:¬(B7 w 0).ex=true:=by rw[hfn];simpa using hc1
  refine q_ (Av (w_ (m_ (h:=Em (h:=AR (h:=a_ (h:=e_ (?_))))))));refine A8 rfl (fun hb10=>?_) (fun hb10=>?_)
  ·have hc10:=bp hb10;have k1:C9 w.c.a0 4=false:=by simp only[C9];simpa using hc10
   refine w_ (a_ (h:=e_ (A4 (AY (A7 (A7 (?_)))))));refine BU (r:= .v (.int .i64 (CB w).2)) none (h5:=(by rw[CB,if_neg hex,if_pos k1];exact A9 _)) (h6:=⟨rfl,rfl,?_⟩);rw[CB,if_neg hex,if_pos k1];rfl
  have hc10:=bp hb10;have k1:¬C9 w.c.a0 4=false:=by simp only[C9];simpa using hc10
  refine w_ (f_ (h:=l_ (h:=a_ (h:=e_ (?_)))));refine A8 rfl (fun hb11=>?_) (fun hb11=>?_)
  ·have hc11:=bp hb11;have k2:(B7 w 0).slash=true:=by rw[hfn];exact hc11
   refine w_ (a_ (h:=e_ (A4 (AY (A7 (A7 (?_)))))));refine BU (r:= .v (.int .i64 (CB w).2)) none (h5:=(by rw[CB,if_neg hex,if_neg k1,if_pos k2];exact A9 _)) (h6:=⟨rfl,rfl,?_⟩);rw[CB,if_neg hex,if_neg k1,if_pos k2];rfl
  have hc11:=bp hb11;have k2:¬(B7 w 0).slash=true:=by rw[hfn];simpa using hc11
  refine w_ (m_ (h:=f_ (h:=l_ (h:=?_))));refine A6 rfl (Cn 1 rfl (.cons _ _ _ _ _ rfl (LeA.of_eq rfl) (.cons _ _ _ _ _ rfl (A9 _) (.cons _ _ _ _ _ rfl (A9 _) .nil))) (Hl w .any f.dir 2 hsb) ?_);rintro r rfl;refine⟨rfl,?_⟩;refine BG (h:=a_ (h:=e_ (?_)));refine A8 rfl (fun hb12=>?_) (fun hb12=>?_)
  ·have hc12:=bp hb12;have k3:CA w (B7 w 0).dir 2=false:=by rw[hfn];simpa using hc12
   refine w_ (a_ (h:=e_ (A4 (AY (A7 (A7 (?_)))))));refine BU (r:= .v (.int .i64 (CB w).2)) none (h5:=(by rw[CB,if_neg hex,if_neg k1,if_neg k2,if_pos k3];exact A9 _)) (h6:=⟨rfl,rfl,?_⟩);rw[CB,if_neg hex,if_neg k1,if_neg k2,if_pos k3];rfl
  have hc12:=bp hb12;have k3:¬CA w (B7 w 0).dir 2=false:=by rw[hfn];simpa using hc12
  refine BM (B8 (t_ (q_ (w_ (m_ (h:=m_ (h:=k_ (h:=f_ (h:=f_ (h:=?_))))))))));refine A6 rfl (CR (len:=4) (sz:=1) (n:=1) (by kernel_rfl) rfl rfl rfl rfl ?_);refine l_ (h:=?_);refine A6 rfl (Ex (y:= .agg (Ak (H0 w.c.a1))) (DD ⟨rfl,rfl⟩) ?_);refine A6 rfl (Bf [0,1] rfl (.cons _ _ _ _ _ rfl (A9 _) (.cons _ _ _ _ _ rfl (A9 _) (.cons _ _ _ _ _ rfl (A9 _) .nil))) (by decide) (.cons _ _ _ _ _ rfl rfl (.cons _ _ _ _ _ rfl (Cr B6 _ _ _) .nil)) (S5 w cap 0 (H0 w.c.a1) f x hv.files hf hx hn (BJ _) rfl) ?_);rintro r bc tc ⟨rfl,rfl,rfl⟩;refine⟨rfl,_,DH rfl (CO w 0 (H0 w.c.a1)).1 cap,?_⟩;refine a_ (h:=e_ (w_ (m_ (h:=BV (h:=e_ (?_))))));refine A8 rfl (fun hb13=>?_) (fun hb13=>?_)
  ·have hc13:=bp hb13;have k4:(CO w 0 (H0 w.c.a1)).2≠0:=by simpa using hc13
   refine w_ (m_ (h:=a_ (h:=e_ (A4 (A7 (A7 (?_)))))));refine BU (r:= .v (.int .i64 (CB w).2)) none (h5:=(by rw[CB,if_neg hex,if_neg k1,if_neg k2,if_neg k3,if_pos k4];exact A9 _)) (h6:=⟨rfl,rfl,?_⟩);rw[CB,if_neg hex,if_neg k1,if_neg k2,if_neg k3,if_pos k4];rfl
  have hc13:=bp hb13;have k4:(CO w 0 (H0 w.c.a1)).2=0:=by simpa using hc13
  obtain⟨c,hc⟩:=j5 k4;have hrow2:((CO w 0 (H0 w.c.a1)).1.r.changes.map CY)[0]?=some (CY c):=by rw[hc];rfl
  refine AN (AQ (m_ (h:=k_ (h:=f_ (h:=f_ (h:=l_ (h:=?_)))))));refine A6 rfl (Ci (n:=0) rfl rfl rfl hrow2 ?_);refine f_ (h:=l_ (h:=f_ (h:=s_ (h:=AP (?_)))));refine AF ?_
  first|exact⟨_,⟨w,f,(by rw[CB,if_pos hex,if_neg k1,if_neg k2,if_neg k3,if_neg k4,hfn]),htb,rfl⟩,Cc 3 0⟩|(obtain⟨q1,q2,q3⟩:=j6 w 0 (H0 w.c.a1);exact⟨_,⟨(CO w 0 (H0 w.c.a1)).1,{f with file:=c.2.2.2},(by rw[CB,if_neg hex,if_neg k1,if_neg k2,if_neg k3,if_neg (by simp[k4]),hc];rfl),by rw[q1];exact htb,rfl⟩,by rw[q3];exact Cc 3 0⟩)
 rintro s ⟨w2,F2,hop,htb2,rfl⟩;refine BE (fun s=>s=⟨look [(0, .bp 0 0),(9, .bp 3 0),(10, .v (.int .i64 (Et w2.s.tab w2.p.pid F2.file w2.c.a0).2.1)),(11, .v (.int .i64 (Et w2.s.tab w2.p.pid F2.file w2.c.a0).2.2))],⟨[WA w2 cap,IB w2 cap,Aq F2,Ax (Et w2.s.tab w2.p.pid F2.file w2.c.a0).1],[]⟩⟩) ?_ ?_
 ·skip
  refine BO ([(0,WA w2 cap),(1,IB w2 cap),(2,Aq F2)]) 22 (h:=AO 0 (h:=BC 1 (h:=AG 2 (h:=AG 3 (h:=AM 4 (h:=AO 5 (h:=BC 6 (h:=AG 7 (h:=AG 8 (h:=AM 9 (h:=AG 10 (h:=AM 11 (h:=AO 12 (h:=?_))))))))))))));refine Co 13 18 rfl rfl ?_ ?_
  ·refine AK (WZ w2.s.tab w2.p.pid F2.file w2.c.a0 htb2) ?_;rintro r rfl;refine o_ (h:=?_);refine AO 14 (h:=Au 15 (h:=Au 16 (h:=Au 17 (h:=?_))));refine c_ 18 rfl (BQ (by repeat constructor) ?_);refine o_ (h:=?_);refine Aj 19 rfl (Af rfl rfl rfl rfl rfl rfl (by repeat constructor) (by repeat constructor) ?_);refine o_ (h:=BK 20 (h:=BK 21 (h:=z_ (h:=?_))));refine AF ?_;exact⟨_,rfl,Cc 4 0⟩
  refine BQ (by repeat constructor) ?_;refine o_ (h:=?_);refine c_ 13 rfl (AK (WZ w2.s.tab w2.p.pid F2.file w2.c.a0 htb2) ?_);rintro r rfl;refine o_ (h:=AO 14 (h:=Au 15 (h:=Au 16 (h:=Au 17 (h:=?_)))));refine Aj 19 rfl (Af rfl rfl rfl rfl rfl rfl (by repeat constructor) (by repeat constructor) ?_);refine o_ (h:=BK 20 (h:=BK 21 (h:=z_ (h:=?_))));refine AF ?_;exact⟨_,rfl,Cc 4 0⟩
 rintro s rfl;refine w_ (m_ (h:=m_ (h:=k_ (h:=f_ (h:=f_ (h:=s_ (h:=e_ (w_ (m_ (h:=l_ (h:=m_ (h:=?_))))))))))));refine A6 rfl (Bf [0,1] rfl (.cons _ _ _ _ _ rfl (A9 _) (.cons _ _ _ _ _ rfl (A9 _) (.cons _ _ _ _ _ rfl (A9 _) .nil))) (by decide) (.cons _ _ _ _ _ rfl rfl (.cons _ _ _ _ _ rfl (Cr B6 _ _ _) .nil)) (Rz (NP w2 (Et w2.s.tab w2.p.pid F2.file w2.c.a0).2.1) cap (Et w2.s.tab w2.p.pid F2.file w2.c.a0).1 (Et w2.s.tab w2.p.pid F2.file w2.c.a0).2.2) ?_);rintro r bc tc ⟨rfl,rfl,rfl⟩;refine⟨rfl,_,DH rfl (Fj w2 F2.file).1 cap,?_⟩;refine a_ (h:=e_ (A4 (?_)));refine BU (r:= .v (.int .i64 (CB w).2)) none (h5:=(by rw[hop,Fj,J6];exact A9 _)) (h6:=⟨rfl,rfl,?_⟩);rw[hop];rfl
end
theorem Wi{e:Int}{y x:AA}{c d:Bool}:(decide (e=0)&& !decide ((y.1,y.2)=(x.1,x.2))&&c&&d)=true↔(e=0∧y≠x∧c=true∧d=true):=by
 have:decide ((y.1,y.2)=(x.1,x.2))=decide (y=x):=rfl;rw[this];simp[and_assoc]
theorem Wj{w:Wrk}{R:Cp}{x:AA}(h:(decide (R.2.2=0)&&decide (0<(R.2.1.length:Int)))=true):G7 w R x=(Gz (G6 (BT w R).1 0 3) 1 x,R.2.2):=by
 rw[Bool.and_eq_true]at h;have h1:=of_decide_eq_true h.1;unfold G7;rw[if_neg (by simp[h1]),if_pos (of_decide_eq_true h.2),h1]
theorem Wl{w:Wrk}{R:Cp}{x:AA}(h:(decide (R.2.2=0)&&decide (0<(R.2.1.length:Int)))=false):G7 w R x=((BT w R).1,R.2.2):=by
 unfold G7;by_cases h0:R.2.2=0
 ·rw[if_neg (by simp[h0]),if_neg (by simpa[h0]using h),h0]
 rw[if_pos h0,Lv h0]
theorem Wm(w:Wrk)(i:Nat)(r:Int)(cap:Nat):WA (G6 w i r) cap=WA w cap:=by
 unfold WA G6;simp only[List.length_modify];rfl
theorem Wn{w:Wrk}{i:Nat}{x:Itm}(hx:w.r.items[i]?=some x)(r:Int)(cap:Nat):IB (G6 w i r) cap=LB 13 CL (w.r.items.set i {x with role:=r}) cap:=by
 unfold IB G6;rw[Wf hx]
section
theorem Wo(w:Wrk)(cap:Nat)(f g:Fnd)(x0 x1:Itm)(hv:SpcV w.s.spc)(hm:w.s.spc.mounts.length≤1000)(hps:w.s.tab.ps.length≤1000)(hf:w.found[0]?=some f)(hg:w.found[1]?=some g)(hx0:w.r.items[0]?=some x0)(hx1:w.r.items[1]?=some x1)(hn:f.name.size≤100000)(hn2:g.name.size≤100000):ACall prog 117 [.bp 0 0] [WA w cap,IB w cap] (fun r b t=>t=[]∧r= .v (.int .i64 (Dl w).2)∧b=[WA (Dl w).1 cap,IB (Dl w).1 cap]):=by
 have hsb:=hv.b hm;have hrow0:(w.found.map Aq)[0]?=some (Aq f):=by rw[List.getElem?_map,hf];rfl
 have hrow1:(w.found.map Aq)[1]?=some (Aq g):=by rw[List.getElem?_map,hg];rfl
 have hfn:B7 w 0=f:=by unfold B7;rw[hf];rfl
 have hgn:B7 w 1=g:=by unfold B7;rw[hg];rfl
 have hil:0<w.r.items.length:=(As.1 hx0).1;obtain⟨R,hR⟩:∃R,R=Dg w.s.spc.files f.dir f.name g.dir g.name:=⟨_,rfl⟩;have hok:=Ov hv.files f.dir f.name g.dir g.name;rw[←hR]at hok;have hcall:AFn prog 39 [.agg (Ay w.s.spc.files), .agg (AE f.dir), .v (.string f.name), .agg (AE g.dir), .v (.string g.name)] (fun r=>r=CV R):=by rw[hR];exact bW _ _ _ _ _ hv.files hn hn2
 obtain⟨x,hxd⟩:∃x,x=(AB w.s.spc.files f.dir f.name).1:=⟨_,rfl⟩;obtain⟨y,hyd⟩:∃y,y=(AB w.s.spc.files g.dir g.name).1:=⟨_,rfl⟩;have hl1:AFn prog 38 [.agg (Ay w.s.spc.files), .agg (AE f.dir), .v (.string f.name)] (fun r=>r= .tup [.agg (AE x), .v (.int .i64 (AB w.s.spc.files f.dir f.name).2)]):=by rw[hxd];exact Gm _ _ _ hsb.files
 have hl2:AFn prog 38 [.agg (Ay w.s.spc.files), .agg (AE g.dir), .v (.string g.name)] (fun r=>r= .tup [.agg (AE y), .v (.int .i64 (AB w.s.spc.files g.dir g.name).2)]):=by rw[hyd];exact Gm _ _ _ hsb.files
 obtain⟨e2,he2⟩:∃e,e=(AB w.s.spc.files g.dir g.name).2:=⟨_,rfl⟩;rw[←he2]at hl2
 have hren:Dl w=if f.ex=false then(w,2)else if f.name=⟨#[]⟩∨g.name=⟨#[]⟩then(w,16)else if g.slash=true∧AT w.s.spc.files f.file=false then(w,20)else if f.dir.1≠g.dir.1 then(w,18)else if CA w f.dir 2=false∨CA w g.dir 2=false then(w,13)else if e2=0∧y≠x∧AT w.s.spc.files y=true∧G5 w y=true then(w,16)else G7 w R x:=by
  unfold Dl Gy;rw[hfn,hgn,←hxd,←hyd,←he2,←hR]
 clear hxd hyd he2 hR;refine enter Tryz.func117 rfl rfl rfl rfl rfl 2 rfl ?_;refine w_ (a_ (h:=e_ (?_)));refine BE (fun s=>s=⟨look [(0, .bp 0 0),(3, .bp 2 0),(4, .bp 3 0)],⟨[WA w cap,IB w cap,Aq f,Aq g],[]⟩⟩) ?_ ?_
 ·skip
  refine BO ([(0,WA w cap)]) 16 (h:=AO 0 (h:=BC 1 (h:=AG 2 (h:=AM 3 (h:=?_)))));refine Bz 4 rfl (fun _ hS=>Ci (n:=0) rfl rfl rfl hrow0 ⟨rfl,rfl⟩) ?_;refine AM 5 (h:=AO 6 (h:=BC 7 (h:=AG 8 (h:=AM 9 (h:=?_)))));refine Bz 10 rfl (fun _ hS=>Ci (n:=1) rfl rfl rfl hrow1 ⟨rfl,rfl⟩) ?_;refine AM 11 (h:=?_);refine Co 12 13 rfl rfl ?_ ?_
  ·refine BQ (by repeat constructor) ?_;refine o_ (h:=?_);refine c_ 13 rfl (BQ (by repeat constructor) ?_);refine o_ (h:=?_);refine Aj 14 rfl (Af rfl rfl rfl rfl rfl rfl (by repeat constructor) (by repeat constructor) ?_);refine o_ (h:=?_);refine Aj 15 rfl (Af rfl rfl rfl rfl rfl rfl (by repeat constructor) (by repeat constructor) ?_);refine o_ (h:=z_ (h:=?_));refine AF ?_;exact⟨_,rfl,Cc 4 0⟩
  refine BQ (by repeat constructor) ?_;refine o_ (h:=?_);refine c_ 12 rfl (BQ (by repeat constructor) ?_);refine o_ (h:=?_);refine Aj 14 rfl (Af rfl rfl rfl rfl rfl rfl (by repeat constructor) (by repeat constructor) ?_);refine o_ (h:=?_);refine Aj 15 rfl (Af rfl rfl rfl rfl rfl rfl (by repeat constructor) (by repeat constructor) ?_);refine o_ (h:=z_ (h:=?_));refine AF ?_
  first|exact⟨_,rfl,Cc 4 0⟩|exact⟨_,rfl,EB [0,1,3,2] Om (by decide) (.cons _ _ _ _ _ rfl rfl (.cons _ _ _ _ _ rfl (H7 B6 _ _ _) (.cons _ _ _ _ _ rfl rfl (.cons _ _ _ _ _ rfl rfl .nil)))) (by repeat (first|exact SubK.nil|refine SubK.cons _ _ _ _ rfl (A9 _) ?_))⟩
 rintro s rfl;refine q_ (Av (w_ (f_ (h:=l_ (h:=BG (h:=a_ (h:=e_ (?_))))))));refine A8 rfl (fun hb1=>?_) (fun hb1=>?_)
 ·have hc1:=bp hb1;have k1:f.ex=false:=by simpa using hc1
  refine w_ (a_ (h:=e_ (A4 (AY (A7 (?_))))));refine BU (r:= .v (.int .i64 (Dl w).2)) none (h5:=(by rw[hren,if_pos k1];exact A9 _)) (h6:=⟨rfl,rfl,?_⟩);rw[hren,if_pos k1];rfl
 have hc1:=bp hb1;have k1:¬f.ex=false:=by simpa using hc1
 refine BE (fun s=>s=⟨look [(0, .bp 0 0),(3, .bp 2 0),(4, .bp 3 0),(26, .v (.bool (decide (f.name=⟨#[]⟩)||decide (g.name=⟨#[]⟩))))],⟨[WA w cap,IB w cap,Aq f,Aq g],[]⟩⟩) ?_ ?_
 ·skip
  refine AQ (f_ (h:=l_ (h:=AR (h:=m_ (h:=?_)))));refine B5 false rfl rfl (fun hb2=>?_) (fun hb2=>?_)
  ·have hc2:=bp hb2;refine A3 (h:=A3 (h:=A3 (h:=Ag (h:=a_ (h:=AP (?_))))));refine AF ?_;exact⟨_,rfl,CM 4 0 (by simp[Ai,Ac,Ab,Bj B6,BL,WA,IB,CN,Aq])⟩
  have hc2:=bp hb2;refine f_ (h:=l_ (h:=AR (h:=Ar (h:=a_ (h:=AP (?_))))));refine AF ?_;exact⟨_,rfl,CM 4 0 (by simp[Ai,Ac,Ab,Bj B6,BL,WA,IB,CN,Aq])⟩
 rintro s rfl;refine A8 rfl (fun hb3=>?_) (fun hb3=>?_)
 ·have hc3:=bp hb3;have k2:f.name=⟨#[]⟩∨g.name=⟨#[]⟩:=by simpa using hc3
  refine w_ (a_ (h:=e_ (A4 (AY (A7 (?_))))));refine BU (r:= .v (.int .i64 (Dl w).2)) none (h5:=(by rw[hren,if_neg k1,if_pos k2];exact A9 _)) (h6:=⟨rfl,rfl,?_⟩);rw[hren,if_neg k1,if_pos k2];rfl
 have hc3:=bp hb3;have k2:¬(f.name=⟨#[]⟩∨g.name=⟨#[]⟩):=by simpa using hc3
 refine BE (fun s=>s=⟨look [(0, .bp 0 0),(3, .bp 2 0),(4, .bp 3 0),(35, .v (.bool (g.slash&& !AT w.s.spc.files f.file)))],⟨[WA w cap,IB w cap,Aq f,Aq g],[]⟩⟩) ?_ ?_
 ·skip
  refine AQ (f_ (h:=l_ (h:=m_ (h:=?_))));refine B5 true rfl rfl (fun hb4=>?_) (fun hb4=>?_)
  ·have hc4:=bp hb4;refine m_ (h:=?_);refine BB (Cn 1 rfl (.cons _ _ _ _ _ rfl (LeA.of_eq rfl) (.cons _ _ _ _ _ rfl (A9 _) .nil)) (KE w .any 0 f hsb hf) ?_);rintro r rfl;refine⟨rfl,?_⟩;refine BG (h:=Ag (h:=a_ (h:=AP (?_))));refine AF ?_;exact⟨_,rfl,CM 4 0 (by simp[Ai,Ac,Ab,Bj B6,BL,WA,IB,CN,Aq])⟩
  have hc4:=bp hb4;refine A3 (h:=A3 (h:=A3 (h:=Ar (h:=a_ (h:=AP (?_))))));refine AF ?_;exact⟨_,rfl,CM 4 0 (by simp[Ai,Ac,Ab,Bj B6,BL,WA,IB,CN,Aq])⟩
 rintro s rfl;refine A8 rfl (fun hb5=>?_) (fun hb5=>?_)
 ·have hc5:=bp hb5;have k3:g.slash=true∧AT w.s.spc.files f.file=false:=by simpa using hc5
  refine w_ (a_ (h:=e_ (A4 (AY (A7 (?_))))));refine BU (r:= .v (.int .i64 (Dl w).2)) none (h5:=(by rw[hren,if_neg k1,if_neg k2,if_pos k3];exact A9 _)) (h6:=⟨rfl,rfl,?_⟩);rw[hren,if_neg k1,if_neg k2,if_pos k3];rfl
 have hc5:=bp hb5;have k3:¬(g.slash=true∧AT w.s.spc.files f.file=false):=by simpa using hc5
 refine w_ (f_ (h:=f_ (h:=l_ (h:=f_ (h:=f_ (h:=l_ (h:=BV (h:=a_ (h:=e_ (?_))))))))));refine A8 rfl (fun hb6=>?_) (fun hb6=>?_)
 ·have hc6:=bp hb6;have k4:f.dir.1≠g.dir.1:=by simpa using hc6
  refine w_ (a_ (h:=e_ (A4 (AY (A7 (?_))))));refine BU (r:= .v (.int .i64 (Dl w).2)) none (h5:=(by rw[hren,if_neg k1,if_neg k2,if_neg k3,if_pos k4];exact A9 _)) (h6:=⟨rfl,rfl,?_⟩);rw[hren,if_neg k1,if_neg k2,if_neg k3,if_pos k4];rfl
 have hc6:=bp hb6;have k4:¬f.dir.1≠g.dir.1:=by simpa using hc6
 refine BE (fun s=>s=⟨look [(0, .bp 0 0),(3, .bp 2 0),(4, .bp 3 0),(51, .v (.bool (!CA w f.dir 2|| !CA w g.dir 2)))],⟨[WA w cap,IB w cap,Aq f,Aq g],[]⟩⟩) ?_ ?_
 ·skip
  refine AQ (m_ (h:=f_ (h:=l_ (h:=?_))));refine A6 rfl (Cn 1 rfl (.cons _ _ _ _ _ rfl (LeA.of_eq rfl) (.cons _ _ _ _ _ rfl (A9 _) (.cons _ _ _ _ _ rfl (A9 _) .nil))) (Hl w .any f.dir 2 hsb) ?_);rintro r rfl;refine⟨rfl,?_⟩;refine BG (h:=m_ (h:=?_));refine B5 false rfl rfl (fun hb7=>?_) (fun hb7=>?_)
  ·have hc7:=bp hb7;refine A3 (h:=A3 (h:=A3 (h:=A3 (h:=A3 (h:=Ag (h:=a_ (h:=AP (?_))))))));refine AF ?_;exact⟨_,rfl,CM 4 0 (by simp[Ai,Ac,Ab,Bj B6,BL,WA,IB,CN,Aq])⟩
  have hc7:=bp hb7;refine m_ (h:=f_ (h:=l_ (h:=?_)));refine BB (Cn 1 rfl (.cons _ _ _ _ _ rfl (LeA.of_eq rfl) (.cons _ _ _ _ _ rfl (A9 _) (.cons _ _ _ _ _ rfl (A9 _) .nil))) (Hl w .any g.dir 2 hsb) ?_);rintro r rfl;refine⟨rfl,?_⟩;refine BG (h:=Ar (h:=a_ (h:=AP (?_))));refine AF ?_;exact⟨_,rfl,CM 4 0 (by simp[Ai,Ac,Ab,Bj B6,BL,WA,IB,CN,Aq])⟩
 rintro s rfl;refine A8 rfl (fun hb8=>?_) (fun hb8=>?_)
 ·have hc8:=bp hb8;have k5:CA w f.dir 2=false∨CA w g.dir 2=false:=by simpa using hc8
  refine w_ (a_ (h:=e_ (A4 (AY (A7 (?_))))));refine BU (r:= .v (.int .i64 (Dl w).2)) none (h5:=(by rw[hren,if_neg k1,if_neg k2,if_neg k3,if_neg k4,if_pos k5];exact A9 _)) (h6:=⟨rfl,rfl,?_⟩);rw[hren,if_neg k1,if_neg k2,if_neg k3,if_neg k4,if_pos k5];rfl
 have hc8:=bp hb8;have k5:¬(CA w f.dir 2=false∨CA w g.dir 2=false):=by simpa using hc8
 refine BM (B8 (t_ (?_)));refine BE (fun s=>s=⟨look [(0, .bp 0 0),(3, .bp 2 0),(4, .bp 3 0),(5, .bp 4 0)],⟨[WA w cap,IB w cap,Aq f,Aq g,AE x],[]⟩⟩) ?_ ?_
 ·skip
  refine BO ([(0,WA w cap),(1,IB w cap),(2,Aq f),(3,Aq g)]) 17 (h:=AO 0 (h:=BC 1 (h:=AG 2 (h:=AG 3 (h:=AG 4 (h:=AM 5 (h:=AG 6 (h:=AM 7 (h:=AG 8 (h:=AM 9 (h:=?_)))))))))));refine Co 10 14 rfl rfl ?_ ?_
  ·refine AK (hl1) ?_;rintro r rfl;refine o_ (h:=?_);refine AO 11 (h:=Au 12 (h:=Au 13 (h:=?_)));refine c_ 14 rfl (BQ (by repeat constructor) ?_);refine o_ (h:=?_);refine Aj 15 rfl (Af rfl rfl rfl rfl rfl rfl (by repeat constructor) (by repeat constructor) ?_);refine o_ (h:=BK 16 (h:=z_ (h:=?_)));refine AF ?_;exact⟨_,rfl,Cc 5 0⟩
  refine BQ (by repeat constructor) ?_;refine o_ (h:=?_);refine c_ 10 rfl (AK (hl1) ?_);rintro r rfl;refine o_ (h:=AO 11 (h:=Au 12 (h:=Au 13 (h:=?_))));refine Aj 15 rfl (Af rfl rfl rfl rfl rfl rfl (by repeat constructor) (by repeat constructor) ?_);refine o_ (h:=BK 16 (h:=z_ (h:=?_)));refine AF ?_;exact⟨_,rfl,Cc 5 0⟩
 rintro s rfl;refine q_ (?_);refine BE (fun s=>s=⟨look [(0, .bp 0 0),(3, .bp 2 0),(4, .bp 3 0),(5, .bp 4 0),(7, .bp 5 0),(8, .v (.int .i64 e2))],⟨[WA w cap,IB w cap,Aq f,Aq g,AE x,AE y],[]⟩⟩) ?_ ?_
 ·skip
  refine BO ([(0,WA w cap),(1,IB w cap),(2,Aq f),(3,Aq g),(4,AE x)]) 17 (h:=AO 0 (h:=BC 1 (h:=AG 2 (h:=AG 3 (h:=AG 4 (h:=AM 5 (h:=AG 6 (h:=AM 7 (h:=AG 8 (h:=AM 9 (h:=?_)))))))))));refine Co 10 14 rfl rfl ?_ ?_
  ·refine AK (hl2) ?_;rintro r rfl;refine o_ (h:=?_);refine AO 11 (h:=Au 12 (h:=Au 13 (h:=?_)));refine c_ 14 rfl (BQ (by repeat constructor) ?_);refine o_ (h:=?_);refine Aj 15 rfl (Af rfl rfl rfl rfl rfl rfl (by repeat constructor) (by repeat constructor) ?_);refine o_ (h:=BK 16 (h:=z_ (h:=?_)));refine AF ?_;exact⟨_,rfl,Cc 6 0⟩
  refine BQ (by repeat constructor) ?_;refine o_ (h:=?_);refine c_ 10 rfl (AK (hl2) ?_);rintro r rfl;refine o_ (h:=AO 11 (h:=Au 12 (h:=Au 13 (h:=?_))));refine Aj 15 rfl (Af rfl rfl rfl rfl rfl rfl (by repeat constructor) (by repeat constructor) ?_);refine o_ (h:=BK 16 (h:=z_ (h:=?_)));refine AF ?_;exact⟨_,rfl,Cc 6 0⟩
 rintro s rfl;refine BE (fun s=>s=⟨look [(0, .bp 0 0),(3, .bp 2 0),(4, .bp 3 0),(5, .bp 4 0),(113, .v (.bool (decide (e2=0)&& !decide ((y.1,y.2)=(x.1,x.2))&&AT w.s.spc.files y&&G5 w y)))],⟨[WA w cap,IB w cap,Aq f,Aq g,AE x],[]⟩⟩) ?_ ?_
 ·skip
  refine E4 22 (h:=AO 0 (h:=JM 1 (h:=AO 2 (h:=?_))));refine JE (j:=2) rfl (fun hb9=>?_) (fun hb9=>?_)
  ·have hc9:=bp hb9;refine AM 3 (h:=AM 4 (h:=?_));refine GG (i:=5) rfl (Fq rfl rfl (by repeat constructor) (by repeat constructor) (fun w=>Ti _ _ _ _ w) (by kernel_rfl) ⟨rfl,rfl⟩) ?_;refine JL 6 (h:=AO 7 (h:=?_));refine JE (j:=7) rfl (fun hb10=>?_) (fun hb10=>?_)
   ·have hc10:=bp hb10;refine AO 8 (h:=BC 9 (h:=AG 10 (h:=AG 11 (h:=AG 12 (h:=AM 13 (h:=AM 14 (h:=?_)))))));refine c_ 15 rfl (AK (Gl w.s.spc.files y hsb.files) ?_);rintro r rfl;refine o_ (h:=JL 16 (h:=AO 17 (h:=?_)));refine JE (j:=17) rfl (fun hb11=>?_) (fun hb11=>?_)
    ·have hc11:=bp hb11;refine AO 18 (h:=AM 19 (h:=?_));refine c_ 20 rfl (Cn 1 rfl (.cons _ _ _ _ _ rfl (LeA.of_eq rfl) (.cons _ _ _ _ _ rfl (A9 _) .nil)) (Wc w .any y hsb hps) ?_);rintro r rfl;refine⟨rfl,?_⟩;refine o_ (h:=JL 21 (h:=z_ (h:=?_)));refine AF ?_;exact⟨_,rfl,Az 5 0 rfl rfl rfl (by simp[Ai,Ac,Ab,Bj B6,BL,WA,IB,CN,Aq,AE]) (by repeat (first|exact Sub.nil|refine B0 rfl rfl ?_|refine B2 ?_|refine B3 rfl ?_|refine B4 rfl ?_|(apply Sub.of;(focus exact rfl);(focus exact LeA.of_eq (vb (by first|(simp[*];done)|(simp only[*,decide_true,decide_false,Bool.not_true,Bool.not_false,Bool.true_and,Bool.and_true,Bool.false_and,Bool.and_false]))));(focus exact rfl))))⟩
    have hc11:=bp hb11;refine Bh 18 (h:=Bh 19 (h:=Bh 20 (h:=GK 21 (h:=z_ (h:=?_)))));refine AF ?_;exact⟨_,rfl,Az 5 0 rfl rfl rfl (by simp[Ai,Ac,Ab,Bj B6,BL,WA,IB,CN,Aq,AE]) (by repeat (first|exact Sub.nil|refine B0 rfl rfl ?_|refine B2 ?_|refine B3 rfl ?_|refine B4 rfl ?_|(apply Sub.of;(focus exact rfl);(focus exact LeA.of_eq (vb (by first|(simp[*];done)|(simp only[*,decide_true,decide_false,Bool.not_true,Bool.not_false,Bool.true_and,Bool.and_true,Bool.false_and,Bool.and_false]))));(focus exact rfl))))⟩
   have hc10:=bp hb10;refine Bh 8 (h:=Bh 9 (h:=Bh 10 (h:=Bh 11 (h:=Bh 12 (h:=Bh 13 (h:=Bh 14 (h:=Bh 15 (h:=GK 16 (h:=AO 17 (h:=Bh 18 (h:=Bh 19 (h:=Bh 20 (h:=GK 21 (h:=z_ (h:=?_)))))))))))))));refine AF ?_;exact⟨_,rfl,Az 5 0 rfl rfl rfl (by simp[Ai,Ac,Ab,Bj B6,BL,WA,IB,CN,Aq,AE]) (by repeat (first|exact Sub.nil|refine B0 rfl rfl ?_|refine B2 ?_|refine B3 rfl ?_|refine B4 rfl ?_|(apply Sub.of;(focus exact rfl);(focus exact LeA.of_eq (vb (by first|(simp[*];done)|(simp only[*,decide_true,decide_false,Bool.not_true,Bool.not_false,Bool.true_and,Bool.and_true,Bool.false_and,Bool.and_false]))));(focus exact rfl))))⟩
  have hc9:=bp hb9;refine Bh 3 (h:=Bh 4 (h:=Bh 5 (h:=GK 6 (h:=AO 7 (h:=Bh 8 (h:=Bh 9 (h:=Bh 10 (h:=Bh 11 (h:=Bh 12 (h:=Bh 13 (h:=Bh 14 (h:=Bh 15 (h:=GK 16 (h:=AO 17 (h:=Bh 18 (h:=Bh 19 (h:=Bh 20 (h:=GK 21 (h:=z_ (h:=?_))))))))))))))))))));refine AF ?_;exact⟨_,rfl,Az 5 0 rfl rfl rfl (by simp[Ai,Ac,Ab,Bj B6,BL,WA,IB,CN,Aq,AE]) (by repeat (first|exact Sub.nil|refine B0 rfl rfl ?_|refine B2 ?_|refine B3 rfl ?_|refine B4 rfl ?_|(apply Sub.of;(focus exact rfl);(focus exact LeA.of_eq (vb (by first|(simp[*];done)|(simp only[*,decide_true,decide_false,Bool.not_true,Bool.not_false,Bool.true_and,Bool.and_true,Bool.false_and,Bool.and_false]))));(focus exact rfl))))⟩
 rintro s rfl;refine A8 rfl (fun hb12=>?_) (fun hb12=>?_)
 ·have hc12:=bp hb12;have k6:=Wi.1 hb12;refine w_ (a_ (h:=e_ (A4 (A7 (?_)))));refine BU (r:= .v (.int .i64 (Dl w).2)) none (h5:=(by rw[hren,if_neg k1,if_neg k2,if_neg k3,if_neg k4,if_neg k5,if_pos k6];exact A9 _)) (h6:=⟨rfl,rfl,?_⟩);rw[hren,if_neg k1,if_neg k2,if_neg k3,if_neg k4,if_neg k5,if_pos k6];rfl
 have hc12:=bp hb12;have k6:¬(e2=0∧y≠x∧AT w.s.spc.files y=true∧G5 w y=true):=fun h=>by rw[Wi.2 h]at hb12;cases hb12
 refine AN (q_ (BO ([(0,WA w cap),(1,IB w cap),(2,Aq f),(3,Aq g)]) 19 (h:=AO 0 (h:=AO 1 (h:=BC 2 (h:=AG 3 (h:=AG 4 (h:=AG 5 (h:=AM 6 (h:=AG 7 (h:=AM 8 (h:=AG 9 (h:=AM 10 (h:=AG 11 (h:=AM 12 (h:=AG 13 (h:=AM 14 (h:=?_))))))))))))))))));refine c_ 15 rfl (AK (hcall) ?_);rintro r rfl;refine o_ (h:=Au 16 (h:=Au 17 (h:=Au 18 (h:=?_))));refine c_ 19 rfl (Bf [0,1] rfl (.cons _ _ _ _ _ rfl (A9 _) (.cons _ _ _ _ _ rfl (A9 _) (.cons _ _ _ _ _ rfl (A9 _) (.cons _ _ _ _ _ rfl (A9 _) .nil)))) (by decide) (.cons _ _ _ _ _ rfl rfl (.cons _ _ _ _ _ rfl (Cr B6 _ _ _) .nil)) (Lu w cap R.1 R.2.1 R.2.2) ?_);rintro r bc tc ⟨rfl,rfl,rfl⟩;refine⟨rfl,_,DH rfl (BT w R).1 cap,?_⟩;refine o_ (h:=?_);refine c_ 20 rfl (Fe rfl ?_);refine o_ (h:=z_ (h:=t_ (q_ (?_))));refine BE (fun s=>s=⟨look [(0, .bp 0 0),(5, .bp 4 0),(9, .v (.int .i64 R.2.2)),(144, .v (.bool (decide (R.2.2=0)&&decide (0<(R.2.1.length:Int)))))],⟨[WA (BT w R).1 cap,IB (BT w R).1 cap,Aq f,Aq g,AE x],[]⟩⟩) ?_ ?_
 ·skip
  refine AQ (m_ (h:=AR (h:=m_ (h:=?_))));refine B5 true rfl rfl (fun hb13=>?_) (fun hb13=>?_)
  ·have hc13:=bp hb13;have hch:(BT w R).1.r.changes=R.2.1:=by rw[Hm hc13]
   refine m_ (h:=k_ (h:=f_ (h:=f_ (h:=l_ (h:=n_ (h:=Ck (h:=Ag (h:=AP (?_)))))))));refine AF ?_;exact⟨_,rfl,CM 5 0 (by simp[Ai,Ac,Ab,Bj B6,BL,WA,IB,CN,Aq,AE])⟩
  have hc13:=bp hb13;refine A3 (h:=A3 (h:=A3 (h:=A3 (h:=A3 (h:=A3 (h:=A3 (h:=Ar (h:=AP (?_)))))))));refine AF ?_;exact⟨_,rfl,CM 5 0 (by simp[Ai,Ac,Ab,Bj B6,BL,WA,IB,CN,Aq,AE])⟩
 rintro s rfl;refine A8 rfl (fun hb14=>?_) (fun hb14=>?_)
 ·have hc14:=bp hb14;have h0:R.2.2=0:=of_decide_eq_true ((Bool.and_eq_true _ _).mp hb14).1;have hfb:FlsB (G6 (BT w R).1 0 3).s.spc.files:=by rw[Hm h0];exact(hok h0).1.b
  have hit:(BT w R).1.r.items=w.r.items:=by rw[Hm h0]
  have hxa:(BT w R).1.r.items[0]?=some x0:=by rw[hit];exact hx0
  have hil1:0<(BT w R).1.r.items.length:=by rw[hit];exact hil
  have hxr:(G6 (BT w R).1 0 3).r.items[1]?=some x1:=by
   show((BT w R).1.r.items.modify 0 _)[1]?=_;rw[hit,List.getElem?_modify];simp[hx1]
  refine BE (fun s=>s=⟨look [(0, .bp 0 0),(5, .bp 4 0),(9, .v (.int .i64 R.2.2))],⟨[WA (G6 (BT w R).1 0 3) cap,IB (G6 (BT w R).1 0 3) cap,Aq f,Aq g,AE x],[]⟩⟩) ?_ ?_
  ·skip
   refine AQ (m_ (h:=k_ (h:=f_ (h:=f_ (h:=l_ (h:=?_))))));refine A6 rfl (DZ (m:=0) rfl rfl rfl hil1 ?_);refine f_ (h:=?_);refine KQ (Af rfl rfl rfl rfl rfl rfl (JZ B6 (x':={x0 with role:=3}) hxa (by repeat constructor) (List.cons_ne_nil _ _)) (by repeat constructor) ?_);refine AP (?_);refine AF ?_;refine⟨_,rfl,?_⟩;rw[Wm,Wn hxa];exact Cc 5 0
  rintro s rfl;refine AQ (m_ (h:=l_ (h:=?_)));refine A6 rfl (Bf [0,1] rfl (.cons _ _ _ _ _ rfl (A9 _) (.cons _ _ _ _ _ rfl (A9 _) (.cons _ _ _ _ _ rfl (A9 _) .nil))) (by decide) (.cons _ _ _ _ _ rfl rfl (.cons _ _ _ _ _ rfl (Cr B6 _ _ _) .nil)) (S4 (G6 (BT w R).1 0 3) cap 1 x x1 hfb hxr) ?_);rintro r bc tc ⟨rfl,rfl,rfl⟩;refine⟨rfl,_,DH rfl (Gz (G6 (BT w R).1 0 3) 1 x) cap,?_⟩;refine e_ (w_ (m_ (h:=a_ (h:=e_ (A4 (?_))))));refine BU (r:= .v (.int .i64 (Dl w).2)) none (h5:=(by rw[hren,if_neg k1,if_neg k2,if_neg k3,if_neg k4,if_neg k5,if_neg k6,Wj hb14];exact A9 _)) (h6:=⟨rfl,rfl,?_⟩);rw[hren,if_neg k1,if_neg k2,if_neg k3,if_neg k4,if_neg k5,if_neg k6,Wj hb14];rfl
 have hc14:=bp hb14;refine AN (w_ (m_ (h:=a_ (h:=e_ (A4 (?_))))));refine BU (r:= .v (.int .i64 (Dl w).2)) none (h5:=(by rw[hren,if_neg k1,if_neg k2,if_neg k3,if_neg k4,if_neg k5,if_neg k6,Wl hb14];exact A9 _)) (h6:=⟨rfl,rfl,?_⟩);rw[hren,if_neg k1,if_neg k2,if_neg k3,if_neg k4,if_neg k5,if_neg k6,Wl hb14];rfl
end
theorem j7{s:Spc}{fl:Bool}{p:AD}{ps:List AD}{a:AA}{lk:Nat}{τ:Lk}(h:By s fl p ps a lk= .inr τ):τ.name.size≤12:=by
 unfold By at h;split at h
 ·cases h
 split at h
 ·cases h
 rename_i h2
 repeat' split at h
 all_goals first|(cases h;done)|(injection h with h;subst h;first|exact BJ 12|exact Nat.le_of_not_lt h2)
theorem j8{s:Spc}{fl:Bool}:∀(k:Nat) (σ:Lk),σ.name.size≤12→(Dx s fl k σ).2.name.size≤12:=by
 intro k
 induction k with
 |zero=>intro σ h;exact h
 |succ k ih=>
   intro σ h;unfold Dx
   cases σ.ps with
   |nil=>exact h
   |cons p ps=>
     simp only
     cases hs:By s fl p ps σ.file σ.links with
     |inl e=>exact BJ 12
     |inr τ=>exact ih _ (j7 hs)
theorem S6(s:Spc)(st:AA)(p:AD)(fl:Bool):(Bc s st p fl).1.name.size≤12:=by
 unfold Bc;generalize (if Cx p=true then DY s else st)=d
 repeat' split
 all_goals first|exact BJ 12|exact j8 _ _ (BJ 12)
theorem j9{s:Spc}{cwd:AA}{fl:Bool}{X:List Itm×List Fnd×Int}{g:AD×Int}(h:∀f∈X.2.1,f.name.size≤12):(∀f∈(Fb s cwd fl X g).2.1,f.name.size≤12)∧(Fb s cwd fl X g).1.length=X.1.length+1∧(Fb s cwd fl X g).2.1.length=X.2.1.length+1:=by
 unfold Fb;split
 ·split
  ·refine⟨fun f hf=>?_,by simp,by simp⟩;rcases List.mem_append.1 hf with hf|hf
   ·exact h f hf
   rw[List.mem_singleton.1 hf];exact S6 _ _ _ _
  refine⟨fun f hf=>?_,by simp,by simp⟩;rcases List.mem_append.1 hf with hf|hf
  ·exact h f hf
  rw[List.mem_singleton.1 hf];exact S6 _ _ _ _
 refine⟨fun f hf=>?_,by simp,by simp⟩;rcases List.mem_append.1 hf with hf|hf
 ·exact h f hf
 rw[List.mem_singleton.1 hf];exact BJ 12
theorem jA(s:Spc)(cwd:AA)(fl:Bool)(e:Int):∀(l:List (AD×Int)),(∀f∈(J5 s cwd fl l e).2.1,f.name.size≤12)∧(J5 s cwd fl l e).1.length=l.length∧(J5 s cwd fl l e).2.1.length=l.length:=by
 have key:∀(l:List (AD×Int)) (X:List Itm×List Fnd×Int),(∀f∈X.2.1,f.name.size≤12)→(∀f∈(l.foldl (Fb s cwd fl) X).2.1,f.name.size≤12)∧(l.foldl (Fb s cwd fl) X).1.length=X.1.length+l.length∧(l.foldl (Fb s cwd fl) X).2.1.length=X.2.1.length+l.length:=by
  intro l
  induction l with
  |nil=>intro X h;exact⟨h,rfl,rfl⟩
  |cons g l ih=>
    intro X h;obtain⟨h1,h2,h3⟩:=j9 (s:=s) (cwd:=cwd) (fl:=fl) (g:=g) h;obtain⟨k1,k2,k3⟩:=ih _ h1;rw[List.foldl_cons];refine⟨k1,?_,?_⟩
    ·rw[k2,h2,List.length_cons];omega
    rw[k3,h3,List.length_cons];omega
 intro l;have:=key l ([],[],e) (fun f hf=>by cases hf);refine⟨this.1,by rw[J5,this.2.1];simp,by rw[J5,this.2.2];simp⟩
theorem S7{c:Cal}(h:Bi c=0):(c.paths.length:Int)=(Br c.num).2.2.1∧(Br c.num).2.2.2.1≤(c.args.length:Int)∧(c.args.length:Int)≤(Br c.num).2.2.2.2∧(∀p∈c.paths,p.size≤128)∧∀p∈c.args,p.size≤64:=by
 unfold Bi at h;split at h
 ·exact absurd h (by decide)
 split at h
 ·exact absurd h (by decide)
 split at h
 ·exact absurd h (by decide)
 rename_i h3;split at h
 ·exact absurd h (by decide)
 rename_i h4;split at h
 ·exact absurd h (by decide)
 rename_i h5;refine⟨by omega,by omega,by omega,fun p hp=>?_,fun p hp=>?_⟩
 ·refine Nat.le_of_not_lt fun hl=>h4 (List.any_eq_true.2 ⟨p,hp,decide_eq_true hl⟩)
 refine Nat.le_of_not_lt fun hl=>h5 (List.any_eq_true.2 ⟨p,hp,decide_eq_true hl⟩)
theorem Wp{c0 c1 c2 c3 c4 c5:List AV}(w:Wrk)(rows:List (List AV))(n cap:Nat)(L:List Itm):Back [c0,c1,c2,c3,c4,c5] [5] [D6 w (.sl 8 rows none) (.bs 1 0 13 n cap),LB 13 CL L cap] [c0,c1,c2,c3,c4,D6 w (.sl 8 rows none) (.bs 6 0 13 n cap),LB 13 CL L cap]:=by
 have:=NT (bx:=[c0,c1,c2,c3,c4,c5]) (is:=[5]) (bc:=[D6 w (.sl 8 rows none) (.bs 1 0 13 n cap),LB 13 CL L cap]) (by simp) (by simp) (by simp);have e2:Da (Du [5] [c0,c1,c2,c3,c4,c5].length) (LB 13 CL L cap)=LB 13 CL L cap:=Cr B6 _ _ _
 have hb:DS [c0,c1,c2,c3,c4,c5] (Du [5] [c0,c1,c2,c3,c4,c5].length) [5] [D6 w (.sl 8 rows none) (.bs 1 0 13 n cap),LB 13 CL L cap]=[c0,c1,c2,c3,c4,D6 w (.sl 8 rows none) (.bs 6 0 13 n cap),LB 13 CL L cap]:=by
  unfold DS;unfold DS;rw[List.map_cons,e2];rfl
 rw[hb]at this;exact this
theorem Wq(s:Syst)(pid:Int)(c:Cal):(∀f∈(Ej s pid c).found,f.name.size≤12)∧(Ej s pid c).found.length=(c.paths.zip (CK c)).length∧(Ej s pid c).r.items.length=(c.paths.zip (CK c)).length:=by
 obtain⟨h1,h2,h3⟩:=jA s.spc (AW s.tab pid).cwd (D5 c) (Cl (AW s.tab pid) c) (c.paths.zip (CK c));exact⟨h1,h3,h2⟩
section
theorem S8(w:Wrk)(F I:AV)(h9:w.c.num=9→0<w.c.args.length)(hsz:∀p∈w.c.args,p.size≤1000):AFn prog 67 [.fp (D6 w F I)] (fun r=>r= .v (.int .i64 (Cl w.p w.c))):=by
 have hol:(w.p.opens.map Fc).length=w.p.opens.length:=List.length_map _;refine enter Tryz.func67 rfl rfl rfl rfl rfl 0 rfl ?_;refine w_ (a_ (h:=e_ (w_ (m_ (h:=k_ (h:=f_ (h:=f_ (h:=l_ (h:=AZ (h:=s_ (h:=e_ (q_ (w_ (m_ (h:=k_ (h:=f_ (h:=f_ (h:=l_ (h:=e_ (Av (w_ (AR (h:=a_ (h:=?_))))))))))))))))))))))));refine e_ (?_);refine A8 rfl (fun hb1=>?_) (fun hb1=>?_)
 ·have hc1:=bp hb1;refine q_ (w_ (?_));refine A6 rfl (CR (len:=4) (sz:=1) (n:=0) (by kernel_rfl) rfl rfl rfl rfl ?_);refine l_ (h:=BS (h:=m_ (h:=?_)));refine B5 false rfl rfl (fun hb2=>?_) (fun hb2=>?_)
  ·have hc2:=bp hb2;refine A3 (h:=A3 (h:=A3 (h:=Ag (h:=m_ (h:=A3 (h:=A3 (h:=A3 (h:=A3 (h:=Ag (h:=m_ (h:=A3 (h:=A3 (h:=A3 (h:=A3 (h:=Ag (h:=e_ (C2 (h:=w_ (a_ (h:=e_ (A4 (A7 (AY (?_))))))))))))))))))))))));refine A7 (?_);refine AJ ?_
   first|(exfalso;first|contradiction|omega)|(exact vi (by simp[Cl, *]))
  have hc2:=bp hb2;refine BB (CR (len:=4) (sz:=1) (n:=0) (by kernel_rfl) rfl rfl rfl rfl ?_);refine l_ (h:=Ck (h:=Ar (h:=m_ (h:=?_))));refine B5 false rfl rfl (fun hb3=>?_) (fun hb3=>?_)
  ·have hc3:=bp hb3;refine A3 (h:=A3 (h:=A3 (h:=A3 (h:=Ag (h:=m_ (h:=A3 (h:=A3 (h:=A3 (h:=A3 (h:=Ag (h:=e_ (C2 (h:=w_ (a_ (h:=e_ (A4 (A7 (AY (A7 (?_))))))))))))))))))));refine AJ ?_
   first|(exfalso;first|contradiction|omega)|(exact vi (by simp[Cl, *]))
  have hc3:=bp hb3;refine BB (CR (len:=4) (sz:=1) (n:=0) (by kernel_rfl) rfl rfl rfl rfl ?_);refine l_ (h:=Em (h:=AR (h:=Ar (h:=m_ (h:=?_)))));refine B5 false rfl rfl (fun hb4=>?_) (fun hb4=>?_)
  ·have hc4:=bp hb4;refine A3 (h:=A3 (h:=A3 (h:=A3 (h:=Ag (h:=e_ (C2 (h:=w_ (a_ (h:=e_ (A4 (A7 (AY (A7 (?_))))))))))))));refine AJ ?_
   first|(exfalso;first|contradiction|omega)|(exact vi (by simp[Cl, *]))
  have hc4:=bp hb4;refine BB (CR (len:=4) (sz:=1) (n:=1) (by kernel_rfl) rfl rfl rfl rfl ?_);refine l_ (h:=?_);refine BB (AK (Rm w.c.a1) ?_);rintro r rfl;refine BG (h:=Ar (h:=e_ (?_)));refine A8 rfl (fun hb5=>?_) (fun hb5=>?_)
  ·have hc5:=bp hb5;refine w_ (a_ (h:=e_ (A4 (A7 (AY (A7 (?_)))))));refine AJ ?_
   first|(exfalso;first|contradiction|omega)|(exact vi (by simp[Cl, *]))
  have hc5:=bp hb5;refine AN (w_ (m_ (h:=k_ (h:=f_ (h:=f_ (h:=l_ (h:=n_ (h:=GL (h:=e_ (?_))))))))));refine A8 rfl (fun hb6=>?_) (fun hb6=>?_)
  ·have hc6:=bp hb6;have h8:8≤(w.p.opens.length:Int):=by rw[List.length_map]at hc6;exact hc6
   refine w_ (a_ (h:=e_ (A4 (AY (A7 (?_))))));refine AJ ?_
   first|(exfalso;first|contradiction|omega)|(exact vi (by simp[Cl, *]))
  have hc6:=bp hb6;have h8:¬8≤(w.p.opens.length:Int):=by rw[List.length_map]at hc6;exact hc6
  refine BM (B8 (t_ (w_ (a_ (h:=e_ (A4 (?_)))))));refine AJ ?_
  first|(exfalso;first|contradiction|omega)|(exact vi (by simp[Cl, *]))
 have hc1:=bp hb1;refine w_ (AR (h:=a_ (h:=e_ (?_))));refine A8 rfl (fun hb7=>?_) (fun hb7=>?_)
 ·have hc7:=bp hb7;obtain⟨a0,ha0⟩:∃a,w.c.args[0]?=some a:=⟨_,B9 (h9 hc7)⟩;have harg:(w.c.args.map DL)[0]?=some (DL a0):=by rw[List.getElem?_map,ha0];rfl
  have hag:Gx w.c=a0:=by unfold Gx;rw[List.headD_eq_head?_getD,List.head?_eq_getElem?,ha0];rfl
  have hsa:=hsz a0 (Al ha0);refine q_ (w_ (m_ (h:=k_ (h:=f_ (h:=f_ (h:=l_ (h:=?_)))))));refine A6 rfl (Ci (n:=0) rfl rfl rfl harg ?_);refine l_ (h:=AR (h:=e_ (?_)));refine A8 rfl (fun hb8=>?_) (fun hb8=>?_)
  ·have hc8:=bp hb8;refine w_ (a_ (h:=e_ (A4 (A7 (AY (A7 (?_)))))));refine AJ ?_
   first|(exfalso;first|contradiction|omega)|(exact vi (by simp[Cl, *]))
  have hc8:=bp hb8;refine AN (w_ (a_ (h:=e_ (Av (?_)))));refine Bq (fun m s=>∃j:Nat,j≤a0.size∧m=a0.size - j∧(∀(i:Nat) (h:i<a0.data.toList.length),i<j→a0.data.toList[i]≠0)∧s=⟨look [(0, .fp (D6 w F I)),(4, .v (.int .i64 (j:Int)))],⟨[],[]⟩⟩) (a0.size) ((wk 0 0)) (⟨0,BJ _,rfl,fun i h1 h2=>by omega,rfl⟩) ?_;rintro m s ⟨j,hj,rfl,hz,rfl⟩;refine q_ (w_ (m_ (h:=m_ (h:=k_ (h:=f_ (h:=f_ (h:=l_ (h:=?_))))))));refine A6 rfl (Ci (n:=0) rfl rfl rfl harg ?_);refine l_ (h:=n_ (h:=BS (h:=e_ (?_))));refine A8 rfl (fun hb9=>?_) (fun hb9=>?_)
  ·have hc9:=bp hb9;have hlt:j<a0.size:=by omega
   refine AN (q_ (Av (w_ (m_ (h:=k_ (h:=f_ (h:=f_ (h:=l_ (h:=?_)))))))));refine A6 rfl (Ci (n:=0) rfl rfl rfl harg ?_);refine l_ (h:=m_ (h:=?_));refine A6 rfl (JS (n:=j) Tryz.underlying9 rfl rfl rfl hlt ?_);refine AR (h:=e_ (?_));refine A8 rfl (fun hb10=>?_) (fun hb10=>?_)
   ·have hc10:=bp hb10
    have hany:(a0.data.toList.any fun b=>decide (b=0))=true:=by
     rw[List.any_eq_true];refine⟨a0.data.toList[j]'(by simpa using hlt),List.getElem_mem _,?_⟩;have h00:a0[j].toNat=0:=by have:=hc10;omega
     simp;exact UInt8.toNat_inj.1 h00
    refine w_ (a_ (h:=e_ (A4 (AY (A7 (A7 (AY (AY (A7 (?_))))))))));refine AJ ?_
    first|(exfalso;first|contradiction|omega)|(exact vi (by simp[Cl, *]))
   have hc10:=bp hb10
   have hne:a0.data.toList[j]'(by simpa using hlt)≠0:=by
    intro e;have h00:¬a0[j].toNat=0:=by have:=hc10;omega
    simp at e;exact h00 (congrArg UInt8.toNat e)
   refine BM (B8 (t_ (AQ (m_ (h:=BH (h:=a_ (h:=AP (?_))))))));refine AF ?_
   refine⟨_,_,?_,⟨j+1,by omega,rfl,(fun i h1 h2=>by
    by_cases e:i=j
    ·subst e;exact hne
    exact hz i h1 (by omega)),rfl⟩,(wk 0 0)⟩
   omega
  have hc9:=bp hb9
  have hany:(a0.data.toList.any fun b=>decide (b=0))=false:=by
   rw[List.any_eq_false];intro b hb;obtain⟨i,hi,rfl⟩:=List.mem_iff_getElem.1 hb;have:=hz i hi (by have hl:=Lib.size_eq a0;omega)
   simpa using this
  refine BX (Aw (Aw (BY (B8 (t_ (w_ (a_ (h:=e_ (A4 (?_))))))))));refine AJ ?_
  first|(exfalso;first|contradiction|omega)|(exact vi (by simp[Cl, *]))
 have hc7:=bp hb7;refine q_ (w_ (AR (h:=a_ (h:=e_ (?_)))));refine A8 rfl (fun hb11=>?_) (fun hb11=>?_)
 ·have hc11:=bp hb11;refine AN (C2 (h:=w_ (?_)));refine A6 rfl (CR (len:=4) (sz:=1) (n:=0) (by kernel_rfl) rfl rfl rfl rfl ?_);refine l_ (h:=?_);refine A6 rfl (AK (Rm w.c.a0) ?_);rintro r rfl;refine BG (h:=e_ (?_));refine A8 rfl (fun hb12=>?_) (fun hb12=>?_)
  ·have hc12:=bp hb12;refine w_ (a_ (h:=e_ (A4 (AY (A7 (?_))))));refine AJ ?_
   first|(exfalso;first|contradiction|omega)|(exact vi (by simp[Cl, *]))
  have hc12:=bp hb12;refine BM (B8 (t_ (w_ (a_ (h:=e_ (A4 (?_)))))));refine AJ ?_
  first|(exfalso;first|contradiction|omega)|(exact vi (by simp[Cl, *]))
 have hc11:=bp hb11;refine AQ (AR (h:=a_ (h:=e_ (?_))));refine A8 rfl (fun hb13=>?_) (fun hb13=>?_)
 ·have hc13:=bp hb13;refine w_ (?_);refine A6 rfl (CR (len:=4) (sz:=1) (n:=0) (by kernel_rfl) rfl rfl rfl rfl ?_);refine l_ (h:=?_);refine A6 rfl (AK (Rm w.c.a0) ?_);rintro r rfl;refine BG (h:=e_ (?_));refine A8 rfl (fun hb14=>?_) (fun hb14=>?_)
  ·have hc14:=bp hb14;refine w_ (a_ (h:=e_ (A4 (AY (A7 (?_))))));refine AJ ?_
   first|(exfalso;first|contradiction|omega)|(exact vi (by simp[Cl, *]))
  have hc14:=bp hb14;refine BM (B8 (t_ (w_ (a_ (h:=e_ (A4 (?_)))))));refine AJ ?_
  first|(exfalso;first|contradiction|omega)|(exact vi (by simp[Cl, *]))
 have hc13:=bp hb13;refine w_ (AR (h:=a_ (h:=e_ (?_))));refine A8 rfl (fun hb15=>?_) (fun hb15=>?_)
 ·have hc15:=bp hb15;refine w_ (?_);refine A6 rfl (CR (len:=4) (sz:=1) (n:=0) (by kernel_rfl) rfl rfl rfl rfl ?_);refine l_ (h:=BS (h:=m_ (h:=?_)));refine B5 false rfl rfl (fun hb16=>?_) (fun hb16=>?_)
  ·have hc16:=bp hb16;refine A3 (h:=A3 (h:=A3 (h:=Ag (h:=m_ (h:=A3 (h:=A3 (h:=A3 (h:=Ag (h:=m_ (h:=A3 (h:=A3 (h:=A3 (h:=Ag (h:=e_ (C2 (h:=w_ (a_ (h:=e_ (A4 (AY (A7 (?_))))))))))))))))))))));refine AJ ?_
   first|(exfalso;first|contradiction|omega)|(exact vi (by simp[Cl, *]))
  have hc16:=bp hb16;refine BB (CR (len:=4) (sz:=1) (n:=0) (by kernel_rfl) rfl rfl rfl rfl ?_);refine l_ (h:=Ck (h:=Ar (h:=m_ (h:=?_))));refine B5 false rfl rfl (fun hb17=>?_) (fun hb17=>?_)
  ·have hc17:=bp hb17;refine A3 (h:=A3 (h:=A3 (h:=Ag (h:=m_ (h:=A3 (h:=A3 (h:=A3 (h:=Ag (h:=e_ (C2 (h:=w_ (a_ (h:=e_ (A4 (AY (A7 (?_)))))))))))))))));refine AJ ?_
   first|(exfalso;first|contradiction|omega)|(exact vi (by simp[Cl, *]))
  have hc17:=bp hb17;refine BB (CR (len:=4) (sz:=1) (n:=1) (by kernel_rfl) rfl rfl rfl rfl ?_);refine l_ (h:=BS (h:=Ar (h:=m_ (h:=?_))));refine B5 false rfl rfl (fun hb18=>?_) (fun hb18=>?_)
  ·have hc18:=bp hb18;refine A3 (h:=A3 (h:=A3 (h:=Ag (h:=e_ (C2 (h:=w_ (a_ (h:=e_ (A4 (AY (A7 (?_))))))))))));refine AJ ?_
   first|(exfalso;first|contradiction|omega)|(exact vi (by simp[Cl, *]))
  have hc18:=bp hb18;refine BB (CR (len:=4) (sz:=1) (n:=1) (by kernel_rfl) rfl rfl rfl rfl ?_);refine l_ (h:=Ck (h:=Ar (h:=e_ (?_))));refine A8 rfl (fun hb19=>?_) (fun hb19=>?_)
  ·have hc19:=bp hb19;refine w_ (a_ (h:=e_ (A4 (AY (A7 (?_))))));refine AJ ?_
   first|(exfalso;first|contradiction|omega)|(exact vi (by simp[Cl, *]))
  have hc19:=bp hb19;refine BM (B8 (t_ (w_ (a_ (h:=e_ (A4 (?_)))))));refine AJ ?_
  first|(exfalso;first|contradiction|omega)|(exact vi (by simp[Cl, *]))
 have hc15:=bp hb15;refine w_ (AR (h:=a_ (h:=e_ (?_))));refine A8 rfl (fun hb20=>?_) (fun hb20=>?_)
 ·have hc20:=bp hb20;refine w_ (m_ (h:=k_ (h:=f_ (h:=f_ (h:=l_ (h:=BV (h:=e_ (?_))))))));refine A8 rfl (fun hb21=>?_) (fun hb21=>?_)
  ·have hc21:=bp hb21;refine w_ (a_ (h:=e_ (A4 (AY (A7 (?_))))));refine AJ ?_
   first|(exfalso;first|contradiction|omega)|(exact vi (by simp[Cl, *]))
  have hc21:=bp hb21;refine BM (B8 (t_ (w_ (a_ (h:=e_ (A4 (?_)))))));refine AJ ?_
  first|(exfalso;first|contradiction|omega)|(exact vi (by simp[Cl, *]))
 have hc20:=bp hb20;refine w_ (AR (h:=a_ (h:=e_ (?_))));refine A8 rfl (fun hb22=>?_) (fun hb22=>?_)
 ·have hc22:=bp hb22;refine w_ (?_);refine A6 rfl (CR (len:=4) (sz:=1) (n:=0) (by kernel_rfl) rfl rfl rfl rfl ?_);refine l_ (h:=BS (h:=e_ (?_)));refine A8 rfl (fun hb23=>?_) (fun hb23=>?_)
  ·have hc23:=bp hb23;refine w_ (a_ (h:=e_ (A4 (AY (A7 (?_))))));refine AJ ?_
   first|(exfalso;first|contradiction|omega)|(exact vi (by simp[Cl, *]))
  have hc23:=bp hb23;refine BM (B8 (t_ (w_ (a_ (h:=e_ (A4 (?_)))))));refine AJ ?_
  first|(exfalso;first|contradiction|omega)|(exact vi (by simp[Cl, *]))
 have hc22:=bp hb22;refine BM (B8 (t_ (w_ (a_ (h:=e_ (A4 (?_)))))));refine AJ ?_
 first|(exfalso;first|contradiction|omega)|(exact vi (by simp[Cl, *]))
end
end Go.Proofs.YtbglbmnhgbgelaaGreatDoor
