/-
  Part 17 of the proof of FilterLoadsP: what the statement's proof uses of the texts in wip/tpl.
-/
import Derived.Test.YtbgnigjfkbmceaaGreatDoorQd16
open Go.Proofs.Tryz (prog)
set_option maxRecDepth 10000
set_option maxHeartbeats 4000000
set_option linter.unusedVariables false
set_option linter.unusedSimpArgs false
namespace Go.Proofs.YtbgnigjfkbmceaaGreatDoor
open Go.RowKit
theorem fB(s:Spc)(l:List Rul):(∃e,D5 s l=(Fo,e))∨(CH l=0∧(∀r∈l,(CD s r).2=0)∧D5 s l=(⟨l,D6 s l⟩,0)):=by
 by_cases h1:CH l≠0
 ·exact .inl ⟨_,Q5 h1⟩
 by_cases h2:∀r∈l,(CD s r).2=0
 ·exact .inr ⟨by simpa using h1,h2,NV h1 h2⟩
 refine .inl ⟨180,?_⟩;rw[D5,if_neg h1,if_neg];intro k;exact h2 fun r hr=>of_decide_eq_true (List.all_eq_true.1 k r hr)
theorem fC{s:Spc}{l:List Rul}(hv:SpcV s)(hl:l.length≤21)(hi:∀r∈l,Cb r):SmP (D5 s l).1∧(∀r∈(D5 s l).1.rules,Cb r)∧((D5 s l).2=0→Fp s (D5 s l).1=true):=by
 rcases fB s l with⟨e,h⟩|⟨h1,h2,h⟩
 ·rw[h];exact⟨SmP.nil,by simp[Fo],fun _=>(PolOk.nil s 0).sound hv⟩
 rw[h];have hp:PolOk s ⟨l,D6 s l⟩ 21:=⟨⟨h1,hi,hl⟩,rfl,h2⟩;exact⟨hp.sm (by decide),hi,fun _=>hp.sound hv⟩
section
theorem fD(l:List Rul)(r:Rul)(hl:l.length≤1000)(hi:∀r∈l,Cb r)(hr:Cb r)(hok:(Bu l r true).2=0):Ht prog 61 [.sl 8 (l.map Aa) none, .agg (Aa r), .v (.bool true)] (fun g=> .tup [.sl 8 ((r::l).map Aa) g, .v (.int .i64 0)]) (83,8,(r::l).map Aa):=by
 refine enter Tryz.func61 rfl rfl rfl rfl rfl 0 rfl ?_;refine w_ (b_ (h:=a_ (h:=a_ (h:=e_ (q_ (w_ (m_ (h:=?_))))))));refine A6 rfl (AJ (Lc l hl hi) ?_);rintro r rfl;refine a_ (h:=e_ (w_ (m_ (h:=Ao (h:=e_ (?_))))));refine A9 rfl (fun hb1=>?_) (fun hb1=>?_)
 ·have hc1:=bp hb1;simp[Bu,hc1]at hok
 have hc1:=bp hb1;refine AE (q_ (w_ (l_ (h:=?_))));refine A6 rfl (AJ (K8 r hr) ?_);rintro r rfl;refine a_ (h:=e_ (w_ (m_ (h:=Ao (h:=e_ (?_))))));refine A9 rfl (fun hb2=>?_) (fun hb2=>?_)
 ·have hc2:=bp hb2;simp[Bu,hc1,hc2]at hok
 have hc2:=bp hb2;refine AE (q_ (w_ (m_ (h:=l_ (h:=?_)))));refine A6 rfl (AJ (Lb l r hl fun x hx=>(hi x hx).2.2.2) ?_);rintro r rfl;refine DL (h:=e_ (?_));refine A9 rfl (fun hb3=>?_) (fun hb3=>?_)
 ·have hc3:=bp hb3;simp[Bu,hc1,hc2,hc3]at hok
 have hc3:=bp hb3;refine AE (q_ (w_ (m_ (h:=n_ (h:=AN (h:=e_ (?_)))))));refine A9 rfl (fun hb4=>?_) (fun hb4=>?_)
 ·have hc4:=bp hb4;rw[List.length_map]at hc4;have h4:24≤(l.length:Int):=by omega
  have h5:¬0≤Du l r:=hc3;rw[Bu,if_neg (by simp[hc1]),if_neg (by simp[hc2]),if_neg h5,if_pos h4]at hok;exact absurd hok (by decide)
 have hc4:=bp hb4;refine AE (q_ (w_ (m_ (h:=e_ (?_)))));refine A9 rfl (fun hb5=>?_) (fun hb5=>?_)
 ·have hc5:=bp hb5;refine w_ (l_ (h:=?_));refine A6 rfl (AJ (KC r hr.2.2.2) ?_);rintro r rfl;refine A6 rfl (Qo (by repeat (first|exact DenseA.nil _|(apply DenseA.cons;(focus exact rfl);(focus exact rfl);(focus exact rfl);(focus exact rfl))|(apply DenseA.consE;(focus exact rfl);(focus exact rfl);(focus exact rfl)))) rfl rfl rfl rfl (by repeat constructor) ?_);refine m_ (h:=?_);refine A6 rfl (AJ (Q4 l hl fun x hx=>(hi x hx).2.2.2) ?_);rintro r rfl;refine ES (h:=a_ (h:=a_ (h:=e_ (A4 (A7 (?_))))));refine Au (some 0) (h5:=(AX _)) (h6:=⟨rfl,rfl,rfl⟩)
 have hc5:=bp hb5;exfalso;first|contradiction|omega
theorem fE(l:List Rul)(r:Rul)(hl:l.length≤1000)(hi:∀r∈l,Cb r)(hr:Cb r)(hok:(Bu l r false).2=0):Ht prog 61 [.sl 8 (l.map Aa) none, .agg (Aa r), .v (.bool false)] (fun g=> .tup [.sl 8 (l.map Aa++[Aa r]) g, .v (.int .i64 0)]) (83,8,l.map Aa++[Aa r]):=by
 refine enter Tryz.func61 rfl rfl rfl rfl rfl 0 rfl ?_;refine w_ (b_ (h:=a_ (h:=a_ (h:=e_ (q_ (w_ (m_ (h:=?_))))))));refine A6 rfl (AJ (Lc l hl hi) ?_);rintro r rfl;refine a_ (h:=e_ (w_ (m_ (h:=Ao (h:=e_ (?_))))));refine A9 rfl (fun hb1=>?_) (fun hb1=>?_)
 ·have hc1:=bp hb1;simp[Bu,hc1]at hok
 have hc1:=bp hb1;refine AE (q_ (w_ (l_ (h:=?_))));refine A6 rfl (AJ (K8 r hr) ?_);rintro r rfl;refine a_ (h:=e_ (w_ (m_ (h:=Ao (h:=e_ (?_))))));refine A9 rfl (fun hb2=>?_) (fun hb2=>?_)
 ·have hc2:=bp hb2;simp[Bu,hc1,hc2]at hok
 have hc2:=bp hb2;refine AE (q_ (w_ (m_ (h:=l_ (h:=?_)))));refine A6 rfl (AJ (Lb l r hl fun x hx=>(hi x hx).2.2.2) ?_);rintro r rfl;refine DL (h:=e_ (?_));refine A9 rfl (fun hb3=>?_) (fun hb3=>?_)
 ·have hc3:=bp hb3;simp[Bu,hc1,hc2,hc3]at hok
 have hc3:=bp hb3;refine AE (q_ (w_ (m_ (h:=n_ (h:=AN (h:=e_ (?_)))))));refine A9 rfl (fun hb4=>?_) (fun hb4=>?_)
 ·have hc4:=bp hb4;rw[List.length_map]at hc4;have h4:24≤(l.length:Int):=by omega
  have h5:¬0≤Du l r:=hc3;rw[Bu,if_neg (by simp[hc1]),if_neg (by simp[hc2]),if_neg h5,if_pos h4]at hok;exact absurd hok (by decide)
 have hc4:=bp hb4;refine AE (q_ (w_ (m_ (h:=e_ (?_)))));refine A9 rfl (fun hb5=>?_) (fun hb5=>?_)
 ·have hc5:=bp hb5;exfalso;first|contradiction|omega
 have hc5:=bp hb5;refine AE (q_ (CE ([(0,Aa r)]) 8 (h:=Ap 0 (h:=?_))))
 first|refine AY 2 (h:=?_)|refine BK 2 rfl (fun _ hS=>EX rfl (by rw[hS];rfl) rfl ⟨rfl,rfl⟩) ?_
 refine c_ 1 rfl (MD rfl (by repeat (first|exact Args.nil|refine Args.cons _ _ _ _ _ rfl (Fb rfl) ?_|refine Args.cons _ _ _ _ _ rfl (GH _) ?_|refine Args.cons _ _ _ _ _ rfl (Fx _) ?_|refine Args.cons _ _ _ _ _ rfl (GM rfl (by repeat (first|exact AX _|exact LeA.nil _|exact LeL.refl _|refine LeA.agg ?_|refine LeA.tup ?_|exact LeL.nil|refine LeL.cons ?_ ?_|exact LeA.any _))) ?_)) (UJ l hl fun x hx=>(hi x hx).2.2.2) (fun _=>rfl) (by repeat constructor) ?_);refine o_ (h:=?_);refine c_ 3 rfl (AJ (KC r hr.2.2.2) ?_);rintro r rfl;refine o_ (h:=MX 4 (h:=?_))
 first|refine c_ 5 rfl (E7 rfl rfl rfl (by simp<;>omega) (by repeat constructor) ?_)|refine c_ 5 rfl (E8 rfl rfl (by simp<;>omega) (by repeat constructor) ?_)
 refine o_ (h:=BN 6 (h:=BN 7 (h:=z_ (h:=t_ (A4 (?_))))));refine Au (some 0) (h5:=(AX _)) (h6:=⟨rfl,rfl,rfl⟩)
theorem fF(l:List Rul)(r:Rul)(f:Bool)(hl:l.length≤1000)(hi:∀r∈l,Cb r)(hr:Cb r)(hok:(Bu l r f).2=0):Ht prog 61 [.sl 8 (l.map Aa) none, .agg (Aa r), .v (.bool f)] (fun g=> .tup [.sl 8 ((Bu l r f).1.map Aa) g, .v (.int .i64 0)]) (83,8,(Bu l r f).1.map Aa):=by
 rw[dY hok];cases f
 ·have:=fE l r hl hi hr hok;rw[show l.map Aa++[Aa r]=(l++[r]).map Aa by rw[List.map_append];rfl]at this;exact this
 exact fD l r hl hi hr hok
theorem fG(l:List Int)(a m:Nat)(ha:a≤100000000)(hm:m≤20):RH prog 15 l a [.v (.int .i64 (m:Int))] 100000 83 8 (fun rows=>∃L:List Rul,LstOk L 20∧rows=L.map Aa):=by
 refine enter Tryz.func15 rfl rfl rfl rfl rfl 1 rfl ?_;refine w_ (a_ (h:=e_ (w_ (a_ (h:=e_ (q_ (w_ (m_ (h:=m_ (h:=BE (h:=?_)))))))))));refine A6 rfl (Ax 0 (hc:=Gn l _ ((m:Int)+1) (by omega) (by omega)) (hR:=?_));rintro r a1 ha1 ⟨k1,rfl,p1,q1,o1⟩;refine⟨rfl,_,(by repeat constructor),?_⟩;obtain⟨m0,rfl⟩:=Int.eq_ofNat_of_zero_le p1;have hm0:m0≤20:=by omega
 refine a_ (h:=e_ (Af (?_)));refine KS 5 83 8 rfl (by repeat constructor) ?_;refine BW (fun n s=>∃(j b:Nat) (L:List Rul),j≤m0∧n=j∧b≤a+1+1700 * (m0 - j)∧LstOk L (m0 - j)∧s=⟨look [(0, .bp 0 0),(5, .sl 8 (L.map Aa) (some 0)),(6, .v (.int .i64 (j:Int)))],⟨[Cm l b],[(83,8,L.map Aa)]⟩⟩) (m0) ((wk 1 1)) (⟨m0,_,[],by omega,rfl,by omega,LstOk.nil _,rfl⟩) ?_;rintro n s ⟨j,b,L,hj,hn,hb,hL,rfl⟩;subst n;refine q_ (w_ (m_ (h:=Bb (h:=e_ (?_)))));refine A9 rfl (fun hb1=>?_) (fun hb1=>?_)
 ·have hc1:=bp hb1;refine AE (q_ (Af (w_ (m_ (h:=m_ (h:=?_))))));refine A6 rfl (Ax 0 (hc:=dZ l _ (by omega)) (hR:=?_));rintro r a2 ha2 ⟨x,hx,hg,rfl⟩;refine⟨rfl,_,(by repeat constructor),?_⟩;refine m_ (h:=?_);refine A6 rfl (Ax 0 (hc:=Gn l _ (4) (by omega) (by omega)) (hR:=?_));rintro r a3 ha3 ⟨k3,rfl,p3,q3,o3⟩;refine⟨rfl,_,(by repeat constructor),?_⟩;refine A6 rfl (KP rfl rfl ?_);generalize decide (_=(0:Int))=F;rcases Decidable.em ((Bu L x F).2=0)with hok|hok
  ·skip
   refine A6 rfl (MD rfl (by repeat (first|exact Args.nil|refine Args.cons _ _ _ _ _ rfl (Fb rfl) ?_|refine Args.cons _ _ _ _ _ rfl (GH _) ?_|refine Args.cons _ _ _ _ _ rfl (Fx _) ?_|refine Args.cons _ _ _ _ _ rfl (GM rfl (by repeat (first|exact AX _|exact LeA.nil _|exact LeL.refl _|refine LeA.agg ?_|refine LeA.tup ?_|exact LeL.nil|refine LeL.cons ?_ ?_|exact LeA.any _))) ?_)) (fF L x F (by have:=hL.len;omega) hL.ins hx hok) (fun _=>rfl) (by repeat constructor) ?_);have hL2:=hL.add hx hok;refine m_ (h:=x_ (h:=x_ (h:=a_ (h:=a_ (h:=e_ (w_ (m_ (h:=AN (h:=e_ (?_))))))))));refine A9 rfl (fun hb2=>?_) (fun hb2=>?_)
   ·have hc2:=bp hb2;refine AW (m_ (h:=a_ (h:=AQ (Al (t_ (AW (m_ (h:=G0 (h:=a_ (h:=AQ (?_)))))))))));refine AK ?_;obtain⟨j,rfl⟩:∃i,j=i+1:=⟨j - 1,by omega⟩
    first|(refine⟨_,_,?_,⟨j,_,_,by omega,rfl,?_,hL2.mono (by omega),rfl⟩,RG 1 1 (hl:=by repeat (first|exact SubT.nil|refine SubT.cons _ _ _ _ rfl rfl rfl ?_|refine SubT.cons _ _ _ _ rfl (vi (by omega)) rfl ?_))⟩<;>omega)|(refine⟨_,_,?_,⟨j,_,_,by omega,rfl,?_,hL2.mono (by omega),rfl⟩,Az 1 1 rfl rfl rfl rfl (by repeat (first|exact Sub.nil|refine B0 rfl rfl ?_|(apply Sub.of;(focus exact rfl);(focus exact LeA.of_eq (vi (by omega)));(focus exact rfl))))⟩<;>omega)
   have hc2:=bp hb2;exfalso;simp_all
  skip
  refine A6 rfl (AJ (d7 L x F (by have:=hL.len;omega) hL.ins hx) ?_);rintro r rfl;have hL2:=hL.mono (Nat.le_succ _);refine m_ (h:=x_ (h:=x_ (h:=a_ (h:=a_ (h:=e_ (w_ (m_ (h:=AN (h:=e_ (?_))))))))));refine A9 rfl (fun hb3=>?_) (fun hb3=>?_)
  ·have hc3:=bp hb3;exact absurd (by simpa using hc3) hok
  have hc3:=bp hb3;refine Aw (Al (t_ (AW (m_ (h:=G0 (h:=a_ (h:=AQ (?_))))))));refine AK ?_;obtain⟨j,rfl⟩:∃i,j=i+1:=⟨j - 1,by omega⟩
  first|(refine⟨_,_,?_,⟨j,_,_,by omega,rfl,?_,hL2.mono (by omega),rfl⟩,RG 1 1 (hl:=by repeat (first|exact SubT.nil|refine SubT.cons _ _ _ _ rfl rfl rfl ?_|refine SubT.cons _ _ _ _ rfl (vi (by omega)) rfl ?_))⟩<;>omega)|(refine⟨_,_,?_,⟨j,_,_,by omega,rfl,?_,hL2.mono (by omega),rfl⟩,Az 1 1 rfl rfl rfl rfl (by repeat (first|exact Sub.nil|refine B0 rfl rfl ?_|(apply Sub.of;(focus exact rfl);(focus exact LeA.of_eq (vi (by omega)));(focus exact rfl))))⟩<;>omega)
 have hc1:=bp hb1;refine BL (Ai (Ai (BM (t_ (w_ (m_ (h:=a_ (h:=e_ (A4 (?_))))))))));refine Au (some 0) (h5:=(AX _)) (h6:=⟨b,_,by omega,rfl,rfl,rfl,L,hL.mono (by omega),rfl⟩)
theorem fH(l:List Int):AFn prog 7 [.sl 1 (l.map FL) none] (fun r=>r= .v (.bool true)):=by
 refine enter Tryz.func7 rfl rfl rfl rfl rfl 0 rfl ?_;refine w_ (a_ (h:=e_ (w_ (m_ (h:=?_)))));refine A6 rfl (VN rfl (by repeat (first|exact Args.nil|refine Args.cons _ _ _ _ _ rfl (Fb rfl) ?_|refine Args.cons _ _ _ _ _ rfl (GH _) ?_|refine Args.cons _ _ _ _ _ rfl (Fx _) ?_|refine Args.cons _ _ _ _ _ rfl (GM rfl (by repeat (first|exact AX _|exact LeA.nil _|exact LeL.refl _|refine LeA.agg ?_|refine LeA.tup ?_|exact LeL.nil|refine LeL.cons ?_ ?_|exact LeA.any _))) ?_)) rfl (YE l) (by repeat constructor) ?_)
 skip
 refine a_ (h:=e_ (w_ (m_ (h:=?_))));refine A6 rfl (Ax 0 (hc:=Yg l _ (by omega)) (hR:=?_));rintro r a1 ha1 ⟨s,rfl,hv,hm⟩;refine⟨rfl,_,(by repeat constructor),?_⟩;have hmm:s.mounts.length≤1000:=by omega
 have hsb:=hv.b hmm;refine Ac (h:=s_ (h:=e_ (w_ (m_ (h:=?_)))));refine A6 rfl (Vi 0 (hc:=fG l _ 8 (by omega) (by omega)) (hR:=?_));rintro rows a2 ha2 ⟨L,hL,rfl⟩;refine⟨_,(by repeat constructor),?_⟩;refine a_ (h:=e_ (?_));refine CA (fun S=>∃(M:List Rul) (b:Nat),M.length≤21∧(∀r∈M,Cb r)∧S=⟨look [(3, .bp 0 0),(4, .bp 1 0),(5, .sl 8 (M.map Aa) none)],⟨[Cm l b,Aj s],[]⟩⟩) ?_ ?_
 ·skip
  refine w_ (m_ (h:=?_));refine A6 rfl (Ax 0 (hc:=Gn l _ (6) (by omega) (by omega)) (hR:=?_));rintro r a2 ha2 ⟨k2,rfl,p2,q2,o2⟩;refine⟨rfl,_,(by repeat constructor),?_⟩;refine AN (h:=e_ (?_));refine A9 rfl (fun hb1=>?_) (fun hb1=>?_)
  ·have hc1:=bp hb1;refine AW (m_ (h:=m_ (h:=?_)));refine A6 rfl (Ax 0 (hc:=UZ l _ (by omega)) (hR:=?_));rintro r a3 ha3 ⟨x,hx,rfl⟩;refine⟨rfl,_,(by repeat constructor),?_⟩;refine Bo (h:=?_)
   first|refine A6 rfl (E7 rfl rfl rfl (by have:=hL.len;simp<;>omega) (by repeat constructor) ?_)|refine A6 rfl (E8 rfl rfl (by have:=hL.len;simp<;>omega) (by repeat constructor) ?_)
   refine a_ (h:=AQ (?_));refine AK ?_
   first|exact⟨_,⟨L++[x],_,by have:=hL.len;simp;omega,fun r hr=>(List.mem_append.1 hr).elim (hL.ins r) (fun h=>by rw[List.mem_singleton.1 h];exact hx),rfl⟩,(by rw[List.map_append];exact Az 2 0 rfl rfl rfl rfl ((by repeat (first|exact Sub.nil|refine B0 rfl rfl ?_|refine B3 ?_|refine B4 rfl ?_|refine B5 rfl ?_))))⟩|exact⟨_,⟨L,_,by have:=hL.len;omega,hL.ins,rfl⟩,Az 2 0 rfl rfl rfl rfl ((by repeat (first|exact Sub.nil|refine B0 rfl rfl ?_|refine B3 ?_|refine B4 rfl ?_|refine B5 rfl ?_)))⟩
  have hc1:=bp hb1;refine Aw (?_);refine AK ?_
  first|exact⟨_,⟨L++[x],_,by have:=hL.len;simp;omega,fun r hr=>(List.mem_append.1 hr).elim (hL.ins r) (fun h=>by rw[List.mem_singleton.1 h];exact hx),rfl⟩,(by rw[List.map_append];exact Az 2 0 rfl rfl rfl rfl ((by repeat (first|exact Sub.nil|refine B0 rfl rfl ?_|refine B3 ?_|refine B4 rfl ?_|refine B5 rfl ?_))))⟩|exact⟨_,⟨L,_,by have:=hL.len;omega,hL.ins,rfl⟩,Az 2 0 rfl rfl rfl rfl ((by repeat (first|exact Sub.nil|refine B0 rfl rfl ?_|refine B3 ?_|refine B4 rfl ?_|refine B5 rfl ?_)))⟩
 rintro S ⟨M,b,hml,hin,rfl⟩;have hl1:AFn prog 41 [.sl 8 (M.map Aa) none, .agg (Aj s)] (fun x=>x= .tup [.agg (Cf (D5 s M).1), .v (.int .i64 (D5 s M).2)]):=UP s M hv hmm (by omega) hin;have hl2:AFn prog 42 [.sl 8 (M.map Aa) none, .agg (Aj s)] (fun x=>x= .tup [.agg (Cf (D5 s M).1), .v (.int .i64 (D5 s M).2)]):=dF s M hv hmm (by omega) hin;obtain⟨sx,hin,hsnd⟩:=fC hv hml hin;generalize D5 s M=X at hl1 hl2 sx hin hsnd;refine w_ (m_ (h:=l_ (h:=?_)));refine A6 rfl (AJ (hl1) ?_);rintro r rfl;refine m_ (h:=x_ (h:=x_ (h:=Ac (h:=s_ (h:=a_ (h:=e_ (w_ (m_ (h:=l_ (h:=?_))))))))));refine A6 rfl (AJ (hl2) ?_);rintro r rfl;refine m_ (h:=x_ (h:=x_ (h:=Ac (h:=s_ (h:=a_ (h:=e_ (w_ (m_ (h:=m_ (h:=AN (h:=m_ (h:=?_))))))))))));refine AR true rfl rfl (fun hb2=>?_) (fun hb2=>?_)
 ·have hc2:=bp hb2;refine l_ (h:=l_ (h:=?_));refine Av (AJ (dQ X.1 sx.rl sx.wl sx.ts) ?_);rintro r rfl;refine AB (h:=m_ (h:=?_));refine AR true rfl rfl (fun hb3=>?_) (fun hb3=>?_)
  ·have hc3:=bp hb3;refine m_ (h:=Ao (h:=m_ (h:=?_)));refine AR false rfl rfl (fun hb4=>?_) (fun hb4=>?_)
   ·have hc4:=bp hb4;refine A3 (h:=A3 (h:=A3 (h:=AB (h:=AB (h:=m_ (h:=?_))))));refine Av (AJ (Uo) ?_);rintro r rfl;refine AB (h:=a_ (h:=e_ (A4 (?_))));refine A8 ?_
    first|rfl|(exfalso;first|contradiction|omega|(simp_all;done))
   have hc4:=bp hb4;refine l_ (h:=l_ (h:=?_));refine Av (AJ (dO s X.1 hsb (by have:=sx.rl;omega) hin) ?_);rintro r rfl;rw[hsnd (by assumption)];refine AF (h:=AB (h:=m_ (h:=?_)));refine AR true rfl rfl (fun hb5=>?_) (fun hb5=>?_)
   ·have hc5:=bp hb5;refine Av (AJ (Uo) ?_);rintro r rfl;refine AB (h:=a_ (h:=e_ (A4 (?_))));refine A8 ?_
    first|rfl|(exfalso;first|contradiction|omega|(simp_all;done))
   have hc5:=bp hb5;refine A3 (h:=AF (h:=a_ (h:=e_ (A4 (?_)))));refine A8 ?_
   first|rfl|(exfalso;first|contradiction|omega|(simp_all;done))
  have hc3:=bp hb3;refine A3 (h:=A3 (h:=A3 (h:=AU (h:=AU (h:=AU (h:=A3 (h:=AF (h:=m_ (h:=A3 (h:=AF (h:=a_ (h:=e_ (A4 (?_))))))))))))));refine A8 ?_
  first|rfl|(exfalso;first|contradiction|omega|(simp_all;done))
 have hc2:=bp hb2;refine A3 (h:=A3 (h:=A3 (h:=AF (h:=m_ (h:=A3 (h:=A3 (h:=A3 (h:=AU (h:=AU (h:=AU (h:=A3 (h:=AF (h:=m_ (h:=A3 (h:=AF (h:=a_ (h:=e_ (A4 (?_)))))))))))))))))));refine A8 ?_
 first|rfl|(exfalso;first|contradiction|omega|(simp_all;done))
end
theorem FilterLoads_walk{H:Type}{enc:TypeId×Value→H}{sp:Nat→Bool}{held:Bool}{base:Nat}(a:Option Addr)(n c:Nat)(w:World){d:DataW H}{p:List MemPlace}(h:DataW.Trod enc prog w base sp held 22 (.slice a n c) d p):
    Calls prog 7 #[.slice a n c] w fun e w'=>e= .returned (.bool true)∧Below w.heap.size w w':=Yr fH a n c w h
end Go.Proofs.YtbgnigjfkbmceaaGreatDoor
