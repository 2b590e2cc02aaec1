/-
  Part 15 of the proof of FilterDecidesP: what the statement's proof uses of the texts in wip/tpl.
-/
import Derived.Test.YtbgnigjfkbmceaaGreatDoorQh14
open Go.Proofs.Tryz (prog)
set_option maxRecDepth 10000
set_option maxHeartbeats 4000000
set_option linter.unusedVariables false
set_option linter.unusedSimpArgs false
namespace Go.Proofs.YtbgnigjfkbmceaaGreatDoor
open Go.RowKit
section
theorem nU(l:List Rul)(r:Rul)(hl:l.length≤1000)(hi:∀r∈l,FR r)(hr:FR r):AFn prog 61 [.sl 8 (l.map Ab) none, .agg (Ab r), .v (.bool true)] (fun x=>x=JU (D6 l r true)):=by
 refine enter Tryz.func61 rfl rfl rfl rfl rfl 0 rfl ?_;refine EG (h:=a_ (h:=Bo (h:=?_)));refine A3 rfl (A8 (ZF l hl hi) ?_);rintro r rfl;refine Bt (h:=Bl (h:=?_));refine A4 rfl (fun hb1 hc1=>?_) (fun hb1 hc1=>?_)
 ·refine Aa (h:=EV (h:=?_));refine AX (r:=JU (D6 l r true)) none (h5:=?_) (h6:=⟨rfl,rfl,rfl⟩);exact My (by simp[D6, *])
 refine Eh (h:=C4 (h:=?_));refine A3 rfl (A8 (Rp r hr) ?_);rintro r rfl;refine Bt (h:=Bl (h:=?_));refine A4 rfl (fun hb2 hc2=>?_) (fun hb2 hc2=>?_)
 ·refine Aa (h:=EV (h:=?_));refine AX (r:=JU (D6 l r true)) none (h5:=?_) (h6:=⟨rfl,rfl,rfl⟩);exact My (by simp[D6, *])
 refine EX (h:=l_ (h:=?_));refine A3 rfl (A8 (UY l r hl fun x hx=>(hi x hx).2.2.2) ?_);rintro r rfl;refine DR (h:=e_ (?_));refine A4 rfl (fun hb3 hc3=>?_) (fun hb3 hc3=>?_)
 ·refine w_ (EV (h:=?_));refine AX (r:=JU (D6 l r true)) none (h5:=?_) (h6:=⟨rfl,rfl,rfl⟩);exact My (by simp[D6, *])
 refine EX (h:=n_ (h:=Bd (h:=?_)));refine A4 rfl (fun hb4 hc4=>?_) (fun hb4 hc4=>?_)
 ·rw[List.length_map]at hc4;refine w_ (EV (h:=?_));refine AX (r:=JU (D6 l r true)) none (h5:=?_) (h6:=⟨rfl,rfl,rfl⟩);exact My (by simp[D6, *])
 rw[List.length_map]at hc4;have h5:=ZG (not_not_intro hc1);have h4:¬24≤(l.length:Int):=by omega
 refine EX (h:=e_ (?_));refine A4 rfl (fun hb5 hc5=>?_) (fun hb5 hc5=>?_)
 ·refine C4 (h:=?_);refine A3 rfl (A8 (Rr r hr.2.2.2) ?_);rintro r rfl;refine A3 rfl (SU (by repeat (first|exact DenseA.nil _|(apply DenseA.cons;(focus exact rfl);(focus exact rfl);(focus exact rfl);(focus exact rfl))|(apply DenseA.consE;(focus exact rfl);(focus exact rfl);(focus exact rfl)))) rfl rfl rfl rfl (by repeat constructor) ?_);refine m_ (h:=?_);refine A3 rfl (A8 (nT l hl fun x hx=>(hi x hx).2.2.2) ?_);rintro r rfl;refine Gb (h:=a_ (h:=a_ (h:=e_ (B3 (BN (?_))))));refine AX (r:=JU (D6 l r true)) none (h5:=?_) (h6:=⟨rfl,rfl,rfl⟩);exact ZH (l:=r::l) (by simp[D6, *])
 exact ET
theorem nV(l:List Rul)(r:Rul)(hl:l.length≤1000)(hi:∀r∈l,FR r)(hr:FR r):AFn prog 61 [.sl 8 (l.map Ab) none, .agg (Ab r), .v (.bool false)] (fun x=>x=JU (D6 l r false)):=by
 refine enter Tryz.func61 rfl rfl rfl rfl rfl 0 rfl ?_;refine EG (h:=a_ (h:=Bo (h:=?_)));refine A3 rfl (A8 (ZF l hl hi) ?_);rintro r rfl;refine Bt (h:=Bl (h:=?_));refine A4 rfl (fun hb1 hc1=>?_) (fun hb1 hc1=>?_)
 ·refine Aa (h:=EV (h:=?_));refine AX (r:=JU (D6 l r false)) none (h5:=?_) (h6:=⟨rfl,rfl,rfl⟩);exact My (by simp[D6, *])
 refine Eh (h:=C4 (h:=?_));refine A3 rfl (A8 (Rp r hr) ?_);rintro r rfl;refine Bt (h:=Bl (h:=?_));refine A4 rfl (fun hb2 hc2=>?_) (fun hb2 hc2=>?_)
 ·refine Aa (h:=EV (h:=?_));refine AX (r:=JU (D6 l r false)) none (h5:=?_) (h6:=⟨rfl,rfl,rfl⟩);exact My (by simp[D6, *])
 refine EX (h:=l_ (h:=?_));refine A3 rfl (A8 (UY l r hl fun x hx=>(hi x hx).2.2.2) ?_);rintro r rfl;refine DR (h:=e_ (?_));refine A4 rfl (fun hb3 hc3=>?_) (fun hb3 hc3=>?_)
 ·refine w_ (EV (h:=?_));refine AX (r:=JU (D6 l r false)) none (h5:=?_) (h6:=⟨rfl,rfl,rfl⟩);exact My (by simp[D6, *])
 refine EX (h:=n_ (h:=Bd (h:=?_)));refine A4 rfl (fun hb4 hc4=>?_) (fun hb4 hc4=>?_)
 ·rw[List.length_map]at hc4;refine w_ (EV (h:=?_));refine AX (r:=JU (D6 l r false)) none (h5:=?_) (h6:=⟨rfl,rfl,rfl⟩);exact My (by simp[D6, *])
 rw[List.length_map]at hc4;have h5:=ZG (not_not_intro hc1);have h4:¬24≤(l.length:Int):=by omega
 refine EX (h:=e_ (?_));refine A4 rfl (fun hb5 hc5=>?_) (fun hb5 hc5=>?_)
 ·exact ET
 refine AG (q_ (BR ([(0,Ab r)]) 8 (h:=AE 0 (h:=?_))))
 first|refine A9 2 (h:=?_)|refine C5 2 rfl (fun _ hS=>KV rfl (by rw[hS];rfl) rfl ⟨rfl,rfl⟩) ?_
 refine c_ 1 rfl (SW rfl (by repeat (first|exact Args.nil|refine Args.cons _ _ _ _ _ rfl (LP rfl) ?_|refine Args.cons _ _ _ _ _ rfl (MZ _) ?_|refine Args.cons _ _ _ _ _ rfl (Lq _) ?_|refine Args.cons _ _ _ _ _ rfl (Md rfl (by repeat (first|exact A7 _|exact LeA.nil _|exact LeL.refl _|refine LeA.agg ?_|refine LeA.tup ?_|exact LeL.nil|refine LeL.cons ?_ ?_|exact LeA.any _))) ?_)) (nR l hl fun x hx=>(hi x hx).2.2.2) (fun _=>rfl) (by repeat constructor) ?_);refine o_ (h:=?_);refine c_ 3 rfl (A8 (Rr r hr.2.2.2) ?_);rintro r rfl;refine o_ (h:=K4 4 (h:=?_))
 first|refine c_ 5 rfl (EF rfl rfl rfl (by simp<;>omega) (by repeat constructor) ?_)|refine c_ 5 rfl (JC rfl rfl (by simp<;>omega) (by repeat constructor) ?_)
 refine o_ (h:=B9 6 (h:=B9 7 (h:=z_ (h:=t_ (B3 (?_))))));refine AX (r:=JU (D6 l r false)) none (h5:=?_) (h6:=⟨rfl,rfl,rfl⟩);have:=ZH (x:=D6 l r false) (l:=l++[r]) (e:=0) (by simp[D6, *]);rw[List.map_append]at this;exact this
theorem ZJ(l:List Rul)(r:Rul)(front:Bool)(hl:l.length≤1000)(hi:∀r∈l,FR r)(hr:FR r):AFn prog 61 [.sl 8 (l.map Ab) none, .agg (Ab r), .v (.bool front)] (fun x=>x=JU (D6 l r front)):=by
 cases front
 ·exact nV l r hl hi hr
 exact nU l r hl hi hr
end
def nW(u:Int):Ctx:=⟨2,0,0,u,0,0,0,0,0,(0,0),⟨#[]⟩,⟨#[]⟩,false,0,0,0,0,0,0,[],0⟩
def Od:Cxs:=⟨[],[],[]⟩
theorem UZ{α:Type}{l:List α}{j:Nat}{x:α}(h:l[j]?=some x)(p:α→Bool):(l.take (j+1)).any p=((l.take j).any p||p x):=by
 rw[List.take_add_one,h,List.any_append];simp
structure Pol where
 rules:List Rul
 wats:List Wch
deriving DecidableEq
def Bn(p:Pol):List AV:=[.sl 8 (p.rules.map Ab) none, .sl 6 (p.wats.map EC) none]
def JV:Pol:=⟨[],[]⟩
def Ku(x:Pol×Int):AV:= .tup [.agg (Bn x.1), .v (.int .i64 x.2)]
def DO(s:Spc)(r:Rul):Wch×Int:=if r.watch=0 then(GB,0)else if(Ob s r.watch r.path).2≠0 then(GB,180)else((Ob s r.watch r.path).1,0)
def Ll(s:Spc)(l:List Rul):Pol×Int:=if ED l≠0 then(JV,ED l)else if l.all (fun r=>decide ((DO s r).2=0))=true then(⟨l,l.map fun r=>(DO s r).1⟩,0)else(JV,180)
def J6(s:Spc)(p:Pol)(r:Rul)(front:Bool):Pol×Int:=
 if(D6 p.rules r front).2≠0 then(JV,(D6 p.rules r front).2)else if(DO s r).2≠0 then(JV,(DO s r).2)
 else(⟨(D6 p.rules r front).1,if front=true then(DO s r).1::p.wats else p.wats++[(DO s r).1]⟩,0)
theorem nX(s:Spc)(r:Rul):(DO s r).2=0∨(DO s r).2=180:=by
 unfold DO;split
 ·exact .inl rfl
 split
 ·exact .inr rfl
 exact .inl rfl
section
theorem ZK(s:Spc)(r:Rul)(hv:SpcV s)(hm:s.mounts.length≤1000)(hr:FR r):AFn prog 90 [.agg (Ab r), .agg (AW s)] (fun x=>x=Rn (DO s r)):=by
 obtain⟨F,hF⟩:∃F,Ob s r.watch r.path=F:=⟨_,rfl⟩;have hplc:AFn prog 130 [.agg (AW s), .v (.int .i64 r.watch), .v (.string r.path)] (fun x=>x= .tup [.agg (EC F.1), .v (.int .i64 F.2)]):=by rw[←hF];exact mY s r.watch r.path hv hm hr.2.2.1
 have hw:DO s r=if r.watch=0 then(GB,0)else if F.2≠0 then(GB,180)else(F.1,0):=by rw[DO,hF]
 refine enter Tryz.func90 rfl rfl rfl rfl rfl 0 rfl ?_;refine FU (h:=Fy (h:=Bd (h:=?_)));refine A4 rfl (fun hb1 hc1=>?_) (fun hb1 hc1=>?_)
 ·have k1:r.watch=0:=hc1;refine Bx (h:=?_);refine A6 ?_;rw[hw,if_pos k1];rfl
 have k1:¬r.watch=0:=hc1;refine AG (C4 (h:=Eg (h:=?_)));refine A3 rfl (A8 (hplc) ?_);rintro r rfl;refine JJ (h:=Bl (h:=?_));refine A4 rfl (fun hb2 hc2=>?_) (fun hb2 hc2=>?_)
 ·have k2:F.2≠0:=by simpa using hc2
  refine Bx (h:=?_);refine A6 ?_;rw[hw,if_neg k1,if_pos k2];rfl
 have k2:¬F.2≠0:=by simpa using hc2
 refine AG (Di (h:=Az (h:=?_)));refine A6 ?_;rw[hw,if_neg k1,if_neg k2];rfl
theorem nY(p:Pol)(i:Nat)(x:Wch)(hl:p.wats.length≤1000)(hx:p.wats[i]?=some x):AFn prog 70 [.agg (Bn p), .v (.int .i64 (i:Int))] (fun r=>r= .agg (EC x)):=by
 have hlt:i<p.wats.length:=(Af.1 hx).1;have hrow:(p.wats.map EC)[i]?=some (EC x):=by rw[List.getElem?_map,hx];rfl
 refine enter Tryz.func70 rfl rfl rfl rfl rfl 0 rfl ?_;refine E5 (h:=e_ (Bf (h:=DK (h:=?_))));refine AJ false rfl rfl (fun hb1 hc1=>?_) (fun hb1 hc1=>?_)
 ·exact ET
 refine m_ (h:=AO (h:=n_ (h:=DR (h:=CO (h:=?_)))));refine A4 rfl (fun hb2 hc2=>?_) (fun hb2 hc2=>?_)
 ·have hc2:=bp hb2;simp at hc2;omega
 refine AG (H9 (h:=l_ (h:=Ei (h:=B3 (?_)))));refine A6 ?_;rfl
theorem nZ(r:Rul)(hr:r.tests.length≤1000):AFn prog 87 [.agg (Ab r)] (fun x=>x= .agg (Ab r)):=by
 refine enter Tryz.func87 rfl rfl rfl rfl rfl 0 rfl ?_;refine E5 (h:=e_ (Ay (h:=?_)));refine A3 rfl (A8 (nK r.tests hr) ?_);rintro r rfl;refine DF (h:=Di (h:=e_ (B3 (?_))));refine A6 ?_;rfl
end
def J7(s:Spc)(l:List Rul):List Wch:=l.map fun r=>(DO s r).1
theorem o0{s:Spc}{l:List Rul}{j:Nat}{r:Rul}(h:l[j]?=some r):(J7 s (l.take (j+1))).map EC=(J7 s (l.take j)).map EC++[EC (DO s r).1]:=by
 simp[J7,List.take_add_one,h]
theorem o8{s:Spc}{l:List Rul}{j:Nat}{r:Rul}(h:l[j]?=some r)(ha:∀r∈l.take j,(DO s r).2=0)(hr:(DO s r).2=0):∀r∈l.take (j+1),(DO s r).2=0:=by
 intro x hx;rw[List.take_add_one,h]at hx;rcases List.mem_append.1 hx with hx|hx
 ·exact ha x hx
 have e:x=r:=by simpa using hx
 rw[e];exact hr
theorem oA{s:Spc}{l:List Rul}(h:ED l≠0):Ll s l=(JV,ED l):=by rw[Ll,if_pos h]
theorem oB{s:Spc}{l:List Rul}{r:Rul}(h:¬ED l≠0)(hr:r∈l)(hp:(DO s r).2≠0):Ll s l=(JV,(DO s r).2):=by
 rw[Ll,if_neg h,if_neg]
 ·rcases nX s r with e|e
  ·exact absurd e hp
  rw[e]
 intro k;exact hp (of_decide_eq_true (List.all_eq_true.1 k r hr))
theorem ZL{s:Spc}{l:List Rul}(h:¬ED l≠0)(ha:∀r∈l,(DO s r).2=0):Ll s l=(⟨l,J7 s l⟩,0):=by
 rw[Ll,if_neg h,if_pos]
 ·rfl
 exact List.all_eq_true.2 fun r hr=>decide_eq_true (ha r hr)
theorem Oe{x:Pol×Int}{e:Int}(h:x=(JV,e)):LeA (.tup [.agg [.v (.slice none 0 0), .v (.slice none 0 0)], .v (.int .i64 e)]) (Ku x):=by
 rw[h];exact(by repeat (first|exact A7 _|exact LeA.nil _|exact LeL.refl _|refine LeA.agg ?_|refine LeA.tup ?_|exact LeL.nil|refine LeL.cons ?_ ?_|exact LeA.any _))
section
theorem oC(s:Spc)(r:Rul)(h0:r.watch=0):AFn prog 86 [.agg (AW s), .agg (Ab r)] (fun x=>x=Rn (DO s r)):=by
 have hw:DO s r=(GB,0):=if_pos h0;refine enter Tryz.func86 rfl rfl rfl rfl rfl 0 rfl ?_;refine FU (h:=Fy (h:=Bd (h:=?_)));refine A4 rfl (fun hb1 hc1=>?_) (fun hb1 hc1=>?_)
 ·refine Bx (h:=?_);refine A6 ?_;rw[hw];rfl
 exact ET
theorem oD(s:Spc)(l:List Rul)(hl:l.length≤1000)(hi:∀r∈l,FR r)(hplc0:∀r,r∈l→AFn prog 86 [.agg (AW s), .agg (Ab r)] (fun x=>x=Rn (DO s r))):AFn prog 41 [.sl 8 (l.map Ab) none, .agg (AW s)] (fun x=>x=Ku (Ll s l)):=by
 have hplc:∀r,r∈l→AFn prog 86 [.agg (AW s), .agg (Ab r)] (fun x=>x= .tup [.agg (EC (DO s r).1), .v (.int .i64 (DO s r).2)]):=hplc0;refine enter Tryz.func41 rfl rfl rfl rfl rfl 0 rfl ?_;refine E5 (h:=Bo (h:=?_));refine A3 rfl (A8 (nQ l hl hi) ?_);rintro r rfl;refine Bt (h:=Bl (h:=?_));refine A4 rfl (fun hb1 hc1=>?_) (fun hb1 hc1=>?_)
 ·have k1:ED l≠0:=by simpa using hc1
  refine w_ (HL (h:=Dd (h:=?_)));refine AX (r:=Ku (Ll s l)) none (h5:=?_) (h6:=⟨rfl,rfl,rfl⟩);exact Oe (oA k1)
 have k1:¬ED l≠0:=by simpa using hc1
 refine AG (w_ (CU (h:=e_ (Bf (h:=JP (h:=e_ (BF (?_))))))));refine Ls 2 0 83 8 rfl rfl (by repeat constructor) (by repeat constructor) (by repeat constructor) ?_;refine Ls 2 1 93 6 rfl rfl (by repeat constructor) (by repeat constructor) (by repeat constructor) ?_;refine BM (fun n S=>∃j:Nat,j≤l.length∧n=l.length - j∧(∀r∈l.take j,(DO s r).2=0)∧S=⟨look [(3, .bp 0 0),(4, .bp 1 0),(7, .bp 2 0),(18, .sl 8 (l.map Ab) none),(19, .v (.int .i64 ((l.map Ab).length:Int))),(20, .v (.int .i64 (j:Int)))],⟨[AW s,[.v (.slice none 0 0), .v (.slice none 0 0)],[.sl 8 ((l.take j).map Ab) (some 0), .sl 6 ((J7 s (l.take j)).map EC) (some 1)]],[(83,8,(l.take j).map Ab),(93,6,(J7 s (l.take j)).map EC)]⟩⟩) (l.length) ((wk 3 2)) (⟨0,BE _,rfl,by simp,rfl⟩) ?_;rintro n S ⟨j,hj,rfl,ha,rfl⟩;refine w_ (Cv (h:=q_ (?_)));refine A4 rfl (fun hb2 hc2=>?_) (fun hb2 hc2=>?_)
 ·obtain⟨hlt,r,hy,hrow,e⟩:=Br Ab hc2;refine By (h:=w_ (i_ (h:=Jb (h:=CA (h:=?_)))));refine A3 rfl (A8 (hplc r (Am hy)) ?_);rintro r rfl;refine JJ (h:=Bl (h:=?_));refine A4 rfl (fun hb3 hc3=>?_) (fun hb3 hc3=>?_)
  ·have k2:(DO s r).2≠0:=by simpa using hc3
   refine w_ (HL (h:=Dd (h:=D8 (h:=Dk (h:=?_)))));refine AX (r:=Ku (Ll s l)) none (h5:=?_) (h6:=⟨rfl,rfl,rfl⟩);exact Oe (oB k1 (Am hy) k2)
  have k2:(DO s r).2=0:=by simpa using hc3
  refine AG (q_ (BR ([(0,AW s),(1,[.v (.slice none 0 0), .v (.slice none 0 0)]),(2,[.sl 8 ((l.take j).map Ab) (some 0), .sl 6 ((J7 s (l.take j)).map EC) (some 1)]),(3,Ab r)]) 6 (h:=AA 0 (h:=A9 1 (h:=A9 2 (h:=?_))))));refine c_ 3 rfl (A8 (nZ r (hi r (Am hy)).2.2.2) ?_);rintro r rfl;refine o_ (h:=K4 4 (h:=?_))
  first|refine c_ 5 rfl (EF rfl rfl rfl (by simp[J7]<;>omega) (by repeat constructor) ?_)|refine c_ 5 rfl (JC rfl rfl (by simp[J7]<;>omega) (by repeat constructor) ?_)
  refine o_ (h:=?_);refine c_ 6 rfl (KU rfl ?_);refine o_ (h:=?_);refine B8 7 (h:=z_ (h:=t_ (Aw (f_ (h:=l_ (h:=l_ (h:=BX (h:=?_))))))))
  first|refine A3 rfl (EF rfl rfl rfl (by simp[J7]<;>omega) (by repeat constructor) ?_)|refine A3 rfl (JC rfl rfl (by simp[J7]<;>omega) (by repeat constructor) ?_)
  refine Dh (h:=Bw (BA (t_ (Aw (JQ (h:=?_))))));refine⟨_,_,?_,⟨j+1,by omega,rfl,o8 hy ha k2,rfl⟩,?_⟩
  ·omega
  rw[e,o0 hy];exact(wk 3 2)
 have e:=C6 Ab hj hc2;subst e;rw[List.take_length]at ha ⊢;refine CP (h:=Di (h:=Az (h:=?_)));refine A6 ?_;rw[ZL k1 ha];rfl
end
section
theorem oE(l:List Int)(a:Nat)(ha:a≤100000000000):GenF prog 84 l a [] 4 (fun r=>∃s:ByteArray,r= .v (.string s)∧s.size≤60):=by
 refine enter Tryz.func84 rfl rfl rfl rfl rfl 1 rfl ?_;refine D7 (h:=w_ (Bo (h:=BX (h:=?_))));refine A3 rfl (B1 0 (hc:=Gl l _ _ (fun z=>decide (1≤z∧z≤3)) (by omega) (by rfl) (by rfl) (by rfl)) (hR:=?_));rintro r a1 ha1 ⟨k1,rfl,p1⟩;refine B2 ?_;obtain⟨hz1,hz2⟩:=of_decide_eq_true p1;obtain⟨m,rfl⟩:=Int.eq_ofNat_of_zero_le (show 0≤k1 by omega);refine BO (h:=BF (?_));refine BM (fun n s=>∃(j a1:Nat) (t:ByteArray),j≤m∧n=j∧a1≤a+1+(m - j)∧t.size≤2 * (m - j)∧s=⟨look [(0, .bp 0 0),(3, .v (.string t)),(4, .v (.int .i64 (j:Int)))],⟨[Dr l a1],[]⟩⟩) (m) ((wk 1 0)) (⟨m,a1,⟨#[]⟩,by omega,rfl,by omega,by rw[Nat.sub_self];exact B7 0,rfl⟩) ?_;rintro n s ⟨j,b1,t,hj,hn,hb1,ht,rfl⟩;subst n;refine Bf (h:=Ed (h:=e_ (?_)));refine A4 rfl (fun hb1 hc1=>?_) (fun hb1 hc1=>?_)
 ·refine By (h:=EK (h:=BX (h:=?_)));refine A3 rfl (B1 0 (hc:=Mr l _ _ (fun s=>decide (s.size≤1)) (by omega) (by rfl) (by rfl) (by rfl)) (hR:=?_));rintro r a2 ha2 ⟨k2,rfl,p2⟩;refine B2 ?_;have hw:=of_decide_eq_true p2;refine A3 rfl (H0 rfl rfl (by show 1+k2.size≤_;omega) ?_);refine A3 rfl (H0 rfl rfl (by have e:=ByteArray.size_append (a:=⟨#[47]⟩) (b:=k2);have:(⟨#[47]⟩:ByteArray).size=1:=rfl;omega) ?_);refine H6 (h:=BA (t_ (C2 (h:=JE (h:=Cw (h:=?_))))));obtain⟨j,rfl⟩:∃i,j=i+1:=⟨j - 1,by omega⟩;refine⟨_,_,?_,⟨j,_,_,by omega,rfl,?_,?_,rfl⟩,Ah 1 0 rfl rfl rfl rfl (by repeat (first|exact Sub.nil|refine Ai rfl rfl ?_|(apply Sub.of;(focus exact rfl);(focus exact LeA.of_eq (vi (by omega)));(focus exact rfl))))⟩
  ·omega
  ·omega
  have e:=ByteArray.size_append (a:=⟨#[47]⟩) (b:=k2);have e2:=ByteArray.size_append (a:=t) (b:=⟨#[47]⟩++k2);have:(⟨#[47]⟩:ByteArray).size=1:=rfl;omega
 refine CP (h:=Dv (h:=?_));refine AX none (h5:=(A7 _)) (h6:=⟨_,rfl,rfl,b1,by omega,rfl,t,rfl,by omega⟩)
end
def Bare(s:Spc):Prop:=FlsV s.files∧0<s.files.length∧s.mounts=[]
theorem Bare.v{s:Spc}(h:Bare s):SpcV s:=⟨h.1,h.2.1,fun i m hm=>by rw[h.2.2]at hm;cases hm⟩
theorem Bare.m{s:Spc}(h:Bare s):s.mounts.length≤1000:=by rw[h.2.2];exact BE _
theorem KM:TabB EB:=⟨BE _,(fun p hp=>by cases hp),by decide,by decide⟩
theorem oF{t:Tab}(ht:TabB t)(pid:Int)(a:AD)(fl:Int):TabB (GW t pid a fl).1:=by
 unfold GW;split
 ·exact KM
 split
 ·exact KM
 rename_i h8;refine⟨by simpa[JS]using ht.few,fun p hp=>?_,ht.next,ht.nextS⟩;simp only[JS,List.mem_map]at hp;obtain⟨x,hx,rfl⟩:=hp;split
 ·simp[OS];omega
 exact ht.opens x hx
theorem ZM{w:Wrk}{R:Tab×Int}(h:TabB w.s.tab)(hR:TabB R.1):TabB (CJ w R).1.s.tab:=by
 unfold CJ;split
 ·exact hR
 exact h
theorem Ua(w:Wrk)(R:Tab×Int):(CJ w R).1.s.spc=w.s.spc:=by
 unfold CJ;split<;>rfl
def oG(s:Syst):Prop:=Bare s.spc∧TabB s.tab
theorem ZN:oG (KJ 1).1:=by
 have h:=Xq (k:=1) (by decide) (by decide)
 have e:(KJ 1).1=⟨⟨(GO 1).1,[]⟩,OQ (0,1)⟩:=by
  unfold KJ;rw[if_neg (by decide)]
 rw[e];exact⟨⟨h.1,h.2,rfl⟩,⟨by decide,by decide,by decide,by decide⟩⟩
section
variable (s:Spc)(p:Pol)(r:Rul)(hv:SpcV s)(hm:s.mounts.length≤1000)(h1:p.rules.length≤1000)(h2:p.wats.length=p.rules.length)(hi:∀r∈p.rules,FR r)(hr:FR r)
include hv hm h1 h2 hi hr
theorem oH(front:Bool)(hf:front=true)(A:List Rul×Int)(hA:D6 p.rules r front=A)(W:Wch×Int)(hW:DO s r=W):AFn prog 57 [.agg (Bn p), .agg (AW s), .agg (Ab r), .v (.bool true)] (fun x=>x=Ku (J6 s p r front)):=by
 have hadd:AFn prog 61 [.sl 8 (p.rules.map Ab) none, .agg (Ab r), .v (.bool true)] (fun x=>x= .tup [.sl 8 (A.1.map Ab) none, .v (.int .i64 A.2)]):=by rw[←hA,hf];exact ZJ p.rules r true h1 hi hr
 have hplc:AFn prog 90 [.agg (Ab r), .agg (AW s)] (fun x=>x= .tup [.agg (EC W.1), .v (.int .i64 W.2)]):=by rw[←hW];exact ZK s r hv hm hr
 have heq:J6 s p r front=if A.2≠0 then(JV,A.2)else if W.2≠0 then(JV,W.2)else(⟨A.1,W.1::p.wats⟩,0):=by rw[J6,hA,hW,hf];rfl
 refine enter Tryz.func57 rfl rfl rfl rfl rfl 0 rfl ?_;refine JN (h:=CU (h:=BO (h:=Ay (h:=HA (h:=?_)))));refine A3 rfl (A8 (hadd) ?_);rintro r rfl;refine Ge (h:=a_ (h:=Bo (h:=Bl (h:=?_))));refine A4 rfl (fun hb1 hc1=>?_) (fun hb1 hc1=>?_)
 ·have k1:A.2≠0:=by simpa using hc1
  refine w_ (HL (h:=Dd (h:=?_)));refine AX (r:=Ku (J6 s p r front)) none (h5:=?_) (h6:=⟨rfl,rfl,rfl⟩);exact Oe (by rw[heq,if_pos k1])
 have k1:¬A.2≠0:=by simpa using hc1
 refine AG (CA (h:=?_));refine A3 rfl (A8 (hplc) ?_);rintro r rfl;refine JJ (h:=Bl (h:=?_));refine A4 rfl (fun hb2 hc2=>?_) (fun hb2 hc2=>?_)
 ·have k2:W.2≠0:=by simpa using hc2
  refine w_ (HL (h:=Dd (h:=?_)));refine AX (r:=Ku (J6 s p r front)) none (h5:=?_) (h6:=⟨rfl,rfl,rfl⟩);exact Oe (by rw[heq,if_neg k1,if_pos k2])
 have k2:¬W.2≠0:=by simpa using hc2
 refine EX (h:=e_ (?_));refine A4 rfl (fun hb3 hc3=>?_) (fun hb3 hc3=>?_)
 ·refine Aa (h:=l_ (h:=?_));refine A3 rfl (SU (by repeat (first|exact DenseA.nil _|(apply DenseA.cons;(focus exact rfl);(focus exact rfl);(focus exact rfl);(focus exact rfl))|(apply DenseA.consE;(focus exact rfl);(focus exact rfl);(focus exact rfl)))) rfl rfl rfl rfl (by repeat constructor) ?_);refine f_ (h:=l_ (h:=Gb (h:=Bk (h:=s_ (h:=a_ (h:=e_ (B3 (BN (?_)))))))));refine A6 ?_;rw[heq,if_neg k1,if_neg k2];rfl
 exact ET
theorem oJ(front:Bool)(hf:front=false)(A:List Rul×Int)(hA:D6 p.rules r front=A)(W:Wch×Int)(hW:DO s r=W):AFn prog 57 [.agg (Bn p), .agg (AW s), .agg (Ab r), .v (.bool false)] (fun x=>x=Ku (J6 s p r front)):=by
 have hadd:AFn prog 61 [.sl 8 (p.rules.map Ab) none, .agg (Ab r), .v (.bool false)] (fun x=>x= .tup [.sl 8 (A.1.map Ab) none, .v (.int .i64 A.2)]):=by rw[←hA,hf];exact ZJ p.rules r false h1 hi hr
 have hplc:AFn prog 90 [.agg (Ab r), .agg (AW s)] (fun x=>x= .tup [.agg (EC W.1), .v (.int .i64 W.2)]):=by rw[←hW];exact ZK s r hv hm hr
 have heq:J6 s p r front=if A.2≠0 then(JV,A.2)else if W.2≠0 then(JV,W.2)else(⟨A.1,p.wats++[W.1]⟩,0):=by rw[J6,hA,hW,hf];rfl
 refine enter Tryz.func57 rfl rfl rfl rfl rfl 0 rfl ?_;refine JN (h:=CU (h:=BO (h:=Ay (h:=HA (h:=?_)))));refine A3 rfl (A8 (hadd) ?_);rintro r rfl;refine Ge (h:=a_ (h:=Bo (h:=Bl (h:=?_))));refine A4 rfl (fun hb1 hc1=>?_) (fun hb1 hc1=>?_)
 ·have k1:A.2≠0:=by simpa using hc1
  refine w_ (HL (h:=Dd (h:=?_)));refine AX (r:=Ku (J6 s p r front)) none (h5:=?_) (h6:=⟨rfl,rfl,rfl⟩);exact Oe (by rw[heq,if_pos k1])
 have k1:¬A.2≠0:=by simpa using hc1
 refine AG (CA (h:=?_));refine A3 rfl (A8 (hplc) ?_);rintro r rfl;refine JJ (h:=Bl (h:=?_));refine A4 rfl (fun hb2 hc2=>?_) (fun hb2 hc2=>?_)
 ·have k2:W.2≠0:=by simpa using hc2
  refine w_ (HL (h:=Dd (h:=?_)));refine AX (r:=Ku (J6 s p r front)) none (h5:=?_) (h6:=⟨rfl,rfl,rfl⟩);exact Oe (by rw[heq,if_neg k1,if_pos k2])
 have k2:¬W.2≠0:=by simpa using hc2
 refine EX (h:=e_ (?_));refine A4 rfl (fun hb3 hc3=>?_) (fun hb3 hc3=>?_)
 ·exact ET
 refine AG (q_ (BR ([(0,Bn p),(1,AW s),(2,Ab r),(4,EC W.1)]) 10 (h:=AE 0 (h:=AA 1 (h:=A9 2 (h:=A9 4 (h:=K4 5 (h:=?_))))))))
 first|refine c_ 3 rfl (EF rfl rfl rfl (by simp<;>omega) (by repeat constructor) ?_)|refine c_ 3 rfl (JC rfl rfl (by simp<;>omega) (by repeat constructor) ?_)
 refine o_ (h:=?_)
 first|refine c_ 6 rfl (EF rfl rfl rfl (by simp<;>omega) (by repeat constructor) ?_)|refine c_ 6 rfl (JC rfl rfl (by simp<;>omega) (by repeat constructor) ?_)
 refine o_ (h:=KZ 7 (h:=?_));refine B8 8 (h:=B9 9 (h:=z_ (h:=t_ (B3 (?_)))));refine A6 ?_;rw[heq,if_neg k1,if_neg k2];simp[Ku,Bn,List.map_append];rfl
theorem Rs(front:Bool):AFn prog 57 [.agg (Bn p), .agg (AW s), .agg (Ab r), .v (.bool front)] (fun x=>x=Ku (J6 s p r front)):=by
 cases front
 ·exact oJ s p r hv hm h1 h2 hi hr false rfl _ rfl _ rfl
 exact oH s p r hv hm h1 h2 hi hr true rfl _ rfl _ rfl
end
theorem Rt(a:Int):0≤IntKind.u64.wrap a∧IntKind.u64.wrap a<18446744073709551616:=by
 simp only[IntKind.wrap,IntKind.signed,IntKind.bits];simp;omega
theorem ZO(a b:Int):0≤Qc .u64 a b∧Qc .u64 a b<18446744073709551616:=Rt _
theorem oK(a b:Int):0≤Qd .u64 a b∧Qd .u64 a b<18446744073709551616:=Rt _
section
theorem ZP(l:List Int)(a:Nat)(ha:a≤100000000000):GenF prog 82 l a [] 40 (fun r=>∃m:Int,r= .v (.int .u64 m)∧0≤m∧m<18446744073709551616):=by
 refine enter Tryz.func82 rfl rfl rfl rfl rfl 1 rfl ?_;refine w_ (Bo (h:=?_));refine A3 rfl (B1 0 (hc:=Gn l _ (6) (by omega) (by omega)) (hR:=?_));rintro r a1 ha1 ⟨k1,rfl,p1,q1,o1⟩;refine B2 ?_;refine e_ (BF (Ak (h:=?_)));refine A4 rfl (fun hb1 hc1=>?_) (fun hb1 hc1=>?_)
 ·refine CB (h:=?_);refine AX none (h5:=(A7 _)) (h6:=⟨_,rfl,rfl,a1,by omega,rfl,_,rfl,by omega,by omega⟩)
 refine Ak (h:=?_);refine A4 rfl (fun hb2 hc2=>?_) (fun hb2 hc2=>?_)
 ·refine Aa (h:=?_);refine A3 rfl (B1 0 (hc:=Gn l _ (32) (by omega) (by omega)) (hR:=?_));rintro r a2 ha2 ⟨k2,rfl,p2,q2,o2⟩;refine B2 ?_
  first|refine A3 rfl (NA rfl Tryz.underlying3 Tryz.underlying113 ?_)|refine A3 rfl (NA rfl Tryz.underlying3 Tryz.underlying80 ?_)
  refine A3 rfl (VS rfl rfl (Rt _).1 ?_);refine Ax (h:=?_);refine AX none (h5:=(A7 _)) (h6:=⟨_,rfl,rfl,a2,by omega,rfl,_,rfl,oK _ _⟩)
 refine BG (BA (t_ (D7 (h:=DT (h:=?_)))));refine BM (fun n s=>∃(j a1:Nat) (m:Int),j≤32∧n=32 - j∧a1≤a+1+j∧0≤m∧m<18446744073709551616∧s=⟨look [(0, .bp 0 0),(3, .v (.int .u64 m)),(4, .v (.int .i64 (j:Int)))],⟨[Dr l a1],[]⟩⟩) (32) ((wk 1 0)) (⟨0,a1,0,by omega,rfl,by omega,by omega,by omega,rfl⟩) ?_;rintro n s ⟨j,b1,m,hj,rfl,hb1,hm1,hm2,rfl⟩;refine Bf (h:=Cv (h:=?_));refine A4 rfl (fun hb3 hc3=>?_) (fun hb3 hc3=>?_)
 ·refine By (h:=EK (h:=?_));refine A3 rfl (B1 0 (hc:=Gn l _ (2) (by omega) (by omega)) (hR:=?_));rintro r a3 ha3 ⟨k3,rfl,p3,q3,o3⟩;refine B2 ?_
  first|refine A3 rfl (NA rfl Tryz.underlying3 Tryz.underlying113 ?_)|refine A3 rfl (NA rfl Tryz.underlying3 Tryz.underlying80 ?_)
  refine m_ (h:=?_)
  first|refine A3 rfl (NA rfl Tryz.underlying3 Tryz.underlying113 ?_)|refine A3 rfl (NA rfl Tryz.underlying3 Tryz.underlying80 ?_)
  refine A3 rfl (VS rfl rfl (Rt _).1 ?_);refine cK (h:=H6 (h:=Ef (h:=?_)));refine⟨_,_,?_,⟨j+1,_,_,by omega,rfl,?_,(ZO _ _).1,(ZO _ _).2,rfl⟩,(wk 1 0)⟩<;>omega
 refine CP (h:=Dv (h:=?_));refine AX none (h5:=(A7 _)) (h6:=⟨_,rfl,rfl,b1,by omega,rfl,m,rfl,hm1,hm2⟩)
theorem oL(l:List Int)(a:Nat)(list:Int)(ha:a≤100000000000):GenF prog 83 l a [.v (.int .i64 list)] 20 (fun r=>∃t:Tst,r= .agg (CF t)):=by
 refine enter Tryz.func83 rfl rfl rfl rfl rfl 1 rfl ?_;refine w_ (CU (h:=e_ (Aa (h:=?_))));refine A3 rfl (B1 0 (hc:=E7 l _ (1) (8) (by omega) (by omega) (by omega) (by omega)) (hR:=?_));rintro r a1 ha1 ⟨k1,rfl,p1,q1⟩;refine B2 ?_;refine m_ (h:=?_);refine A3 rfl (B1 0 (hc:=E7 l _ (1) (8) (by omega) (by omega) (by omega) (by omega)) (hR:=?_));rintro r a2 ha2 ⟨k2,rfl,p2,q2⟩;refine B2 ?_;refine m_ (h:=BX (h:=?_));refine A3 rfl (B1 0 (hc:=Gl l _ _ (fun _=>true) (by omega) (by rfl) (by rfl) (by rfl)) (hR:=?_));rintro r a3 ha3 ⟨k3,rfl,p3⟩;refine B2 ?_;refine Bk (h:=Dw (h:=Aa (h:=?_)));refine A3 rfl (B1 0 (hc:=Gn l _ (8) (by omega) (by omega)) (hR:=?_));rintro r a4 ha4 ⟨k4,rfl,p4,q4,o4⟩;refine B2 ?_;refine BO (h:=?_);refine BC (fun s=>∃(b:Nat) (f o n ot:Int) (t:ByteArray),b≤a+8∧s=⟨look [(0, .bp 0 0),(4, .bp 1 0),(5, .bp 2 0)],⟨[Dr l b,[.v (.int .i64 0), .v (.int .i64 0), .v (.int .i64 0), .v (.string ⟨#[]⟩), .v (.int .i64 0)],[.v (.int .i64 f), .v (.int .i64 o), .v (.int .i64 n), .v (.string t), .v (.int .i64 ot)]],[]⟩⟩) ?_ ?_
 ·skip
  refine BF (Aa (h:=EU (h:=?_)));refine A4 rfl (fun hb1 hc1=>?_) (fun hb1 hc1=>?_)
  ·refine C2 (h:=?_);refine A3 rfl (B1 0 (hc:=E7 l _ (13) (14) (by omega) (by omega) (by omega) (by omega)) (hR:=?_));rintro r a5 ha5 ⟨k5,rfl,p5,q5⟩;refine B2 ?_;refine m_ (h:=?_);refine A3 rfl (B1 0 (hc:=E7 l _ (1) (2) (by omega) (by omega) (by omega) (by omega)) (hR:=?_));rintro r a6 ha6 ⟨k6,rfl,p6,q6⟩;refine B2 ?_;refine m_ (h:=BX (h:=?_));refine A3 rfl (B1 0 (hc:=Mr l _ _ (fun _=>true) (by omega) (by rfl) (by rfl) (by rfl)) (hR:=?_));rintro r a7 ha7 ⟨k7,rfl,p7⟩;refine B2 ?_;refine Hm (h:=Bw (BA (AR (?_))));refine⟨_,⟨_,_,_,_,_,_,?_,rfl⟩,(wk 3 0)⟩<;>omega
  refine Aa (h:=EU (h:=?_));refine A4 rfl (fun hb2 hc2=>?_) (fun hb2 hc2=>?_)
  ·refine C2 (h:=?_);refine A3 rfl (B1 0 (hc:=E7 l _ (3) (7) (by omega) (by omega) (by omega) (by omega)) (hR:=?_));rintro r a8 ha8 ⟨k8,rfl,p8,q8⟩;refine B2 ?_;refine m_ (h:=?_);refine A3 rfl (B1 0 (hc:=E7 l _ (1) (2) (by omega) (by omega) (by omega) (by omega)) (hR:=?_));rintro r a9 ha9 ⟨k9,rfl,p9,q9⟩;refine B2 ?_;refine m_ (h:=?_);refine A3 rfl (B1 0 (hc:=E7 l _ (3) (7) (by omega) (by omega) (by omega) (by omega)) (hR:=?_));rintro r a10 ha10 ⟨k10,rfl,p10,q10⟩;refine B2 ?_;refine Hm (h:=Bw (BA (AR (?_))));refine⟨_,⟨_,_,_,_,_,_,?_,rfl⟩,(wk 3 0)⟩<;>omega
  refine Aa (h:=E4 (h:=?_));refine AJ true rfl rfl (fun hb3 hc3=>?_) (fun hb3 hc3=>?_)
  ·refine CE (h:=EW (h:=?_));refine A4 rfl (fun hb4 hc4=>?_) (fun hb4 hc4=>?_)
   ·refine C2 (h:=?_);refine A3 rfl (B1 0 (hc:=E7 l _ (19) (20) (by omega) (by omega) (by omega) (by omega)) (hR:=?_));rintro r a11 ha11 ⟨k11,rfl,p11,q11⟩;refine B2 ?_;refine m_ (h:=?_);refine A3 rfl (B1 0 (hc:=E7 l _ (1) (2) (by omega) (by omega) (by omega) (by omega)) (hR:=?_));rintro r a12 ha12 ⟨k12,rfl,p12,q12⟩;refine B2 ?_;refine m_ (h:=BX (h:=?_));refine A3 rfl (B1 0 (hc:=Gl l _ _ (fun _=>true) (by omega) (by rfl) (by rfl) (by rfl)) (hR:=?_));rintro r a13 ha13 ⟨k13,rfl,p13⟩;refine B2 ?_;refine Hm (h:=Bw (BA (AR (?_))));refine⟨_,⟨_,_,_,_,_,_,?_,rfl⟩,(wk 3 0)⟩<;>omega
   refine Aa (h:=DK (h:=?_));refine AJ true rfl rfl (fun hb5 hc5=>?_) (fun hb5 hc5=>?_)
   ·refine CE (h:=EW (h:=Hh (h:=Aa (h:=DK (h:=CE (h:=EW (h:=?_)))))));refine A4 rfl (fun hb6 hc6=>?_) (fun hb6 hc6=>?_)
    ·refine C2 (h:=?_);refine A3 rfl (B1 0 (hc:=E7 l _ (9) (12) (by omega) (by omega) (by omega) (by omega)) (hR:=?_));rintro r a14 ha14 ⟨k14,rfl,p14,q14⟩;refine B2 ?_;refine Dh (h:=Bw (BA (AR (?_))));refine⟨_,⟨_,_,_,_,_,_,?_,rfl⟩,(wk 3 0)⟩<;>omega
    refine Aa (h:=DK (h:=?_));refine AJ true rfl rfl (fun hb7 hc7=>?_) (fun hb7 hc7=>?_)
    ·refine CE (h:=EW (h:=?_));refine A4 rfl (fun hb8 hc8=>?_) (fun hb8 hc8=>?_)
     ·refine C2 (h:=?_);refine A3 rfl (B1 0 (hc:=E7 l _ (1) (6) (by omega) (by omega) (by omega) (by omega)) (hR:=?_));rintro r a15 ha15 ⟨k15,rfl,p15,q15⟩;refine B2 ?_;refine m_ (h:=BX (h:=?_));refine A3 rfl (B1 0 (hc:=Gl l _ _ (fun _=>true) (by omega) (by rfl) (by rfl) (by rfl)) (hR:=?_));rintro r a16 ha16 ⟨k16,rfl,p16⟩;refine B2 ?_;refine Hm (h:=Bw (BA (AR (?_))));refine⟨_,⟨_,_,_,_,_,_,?_,rfl⟩,(wk 3 0)⟩<;>omega
     refine BG (BA (AR (?_)));refine⟨_,⟨_,_,_,_,_,_,?_,rfl⟩,(wk 3 0)⟩<;>omega
    refine Fj (h:=GK (h:=BG (BA (AR (?_)))));refine⟨_,⟨_,_,_,_,_,_,?_,rfl⟩,(wk 3 0)⟩<;>omega
   refine Fj (h:=GK (h:=Aa (h:=DK (h:=Fj (h:=GK (h:=Aa (h:=DK (h:=?_))))))));refine AJ true rfl rfl (fun hb9 hc9=>?_) (fun hb9 hc9=>?_)
   ·refine CE (h:=EW (h:=?_));refine A4 rfl (fun hb10 hc10=>?_) (fun hb10 hc10=>?_)
    ·refine C2 (h:=?_);refine A3 rfl (B1 0 (hc:=E7 l _ (1) (6) (by omega) (by omega) (by omega) (by omega)) (hR:=?_));rintro r a17 ha17 ⟨k17,rfl,p17,q17⟩;refine B2 ?_;refine m_ (h:=BX (h:=?_));refine A3 rfl (B1 0 (hc:=Gl l _ _ (fun _=>true) (by omega) (by rfl) (by rfl) (by rfl)) (hR:=?_));rintro r a18 ha18 ⟨k18,rfl,KO⟩;refine B2 ?_;refine Hm (h:=Bw (BA (AR (?_))));refine⟨_,⟨_,_,_,_,_,_,?_,rfl⟩,(wk 3 0)⟩<;>omega
    refine BG (BA (AR (?_)));refine⟨_,⟨_,_,_,_,_,_,?_,rfl⟩,(wk 3 0)⟩<;>omega
   refine Fj (h:=GK (h:=BG (BA (AR (?_)))));refine⟨_,⟨_,_,_,_,_,_,?_,rfl⟩,(wk 3 0)⟩<;>omega
  refine Fj (h:=GK (h:=Aa (h:=DK (h:=?_))));refine AJ true rfl rfl (fun hb11 hc11=>?_) (fun hb11 hc11=>?_)
  ·refine CE (h:=EW (h:=?_));refine A4 rfl (fun hb12 hc12=>?_) (fun hb12 hc12=>?_)
   ·refine C2 (h:=?_);refine A3 rfl (B1 0 (hc:=E7 l _ (15) (21) (by omega) (by omega) (by omega) (by omega)) (hR:=?_));rintro r a19 ha19 ⟨k19,rfl,p19,q19⟩;refine B2 ?_;refine m_ (h:=BX (h:=?_));refine A3 rfl (B1 0 (hc:=Gl l _ _ (fun _=>true) (by omega) (by rfl) (by rfl) (by rfl)) (hR:=?_));rintro r a20 ha20 ⟨k20,rfl,p20⟩;refine B2 ?_;refine Dh (h:=Dh (h:=Bw (BA (AR (?_)))));refine⟨_,⟨_,_,_,_,_,_,?_,rfl⟩,(wk 3 0)⟩<;>omega
   refine Aa (h:=DK (h:=CE (h:=EW (h:=?_))));refine A4 rfl (fun hb13 hc13=>?_) (fun hb13 hc13=>?_)
   ·refine C2 (h:=?_);refine A3 rfl (B1 0 (hc:=E7 l _ (9) (12) (by omega) (by omega) (by omega) (by omega)) (hR:=?_));rintro r a21 ha21 ⟨k21,rfl,p21,q21⟩;refine B2 ?_;refine Dh (h:=Bw (BA (AR (?_))));refine⟨_,⟨_,_,_,_,_,_,?_,rfl⟩,(wk 3 0)⟩<;>omega
   refine Aa (h:=DK (h:=?_));refine AJ true rfl rfl (fun hb14 hc14=>?_) (fun hb14 hc14=>?_)
   ·refine CE (h:=EW (h:=?_));refine A4 rfl (fun hb15 hc15=>?_) (fun hb15 hc15=>?_)
    ·refine C2 (h:=?_);refine A3 rfl (B1 0 (hc:=E7 l _ (1) (6) (by omega) (by omega) (by omega) (by omega)) (hR:=?_));rintro r a22 ha22 ⟨k22,rfl,p22,q22⟩;refine B2 ?_;refine m_ (h:=BX (h:=?_));refine A3 rfl (B1 0 (hc:=Gl l _ _ (fun _=>true) (by omega) (by rfl) (by rfl) (by rfl)) (hR:=?_));rintro r a23 ha23 ⟨k23,rfl,p23⟩;refine B2 ?_;refine Hm (h:=Bw (BA (AR (?_))));refine⟨_,⟨_,_,_,_,_,_,?_,rfl⟩,(wk 3 0)⟩<;>omega
    refine BG (BA (AR (?_)));refine⟨_,⟨_,_,_,_,_,_,?_,rfl⟩,(wk 3 0)⟩<;>omega
   refine Fj (h:=GK (h:=BG (BA (AR (?_)))));refine⟨_,⟨_,_,_,_,_,_,?_,rfl⟩,(wk 3 0)⟩<;>omega
  refine Fj (h:=GK (h:=Aa (h:=DK (h:=Fj (h:=GK (h:=Aa (h:=DK (h:=?_))))))));refine AJ true rfl rfl (fun hb16 hc16=>?_) (fun hb16 hc16=>?_)
  ·refine CE (h:=EW (h:=?_));refine A4 rfl (fun hb17 hc17=>?_) (fun hb17 hc17=>?_)
   ·refine C2 (h:=?_);refine A3 rfl (B1 0 (hc:=E7 l _ (1) (6) (by omega) (by omega) (by omega) (by omega)) (hR:=?_));rintro r a24 ha24 ⟨k24,rfl,p24,q24⟩;refine B2 ?_;refine m_ (h:=BX (h:=?_));refine A3 rfl (B1 0 (hc:=Gl l _ _ (fun _=>true) (by omega) (by rfl) (by rfl) (by rfl)) (hR:=?_));rintro r a25 ha25 ⟨k25,rfl,p25⟩;refine B2 ?_;refine Hm (h:=Bw (BA (AR (?_))));refine⟨_,⟨_,_,_,_,_,_,?_,rfl⟩,(wk 3 0)⟩<;>omega
   refine BG (BA (AR (?_)));refine⟨_,⟨_,_,_,_,_,_,?_,rfl⟩,(wk 3 0)⟩<;>omega
  refine Fj (h:=GK (h:=BG (BA (AR (?_)))));refine⟨_,⟨_,_,_,_,_,_,?_,rfl⟩,(wk 3 0)⟩<;>omega
 rintro s ⟨b,f,o,n,ot,t,hb,rfl⟩;refine Bf (h:=?_);refine A3 rfl (B1 0 (hc:=Gn l _ (24) (by omega) (by omega)) (hR:=?_));rintro r a26 ha26 ⟨k26,rfl,p26,q26,o26⟩;refine B2 ?_;refine Bd (h:=?_);refine A4 rfl (fun hb18 hc18=>?_) (fun hb18 hc18=>?_)
 ·refine C2 (h:=?_);refine A3 rfl (B1 0 (hc:=E7 l _ (0) (24) (by omega) (by omega) (by omega) (by omega)) (hR:=?_));rintro r a27 ha27 ⟨k27,rfl,p27,q27⟩;refine B2 ?_;refine m_ (h:=?_);refine A3 rfl (B1 0 (hc:=E7 l _ (0) (9) (by omega) (by omega) (by omega) (by omega)) (hR:=?_));rintro r a28 ha28 ⟨k28,rfl,p28,q28⟩;refine B2 ?_;refine Dh (h:=DF (h:=Di (h:=e_ (B3 (?_)))));refine AX none (h5:=(A7 _)) (h6:=⟨_,rfl,rfl,_,?_,rfl,⟨_,_,_,_,_⟩,rfl⟩)<;>omega
 refine AG (Di (h:=e_ (B3 (?_))));refine AX none (h5:=(A7 _)) (h6:=⟨_,rfl,rfl,_,?_,rfl,⟨_,_,_,_,_⟩,rfl⟩)<;>omega
end
theorem ZQ{α:Type}{p:Nat→α→Bool}:∀{l:List α} {i:Nat},(∀k x,l[k]?=some x→p (i+k) x=false)→DV p l i= -1
 |[],_,_=>rfl
 |x::xs,i,h=>by
   rw[DV,if_neg (by simpa using h 0 x rfl)]
   exact ZQ fun k y hy=>by
    have:=h (k+1) y (by simpa using hy)
    rwa [show i+1+k=i+(k+1) by omega]
theorem Ub{l:List Rul}{r:Rul}:J5 l r<0↔r∉l:=by
 constructor
 ·intro h hm;obtain⟨k,hk⟩:=List.getElem?_of_mem hm;rcases Int.lt_or_le (J5 l r) 0 with h1|h1
  ·clear h
   have:∀(l:List Rul) (i k:Nat),l[k]?=some r→0≤DV (fun _ x=>decide (x=r)) l i:=by
    intro l
    induction l with
    |nil=>intro i k hk;simp at hk
    |cons x xs ih=>
      intro i k hk;rw[DV];split
      ·omega
      rename_i hne
      cases k with
      |zero=>simp at hk;simp[hk]at hne
      |succ k=>exact ih (i+1) k (by simpa using hk)
   have:=this l 0 k hk;unfold J5 at h1;omega
  omega
 intro h
 have:J5 l r= -1:=ZQ fun k x hx=>by
  simp only[decide_eq_false_iff_not];rintro rfl;exact h (Am hx)
 omega
theorem ZR:∀(l pre:List Rul),Ju pre l=0↔(∀x∈l,BJ x=0∧x∉pre)∧l.Nodup
 |[],pre=>by simp[Ju]
 |r::rs,pre=>by
   rw[Ju];by_cases h1:BJ r=0
   ·rw[if_neg (by simpa using h1)];by_cases h2:0≤J5 pre r
    ·rw[if_pos h2];have h3:r∈pre:=Classical.byContradiction fun h=>by have:=Ub.2 h;omega
     exact⟨fun h=>absurd h (by decide),fun h=>absurd h3 (h.1 r (by simp)).2⟩
    rw[if_neg h2,ZR rs (pre++[r])];have h3:r∉pre:=Ub.1 (by omega);constructor
    ·rintro⟨k1,k2⟩;refine⟨?_,?_⟩
     ·intro x hx;rcases List.mem_cons.1 hx with rfl|hx
      ·exact⟨h1,h3⟩
      exact⟨(k1 x hx).1,fun hm=>(k1 x hx).2 (by simp[hm])⟩
     exact List.nodup_cons.2 ⟨fun hm=>(k1 r hm).2 (by simp),k2⟩
    rintro⟨k1,k2⟩;obtain⟨k3,k4⟩:=List.nodup_cons.1 k2;refine⟨fun x hx=>⟨(k1 x (by simp[hx])).1,fun hm=>?_⟩,k4⟩;rcases List.mem_append.1 hm with hm|hm
    ·exact(k1 x (by simp[hx])).2 hm
    rw[List.mem_singleton.1 hm]at hx;exact k3 hx
   rw[if_pos (by simpa using h1)];constructor
   ·intro h;exact absurd h h1
   intro h;exact absurd (h.1 r (by simp)).1 h1
theorem Ru(l:List Rul):ED l=0↔l.length≤24∧(∀x∈l,BJ x=0)∧l.Nodup:=by
 unfold ED;split
 ·simp;omega
 rw[ZR];simp;omega
structure LstOk(l:List Rul)(n:Nat):Prop where
 chk:ED l=0
 ins:∀r∈l,FR r
 len:l.length≤n
theorem LstOk.nil(n:Nat):LstOk [] n:=⟨(Ru []).2 (by simp),by simp,by simp⟩
theorem LstOk.add{l:List Rul}{n:Nat}{r:Rul}{f:Bool}(h:LstOk l n)(hr:FR r)(he:(D6 l r f).2=0):LstOk (D6 l r f).1 (n+1):=by
 unfold D6 at he ⊢;rw[if_neg (by rw[h.chk];simp)]at he ⊢;split at he
 ·rename_i h1;exact absurd he h1
 rename_i h1;rw[if_neg h1];split at he
 ·cases he
 rename_i h2;rw[if_neg h2];split at he
 ·cases he
 rename_i h3;rw[if_neg h3];have hm:r∉l:=Ub.1 (by omega);obtain⟨c1,c2,c3⟩:=(Ru l).1 h.chk;have h1':BJ r=0:=by simpa using h1
 cases f
 ·refine⟨(Ru _).2 ⟨by simp;omega,?_,?_⟩,?_,?_⟩
  ·intro x hx;rcases(by simpa using hx:x∈l∨x=r)with hx|hx
   ·exact c2 x hx
   rw[hx];exact h1'
  ·simp only[Bool.false_eq_true,if_false];exact List.nodup_append.2 ⟨c3,by simp,fun a ha b hb=>by rw[List.mem_singleton.1 hb];rintro rfl;exact hm ha⟩
  ·intro x hx;rcases(by simpa using hx:x∈l∨x=r)with hx|hx
   ·exact h.ins x hx
   rw[hx];exact hr
  have:=h.len;simp;omega
 refine⟨(Ru _).2 ⟨by simp;omega,?_,?_⟩,?_,?_⟩
 ·intro x hx;rcases(by simpa using hx:x=r∨x∈l)with hx|hx
  ·rw[hx];exact h1'
  exact c2 x hx
 ·simp only[if_true];exact List.nodup_cons.2 ⟨hm,c3⟩
 ·intro x hx;rcases(by simpa using hx:x=r∨x∈l)with hx|hx
  ·rw[hx];exact hr
  exact h.ins x hx
 have:=h.len;simp;omega
theorem LstOk.mono{l:List Rul}{n m:Nat}(h:LstOk l n)(hm:n≤m):LstOk l m:=⟨h.chk,h.ins,Nat.le_trans h.len hm⟩
def Pp:Rul:=⟨3,1,4294967295,[],0,⟨#[]⟩,0,⟨#[]⟩⟩
theorem oM:FR Pp:=by unfold FR Pp;simp;decide
theorem oN:BJ Pp=0:=by decide
section
theorem oO(l:List Int)(a:Nat)(ha:a≤10000000000):GenF prog 40 l a [] 200 (fun r=>∃x:Rul,FR x∧r= .agg (Ab x)):=by
 refine enter Tryz.func40 rfl rfl rfl rfl rfl 1 rfl ?_;refine w_ (CU (h:=e_ (Aa (h:=BX (h:=?_)))));refine A3 rfl (B1 0 (hc:=Gl l _ _ (fun _=>true) (by omega) (by rfl) (by rfl) (by rfl)) (hR:=?_));rintro r a1 ha1 ⟨k1,rfl,p1⟩;refine B2 ?_;refine m_ (h:=BX (h:=?_));refine A3 rfl (B1 0 (hc:=Gl l _ _ (fun _=>true) (by omega) (by rfl) (by rfl) (by rfl)) (hR:=?_));rintro r a2 ha2 ⟨k2,rfl,p2⟩;refine B2 ?_;refine m_ (h:=BX (h:=?_));refine A3 rfl (B1 0 (hc:=Mr l _ _ (fun _=>true) (by omega) (by rfl) (by rfl) (by rfl)) (hR:=?_));rintro r a3 ha3 ⟨k3,rfl,p3⟩;refine B2 ?_;refine Bk (h:=Dw (h:=?_));refine BC (fun s=>∃(b:Nat) (li ac ca:Int) (key:ByteArray),b≤a+50∧0≤ca∧ca<18446744073709551616∧s=⟨look [(0, .bp 0 0),(2, .bp 1 0),(3, .bp 2 0)],⟨[Dr l b,[.v (.int .i64 0), .v (.int .i64 0), .v (.int .u64 0), .v (.slice none 0 0), .v (.int .i64 0), .v (.string ⟨#[]⟩), .v (.int .i64 0), .v (.string ⟨#[]⟩)],[.v (.int .i64 li), .v (.int .i64 ac), .v (.int .u64 ca), .v (.slice none 0 0), .v (.int .i64 0), .v (.string ⟨#[]⟩), .v (.int .i64 0), .v (.string key)]],[]⟩⟩) ?_ ?_
 ·skip
  refine Ay (h:=E4 (h:=?_));refine AJ false rfl rfl (fun hb1 hc1=>?_) (fun hb1 hc1=>?_)
  ·refine EM (h:=JL (h:=?_));refine A3 rfl (B1 0 (hc:=ZP l _ (by omega)) (hR:=?_));rintro r a4 ha4 ⟨k4,rfl,p4,q4⟩;refine B2 ?_;refine DF (h:=Bf (h:=?_));refine A3 rfl (B1 0 (hc:=Gn l _ (3) (by omega) (by omega)) (hR:=?_));rintro r a5 ha5 ⟨k5,rfl,p5,q5,o5⟩;refine B2 ?_;refine Ed (h:=e_ (?_));refine A4 rfl (fun hb2 hc2=>?_) (fun hb2 hc2=>?_)
   ·refine Aw (DF (h:=Ay (h:=Bd (h:=?_))));refine A4 rfl (fun hb3 hc3=>?_) (fun hb3 hc3=>?_)
    ·refine Aw (Jf (h:=?_));refine⟨_,⟨_,_,_,_,_,?_,?_,?_,rfl⟩,(wk 3 0)⟩<;>omega
    refine BG (AR (?_));refine⟨_,⟨_,_,_,_,_,?_,?_,?_,rfl⟩,(wk 3 0)⟩<;>omega
   refine FY (h:=Bd (h:=?_));refine A4 rfl (fun hb4 hc4=>?_) (fun hb4 hc4=>?_)
   ·refine Aw (Jf (h:=?_));refine⟨_,⟨_,_,_,_,_,?_,?_,?_,rfl⟩,(wk 3 0)⟩<;>omega
   refine BG (AR (?_));refine⟨_,⟨_,_,_,_,_,?_,?_,?_,rfl⟩,(wk 3 0)⟩<;>omega
  refine CN (h:=CO (h:=?_));refine A4 rfl (fun hb5 hc5=>?_) (fun hb5 hc5=>?_)
  ·refine Aa (h:=?_);refine A3 rfl (B1 0 (hc:=ZP l _ (by omega)) (hR:=?_));rintro r a6 ha6 ⟨k6,rfl,p6,q6⟩;refine B2 ?_;refine DF (h:=Bf (h:=?_));refine A3 rfl (B1 0 (hc:=Gn l _ (3) (by omega) (by omega)) (hR:=?_));rintro r a7 ha7 ⟨k7,rfl,p7,q7,o7⟩;refine B2 ?_;refine Ed (h:=e_ (?_));refine A4 rfl (fun hb6 hc6=>?_) (fun hb6 hc6=>?_)
   ·refine Aw (DF (h:=Ay (h:=Bd (h:=?_))));refine A4 rfl (fun hb7 hc7=>?_) (fun hb7 hc7=>?_)
    ·refine Aw (Jf (h:=?_));refine⟨_,⟨_,_,_,_,_,?_,?_,?_,rfl⟩,(wk 3 0)⟩<;>omega
    refine BG (AR (?_));refine⟨_,⟨_,_,_,_,_,?_,?_,?_,rfl⟩,(wk 3 0)⟩<;>omega
   refine FY (h:=Bd (h:=?_));refine A4 rfl (fun hb8 hc8=>?_) (fun hb8 hc8=>?_)
   ·refine Aw (Jf (h:=?_));refine⟨_,⟨_,_,_,_,_,?_,?_,?_,rfl⟩,(wk 3 0)⟩<;>omega
   refine BG (AR (?_));refine⟨_,⟨_,_,_,_,_,?_,?_,?_,rfl⟩,(wk 3 0)⟩<;>omega
  refine BG (AR (?_));refine⟨_,⟨_,_,_,_,_,?_,?_,?_,rfl⟩,(wk 3 0)⟩<;>omega
 rintro s ⟨b,li,ac,ca,key,hb,hca1,hca2,rfl⟩;refine Bf (h:=BX (h:=?_));refine A3 rfl (B1 0 (hc:=Gl l _ _ (fun z=>decide (0≤z∧z≤3)) (by omega) (by rfl) (by rfl) (by rfl)) (hR:=?_));rintro r a8 ha8 ⟨k8,rfl,p8⟩;refine B2 ?_;obtain⟨hz1,hz2⟩:=of_decide_eq_true p8;obtain⟨m,rfl⟩:=Int.eq_ofNat_of_zero_le (show 0≤k8 by omega);refine BO (h:=BF (?_));refine Ls 2 3 115 5 rfl rfl (by repeat constructor) (by repeat constructor) (by repeat constructor) ?_;refine BM (fun n s=>∃(j b1:Nat) (ts:List Tst),j≤m∧n=j∧b1≤b+1+20 * (m - j)∧ts.length=m - j∧s=⟨look [(0, .bp 0 0),(2, .bp 1 0),(3, .bp 2 0),(4, .v (.int .i64 (j:Int)))],⟨[Dr l b1,[.v (.int .i64 0), .v (.int .i64 0), .v (.int .u64 0), .v (.slice none 0 0), .v (.int .i64 0), .v (.string ⟨#[]⟩), .v (.int .i64 0), .v (.string ⟨#[]⟩)],[.v (.int .i64 li), .v (.int .i64 ac), .v (.int .u64 ca), .sl 5 (ts.map CF) (some 0), .v (.int .i64 0), .v (.string ⟨#[]⟩), .v (.int .i64 0), .v (.string key)]],[(115,5,ts.map CF)]⟩⟩) (m) ((wk 3 1)) (⟨m,_,[],by omega,rfl,by omega,by simp,rfl⟩) ?_;rintro n s ⟨j,b1,ts,hj,hn,hb1,hts,rfl⟩;subst n;refine Bf (h:=Ed (h:=e_ (?_)));refine A4 rfl (fun hb9 hc9=>?_) (fun hb9 hc9=>?_)
 ·refine AG (q_ (BF (BR ([(1,[.v (.int .i64 0), .v (.int .i64 0), .v (.int .u64 0), .v (.slice none 0 0), .v (.int .i64 0), .v (.string ⟨#[]⟩), .v (.int .i64 0), .v (.string ⟨#[]⟩)]),(2,[.v (.int .i64 li), .v (.int .i64 ac), .v (.int .u64 ca), .sl 5 (ts.map CF) (some 0), .v (.int .i64 0), .v (.string ⟨#[]⟩), .v (.int .i64 0), .v (.string key)])]) 9 (h:=AA 0 (h:=A9 1 (h:=AE 2 (h:=AA 3 (h:=A9 4 (h:=?_)))))))));refine c_ 5 rfl (B1 0 (hc:=oL l _ _ (by omega)) (hR:=?_));rintro r a9 ha9 ⟨T9,rfl⟩;refine B2 ?_;refine o_ (h:=K4 6 (h:=?_))
  first|refine c_ 7 rfl (EF rfl rfl rfl (by simp<;>omega) (by repeat constructor) ?_)|refine c_ 7 rfl (JC rfl rfl (by simp<;>omega) (by repeat constructor) ?_)
  refine o_ (h:=AA 8 (h:=?_));refine B8 9 (h:=z_ (h:=BA (t_ (Aw (m_ (h:=JE (h:=a_ (h:=Bw (AR (?_))))))))));obtain⟨j,rfl⟩:∃i,j=i+1:=⟨j - 1,by omega⟩;refine⟨_,_,?_,⟨j,_,ts++[T9],by omega,rfl,?_,?_,rfl⟩,(by rw[List.map_append];exact Ah 3 1 rfl rfl rfl rfl (by repeat (first|exact Sub.nil|refine Ai rfl rfl ?_|(apply Sub.of;(focus exact rfl);(focus exact LeA.of_eq (vi (by omega)));(focus exact rfl)))))⟩
  ·omega
  ·omega
  simp;omega
 refine CP (h:=?_);refine BC (fun s=>∃(b2:Nat) (wa pe:Int) (pa:ByteArray),b2≤a+140∧pa.size≤60∧s=⟨look [(0, .bp 0 0),(2, .bp 1 0),(3, .bp 2 0)],⟨[Dr l b2,[.v (.int .i64 0), .v (.int .i64 0), .v (.int .u64 0), .v (.slice none 0 0), .v (.int .i64 0), .v (.string ⟨#[]⟩), .v (.int .i64 0), .v (.string ⟨#[]⟩)],[.v (.int .i64 li), .v (.int .i64 ac), .v (.int .u64 ca), .sl 5 (ts.map CF) (some 0), .v (.int .i64 wa), .v (.string pa), .v (.int .i64 pe), .v (.string key)]],[(115,5,ts.map CF)]⟩⟩) ?_ ?_
 ·skip
  refine Ay (h:=E4 (h:=?_));refine AJ true rfl rfl (fun hb10 hc10=>?_) (fun hb10 hc10=>?_)
  ·refine m_ (h:=?_);refine As (B1 0 (hc:=Gn l _ (3) (by omega) (by omega)) (hR:=?_));rintro r a10 ha10 ⟨k10,rfl,p10,q10,o10⟩;refine B2 ?_;refine Dt (h:=DS (h:=?_));refine A4 rfl (fun hb11 hc11=>?_) (fun hb11 hc11=>?_)
   ·refine Aa (h:=?_);refine A3 rfl (B1 0 (hc:=E7 l _ (1) (2) (by omega) (by omega) (by omega) (by omega)) (hR:=?_));rintro r a11 ha11 ⟨k11,rfl,p11,q11⟩;refine B2 ?_;refine m_ (h:=?_);refine A3 rfl (B1 0 (hc:=oE l _ (by omega)) (hR:=?_));rintro r a12 ha12 ⟨k12,rfl,p12⟩;refine B2 ?_;refine m_ (h:=?_);refine A3 rfl (B1 0 (hc:=E7 l _ (1) (15) (by omega) (by omega) (by omega) (by omega)) (hR:=?_));rintro r a13 ha13 ⟨k13,rfl,p13,q13⟩;refine B2 ?_;refine Dh (h:=Dh (h:=DF (h:=Aa (h:=?_))));refine A3 rfl (B1 0 (hc:=Gn l _ (8) (by omega) (by omega)) (hR:=?_));rintro r a14 ha14 ⟨k14,rfl,p14,q14,o14⟩;refine B2 ?_;refine Bd (h:=?_);refine A4 rfl (fun hb12 hc12=>?_) (fun hb12 hc12=>?_)
    ·refine Aw (Jf (h:=?_));refine⟨_,⟨_,_,_,_,?_,?_,rfl⟩,(wk 3 1)⟩<;>first|omega|exact BV rfl
    refine BG (AR (?_));refine⟨_,⟨_,_,_,_,?_,?_,rfl⟩,(wk 3 1)⟩<;>first|omega|exact BV rfl
   refine BG (AR (?_));refine⟨_,⟨_,_,_,_,?_,?_,rfl⟩,(wk 3 1)⟩<;>first|omega|exact BV rfl
  refine Cu (h:=e_ (Hh (h:=BG (AR (?_)))));refine⟨_,⟨_,_,_,_,?_,?_,rfl⟩,(wk 3 1)⟩<;>first|omega|exact BV rfl
 rintro s ⟨b2,wa,pe,pa,hb2,hpa,rfl⟩;refine Bf (h:=?_);refine A3 rfl (B1 0 (hc:=Gn l _ (24) (by omega) (by omega)) (hR:=?_));rintro r a15 ha15 ⟨k15,rfl,p15,q15,o15⟩;refine B2 ?_;refine Bd (h:=?_);refine A4 rfl (fun hb13 hc13=>?_) (fun hb13 hc13=>?_)
 ·refine C2 (h:=?_);refine A3 rfl (B1 0 (hc:=E7 l _ (-1) (16) (by omega) (by omega) (by omega) (by omega)) (hR:=?_));rintro r a16 ha16 ⟨k16,rfl,p16,q16⟩;refine B2 ?_;refine m_ (h:=?_);refine A3 rfl (B1 0 (hc:=E7 l _ (0) (6) (by omega) (by omega) (by omega) (by omega)) (hR:=?_));rintro r a17 ha17 ⟨k17,rfl,p17,q17⟩;refine B2 ?_;refine m_ (h:=?_);refine A3 rfl (B1 0 (hc:=E7 l _ (0) (3) (by omega) (by omega) (by omega) (by omega)) (hR:=?_));rintro r a18 ha18 ⟨k18,rfl,KO,q18⟩;refine B2 ?_;refine Dh (h:=Dh (h:=DF (h:=Di (h:=e_ (B3 (?_))))));refine AX none (h5:=(A7 _)) (h6:=⟨_,rfl,rfl,_,?_,rfl,⟨_,_,_,ts,_,pa,_,_⟩,⟨hca1,hca2,Nat.le_trans hpa (by decide),by show ts.length≤1000;omega⟩,rfl⟩)<;>omega
 refine AG (Di (h:=e_ (B3 (?_))));refine AX none (h5:=(A7 _)) (h6:=⟨_,rfl,rfl,_,?_,rfl,⟨_,_,_,ts,_,pa,_,_⟩,⟨hca1,hca2,Nat.le_trans hpa (by decide),by show ts.length≤1000;omega⟩,rfl⟩)<;>omega
end
structure PolOk(s:Spc)(p:Pol)(n:Nat):Prop where
 lst:LstOk p.rules n
 wat:p.wats=J7 s p.rules
 ok:∀r∈p.rules,(DO s r).2=0
theorem PolOk.nil(s:Spc)(n:Nat):PolOk s JV n:=⟨LstOk.nil n,rfl,by simp[JV]⟩
theorem PolOk.mono{s:Spc}{p:Pol}{n m:Nat}(h:PolOk s p n)(hm:n≤m):PolOk s p m:=⟨h.lst.mono hm,h.wat,h.ok⟩
theorem PolOk.len{s:Spc}{p:Pol}{n:Nat}(h:PolOk s p n):p.wats.length=p.rules.length:=by rw[h.wat];simp[J7]
theorem ZS{l:List Rul}{r:Rul}{f:Bool}(h:(D6 l r f).2=0):(D6 l r f).1=if f=true then r::l else l++[r]:=by
 unfold D6 at h ⊢;by_cases c1:ED l≠0
 ·rw[if_pos c1]at h;exact absurd h c1
 rw[if_neg c1]at h ⊢;by_cases c2:BJ r≠0
 ·rw[if_pos c2]at h;exact absurd h c2
 rw[if_neg c2]at h ⊢;by_cases c3:0≤J5 l r
 ·rw[if_pos c3]at h;cases h
 rw[if_neg c3]at h ⊢;by_cases c4:24≤(l.length:Int)
 ·rw[if_pos c4]at h;cases h
 rw[if_neg c4]
theorem PolOk.add{s:Spc}{p:Pol}{n:Nat}{r:Rul}{f:Bool}(h:PolOk s p n)(hr:FR r)(he:(J6 s p r f).2=0):PolOk s (J6 s p r f).1 (n+1):=by
 unfold J6 at he ⊢;by_cases c1:(D6 p.rules r f).2≠0
 ·rw[if_pos c1]at he;exact absurd he c1
 rw[if_neg c1]at he ⊢;by_cases c2:(DO s r).2≠0
 ·rw[if_pos c2]at he;exact absurd he c2
 rw[if_neg c2];have d1:(D6 p.rules r f).2=0:=by simpa using c1
 have d2:(DO s r).2=0:=by simpa using c2
 refine⟨h.lst.add hr d1,?_,?_⟩
 ·simp only[ZS d1,h.wat];cases f<;>simp[J7]
 intro x hx;simp only[ZS d1]at hx
 have:x=r∨x∈p.rules:=by
  cases f
  ·exact(by simpa using hx:x∈p.rules∨x=r).symm
  simpa using hx
 rcases this with rfl|hx
 ·exact d2
 exact h.ok x hx
section
theorem ZT(l:List Int)(a:Nat)(ha:a≤1000000000):GenF prog 56 l a [] 1600 (fun r=>∃x:Rul,FR x∧BJ x=0∧r= .agg (Ab x)):=by
 refine enter Tryz.func56 rfl rfl rfl rfl rfl 1 rfl ?_;refine w_ (CU (h:=e_ (DT (h:=?_))));refine BM (fun n s=>∃(j b:Nat),j≤8∧n=8 - j∧b≤a+200 * j∧s=⟨look [(0, .bp 0 0),(2, .bp 1 0),(3, .v (.int .i64 (j:Int)))],⟨[Dr l b,[.v (.int .i64 0), .v (.int .i64 0), .v (.int .u64 0), .v (.slice none 0 0), .v (.int .i64 0), .v (.string ⟨#[]⟩), .v (.int .i64 0), .v (.string ⟨#[]⟩)]],[]⟩⟩) (8) ((wk 2 0)) (⟨0,a,by omega,rfl,by omega,rfl⟩) ?_;rintro n s ⟨j,b,hj,rfl,hb,rfl⟩;refine Bf (h:=Cv (h:=?_));refine A4 rfl (fun hb1 hc1=>?_) (fun hb1 hc1=>?_)
 ·refine By (h:=Aa (h:=?_));refine A3 rfl (B1 0 (hc:=oO l _ (by omega)) (hR:=?_));rintro r a1 ha1 ⟨x,hx,rfl⟩;refine B2 ?_;refine Dw (h:=C4 (h:=?_));refine A3 rfl (A8 (Rp x hx) ?_);rintro r rfl;refine Bd (h:=?_);refine A4 rfl (fun hb2 hc2=>?_) (fun hb2 hc2=>?_)
  ·refine Di (h:=e_ (B3 (D8 (h:=Dk (h:=?_)))));refine AX none (h5:=(A7 _)) (h6:=⟨_,rfl,rfl,_,?_,rfl,x,hx,hc2,rfl⟩)<;>omega
  refine Cm (h:=?_);refine⟨_,_,?_,⟨j+1,_,by omega,rfl,?_,rfl⟩,(wk 2 0)⟩<;>omega
 refine CP (h:=JH (h:=e_ (B3 (?_))));refine AX (r:= .agg (Ab Pp)) none (h5:=(by repeat (first|exact A7 _|exact LeA.nil _|exact LeL.refl _|refine LeA.agg ?_|refine LeA.tup ?_|exact LeL.nil|refine LeL.cons ?_ ?_|exact LeA.any _))) (h6:=⟨_,rfl,rfl,b,by omega,rfl,Pp,oM,oN,rfl⟩)
end
theorem oP:LeL [.v (.slice none 0 0), .v (.slice none 0 0)] (Bn JV):=by
 show LeL _ [.sl 8 [] none, .sl 6 [] none];exact LeL.cons (LeA.nil _) (LeL.cons (LeA.nil _) LeL.nil)
section
theorem oQ(l:List Int)(a m:Nat)(s:Spc)(ha:a≤100000000)(hm:m≤20)(hv:SpcV s)(hmm:s.mounts.length≤1000):GenF prog 20 l a [.agg (AW s), .v (.int .i64 (m:Int))] 50000 (fun r=>∃p:Pol,PolOk s p 20∧r= .agg (Bn p)):=by
 refine enter Tryz.func20 rfl rfl rfl rfl rfl 1 rfl ?_;refine E5 (h:=e_ (w_ (CU (h:=e_ (De (h:=Ec (h:=?_)))))));refine A3 rfl (B1 0 (hc:=Gn l _ ((m:Int)+1) (by omega) (by omega)) (hR:=?_));rintro r a1 ha1 ⟨k1,rfl,p1,q1,o1⟩;refine B2 ?_;obtain⟨m0,rfl⟩:=Int.eq_ofNat_of_zero_le p1;have hm0:m0≤20:=by omega
 refine BO (h:=BF (?_));refine BM (fun n S=>∃(j b:Nat) (p:Pol),j≤m0∧n=j∧b≤a+1+1700 * (m0 - j)∧PolOk s p (m0 - j)∧S=⟨look [(0, .bp 0 0),(4, .bp 1 0),(6, .bp 2 0),(7, .bp 3 0),(8, .v (.int .i64 (j:Int)))],⟨[Dr l b,AW s,[.v (.slice none 0 0), .v (.slice none 0 0)],Bn p],[]⟩⟩) (m0) (Weak.trans (Yv 3 rfl oP) ((wk 4 0))) (⟨m0,_,JV,by omega,rfl,by omega,PolOk.nil _ _,rfl⟩) ?_;rintro n S ⟨j,b,p,hj,hn,hb,hp,rfl⟩;subst n;refine Bf (h:=Ed (h:=e_ (?_)));refine A4 rfl (fun hb1 hc1=>?_) (fun hb1 hc1=>?_)
 ·refine By (h:=?_);refine BC (fun S=>∃(b1:Nat) (x:Rul) (f:Bool),b1≤a+1+1700 * (m0 - j)+1610∧FR x∧S=⟨look [(0, .bp 0 0),(4, .bp 1 0),(6, .bp 2 0),(7, .bp 3 0),(8, .v (.int .i64 (j:Int))),(9, .bp 4 0),(10, .v (.int .i64 (J6 s p x f).2))],⟨[Dr l b1,AW s,[.v (.slice none 0 0), .v (.slice none 0 0)],Bn p,Bn (J6 s p x f).1],[]⟩⟩) ?_ ?_
  ·skip
   refine BR ([(1,AW s),(2,[.v (.slice none 0 0), .v (.slice none 0 0)]),(3,Bn p)]) 14 (h:=?_)
   first|refine A9 0 (h:=?_)|refine C5 0 rfl (fun _ hS=>Mo (row:=Bn p) rfl (kb hS rfl) (BV rfl) rfl ⟨rfl,rfl⟩) ?_|refine C5 0 rfl (fun _ hS=>Mo (row:=AW s) rfl (kb hS rfl) (BV rfl) rfl ⟨rfl,rfl⟩) ?_
   first|refine A9 1 (h:=?_)|refine C5 1 rfl (fun _ hS=>Mo (row:=Bn p) rfl (kb hS rfl) (BV rfl) rfl ⟨rfl,rfl⟩) ?_|refine C5 1 rfl (fun _ hS=>Mo (row:=AW s) rfl (kb hS rfl) (BV rfl) rfl ⟨rfl,rfl⟩) ?_
   refine AE 2 (h:=AE 4 (h:=?_));refine Ft 3 11 rfl rfl ?_ ?_
   ·refine B1 0 (hc:=ZT l _ (by omega)) (hR:=?_);rintro r a2 ha2 ⟨x,hx,hg,rfl⟩;refine B2 ?_;refine o_ (h:=?_);refine Ft 5 11 rfl rfl ?_ ?_
    ·refine B1 0 (hc:=Gn l _ (4) (by omega) (by omega)) (hR:=?_);rintro r a3 ha3 ⟨k3,rfl,p3,q3,o3⟩;refine B2 ?_;refine o_ (h:=?_);refine JF 6 (h:=?_);refine Ft 7 11 rfl rfl ?_ ?_
     ·refine A8 (Rs s p x hv hmm (by have:=hp.lst.len;omega) hp.len hp.lst.ins hx _) ?_;rintro r rfl;refine o_ (h:=?_);refine AE 8 (h:=BH 9 (h:=BH 10 (h:=?_)));refine c_ 11 rfl (Cb (by repeat constructor) ?_);refine o_ (h:=?_);refine B8 12 (h:=B9 13 (h:=z_ (h:=?_)));refine AR ?_;exact⟨_,⟨_,x,_,(by omega),hx,rfl⟩,Ah 5 0 rfl rfl rfl rfl ((by repeat (first|exact Sub.nil|refine Ai rfl rfl ?_|refine Ap ?_|refine Aq rfl ?_|refine Ar rfl ?_)))⟩
     refine Cb (by repeat constructor) ?_;refine o_ (h:=?_);refine c_ 7 rfl (A8 (Rs s p x hv hmm (by have:=hp.lst.len;omega) hp.len hp.lst.ins hx _) ?_);rintro r rfl;refine o_ (h:=AE 8 (h:=BH 9 (h:=BH 10 (h:=?_))));refine B8 12 (h:=B9 13 (h:=z_ (h:=?_)));refine AR ?_;exact⟨_,⟨_,x,_,(by omega),hx,rfl⟩,Ah 5 0 rfl rfl rfl rfl ((by repeat (first|exact Sub.nil|refine Ai rfl rfl ?_|refine Ap ?_|refine Aq rfl ?_|refine Ar rfl ?_)))⟩
    refine Cb (by repeat constructor) ?_;refine o_ (h:=?_);refine c_ 5 rfl (B1 0 (hc:=Gn l _ (4) (by omega) (by omega)) (hR:=?_));rintro r a4 ha4 ⟨k4,rfl,p4,q4,o4⟩;refine B2 ?_;refine o_ (h:=JF 6 (h:=?_));refine c_ 7 rfl (A8 (Rs s p x hv hmm (by have:=hp.lst.len;omega) hp.len hp.lst.ins hx _) ?_);rintro r rfl;refine o_ (h:=AE 8 (h:=BH 9 (h:=BH 10 (h:=?_))));refine B8 12 (h:=B9 13 (h:=z_ (h:=?_)));refine AR ?_;exact⟨_,⟨_,x,_,(by omega),hx,rfl⟩,Ah 5 0 rfl rfl rfl rfl ((by repeat (first|exact Sub.nil|refine Ai rfl rfl ?_|refine Ap ?_|refine Aq rfl ?_|refine Ar rfl ?_)))⟩
   refine Cb (by repeat constructor) ?_;refine o_ (h:=?_);refine c_ 3 rfl (B1 0 (hc:=ZT l _ (by omega)) (hR:=?_));rintro r a5 ha5 ⟨x,hx,hg,rfl⟩;refine B2 ?_;refine o_ (h:=?_);refine c_ 5 rfl (B1 0 (hc:=Gn l _ (4) (by omega) (by omega)) (hR:=?_));rintro r a6 ha6 ⟨k6,rfl,p6,q6,o6⟩;refine B2 ?_;refine o_ (h:=JF 6 (h:=?_));refine c_ 7 rfl (A8 (Rs s p x hv hmm (by have:=hp.lst.len;omega) hp.len hp.lst.ins hx _) ?_);rintro r rfl;refine o_ (h:=AE 8 (h:=BH 9 (h:=BH 10 (h:=?_))));refine B8 12 (h:=B9 13 (h:=z_ (h:=?_)));refine AR ?_;exact⟨_,⟨_,x,_,(by omega),hx,rfl⟩,Ah 5 0 rfl rfl rfl rfl ((by repeat (first|exact Sub.nil|refine Ai rfl rfl ?_|refine Ap ?_|refine Aq rfl ?_|refine Ar rfl ?_)))⟩
  rintro S ⟨b1,x,f,hb1,hx,rfl⟩;refine Aa (h:=Bd (h:=?_));refine A4 rfl (fun hb2 hc2=>?_) (fun hb2 hc2=>?_)
  ·have hp2:=hp.add (f:=f) hx (by simpa using hc2);refine Aw (l_ (h:=s_ (h:=Bw (BA (t_ (C2 (h:=JE (h:=Cw (h:=?_)))))))));obtain⟨j,rfl⟩:∃i,j=i+1:=⟨j - 1,by omega⟩;refine⟨_,_,?_,⟨j,_,_,by omega,rfl,?_,hp2.mono (by omega),rfl⟩,Ah 4 0 rfl rfl rfl rfl (by repeat (first|exact Sub.nil|refine Ai rfl rfl ?_|(apply Sub.of;(focus exact rfl);(focus exact LeA.of_eq (vi (by omega)));(focus exact rfl))))⟩<;>omega
  have hp2:=hp.mono (Nat.le_succ _);refine BG (BA (t_ (C2 (h:=JE (h:=Cw (h:=?_))))));obtain⟨j,rfl⟩:∃i,j=i+1:=⟨j - 1,by omega⟩;refine⟨_,_,?_,⟨j,_,_,by omega,rfl,?_,hp2.mono (by omega),rfl⟩,Ah 4 0 rfl rfl rfl rfl (by repeat (first|exact Sub.nil|refine Ai rfl rfl ?_|(apply Sub.of;(focus exact rfl);(focus exact LeA.of_eq (vi (by omega)));(focus exact rfl))))⟩<;>omega
 refine CP (h:=Di (h:=e_ (B3 (?_))));refine AX none (h5:=(A7 _)) (h6:=⟨_,rfl,rfl,b,by omega,rfl,p,hp.mono (by omega),rfl⟩)
end
structure Vdt where
 sel:Bool
 rule:Int
 key:AF
deriving DecidableEq
def Gw(v:Vdt):List AV:=[.v (.bool v.sel), .v (.int .i64 v.rule), .v (.string v.key)]
def Mz:Vdt:=⟨false, -1,⟨#[]⟩⟩
def JW(l:List Rul)(i:Int):Vdt:=if i<0 then Mz else match l[i.toNat]? with|some r=>⟨decide (r.action=1),i,r.key⟩|none=>Mz
theorem ZU{l:List Rul}{i:Nat}{r:Rul}(h:l[i]?=some r):JW l (i:Int)=⟨decide (r.action=1),(i:Int),r.key⟩:=by
 rw[JW,if_neg (by omega),Int.toNat_natCast,h]
theorem Rv{l:List Rul}{i:Int}(h:i<0):JW l i=Mz:=by rw[JW,if_pos h]
def Nk(l:List Rul)(i:Int):Prop:=i<0∨∃(k:Nat) (r:Rul),i=(k:Int)∧l[k]?=some r
theorem ZV{α:Type}{p:Nat→α→Bool}:∀{l:List α} {i:Nat},DV p l i<0∨∃(k:Nat) (r:α),DV p l i=((i+k:Nat):Int)∧l[k]?=some r
 |[],_=> .inl (by simp[DV])
 |x::xs,i=>by
   rw[DV];split
   ·exact .inr ⟨0,x,rfl,rfl⟩
   rcases ZV (p:=p) (l:=xs) (i:=i+1)with h|⟨k,r,h1,h2⟩
   ·exact .inl h
   exact .inr ⟨k+1,r,by rw[h1];congr 1;omega,by simpa using h2⟩
theorem N0(p:Nat→Rul→Bool)(l:List Rul):Nk l (DV p l 0):=by
 rcases ZV (p:=p) (l:=l) (i:=0)with h|⟨k,r,h1,h2⟩
 ·exact .inl h
 exact .inr ⟨k,r,by rw[h1,Nat.zero_add],h2⟩
def Uc(c:Ctx):Ctx:={c with phase:=1,ext:=0,items:=[]}
def Nl(p:Pol)(c:Ctx):Int:=DV (FL 2 [] (Uc c)) p.rules 0
def ZW(p:Pol)(c:Ctx):Int:=DV (FL 1 [] c) p.rules 0
def Ud(p:Pol)(c:Ctx):Int:=DV (FL 4 [] c) p.rules 0
section
theorem oR(p:Pol)(i:Int)(hi:i<0):AFn prog 67 [.agg (Bn p), .v (.int .i64 i)] (fun r=>r= .agg (Gw Mz)):=by
 refine enter Tryz.func67 rfl rfl rfl rfl rfl 0 rfl ?_;refine E5 (h:=e_ (Bf (h:=Cv (h:=?_))));refine A4 rfl (fun hb1 hc1=>?_) (fun hb1 hc1=>?_)
 ·refine JH (h:=e_ (B3 (BN (?_))));refine A6 ?_;rfl
 exact ET
theorem oS(p:Pol)(k:Nat)(r:Rul)(hr:p.rules[k]?=some r)(h1:p.rules.length≤1000):AFn prog 67 [.agg (Bn p), .v (.int .i64 (k:Int))] (fun x=>x= .agg (Gw ⟨decide (r.action=1),(k:Int),r.key⟩)):=by
 have hrow:(p.rules.map Ab)[k]?=some (Ab r):=by rw[List.getElem?_map,hr];rfl
 have hlt:k<p.rules.length:=(Af.1 hr).1;refine enter Tryz.func67 rfl rfl rfl rfl rfl 0 rfl ?_;refine E5 (h:=e_ (Bf (h:=Cv (h:=?_))));refine A4 rfl (fun hb1 hc1=>?_) (fun hb1 hc1=>?_)
 ·exact ET
 refine AG (H9 (h:=Jb (h:=Ay (h:=E4 (h:=AO (h:=Hm (h:=e_ (B3 (?_)))))))));refine A6 ?_;rfl
theorem Pq(p:Pol)(i:Int)(hi:Nk p.rules i)(h1:p.rules.length≤1000):AFn prog 67 [.agg (Bn p), .v (.int .i64 i)] (fun r=>r= .agg (Gw (JW p.rules i))):=by
 rcases hi with hi|⟨k,r,rfl,hr⟩
 ·rw[Rv hi];exact oR p i hi
 rw[ZU hr];exact oS p k r hr h1
theorem Ue:AFn prog 69 [] (fun r=>r= .agg (Gw Mz)):=by
 refine enter Tryz.func69 rfl rfl rfl rfl rfl 0 rfl ?_;refine w_ (CU (h:=e_ (JH (h:=e_ (B3 (?_))))));refine A6 ?_;rfl
theorem oT(p:Pol)(i:Int)(hi:i<0):AFn prog 68 [.agg (Bn p), .v (.int .i64 i)] (fun r=>r= .agg (Gw Mz)):=by
 refine enter Tryz.func68 rfl rfl rfl rfl rfl 0 rfl ?_;refine E5 (h:=e_ (Bf (h:=Cv (h:=?_))));refine A4 rfl (fun hb1 hc1=>?_) (fun hb1 hc1=>?_)
 ·refine w_ (?_);refine A3 rfl (A8 (Ue) ?_);rintro r rfl;refine Ei (h:=B3 (BN (?_)));refine A6 ?_;rfl
 exact ET
theorem oU(p:Pol)(k:Nat)(r:Rul)(hr:p.rules[k]?=some r)(h1:p.rules.length≤1000):AFn prog 68 [.agg (Bn p), .v (.int .i64 (k:Int))] (fun x=>x= .agg (Gw ⟨decide (r.action=1),(k:Int),r.key⟩)):=by
 have hrow:(p.rules.map Ab)[k]?=some (Ab r):=by rw[List.getElem?_map,hr];rfl
 have hlt:k<p.rules.length:=(Af.1 hr).1;refine enter Tryz.func68 rfl rfl rfl rfl rfl 0 rfl ?_;refine E5 (h:=e_ (Bf (h:=Cv (h:=?_))));refine A4 rfl (fun hb1 hc1=>?_) (fun hb1 hc1=>?_)
 ·exact ET
 refine AG (q_ (BR ([(0,Bn p)]) 16 (h:=AA 0 (h:=A9 1 (h:=AE 2 (h:=CL 3 (h:=AA 4 (h:=A9 5 (h:=JF 6 (h:=AE 7 (h:=AA 8 (h:=A9 9 (h:=AE 10 (h:=CL 11 (h:=AA 12 (h:=A9 13 (h:=KZ 14 (h:=?_))))))))))))))))));refine B8 15 (h:=z_ (h:=t_ (B3 (?_))));refine A6 ?_;rfl
theorem Uf(p:Pol)(i:Int)(hi:Nk p.rules i)(h1:p.rules.length≤1000):AFn prog 68 [.agg (Bn p), .v (.int .i64 i)] (fun r=>r= .agg (Gw (JW p.rules i))):=by
 rcases hi with hi|⟨k,r,rfl,hr⟩
 ·rw[Rv hi];exact oT p i hi
 rw[ZU hr];exact oU p k r hr h1
variable (p:Pol)(c:Ctx)(k:Cxs)(h1:p.rules.length≤1000)(ht:∀r∈p.rules,r.tests.length≤1000)
include h1 ht
theorem ZX:AFn prog 22 [.agg (Bn p), .agg (C7 c k)] (fun r=>r= .tup [.agg (Gw (JW p.rules (Nl p c))), .v (.bool (decide (0≤Nl p c)))]):=by
 refine enter Tryz.func22 rfl rfl rfl rfl rfl 0 rfl ?_;refine FU (h:=BO (h:=w_ (Dh (h:=Dh (h:=DF (h:=Ay (h:=l_ (h:=?_))))))));refine A3 rfl (A8 (R9 p.rules 2 [] (Uc c) k h1 (BE _) ht) ?_);rintro r rfl;refine Je (h:=?_);refine A3 rfl (A8 (Pq p _ (N0 _ _) h1) ?_);rintro r rfl;refine m_ (h:=DR (h:=s_ (h:=Az (h:=?_))));refine A6 ?_;rfl
theorem ZY:AFn prog 23 [.agg (Bn p), .agg (C7 c k)] (fun r=>r= .tup [.agg (Gw (JW p.rules (Nl p c))), .v (.bool (decide (0≤Nl p c)))]):=by
 refine enter Tryz.func23 rfl rfl rfl rfl rfl 0 rfl ?_;refine FU (h:=BO (h:=w_ (Dh (h:=Dh (h:=DF (h:=Ay (h:=l_ (h:=?_))))))));refine A3 rfl (A8 (RA p.rules 2 [] (Uc c) k h1 (BE _) ht) ?_);rintro r rfl;refine Je (h:=?_);refine A3 rfl (A8 (Uf p _ (N0 _ _) h1) ?_);rintro r rfl;refine m_ (h:=DR (h:=s_ (h:=Az (h:=?_))));refine A6 ?_;rfl
end
theorem ZZ{s:Spc}{a b:AD}(h:Ac s.files b=false):decide (a∈C8 s (CR s.files) b)=false:=by
 have e:C8 s (CR s.files) b=[]:=by
  cases CR s.files with
  |zero=>rfl
  |succ k=>unfold C8;rw[h];rfl
 rw[e];rfl
section
variable {ev:Operand→Option AV}{h:AH}{R:AV→AH→Prop}{d:Option Tmp}{ty:TypeId}{pos:String}{af:Array Edge}{gd:Option (Nat×Bool)}
theorem oV{x ix:Operand}{a b:AD}(j:Nat)(hx:ev x=some (.agg [.v (.int .i64 a.1), .v (.int .i64 a.2), .v (.int .i64 b.1), .v (.int .i64 b.2)]))(hi:ev ix=some (.v (.int .i64 (j:Int))))(hj:j<2)(hR:R (.agg (AB (if j=0 then a else b))) h):AStep prog ⟨d, .index 176 x ix,ty,pos,af,gd⟩ ev h R:=by
 refine DQ (fun _ G w ec _ he=>?_) hR;have h1:=he x (by simp[Op.operands]) _ hx;have h2:=he ix (by simp[Op.operands]) _ hi;simp only[rep]at h1 h2;obtain⟨ys,h3,h4⟩:=h1;simp only[AN,rep]at h4;obtain⟨v1,q1,rfl,rfl,v2,q2,rfl,rfl,v3,q3,rfl,rfl,v4,q4,rfl,rfl,rfl⟩:=h4;have u1:=Tryz.underlying176;have u2:=Tryz.isAgg26;have u3:=Tryz.sizeOf26
 match j,hj with
 |0,_=>
   refine⟨.agg #[.int .i64 a.1, .int .i64 a.2],?_,by simp[rep,AN,AB]⟩;simp[execOp,h2,h3,Instr.index,asIntOf,part]
 |1,_=>
   refine⟨.agg #[.int .i64 b.1, .int .i64 b.2],?_,by simp[rep,AN,AB]⟩;simp[execOp,h2,h3,Instr.index,asIntOf,part]
end
theorem Jv{s:Spc}{w:Wch}{d f:AD}{n:AF}(hk:w.kind=1):CK s w d n f=((!decide (w.file=(0,0))&&decide (w.file=f))||(!decide (n=⟨#[]⟩)&&decide (d=w.dir)&&decide (n=w.name))):=by
 unfold CK;rw[if_pos hk];have e1:decide (w.file≠(0,0))= !decide (w.file=(0,0)):=by simp
 have e2:decide (n≠⟨#[]⟩)= !decide (n=⟨#[]⟩):=by simp
 have e3:decide (f=w.file)=decide (w.file=f):=decide_eq_decide.2 ⟨Eq.symm,Eq.symm⟩;rw[e1,e2,e3]
section
theorem oW(s:Spc)(w:Wch)(y:Itm)(hs:SpcB s):AFn prog 73 [.agg (AW s), .agg (EC w), .agg (CZ y)] (fun r=>r= .v (.bool (CK s w y.dir y.name y.file))):=by
 refine enter Tryz.func73 rfl rfl rfl rfl rfl 0 rfl ?_;refine JN (h:=Fy (h:=e_ (BF (Ak (h:=?_)))));refine A4 rfl (fun hb1 hc1=>?_) (fun hb1 hc1=>?_)
 ·refine q_ (?_);refine BC (fun S=>S=⟨look [(3, .bp 0 0),(4, .bp 1 0),(5, .bp 2 0),(23, .v (.bool (!decide (w.file=(0,0))&&decide (w.file=y.file))))],⟨[AW s,EC w,CZ y],[]⟩⟩) ?_ ?_
  ·skip
   refine Aw (AO (h:=Bk (h:=?_)));refine A3 rfl (GF rfl rfl (by repeat constructor) (by repeat constructor) (fun W=>ZB w.file (0,0) W) (by kernel_rfl) ?_);refine m_ (h:=?_);refine AJ true rfl rfl (fun hb2 hc2=>?_) (fun hb2 hc2=>?_)
   ·refine Eg (h:=?_);refine As (GF rfl rfl (by repeat constructor) (by repeat constructor) (fun W=>Po w.file y.file W) (by kernel_rfl) ?_);refine FE (h:=?_);exact⟨_,rfl,CM 3 0 rfl⟩
   refine GM (h:=GH (h:=?_));exact⟨_,rfl,CM 3 0 rfl⟩
  rintro S rfl;refine A4 rfl (fun hb3 hc3=>?_) (fun hb3 hc3=>?_)
  ·refine BK (h:=D8 (h:=?_));refine A6 ?_
   first|(exfalso;first|contradiction|omega)|(exact vb (by first|(rw[Jv hc1,hc3];simp[*];done)|(rw[Jv hc1,hc3];rfl)|(have hj3:j=0∨j=1:=(by omega);rcases hj3 with rfl|rfl<;>simp_all [CK];done)|(simp[CK,hj1 (by omega),hj2 (by omega), *];done)|(simp[CK, *];done)))
  refine FY (h:=FD (h:=?_));refine AJ true rfl rfl (fun hb4 hc4=>?_) (fun hb4 hc4=>?_)
  ·refine Eg (h:=?_);refine As (GF rfl rfl (by repeat constructor) (by repeat constructor) (fun W=>Po y.dir w.dir W) (by kernel_rfl) ?_);refine Bu (h:=?_);refine AJ true rfl rfl (fun hb5 hc5=>?_) (fun hb5 hc5=>?_)
   ·refine AO (h:=CN (h:=CD (h:=Ax (h:=?_))));refine A6 ?_
    first|(exfalso;first|contradiction|omega)|(exact vb (by first|(rw[Jv hc1,hc3];simp[*];done)|(rw[Jv hc1,hc3];rfl)|(have hj3:j=0∨j=1:=(by omega);rcases hj3 with rfl|rfl<;>simp_all [CK];done)|(simp[CK,hj1 (by omega),hj2 (by omega), *];done)|(simp[CK, *];done)))
   refine GM (h:=Ax (h:=?_));refine A6 ?_
   first|(exfalso;first|contradiction|omega)|(exact vb (by first|(rw[Jv hc1,hc3];simp[*];done)|(rw[Jv hc1,hc3];rfl)|(have hj3:j=0∨j=1:=(by omega);rcases hj3 with rfl|rfl<;>simp_all [CK];done)|(simp[CK,hj1 (by omega),hj2 (by omega), *];done)|(simp[CK, *];done)))
  refine FX (h:=GM (h:=Ax (h:=?_)));refine A6 ?_
  first|(exfalso;first|contradiction|omega)|(exact vb (by first|(rw[Jv hc1,hc3];simp[*];done)|(rw[Jv hc1,hc3];rfl)|(have hj3:j=0∨j=1:=(by omega);rcases hj3 with rfl|rfl<;>simp_all [CK];done)|(simp[CK,hj1 (by omega),hj2 (by omega), *];done)|(simp[CK, *];done)))
 refine Ak (h:=?_);refine A4 rfl (fun hb6 hc6=>?_) (fun hb6 hc6=>?_)
 ·refine Ay (h:=AO (h:=Sq (h:=e_ (BF (?_)))));refine BM (fun m S=>∃j:Nat,j≤2∧m=2 - j∧(0<j→Eo s w.file y.dir=false)∧(1<j→Eo s w.file y.file=false)∧S=⟨look [(3, .bp 0 0),(4, .bp 1 0),(5, .bp 2 0),(47, .agg [.v (.int .i64 y.dir.1), .v (.int .i64 y.dir.2), .v (.int .i64 y.file.1), .v (.int .i64 y.file.2)]),(48, .v (.int .i64 (j:Int)))],⟨[AW s,EC w,CZ y],[]⟩⟩) (2) ((wk 3 0)) (⟨0,by omega,rfl,fun q=>by omega,fun q=>by omega,rfl⟩) ?_;rintro m S ⟨j,hj,rfl,hj1,hj2,rfl⟩;refine w_ (Cv (h:=q_ (?_)));refine A4 rfl (fun hb7 hc7=>?_) (fun hb7 hc7=>?_)
  ·refine By (h:=?_);refine BC (fun S=>∃z,z=(if j=0 then y.dir else y.file)∧S=⟨look [(3, .bp 0 0),(4, .bp 1 0),(5, .bp 2 0),(8, .bp 3 0),(47, .agg [.v (.int .i64 y.dir.1), .v (.int .i64 y.dir.2), .v (.int .i64 y.file.1), .v (.int .i64 y.file.2)]),(48, .v (.int .i64 (j:Int)))],⟨[AW s,EC w,CZ y,AB z],[]⟩⟩) ?_ ?_
   ·skip
    refine Aw (?_);refine A3 rfl (oV j rfl rfl (by omega) ?_);refine Mf (h:=GH (h:=?_));exact⟨_,⟨_,rfl,rfl⟩,Ah 4 0 rfl rfl rfl rfl ((by repeat (first|exact Sub.nil|refine Ai rfl rfl ?_|refine Ap ?_|refine Aq rfl ?_|refine Ar rfl ?_)))⟩
   rintro S ⟨z,hz,rfl⟩;refine BC (fun S=>S=⟨look [(3, .bp 0 0),(4, .bp 1 0),(5, .bp 2 0),(47, .agg [.v (.int .i64 y.dir.1), .v (.int .i64 y.dir.2), .v (.int .i64 y.file.1), .v (.int .i64 y.file.2)]),(48, .v (.int .i64 (j:Int))),(60, .v (.bool (Eo s w.file z)))],⟨[AW s,EC w,CZ y],[]⟩⟩) ?_ ?_
   ·skip
    refine Aw (H7 (h:=?_));refine A3 rfl (A8 (mX s z hs) ?_);rintro r rfl;refine m_ (h:=?_);refine AJ true rfl rfl (fun hb8 hc8=>?_) (fun hb8 hc8=>?_)
    ·refine l_ (h:=AO (h:=l_ (h:=?_)));refine As (A8 (j1 s hs w.file z) ?_);rintro r rfl;refine FE (h:=?_);refine⟨_,rfl,Ah 3 0 rfl rfl rfl rfl (by repeat (first|exact Sub.nil|refine Ai rfl rfl ?_|(apply Sub.of;(focus exact rfl);(focus exact LeA.of_eq (vb (by first|rfl|exact(ZZ ‹_›).symm)));(focus exact rfl))))⟩
    refine GM (h:=GH (h:=?_));refine⟨_,rfl,Ah 3 0 rfl rfl rfl rfl (by repeat (first|exact Sub.nil|refine Ai rfl rfl ?_|(apply Sub.of;(focus exact rfl);(focus exact LeA.of_eq (vb (by first|rfl|exact(ZZ ‹_›).symm)));(focus exact rfl))))⟩
   rintro S rfl;refine A4 rfl (fun hb9 hc9=>?_) (fun hb9 hc9=>?_)
   ·refine CB (h:=BN (Lr (D8 (h:=?_))));refine A6 ?_
    first|(exfalso;first|contradiction|omega)|(exact vb (by first|(rw[Jv hc1,hc3];simp[*];done)|(rw[Jv hc1,hc3];rfl)|(have hj3:j=0∨j=1:=(by omega);rcases hj3 with rfl|rfl<;>simp_all [CK];done)|(simp[CK,hj1 (by omega),hj2 (by omega), *];done)|(simp[CK, *];done)))
   refine BG (BA (t_ (Aw (JQ (h:=?_)))));have hj3:j=0∨j=1:=by omega
   refine⟨_,_,?_,⟨j+1,by omega,rfl,?_,?_,rfl⟩,Ah 3 0 rfl rfl rfl rfl ((by repeat (first|exact Sub.nil|refine Ai rfl rfl ?_|refine Ap ?_|refine Aq rfl ?_|refine Ar rfl ?_)))⟩
   ·omega
   ·intro _;rcases hj3 with rfl|rfl
    ·rw[if_pos rfl]at hz;rw[←hz];assumption
    exact hj1 (by omega)
   intro q;rcases hj3 with rfl|rfl
   ·omega
   rw[if_neg (by omega)]at hz;rw[←hz];assumption
  refine Kb (h:=Sr (h:=?_));refine A6 ?_
  first|(exfalso;first|contradiction|omega)|(exact vb (by first|(rw[Jv hc1,hc3];simp[*];done)|(rw[Jv hc1,hc3];rfl)|(have hj3:j=0∨j=1:=(by omega);rcases hj3 with rfl|rfl<;>simp_all [CK];done)|(simp[CK,hj1 (by omega),hj2 (by omega), *];done)|(simp[CK, *];done)))
 refine FG (h:=?_);refine A6 ?_
 first|(exfalso;first|contradiction|omega)|(exact vb (by first|(rw[Jv hc1,hc3];simp[*];done)|(rw[Jv hc1,hc3];rfl)|(have hj3:j=0∨j=1:=(by omega);rcases hj3 with rfl|rfl<;>simp_all [CK];done)|(simp[CK,hj1 (by omega),hj2 (by omega), *];done)|(simp[CK, *];done)))
theorem oX(s:Spc)(w:Wch)(y:Itm)(hs:SpcB s)(hw:w.kind=2→SpcV s):AFn prog 74 [.agg (AW s), .agg (EC w), .agg (CZ y)] (fun r=>r= .v (.bool (CK s w y.dir y.name y.file))):=by
 refine enter Tryz.func74 rfl rfl rfl rfl rfl 0 rfl ?_;refine JN (h:=Fy (h:=e_ (BF (Ak (h:=?_)))));refine A4 rfl (fun hb1 hc1=>?_) (fun hb1 hc1=>?_)
 ·refine Ay (h:=Bk (h:=?_));refine A3 rfl (GF rfl rfl (by repeat constructor) (by repeat constructor) (fun W=>ZB w.file (0,0) W) (by kernel_rfl) ?_);refine m_ (h:=?_);refine AJ true rfl rfl (fun hb2 hc2=>?_) (fun hb2 hc2=>?_)
  ·refine Eg (h:=?_);refine As (GF rfl rfl (by repeat constructor) (by repeat constructor) (fun W=>Po y.file w.file W) (by kernel_rfl) ?_);refine Bu (h:=?_);refine AJ false rfl rfl (fun hb3 hc3=>?_) (fun hb3 hc3=>?_)
   ·refine BB (h:=Ka (h:=Kz (h:=BY (h:=Ka (h:=Fx (h:=CD (h:=Ax (h:=?_))))))));refine A6 ?_
    first|(exfalso;first|contradiction|omega)|(exact vb (by first|(simp[CK,Eo, *];done)|(simp[CK,Eo, *,eq_comm];done)))
   refine GJ (h:=?_);refine AJ true rfl rfl (fun hb4 hc4=>?_) (fun hb4 hc4=>?_)
   ·refine Eg (h:=?_);refine As (GF rfl rfl (by repeat constructor) (by repeat constructor) (fun W=>Po y.dir w.dir W) (by kernel_rfl) ?_);refine Bu (h:=?_);refine AJ true rfl rfl (fun hb5 hc5=>?_) (fun hb5 hc5=>?_)
    ·refine AO (h:=CN (h:=CD (h:=Bh (h:=Ax (h:=?_)))));refine A6 ?_
     first|(exfalso;first|contradiction|omega)|(exact vb (by first|(simp[CK,Eo, *];done)|(simp[CK,Eo, *,eq_comm];done)))
    refine GM (h:=Bh (h:=Ax (h:=?_)));refine A6 ?_
    first|(exfalso;first|contradiction|omega)|(exact vb (by first|(simp[CK,Eo, *];done)|(simp[CK,Eo, *,eq_comm];done)))
   refine FX (h:=GM (h:=Bh (h:=Ax (h:=?_))));refine A6 ?_
   first|(exfalso;first|contradiction|omega)|(exact vb (by first|(simp[CK,Eo, *];done)|(simp[CK,Eo, *,eq_comm];done)))
  refine FX (h:=GJ (h:=?_));refine AJ true rfl rfl (fun hb6 hc6=>?_) (fun hb6 hc6=>?_)
  ·refine Eg (h:=?_);refine As (GF rfl rfl (by repeat constructor) (by repeat constructor) (fun W=>Po y.dir w.dir W) (by kernel_rfl) ?_);refine Bu (h:=?_);refine AJ true rfl rfl (fun hb7 hc7=>?_) (fun hb7 hc7=>?_)
   ·refine AO (h:=CN (h:=CD (h:=Bh (h:=Ax (h:=?_)))));refine A6 ?_
    first|(exfalso;first|contradiction|omega)|(exact vb (by first|(simp[CK,Eo, *];done)|(simp[CK,Eo, *,eq_comm];done)))
   refine GM (h:=Bh (h:=Ax (h:=?_)));refine A6 ?_
   first|(exfalso;first|contradiction|omega)|(exact vb (by first|(simp[CK,Eo, *];done)|(simp[CK,Eo, *,eq_comm];done)))
  refine FX (h:=GM (h:=Bh (h:=Ax (h:=?_))));refine A6 ?_
  first|(exfalso;first|contradiction|omega)|(exact vb (by first|(simp[CK,Eo, *];done)|(simp[CK,Eo, *,eq_comm];done)))
 refine Ak (h:=?_);refine A4 rfl (fun hb8 hc8=>?_) (fun hb8 hc8=>?_)
 ·have hv:=hw hc8;have hmo:CR s.files≤5000:=by have:=U3 hv.files;omega
  refine C4 (h:=Eg (h:=?_));refine A3 rfl (A8 (Xz hs hv hmo w.file y.dir) ?_);rintro r rfl;refine m_ (h:=?_);refine AJ false rfl rfl (fun hb9 hc9=>?_) (fun hb9 hc9=>?_)
  ·refine Ja (h:=CD (h:=Ax (h:=?_)));refine A6 ?_
   first|(exfalso;first|contradiction|omega)|(exact vb (by first|(simp[CK,Eo, *];done)|(simp[CK,Eo, *,eq_comm];done)))
  refine l_ (h:=Eg (h:=?_));refine As (A8 (Xz hs hv hmo w.file y.file) ?_);rintro r rfl;refine Bh (h:=Ax (h:=?_));refine A6 ?_
  first|(exfalso;first|contradiction|omega)|(exact vb (by first|(simp[CK,Eo, *];done)|(simp[CK,Eo, *,eq_comm];done)))
 refine FG (h:=?_);refine A6 ?_
 first|(exfalso;first|contradiction|omega)|(exact vb (by first|(simp[CK,Eo, *];done)|(simp[CK,Eo, *,eq_comm];done)))
end
end Go.Proofs.YtbgnigjfkbmceaaGreatDoor
