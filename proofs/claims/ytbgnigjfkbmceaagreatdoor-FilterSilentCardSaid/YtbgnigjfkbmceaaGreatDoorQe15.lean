/-
  Part 15 of the proof of FilterSilentP: what the statement's proof uses of the texts in wip/tpl.
-/
import Derived.Test.YtbgnigjfkbmceaaGreatDoorQe14
open Go.Proofs.Tryz (prog)
set_option maxRecDepth 10000
set_option maxHeartbeats 4000000
set_option linter.unusedVariables false
set_option linter.unusedSimpArgs false
namespace Go.Proofs.YtbgnigjfkbmceaaGreatDoor
open Go.RowKit
section
theorem mT(l:List Rul)(r:Rul)(hl:l.length≤1000)(hi:∀r∈l,F9 r)(hr:F9 r):AFn prog 61 [.sl 8 (l.map Ag) none, .agg (Ag r), .v (.bool true)] (fun x=>x=J7 (Cy l r true)):=by
 refine enter Tryz.func61 rfl rfl rfl rfl rfl 0 rfl ?_;refine Ef (h:=a_ (h:=Bn (h:=?_)));refine A3 rfl (A8 (Yh l hl hi) ?_);rintro r rfl;refine Bu (h:=Bo (h:=?_));refine A4 rfl (fun hb1 hc1=>?_) (fun hb1 hc1=>?_)
 ·refine AX (h:=EO (h:=?_));refine AU (r:=J7 (Cy l r true)) none (h5:=?_) (h6:=⟨rfl,rfl,rfl⟩);exact Me (by simp[Cy, *])
 refine FD (h:=C5 (h:=?_));refine A3 rfl (A8 (RU r hr) ?_);rintro r rfl;refine Bu (h:=Bo (h:=?_));refine A4 rfl (fun hb2 hc2=>?_) (fun hb2 hc2=>?_)
 ·refine AX (h:=EO (h:=?_));refine AU (r:=J7 (Cy l r true)) none (h5:=?_) (h6:=⟨rfl,rfl,rfl⟩);exact Me (by simp[Cy, *])
 refine Ds (h:=l_ (h:=?_));refine A3 rfl (A8 (UA l r hl fun x hx=>(hi x hx).2.2.2) ?_);rintro r rfl;refine E7 (h:=e_ (?_));refine A4 rfl (fun hb3 hc3=>?_) (fun hb3 hc3=>?_)
 ·refine w_ (EO (h:=?_));refine AU (r:=J7 (Cy l r true)) none (h5:=?_) (h6:=⟨rfl,rfl,rfl⟩);exact Me (by simp[Cy, *])
 refine Ds (h:=n_ (h:=BN (h:=?_)));refine A4 rfl (fun hb4 hc4=>?_) (fun hb4 hc4=>?_)
 ·rw[List.length_map]at hc4;refine w_ (EO (h:=?_));refine AU (r:=J7 (Cy l r true)) none (h5:=?_) (h6:=⟨rfl,rfl,rfl⟩);exact Me (by simp[Cy, *])
 rw[List.length_map]at hc4;have h5:=Yi (not_not_intro hc1);have h4:¬24≤(l.length:Int):=by omega
 refine Ds (h:=e_ (?_));refine A4 rfl (fun hb5 hc5=>?_) (fun hb5 hc5=>?_)
 ·refine C5 (h:=?_);refine A3 rfl (A8 (RW r hr.2.2.2) ?_);rintro r rfl;refine A3 rfl (Uy (by repeat (first|exact DenseA.nil _|(apply DenseA.cons;(focus exact rfl);(focus exact rfl);(focus exact rfl);(focus exact rfl))|(apply DenseA.consE;(focus exact rfl);(focus exact rfl);(focus exact rfl)))) rfl rfl rfl rfl (by repeat constructor) ?_);refine m_ (h:=?_);refine A3 rfl (A8 (mR l hl fun x hx=>(hi x hx).2.2.2) ?_);rintro r rfl;refine Hw (h:=a_ (h:=a_ (h:=e_ (B5 (Ba (?_))))));refine AU (r:=J7 (Cy l r true)) none (h5:=?_) (h6:=⟨rfl,rfl,rfl⟩);exact Yj (l:=r::l) (by simp[Cy, *])
 exact Df
theorem mU(l:List Rul)(r:Rul)(hl:l.length≤1000)(hi:∀r∈l,F9 r)(hr:F9 r):AFn prog 61 [.sl 8 (l.map Ag) none, .agg (Ag r), .v (.bool false)] (fun x=>x=J7 (Cy l r false)):=by
 refine enter Tryz.func61 rfl rfl rfl rfl rfl 0 rfl ?_;refine Ef (h:=a_ (h:=Bn (h:=?_)));refine A3 rfl (A8 (Yh l hl hi) ?_);rintro r rfl;refine Bu (h:=Bo (h:=?_));refine A4 rfl (fun hb1 hc1=>?_) (fun hb1 hc1=>?_)
 ·refine AX (h:=EO (h:=?_));refine AU (r:=J7 (Cy l r false)) none (h5:=?_) (h6:=⟨rfl,rfl,rfl⟩);exact Me (by simp[Cy, *])
 refine FD (h:=C5 (h:=?_));refine A3 rfl (A8 (RU r hr) ?_);rintro r rfl;refine Bu (h:=Bo (h:=?_));refine A4 rfl (fun hb2 hc2=>?_) (fun hb2 hc2=>?_)
 ·refine AX (h:=EO (h:=?_));refine AU (r:=J7 (Cy l r false)) none (h5:=?_) (h6:=⟨rfl,rfl,rfl⟩);exact Me (by simp[Cy, *])
 refine Ds (h:=l_ (h:=?_));refine A3 rfl (A8 (UA l r hl fun x hx=>(hi x hx).2.2.2) ?_);rintro r rfl;refine E7 (h:=e_ (?_));refine A4 rfl (fun hb3 hc3=>?_) (fun hb3 hc3=>?_)
 ·refine w_ (EO (h:=?_));refine AU (r:=J7 (Cy l r false)) none (h5:=?_) (h6:=⟨rfl,rfl,rfl⟩);exact Me (by simp[Cy, *])
 refine Ds (h:=n_ (h:=BN (h:=?_)));refine A4 rfl (fun hb4 hc4=>?_) (fun hb4 hc4=>?_)
 ·rw[List.length_map]at hc4;refine w_ (EO (h:=?_));refine AU (r:=J7 (Cy l r false)) none (h5:=?_) (h6:=⟨rfl,rfl,rfl⟩);exact Me (by simp[Cy, *])
 rw[List.length_map]at hc4;have h5:=Yi (not_not_intro hc1);have h4:¬24≤(l.length:Int):=by omega
 refine Ds (h:=e_ (?_));refine A4 rfl (fun hb5 hc5=>?_) (fun hb5 hc5=>?_)
 ·exact Df
 refine AF (q_ (BO ([(0,Ag r)]) 8 (h:=AG 0 (h:=?_))))
 first|refine A9 2 (h:=?_)|refine By 2 rfl (fun _ hS=>KE rfl (by rw[hS];rfl) rfl ⟨rfl,rfl⟩) ?_
 refine c_ 1 rfl (SA rfl (by repeat (first|exact Args.nil|refine Args.cons _ _ _ _ _ rfl (L5 rfl) ?_|refine Args.cons _ _ _ _ _ rfl (MB _) ?_|refine Args.cons _ _ _ _ _ rfl (LX _) ?_|refine Args.cons _ _ _ _ _ rfl (MF rfl (by repeat (first|exact A7 _|exact LeA.nil _|exact LeL.refl _|refine LeA.agg ?_|refine LeA.tup ?_|exact LeL.nil|refine LeL.cons ?_ ?_|exact LeA.any _))) ?_)) (mQ l hl fun x hx=>(hi x hx).2.2.2) (fun _=>rfl) (by repeat constructor) ?_);refine o_ (h:=?_);refine c_ 3 rfl (A8 (RW r hr.2.2.2) ?_);rintro r rfl;refine o_ (h:=Jk 4 (h:=?_))
 first|refine c_ 5 rfl (EF rfl rfl rfl (by simp<;>omega) (by repeat constructor) ?_)|refine c_ 5 rfl (Ht rfl rfl (by simp<;>omega) (by repeat constructor) ?_)
 refine o_ (h:=BB 6 (h:=BB 7 (h:=z_ (h:=t_ (B5 (?_))))));refine AU (r:=J7 (Cy l r false)) none (h5:=?_) (h6:=⟨rfl,rfl,rfl⟩);have:=Yj (x:=Cy l r false) (l:=l++[r]) (e:=0) (by simp[Cy, *]);rw[List.map_append]at this;exact this
theorem Yk(l:List Rul)(r:Rul)(front:Bool)(hl:l.length≤1000)(hi:∀r∈l,F9 r)(hr:F9 r):AFn prog 61 [.sl 8 (l.map Ag) none, .agg (Ag r), .v (.bool front)] (fun x=>x=J7 (Cy l r front)):=by
 cases front
 ·exact mU l r hl hi hr
 exact mT l r hl hi hr
end
def mV(u:Int):Ctx:=⟨2,0,0,u,0,0,0,0,0,(0,0),⟨#[]⟩,⟨#[]⟩,false,0,0,0,0,0,0,[],0⟩
def OG:Cxs:=⟨[],[],[]⟩
structure Pol where
 rules:List Rul
 wats:List Wch
deriving DecidableEq
def CL(p:Pol):List AV:=[.sl 8 (p.rules.map Ag) none, .sl 6 (p.wats.map Eb) none]
def Fa:Pol:=⟨[],[]⟩
def KY(x:Pol×Int):AV:= .tup [.agg (CL x.1), .v (.int .i64 x.2)]
def DM(s:Spc)(r:Rul):Wch×Int:=if r.watch=0 then(Fs,0)else if(OE s r.watch r.path).2≠0 then(Fs,180)else((OE s r.watch r.path).1,0)
def LR(s:Spc)(l:List Rul):Pol×Int:=if ED l≠0 then(Fa,ED l)else if l.all (fun r=>decide ((DM s r).2=0))=true then(⟨l,l.map fun r=>(DM s r).1⟩,0)else(Fa,180)
def Hp(s:Spc)(p:Pol)(r:Rul)(front:Bool):Pol×Int:=
 if(Cy p.rules r front).2≠0 then(Fa,(Cy p.rules r front).2)else if(DM s r).2≠0 then(Fa,(DM s r).2)
 else(⟨(Cy p.rules r front).1,if front=true then(DM s r).1::p.wats else p.wats++[(DM s r).1]⟩,0)
theorem mW(s:Spc)(r:Rul):(DM s r).2=0∨(DM s r).2=180:=by
 unfold DM;split
 ·exact .inl rfl
 split
 ·exact .inr rfl
 exact .inl rfl
section
theorem Yl(s:Spc)(r:Rul)(hv:SpcV s)(hm:s.mounts.length≤1000)(hr:F9 r):AFn prog 90 [.agg (Ag r), .agg (AY s)] (fun x=>x=RS (DM s r)):=by
 obtain⟨F,hF⟩:∃F,OE s r.watch r.path=F:=⟨_,rfl⟩;have hplc:AFn prog 130 [.agg (AY s), .v (.int .i64 r.watch), .v (.string r.path)] (fun x=>x= .tup [.agg (Eb F.1), .v (.int .i64 F.2)]):=by rw[←hF];exact m5 s r.watch r.path hv hm hr.2.2.1
 have hw:DM s r=if r.watch=0 then(Fs,0)else if F.2≠0 then(Fs,180)else(F.1,0):=by rw[DM,hF]
 refine enter Tryz.func90 rfl rfl rfl rfl rfl 0 rfl ?_;refine Ff (h:=J1 (h:=BN (h:=?_)));refine A4 rfl (fun hb1 hc1=>?_) (fun hb1 hc1=>?_)
 ·have k1:r.watch=0:=hc1;refine Bq (h:=?_);refine A6 ?_;rw[hw,if_pos k1];rfl
 have k1:¬r.watch=0:=hc1;refine AF (C5 (h:=JM (h:=?_)));refine A3 rfl (A8 (hplc) ?_);rintro r rfl;refine JG (h:=Bo (h:=?_));refine A4 rfl (fun hb2 hc2=>?_) (fun hb2 hc2=>?_)
 ·have k2:F.2≠0:=by simpa using hc2
  refine Bq (h:=?_);refine A6 ?_;rw[hw,if_neg k1,if_pos k2];rfl
 have k2:¬F.2≠0:=by simpa using hc2
 refine AF (Dr (h:=B8 (h:=?_)));refine A6 ?_;rw[hw,if_neg k1,if_neg k2];rfl
theorem mX(p:Pol)(i:Nat)(x:Wch)(hl:p.wats.length≤1000)(hx:p.wats[i]?=some x):AFn prog 70 [.agg (CL p), .v (.int .i64 (i:Int))] (fun r=>r= .agg (Eb x)):=by
 have hlt:i<p.wats.length:=(Ab.1 hx).1;have hrow:(p.wats.map Eb)[i]?=some (Eb x):=by rw[List.getElem?_map,hx];rfl
 refine enter Tryz.func70 rfl rfl rfl rfl rfl 0 rfl ?_;refine EH (h:=e_ (Bk (h:=DZ (h:=?_))));refine AJ false rfl rfl (fun hb1 hc1=>?_) (fun hb1 hc1=>?_)
 ·exact Df
 refine m_ (h:=GG (h:=E7 (h:=CH (h:=?_))));refine A4 rfl (fun hb2 hc2=>?_) (fun hb2 hc2=>?_)
 ·have hc2:=bp hb2;simp at hc2;omega
 refine AF (Gt (h:=l_ (h:=s_ (h:=e_ (B5 (?_))))));refine A6 ?_;rfl
theorem mY(r:Rul)(hr:r.tests.length≤1000):AFn prog 87 [.agg (Ag r)] (fun x=>x= .agg (Ag r)):=by
 refine enter Tryz.func87 rfl rfl rfl rfl rfl 0 rfl ?_;refine EH (h:=e_ (B0 (h:=?_)));refine A3 rfl (A8 (mJ r.tests hr) ?_);rintro r rfl;refine Ct (h:=Dr (h:=e_ (B5 (?_))));refine A6 ?_;rfl
end
def Hq(s:Spc)(l:List Rul):List Wch:=l.map fun r=>(DM s r).1
theorem mZ{s:Spc}{l:List Rul}{j:Nat}{r:Rul}(h:l[j]?=some r):(Hq s (l.take (j+1))).map Eb=(Hq s (l.take j)).map Eb++[Eb (DM s r).1]:=by
 simp[Hq,List.take_add_one,h]
theorem n8{s:Spc}{l:List Rul}{j:Nat}{r:Rul}(h:l[j]?=some r)(ha:∀r∈l.take j,(DM s r).2=0)(hr:(DM s r).2=0):∀r∈l.take (j+1),(DM s r).2=0:=by
 intro x hx;rw[List.take_add_one,h]at hx;rcases List.mem_append.1 hx with hx|hx
 ·exact ha x hx
 have e:x=r:=by simpa using hx
 rw[e];exact hr
theorem n9{s:Spc}{l:List Rul}(h:ED l≠0):LR s l=(Fa,ED l):=by rw[LR,if_pos h]
theorem nA{s:Spc}{l:List Rul}{r:Rul}(h:¬ED l≠0)(hr:r∈l)(hp:(DM s r).2≠0):LR s l=(Fa,(DM s r).2):=by
 rw[LR,if_neg h,if_neg]
 ·rcases mW s r with e|e
  ·exact absurd e hp
  rw[e]
 intro k;exact hp (of_decide_eq_true (List.all_eq_true.1 k r hr))
theorem Ym{s:Spc}{l:List Rul}(h:¬ED l≠0)(ha:∀r∈l,(DM s r).2=0):LR s l=(⟨l,Hq s l⟩,0):=by
 rw[LR,if_neg h,if_pos]
 ·rfl
 exact List.all_eq_true.2 fun r hr=>decide_eq_true (ha r hr)
theorem OH{x:Pol×Int}{e:Int}(h:x=(Fa,e)):LeA (.tup [.agg [.v (.slice none 0 0), .v (.slice none 0 0)], .v (.int .i64 e)]) (KY x):=by
 rw[h];exact(by repeat (first|exact A7 _|exact LeA.nil _|exact LeL.refl _|refine LeA.agg ?_|refine LeA.tup ?_|exact LeL.nil|refine LeL.cons ?_ ?_|exact LeA.any _))
section
theorem nB(s:Spc)(r:Rul)(h0:r.watch=0):AFn prog 86 [.agg (AY s), .agg (Ag r)] (fun x=>x=RS (DM s r)):=by
 have hw:DM s r=(Fs,0):=if_pos h0;refine enter Tryz.func86 rfl rfl rfl rfl rfl 0 rfl ?_;refine Ff (h:=J1 (h:=BN (h:=?_)));refine A4 rfl (fun hb1 hc1=>?_) (fun hb1 hc1=>?_)
 ·refine Bq (h:=?_);refine A6 ?_;rw[hw];rfl
 exact Df
theorem nC(s:Spc)(l:List Rul)(hl:l.length≤1000)(hi:∀r∈l,F9 r)(hplc0:∀r,r∈l→AFn prog 86 [.agg (AY s), .agg (Ag r)] (fun x=>x=RS (DM s r))):AFn prog 41 [.sl 8 (l.map Ag) none, .agg (AY s)] (fun x=>x=KY (LR s l)):=by
 have hplc:∀r,r∈l→AFn prog 86 [.agg (AY s), .agg (Ag r)] (fun x=>x= .tup [.agg (Eb (DM s r).1), .v (.int .i64 (DM s r).2)]):=hplc0;refine enter Tryz.func41 rfl rfl rfl rfl rfl 0 rfl ?_;refine EH (h:=Bn (h:=?_));refine A3 rfl (A8 (mP l hl hi) ?_);rintro r rfl;refine Bu (h:=Bo (h:=?_));refine A4 rfl (fun hb1 hc1=>?_) (fun hb1 hc1=>?_)
 ·have k1:ED l≠0:=by simpa using hc1
  refine w_ (Gw (h:=E8 (h:=?_)));refine AU (r:=KY (LR s l)) none (h5:=?_) (h6:=⟨rfl,rfl,rfl⟩);exact OH (n9 k1)
 have k1:¬ED l≠0:=by simpa using hc1
 refine AF (w_ (CY (h:=e_ (Bk (h:=JK (h:=e_ (BK (?_))))))));refine LY 2 0 83 8 rfl rfl (by repeat constructor) (by repeat constructor) (by repeat constructor) ?_;refine LY 2 1 93 6 rfl rfl (by repeat constructor) (by repeat constructor) (by repeat constructor) ?_;refine BU (fun n S=>∃j:Nat,j≤l.length∧n=l.length - j∧(∀r∈l.take j,(DM s r).2=0)∧S=⟨look [(3, .bp 0 0),(4, .bp 1 0),(7, .bp 2 0),(18, .sl 8 (l.map Ag) none),(19, .v (.int .i64 ((l.map Ag).length:Int))),(20, .v (.int .i64 (j:Int)))],⟨[AY s,[.v (.slice none 0 0), .v (.slice none 0 0)],[.sl 8 ((l.take j).map Ag) (some 0), .sl 6 ((Hq s (l.take j)).map Eb) (some 1)]],[(83,8,(l.take j).map Ag),(93,6,(Hq s (l.take j)).map Eb)]⟩⟩) (l.length) ((wk 3 2)) (⟨0,BH _,rfl,by simp,rfl⟩) ?_;rintro n S ⟨j,hj,rfl,ha,rfl⟩;refine w_ (D2 (h:=q_ (?_)));refine A4 rfl (fun hb2 hc2=>?_) (fun hb2 hc2=>?_)
 ·obtain⟨hlt,r,hy,hrow,e⟩:=C1 Ag hc2;refine C0 (h:=w_ (i_ (h:=JH (h:=CN (h:=?_)))));refine A3 rfl (A8 (hplc r (Aj hy)) ?_);rintro r rfl;refine JG (h:=Bo (h:=?_));refine A4 rfl (fun hb3 hc3=>?_) (fun hb3 hc3=>?_)
  ·have k2:(DM s r).2≠0:=by simpa using hc3
   refine w_ (Gw (h:=E8 (h:=D1 (h:=CT (h:=?_)))));refine AU (r:=KY (LR s l)) none (h5:=?_) (h6:=⟨rfl,rfl,rfl⟩);exact OH (nA k1 (Aj hy) k2)
  have k2:(DM s r).2=0:=by simpa using hc3
  refine AF (q_ (BO ([(0,AY s),(1,[.v (.slice none 0 0), .v (.slice none 0 0)]),(2,[.sl 8 ((l.take j).map Ag) (some 0), .sl 6 ((Hq s (l.take j)).map Eb) (some 1)]),(3,Ag r)]) 6 (h:=AD 0 (h:=A9 1 (h:=A9 2 (h:=?_))))));refine c_ 3 rfl (A8 (mY r (hi r (Aj hy)).2.2.2) ?_);rintro r rfl;refine o_ (h:=Jk 4 (h:=?_))
  first|refine c_ 5 rfl (EF rfl rfl rfl (by simp[Hq]<;>omega) (by repeat constructor) ?_)|refine c_ 5 rfl (Ht rfl rfl (by simp[Hq]<;>omega) (by repeat constructor) ?_)
  refine o_ (h:=?_);refine c_ 6 rfl (KD rfl ?_);refine o_ (h:=?_);refine B6 7 (h:=z_ (h:=t_ (Aw (f_ (h:=l_ (h:=l_ (h:=BY (h:=?_))))))))
  first|refine A3 rfl (EF rfl rfl rfl (by simp[Hq]<;>omega) (by repeat constructor) ?_)|refine A3 rfl (Ht rfl rfl (by simp[Hq]<;>omega) (by repeat constructor) ?_)
  refine CS (h:=C4 (BE (t_ (Aw (J3 (h:=?_))))));refine⟨_,_,?_,⟨j+1,by omega,rfl,n8 hy ha k2,rfl⟩,?_⟩
  ·omega
  rw[e,mZ hy];exact(wk 3 2)
 have e:=CF Ag hj hc2;subst e;rw[List.take_length]at ha ⊢;refine CJ (h:=Dr (h:=B8 (h:=?_)));refine A6 ?_;rw[Ym k1 ha];rfl
end
section
theorem nD(l:List Int)(a:Nat)(ha:a≤100000000000):GenF prog 84 l a [] 4 (fun r=>∃s:ByteArray,r= .v (.string s)∧s.size≤60):=by
 refine enter Tryz.func84 rfl rfl rfl rfl rfl 1 rfl ?_;refine DG (h:=w_ (Bn (h:=BY (h:=?_))));refine A3 rfl (Ax 0 (hc:=GQ l _ _ (fun z=>decide (1≤z∧z≤3)) (by omega) (by rfl) (by rfl) (by rfl)) (hR:=?_));rintro r a1 ha1 ⟨k1,rfl,p1⟩;refine Ay ?_;obtain⟨hz1,hz2⟩:=of_decide_eq_true p1;obtain⟨m,rfl⟩:=Int.eq_ofNat_of_zero_le (show 0≤k1 by omega);refine B4 (h:=BK (?_));refine BU (fun n s=>∃(j a1:Nat) (t:ByteArray),j≤m∧n=j∧a1≤a+1+(m - j)∧t.size≤2 * (m - j)∧s=⟨look [(0, .bp 0 0),(3, .v (.string t)),(4, .v (.int .i64 (j:Int)))],⟨[E4 l a1],[]⟩⟩) (m) ((wk 1 0)) (⟨m,a1,⟨#[]⟩,by omega,rfl,by omega,by rw[Nat.sub_self];exact B3 0,rfl⟩) ?_;rintro n s ⟨j,b1,t,hj,hn,hb1,ht,rfl⟩;subst n;refine Bk (h:=E6 (h:=e_ (?_)));refine A4 rfl (fun hb1 hc1=>?_) (fun hb1 hc1=>?_)
 ·refine C0 (h:=EQ (h:=BY (h:=?_)));refine A3 rfl (Ax 0 (hc:=MW l _ _ (fun s=>decide (s.size≤1)) (by omega) (by rfl) (by rfl) (by rfl)) (hR:=?_));rintro r a2 ha2 ⟨k2,rfl,p2⟩;refine Ay ?_;have hw:=of_decide_eq_true p2;refine A3 rfl (Gd rfl rfl (by show 1+k2.size≤_;omega) ?_);refine A3 rfl (Gd rfl rfl (by have e:=ByteArray.size_append (a:=⟨#[47]⟩) (b:=k2);have:(⟨#[47]⟩:ByteArray).size=1:=rfl;omega) ?_);refine Gk (h:=BE (t_ (Bt (h:=Kf (h:=Ch (h:=?_))))));obtain⟨j,rfl⟩:∃i,j=i+1:=⟨j - 1,by omega⟩;refine⟨_,_,?_,⟨j,_,_,by omega,rfl,?_,?_,rfl⟩,Ao 1 0 rfl rfl rfl rfl (by repeat (first|exact Sub.nil|refine Ap rfl rfl ?_|(apply Sub.of;(focus exact rfl);(focus exact LeA.of_eq (vi (by omega)));(focus exact rfl))))⟩
  ·omega
  ·omega
  have e:=ByteArray.size_append (a:=⟨#[47]⟩) (b:=k2);have e2:=ByteArray.size_append (a:=t) (b:=⟨#[47]⟩++k2);have:(⟨#[47]⟩:ByteArray).size=1:=rfl;omega
 refine CJ (h:=EA (h:=?_));refine AU none (h5:=(A7 _)) (h6:=⟨_,rfl,rfl,b1,by omega,rfl,t,rfl,by omega⟩)
end
def Bare(s:Spc):Prop:=FlsV s.files∧0<s.files.length∧s.mounts=[]
theorem Bare.v{s:Spc}(h:Bare s):SpcV s:=⟨h.1,h.2.1,fun i m hm=>by rw[h.2.2]at hm;cases hm⟩
theorem Bare.m{s:Spc}(h:Bare s):s.mounts.length≤1000:=by rw[h.2.2];exact BH _
theorem K4:TabB EC:=⟨BH _,(fun p hp=>by cases hp),by decide,by decide⟩
theorem nE{t:Tab}(ht:TabB t)(pid:Int)(a:AB)(fl:Int):TabB (GA t pid a fl).1:=by
 unfold GA;split
 ·exact K4
 split
 ·exact K4
 rename_i h8;refine⟨by simpa[J5]using ht.few,fun p hp=>?_,ht.next,ht.nextS⟩;simp only[J5,List.mem_map]at hp;obtain⟨x,hx,rfl⟩:=hp;split
 ·simp[O5];omega
 exact ht.opens x hx
theorem Yn{w:Wrk}{R:Tab×Int}(h:TabB w.s.tab)(hR:TabB R.1):TabB (CB w R).1.s.tab:=by
 unfold CB;split
 ·exact hR
 exact h
theorem UB(w:Wrk)(R:Tab×Int):(CB w R).1.s.spc=w.s.spc:=by
 unfold CB;split<;>rfl
def nF(s:Syst):Prop:=Bare s.spc∧TabB s.tab
theorem Yo:nF (K0 1).1:=by
 have h:=XH (k:=1) (by decide) (by decide)
 have e:(K0 1).1=⟨⟨(G0 1).1,[]⟩,O3 (0,1)⟩:=by
  unfold K0;rw[if_neg (by decide)]
 rw[e];exact⟨⟨h.1,h.2,rfl⟩,⟨by decide,by decide,by decide,by decide⟩⟩
section
variable (s:Spc)(p:Pol)(r:Rul)(hv:SpcV s)(hm:s.mounts.length≤1000)(h1:p.rules.length≤1000)(h2:p.wats.length=p.rules.length)(hi:∀r∈p.rules,F9 r)(hr:F9 r)
include hv hm h1 h2 hi hr
theorem nG(front:Bool)(hf:front=true)(A:List Rul×Int)(hA:Cy p.rules r front=A)(W:Wch×Int)(hW:DM s r=W):AFn prog 57 [.agg (CL p), .agg (AY s), .agg (Ag r), .v (.bool true)] (fun x=>x=KY (Hp s p r front)):=by
 have hadd:AFn prog 61 [.sl 8 (p.rules.map Ag) none, .agg (Ag r), .v (.bool true)] (fun x=>x= .tup [.sl 8 (A.1.map Ag) none, .v (.int .i64 A.2)]):=by rw[←hA,hf];exact Yk p.rules r true h1 hi hr
 have hplc:AFn prog 90 [.agg (Ag r), .agg (AY s)] (fun x=>x= .tup [.agg (Eb W.1), .v (.int .i64 W.2)]):=by rw[←hW];exact Yl s r hv hm hr
 have heq:Hp s p r front=if A.2≠0 then(Fa,A.2)else if W.2≠0 then(Fa,W.2)else(⟨A.1,W.1::p.wats⟩,0):=by rw[Hp,hA,hW,hf];rfl
 refine enter Tryz.func57 rfl rfl rfl rfl rfl 0 rfl ?_;refine Fd (h:=b_ (h:=CY (h:=B4 (h:=B0 (h:=Gv (h:=?_))))));refine A3 rfl (A8 (hadd) ?_);rintro r rfl;refine GF (h:=a_ (h:=Bn (h:=Bo (h:=?_))));refine A4 rfl (fun hb1 hc1=>?_) (fun hb1 hc1=>?_)
 ·have k1:A.2≠0:=by simpa using hc1
  refine w_ (Gw (h:=E8 (h:=?_)));refine AU (r:=KY (Hp s p r front)) none (h5:=?_) (h6:=⟨rfl,rfl,rfl⟩);exact OH (by rw[heq,if_pos k1])
 have k1:¬A.2≠0:=by simpa using hc1
 refine AF (CN (h:=?_));refine A3 rfl (A8 (hplc) ?_);rintro r rfl;refine JG (h:=Bo (h:=?_));refine A4 rfl (fun hb2 hc2=>?_) (fun hb2 hc2=>?_)
 ·have k2:W.2≠0:=by simpa using hc2
  refine w_ (Gw (h:=E8 (h:=?_)));refine AU (r:=KY (Hp s p r front)) none (h5:=?_) (h6:=⟨rfl,rfl,rfl⟩);exact OH (by rw[heq,if_neg k1,if_pos k2])
 have k2:¬W.2≠0:=by simpa using hc2
 refine Ds (h:=e_ (?_));refine A4 rfl (fun hb3 hc3=>?_) (fun hb3 hc3=>?_)
 ·refine AX (h:=l_ (h:=?_));refine A3 rfl (Uy (by repeat (first|exact DenseA.nil _|(apply DenseA.cons;(focus exact rfl);(focus exact rfl);(focus exact rfl);(focus exact rfl))|(apply DenseA.consE;(focus exact rfl);(focus exact rfl);(focus exact rfl)))) rfl rfl rfl rfl (by repeat constructor) ?_);refine f_ (h:=l_ (h:=Hw (h:=Bi (h:=s_ (h:=a_ (h:=e_ (B5 (Ba (?_)))))))));refine A6 ?_;rw[heq,if_neg k1,if_neg k2];rfl
 exact Df
theorem nH(front:Bool)(hf:front=false)(A:List Rul×Int)(hA:Cy p.rules r front=A)(W:Wch×Int)(hW:DM s r=W):AFn prog 57 [.agg (CL p), .agg (AY s), .agg (Ag r), .v (.bool false)] (fun x=>x=KY (Hp s p r front)):=by
 have hadd:AFn prog 61 [.sl 8 (p.rules.map Ag) none, .agg (Ag r), .v (.bool false)] (fun x=>x= .tup [.sl 8 (A.1.map Ag) none, .v (.int .i64 A.2)]):=by rw[←hA,hf];exact Yk p.rules r false h1 hi hr
 have hplc:AFn prog 90 [.agg (Ag r), .agg (AY s)] (fun x=>x= .tup [.agg (Eb W.1), .v (.int .i64 W.2)]):=by rw[←hW];exact Yl s r hv hm hr
 have heq:Hp s p r front=if A.2≠0 then(Fa,A.2)else if W.2≠0 then(Fa,W.2)else(⟨A.1,p.wats++[W.1]⟩,0):=by rw[Hp,hA,hW,hf];rfl
 refine enter Tryz.func57 rfl rfl rfl rfl rfl 0 rfl ?_;refine Fd (h:=b_ (h:=CY (h:=B4 (h:=B0 (h:=Gv (h:=?_))))));refine A3 rfl (A8 (hadd) ?_);rintro r rfl;refine GF (h:=a_ (h:=Bn (h:=Bo (h:=?_))));refine A4 rfl (fun hb1 hc1=>?_) (fun hb1 hc1=>?_)
 ·have k1:A.2≠0:=by simpa using hc1
  refine w_ (Gw (h:=E8 (h:=?_)));refine AU (r:=KY (Hp s p r front)) none (h5:=?_) (h6:=⟨rfl,rfl,rfl⟩);exact OH (by rw[heq,if_pos k1])
 have k1:¬A.2≠0:=by simpa using hc1
 refine AF (CN (h:=?_));refine A3 rfl (A8 (hplc) ?_);rintro r rfl;refine JG (h:=Bo (h:=?_));refine A4 rfl (fun hb2 hc2=>?_) (fun hb2 hc2=>?_)
 ·have k2:W.2≠0:=by simpa using hc2
  refine w_ (Gw (h:=E8 (h:=?_)));refine AU (r:=KY (Hp s p r front)) none (h5:=?_) (h6:=⟨rfl,rfl,rfl⟩);exact OH (by rw[heq,if_neg k1,if_pos k2])
 have k2:¬W.2≠0:=by simpa using hc2
 refine Ds (h:=e_ (?_));refine A4 rfl (fun hb3 hc3=>?_) (fun hb3 hc3=>?_)
 ·exact Df
 refine AF (q_ (BO ([(0,CL p),(1,AY s),(2,Ag r),(4,Eb W.1)]) 10 (h:=AG 0 (h:=AD 1 (h:=A9 2 (h:=A9 4 (h:=Jk 5 (h:=?_))))))))
 first|refine c_ 3 rfl (EF rfl rfl rfl (by simp<;>omega) (by repeat constructor) ?_)|refine c_ 3 rfl (Ht rfl rfl (by simp<;>omega) (by repeat constructor) ?_)
 refine o_ (h:=?_)
 first|refine c_ 6 rfl (EF rfl rfl rfl (by simp<;>omega) (by repeat constructor) ?_)|refine c_ 6 rfl (Ht rfl rfl (by simp<;>omega) (by repeat constructor) ?_)
 refine o_ (h:=JE 7 (h:=?_));refine B6 8 (h:=BB 9 (h:=z_ (h:=t_ (B5 (?_)))));refine A6 ?_;rw[heq,if_neg k1,if_neg k2];simp[KY,CL,List.map_append];rfl
theorem RX(front:Bool):AFn prog 57 [.agg (CL p), .agg (AY s), .agg (Ag r), .v (.bool front)] (fun x=>x=KY (Hp s p r front)):=by
 cases front
 ·exact nH s p r hv hm h1 h2 hi hr false rfl _ rfl _ rfl
 exact nG s p r hv hm h1 h2 hi hr true rfl _ rfl _ rfl
end
theorem RY(a:Int):0≤IntKind.u64.wrap a∧IntKind.u64.wrap a<18446744073709551616:=by
 simp only[IntKind.wrap,IntKind.signed,IntKind.bits];simp;omega
theorem Yp(a b:Int):0≤QN .u64 a b∧QN .u64 a b<18446744073709551616:=RY _
theorem nJ(a b:Int):0≤QO .u64 a b∧QO .u64 a b<18446744073709551616:=RY _
section
theorem Yq(l:List Int)(a:Nat)(ha:a≤100000000000):GenF prog 82 l a [] 40 (fun r=>∃m:Int,r= .v (.int .u64 m)∧0≤m∧m<18446744073709551616):=by
 refine enter Tryz.func82 rfl rfl rfl rfl rfl 1 rfl ?_;refine w_ (Bn (h:=?_));refine A3 rfl (Ax 0 (hc:=Gn l _ (6) (by omega) (by omega)) (hR:=?_));rintro r a1 ha1 ⟨k1,rfl,p1,q1,o1⟩;refine Ay ?_;refine e_ (BK (Ar (h:=?_)));refine A4 rfl (fun hb1 hc1=>?_) (fun hb1 hc1=>?_)
 ·refine Bh (h:=?_);refine AU none (h5:=(A7 _)) (h6:=⟨_,rfl,rfl,a1,by omega,rfl,_,rfl,by omega,by omega⟩)
 refine Ar (h:=?_);refine A4 rfl (fun hb2 hc2=>?_) (fun hb2 hc2=>?_)
 ·refine AX (h:=?_);refine A3 rfl (Ax 0 (hc:=Gn l _ (32) (by omega) (by omega)) (hR:=?_));rintro r a2 ha2 ⟨k2,rfl,p2,q2,o2⟩;refine Ay ?_
  first|refine A3 rfl (NY rfl Tryz.underlying3 Tryz.underlying113 ?_)|refine A3 rfl (NY rfl Tryz.underlying3 Tryz.underlying80 ?_)
  refine A3 rfl (V2 rfl rfl (RY _).1 ?_);refine BA (h:=?_);refine AU none (h5:=(A7 _)) (h6:=⟨_,rfl,rfl,a2,by omega,rfl,_,rfl,nJ _ _⟩)
 refine BD (BE (t_ (DG (h:=Ca (h:=?_)))));refine BU (fun n s=>∃(j a1:Nat) (m:Int),j≤32∧n=32 - j∧a1≤a+1+j∧0≤m∧m<18446744073709551616∧s=⟨look [(0, .bp 0 0),(3, .v (.int .u64 m)),(4, .v (.int .i64 (j:Int)))],⟨[E4 l a1],[]⟩⟩) (32) ((wk 1 0)) (⟨0,a1,0,by omega,rfl,by omega,by omega,by omega,rfl⟩) ?_;rintro n s ⟨j,b1,m,hj,rfl,hb1,hm1,hm2,rfl⟩;refine Bk (h:=D2 (h:=?_));refine A4 rfl (fun hb3 hc3=>?_) (fun hb3 hc3=>?_)
 ·refine C0 (h:=EQ (h:=?_));refine A3 rfl (Ax 0 (hc:=Gn l _ (2) (by omega) (by omega)) (hR:=?_));rintro r a3 ha3 ⟨k3,rfl,p3,q3,o3⟩;refine Ay ?_
  first|refine A3 rfl (NY rfl Tryz.underlying3 Tryz.underlying113 ?_)|refine A3 rfl (NY rfl Tryz.underlying3 Tryz.underlying80 ?_)
  refine m_ (h:=?_)
  first|refine A3 rfl (NY rfl Tryz.underlying3 Tryz.underlying113 ?_)|refine A3 rfl (NY rfl Tryz.underlying3 Tryz.underlying80 ?_)
  refine A3 rfl (V2 rfl rfl (RY _).1 ?_);refine bA (h:=Gk (h:=Eg (h:=?_)));refine⟨_,_,?_,⟨j+1,_,_,by omega,rfl,?_,(Yp _ _).1,(Yp _ _).2,rfl⟩,(wk 1 0)⟩<;>omega
 refine CJ (h:=EA (h:=?_));refine AU none (h5:=(A7 _)) (h6:=⟨_,rfl,rfl,b1,by omega,rfl,m,rfl,hm1,hm2⟩)
theorem nK(l:List Int)(a:Nat)(list:Int)(ha:a≤100000000000):GenF prog 83 l a [.v (.int .i64 list)] 20 (fun r=>∃t:Tst,r= .agg (Cu t)):=by
 refine enter Tryz.func83 rfl rfl rfl rfl rfl 1 rfl ?_;refine w_ (CY (h:=e_ (AX (h:=?_))));refine A3 rfl (Ax 0 (hc:=E1 l _ (1) (8) (by omega) (by omega) (by omega) (by omega)) (hR:=?_));rintro r a1 ha1 ⟨k1,rfl,p1,q1⟩;refine Ay ?_;refine m_ (h:=?_);refine A3 rfl (Ax 0 (hc:=E1 l _ (1) (8) (by omega) (by omega) (by omega) (by omega)) (hR:=?_));rintro r a2 ha2 ⟨k2,rfl,p2,q2⟩;refine Ay ?_;refine m_ (h:=BY (h:=?_));refine A3 rfl (Ax 0 (hc:=GQ l _ _ (fun _=>true) (by omega) (by rfl) (by rfl) (by rfl)) (hR:=?_));rintro r a3 ha3 ⟨k3,rfl,p3⟩;refine Ay ?_;refine Bi (h:=Dz (h:=AX (h:=?_)));refine A3 rfl (Ax 0 (hc:=Gn l _ (8) (by omega) (by omega)) (hR:=?_));rintro r a4 ha4 ⟨k4,rfl,p4,q4,o4⟩;refine Ay ?_;refine B4 (h:=?_);refine B9 (fun s=>∃(b:Nat) (f o n ot:Int) (t:ByteArray),b≤a+8∧s=⟨look [(0, .bp 0 0),(4, .bp 1 0),(5, .bp 2 0)],⟨[E4 l b,[.v (.int .i64 0), .v (.int .i64 0), .v (.int .i64 0), .v (.string ⟨#[]⟩), .v (.int .i64 0)],[.v (.int .i64 f), .v (.int .i64 o), .v (.int .i64 n), .v (.string t), .v (.int .i64 ot)]],[]⟩⟩) ?_ ?_
 ·skip
  refine BK (AX (h:=EW (h:=?_)));refine A4 rfl (fun hb1 hc1=>?_) (fun hb1 hc1=>?_)
  ·refine Bt (h:=?_);refine A3 rfl (Ax 0 (hc:=E1 l _ (13) (14) (by omega) (by omega) (by omega) (by omega)) (hR:=?_));rintro r a5 ha5 ⟨k5,rfl,p5,q5⟩;refine Ay ?_;refine m_ (h:=?_);refine A3 rfl (Ax 0 (hc:=E1 l _ (1) (2) (by omega) (by omega) (by omega) (by omega)) (hR:=?_));rintro r a6 ha6 ⟨k6,rfl,p6,q6⟩;refine Ay ?_;refine m_ (h:=BY (h:=?_));refine A3 rfl (Ax 0 (hc:=MW l _ _ (fun _=>true) (by omega) (by rfl) (by rfl) (by rfl)) (hR:=?_));rintro r a7 ha7 ⟨k7,rfl,p7⟩;refine Ay ?_;refine HL (h:=C4 (BE (AT (?_))));refine⟨_,⟨_,_,_,_,_,_,?_,rfl⟩,(wk 3 0)⟩<;>omega
  refine AX (h:=EW (h:=?_));refine A4 rfl (fun hb2 hc2=>?_) (fun hb2 hc2=>?_)
  ·refine Bt (h:=?_);refine A3 rfl (Ax 0 (hc:=E1 l _ (3) (7) (by omega) (by omega) (by omega) (by omega)) (hR:=?_));rintro r a8 ha8 ⟨k8,rfl,p8,q8⟩;refine Ay ?_;refine m_ (h:=?_);refine A3 rfl (Ax 0 (hc:=E1 l _ (1) (2) (by omega) (by omega) (by omega) (by omega)) (hR:=?_));rintro r a9 ha9 ⟨k9,rfl,p9,q9⟩;refine Ay ?_;refine m_ (h:=?_);refine A3 rfl (Ax 0 (hc:=E1 l _ (3) (7) (by omega) (by omega) (by omega) (by omega)) (hR:=?_));rintro r a10 ha10 ⟨k10,rfl,p10,q10⟩;refine Ay ?_;refine HL (h:=C4 (BE (AT (?_))));refine⟨_,⟨_,_,_,_,_,_,?_,rfl⟩,(wk 3 0)⟩<;>omega
  refine AX (h:=Dy (h:=?_));refine AJ true rfl rfl (fun hb3 hc3=>?_) (fun hb3 hc3=>?_)
  ·refine D9 (h:=EP (h:=?_));refine A4 rfl (fun hb4 hc4=>?_) (fun hb4 hc4=>?_)
   ·refine Bt (h:=?_);refine A3 rfl (Ax 0 (hc:=E1 l _ (19) (20) (by omega) (by omega) (by omega) (by omega)) (hR:=?_));rintro r a11 ha11 ⟨k11,rfl,p11,q11⟩;refine Ay ?_;refine m_ (h:=?_);refine A3 rfl (Ax 0 (hc:=E1 l _ (1) (2) (by omega) (by omega) (by omega) (by omega)) (hR:=?_));rintro r a12 ha12 ⟨k12,rfl,p12,q12⟩;refine Ay ?_;refine m_ (h:=BY (h:=?_));refine A3 rfl (Ax 0 (hc:=GQ l _ _ (fun _=>true) (by omega) (by rfl) (by rfl) (by rfl)) (hR:=?_));rintro r a13 ha13 ⟨k13,rfl,p13⟩;refine Ay ?_;refine HL (h:=C4 (BE (AT (?_))));refine⟨_,⟨_,_,_,_,_,_,?_,rfl⟩,(wk 3 0)⟩<;>omega
   refine AX (h:=DZ (h:=?_));refine AJ true rfl rfl (fun hb5 hc5=>?_) (fun hb5 hc5=>?_)
   ·refine D9 (h:=EP (h:=Hv (h:=AX (h:=DZ (h:=D9 (h:=EP (h:=?_)))))));refine A4 rfl (fun hb6 hc6=>?_) (fun hb6 hc6=>?_)
    ·refine Bt (h:=?_);refine A3 rfl (Ax 0 (hc:=E1 l _ (9) (12) (by omega) (by omega) (by omega) (by omega)) (hR:=?_));rintro r a14 ha14 ⟨k14,rfl,p14,q14⟩;refine Ay ?_;refine CS (h:=C4 (BE (AT (?_))));refine⟨_,⟨_,_,_,_,_,_,?_,rfl⟩,(wk 3 0)⟩<;>omega
    refine AX (h:=DZ (h:=?_));refine AJ true rfl rfl (fun hb7 hc7=>?_) (fun hb7 hc7=>?_)
    ·refine D9 (h:=EP (h:=?_));refine A4 rfl (fun hb8 hc8=>?_) (fun hb8 hc8=>?_)
     ·refine Bt (h:=?_);refine A3 rfl (Ax 0 (hc:=E1 l _ (1) (6) (by omega) (by omega) (by omega) (by omega)) (hR:=?_));rintro r a15 ha15 ⟨k15,rfl,p15,q15⟩;refine Ay ?_;refine m_ (h:=BY (h:=?_));refine A3 rfl (Ax 0 (hc:=GQ l _ _ (fun _=>true) (by omega) (by rfl) (by rfl) (by rfl)) (hR:=?_));rintro r a16 ha16 ⟨k16,rfl,p16⟩;refine Ay ?_;refine HL (h:=C4 (BE (AT (?_))));refine⟨_,⟨_,_,_,_,_,_,?_,rfl⟩,(wk 3 0)⟩<;>omega
     refine BD (BE (AT (?_)));refine⟨_,⟨_,_,_,_,_,_,?_,rfl⟩,(wk 3 0)⟩<;>omega
    refine HU (h:=Fy (h:=BD (BE (AT (?_)))));refine⟨_,⟨_,_,_,_,_,_,?_,rfl⟩,(wk 3 0)⟩<;>omega
   refine HU (h:=Fy (h:=AX (h:=DZ (h:=HU (h:=Fy (h:=AX (h:=DZ (h:=?_))))))));refine AJ true rfl rfl (fun hb9 hc9=>?_) (fun hb9 hc9=>?_)
   ·refine D9 (h:=EP (h:=?_));refine A4 rfl (fun hb10 hc10=>?_) (fun hb10 hc10=>?_)
    ·refine Bt (h:=?_);refine A3 rfl (Ax 0 (hc:=E1 l _ (1) (6) (by omega) (by omega) (by omega) (by omega)) (hR:=?_));rintro r a17 ha17 ⟨k17,rfl,p17,q17⟩;refine Ay ?_;refine m_ (h:=BY (h:=?_));refine A3 rfl (Ax 0 (hc:=GQ l _ _ (fun _=>true) (by omega) (by rfl) (by rfl) (by rfl)) (hR:=?_));rintro r a18 ha18 ⟨k18,rfl,K6⟩;refine Ay ?_;refine HL (h:=C4 (BE (AT (?_))));refine⟨_,⟨_,_,_,_,_,_,?_,rfl⟩,(wk 3 0)⟩<;>omega
    refine BD (BE (AT (?_)));refine⟨_,⟨_,_,_,_,_,_,?_,rfl⟩,(wk 3 0)⟩<;>omega
   refine HU (h:=Fy (h:=BD (BE (AT (?_)))));refine⟨_,⟨_,_,_,_,_,_,?_,rfl⟩,(wk 3 0)⟩<;>omega
  refine HU (h:=Fy (h:=AX (h:=DZ (h:=?_))));refine AJ true rfl rfl (fun hb11 hc11=>?_) (fun hb11 hc11=>?_)
  ·refine D9 (h:=EP (h:=?_));refine A4 rfl (fun hb12 hc12=>?_) (fun hb12 hc12=>?_)
   ·refine Bt (h:=?_);refine A3 rfl (Ax 0 (hc:=E1 l _ (15) (21) (by omega) (by omega) (by omega) (by omega)) (hR:=?_));rintro r a19 ha19 ⟨k19,rfl,p19,q19⟩;refine Ay ?_;refine m_ (h:=BY (h:=?_));refine A3 rfl (Ax 0 (hc:=GQ l _ _ (fun _=>true) (by omega) (by rfl) (by rfl) (by rfl)) (hR:=?_));rintro r a20 ha20 ⟨k20,rfl,p20⟩;refine Ay ?_;refine CS (h:=CS (h:=C4 (BE (AT (?_)))));refine⟨_,⟨_,_,_,_,_,_,?_,rfl⟩,(wk 3 0)⟩<;>omega
   refine AX (h:=DZ (h:=D9 (h:=EP (h:=?_))));refine A4 rfl (fun hb13 hc13=>?_) (fun hb13 hc13=>?_)
   ·refine Bt (h:=?_);refine A3 rfl (Ax 0 (hc:=E1 l _ (9) (12) (by omega) (by omega) (by omega) (by omega)) (hR:=?_));rintro r a21 ha21 ⟨k21,rfl,p21,q21⟩;refine Ay ?_;refine CS (h:=C4 (BE (AT (?_))));refine⟨_,⟨_,_,_,_,_,_,?_,rfl⟩,(wk 3 0)⟩<;>omega
   refine AX (h:=DZ (h:=?_));refine AJ true rfl rfl (fun hb14 hc14=>?_) (fun hb14 hc14=>?_)
   ·refine D9 (h:=EP (h:=?_));refine A4 rfl (fun hb15 hc15=>?_) (fun hb15 hc15=>?_)
    ·refine Bt (h:=?_);refine A3 rfl (Ax 0 (hc:=E1 l _ (1) (6) (by omega) (by omega) (by omega) (by omega)) (hR:=?_));rintro r a22 ha22 ⟨k22,rfl,p22,q22⟩;refine Ay ?_;refine m_ (h:=BY (h:=?_));refine A3 rfl (Ax 0 (hc:=GQ l _ _ (fun _=>true) (by omega) (by rfl) (by rfl) (by rfl)) (hR:=?_));rintro r a23 ha23 ⟨k23,rfl,p23⟩;refine Ay ?_;refine HL (h:=C4 (BE (AT (?_))));refine⟨_,⟨_,_,_,_,_,_,?_,rfl⟩,(wk 3 0)⟩<;>omega
    refine BD (BE (AT (?_)));refine⟨_,⟨_,_,_,_,_,_,?_,rfl⟩,(wk 3 0)⟩<;>omega
   refine HU (h:=Fy (h:=BD (BE (AT (?_)))));refine⟨_,⟨_,_,_,_,_,_,?_,rfl⟩,(wk 3 0)⟩<;>omega
  refine HU (h:=Fy (h:=AX (h:=DZ (h:=HU (h:=Fy (h:=AX (h:=DZ (h:=?_))))))));refine AJ true rfl rfl (fun hb16 hc16=>?_) (fun hb16 hc16=>?_)
  ·refine D9 (h:=EP (h:=?_));refine A4 rfl (fun hb17 hc17=>?_) (fun hb17 hc17=>?_)
   ·refine Bt (h:=?_);refine A3 rfl (Ax 0 (hc:=E1 l _ (1) (6) (by omega) (by omega) (by omega) (by omega)) (hR:=?_));rintro r a24 ha24 ⟨k24,rfl,p24,q24⟩;refine Ay ?_;refine m_ (h:=BY (h:=?_));refine A3 rfl (Ax 0 (hc:=GQ l _ _ (fun _=>true) (by omega) (by rfl) (by rfl) (by rfl)) (hR:=?_));rintro r a25 ha25 ⟨k25,rfl,p25⟩;refine Ay ?_;refine HL (h:=C4 (BE (AT (?_))));refine⟨_,⟨_,_,_,_,_,_,?_,rfl⟩,(wk 3 0)⟩<;>omega
   refine BD (BE (AT (?_)));refine⟨_,⟨_,_,_,_,_,_,?_,rfl⟩,(wk 3 0)⟩<;>omega
  refine HU (h:=Fy (h:=BD (BE (AT (?_)))));refine⟨_,⟨_,_,_,_,_,_,?_,rfl⟩,(wk 3 0)⟩<;>omega
 rintro s ⟨b,f,o,n,ot,t,hb,rfl⟩;refine Bk (h:=?_);refine A3 rfl (Ax 0 (hc:=Gn l _ (24) (by omega) (by omega)) (hR:=?_));rintro r a26 ha26 ⟨k26,rfl,p26,q26,o26⟩;refine Ay ?_;refine BN (h:=?_);refine A4 rfl (fun hb18 hc18=>?_) (fun hb18 hc18=>?_)
 ·refine Bt (h:=?_);refine A3 rfl (Ax 0 (hc:=E1 l _ (0) (24) (by omega) (by omega) (by omega) (by omega)) (hR:=?_));rintro r a27 ha27 ⟨k27,rfl,p27,q27⟩;refine Ay ?_;refine m_ (h:=?_);refine A3 rfl (Ax 0 (hc:=E1 l _ (0) (9) (by omega) (by omega) (by omega) (by omega)) (hR:=?_));rintro r a28 ha28 ⟨k28,rfl,p28,q28⟩;refine Ay ?_;refine CS (h:=Ct (h:=Dr (h:=e_ (B5 (?_)))));refine AU none (h5:=(A7 _)) (h6:=⟨_,rfl,rfl,_,?_,rfl,⟨_,_,_,_,_⟩,rfl⟩)<;>omega
 refine AF (Dr (h:=e_ (B5 (?_))));refine AU none (h5:=(A7 _)) (h6:=⟨_,rfl,rfl,_,?_,rfl,⟨_,_,_,_,_⟩,rfl⟩)<;>omega
end
theorem Yr{α:Type}{p:Nat→α→Bool}:∀{l:List α} {i:Nat},(∀k x,l[k]?=some x→p (i+k) x=false)→Dj p l i= -1
 |[],_,_=>rfl
 |x::xs,i,h=>by
   rw[Dj,if_neg (by simpa using h 0 x rfl)]
   exact Yr fun k y hy=>by
    have:=h (k+1) y (by simpa using hy)
    rwa [show i+1+k=i+(k+1) by omega]
theorem UC{l:List Rul}{r:Rul}:Ho l r<0↔r∉l:=by
 constructor
 ·intro h hm;obtain⟨k,hk⟩:=List.getElem?_of_mem hm;rcases Int.lt_or_le (Ho l r) 0 with h1|h1
  ·clear h
   have:∀(l:List Rul) (i k:Nat),l[k]?=some r→0≤Dj (fun _ x=>decide (x=r)) l i:=by
    intro l
    induction l with
    |nil=>intro i k hk;simp at hk
    |cons x xs ih=>
      intro i k hk;rw[Dj];split
      ·omega
      rename_i hne
      cases k with
      |zero=>simp at hk;simp[hk]at hne
      |succ k=>exact ih (i+1) k (by simpa using hk)
   have:=this l 0 k hk;unfold Ho at h1;omega
  omega
 intro h
 have:Ho l r= -1:=Yr fun k x hx=>by
  simp only[decide_eq_false_iff_not];rintro rfl;exact h (Aj hx)
 omega
theorem Ys:∀(l pre:List Rul),Jc pre l=0↔(∀x∈l,BG x=0∧x∉pre)∧l.Nodup
 |[],pre=>by simp[Jc]
 |r::rs,pre=>by
   rw[Jc];by_cases h1:BG r=0
   ·rw[if_neg (by simpa using h1)];by_cases h2:0≤Ho pre r
    ·rw[if_pos h2];have h3:r∈pre:=Classical.byContradiction fun h=>by have:=UC.2 h;omega
     exact⟨fun h=>absurd h (by decide),fun h=>absurd h3 (h.1 r (by simp)).2⟩
    rw[if_neg h2,Ys rs (pre++[r])];have h3:r∉pre:=UC.1 (by omega);constructor
    ·rintro⟨k1,k2⟩;refine⟨?_,?_⟩
     ·intro x hx;rcases List.mem_cons.1 hx with rfl|hx
      ·exact⟨h1,h3⟩
      exact⟨(k1 x hx).1,fun hm=>(k1 x hx).2 (by simp[hm])⟩
     exact List.nodup_cons.2 ⟨fun hm=>(k1 r hm).2 (by simp),k2⟩
    rintro⟨k1,k2⟩;obtain⟨k3,k4⟩:=List.nodup_cons.1 k2;refine⟨fun x hx=>⟨(k1 x (by simp[hx])).1,fun hm=>?_⟩,k4⟩;rcases List.mem_append.1 hm with hm|hm
    ·exact(k1 x (by simp[hx])).2 hm
    rw[List.mem_singleton.1 hm]at hx;exact k3 hx
   rw[if_pos (by simpa using h1)];constructor
   ·intro h;exact absurd h h1
   intro h;exact absurd (h.1 r (by simp)).1 h1
theorem RZ(l:List Rul):ED l=0↔l.length≤24∧(∀x∈l,BG x=0)∧l.Nodup:=by
 unfold ED;split
 ·simp;omega
 rw[Ys];simp;omega
structure LstOk(l:List Rul)(n:Nat):Prop where
 chk:ED l=0
 ins:∀r∈l,F9 r
 len:l.length≤n
theorem LstOk.nil(n:Nat):LstOk [] n:=⟨(RZ []).2 (by simp),by simp,by simp⟩
theorem LstOk.add{l:List Rul}{n:Nat}{r:Rul}{f:Bool}(h:LstOk l n)(hr:F9 r)(he:(Cy l r f).2=0):LstOk (Cy l r f).1 (n+1):=by
 unfold Cy at he ⊢;rw[if_neg (by rw[h.chk];simp)]at he ⊢;split at he
 ·rename_i h1;exact absurd he h1
 rename_i h1;rw[if_neg h1];split at he
 ·cases he
 rename_i h2;rw[if_neg h2];split at he
 ·cases he
 rename_i h3;rw[if_neg h3];have hm:r∉l:=UC.1 (by omega);obtain⟨c1,c2,c3⟩:=(RZ l).1 h.chk;have h1':BG r=0:=by simpa using h1
 cases f
 ·refine⟨(RZ _).2 ⟨by simp;omega,?_,?_⟩,?_,?_⟩
  ·intro x hx;rcases(by simpa using hx:x∈l∨x=r)with hx|hx
   ·exact c2 x hx
   rw[hx];exact h1'
  ·simp only[Bool.false_eq_true,if_false];exact List.nodup_append.2 ⟨c3,by simp,fun a ha b hb=>by rw[List.mem_singleton.1 hb];rintro rfl;exact hm ha⟩
  ·intro x hx;rcases(by simpa using hx:x∈l∨x=r)with hx|hx
   ·exact h.ins x hx
   rw[hx];exact hr
  have:=h.len;simp;omega
 refine⟨(RZ _).2 ⟨by simp;omega,?_,?_⟩,?_,?_⟩
 ·intro x hx;rcases(by simpa using hx:x=r∨x∈l)with hx|hx
  ·rw[hx];exact h1'
  exact c2 x hx
 ·simp only[if_true];exact List.nodup_cons.2 ⟨hm,c3⟩
 ·intro x hx;rcases(by simpa using hx:x=r∨x∈l)with hx|hx
  ·rw[hx];exact hr
  exact h.ins x hx
 have:=h.len;simp;omega
theorem LstOk.mono{l:List Rul}{n m:Nat}(h:LstOk l n)(hm:n≤m):LstOk l m:=⟨h.chk,h.ins,Nat.le_trans h.len hm⟩
def PV:Rul:=⟨3,1,4294967295,[],0,⟨#[]⟩,0,⟨#[]⟩⟩
theorem nL:F9 PV:=by unfold F9 PV;simp;decide
theorem nM:BG PV=0:=by decide
section
theorem nN(l:List Int)(a:Nat)(ha:a≤10000000000):GenF prog 40 l a [] 200 (fun r=>∃x:Rul,F9 x∧r= .agg (Ag x)):=by
 refine enter Tryz.func40 rfl rfl rfl rfl rfl 1 rfl ?_;refine w_ (CY (h:=e_ (AX (h:=BY (h:=?_)))));refine A3 rfl (Ax 0 (hc:=GQ l _ _ (fun _=>true) (by omega) (by rfl) (by rfl) (by rfl)) (hR:=?_));rintro r a1 ha1 ⟨k1,rfl,p1⟩;refine Ay ?_;refine m_ (h:=BY (h:=?_));refine A3 rfl (Ax 0 (hc:=GQ l _ _ (fun _=>true) (by omega) (by rfl) (by rfl) (by rfl)) (hR:=?_));rintro r a2 ha2 ⟨k2,rfl,p2⟩;refine Ay ?_;refine m_ (h:=BY (h:=?_));refine A3 rfl (Ax 0 (hc:=MW l _ _ (fun _=>true) (by omega) (by rfl) (by rfl) (by rfl)) (hR:=?_));rintro r a3 ha3 ⟨k3,rfl,p3⟩;refine Ay ?_;refine Bi (h:=Dz (h:=?_));refine B9 (fun s=>∃(b:Nat) (li ac ca:Int) (key:ByteArray),b≤a+50∧0≤ca∧ca<18446744073709551616∧s=⟨look [(0, .bp 0 0),(2, .bp 1 0),(3, .bp 2 0)],⟨[E4 l b,[.v (.int .i64 0), .v (.int .i64 0), .v (.int .u64 0), .v (.slice none 0 0), .v (.int .i64 0), .v (.string ⟨#[]⟩), .v (.int .i64 0), .v (.string ⟨#[]⟩)],[.v (.int .i64 li), .v (.int .i64 ac), .v (.int .u64 ca), .v (.slice none 0 0), .v (.int .i64 0), .v (.string ⟨#[]⟩), .v (.int .i64 0), .v (.string key)]],[]⟩⟩) ?_ ?_
 ·skip
  refine B0 (h:=Dy (h:=?_));refine AJ false rfl rfl (fun hb1 hc1=>?_) (fun hb1 hc1=>?_)
  ·refine ER (h:=CX (h:=AX (h:=?_)));refine A3 rfl (Ax 0 (hc:=Yq l _ (by omega)) (hR:=?_));rintro r a4 ha4 ⟨k4,rfl,p4,q4⟩;refine Ay ?_;refine Ct (h:=Bk (h:=?_));refine A3 rfl (Ax 0 (hc:=Gn l _ (3) (by omega) (by omega)) (hR:=?_));rintro r a5 ha5 ⟨k5,rfl,p5,q5,o5⟩;refine Ay ?_;refine E6 (h:=e_ (?_));refine A4 rfl (fun hb2 hc2=>?_) (fun hb2 hc2=>?_)
   ·refine Aw (Ct (h:=B0 (h:=BN (h:=?_))));refine A4 rfl (fun hb3 hc3=>?_) (fun hb3 hc3=>?_)
    ·refine Aw (CS (h:=DC (h:=?_)));refine⟨_,⟨_,_,_,_,_,?_,?_,?_,rfl⟩,(wk 3 0)⟩<;>omega
    refine BD (AT (?_));refine⟨_,⟨_,_,_,_,_,?_,?_,?_,rfl⟩,(wk 3 0)⟩<;>omega
   refine AF (B0 (h:=BN (h:=?_)));refine A4 rfl (fun hb4 hc4=>?_) (fun hb4 hc4=>?_)
   ·refine Aw (CS (h:=DC (h:=?_)));refine⟨_,⟨_,_,_,_,_,?_,?_,?_,rfl⟩,(wk 3 0)⟩<;>omega
   refine BD (AT (?_));refine⟨_,⟨_,_,_,_,_,?_,?_,?_,rfl⟩,(wk 3 0)⟩<;>omega
  refine Cs (h:=CH (h:=?_));refine A4 rfl (fun hb5 hc5=>?_) (fun hb5 hc5=>?_)
  ·refine AX (h:=?_);refine A3 rfl (Ax 0 (hc:=Yq l _ (by omega)) (hR:=?_));rintro r a6 ha6 ⟨k6,rfl,p6,q6⟩;refine Ay ?_;refine Ct (h:=Bk (h:=?_));refine A3 rfl (Ax 0 (hc:=Gn l _ (3) (by omega) (by omega)) (hR:=?_));rintro r a7 ha7 ⟨k7,rfl,p7,q7,o7⟩;refine Ay ?_;refine E6 (h:=e_ (?_));refine A4 rfl (fun hb6 hc6=>?_) (fun hb6 hc6=>?_)
   ·refine Aw (Ct (h:=B0 (h:=BN (h:=?_))));refine A4 rfl (fun hb7 hc7=>?_) (fun hb7 hc7=>?_)
    ·refine Aw (CS (h:=DC (h:=?_)));refine⟨_,⟨_,_,_,_,_,?_,?_,?_,rfl⟩,(wk 3 0)⟩<;>omega
    refine BD (AT (?_));refine⟨_,⟨_,_,_,_,_,?_,?_,?_,rfl⟩,(wk 3 0)⟩<;>omega
   refine AF (B0 (h:=BN (h:=?_)));refine A4 rfl (fun hb8 hc8=>?_) (fun hb8 hc8=>?_)
   ·refine Aw (CS (h:=DC (h:=?_)));refine⟨_,⟨_,_,_,_,_,?_,?_,?_,rfl⟩,(wk 3 0)⟩<;>omega
   refine BD (AT (?_));refine⟨_,⟨_,_,_,_,_,?_,?_,?_,rfl⟩,(wk 3 0)⟩<;>omega
  refine BD (AT (?_));refine⟨_,⟨_,_,_,_,_,?_,?_,?_,rfl⟩,(wk 3 0)⟩<;>omega
 rintro s ⟨b,li,ac,ca,key,hb,hca1,hca2,rfl⟩;refine Bk (h:=BY (h:=?_));refine A3 rfl (Ax 0 (hc:=GQ l _ _ (fun z=>decide (0≤z∧z≤3)) (by omega) (by rfl) (by rfl) (by rfl)) (hR:=?_));rintro r a8 ha8 ⟨k8,rfl,p8⟩;refine Ay ?_;obtain⟨hz1,hz2⟩:=of_decide_eq_true p8;obtain⟨m,rfl⟩:=Int.eq_ofNat_of_zero_le (show 0≤k8 by omega);refine B4 (h:=BK (?_));refine LY 2 3 115 5 rfl rfl (by repeat constructor) (by repeat constructor) (by repeat constructor) ?_;refine BU (fun n s=>∃(j b1:Nat) (ts:List Tst),j≤m∧n=j∧b1≤b+1+20 * (m - j)∧ts.length=m - j∧s=⟨look [(0, .bp 0 0),(2, .bp 1 0),(3, .bp 2 0),(4, .v (.int .i64 (j:Int)))],⟨[E4 l b1,[.v (.int .i64 0), .v (.int .i64 0), .v (.int .u64 0), .v (.slice none 0 0), .v (.int .i64 0), .v (.string ⟨#[]⟩), .v (.int .i64 0), .v (.string ⟨#[]⟩)],[.v (.int .i64 li), .v (.int .i64 ac), .v (.int .u64 ca), .sl 5 (ts.map Cu) (some 0), .v (.int .i64 0), .v (.string ⟨#[]⟩), .v (.int .i64 0), .v (.string key)]],[(115,5,ts.map Cu)]⟩⟩) (m) ((wk 3 1)) (⟨m,_,[],by omega,rfl,by omega,by simp,rfl⟩) ?_;rintro n s ⟨j,b1,ts,hj,hn,hb1,hts,rfl⟩;subst n;refine Bk (h:=E6 (h:=e_ (?_)));refine A4 rfl (fun hb9 hc9=>?_) (fun hb9 hc9=>?_)
 ·refine AF (q_ (BK (BO ([(1,[.v (.int .i64 0), .v (.int .i64 0), .v (.int .u64 0), .v (.slice none 0 0), .v (.int .i64 0), .v (.string ⟨#[]⟩), .v (.int .i64 0), .v (.string ⟨#[]⟩)]),(2,[.v (.int .i64 li), .v (.int .i64 ac), .v (.int .u64 ca), .sl 5 (ts.map Cu) (some 0), .v (.int .i64 0), .v (.string ⟨#[]⟩), .v (.int .i64 0), .v (.string key)])]) 9 (h:=AD 0 (h:=A9 1 (h:=AG 2 (h:=AD 3 (h:=A9 4 (h:=?_)))))))));refine c_ 5 rfl (Ax 0 (hc:=nK l _ _ (by omega)) (hR:=?_));rintro r a9 ha9 ⟨T9,rfl⟩;refine Ay ?_;refine o_ (h:=Jk 6 (h:=?_))
  first|refine c_ 7 rfl (EF rfl rfl rfl (by simp<;>omega) (by repeat constructor) ?_)|refine c_ 7 rfl (Ht rfl rfl (by simp<;>omega) (by repeat constructor) ?_)
  refine o_ (h:=AD 8 (h:=?_));refine B6 9 (h:=z_ (h:=BE (t_ (Aw (m_ (h:=Kf (h:=a_ (h:=C4 (AT (?_))))))))));obtain⟨j,rfl⟩:∃i,j=i+1:=⟨j - 1,by omega⟩;refine⟨_,_,?_,⟨j,_,ts++[T9],by omega,rfl,?_,?_,rfl⟩,(by rw[List.map_append];exact Ao 3 1 rfl rfl rfl rfl (by repeat (first|exact Sub.nil|refine Ap rfl rfl ?_|(apply Sub.of;(focus exact rfl);(focus exact LeA.of_eq (vi (by omega)));(focus exact rfl)))))⟩
  ·omega
  ·omega
  simp;omega
 refine CJ (h:=?_);refine B9 (fun s=>∃(b2:Nat) (wa pe:Int) (pa:ByteArray),b2≤a+140∧pa.size≤60∧s=⟨look [(0, .bp 0 0),(2, .bp 1 0),(3, .bp 2 0)],⟨[E4 l b2,[.v (.int .i64 0), .v (.int .i64 0), .v (.int .u64 0), .v (.slice none 0 0), .v (.int .i64 0), .v (.string ⟨#[]⟩), .v (.int .i64 0), .v (.string ⟨#[]⟩)],[.v (.int .i64 li), .v (.int .i64 ac), .v (.int .u64 ca), .sl 5 (ts.map Cu) (some 0), .v (.int .i64 wa), .v (.string pa), .v (.int .i64 pe), .v (.string key)]],[(115,5,ts.map Cu)]⟩⟩) ?_ ?_
 ·skip
  refine B0 (h:=Dy (h:=?_));refine AJ true rfl rfl (fun hb10 hc10=>?_) (fun hb10 hc10=>?_)
  ·refine m_ (h:=?_);refine Aq (Ax 0 (hc:=Gn l _ (3) (by omega) (by omega)) (hR:=?_));rintro r a10 ha10 ⟨k10,rfl,p10,q10,o10⟩;refine Ay ?_;refine EG (h:=DY (h:=?_));refine A4 rfl (fun hb11 hc11=>?_) (fun hb11 hc11=>?_)
   ·refine AX (h:=?_);refine A3 rfl (Ax 0 (hc:=E1 l _ (1) (2) (by omega) (by omega) (by omega) (by omega)) (hR:=?_));rintro r a11 ha11 ⟨k11,rfl,p11,q11⟩;refine Ay ?_;refine m_ (h:=?_);refine A3 rfl (Ax 0 (hc:=nD l _ (by omega)) (hR:=?_));rintro r a12 ha12 ⟨k12,rfl,p12⟩;refine Ay ?_;refine m_ (h:=?_);refine A3 rfl (Ax 0 (hc:=E1 l _ (1) (15) (by omega) (by omega) (by omega) (by omega)) (hR:=?_));rintro r a13 ha13 ⟨k13,rfl,p13,q13⟩;refine Ay ?_;refine CS (h:=CS (h:=Ct (h:=AX (h:=?_))));refine A3 rfl (Ax 0 (hc:=Gn l _ (8) (by omega) (by omega)) (hR:=?_));rintro r a14 ha14 ⟨k14,rfl,p14,q14,o14⟩;refine Ay ?_;refine BN (h:=?_);refine A4 rfl (fun hb12 hc12=>?_) (fun hb12 hc12=>?_)
    ·refine Aw (CS (h:=DC (h:=?_)));refine⟨_,⟨_,_,_,_,?_,?_,rfl⟩,(wk 3 1)⟩<;>first|omega|exact BW rfl
    refine BD (AT (?_));refine⟨_,⟨_,_,_,_,?_,?_,rfl⟩,(wk 3 1)⟩<;>first|omega|exact BW rfl
   refine BD (AT (?_));refine⟨_,⟨_,_,_,_,?_,?_,rfl⟩,(wk 3 1)⟩<;>first|omega|exact BW rfl
  refine D8 (h:=e_ (Hv (h:=BD (AT (?_)))));refine⟨_,⟨_,_,_,_,?_,?_,rfl⟩,(wk 3 1)⟩<;>first|omega|exact BW rfl
 rintro s ⟨b2,wa,pe,pa,hb2,hpa,rfl⟩;refine Bk (h:=?_);refine A3 rfl (Ax 0 (hc:=Gn l _ (24) (by omega) (by omega)) (hR:=?_));rintro r a15 ha15 ⟨k15,rfl,p15,q15,o15⟩;refine Ay ?_;refine BN (h:=?_);refine A4 rfl (fun hb13 hc13=>?_) (fun hb13 hc13=>?_)
 ·refine Bt (h:=?_);refine A3 rfl (Ax 0 (hc:=E1 l _ (-1) (16) (by omega) (by omega) (by omega) (by omega)) (hR:=?_));rintro r a16 ha16 ⟨k16,rfl,p16,q16⟩;refine Ay ?_;refine m_ (h:=?_);refine A3 rfl (Ax 0 (hc:=E1 l _ (0) (6) (by omega) (by omega) (by omega) (by omega)) (hR:=?_));rintro r a17 ha17 ⟨k17,rfl,p17,q17⟩;refine Ay ?_;refine m_ (h:=?_);refine A3 rfl (Ax 0 (hc:=E1 l _ (0) (3) (by omega) (by omega) (by omega) (by omega)) (hR:=?_));rintro r a18 ha18 ⟨k18,rfl,K6,q18⟩;refine Ay ?_;refine CS (h:=CS (h:=Ct (h:=Dr (h:=e_ (B5 (?_))))));refine AU none (h5:=(A7 _)) (h6:=⟨_,rfl,rfl,_,?_,rfl,⟨_,_,_,ts,_,pa,_,_⟩,⟨hca1,hca2,Nat.le_trans hpa (by decide),by show ts.length≤1000;omega⟩,rfl⟩)<;>omega
 refine AF (Dr (h:=e_ (B5 (?_))));refine AU none (h5:=(A7 _)) (h6:=⟨_,rfl,rfl,_,?_,rfl,⟨_,_,_,ts,_,pa,_,_⟩,⟨hca1,hca2,Nat.le_trans hpa (by decide),by show ts.length≤1000;omega⟩,rfl⟩)<;>omega
end
structure PolOk(s:Spc)(p:Pol)(n:Nat):Prop where
 lst:LstOk p.rules n
 wat:p.wats=Hq s p.rules
 ok:∀r∈p.rules,(DM s r).2=0
theorem PolOk.nil(s:Spc)(n:Nat):PolOk s Fa n:=⟨LstOk.nil n,rfl,by simp[Fa]⟩
theorem PolOk.mono{s:Spc}{p:Pol}{n m:Nat}(h:PolOk s p n)(hm:n≤m):PolOk s p m:=⟨h.lst.mono hm,h.wat,h.ok⟩
theorem PolOk.len{s:Spc}{p:Pol}{n:Nat}(h:PolOk s p n):p.wats.length=p.rules.length:=by rw[h.wat];simp[Hq]
theorem Yt{l:List Rul}{r:Rul}{f:Bool}(h:(Cy l r f).2=0):(Cy l r f).1=if f=true then r::l else l++[r]:=by
 unfold Cy at h ⊢;by_cases c1:ED l≠0
 ·rw[if_pos c1]at h;exact absurd h c1
 rw[if_neg c1]at h ⊢;by_cases c2:BG r≠0
 ·rw[if_pos c2]at h;exact absurd h c2
 rw[if_neg c2]at h ⊢;by_cases c3:0≤Ho l r
 ·rw[if_pos c3]at h;cases h
 rw[if_neg c3]at h ⊢;by_cases c4:24≤(l.length:Int)
 ·rw[if_pos c4]at h;cases h
 rw[if_neg c4]
theorem PolOk.add{s:Spc}{p:Pol}{n:Nat}{r:Rul}{f:Bool}(h:PolOk s p n)(hr:F9 r)(he:(Hp s p r f).2=0):PolOk s (Hp s p r f).1 (n+1):=by
 unfold Hp at he ⊢;by_cases c1:(Cy p.rules r f).2≠0
 ·rw[if_pos c1]at he;exact absurd he c1
 rw[if_neg c1]at he ⊢;by_cases c2:(DM s r).2≠0
 ·rw[if_pos c2]at he;exact absurd he c2
 rw[if_neg c2];have d1:(Cy p.rules r f).2=0:=by simpa using c1
 have d2:(DM s r).2=0:=by simpa using c2
 refine⟨h.lst.add hr d1,?_,?_⟩
 ·simp only[Yt d1,h.wat];cases f<;>simp[Hq]
 intro x hx;simp only[Yt d1]at hx
 have:x=r∨x∈p.rules:=by
  cases f
  ·exact(by simpa using hx:x∈p.rules∨x=r).symm
  simpa using hx
 rcases this with rfl|hx
 ·exact d2
 exact h.ok x hx
section
theorem Yu(l:List Int)(a:Nat)(ha:a≤1000000000):GenF prog 56 l a [] 1600 (fun r=>∃x:Rul,F9 x∧BG x=0∧r= .agg (Ag x)):=by
 refine enter Tryz.func56 rfl rfl rfl rfl rfl 1 rfl ?_;refine w_ (CY (h:=e_ (Ca (h:=?_))));refine BU (fun n s=>∃(j b:Nat),j≤8∧n=8 - j∧b≤a+200 * j∧s=⟨look [(0, .bp 0 0),(2, .bp 1 0),(3, .v (.int .i64 (j:Int)))],⟨[E4 l b,[.v (.int .i64 0), .v (.int .i64 0), .v (.int .u64 0), .v (.slice none 0 0), .v (.int .i64 0), .v (.string ⟨#[]⟩), .v (.int .i64 0), .v (.string ⟨#[]⟩)]],[]⟩⟩) (8) ((wk 2 0)) (⟨0,a,by omega,rfl,by omega,rfl⟩) ?_;rintro n s ⟨j,b,hj,rfl,hb,rfl⟩;refine Bk (h:=D2 (h:=?_));refine A4 rfl (fun hb1 hc1=>?_) (fun hb1 hc1=>?_)
 ·refine C0 (h:=AX (h:=?_));refine A3 rfl (Ax 0 (hc:=nN l _ (by omega)) (hR:=?_));rintro r a1 ha1 ⟨x,hx,rfl⟩;refine Ay ?_;refine Dz (h:=C5 (h:=?_));refine A3 rfl (A8 (RU x hx) ?_);rintro r rfl;refine BN (h:=?_);refine A4 rfl (fun hb2 hc2=>?_) (fun hb2 hc2=>?_)
  ·refine Dr (h:=e_ (B5 (D1 (h:=CT (h:=?_)))));refine AU none (h5:=(A7 _)) (h6:=⟨_,rfl,rfl,_,?_,rfl,x,hx,hc2,rfl⟩)<;>omega
  refine DH (h:=?_);refine⟨_,_,?_,⟨j+1,_,by omega,rfl,?_,rfl⟩,(wk 2 0)⟩<;>omega
 refine CJ (h:=Jp (h:=e_ (B5 (?_))));refine AU (r:= .agg (Ag PV)) none (h5:=(by repeat (first|exact A7 _|exact LeA.nil _|exact LeL.refl _|refine LeA.agg ?_|refine LeA.tup ?_|exact LeL.nil|refine LeL.cons ?_ ?_|exact LeA.any _))) (h6:=⟨_,rfl,rfl,b,by omega,rfl,PV,nL,nM,rfl⟩)
end
theorem nO:LeL [.v (.slice none 0 0), .v (.slice none 0 0)] (CL Fa):=by
 show LeL _ [.sl 8 [] none, .sl 6 [] none];exact LeL.cons (LeA.nil _) (LeL.cons (LeA.nil _) LeL.nil)
section
theorem nP(l:List Int)(a m:Nat)(s:Spc)(ha:a≤100000000)(hm:m≤20)(hv:SpcV s)(hmm:s.mounts.length≤1000):GenF prog 20 l a [.agg (AY s), .v (.int .i64 (m:Int))] 50000 (fun r=>∃p:Pol,PolOk s p 20∧r= .agg (CL p)):=by
 refine enter Tryz.func20 rfl rfl rfl rfl rfl 1 rfl ?_;refine EH (h:=e_ (w_ (CY (h:=e_ (Dq (h:=Fc (h:=?_)))))));refine A3 rfl (Ax 0 (hc:=Gn l _ ((m:Int)+1) (by omega) (by omega)) (hR:=?_));rintro r a1 ha1 ⟨k1,rfl,p1,q1,o1⟩;refine Ay ?_;obtain⟨m0,rfl⟩:=Int.eq_ofNat_of_zero_le p1;have hm0:m0≤20:=by omega
 refine B4 (h:=BK (?_));refine BU (fun n S=>∃(j b:Nat) (p:Pol),j≤m0∧n=j∧b≤a+1+1700 * (m0 - j)∧PolOk s p (m0 - j)∧S=⟨look [(0, .bp 0 0),(4, .bp 1 0),(6, .bp 2 0),(7, .bp 3 0),(8, .v (.int .i64 (j:Int)))],⟨[E4 l b,AY s,[.v (.slice none 0 0), .v (.slice none 0 0)],CL p],[]⟩⟩) (m0) (Weak.trans (YN 3 rfl nO) ((wk 4 0))) (⟨m0,_,Fa,by omega,rfl,by omega,PolOk.nil _ _,rfl⟩) ?_;rintro n S ⟨j,b,p,hj,hn,hb,hp,rfl⟩;subst n;refine Bk (h:=E6 (h:=e_ (?_)));refine A4 rfl (fun hb1 hc1=>?_) (fun hb1 hc1=>?_)
 ·refine C0 (h:=?_);refine B9 (fun S=>∃(b1:Nat) (x:Rul) (f:Bool),b1≤a+1+1700 * (m0 - j)+1610∧F9 x∧S=⟨look [(0, .bp 0 0),(4, .bp 1 0),(6, .bp 2 0),(7, .bp 3 0),(8, .v (.int .i64 (j:Int))),(9, .bp 4 0),(10, .v (.int .i64 (Hp s p x f).2))],⟨[E4 l b1,AY s,[.v (.slice none 0 0), .v (.slice none 0 0)],CL p,CL (Hp s p x f).1],[]⟩⟩) ?_ ?_
  ·skip
   refine BO ([(1,AY s),(2,[.v (.slice none 0 0), .v (.slice none 0 0)]),(3,CL p)]) 14 (h:=?_)
   first|refine A9 0 (h:=?_)|refine By 0 rfl (fun _ hS=>MT (row:=CL p) rfl (kb hS rfl) (BW rfl) rfl ⟨rfl,rfl⟩) ?_|refine By 0 rfl (fun _ hS=>MT (row:=AY s) rfl (kb hS rfl) (BW rfl) rfl ⟨rfl,rfl⟩) ?_
   first|refine A9 1 (h:=?_)|refine By 1 rfl (fun _ hS=>MT (row:=CL p) rfl (kb hS rfl) (BW rfl) rfl ⟨rfl,rfl⟩) ?_|refine By 1 rfl (fun _ hS=>MT (row:=AY s) rfl (kb hS rfl) (BW rfl) rfl ⟨rfl,rfl⟩) ?_
   refine AG 2 (h:=AG 4 (h:=?_));refine Fb 3 11 rfl rfl ?_ ?_
   ·refine Ax 0 (hc:=Yu l _ (by omega)) (hR:=?_);rintro r a2 ha2 ⟨x,hx,hg,rfl⟩;refine Ay ?_;refine o_ (h:=?_);refine Fb 5 11 rfl rfl ?_ ?_
    ·refine Ax 0 (hc:=Gn l _ (4) (by omega) (by omega)) (hR:=?_);rintro r a3 ha3 ⟨k3,rfl,p3,q3,o3⟩;refine Ay ?_;refine o_ (h:=?_);refine Jm 6 (h:=?_);refine Fb 7 11 rfl rfl ?_ ?_
     ·refine A8 (RX s p x hv hmm (by have:=hp.lst.len;omega) hp.len hp.lst.ins hx _) ?_;rintro r rfl;refine o_ (h:=?_);refine AG 8 (h:=BF 9 (h:=BF 10 (h:=?_)));refine c_ 11 rfl (CR (by repeat constructor) ?_);refine o_ (h:=?_);refine B6 12 (h:=BB 13 (h:=z_ (h:=?_)));refine AT ?_;exact⟨_,⟨_,x,_,(by omega),hx,rfl⟩,Ao 5 0 rfl rfl rfl rfl ((by repeat (first|exact Sub.nil|refine Ap rfl rfl ?_|refine At ?_|refine Au rfl ?_|refine Av rfl ?_)))⟩
     refine CR (by repeat constructor) ?_;refine o_ (h:=?_);refine c_ 7 rfl (A8 (RX s p x hv hmm (by have:=hp.lst.len;omega) hp.len hp.lst.ins hx _) ?_);rintro r rfl;refine o_ (h:=AG 8 (h:=BF 9 (h:=BF 10 (h:=?_))));refine B6 12 (h:=BB 13 (h:=z_ (h:=?_)));refine AT ?_;exact⟨_,⟨_,x,_,(by omega),hx,rfl⟩,Ao 5 0 rfl rfl rfl rfl ((by repeat (first|exact Sub.nil|refine Ap rfl rfl ?_|refine At ?_|refine Au rfl ?_|refine Av rfl ?_)))⟩
    refine CR (by repeat constructor) ?_;refine o_ (h:=?_);refine c_ 5 rfl (Ax 0 (hc:=Gn l _ (4) (by omega) (by omega)) (hR:=?_));rintro r a4 ha4 ⟨k4,rfl,p4,q4,o4⟩;refine Ay ?_;refine o_ (h:=Jm 6 (h:=?_));refine c_ 7 rfl (A8 (RX s p x hv hmm (by have:=hp.lst.len;omega) hp.len hp.lst.ins hx _) ?_);rintro r rfl;refine o_ (h:=AG 8 (h:=BF 9 (h:=BF 10 (h:=?_))));refine B6 12 (h:=BB 13 (h:=z_ (h:=?_)));refine AT ?_;exact⟨_,⟨_,x,_,(by omega),hx,rfl⟩,Ao 5 0 rfl rfl rfl rfl ((by repeat (first|exact Sub.nil|refine Ap rfl rfl ?_|refine At ?_|refine Au rfl ?_|refine Av rfl ?_)))⟩
   refine CR (by repeat constructor) ?_;refine o_ (h:=?_);refine c_ 3 rfl (Ax 0 (hc:=Yu l _ (by omega)) (hR:=?_));rintro r a5 ha5 ⟨x,hx,hg,rfl⟩;refine Ay ?_;refine o_ (h:=?_);refine c_ 5 rfl (Ax 0 (hc:=Gn l _ (4) (by omega) (by omega)) (hR:=?_));rintro r a6 ha6 ⟨k6,rfl,p6,q6,o6⟩;refine Ay ?_;refine o_ (h:=Jm 6 (h:=?_));refine c_ 7 rfl (A8 (RX s p x hv hmm (by have:=hp.lst.len;omega) hp.len hp.lst.ins hx _) ?_);rintro r rfl;refine o_ (h:=AG 8 (h:=BF 9 (h:=BF 10 (h:=?_))));refine B6 12 (h:=BB 13 (h:=z_ (h:=?_)));refine AT ?_;exact⟨_,⟨_,x,_,(by omega),hx,rfl⟩,Ao 5 0 rfl rfl rfl rfl ((by repeat (first|exact Sub.nil|refine Ap rfl rfl ?_|refine At ?_|refine Au rfl ?_|refine Av rfl ?_)))⟩
  rintro S ⟨b1,x,f,hb1,hx,rfl⟩;refine AX (h:=BN (h:=?_));refine A4 rfl (fun hb2 hc2=>?_) (fun hb2 hc2=>?_)
  ·have hp2:=hp.add (f:=f) hx (by simpa using hc2);refine Aw (l_ (h:=s_ (h:=C4 (BE (t_ (Bt (h:=Kf (h:=Ch (h:=?_)))))))));obtain⟨j,rfl⟩:∃i,j=i+1:=⟨j - 1,by omega⟩;refine⟨_,_,?_,⟨j,_,_,by omega,rfl,?_,hp2.mono (by omega),rfl⟩,Ao 4 0 rfl rfl rfl rfl (by repeat (first|exact Sub.nil|refine Ap rfl rfl ?_|(apply Sub.of;(focus exact rfl);(focus exact LeA.of_eq (vi (by omega)));(focus exact rfl))))⟩<;>omega
  have hp2:=hp.mono (Nat.le_succ _);refine BD (BE (t_ (Bt (h:=Kf (h:=Ch (h:=?_))))));obtain⟨j,rfl⟩:∃i,j=i+1:=⟨j - 1,by omega⟩;refine⟨_,_,?_,⟨j,_,_,by omega,rfl,?_,hp2.mono (by omega),rfl⟩,Ao 4 0 rfl rfl rfl rfl (by repeat (first|exact Sub.nil|refine Ap rfl rfl ?_|(apply Sub.of;(focus exact rfl);(focus exact LeA.of_eq (vi (by omega)));(focus exact rfl))))⟩<;>omega
 refine CJ (h:=Dr (h:=e_ (B5 (?_))));refine AU none (h5:=(A7 _)) (h6:=⟨_,rfl,rfl,b,by omega,rfl,p,hp.mono (by omega),rfl⟩)
end
structure Vdt where
 sel:Bool
 rule:Int
 key:AE
deriving DecidableEq
def H6(v:Vdt):List AV:=[.v (.bool v.sel), .v (.int .i64 v.rule), .v (.string v.key)]
def J8:Vdt:=⟨false, -1,⟨#[]⟩⟩
def LS(l:List Rul)(i:Int):Vdt:=if i<0 then J8 else match l[i.toNat]? with|some r=>⟨decide (r.action=1),i,r.key⟩|none=>J8
theorem nQ{l:List Rul}{i:Nat}{r:Rul}(h:l[i]?=some r):LS l (i:Int)=⟨decide (r.action=1),(i:Int),r.key⟩:=by
 rw[LS,if_neg (by omega),Int.toNat_natCast,h]
theorem UD{l:List Rul}{i:Int}(h:i<0):LS l i=J8:=by rw[LS,if_pos h]
def PW(l:List Rul)(i:Int):Prop:=i<0∨∃(k:Nat) (r:Rul),i=(k:Int)∧l[k]?=some r
theorem Yv{α:Type}{p:Nat→α→Bool}:∀{l:List α} {i:Nat},Dj p l i<0∨∃(k:Nat) (r:α),Dj p l i=((i+k:Nat):Int)∧l[k]?=some r
 |[],_=> .inl (by simp[Dj])
 |x::xs,i=>by
   rw[Dj];split
   ·exact .inr ⟨0,x,rfl,rfl⟩
   rcases Yv (p:=p) (l:=xs) (i:=i+1)with h|⟨k,r,h1,h2⟩
   ·exact .inl h
   exact .inr ⟨k+1,r,by rw[h1];congr 1;omega,by simpa using h2⟩
theorem PX(p:Nat→Rul→Bool)(l:List Rul):PW l (Dj p l 0):=by
 rcases Yv (p:=p) (l:=l) (i:=0)with h|⟨k,r,h1,h2⟩
 ·exact .inl h
 exact .inr ⟨k,r,by rw[h1,Nat.zero_add],h2⟩
def Yw(c:Ctx):Ctx:={c with phase:=1,ext:=0,items:=[]}
def Ra(p:Pol)(c:Ctx):Int:=Dj (Kl 2 [] (Yw c)) p.rules 0
def nR(p:Pol)(c:Ctx):Int:=Dj (Kl 1 [] c) p.rules 0
def Yx(p:Pol)(c:Ctx):Int:=Dj (Kl 4 [] c) p.rules 0
section
theorem nT(p:Pol)(i:Int)(hi:i<0):AFn prog 67 [.agg (CL p), .v (.int .i64 i)] (fun r=>r= .agg (H6 J8)):=by
 refine enter Tryz.func67 rfl rfl rfl rfl rfl 0 rfl ?_;refine EH (h:=e_ (Bk (h:=D2 (h:=?_))));refine A4 rfl (fun hb1 hc1=>?_) (fun hb1 hc1=>?_)
 ·refine Jp (h:=e_ (B5 (Ba (?_))));refine A6 ?_;rfl
 exact Df
theorem nU(p:Pol)(k:Nat)(r:Rul)(hr:p.rules[k]?=some r)(h1:p.rules.length≤1000):AFn prog 67 [.agg (CL p), .v (.int .i64 (k:Int))] (fun x=>x= .agg (H6 ⟨decide (r.action=1),(k:Int),r.key⟩)):=by
 have hrow:(p.rules.map Ag)[k]?=some (Ag r):=by rw[List.getElem?_map,hr];rfl
 have hlt:k<p.rules.length:=(Ab.1 hr).1;refine enter Tryz.func67 rfl rfl rfl rfl rfl 0 rfl ?_;refine EH (h:=e_ (Bk (h:=D2 (h:=?_))));refine A4 rfl (fun hb1 hc1=>?_) (fun hb1 hc1=>?_)
 ·exact Df
 refine AF (Gt (h:=JH (h:=B0 (h:=Dy (h:=Aa (h:=HL (h:=e_ (B5 (?_)))))))));refine A6 ?_;rfl
theorem PY(p:Pol)(i:Int)(hi:PW p.rules i)(h1:p.rules.length≤1000):AFn prog 67 [.agg (CL p), .v (.int .i64 i)] (fun r=>r= .agg (H6 (LS p.rules i))):=by
 rcases hi with hi|⟨k,r,rfl,hr⟩
 ·rw[UD hi];exact nT p i hi
 rw[nQ hr];exact nU p k r hr h1
variable (p:Pol)(c:Ctx)(k:Cxs)(h1:p.rules.length≤1000)(ht:∀r∈p.rules,r.tests.length≤1000)
include h1 ht
theorem Yy:AFn prog 22 [.agg (CL p), .agg (D5 c k)] (fun r=>r= .tup [.agg (H6 (LS p.rules (Ra p c))), .v (.bool (decide (0≤Ra p c)))]):=by
 refine enter Tryz.func22 rfl rfl rfl rfl rfl 0 rfl ?_;refine Ff (h:=B4 (h:=w_ (CS (h:=CS (h:=Ct (h:=B0 (h:=l_ (h:=?_))))))));refine A3 rfl (A8 (Oj p.rules 2 [] (Yw c) k h1 (BH _) ht) ?_);rintro r rfl;refine B4 (h:=FR (h:=?_));refine A3 rfl (A8 (PY p _ (PX _ _) h1) ?_);rintro r rfl;refine m_ (h:=E7 (h:=s_ (h:=B8 (h:=?_))));refine A6 ?_;rfl
end
theorem Yz{s:Spc}{a b:AB}(h:Af s.files b=false):decide (a∈CC s (Cq s.files) b)=false:=by
 have e:CC s (Cq s.files) b=[]:=by
  cases Cq s.files with
  |zero=>rfl
  |succ k=>unfold CC;rw[h];rfl
 rw[e];rfl
section
variable {ev:Operand→Option AV}{h:AH}{R:AV→AH→Prop}{d:Option Tmp}{ty:TypeId}{pos:String}{af:Array Edge}{gd:Option (Nat×Bool)}
theorem nV{x ix:Operand}{a b:AB}(j:Nat)(hx:ev x=some (.agg [.v (.int .i64 a.1), .v (.int .i64 a.2), .v (.int .i64 b.1), .v (.int .i64 b.2)]))(hi:ev ix=some (.v (.int .i64 (j:Int))))(hj:j<2)(hR:R (.agg (AA (if j=0 then a else b))) h):AStep prog ⟨d, .index 176 x ix,ty,pos,af,gd⟩ ev h R:=by
 refine DO (fun _ G w ec _ he=>?_) hR;have h1:=he x (by simp[Op.operands]) _ hx;have h2:=he ix (by simp[Op.operands]) _ hi;simp only[rep]at h1 h2;obtain⟨ys,h3,h4⟩:=h1;simp only[AM,rep]at h4;obtain⟨v1,q1,rfl,rfl,v2,q2,rfl,rfl,v3,q3,rfl,rfl,v4,q4,rfl,rfl,rfl⟩:=h4;have u1:=Tryz.underlying176;have u2:=Tryz.isAgg26;have u3:=Tryz.sizeOf26
 match j,hj with
 |0,_=>
   refine⟨.agg #[.int .i64 a.1, .int .i64 a.2],?_,by simp[rep,AM,AA]⟩;simp[execOp,h2,h3,Instr.index,asIntOf,part]
 |1,_=>
   refine⟨.agg #[.int .i64 b.1, .int .i64 b.2],?_,by simp[rep,AM,AA]⟩;simp[execOp,h2,h3,Instr.index,asIntOf,part]
end
theorem Jd{s:Spc}{w:Wch}{d f:AB}{n:AE}(hk:w.kind=1):Ec s w d n f=((!decide (w.file=(0,0))&&decide (w.file=f))||(!decide (n=⟨#[]⟩)&&decide (d=w.dir)&&decide (n=w.name))):=by
 unfold Ec;rw[if_pos hk];have e1:decide (w.file≠(0,0))= !decide (w.file=(0,0)):=by simp
 have e2:decide (n≠⟨#[]⟩)= !decide (n=⟨#[]⟩):=by simp
 have e3:decide (f=w.file)=decide (w.file=f):=decide_eq_decide.2 ⟨Eq.symm,Eq.symm⟩;rw[e1,e2,e3]
section
theorem nW(s:Spc)(w:Wch)(y:Itm)(hs:SpcB s):AFn prog 73 [.agg (AY s), .agg (Eb w), .agg (CV y)] (fun r=>r= .v (.bool (Ec s w y.dir y.name y.file))):=by
 refine enter Tryz.func73 rfl rfl rfl rfl rfl 0 rfl ?_;refine Fd (h:=b_ (h:=J1 (h:=e_ (BK (Ar (h:=?_))))));refine A4 rfl (fun hb1 hc1=>?_) (fun hb1 hc1=>?_)
 ·refine q_ (?_);refine B9 (fun S=>S=⟨look [(3, .bp 0 0),(4, .bp 1 0),(5, .bp 2 0),(23, .v (.bool (!decide (w.file=(0,0))&&decide (w.file=y.file))))],⟨[AY s,Eb w,CV y],[]⟩⟩) ?_ ?_
  ·skip
   refine Aw (Aa (h:=Bi (h:=?_)));refine A3 rfl (JB rfl rfl (by repeat constructor) (by repeat constructor) (fun W=>lX w.file (0,0) W) (by kernel_rfl) ?_);refine m_ (h:=?_);refine AJ true rfl rfl (fun hb2 hc2=>?_) (fun hb2 hc2=>?_)
   ·refine JM (h:=?_);refine Aq (JB rfl rfl (by repeat constructor) (by repeat constructor) (fun W=>Yd w.file y.file W) (by kernel_rfl) ?_);refine JL (h:=?_);exact⟨_,rfl,CD 3 0 rfl⟩
   refine B7 (h:=D8 (h:=DC (h:=?_)));exact⟨_,rfl,CD 3 0 rfl⟩
  rintro S rfl;refine A4 rfl (fun hb3 hc3=>?_) (fun hb3 hc3=>?_)
  ·refine BL (h:=D1 (h:=?_));refine A6 ?_
   first|(exfalso;first|contradiction|omega)|(exact vb (by first|(rw[Jd hc1,hc3];simp[*];done)|(rw[Jd hc1,hc3];rfl)|(have hj3:j=0∨j=1:=(by omega);rcases hj3 with rfl|rfl<;>simp_all [Ec];done)|(simp[Ec,hj1 (by omega),hj2 (by omega), *];done)|(simp[Ec, *];done)))
  refine AF (B0 (h:=FP (h:=?_)));refine AJ true rfl rfl (fun hb4 hc4=>?_) (fun hb4 hc4=>?_)
  ·refine JM (h:=?_);refine Aq (JB rfl rfl (by repeat constructor) (by repeat constructor) (fun W=>Yd y.dir w.dir W) (by kernel_rfl) ?_);refine Bz (h:=?_);refine AJ true rfl rfl (fun hb5 hc5=>?_) (fun hb5 hc5=>?_)
   ·refine Aa (h:=Cs (h:=CZ (h:=BA (h:=?_))));refine A6 ?_
    first|(exfalso;first|contradiction|omega)|(exact vb (by first|(rw[Jd hc1,hc3];simp[*];done)|(rw[Jd hc1,hc3];rfl)|(have hj3:j=0∨j=1:=(by omega);rcases hj3 with rfl|rfl<;>simp_all [Ec];done)|(simp[Ec,hj1 (by omega),hj2 (by omega), *];done)|(simp[Ec, *];done)))
   refine B7 (h:=D8 (h:=BA (h:=?_)));refine A6 ?_
   first|(exfalso;first|contradiction|omega)|(exact vb (by first|(rw[Jd hc1,hc3];simp[*];done)|(rw[Jd hc1,hc3];rfl)|(have hj3:j=0∨j=1:=(by omega);rcases hj3 with rfl|rfl<;>simp_all [Ec];done)|(simp[Ec,hj1 (by omega),hj2 (by omega), *];done)|(simp[Ec, *];done)))
  refine Fz (h:=B7 (h:=D8 (h:=BA (h:=?_))));refine A6 ?_
  first|(exfalso;first|contradiction|omega)|(exact vb (by first|(rw[Jd hc1,hc3];simp[*];done)|(rw[Jd hc1,hc3];rfl)|(have hj3:j=0∨j=1:=(by omega);rcases hj3 with rfl|rfl<;>simp_all [Ec];done)|(simp[Ec,hj1 (by omega),hj2 (by omega), *];done)|(simp[Ec, *];done)))
 refine Ar (h:=?_);refine A4 rfl (fun hb6 hc6=>?_) (fun hb6 hc6=>?_)
 ·refine Hy (h:=ST (h:=e_ (BK (?_))));refine BU (fun m S=>∃j:Nat,j≤2∧m=2 - j∧(0<j→PU s w.file y.dir=false)∧(1<j→PU s w.file y.file=false)∧S=⟨look [(3, .bp 0 0),(4, .bp 1 0),(5, .bp 2 0),(47, .agg [.v (.int .i64 y.dir.1), .v (.int .i64 y.dir.2), .v (.int .i64 y.file.1), .v (.int .i64 y.file.2)]),(48, .v (.int .i64 (j:Int)))],⟨[AY s,Eb w,CV y],[]⟩⟩) (2) ((wk 3 0)) (⟨0,by omega,rfl,fun q=>by omega,fun q=>by omega,rfl⟩) ?_;rintro m S ⟨j,hj,rfl,hj1,hj2,rfl⟩;refine w_ (D2 (h:=q_ (?_)));refine A4 rfl (fun hb7 hc7=>?_) (fun hb7 hc7=>?_)
  ·refine C0 (h:=?_);refine B9 (fun S=>∃z,z=(if j=0 then y.dir else y.file)∧S=⟨look [(3, .bp 0 0),(4, .bp 1 0),(5, .bp 2 0),(8, .bp 3 0),(47, .agg [.v (.int .i64 y.dir.1), .v (.int .i64 y.dir.2), .v (.int .i64 y.file.1), .v (.int .i64 y.file.2)]),(48, .v (.int .i64 (j:Int)))],⟨[AY s,Eb w,CV y,AA z],[]⟩⟩) ?_ ?_
   ·skip
    refine Aw (?_);refine A3 rfl (nV j rfl rfl (by omega) ?_);refine La (h:=DC (h:=?_));exact⟨_,⟨_,rfl,rfl⟩,Ao 4 0 rfl rfl rfl rfl ((by repeat (first|exact Sub.nil|refine Ap rfl rfl ?_|refine At ?_|refine Au rfl ?_|refine Av rfl ?_)))⟩
   rintro S ⟨z,hz,rfl⟩;refine B9 (fun S=>S=⟨look [(3, .bp 0 0),(4, .bp 1 0),(5, .bp 2 0),(47, .agg [.v (.int .i64 y.dir.1), .v (.int .i64 y.dir.2), .v (.int .i64 y.file.1), .v (.int .i64 y.file.2)]),(48, .v (.int .i64 (j:Int))),(60, .v (.bool (PU s w.file z)))],⟨[AY s,Eb w,CV y],[]⟩⟩) ?_ ?_
   ·skip
    refine Aw (Hz (h:=?_));refine A3 rfl (A8 (lZ s z hs) ?_);rintro r rfl;refine m_ (h:=?_);refine AJ true rfl rfl (fun hb8 hc8=>?_) (fun hb8 hc8=>?_)
    ·refine l_ (h:=Aa (h:=l_ (h:=?_)));refine Aq (A8 (i9 s hs w.file z) ?_);rintro r rfl;refine JL (h:=?_);refine⟨_,rfl,Ao 3 0 rfl rfl rfl rfl (by repeat (first|exact Sub.nil|refine Ap rfl rfl ?_|(apply Sub.of;(focus exact rfl);(focus exact LeA.of_eq (vb (by first|rfl|exact(Yz ‹_›).symm)));(focus exact rfl))))⟩
    refine B7 (h:=D8 (h:=DC (h:=?_)));refine⟨_,rfl,Ao 3 0 rfl rfl rfl rfl (by repeat (first|exact Sub.nil|refine Ap rfl rfl ?_|(apply Sub.of;(focus exact rfl);(focus exact LeA.of_eq (vb (by first|rfl|exact(Yz ‹_›).symm)));(focus exact rfl))))⟩
   rintro S rfl;refine A4 rfl (fun hb9 hc9=>?_) (fun hb9 hc9=>?_)
   ·refine Bh (h:=Ba (L6 (D1 (h:=?_))));refine A6 ?_
    first|(exfalso;first|contradiction|omega)|(exact vb (by first|(rw[Jd hc1,hc3];simp[*];done)|(rw[Jd hc1,hc3];rfl)|(have hj3:j=0∨j=1:=(by omega);rcases hj3 with rfl|rfl<;>simp_all [Ec];done)|(simp[Ec,hj1 (by omega),hj2 (by omega), *];done)|(simp[Ec, *];done)))
   refine BD (BE (t_ (Aw (J3 (h:=?_)))));have hj3:j=0∨j=1:=by omega
   refine⟨_,_,?_,⟨j+1,by omega,rfl,?_,?_,rfl⟩,Ao 3 0 rfl rfl rfl rfl ((by repeat (first|exact Sub.nil|refine Ap rfl rfl ?_|refine At ?_|refine Au rfl ?_|refine Av rfl ?_)))⟩
   ·omega
   ·intro _;rcases hj3 with rfl|rfl
    ·rw[if_pos rfl]at hz;rw[←hz];assumption
    exact hj1 (by omega)
   intro q;rcases hj3 with rfl|rfl
   ·omega
   rw[if_neg (by omega)]at hz;rw[←hz];assumption
  refine Kh (h:=SV (h:=?_));refine A6 ?_
  first|(exfalso;first|contradiction|omega)|(exact vb (by first|(rw[Jd hc1,hc3];simp[*];done)|(rw[Jd hc1,hc3];rfl)|(have hj3:j=0∨j=1:=(by omega);rcases hj3 with rfl|rfl<;>simp_all [Ec];done)|(simp[Ec,hj1 (by omega),hj2 (by omega), *];done)|(simp[Ec, *];done)))
 refine FE (h:=?_);refine A6 ?_
 first|(exfalso;first|contradiction|omega)|(exact vb (by first|(rw[Jd hc1,hc3];simp[*];done)|(rw[Jd hc1,hc3];rfl)|(have hj3:j=0∨j=1:=(by omega);rcases hj3 with rfl|rfl<;>simp_all [Ec];done)|(simp[Ec,hj1 (by omega),hj2 (by omega), *];done)|(simp[Ec, *];done)))
end
def qF(s:Spc)(r:Rul)(w:Wch)(x:Itm):Bool:=decide (GD .i64 x.perm r.perm≠0)&&Ec s w x.dir x.name x.file
def PZ(s:Spc)(r:Rul)(w:Wch)(items:List Itm):Bool:=decide (r.watch≠0)&&items.any (qF s r w)
def K5(s:Spc)(p:Pol)(items:List Itm):List Bool:=List.zipWith (fun r w=>PZ s r w items) p.rules p.wats
theorem nX{s:Spc}{p:Pol}{items:List Itm}{j:Nat}{r:Rul}{w:Wch}(hr:p.rules[j]?=some r)(hw:p.wats[j]?=some w):(K5 s p items)[j]?=some (PZ s r w items):=by
 simp[K5,List.getElem?_zipWith,hr,hw]
theorem nY{s:Spc}{p:Pol}{items:List Itm}(h:p.wats.length=p.rules.length):(K5 s p items).length=p.rules.length:=by simp[K5,h]
theorem Z0{α:Type}(q:α→Bool):∀(l:List α) (i:Nat),decide (0≤Dj (fun _ x=>q x) l i)=l.any q
 |[],_=>rfl
 |x::xs,i=>by
   rw[Dj,List.any_cons];split
   ·rename_i h;rw[h];simp
   rename_i h;rw[Z0 q xs (i+1)];simp[h]
def Rb(b:Bool):AV:= .v (.bool b)
def HB(L:List Bool)(j:Nat):List AV:=(L.take j++List.replicate (L.length - j) false).map Rb
theorem nZ(L:List Bool){j:Nat}(h:j≤L.length):(HB L j).length=L.length:=by simp[HB];omega
theorem o0(L:List Bool):HB L 0=List.replicate L.length (.v (.bool false)):=by simp[HB,Rb]
theorem o8{L:List Bool}{j:Nat}{b:Bool}(h:L[j]?=some b):(HB L j).set j (.v (.bool b))=HB L (j+1):=by
 obtain⟨hj,e⟩:=Ab.1 h;unfold HB;rw[show(AV.v (.bool b))=Rb b from rfl,←List.map_set,List.take_succ_eq_append_getElem hj,e,show L.length - j=(L.length - (j+1))+1 by omega,List.replicate_succ]
 congr 1
 rw[List.set_append_right _ _ (by simp;omega)];simp[show min j L.length=j by omega]
theorem Z1{L:List Bool}{j:Nat}(h:L[j]?=some false):HB L j=HB L (j+1):=by
 obtain⟨hj,e⟩:=Ab.1 h;unfold HB;rw[List.take_succ_eq_append_getElem hj,e,show L.length - j=(L.length - (j+1))+1 by omega,List.replicate_succ,List.append_assoc];rfl
theorem Z2{G:Gh}{w:World}{u:Value}:∀n:Nat,AM G w (List.replicate n (.v u)) (List.replicate n u)
 |0=>by simp[AM]
 |n+1=>by
   simp only[List.replicate_succ,AM,rep];exact⟨_,_,rfl,rfl,Z2 n⟩
section
variable {P:Program}{ev:Operand→Option AV}{h:AH}{R:AV→AH→Prop}{d:Option Tmp}{ty:TypeId}{pos:String}{af:Array Edge}{gd:Option (Nat×Bool)}
theorem oA{T:TypeId}{x y:Operand}{E bytes m k:Nat}{i j:Int}{u:Value}{bx':List (List AV)}[hE:Elm P T E 1 bytes][hzr:Zer P E [.v u]](hx:ev x=some (.v (.int .i64 i)))(hy:ev y=some (.v (.int .i64 j)))(hi:i=(m:Int))(hj:j=(m:Int))(hm0:0<m)(hm:m≤1000000)
    (hset:SnocAt h.bx (List.replicate m (.v u)) k bx') (hR:R (.bs k 0 1 m m) ⟨bx',h.tk⟩):AStep P ⟨d, .makeSlice T x y,ty,pos,af,gd⟩ ev h R:=by
 intro E' G w ec hr he;have k1:=he x (by simp[Op.operands]) _ hx;have k2:=he y (by simp[Op.operands]) _ hy;simp only[rep]at k1 k2;subst hi hj;obtain⟨hu,inf,z,hinf,hz,hzs,hs,hby,hp⟩:=Gb hE.eq;have hw:IntKind.i64.wrap (m:Int)=m:=IntWalk.i64_in _ (by omega)
 have hbig:¬(inf.bytes:Int) * (m:Int)>2 ^ 48:=by
  have h1:inf.bytes * m≤100000 * 1000000:=Nat.mul_le_mul (by rw[hby];exact hE.few) (by omega);have h2:((inf.bytes * m:Nat):Int)≤100000000000:=by omega
  rw[Int.natCast_mul]at h2;omega
 have hneg:¬((m:Int)<0):=by omega
 obtain⟨zs,z1,z2,z3⟩:=hzr.eq;obtain⟨inf',z',k3,k4,k5⟩:=Pz z1;rw[hinf]at k3;injection k3 with k3;subst k3;rw[hz]at k4;injection k4 with k4;subst k4
 obtain⟨v,rfl⟩:∃v,zs=[v]:=by
  match zs,z2 with
  |[v],_=>exact⟨v,rfl⟩
 obtain rfl:v=u:=by simpa using z2
 have hone:v.oneCell'=true:=by simpa using z3
 have hcells:((Array.range (m * 1)).map fun x=>z.cells[x % z.cells.size]!)=(List.replicate m v).toArray:=by
  rw[k5];apply Array.ext
  ·simp
  intro i h1 h2;simp[Nat.mod_one]
 have hrun:(Instr.makeSlice T (.int .i64 m) (.int .i64 m)).run P w= .ok (.slice (some ⟨w.heap.size,0,none⟩) m m) (w.alloc (.cells (List.replicate m v).toArray E)):=by
  rw[←hcells];have h0:¬m=0:=by omega
  have hnb:(inf.bytes:Int) * (m:Int)≤2 ^ 48:=by omega
  simp[Instr.makeSlice,run_underlying hu,asInt,asIntOf,typeInfo,hinf,hw,hneg,sizeOf,hs,h0,newRow,zeroValue,hz];omega
 obtain⟨G',s1,s2,s3⟩:=NR (T:=E) hr (Z2 (u:=v) m) (fun q hq=>by rw[List.eq_of_mem_replicate hq];exact hone) hset;simp only[rep]at s3;obtain⟨b',s4,s5⟩:=s3;simp only[execOp,k1,k2,Sem.run_bind,hrun,Result.andThen_ok,Sem.run_pure];refine⟨_,_,G',hR,s1,s2,?_⟩;simp only[rep];injection s5 with s5;injection s5 with s5;injection s5 with s5;exact⟨b',s4,by rw[s5],B3 _,by unfold maxLen;omega⟩
end
section
theorem oB(s:Spc)(r:Rul)(w:Wch)(x:Itm)(hs:SpcB s):AFn prog 72 [.agg (FT x), .fp (Ag r), .fp (AY s), .fp (Eb w)] (fun y=>y= .v (.bool (qF s r w x))):=by
 refine enter Tryz.func72 rfl rfl rfl rfl rfl 0 rfl ?_;refine Ef (h:=B4 (h:=Hy (h:=Eu (h:=FP (h:=?_)))));refine AJ true rfl rfl (fun hb1 hc1=>?_) (fun hb1 hc1=>?_)
 ·refine Hz (h:=l_ (h:=?_));refine Aq (A8 (nW s w x hs) ?_);rintro r rfl;refine Gp (h:=?_);refine A6 ?_
  first|(exfalso;first|contradiction|omega)|(exact vb (by simp_all [qF]))
 refine BT (h:=Bx (h:=B8 (h:=?_)));refine A6 ?_
 first|(exfalso;first|contradiction|omega)|(exact vb (by simp_all [qF]))
theorem oC(l:List Itm)(hl:l.length≤1000)(q:Itm→Bool)(f:FuncId)(caps:List AV)[Fun prog f](hcl:Kc caps=true)(hbl:AP 0 0 (.fn f caps)=true)
    (hp:∀x,AFn prog f ([.agg (FT x)]++caps) (fun y=>y= .v (.bool (q x)))):AFn prog 118 [.sl 13 (l.map FT) none, .fn f caps] (fun r=>r= .v (.int .i64 (Dj (fun _ x=>q x) l 0))):=by
 refine enter Tryz.func118 rfl rfl rfl rfl rfl 0 rfl ?_;refine w_ (Bn (h:=JK (h:=e_ (BK (?_)))));refine BU (fun m t=>∃j:Nat,j≤l.length∧m=l.length - j∧Dj (fun _ x=>q x) (l.drop j) j=Dj (fun _ x=>q x) l 0∧t=⟨look [(0, .sl 13 (l.map FT) none),(1, .fn f caps),(7, .v (.int .i64 ((l.map FT).length:Int))),(8, .v (.int .i64 (j:Int)))],⟨[],[]⟩⟩) (l.length) (Ao 0 0 rfl rfl rfl rfl (by repeat (first|exact Sub.nil|refine Ap rfl rfl ?_|refine Sub.cons _ _ _ rfl hbl ?_|refine At ?_|refine Au rfl ?_|refine Av rfl ?_))) (⟨0,by omega,rfl,rfl,rfl⟩) ?_;rintro m t ⟨j,hj,rfl,ha,rfl⟩;refine w_ (D2 (h:=q_ (?_)));refine A4 rfl (fun hb1 hc1=>?_) (fun hb1 hc1=>?_)
 ·obtain⟨hlt,x,hy,hrow, -⟩:=C1 FT hc1;refine C0 (h:=AX (h:=Bu (h:=m_ (h:=Fw (h:=l_ (h:=?_))))));refine A3 rfl (S8 (cy:=[]) rfl (by repeat (first|exact Args.nil|refine Args.cons _ _ _ _ _ rfl (L5 rfl) ?_|refine Args.cons _ _ _ _ _ rfl (MB _) ?_|refine Args.cons _ _ _ _ _ rfl (LX _) ?_|refine Args.cons _ _ _ _ _ rfl (MF rfl (by repeat (first|exact A7 _|exact LeA.nil _|exact LeL.refl _|refine LeA.agg ?_|refine LeA.tup ?_|exact LeL.nil|refine LeL.cons ?_ ?_|exact LeA.any _))) ?_)) hcl rfl (hp x) ?_);rintro y rfl;refine e_ (?_);refine A4 rfl (fun hb2 hc2=>?_) (fun hb2 hc2=>?_)
  ·refine AX (h:=BA (h:=CT (h:=?_)));refine A6 ?_
   first|(exfalso;first|contradiction|omega)|(exact vi (by rw[←ha,Nk hy,if_pos hc2]))
  refine BD (BE (t_ (Aw (J3 (h:=?_)))));refine⟨_,_,?_,⟨j+1,by omega,rfl,(by rw[←ha,Nk hy];simp[*]),rfl⟩,Ao 0 0 rfl rfl rfl rfl (by repeat (first|exact Sub.nil|refine Ap rfl rfl ?_|refine Sub.cons _ _ _ rfl hbl ?_|refine At ?_|refine Au rfl ?_|refine Av rfl ?_))⟩;omega
 have e3:=CF FT hj hc1;subst e3;refine HQ (h:=?_);refine A6 ?_
 first|(exfalso;first|contradiction|omega)|(exact vi (by rw[←ha,Sf]))
theorem oD(l:List Itm)(hl:l.length≤1000)(q:Itm→Bool)(f:FuncId)(caps:List AV)[Fun prog f](hcl:Kc caps=true)(hbl:AP 0 0 (.fn f caps)=true)
    (hp:∀x,AFn prog f ([.agg (FT x)]++caps) (fun y=>y= .v (.bool (q x)))):AFn prog 71 [.sl 13 (l.map FT) none, .fn f caps] (fun r=>r= .v (.bool (l.any q))):=by
 refine enter Tryz.func71 rfl rfl rfl rfl rfl 0 rfl ?_;refine EX (h:=m_ (h:=?_));refine A3 rfl (Uu rfl (by repeat (first|exact Args.nil|refine Args.cons _ _ _ _ _ rfl (L5 (by first|rfl|exact hcl)) ?_)) (oC l hl q f caps hcl hbl hp) ?_);rintro y rfl;refine E7 (h:=B8 (h:=?_));refine A6 ?_;exact vb (Z0 q l 0)
end
end Go.Proofs.YtbgnigjfkbmceaaGreatDoor
