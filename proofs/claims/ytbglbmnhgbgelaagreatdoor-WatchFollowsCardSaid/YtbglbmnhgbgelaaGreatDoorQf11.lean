/-
  Part 11 of the proof of WatchFollowsP: what the statement's proof uses of the texts in wip/tpl.
-/
import Derived.Lib.AppendZerosOnto
import Derived.Test.YtbglbmnhgbgelaaGreatDoorShelf
import Derived.Test.YtbglbmnhgbgelaaGreatDoorQf10
open Go.Proofs.Tryz (prog)
set_option maxRecDepth 10000
set_option maxHeartbeats 4000000
set_option linter.unusedVariables false
set_option linter.unusedSimpArgs false
namespace Go.Proofs.YtbglbmnhgbgelaaGreatDoor
open Go.RowKit
theorem VT{f:AU}{a:AA}(h:AT f a=true):(Ah f a).ino=a.2:=by
 obtain⟨q,d,m,_,_,_,h4,h5,_⟩:=Gu (f:=f) (a:=a) (by rw[h];simp);rw[h5,h4]
theorem Ra{s:Spc}{d:Int}(h:(Bt s d).isSome=true):Bt s d=some ((Bt s d).getD (0,0)):=by
 cases ho:Bt s d with
 |none=>rw[ho]at h;cases h
 |some o=>rfl
theorem eR{s:Spc}{d:Int}(h:(Bt s d).isSome=false):Bt s d=none:=by
 cases ho:Bt s d with
 |none=>rfl
 |some o=>rw[ho]at h;cases h
theorem P0{s:Spc}{a:AA}(k:Nat)(h:AT s.files a=false):Dq s (k+1) a=(0,0):=by unfold Dq;rw[h];rfl
theorem Rb{s:Spc}{a:AA}(k:Nat)(h:AT s.files a=true)(h1:¬a.2=1):Dq s (k+1) a=(a.1,(Ah s.files a).parent):=by unfold Dq;rw[if_pos h,if_pos h1]
theorem Rc{s:Spc}{a:AA}(k:Nat)(h:AT s.files a=true)(h1:a.2=1)(ho:(Bt s a.1).isSome=true):Dq s (k+1) a=Dq s k ((Bt s a.1).getD (0,0)):=by
 conv=>lhs;unfold Dq
 rw[if_pos h,if_neg (by simpa using h1),Ra ho];rfl
theorem Rd{s:Spc}{a:AA}(k:Nat)(h:AT s.files a=true)(h1:a.2=1)(ho:(Bt s a.1).isSome=false):Dq s (k+1) a=a:=by
 conv=>lhs;unfold Dq
 rw[if_pos h,if_neg (by simpa using h1),eR ho]
section
theorem VU{s:Spc}(hs:SpcB s)(hv:SpcV s)(a:AA)
    (hrec:AT s.files a=true→∀b,D3 s a=some b→AFn prog 102 [.agg (Ao s), .agg (AE b)] (fun r=>r= .tup [.v (.string (Bp s b).1), .v (.bool (Bp s b).2)])):
    AFn prog 102 [.agg (Ao s), .agg (AE a)] (fun r=>r= .tup [.v (.string (Bp s a).1), .v (.bool (Bp s a).2)]):=by
 have hnm:=RQ hv.files a;have hwz:=RV hv;refine enter Tryz.func102 rfl rfl rfl rfl rfl 0 rfl ?_;refine w_ (b_ (h:=b_ (h:=a_ (h:=a_ (h:=e_ (q_ (w_ (f_ (h:=l_ (h:=l_ (h:=?_)))))))))));refine A6 rfl (AK (Gl s.files a hs.files) ?_);rintro r rfl;refine BG (h:=m_ (h:=?_));refine B5 false rfl rfl (fun hb1=>?_) (fun hb1=>?_)
 ·have hc1:=bp hb1;refine A3 (h:=A3 (h:=A3 (h:=A3 (h:=A3 (h:=Ag (h:=e_ (C2 (h:=w_ (a_ (h:=a_ (h:=e_ (A4 (A7 (?_))))))))))))));refine AJ ?_
  (rw[Lh hv (by simp_all)];rfl)
 have hc1:=bp hb1;refine l_ (h:=f_ (h:=l_ (h:=?_)));refine BB (AK (LO s a.1 hs) ?_);rintro r rfl;refine BG (h:=Ar (h:=e_ (?_)));refine A8 rfl (fun hb2=>?_) (fun hb2=>?_)
 ·have hc2:=bp hb2;refine w_ (a_ (h:=a_ (h:=e_ (A4 (A7 (?_))))));refine AJ ?_
  (rw[Lh hv (by simp_all)];rfl)
 have hc2:=bp hb2;refine AN (q_ (w_ (f_ (h:=l_ (h:=AR (h:=e_ (?_)))))));refine A8 rfl (fun hb3=>?_) (fun hb3=>?_)
 ·have hc3:=bp hb3;refine q_ (w_ (l_ (h:=f_ (h:=l_ (h:=?_)))));refine A6 rfl (AK (QO s a.1 hs) ?_);rintro r rfl;refine m_ (h:=x_ (h:=x_ (h:=AZ (h:=s_ (h:=a_ (h:=e_ (w_ (m_ (h:=e_ (?_))))))))));refine A8 rfl (fun hb4=>?_) (fun hb4=>?_)
  ·have hc4:=bp hb4;have hst:D3 s a=some ((Bt s a.1).getD (0,0)):=by unfold D3;rw[if_neg (by simpa using hc3)];exact Ra hc4
   obtain⟨hw1,hw2⟩:=VC hv hc1 hc2 (fun e=>by rw[e,RU hv]at hc4;cases hc4) hst;rw[if_pos hc3]at hw1;refine w_ (l_ (h:=l_ (h:=?_)));refine A6 rfl (AK (hrec hc1 _ hst) ?_);rintro r rfl
   skip
   refine x_ (h:=x_ (h:=a_ (h:=a_ (h:=e_ (A4 (A7 (A7 (?_))))))));refine AJ ?_
   first|(rw[Lh hv (by simp_all)];rfl)|(rw[hw1];first|rfl|(rw[←hw2];rfl))
  have hc4:=bp hb4
  have h00:a=(0,1):=by
   refine Prod.ext ?_ hc3;have:=hc2;unfold Bm at this;rw[hc4,Bool.false_or]at this;exact of_decide_eq_true this
  refine AN (w_ (a_ (h:=a_ (h:=e_ (A4 (A7 (?_)))))));refine AJ ?_
  first|(rw[Lh hv (by simp_all)];rfl)|(rw[hw1];first|rfl|(rw[←hw2];rfl))|(rw[h00,dW hv (by rw[←h00];exact hc1)];rfl)
 have hc3:=bp hb3;have hst:D3 s a=some (a.1,(Ah s.files a).parent):=if_pos hc3;obtain⟨hw1,hw2⟩:=VC hv hc1 hc2 (fun e=>hc3 (by rw[e])) hst;rw[if_neg hc3]at hw1;refine AN (w_ (f_ (h:=l_ (h:=l_ (h:=?_)))));refine A6 rfl (AK (ED s.files a hs.files) ?_);rintro r rfl;refine m_ (h:=x_ (h:=x_ (h:=AZ (h:=s_ (h:=a_ (h:=e_ (w_ (l_ (h:=f_ (h:=l_ (h:=f_ (h:=l_ (h:=AX (h:=?_))))))))))))));refine A6 rfl (AK (hrec hc1 _ hst) ?_);rintro r rfl
 skip
 refine m_ (h:=x_ (h:=x_ (h:=a_ (h:=a_ (h:=e_ (w_ (m_ (h:=f_ (h:=l_ (h:=l_ (h:=?_)))))))))));refine A6 rfl (AK (eK s a hs) ?_);rintro r rfl;refine A6 rfl (AK (VL (Bp s (a.1,(Ah s.files a).parent)).1 (CH s a) (by have:=hwz (a.1,(Ah s.files a).parent);omega) (by omega)) ?_);rintro r rfl;refine m_ (h:=a_ (h:=a_ (h:=e_ (A4 (?_)))));refine AJ ?_
 first|(rw[Lh hv (by simp_all)];rfl)|(rw[hw1];first|rfl|(rw[←hw2];rfl))
theorem eS{s:Spc}(hs:SpcB s)(hv:SpcV s)(a:AA):AFn prog 102 [.agg (Ao s), .agg (AE a)] (fun r=>r= .tup [.v (.string (Bp s a).1), .v (.bool (Bp s a).2)]):=by
 have key:∀(k:Nat) (a:AA),ends s k a→AFn prog 102 [.agg (Ao s), .agg (AE a)] (fun r=>r= .tup [.v (.string (Bp s a).1), .v (.bool (Bp s a).2)]):=by
  intro k
  induction k with
  |zero=>intro a h;exact VU hs hv a fun hd=>by rw[show AT s.files a=false from h]at hd;cases hd
  |succ k ih=>intro a h;exact VU hs hv a fun hd b hb=>ih b (h.resolve_left (by rw[hd];simp) b hb)
 exact key _ a (J4 hv a)
theorem eT{s:Spc}(hs:SpcB s)(a:AA)(p:Nat)(hrec:(Bt s a.1).isSome=true→AFn prog 101 [.agg (Ao s), .agg (AE ((Bt s a.1).getD (0,0)))] (fun r=>r= .agg (AE (Dq s p ((Bt s a.1).getD (0,0)))))):
    AFn prog 101 [.agg (Ao s), .agg (AE a)] (fun r=>r= .agg (AE (Dq s (p+1) a))):=by
 have hde:=Gk s.files a;refine enter Tryz.func101 rfl rfl rfl rfl rfl 0 rfl ?_;refine w_ (b_ (h:=b_ (h:=AZ (h:=e_ (w_ (f_ (h:=l_ (h:=l_ (h:=?_)))))))));refine A6 rfl (AK (ED s.files a hs.files) ?_);rintro r rfl;refine m_ (h:=x_ (h:=x_ (h:=AZ (h:=s_ (h:=a_ (h:=e_ (q_ (w_ (m_ (h:=BG (h:=m_ (h:=?_))))))))))));refine B5 false rfl rfl (fun hb1=>?_) (fun hb1=>?_)
 ·have hc1:=bp hb1;refine A3 (h:=A3 (h:=A3 (h:=Ag (h:=e_ (C2 (h:=w_ (AX (h:=s_ (h:=e_ (A4 (A7 (?_))))))))))));refine AJ ?_;rw[P0 p (by rw[hde,hc1];rfl)];rfl
 have hc1:=bp hb1;refine f_ (h:=l_ (h:=BV (h:=Ar (h:=e_ (?_)))));refine A8 rfl (fun hb2=>?_) (fun hb2=>?_)
 ·have hc2:=bp hb2;refine w_ (AX (h:=s_ (h:=e_ (A4 (A7 (?_))))));refine AJ ?_;rw[P0 p (by rw[hde,decide_eq_false hc2,Bool.and_false])];rfl
 have hc2:=bp hb2;refine AN (q_ (w_ (f_ (h:=l_ (h:=BV (h:=e_ (?_)))))));refine A8 rfl (fun hb3=>?_) (fun hb3=>?_)
 ·have hc3:=bp hb3;refine w_ (f_ (h:=l_ (h:=f_ (h:=l_ (h:=AX (h:=s_ (h:=e_ (A4 (A7 (?_))))))))));refine AJ ?_;rw[Rb p (by rw[hde,hc1,decide_eq_true hc2];rfl) hc3];rfl
 have hc3:=bp hb3;refine AN (q_ (w_ (l_ (h:=f_ (h:=l_ (h:=?_))))));refine A6 rfl (AK (QO s a.1 hs) ?_);rintro r rfl;refine m_ (h:=x_ (h:=x_ (h:=AZ (h:=s_ (h:=a_ (h:=e_ (w_ (m_ (h:=e_ (?_))))))))));refine A8 rfl (fun hb4=>?_) (fun hb4=>?_)
 ·have hc4:=bp hb4;refine w_ (l_ (h:=l_ (h:=?_)));refine A6 rfl (AK (hrec hc4) ?_);rintro r rfl;refine s_ (h:=e_ (A4 (A7 (?_))));refine AJ ?_;rw[Rc p (by rw[hde,hc1,decide_eq_true hc2];rfl) hc3 hc4];rfl
 have hc4:=bp hb4;refine AN (w_ (l_ (h:=s_ (h:=e_ (A4 (?_))))));refine AJ ?_;rw[Rd p (by rw[hde,hc1,decide_eq_true hc2];rfl) hc3 hc4];rfl
theorem eU{s:Spc}(hs:SpcB s)(hv:SpcV s):∀(p:Nat) (a:AA),K9 s a.1<p→AFn prog 101 [.agg (Ao s), .agg (AE a)] (fun r=>r= .agg (AE (Dq s p a))):=by
 intro p
 induction p with
 |zero=>intro a h;omega
 |succ p ih=>intro a hp;exact eT hs a p fun ho=>ih _ (by have:=V0 hv (Ra ho);omega)
theorem eV{s:Spc}(hs:SpcB s)(hv:SpcV s)(a:AA):AFn prog 135 [.agg (Ao s), .agg (AE a)] (fun r=>r= .agg (AE (Dq s (s.mounts.length+1) a))):=by
 have hfew:=hs.few;have hml:(s.mounts.map D2).length=s.mounts.length:=by simp
 refine enter Tryz.func135 rfl rfl rfl rfl rfl 0 rfl ?_;refine w_ (b_ (h:=b_ (h:=AZ (h:=e_ (q_ (w_ (f_ (h:=l_ (h:=n_ (h:=BH (h:=m_ (h:=e_ (Av (?_))))))))))))));refine Bq (fun m t=>∃(j:Nat) (b:AA),j≤s.mounts.length+1∧m=s.mounts.length+1 - j∧Dq s (s.mounts.length+1 - j) b=Dq s (s.mounts.length+1) a∧t=⟨look [(2, .bp 0 0),(3, .bp 1 0),(4, .bp 2 0),(11, .v (.int .i64 (((s.mounts.map D2).length:Int)+1))),(12, .v (.int .i64 (j:Int)))],⟨[Ao s,AE b,[.v (.int .i64 0), .v (.int .i64 0)]],[]⟩⟩) (s.mounts.length+1) ((wk 3 0)) (⟨0,a,by omega,rfl,rfl,rfl⟩) ?_;rintro m t ⟨j,b,hj,rfl,hit,rfl⟩;have hde:=Gk s.files b;refine w_ (BS (h:=e_ (q_ (?_))));refine A8 rfl (fun hb1=>?_) (fun hb1=>?_)
 ·have hc1:=bp hb1;obtain⟨k,hk⟩:∃k,s.mounts.length+1 - j=k+1:=⟨s.mounts.length - j,by omega⟩;rw[hk]at hit;refine AN (q_ (Av (w_ (f_ (h:=l_ (h:=l_ (h:=?_)))))));refine A6 rfl (AK (Hw s.files b hs.files) ?_);rintro r rfl;refine m_ (h:=x_ (h:=x_ (h:=AZ (h:=s_ (h:=a_ (h:=e_ (q_ (w_ (m_ (h:=BG (h:=m_ (h:=?_))))))))))));refine B5 false rfl rfl (fun hb2=>?_) (fun hb2=>?_)
  ·have hc2:=bp hb2;refine A3 (h:=A3 (h:=A3 (h:=Ag (h:=e_ (C2 (h:=w_ (AX (h:=s_ (h:=e_ (A4 (A7 (AY (A7 (A7 (AY (A7 (?_)))))))))))))))));refine AJ ?_;rw[←hit,P0 k (by rw[hde,hc2];rfl)];rfl
  have hc2:=bp hb2;refine f_ (h:=l_ (h:=BV (h:=Ar (h:=e_ (?_)))));refine A8 rfl (fun hb3=>?_) (fun hb3=>?_)
  ·have hc3:=bp hb3;refine w_ (AX (h:=s_ (h:=e_ (A4 (A7 (AY (A7 (A7 (AY (A7 (?_)))))))))));refine AJ ?_;rw[←hit,P0 k (by rw[hde,decide_eq_false hc3,Bool.and_false])];rfl
  have hc3:=bp hb3;refine AN (q_ (w_ (f_ (h:=l_ (h:=BV (h:=e_ (?_)))))));refine A8 rfl (fun hb4=>?_) (fun hb4=>?_)
  ·have hc4:=bp hb4;have hdd:AT s.files b=true:=by rw[hde,hc2,decide_eq_true hc3];rfl
   have hb1:¬b.2=1:=by rw[←VT hdd];exact hc4
   refine w_ (f_ (h:=l_ (h:=f_ (h:=l_ (h:=AX (h:=s_ (h:=e_ (A4 (A7 (AY (A7 (A7 (AY (A7 (?_)))))))))))))));refine AJ ?_;rw[←hit,Rb k hdd hb1];rfl
  have hc4:=bp hb4;have hdd:AT s.files b=true:=by rw[hde,hc2,decide_eq_true hc3];rfl
  have hb1:b.2=1:=by rw[←VT hdd];exact hc4
  refine AN (w_ (l_ (h:=f_ (h:=l_ (h:=?_)))));refine A6 rfl (AK (QP s b.1 hs) ?_);rintro r rfl;refine m_ (h:=x_ (h:=x_ (h:=AZ (h:=s_ (h:=a_ (h:=e_ (q_ (w_ (m_ (h:=BG (h:=m_ (h:=?_))))))))))));refine B5 false rfl rfl (fun hb5=>?_) (fun hb5=>?_)
  ·have hc5:=bp hb5;refine A3 (h:=A3 (h:=A3 (h:=Ag (h:=e_ (C2 (h:=w_ (l_ (h:=s_ (h:=e_ (A4 (A7 (AY (A7 (A7 (AY (A7 (?_)))))))))))))))));refine AJ ?_;rw[←hit,Rd k hdd hb1 hc5];rfl
  have hc5:=bp hb5;refine f_ (h:=l_ (h:=AR (h:=Ar (h:=e_ (?_)))));refine A8 rfl (fun hb6=>?_) (fun hb6=>?_)
  ·have hc6:=bp hb6;refine w_ (l_ (h:=s_ (h:=e_ (A4 (A7 (AY (A7 (A7 (AY (A7 (?_)))))))))));refine AJ ?_;exfalso;rw[hc6,RU hv]at hc5;cases hc5
  have hc6:=bp hb6;refine AN (AQ (l_ (h:=s_ (h:=AP (B8 (t_ (AQ (BH (h:=m_ (h:=AP (?_)))))))))));refine AF ?_;refine⟨_,_,?_,⟨j+1,((Bt s b.1).getD (0,0)),by omega,rfl,(by rw[←hit,Rc k hdd hb1 hc5,show s.mounts.length+1 - (j+1)=k by omega]),rfl⟩,(wk 3 0)⟩;omega
 have hc1:=bp hb1;refine BX (Aw (Aw (BY (t_ (w_ (l_ (h:=s_ (h:=e_ (A4 (?_))))))))));refine AJ ?_;have ej:s.mounts.length+1 - j=0:=by omega
 rw[ej]at hit;rw[←hit];rfl
end
end Go.Proofs.YtbglbmnhgbgelaaGreatDoor
namespace Go.Proofs.YtbglbmnhgbgelaaGreatDoor
section
variable {s:Spc}(hv:SpcV s)
include hv
omit hv in
theorem Li{a:AA}(h:(Bp s a).2=true):AT s.files a=true∧Bm s a.1=true:=by
 unfold Bp at h;split at h
 ·rename_i c;exact⟨c.1,c.2.1⟩
 cases h
theorem Re{d:Int}(h0:0≤d)(h1:d<(s.files.length:Int)):AT s.files (d,1)=true:=by
 obtain⟨q,rfl⟩:=Int.eq_ofNat_of_zero_le h0;have hq:s.files[q]?=some s.files[q]:=B9 (by omega);obtain⟨r,rest,hr,h2,h3,_⟩:=(hv.files.vd _ (Al hq)).root;exact(J3 (RS hv hq (by rw[hr];exact List.mem_cons_self ..) h2)).2 h3
end
end Go.Proofs.YtbglbmnhgbgelaaGreatDoor
namespace Go.Proofs.YtbglbmnhgbgelaaGreatDoor
structure Fnd where
 dir:AA
 name:AD
 file:AA
 ex:Bool
 slash:Bool
 path:AD
def Dh:Fnd:=⟨(0,0),⟨#[]⟩,(0,0),false,false,⟨#[]⟩⟩
def Aq(x:Fnd):List AV:=[.v (.int .i64 x.dir.1), .v (.int .i64 x.dir.2), .v (.string x.name), .v (.int .i64 x.file.1), .v (.int .i64 x.file.2), .v (.bool x.ex), .v (.bool x.slash), .v (.string x.path)]
def Cq(s:AD):List AD:=(C3 s.data.toList).map fun l=>⟨l.toArray⟩
theorem VV(s:AD):CJ (Cq s)=C3 s.data.toList:=by
 unfold CJ Cq;rw[List.map_map];have:((fun x:AD=>x.data.toList) ∘ fun l:Bs=>(⟨l.toArray⟩:AD))=id:=by funext l;simp
 rw[this,List.map_id]
theorem VW:∀{a b:List AD},CJ a=CJ b→a=b
 |[],[],_=>rfl
 |[],_::_,h=>by simp[CJ]at h
 |_::_,[],h=>by simp[CJ]at h
 |x::a,y::b,h=>by
   simp only[CJ,List.map_cons,List.cons.injEq]at h;rw[NJ h.1,VW (a:=a) (b:=b) h.2]
theorem Rf{s:AD}{ps:List AD}(h:CJ ps=C3 s.data.toList):ps=Cq s:=VW (h.trans (VV s).symm)
theorem Lj(s:AD):(Cq s).length≤s.size+1:=by
 have h1:=VR (Cq s);have h2:=Qr s.data.toList;rw[←VV]at h2;rw[Lib.size_eq];omega
def DY(s:Spc):AA:=Cv s s.mounts.length (0,1)
structure Lk where
 ps:List AD
 dir:AA
 name:AD
 file:AA
 ex:Bool
 links:Nat
abbrev P3:AD:=⟨#[46]⟩
abbrev NK:AD:=⟨#[46,46]⟩
def By(s:Spc)(fl:Bool)(p:AD)(ps:List AD)(a:AA)(lk:Nat):Int ⊕ Lk:=
 if AT s.files a=false then .inl 20
 else if 12<p.size then .inl 36
 else if p=P3 then .inr ⟨ps,a,⟨#[]⟩,a,true,lk⟩
 else if p=NK then .inr ⟨ps,Cv s s.mounts.length (Dq s (s.mounts.length+1) a),⟨#[]⟩,Cv s s.mounts.length (Dq s (s.mounts.length+1) a),true,lk⟩
 else if(AB s.files a p).2≠0 then(if ps≠[]∨DT p=false then .inl 2 else .inr ⟨[],a,p,(0,0),false,lk⟩)
 else if(Ah s.files (AB s.files a p).1).kind=3∧(ps≠[]∨fl=true)then
  (if lk=8 then .inl 40 else
    .inr ⟨Cq (Ah s.files (AB s.files a p).1).target++ps,if Cx (Ah s.files (AB s.files a p).1).target=true then DY s else a,⟨#[]⟩,if Cx (Ah s.files (AB s.files a p).1).target=true then DY s else a,true,lk+1⟩)
 else .inr ⟨ps,a,p,Cv s s.mounts.length (AB s.files a p).1,true,lk⟩
def NL:Lk:=⟨[],(0,0),⟨#[]⟩,(0,0),false,0⟩
def Dx(s:Spc)(fl:Bool):Nat→Lk→Int×Lk
 |0,σ=>(0,σ)
 |k+1,σ=>match σ.ps with
   |[]=>(0,σ)
   |p::ps=>match By s fl p ps σ.file σ.links with
     | .inl e=>(e,NL)
     | .inr τ=>Dx s fl k τ
def Eh(σ:Lk):Nat:=(8 - σ.links) * 200+σ.ps.length
section
variable {s:Spc}(hv:FlsV s.files)
include hv
theorem Rg{fl:Bool}{p:AD}{ps:List AD}{a:AA}{lk:Nat}{τ:Lk}(h8:lk≤8)(h:By s fl p ps a lk= .inr τ):τ.links≤8∧Eh τ<(8 - lk) * 200+(ps.length+1):=by
 unfold By at h;split at h
 ·cases h
 split at h
 ·cases h
 split at h
 ·injection h with h;subst h;exact⟨h8,by unfold Eh;simp only;omega⟩
 split at h
 ·injection h with h;subst h;exact⟨h8,by unfold Eh;simp only;omega⟩
 split at h
 ·split at h
  ·cases h
  injection h with h;subst h;exact⟨h8,by unfold Eh;simp only[List.length_nil];omega⟩
 split at h
 ·split at h
  ·cases h
  rename_i h9;injection h with h;subst h;have ht:=N9 hv (AB s.files a p).1;have hl:=Lj (Ah s.files (AB s.files a p).1).target;refine⟨by simp only;omega,?_⟩;unfold Eh;simp only[List.length_append]
  have:(8 - lk) * 200=(8 - (lk+1)) * 200+200:=by
   rw[show 8 - lk=(8 - (lk+1))+1 by omega,Nat.add_mul]
  omega
 injection h with h;subst h;exact⟨h8,by unfold Eh;simp only;omega⟩
theorem eW(fl:Bool):∀(k k':Nat) (σ:Lk),σ.links≤8→Eh σ≤k→Eh σ≤k'→Dx s fl k σ=Dx s fl k' σ:=by
 intro k
 induction k with
 |zero=>
   intro k' σ h8 h h'
   have he:σ.ps=[]:=by
    unfold Eh at h;exact Dd (by omega)
   cases k' with
   |zero=>rfl
   |succ k'=>unfold Dx;rw[he]
 |succ k ih=>
   intro k' σ h8 h h'
   cases hps:σ.ps with
   |nil=>cases k'<;>(unfold Dx;rw[hps])
   |cons p ps=>
     have hm:Eh σ=(8 - σ.links) * 200+(ps.length+1):=by unfold Eh;rw[hps];rfl
     cases k' with
     |zero=>rw[hm]at h';omega
     |succ k'=>
       unfold Dx;rw[hps];simp only
       cases hs:By s fl p ps σ.file σ.links with
       |inl e=>rfl
       |inr τ=>
         simp only;obtain⟨h1,h2⟩:=Rg hv h8 hs;exact ih k' τ h1 (by omega) (by omega)
end
def Dy(s:Spc)(fl:Bool)(σ:Lk):Int×Lk:=Dx s fl (Eh σ) σ
theorem Rh{s:Spc}{fl:Bool}{σ:Lk}(h:σ.ps=[]):Dy s fl σ=(0,σ):=by
 unfold Dy
 cases Eh σ with
 |zero=>rfl
 |succ k=>unfold Dx;rw[h]
theorem VX{s:Spc}(hv:FlsV s.files){fl:Bool}{σ:Lk}{p:AD}{ps:List AD}(h8:σ.links≤8)(h:σ.ps=p::ps):Dy s fl σ=match By s fl p ps σ.file σ.links with
    | .inl e=>(e,NL)
    | .inr τ=>Dy s fl τ:=by
 have hm:Eh σ=((8 - σ.links) * 200+ps.length)+1:=by unfold Eh;rw[h];rfl
 unfold Dy;rw[hm]
 conv=>lhs;unfold Dx
 rw[h];simp only
 cases hs:By s fl p ps σ.file σ.links with
 |inl e=>rfl
 |inr τ=>
   simp only;obtain⟨h1,h2⟩:=Rg hv h8 hs;exact eW hv fl _ _ τ h1 (by omega) (BA _)
def GT(s:Spc)(sl:Bool)(τ:Lk):Fnd:=⟨τ.dir,τ.name,τ.file,τ.ex,sl,if(Bp s τ.dir).2=true then(if τ.name=⟨#[]⟩then(Bp s τ.dir).1 else DX (Bp s τ.dir).1 τ.name)else⟨#[]⟩⟩
def Fw(ps:List AD)(a:AA):Lk:=⟨ps,a,⟨#[]⟩,a,true,0⟩
def Bc(s:Spc)(start:AA)(p:AD)(fl:Bool):Fnd×Int:=
 if p=⟨#[]⟩then(Dh,2)else if 128<p.size then(Dh,36)
 else if AT s.files (if Cx p=true then DY s else start)=false then(Dh,2)
 else if(Dy s (fl||BN p) (Fw (Cq p) (if Cx p=true then DY s else start))).1≠0 then(Dh,(Dy s (fl||BN p) (Fw (Cq p) (if Cx p=true then DY s else start))).1)
 else if BN p=true∧(Dy s (fl||BN p) (Fw (Cq p) (if Cx p=true then DY s else start))).2.ex=true∧AT s.files (Dy s (fl||BN p) (Fw (Cq p) (if Cx p=true then DY s else start))).2.file=false then(Dh,20)
 else(GT s (BN p) (Dy s (fl||BN p) (Fw (Cq p) (if Cx p=true then DY s else start))).2,0)
end Go.Proofs.YtbglbmnhgbgelaaGreatDoor
namespace Go.Proofs.YtbglbmnhgbgelaaGreatDoor
open Go.RowKit
structure Dsc where
 fd:Int
 file:AA
 flags:Int
structure Prc where
 pid:Int
 ppid:Int
 uid:Int
 euid:Int
 gid:Int
 egid:Int
 auid:Int
 ses:Int
 cwd:AA
 comm:AD
 exe:AD
 opens:List Dsc
 audited:Bool
structure Tab where
 next:Int
 nextS:Int
 ps:List Prc
structure Syst where
 spc:Spc
 tab:Tab
structure Cal where
 num:Int
 a0:Int
 a1:Int
 a2:Int
 a3:Int
 paths:List AD
 args:List AD
structure Res where
 exit:Int
 child:Int
 gone:Int
 items:List Itm
 changes:List BW
structure Wrk where
 s:Syst
 p:Prc
 c:Cal
 found:List Fnd
 r:Res
def eX:Prc:=⟨0,0,0,0,0,0,0,0,(0,0),⟨#[]⟩,⟨#[]⟩,[],false⟩
def Db:Tab:=⟨0,0,[]⟩
def Dr:Res:=⟨0,0,0,[],[]⟩
def Ll(cwd:AA):Tab:=⟨2,1,[⟨1,0,0,0,0,0,4294967295,4294967295,cwd,⟨#[105,110,105,116]⟩,⟨#[47,105,110,105,116]⟩,[],true⟩]⟩
def Lm(t:Tab)(pid:Int):Option Prc:=t.ps.find? fun p=>decide (p.pid=pid)
def C8(t:Tab)(pid:Int):Bool:=(Lm t pid).isSome
def AW(t:Tab)(pid:Int):Prc:=(Lm t pid).getD eX
def Fh(t:Tab)(p:Prc):Tab:=⟨t.next,t.nextS,t.ps.map fun x=>if x.pid=p.pid then p else x⟩
def F6(t:Tab)(pid:Int):Tab×Int×Int:=
 if C8 t pid=false then(Db,0,3)else if 16≤(t.ps.length:Int)∨t.next=1073741824 then(Db,0,11)
 else(⟨t.next+1,t.nextS,t.ps++[{AW t pid with pid:=t.next,ppid:=pid}]⟩,t.next,0)
def Fx(pid:Int)(p:Prc):Prc:=if p.ppid=pid then{p with ppid:=1}else p
def Fy(t:Tab)(pid:Int):Tab×Int:=
 if C8 t pid=false then(Db,3)else if pid=1 then(Db,1)
 else(⟨t.next,t.nextS,(t.ps.filter fun p=>decide (p.pid≠pid)).map (Fx pid)⟩,0)
def E7(priv:Bool)(real eff n:Int):Int×Int×Int:=if priv=true then(n,n,0)else if n=real∨n=eff then(real,n,0)else(0,0,1)
def Gv(n:Int):Bool:=decide (0≤n)&&decide (n<4294967295)
def Fz(t:Tab)(pid u:Int):Tab×Int:=
 if C8 t pid=false then(Db,3)else if Gv u=false then(Db,22)
 else if(E7 (decide ((AW t pid).euid=0)) (AW t pid).uid (AW t pid).euid u).2.2≠0 then(Db,(E7 (decide ((AW t pid).euid=0)) (AW t pid).uid (AW t pid).euid u).2.2)
 else(Fh t {AW t pid with uid:=(E7 (decide ((AW t pid).euid=0)) (AW t pid).uid (AW t pid).euid u).1,euid:=(E7 (decide ((AW t pid).euid=0)) (AW t pid).uid (AW t pid).euid u).2.1},0)
def G0(t:Tab)(pid u:Int):Tab×Int:=
 if C8 t pid=false then(Db,3)else if Gv u=false then(Db,22)
 else if(E7 (decide ((AW t pid).euid=0)) (AW t pid).gid (AW t pid).egid u).2.2≠0 then(Db,(E7 (decide ((AW t pid).euid=0)) (AW t pid).gid (AW t pid).egid u).2.2)
 else(Fh t {AW t pid with gid:=(E7 (decide ((AW t pid).euid=0)) (AW t pid).gid (AW t pid).egid u).1,egid:=(E7 (decide ((AW t pid).euid=0)) (AW t pid).gid (AW t pid).egid u).2.1},0)
def Es(t:Tab)(pid auid:Int):Tab×Int:=
 if C8 t pid=false then(Db,3)else if Gv auid=false then(Db,22)
 else if(AW t pid).auid≠4294967295∧(AW t pid).euid≠0 then(Db,1)else if t.nextS=1073741824 then(Db,11)
 else(⟨t.next,t.nextS+1,(Fh t {AW t pid with auid:=auid,ses:=t.nextS}).ps⟩,0)
def Ei:Nat→List Dsc→Nat
 |k,[]=>k
 |k,d::r=>if d.fd=(k:Int)then Ei (k+1) r else k
def Ln(l:List Dsc)(fd:Nat)(x:Dsc):List Dsc:=l.take fd++x::l.drop fd
def Et(t:Tab)(pid:Int)(a:AA)(flags:Int):Tab×Int×Int:=
 if C8 t pid=false then(Db,0,3)else if 8≤((AW t pid).opens.length:Int)then(Db,0,24)
 else(Fh t {AW t pid with opens:=Ln (AW t pid).opens (Ei 0 (AW t pid).opens) ⟨(Ei 0 (AW t pid).opens:Nat),a,flags⟩},(Ei 0 (AW t pid).opens:Nat),0)
def Gw(t:Tab)(pid fd:Int):Tab×Int:=
 if C8 t pid=false then(Db,3)else if(((AW t pid).opens.filter fun d=>decide (d.fd≠fd)).length:Int)=((AW t pid).opens.length:Int)then(Db,9)
 else(Fh t {AW t pid with opens:=(AW t pid).opens.filter fun d=>decide (d.fd≠fd)},0)
def Hi(t:Tab)(pid:Int)(dir:AA):Tab×Int:=if C8 t pid=false then(Db,3)else(Fh t {AW t pid with cwd:=dir},0)
def Hj(t:Tab)(pid:Int)(exe comm:AD):Tab×Int:=if C8 t pid=false then(Db,3)else(Fh t {AW t pid with exe:=exe,comm:=comm},0)
def Fi(t:Tab)(pid target:Int)(ends:Bool):Tab×Int:=
 if C8 t pid=false then(Db,3)else if C8 t target=false then(Db,3)
 else if target=1∨(AW t pid).euid≠0∧(AW t pid).euid≠(AW t target).uid then(Db,1)
 else if ends=true then Fy t target else(t,0)
def EU:List (AD×Int×Int×Int×Int):=[(⟨#[102,111,114,107]⟩,0,0,0,0),
 (⟨#[101,120,101,99,118,101]⟩,0,1,0,4),
 (⟨#[101,120,105,116]⟩,1,0,0,0),
 (⟨#[115,101,116,117,105,100]⟩,1,0,0,0),
 (⟨#[115,101,116,103,105,100]⟩,1,0,0,0),
 (⟨#[108,111,103,105,110]⟩,1,0,0,0),
 (⟨#[111,112,101,110]⟩,2,1,0,0),
 (⟨#[99,108,111,115,101]⟩,1,0,0,0),
 (⟨#[108,105,110,107]⟩,0,2,0,0),
 (⟨#[115,121,109,108,105,110,107]⟩,0,1,1,1),
 (⟨#[117,110,108,105,110,107]⟩,0,1,0,0),
 (⟨#[109,107,100,105,114]⟩,1,1,0,0),
 (⟨#[114,109,100,105,114]⟩,0,1,0,0),
 (⟨#[114,101,110,97,109,101]⟩,0,2,0,0),
 (⟨#[99,104,109,111,100]⟩,1,1,0,0),
 (⟨#[99,104,111,119,110]⟩,2,1,0,0),
 (⟨#[99,104,100,105,114]⟩,0,1,0,0),
 (⟨#[109,111,117,110,116]⟩,1,1,0,0),
 (⟨#[117,109,111,117,110,116]⟩,1,0,0,0),
 (⟨#[99,111,110,110,101,99,116]⟩,1,0,1,1),
 (⟨#[107,105,108,108]⟩,2,0,0,0),
 (⟨#[116,114,117,110,99,97,116,101]⟩,1,1,0,0)]
def Br(n:Int):AD×Int×Int×Int×Int:=if n<0∨22≤n then(⟨#[]⟩,0,0,0,0)else(EU[n.toNat]?).getD (⟨#[]⟩,0,0,0,0)
def Lo(c:Cal):List Int:=[c.a0,c.a1,c.a2,c.a3]
def Bi(c:Cal):Int:=
 if(Br c.num).1=⟨#[]⟩then 100 else if(((Lo c).drop (Br c.num).2.1.toNat).any fun x=>decide (x≠0))=true then 101
 else if(c.paths.length:Int)≠(Br c.num).2.2.1∨(c.args.length:Int)<(Br c.num).2.2.2.1∨(Br c.num).2.2.2.2<(c.args.length:Int)then 101
 else if(c.paths.any fun p=>decide (128<p.size))=true then 102 else if(c.args.any fun p=>decide (64<p.size))=true then 102 else 0
def FP(n:Nod)(euid egid:Int):Int:=
 if euid=n.uid then HU .i64 (OC .i64 n.mode 6) 7 else if egid=n.gid then HU .i64 (OC .i64 n.mode 3) 7 else HU .i64 n.mode 7
def F8(n:Nod)(euid egid want:Int):Bool:=
 if want<0∨7<want then false
 else if euid=0 then decide (HU .i64 want 1=0)||decide (n.kind=2)||decide (HU .i64 n.mode 73≠0)
 else decide (HU .i64 (FP n euid egid) want=want)
def C9(a f:Int):Bool:=decide (HU .i64 a f≠0)
def CK(c:Cal):List Int:=
 if c.num=1 then[1]else if c.num=6 then[(if C9 c.a0 1=true then 4 else 0)+(if C9 c.a0 22=true then 2 else 0)]
 else if c.num=8 then[8,2]else if c.num=13 then[2,2]else if c.num=14∨c.num=15∨c.num=17 then[8]else if c.num=16 then[4]else[2]
def D5(c:Cal):Bool:=
 if c.num=6 then decide (HU .i64 c.a0 32=0)else decide (c.num=1∨c.num=14∨c.num=15∨c.num=16∨c.num=17∨c.num=21)
def NM(n:Int):Bool:=decide (0≤n)&&decide (n≤511)
def Gx(c:Cal):AD:=c.args.headD ⟨#[]⟩
def Cl(p:Prc)(c:Cal):Int:=
 if c.num=6 then(if c.a0<0∨63<c.a0∨HU .i64 c.a0 3=0∨NM c.a1=false then 22 else if 8≤(p.opens.length:Int)then 24 else 0)
 else if c.num=9 then(if Gx c=⟨#[]⟩then 2 else if(Gx c).data.toList.any (fun b=>decide (b=0))=true then 22 else 0)
 else if c.num=11∨c.num=14 then(if NM c.a0=false then 22 else 0)
 else if c.num=15 then(if c.a0<0∨4294967295<c.a0∨c.a1<0∨4294967295<c.a1 then 22 else 0)
 else if c.num=17 then(if p.euid≠0 then 1 else 0)
 else if c.num=21 then(if c.a0<0 then 22 else 0)else 0
def NN(s:Spc)(given:AD)(perm:Int)(f:Fnd):Itm:=
 ⟨given,f.path,f.dir,f.name,f.file,1,(Ah s.files f.file).kind,(Ah s.files f.file).mode,(Ah s.files f.file).uid,(Ah s.files f.file).gid,perm⟩
def G4(given:AD)(perm:Int):Itm:=⟨given,⟨#[]⟩,(0,0),⟨#[]⟩,(0,0),1,0,0,0,0,perm⟩
def Fb(s:Spc)(cwd:AA)(fl:Bool)(x:List Itm×List Fnd×Int)(g:AD×Int):List Itm×List Fnd×Int:=
 if x.2.2=0 then
  (if(Bc s cwd g.1 fl).2=0 then(x.1++[NN s g.1 g.2 (Bc s cwd g.1 fl).1],x.2.1++[(Bc s cwd g.1 fl).1],0)else(x.1++[G4 g.1 g.2],x.2.1++[(Bc s cwd g.1 fl).1],(Bc s cwd g.1 fl).2))
 else(x.1++[G4 g.1 g.2],x.2.1++[Dh],x.2.2)
def J5(s:Spc)(cwd:AA)(fl:Bool)(l:List (AD×Int))(e:Int):List Itm×List Fnd×Int:=l.foldl (Fb s cwd fl) ([],[],e)
def B7(w:Wrk)(i:Nat):Fnd:=(w.found[i]?).getD Dh
def CA(w:Wrk)(a:AA)(want:Int):Bool:=F8 (Ah w.s.spc.files a) w.p.euid w.p.egid want
def Gy(w:Wrk)(i:Nat):Bool:=AT w.s.spc.files (B7 w i).file
def G5(w:Wrk)(a:AA):Bool:=(Bx w.s.spc a).isSome||w.s.tab.ps.any fun p=>decide (p.cwd=a)
def BT(w:Wrk)(R:Cp):Wrk×Int:=if R.2.2=0 then({w with s:=⟨⟨R.1,w.s.spc.mounts⟩,w.s.tab⟩,r:={w.r with changes:=R.2.1}},0)else(w,R.2.2)
def C5(w:Wrk)(R:Tab×Int):Wrk×Int:=if R.2=0 then({w with s:=⟨w.s.spc,R.1⟩},0)else(w,R.2)
def VY(n:Nod)(a:AA)(x:Itm):Itm:={x with role:=2,file:=a,kind:=n.kind,mode:=n.mode,uid:=n.uid,gid:=n.gid}
def Gz(w:Wrk)(i:Nat)(a:AA):Wrk:={w with r:={w.r with items:=w.r.items.modify i (VY (Ah w.s.spc.files a) a)}}
def eY:BW:=((0,0),⟨#[]⟩,(0,0),(0,0))
def VZ(l:List BW):AA:=(l.headD eY).2.2.2
def NO(w:Wrk)(n:Nod):Nod:={n with uid:=w.p.euid,gid:=w.p.egid}
def EV(w:Wrk)(i:Nat)(n:Nod):Cp:=DW w.s.spc.files (B7 w i).dir (B7 w i).name (NO w n)
def CO(w:Wrk)(i:Nat)(n:Nod):Wrk×Int:=
 if(EV w i n).2.2=0 then(Gz (BT w (EV w i n)).1 i (VZ (EV w i n).2.1),0)else(w,(EV w i n).2.2)
def G6(w:Wrk)(i:Nat)(role:Int):Wrk:={w with r:={w.r with items:=w.r.items.modify i fun x=>{x with role:=role}}}
def NP(w:Wrk)(n:Int):Wrk:={w with r:={w.r with exit:=n}}
def H0(mode:Int):Nod:=⟨0,1,mode,0,0,0,⟨#[]⟩,[]⟩
def Fj(w:Wrk)(a:AA):Wrk×Int:=C5 (NP w (Et w.s.tab w.p.pid a w.c.a0).2.1) ((Et w.s.tab w.p.pid a w.c.a0).1,(Et w.s.tab w.p.pid a w.c.a0).2.2)
def JY(a:Int):Int:=(if C9 a 1=true then 4 else 0)+(if C9 a 18=true then 2 else 0)
def CB(w:Wrk):Wrk×Int:=
 if(B7 w 0).ex=true then
  (if C9 w.c.a0 4=true∧C9 w.c.a0 8=true then(w,17)
  else if(Ah w.s.spc.files (B7 w 0).file).kind=3 then(w,40)
  else if(Ah w.s.spc.files (B7 w 0).file).kind=2∧C9 w.c.a0 22=true then(w,21)
  else if CA w (B7 w 0).file (JY w.c.a0)=false then(w,13)
  else Fj w (B7 w 0).file)
 else
  (if C9 w.c.a0 4=false then(w,2)else if(B7 w 0).slash=true then(w,21)else if CA w (B7 w 0).dir 2=false then(w,13)
  else if(CO w 0 (H0 w.c.a1)).2≠0 then CO w 0 (H0 w.c.a1)
  else Fj (CO w 0 (H0 w.c.a1)).1 (VZ (CO w 0 (H0 w.c.a1)).1.r.changes))
def EK(w:Wrk):Wrk×Int:=
 if(B7 w 0).ex=false then(w,2)else if Gy w 0=true then(w,1)else if(B7 w 1).ex=true then(w,17)else if(B7 w 1).slash=true then(w,2)
 else if(B7 w 0).file.1≠(B7 w 1).dir.1 then(w,18)else if CA w (B7 w 1).dir 2=false then(w,13)
 else if(DP w.s.spc.files (B7 w 1).dir (B7 w 1).name (B7 w 0).file).2.2≠0 then(w,(DP w.s.spc.files (B7 w 1).dir (B7 w 1).name (B7 w 0).file).2.2)
 else(Gz (BT w (DP w.s.spc.files (B7 w 1).dir (B7 w 1).name (B7 w 0).file)).1 1 (B7 w 0).file,0)
def Fk(w:Wrk)(R:Cp):Wrk×Int:=if R.2.2≠0 then(w,R.2.2)else(G6 (BT w R).1 0 3,0)
def Dk(w:Wrk):Wrk×Int:=
 if(B7 w 0).ex=false then(w,2)
 else if w.c.num=10 then
  (if(B7 w 0).name=⟨#[]⟩∨Gy w 0=true then(w,21)else if CA w (B7 w 0).dir 2=false then(w,13)
  else Fk w (EG w.s.spc.files (B7 w 0).dir (B7 w 0).name))
 else
  (if(B7 w 0).name=⟨#[]⟩then(w,16)else if Gy w 0=false then(w,20)
  else if G5 w (AB w.s.spc.files (B7 w 0).dir (B7 w 0).name).1=true then(w,16)else if CA w (B7 w 0).dir 2=false then(w,13)
  else Fk w (Dw w.s.spc.files (B7 w 0).dir (B7 w 0).name))
def G7(w:Wrk)(R:Cp)(x:AA):Wrk×Int:=
 if R.2.2≠0 then(w,R.2.2)else if 0<(R.2.1.length:Int)then(Gz (G6 (BT w R).1 0 3) 1 x,0)else((BT w R).1,0)
def Dl(w:Wrk):Wrk×Int:=
 if(B7 w 0).ex=false then(w,2)else if(B7 w 0).name=⟨#[]⟩∨(B7 w 1).name=⟨#[]⟩then(w,16)
 else if(B7 w 1).slash=true∧Gy w 0=false then(w,20)else if(B7 w 0).dir.1≠(B7 w 1).dir.1 then(w,18)
 else if CA w (B7 w 0).dir 2=false∨CA w (B7 w 1).dir 2=false then(w,13)
 else if(AB w.s.spc.files (B7 w 1).dir (B7 w 1).name).2=0∧(AB w.s.spc.files (B7 w 1).dir (B7 w 1).name).1≠(AB w.s.spc.files (B7 w 0).dir (B7 w 0).name).1∧AT w.s.spc.files (AB w.s.spc.files (B7 w 1).dir (B7 w 1).name).1=true∧G5 w (AB w.s.spc.files (B7 w 1).dir (B7 w 1).name).1=true then(w,16)
 else G7 w (Dg w.s.spc.files (B7 w 0).dir (B7 w 0).name (B7 w 1).dir (B7 w 1).name) (AB w.s.spc.files (B7 w 0).dir (B7 w 0).name).1
def H3(w:Wrk)(R:AU×Int):Wrk×Int:=BT w (R.1,[],R.2)
def EW(w:Wrk):Wrk×Int:=
 if(B7 w 0).ex=false then(w,2)
 else if w.c.num=14 then
  (if w.p.euid≠0∧w.p.euid≠(Ah w.s.spc.files (B7 w 0).file).uid then(w,1)
  else H3 w (DE w.s.spc.files (B7 w 0).file w.c.a0 (Ah w.s.spc.files (B7 w 0).file).uid (Ah w.s.spc.files (B7 w 0).file).gid))
 else if w.p.euid≠0 then(w,1)else H3 w (DE w.s.spc.files (B7 w 0).file (Ah w.s.spc.files (B7 w 0).file).mode w.c.a0 w.c.a1)
def H4(w:Wrk)(R:Spc×Int):Wrk×Int:=if R.2=0 then({w with s:=⟨R.1,w.s.tab⟩},0)else(w,R.2)
def DG(w:Wrk):Wrk×Int:=
 if(B7 w 0).ex=false then(w,2)
 else if w.c.num=1 then(if Gy w 0=true∨CA w (B7 w 0).file 1=false then(w,13)else C5 w (Hj w.s.tab w.p.pid (B7 w 0).path (B7 w 0).name))
 else if w.c.num=16 then(if Gy w 0=false then(w,20)else if CA w (B7 w 0).file 1=false then(w,13)else C5 w (Hi w.s.tab w.p.pid (B7 w 0).file))
 else if w.c.num=17 then(if Gy w 0=false then(w,20)else H4 w (DQ w.s.spc w.c.a0 (B7 w 0).file))
 else if Gy w 0=true then(w,21)else if CA w (B7 w 0).file 2=false then(w,13)else(w,0)
def Lp(t:AD):Nod:=⟨0,3,511,0,0,0,t,[]⟩
def NQ(mode:Int):Nod:=⟨0,2,mode,0,0,0,⟨#[]⟩,[]⟩
def EX(w:Wrk):Wrk×Int:=
 if(B7 w 0).ex=true then(w,17)else if(B7 w 0).slash=true∧w.c.num=9 then(w,2)else if CA w (B7 w 0).dir 2=false then(w,13)
 else if w.c.num=9 then CO w 0 (Lp (Gx w.c))else CO w 0 (NQ w.c.a0)
def Lq(t:Tab)(dev:Int):Bool:=t.ps.any fun p=>decide (p.cwd.1=dev)||p.opens.any fun d=>decide (d.file.1=dev)
def H5(w:Wrk)(R:Spc×Int):Wrk×Int:=if R.2=0 then({w with s:=⟨R.1,w.s.tab⟩,r:={w.r with gone:=w.c.a0}},0)else(w,R.2)
def Eu(w:Wrk):Wrk×Int:=
 if w.p.euid≠0 then(w,1)else if w.c.a0=0∨Bm w.s.spc w.c.a0=false then(w,22)else if Lq w.s.tab w.c.a0=true then(w,16)
 else H5 w (Ef w.s.spc w.c.a0)
def Km(w:Wrk)(n:Int):Wrk:={w with r:={w.r with exit:=n,child:=n}}
def Ds(w:Wrk):Wrk×Int:=
 if w.c.num=0 then C5 (Km w (F6 w.s.tab w.p.pid).2.1) ((F6 w.s.tab w.p.pid).1,(F6 w.s.tab w.p.pid).2.2)
 else if w.c.num=2 then C5 w (Fy w.s.tab w.p.pid)
 else if w.c.num=3 then C5 w (Fz w.s.tab w.p.pid w.c.a0)
 else if w.c.num=4 then C5 w (G0 w.s.tab w.p.pid w.c.a0)
 else if w.c.num=5 then C5 w (Es w.s.tab w.p.pid w.c.a0)
 else if w.c.num=7 then C5 w (Gw w.s.tab w.p.pid w.c.a0)
 else if w.c.num=18 then Eu w
 else if w.c.num=19 then(if w.c.a0<0∨65535<w.c.a0∨Gx w.c=⟨#[]⟩then(w,22)else if w.c.a0=0 then(w,111)else(w,0))
 else if w.c.a1<0∨64<w.c.a1 then(w,22)else C5 w (Fi w.s.tab w.p.pid w.c.a0 (decide (w.c.a1≠0)))
def BD(w:Wrk):Wrk×Int:=
 if w.c.num=6 then CB w else if w.c.num=8 then EK w else if w.c.num=10∨w.c.num=12 then Dk w else if w.c.num=13 then Dl w
 else if w.c.num=14∨w.c.num=15 then EW w else if w.c.num=1∨w.c.num=16∨w.c.num=17∨w.c.num=21 then DG w
 else if w.c.num=9∨w.c.num=11 then EX w else Ds w
def EL(s:Syst)(p:Prc)(c:Cal):List Itm×List Fnd×Int:=J5 s.spc p.cwd (D5 c) (c.paths.zip (CK c)) (Cl p c)
def Ej(s:Syst)(pid:Int)(c:Cal):Wrk:=⟨s,AW s.tab pid,c,(EL s (AW s.tab pid) c).2.1,{Dr with items:=(EL s (AW s.tab pid) c).1}⟩
def H6(n:Int):Syst×Int:=if(En n).2≠0 then(⟨⟨[],[]⟩,Db⟩,(En n).2)else(⟨⟨(En n).1,[]⟩,Ll (0,1)⟩,0)
def Fc(d:Dsc):List AV:=[.v (.int .i64 d.fd), .v (.int .i64 d.file.1), .v (.int .i64 d.file.2), .v (.int .i64 d.flags)]
def B1(p:Prc):List AV:=[.v (.int .i64 p.pid), .v (.int .i64 p.ppid), .v (.int .i64 p.uid), .v (.int .i64 p.euid), .v (.int .i64 p.gid), .v (.int .i64 p.egid), .v (.int .i64 p.auid), .v (.int .i64 p.ses), .v (.int .i64 p.cwd.1), .v (.int .i64 p.cwd.2), .v (.string p.comm), .v (.string p.exe), .sl 4 (p.opens.map Fc) none, .v (.bool p.audited)]
def Ax(t:Tab):List AV:=[.v (.int .i64 t.next), .v (.int .i64 t.nextS), .sl 14 (t.ps.map B1) none]
def Bn(s:Syst):List AV:=[.sl 2 (s.spc.files.map C7) none, .sl 3 (s.spc.mounts.map D2) none, .v (.int .i64 s.tab.next), .v (.int .i64 s.tab.nextS), .sl 14 (s.tab.ps.map B1) none]
def DL(s:AD):List AV:=[.v (.string s)]
def Dc(c:Cal):List AV:=[.v (.int .i64 c.num), .v (.int .i64 c.a0), .v (.int .i64 c.a1), .v (.int .i64 c.a2), .v (.int .i64 c.a3), .sl 1 (c.paths.map DL) none, .sl 1 (c.args.map DL) none]
def CL(y:Itm):List AV:=[.v (.string y.given), .v (.string y.path), .v (.int .i64 y.dir.1), .v (.int .i64 y.dir.2), .v (.string y.name), .v (.int .i64 y.file.1), .v (.int .i64 y.file.2), .v (.int .i64 y.role), .v (.int .i64 y.kind), .v (.int .i64 y.mode), .v (.int .i64 y.uid), .v (.int .i64 y.gid), .v (.int .i64 y.perm)]
def Dz(r:Res):List AV:=[.v (.int .i64 r.exit), .v (.int .i64 r.child), .v (.int .i64 r.gone), .sl 13 (r.items.map CL) none, .sl 7 (r.changes.map CY) none]
def D6(w:Wrk)(fnd its:AV):List AV:=
 [.sl 2 (w.s.spc.files.map C7) none, .sl 3 (w.s.spc.mounts.map D2) none, .v (.int .i64 w.s.tab.next), .v (.int .i64 w.s.tab.nextS), .sl 14 (w.s.tab.ps.map B1) none,
 .v (.int .i64 w.p.pid), .v (.int .i64 w.p.ppid), .v (.int .i64 w.p.uid), .v (.int .i64 w.p.euid), .v (.int .i64 w.p.gid), .v (.int .i64 w.p.egid), .v (.int .i64 w.p.auid), .v (.int .i64 w.p.ses), .v (.int .i64 w.p.cwd.1), .v (.int .i64 w.p.cwd.2), .v (.string w.p.comm), .v (.string w.p.exe), .sl 4 (w.p.opens.map Fc) none, .v (.bool w.p.audited),
 .v (.int .i64 w.c.num), .v (.int .i64 w.c.a0), .v (.int .i64 w.c.a1), .v (.int .i64 w.c.a2), .v (.int .i64 w.c.a3), .sl 1 (w.c.paths.map DL) none, .sl 1 (w.c.args.map DL) none,fnd,
 .v (.int .i64 w.r.exit), .v (.int .i64 w.r.child), .v (.int .i64 w.r.gone),its, .sl 7 (w.r.changes.map CY) none]
structure TabB(t:Tab):Prop where
 few:t.ps.length≤16
 opens:∀p∈t.ps,p.opens.length≤8
 next:t.next≤1073741824
 nextS:t.nextS≤1073741824
structure RowF(sz:Nat){α:Type}(F:α→List AV):Prop where
 len:∀x,(F x).length=sz
 flat:∀x,∀y∈F x,(∃v,y= .v v)∨∃s r,y= .sl s r none
 pos:0<sz
def LB(sz:Nat){α:Type}(F:α→List AV)(l:List α)(cap:Nat):List AV:=CT sz cap (l.map F)
section
variable {α:Type}{sz:Nat}{F:α→List AV}(hF:RowF sz F)
include hF
theorem Kn(l:List α):∀r∈l.map F,r.length=sz:=by
 intro r hr;obtain⟨x,_,rfl⟩:=List.mem_map.1 hr;exact hF.len x
theorem NR{l:List α}{cap:Nat}(h:l.length≤cap):(LB sz F l cap).length=cap * sz:=QT (Kn hF l) (by simpa using h)
theorem eZ{g:AV→AV}(hv:∀x,g (.v x)= .v x)(hs:∀sz rows,g (.sl sz rows none)= .sl sz rows none)(x:α):(F x).map g=F x:=by
 conv=>rhs;rw[←List.map_id (F x)]
 apply List.map_congr_left;intro y hy;rcases hF.flat x y hy with⟨v,rfl⟩|⟨s,r,rfl⟩
 ·exact hv v
 exact hs s r
theorem Ri{g:AV→AV}(hany:g .any= .any)(hv:∀x,g (.v x)= .v x)(hs:∀sz rows,g (.sl sz rows none)= .sl sz rows none)(l:List α)(cap:Nat):(LB sz F l cap).map g=LB sz F l cap:=by
 unfold LB;rw[Mm g hany,List.map_map]
 congr 1
 apply List.map_congr_left;intro x _;exact eZ hF hv hs x
theorem Cr(g:Nat→Option Nat)(l:List α)(cap:Nat):Da g (LB sz F l cap)=LB sz F l cap:=by
 rw[Mk];exact Ri hF rfl (fun _=>rfl) (fun _ _=>rfl) l cap
theorem H7(g:Nat→Option Nat)(l:List α)(cap:Nat):Fs g (LB sz F l cap)=LB sz F l cap:=by
 rw[Od];exact Ri hF rfl (fun _=>rfl) (fun _ _=>rfl) l cap
theorem f6(g:Nat→Option (List AV))(l:List α)(cap:Nat):Gi g (LB sz F l cap)=LB sz F l cap:=by
 rw[Ml];exact Ri hF rfl (fun _=>rfl) (fun _ _=>rfl) l cap
theorem f8{n m:Nat}(x:α):Ac n m (F x)=true:=by
 refine Qc.2 fun y hy=>?_;rcases hF.flat x y hy with⟨v,rfl⟩|⟨s,r,rfl⟩<;>rfl
theorem Bj{n m:Nat}{l:List α}{cap:Nat}:Ac n m (LB sz F l cap)=true:=by
 refine Qd fun r hr=>?_;obtain⟨x,_,rfl⟩:=List.mem_map.1 hr;exact f8 hF x
theorem f9{n:Nat}{bx:List (List AV)}{k j:Nat}{l:List α}{cap:Nat}(hn:n≤j)(hj:bx[j]?=some (LB sz F l cap)):Dn n bx (k+1) j=some (LB sz F l cap):=by
 have:Nat.blt j n=false:=by rw[←Bool.not_eq_true,Nat.blt_eq];omega
 simp only[Dn,this,hj,Option.map_some,f6 hF]
theorem Ko{n:Nat}{bx:List (List AV)}{k j:Nat}{l:List α}{cap cap0:Nat}(hn:Nat.ble n j=true)(hj:bx[j]?=some (LB sz F l cap))(hc:l.length≤cap):FH n (Dn n bx (k+1)) (.bs j 0 sz l.length cap0)= .sl sz (l.map F) none:=
 Uo (Be hn) (f9 hF (Be hn) hj) (Kn hF l) (by simp) (by simpa using hc)
theorem fA{l:List α}{cap i k:Nat}{x:α}{y:AV}(h:l[i]?=some x)(hx:(F x)[k]?=some y):(LB sz F l cap)[0+i * sz+k]?=some y:=Mo (Kn hF l) (by rw[List.getElem?_map,h];rfl) hx
theorem JZ{l:List α}{cap i k:Nat}{x x':α}{cs:List AV}(h:l[i]?=some x)(hs:SetAt (F x) k cs (F x'))(hne:cs≠[]):SetAt (LB sz F l cap) (0+i * sz+k) cs (LB sz F (l.set i x') cap):=by
 have key:=Qg (cap:=cap) (Kn hF l) (by rw[List.getElem?_map,h];rfl) hs hne;rw[←List.map_set]at key;exact key
theorem Va{l:List α}{cap i:Nat}{x x':α}(h:l[i]?=some x):SetAt (LB sz F l cap) (0+i * sz) (F x') (LB sz F (l.set i x') cap):=by
 have hne:F x'≠[]:=fun e=>by have h1:=hF.len x';have h2:=hF.pos;rw[e]at h1;simp at h1;omega
 have hs:SetAt (F x) 0 (F x') (F x'):=by
  have:=SetAt.whole (xs:=F x') (l:=F x) (b:=[]) (by rw[hF.len,hF.len])
  simpa using this
 have key:=JZ hF (cap:=cap) h hs hne
 simpa using key
theorem Vb(x:α)(cap:Nat):F x++List.replicate ((cap - 1) * sz) .any=LB sz F [x] cap:=by
 have _:=hF;unfold LB CT;simp
theorem Rj(acc:List α)(x:α)(cap0 cap:Nat):((LB sz F acc cap0).drop 0).take (acc.length * sz)++F x++List.replicate ((cap - (acc.length+1)) * sz) .any=LB sz F (acc++[x]) cap:=by
 unfold LB;rw[Tr (Kn hF acc) (by simp),List.map_append];rfl
theorem Rk{acc:List α}{x:α}{cap:Nat}{row:List AV}(hs:SetAt (LB sz F acc cap) (0+acc.length * sz) (F x) row)(hc:acc.length+1≤cap):row=LB sz F (acc++[x]) cap:=by
 have key:=Tq (rows:=acc.map F) (sz:=sz) (cap:=cap) (r:=F x) (row':=row) (Kn hF acc) (hF.len x) hF.pos (by simpa using hc) (by rw[List.length_map];exact hs);rw[key];unfold LB;rw[List.map_append];rfl
end
theorem Dt:RowF 14 B1:=⟨fun _=>rfl,fun x y h=>by simp[B1]at h;rcases h with h|h|h|h|h|h|h|h|h|h|h|h|h|h<;>first|exact .inl ⟨_,h⟩|exact .inr ⟨_,_,h⟩,by decide⟩
theorem B6:RowF 13 CL:=⟨fun _=>rfl,fun x y h=>by simp[CL]at h;rcases h with h|h|h|h|h|h|h|h|h|h|h|h|h<;>exact .inl ⟨_,h⟩,by decide⟩
theorem CM{f:Nat→Option AV}{bx:List (List AV)}{tk:List (Nat×Nat×List (List AV))}{l:List (Nat×AV)}{N:Dim}(n m:Nat){bx':List (List AV)}{tk':List (Nat×Nat×List (List AV))}(hbp:Ai n m bx'=true)(hn:Nat.ble N.ni n=true:=by rfl)(hb:bx.take n=bx':=by rfl)(ht:tk.take m=tk':=by rfl)(hl:Sub n m f l:=by repeat (first|exact Sub.nil|refine Sub.cons _ _ _ rfl rfl ?_|refine Sub.any _ _ ?_|refine Sub.sl _ _ _ _ _ rfl ?_|refine Sub.slnil _ _ _ rfl ?_|(apply Sub.of;(focus exact rfl);(focus exact LeA.of_eq (vb (by simp[*])));(focus exact rfl)))):Weak N ⟨f,⟨bx,tk⟩⟩ ⟨look l,⟨bx',tk'⟩⟩:=Az n m hn hb ht hbp hl
def DS(bx:List (List AV))(g:Nat→Option Nat):List Nat→List (List AV)→List (List AV)
 |[],bc=>bx++bc.map (Da g)
 |i::is,[]=>DS bx g is []
 |i::is,r::bc=>DS (bx.set i (Da g r)) g is bc
theorem Vc{g:Nat→Option Nat}:∀(is:List Nat) (bx bc:List (List AV)),is.length≤bc.length→(DS bx g is bc).length=bx.length+(bc.length - is.length)
 |[],bx,bc,_=>by simp[DS]
 |i::is,bx,[],h=>by simp at h
 |i::is,bx,r::bc,h=>by
   unfold DS;rw[Vc is _ bc (by simpa using h)];simp
theorem P4{g:Nat→Option Nat}:∀(is:List Nat) (bx bc:List (List AV)) (i:Nat),i∉is→i<bx.length→(DS bx g is bc)[i]?=bx[i]?
 |[],bx,bc,i,_,hi=>by unfold DS;rw[Cm hi]
 |j::is,bx,[],i,h,hi=>by
   unfold DS;exact P4 is bx [] i (fun hm=>h (List.mem_cons_of_mem _ hm)) hi
 |j::is,bx,r::bc,i,h,hi=>by
   unfold DS;rw[P4 is _ bc i (fun hm=>h (List.mem_cons_of_mem _ hm)) (by simpa using hi),List.getElem?_set_ne (fun e=>h (by rw[e];exact List.mem_cons_self ..))]
theorem Vd{g:Nat→Option Nat}:∀(is:List Nat) (bx bc:List (List AV)) (k i:Nat) (row:List AV),is.Nodup→i<bx.length→is[k]?=some i→bc[k]?=some row→(DS bx g is bc)[i]?=some (Da g row)
 |[],_,_,_,_,_,_,_,h,_=>by simp at h
 |j::is,bx,[],k,i,row,_,_,_,h=>by simp at h
 |j::is,bx,r::bc,0,i,row,hn,hi,h1,h2=>by
   simp at h1 h2;subst h1 h2;unfold DS;rw[P4 is _ bc j (List.nodup_cons.1 hn).1 (by simpa using hi),List.getElem?_set_self hi]
 |j::is,bx,r::bc,k+1,i,row,hn,hi,h1,h2=>by
   unfold DS;exact Vd is _ bc k i row (List.nodup_cons.1 hn).2 (by simpa using hi) (by simpa using h1) (by simpa using h2)
theorem Ve{g:Nat→Option Nat}:∀(is:List Nat) (bx bc:List (List AV)) (k:Nat) (row:List AV),bc[is.length+k]?=some row→(DS bx g is bc)[bx.length+k]?=some (Da g row)
 |[],bx,bc,k,row,h=>by
   unfold DS;rw[Dj (by omega),show bx.length+k - bx.length=k by omega,List.getElem?_map];simp at h;rw[h];rfl
 |j::is,bx,[],k,row,h=>by simp at h
 |j::is,bx,r::bc,k,row,h=>by
   unfold DS;have:=Ve (g:=g) is (bx.set j (Da g r)) bc k row (by simpa[Nat.add_right_comm]using h)
   simpa using this
theorem NT{bx:List (List AV)}{is:List Nat}{bc:List (List AV)}(hn:is.Nodup)(hi:∀i∈is,i<bx.length)(hl:is.length≤bc.length):Back bx is bc (DS bx (Du is bx.length) is bc):=by
 refine⟨Vc is bx bc hl,fun i row h1 h2=>?_,fun k i row h1 h2=>?_,fun k row h=>Ve is bx bc k row h⟩
 ·rw[P4 is bx bc i h1 (As.1 h2).1];exact h2
 exact Vd is bx bc k i row hn (hi i (Al h1)) h1 h2
def D7:List AV:=[.v (.int .i64 0), .v (.int .i64 0), .v (.slice none 0 0)]
def D8(t:Tab)(x:AV):List AV:=[.v (.int .i64 t.next), .v (.int .i64 t.nextS),x]
def E0(f:Prc→Prc)(l:List Prc)(j:Nat):List Prc:=(l.take j).map f++l.drop j
def G8(p x:Prc):Prc:=if x.pid=p.pid then p else x
theorem KC(f:Prc→Prc)(l:List Prc)(j:Nat):(E0 f l j).length=l.length:=by
 unfold E0;simp;omega
theorem Rl{f:Prc→Prc}{l:List Prc}{j:Nat}{x:Prc}(h:l[j]?=some x):(E0 f l j)[j]?=some x:=by
 have hl:=(As.1 h).1;unfold E0;rw[Dj (by simp;omega)];simp only[List.length_map,List.length_take,List.getElem?_drop];rw[show j+(j - min j l.length)=j by omega];exact h
theorem Vf{f:Prc→Prc}{l:List Prc}{j:Nat}{x:Prc}(h:l[j]?=some x):(E0 f l j).set j (f x)=E0 f l (j+1):=by
 obtain⟨hl,e⟩:=As.1 h;unfold E0;rw[List.take_add_one,h,List.drop_eq_getElem_cons hl,List.set_append_right _ _ (by simp;omega)];simp only[List.length_map,List.length_take,List.map_append,List.append_assoc];rw[show j - min j l.length=0 by omega];rfl
theorem fB{f:Prc→Prc}{l:List Prc}{j:Nat}{x:Prc}(h:l[j]?=some x)(hf:f x=x):E0 f l j=E0 f l (j+1):=by
 rw[←Vf h,hf];have h2:=Rl (f:=f) h;obtain⟨h3,h4⟩:=As.1 h2;rw[←h4,List.set_getElem_self]
theorem fC(f:Prc→Prc)(l:List Prc):E0 f l l.length=l.map f:=by
 unfold E0;simp
theorem Vg{t:Tab}{pid:Int}{p:Prc}(h:Lm t pid=some p):p∈t.ps:=List.mem_of_find?_eq_some h
theorem G9{t:Tab}(ht:TabB t)(pid:Int):(AW t pid).opens.length≤8:=by
 unfold AW
 cases h:Lm t pid with
 |none=>exact BJ _
 |some p=>exact ht.opens p (Vg h)
theorem KD{t:Tab}{pid:Int}(h:C8 t pid=true):0<t.ps.length:=by
 unfold C8 at h;obtain⟨p,hp⟩:=Option.isSome_iff_exists.1 h;exact List.length_pos_of_mem (Vg hp)
theorem Vh{bx:List (List AV)}{n:Nat}(hn:bx.length=n)(t:Tab)(cap:Nat):Back bx [] [Ax t,D8 t (.bs 3 0 14 t.ps.length cap),D8 t (.bs 3 0 14 t.ps.length cap),LB 14 B1 t.ps cap] (bx++[Ax t,D8 t (.bs (n+3) 0 14 t.ps.length cap),D8 t (.bs (n+3) 0 14 t.ps.length cap),LB 14 B1 t.ps cap]):=by
 subst hn;have:=NT (bx:=bx) (is:=[]) (bc:=[Ax t,D8 t (.bs 3 0 14 t.ps.length cap),D8 t (.bs 3 0 14 t.ps.length cap),LB 14 B1 t.ps cap]) List.nodup_nil (by simp) (by simp);have e1:Da (Du [] bx.length) (Ax t)=Ax t:=rfl;have e2:Da (Du [] bx.length) (D8 t (.bs 3 0 14 t.ps.length cap))=D8 t (.bs (bx.length+3) 0 14 t.ps.length cap):=by simp[Da,D8,FG,Du]
 simpa[DS,Cr Dt,e1,e2]using this
section
theorem NU(p:Prc)(hp:p.opens.length≤1000):AFn prog 107 [.agg (B1 p)] (fun r=>r= .agg (B1 p)):=by
 refine enter Tryz.func107 rfl rfl rfl rfl rfl 0 rfl ?_;refine w_ (b_ (h:=AZ (h:=e_ (w_ (f_ (h:=l_ (h:=?_)))))))
 first|refine A6 rfl (EO rfl rfl rfl (by simp;omega) (by repeat constructor) ?_)|refine A6 rfl (JF rfl rfl (by simp;omega) (by repeat constructor) ?_)
 refine f_ (h:=s_ (h:=e_ (w_ (l_ (h:=s_ (h:=e_ (A4 (?_))))))));refine AJ ?_;rfl
theorem Vi(t:Tab)(ht:TabB t):AFn prog 108 [.agg (Ax t)] (fun r=>r= .agg (Ax t)):=by
 have hfew:=ht.few;refine enter Tryz.func108 rfl rfl rfl rfl rfl 0 rfl ?_;refine w_ (b_ (h:=AZ (h:=e_ (w_ (f_ (h:=l_ (h:=f_ (h:=l_ (h:=AX (h:=AZ (h:=s_ (h:=e_ (q_ (w_ (a_ (h:=e_ (Av (?_))))))))))))))))));refine LG 2 2 61 14 rfl rfl (by repeat constructor) (by repeat constructor) (by repeat constructor) ?_;refine Bq (fun m s=>∃j:Nat,j≤t.ps.length∧m=t.ps.length - j∧s=⟨look [(1, .bp 0 0),(2, .bp 1 0),(3, .bp 2 0),(4, .v (.int .i64 (j:Int)))],⟨[Ax t,D7,D8 t (.sl 14 ((t.ps.take j).map B1) (some 0))],[(61,14,(t.ps.take j).map B1)]⟩⟩) (t.ps.length) ((wk 3 1)) (⟨0,BJ _,rfl,rfl⟩) ?_;rintro m s ⟨j,hj,rfl,rfl⟩;refine q_ (w_ (m_ (h:=f_ (h:=l_ (h:=n_ (h:=BS (h:=e_ (?_))))))));refine A8 rfl (fun hb1=>?_) (fun hb1=>?_)
 ·have hc1:=bp hb1;obtain⟨hlt,p,hy,hrow,e⟩:=Cu B1 hc1;have hop:p.opens.length≤1000:=by have:=ht.opens p (Al hy);omega
  refine AN (q_ (Av (BO ([(0,Ax t),(1,D7),(2,D8 t (.sl 14 ((t.ps.take j).map B1) (some 0)))]) 11 (h:=AG 0 (h:=AM 1 (h:=AG 2 (h:=AM 3 (h:=AO 4 (h:=EC 5 (h:=AM 6 (h:=?_)))))))))));refine c_ 7 rfl (AK (NU p hop) ?_);rintro r rfl;refine o_ (h:=JK 8 (h:=?_));refine c_ 9 rfl (EO rfl rfl rfl (by simp;omega) (by repeat constructor) ?_);refine o_ (h:=AG 10 (h:=?_));refine Aj 11 rfl (Af rfl rfl rfl rfl rfl rfl (by repeat constructor) (by repeat constructor) ?_);refine o_ (h:=z_ (h:=B8 (t_ (AQ (m_ (h:=BH (h:=a_ (h:=AP (?_)))))))));refine AF ?_;refine⟨_,_,?_,⟨j+1,by omega,rfl,rfl⟩,(by rw[e];exact Az 3 1 rfl rfl rfl rfl ((by repeat (first|exact Sub.nil|refine B0 rfl rfl ?_|refine B2 ?_|refine B3 rfl ?_|refine B4 rfl ?_))))⟩;omega
 have hc1:=bp hb1;have e:=D0 B1 hj hc1;subst e;rw[List.take_length];refine BX (Aw (Aw (BY (t_ (w_ (l_ (h:=s_ (h:=e_ (A4 (?_))))))))));refine AJ ?_;rfl
theorem Vj(t:Tab)(ht:TabB t)(h0:0<t.ps.length):ACall prog 108 [.agg (Ax t)] [] (fun r b tk=>tk=[]∧∃cap,t.ps.length≤cap∧r= .agg (D8 t (.bs 3 0 14 t.ps.length cap))∧b=[Ax t,D8 t (.bs 3 0 14 t.ps.length cap),D8 t (.bs 3 0 14 t.ps.length cap),LB 14 B1 t.ps cap]):=by
 have hfew:=ht.few;refine enter Tryz.func108 rfl rfl rfl rfl rfl 4 rfl ?_;refine w_ (b_ (h:=AZ (h:=e_ (w_ (f_ (h:=l_ (h:=f_ (h:=l_ (h:=AX (h:=AZ (h:=s_ (h:=e_ (q_ (w_ (a_ (h:=e_ (Av (?_))))))))))))))))));refine Bq (fun m s=>∃(j:Nat) (acc:List Prc),j≤t.ps.length∧m=t.ps.length - j∧t.ps.take j=acc∧((acc=[]∧s=⟨look [(1, .bp 0 0),(2, .bp 1 0),(3, .bp 2 0),(4, .v (.int .i64 (j:Int)))],⟨[Ax t,D7,D8 t (.v (.slice none 0 0))],[]⟩⟩)∨(∃cap,acc.length≤cap∧s=⟨look [(1, .bp 0 0),(2, .bp 1 0),(3, .bp 2 0),(4, .v (.int .i64 (j:Int)))],⟨[Ax t,D7,D8 t (.bs 3 0 14 acc.length cap),LB 14 B1 acc cap],[]⟩⟩))) (t.ps.length) ((wk 3 0)) (⟨0,[],BJ _,rfl,rfl, .inl ⟨rfl,rfl⟩⟩) ?_;rintro m s ⟨j,acc,hj,rfl,hacc,⟨rfl,rfl⟩|⟨cap,hcp,rfl⟩⟩
 ·skip
  refine q_ (w_ (m_ (h:=f_ (h:=l_ (h:=n_ (h:=BS (h:=e_ (?_))))))));refine A8 rfl (fun hb1=>?_) (fun hb1=>?_)
  ·have hc1:=bp hb1;obtain⟨hlt,p,hy,hrow, -⟩:=Cu B1 hc1;have hk:t.ps.take (j+1)=t.ps.take j++[p]:=by rw[List.take_add_one,hy];rfl
   have hop:p.opens.length≤1000:=by have:=ht.opens p (Al hy);omega
   refine AN (q_ (Av (BO ([(0,Ax t),(1,D7),(2,D8 t (.v (.slice none 0 0)))]) 11 (h:=AG 0 (h:=AM 1 (h:=AG 2 (h:=AM 3 (h:=AO 4 (h:=EC 5 (h:=AM 6 (h:=?_)))))))))));refine c_ 7 rfl (AK (NU p hop) ?_);rintro r rfl;refine o_ (h:=JK 8 (h:=?_));refine c_ 9 rfl (MX rfl rfl JW (by omega) (by omega) ?_);rintro cap2 k bx2 hcp hs;rw[show Ce (.agg (B1 p))++List.replicate ((cap2 - 1) * 14) AV.any=LB 14 B1 [p] cap2 from Vb Dt p cap2]at hs;obtain⟨rfl,rfl⟩:k=3∧bx2=[_,_,_,_]:=hs.eq;refine o_ (h:=?_);refine AG 10 (h:=?_);refine Aj 11 rfl (Af rfl rfl rfl rfl rfl rfl (by repeat constructor) (by repeat constructor) ?_);refine o_ (h:=z_ (h:=B8 (t_ (AQ (m_ (h:=BH (h:=a_ (h:=AP (?_)))))))));refine AF ?_;exact⟨t.ps.length - (j+1),_,by omega,⟨j+1,[p],by omega,rfl,(by rw[hk,hacc];rfl), .inr ⟨cap2,hcp,rfl⟩⟩,Az 4 0 rfl rfl rfl (by simp[Ai,Ac,Ab,Bj Dt,Ax,D8,D7]) ((by repeat (first|exact Sub.nil|refine B0 rfl rfl ?_|refine B2 ?_|refine B3 rfl ?_|refine B4 rfl ?_)))⟩
  have hc1:=bp hb1;exfalso;have e:=D0 B1 hj hc1;rw[e,List.take_length]at hacc;rw[hacc]at h0;exact absurd h0 (by simp)
 skip
 refine q_ (w_ (m_ (h:=f_ (h:=l_ (h:=n_ (h:=BS (h:=e_ (?_))))))));refine A8 rfl (fun hb2=>?_) (fun hb2=>?_)
 ·have hc2:=bp hb2;obtain⟨hlt,p,hy,hrow, -⟩:=Cu B1 hc2;have hk:t.ps.take (j+1)=t.ps.take j++[p]:=by rw[List.take_add_one,hy];rfl
  have hop:p.opens.length≤1000:=by have:=ht.opens p (Al hy);omega
  refine AN (q_ (Av (BO ([(0,Ax t),(1,D7),(2,D8 t (.bs 3 0 14 acc.length cap))]) 11 (h:=AG 0 (h:=AM 1 (h:=AG 2 (h:=AM 3 (h:=AO 4 (h:=EC 5 (h:=AM 6 (h:=?_)))))))))));refine c_ 7 rfl (AK (NU p hop) ?_);rintro r rfl;refine o_ (h:=JK 8 (h:=?_));refine c_ 9 rfl (LH rfl rfl rfl (by rw[NR Dt hcp];omega) JW (by omega) (by have:=congrArg List.length hacc;simp at this;omega) ?_ ?_)
  ·rintro hg row2 bx2 hs hb;obtain rfl:=Rk Dt hs hg;obtain rfl:bx2=[_,_,_,_]:=hb.one.2;refine o_ (h:=?_);refine AG 10 (h:=?_);refine Aj 11 rfl (Af rfl rfl rfl rfl rfl rfl (by repeat constructor) (by repeat constructor) ?_);refine o_ (h:=z_ (h:=B8 (t_ (AQ (m_ (h:=BH (h:=a_ (h:=AP (?_)))))))));refine AF ?_;exact⟨t.ps.length - (j+1),_,by omega,⟨j+1,acc++[p],by omega,rfl,(by rw[hk,hacc]), .inr ⟨cap,by simpa using hg,by rw[List.length_append];rfl⟩⟩,Az 4 0 rfl rfl rfl (by simp[Ai,Ac,Ab,Bj Dt,Ax,D8,D7]) ((by repeat (first|exact Sub.nil|refine B0 rfl rfl ?_|refine B2 ?_|refine B3 rfl ?_|refine B4 rfl ?_)))⟩
  rintro hg cap3 k bx2 hcp3 hs;rw[show((LB 14 B1 acc cap).drop 0).take (acc.length * 14)++Ce (.agg (B1 p))++List.replicate ((cap3 - (acc.length+1)) * 14) AV.any=LB 14 B1 (acc++[p]) cap3 from Rj Dt acc p cap cap3]at hs;obtain⟨rfl,rfl⟩:k=4∧bx2=[_,_,_,_,_]:=hs.eq;refine o_ (h:=?_);refine AG 10 (h:=?_);refine Aj 11 rfl (Af rfl rfl rfl rfl rfl rfl (by repeat constructor) (by repeat constructor) ?_);refine o_ (h:=z_ (h:=B8 (t_ (AQ (m_ (h:=BH (h:=a_ (h:=AP (?_)))))))));refine AF ?_
  first|exact⟨t.ps.length - (j+1),_,by omega,⟨j+1,acc++[p],by omega,rfl,(by rw[hk,hacc]), .inr ⟨cap,by simpa using hg,by rw[List.length_append];rfl⟩⟩,Az 4 0 rfl rfl rfl (by simp[Ai,Ac,Ab,Bj Dt,Ax,D8,D7]) ((by repeat (first|exact Sub.nil|refine B0 rfl rfl ?_|refine B2 ?_|refine B3 rfl ?_|refine B4 rfl ?_)))⟩|exact⟨t.ps.length - (j+1),_,by omega,⟨j+1,acc++[p],by omega,rfl,(by rw[hk,hacc]), .inr ⟨cap3,by simpa using hcp3,by rw[List.length_append];rfl⟩⟩,EB [0,1,2,4] (fun i hi=>absurd hi (Nat.not_lt_zero i)) (by decide) (.cons _ _ _ _ _ rfl rfl (.cons _ _ _ _ _ rfl rfl (.cons _ _ _ _ _ rfl rfl (.cons _ _ _ _ _ rfl (H7 Dt _ _ _) .nil)))) (by repeat (first|exact SubK.nil|refine SubK.cons _ _ _ _ rfl (A9 _) ?_))⟩
 have hc2:=bp hb2;have e:=D0 B1 hj hc2;refine BX (Aw (Aw (BY (t_ (w_ (l_ (h:=s_ (h:=e_ (A4 (?_))))))))));rw[e,List.take_length]at hacc;subst hacc;refine Am (r:= .agg (D8 t (.bs 3 0 14 t.ps.length cap))) none (h4:=(by simp[Ai,Ac,Ab,Bj Dt,Ax,D8])) (h5:=(A9 _)) (h6:=⟨rfl,cap,hcp,rfl,rfl⟩)
theorem GA(t:Tab)(pid:Int)(ht:TabB t):AFn prog 63 [.agg (Ax t), .v (.int .i64 pid)] (fun r=>r= .tup [.agg (B1 (AW t pid)), .v (.bool (C8 t pid))]):=by
 have hfew:=ht.few;refine enter Tryz.func63 rfl rfl rfl rfl rfl 0 rfl ?_;refine w_ (b_ (h:=AZ (h:=a_ (h:=e_ (q_ (w_ (a_ (h:=e_ (Av (?_))))))))));refine Bq (fun m s=>∃j:Nat,j≤t.ps.length∧m=t.ps.length - j∧(∀i y,i<j→t.ps[i]?=some y→decide (y.pid=pid)=false)∧s=⟨look [(1, .v (.int .i64 pid)),(2, .bp 0 0),(4, .bp 1 0),(6, .v (.int .i64 (j:Int)))],⟨[Ax t,[.v (.int .i64 0), .v (.int .i64 0), .v (.int .i64 0), .v (.int .i64 0), .v (.int .i64 0), .v (.int .i64 0), .v (.int .i64 0), .v (.int .i64 0), .v (.int .i64 0), .v (.int .i64 0), .v (.string ⟨#[]⟩), .v (.string ⟨#[]⟩), .v (.slice none 0 0), .v (.bool false)]],[]⟩⟩) (t.ps.length) ((wk 2 0)) (⟨0,BJ _,rfl,fun i y hi=>by omega,rfl⟩) ?_;rintro m s ⟨j,hj,rfl,ha,rfl⟩;refine q_ (w_ (m_ (h:=f_ (h:=l_ (h:=n_ (h:=BS (h:=e_ (?_))))))));refine A8 rfl (fun hb1=>?_) (fun hb1=>?_)
 ·have hc1:=bp hb1;obtain⟨hlt,p,hy,hrow, -⟩:=Cu B1 hc1;have hop:p.opens.length≤1000:=by have:=ht.opens p (Al hy);omega
  refine AN (q_ (Av (w_ (f_ (h:=l_ (h:=m_ (h:=i_ (h:=f_ (h:=l_ (h:=m_ (h:=AR (h:=e_ (?_)))))))))))));refine A8 rfl (fun hb2=>?_) (fun hb2=>?_)
  ·have hc2:=bp hb2;have hg:Lm t pid=some p:=Hu hy (decide_eq_true hc2) ha;refine w_ (f_ (h:=l_ (h:=m_ (h:=i_ (h:=l_ (h:=?_))))));refine A6 rfl (AK (NU p hop) ?_);rintro r rfl;refine s_ (h:=a_ (h:=e_ (A4 (AY (A7 (A7 (AY (A7 (?_)))))))));refine AJ ?_;rw[AW,C8,hg];rfl
  have hc2:=bp hb2;refine BM (B8 (t_ (AQ (m_ (h:=BH (h:=a_ (h:=AP (?_))))))));refine AF ?_;refine⟨_,_,?_,⟨j+1,by omega,rfl,EP hy ha (decide_eq_false hc2),rfl⟩,(wk 2 0)⟩;omega
 have hc1:=bp hb1;have e:=D0 B1 hj hc1;subst e;have hg:Lm t pid=none:=Hv ha;refine BX (Aw (Aw (BY (t_ (w_ (AX (h:=s_ (h:=a_ (h:=e_ (A4 (?_)))))))))));refine Am (r:= .tup [.agg (B1 (AW t pid)), .v (.bool (C8 t pid))]) none (h5:=?_) (h6:=⟨rfl,rfl,rfl⟩);rw[AW,C8,hg];exact(by repeat (first|exact A9 _|exact LeA.nil _|exact LeL.refl _|refine LeA.agg ?_|refine LeA.tup ?_|exact LeL.nil|refine LeL.cons ?_ ?_|exact LeA.any _))
theorem Kq(t:Tab)(p:Prc)(ht:TabB t)(h0:0<t.ps.length)(hp:p.opens.length≤1000):AFn prog 188 [.agg (Ax t), .agg (B1 p)] (fun r=>r= .agg (Ax (Fh t p))):=by
 have hfew:=ht.few;refine enter Tryz.func188 rfl rfl rfl rfl rfl 0 rfl ?_;refine w_ (b_ (h:=b_ (h:=AZ (h:=e_ (?_)))));refine BE (fun s=>∃cap,t.ps.length≤cap∧s=⟨look [(3, .bp 1 0),(4, .bp 2 0),(5, .bp 3 0)],⟨[Ax t,B1 p,D7,D8 t (.bs 4 0 14 (E0 (G8 p) t.ps 0).length cap),LB 14 B1 (E0 (G8 p) t.ps 0) cap],[]⟩⟩) ?_ ?_
 ·skip
  refine AQ (l_ (h:=?_));refine A6 rfl (Bf [] rfl (.cons _ _ _ _ _ rfl (A9 _) .nil) (by decide) .nil (Vj t ht h0) ?_);rintro r bc tc ⟨rfl,cap,hcap,rfl,rfl⟩;refine⟨rfl,_,(Vh (n:=3) rfl t cap:Back _ [] _ [_,_,_,_,_,_,_]),?_⟩;refine AZ (h:=s_ (h:=AP (?_)));refine AF ?_;exact⟨_,⟨cap,hcap,rfl⟩,EB [0,1,2,7,6] (fun i hi=>absurd hi (Nat.not_lt_zero i)) (by decide) (.cons _ _ _ _ _ rfl rfl (.cons _ _ _ _ _ rfl rfl (.cons _ _ _ _ _ rfl rfl (.cons _ _ _ _ _ rfl (by rw[KC];rfl) (.cons _ _ _ _ _ rfl (H7 Dt _ _ _) .nil))))) (by repeat (first|exact SubK.nil|refine SubK.cons _ _ _ _ rfl (A9 _) ?_))⟩
 rintro s ⟨cap,hcap,rfl⟩;refine BE (fun s=>s=⟨look [(4, .bp 2 0),(5, .bp 3 0)],⟨[Ax t,B1 p,D7,Ax (Fh t p)],[]⟩⟩) ?_ ?_
 ·skip
  refine w_ (a_ (h:=e_ (Av (?_))));refine Bq (fun m s=>∃j:Nat,j≤t.ps.length∧m=t.ps.length - j∧s=⟨look [(3, .bp 1 0),(4, .bp 2 0),(5, .bp 3 0),(6, .v (.int .i64 (j:Int)))],⟨[Ax t,B1 p,D7,D8 t (.bs 4 0 14 (E0 (G8 p) t.ps j).length cap),LB 14 B1 (E0 (G8 p) t.ps j) cap],[]⟩⟩) (t.ps.length) (Bl 5 0 (by simp[Ai,Ac,Ab,Bj Dt,Ax,D8,D7,B1])) (⟨0,BJ _,rfl,rfl⟩) ?_;rintro m s ⟨j,hj,rfl,rfl⟩;refine q_ (w_ (m_ (h:=f_ (h:=l_ (h:=?_)))));refine A6 rfl (Q6 rfl ?_);refine BS (h:=e_ (?_));refine A8 rfl (fun hb1=>?_) (fun hb1=>?_)
  ·have hc1:=bp hb1;have hlt:j<t.ps.length:=by rw[KC]at hc1;omega
   obtain⟨x,hy⟩:∃x,t.ps[j]?=some x:=⟨_,B9 hlt⟩;have hl1:j<(E0 (G8 p) t.ps j).length:=by rw[KC];exact hlt
   refine AN (q_ (Av (q_ (E4 9 (h:=AG 0 (h:=AM 1 (h:=AO 2 (h:=?_))))))));refine GG (i:=3) rfl (DZ (m:=j) rfl rfl rfl hl1 ⟨rfl,rfl⟩) ?_;refine AG 4 (h:=?_);refine GG (i:=5) rfl (DK rfl rfl (fA Dt (Rl hy) rfl) ⟨rfl,rfl⟩) ?_;refine AG 6 (h:=AM 7 (h:=JM 8 (h:=z_ (h:=t_ (?_)))));refine A8 rfl (fun hb2=>?_) (fun hb2=>?_)
   ·have hc2:=bp hb2;have hu:(E0 (G8 p) t.ps j).set j p=E0 (G8 p) t.ps (j+1):=by rw[←Vf hy,G8,if_pos hc2]
    refine AQ (f_ (h:=l_ (h:=m_ (h:=l_ (h:=?_)))));refine A6 rfl (DZ (m:=j) rfl rfl rfl hl1 ?_);refine KQ (Af rfl rfl rfl rfl rfl rfl (Va Dt (x':=p) (Rl hy)) (by repeat constructor) ?_);refine AP (B8 (t_ (AQ (m_ (h:=BH (h:=a_ (h:=AP (?_))))))));refine AF ?_;exact⟨t.ps.length - (j+1),_,by omega,⟨j+1,by omega,rfl,rfl⟩,(by first|(rw[hu,show(E0 (G8 p) t.ps j).length=(E0 (G8 p) t.ps (j+1)).length by rw[KC,KC]];exact Bl 5 0 (by simp[Ai,Ac,Ab,Bj Dt,Ax,D8,D7,B1]))|(rw[hu];exact Bl 5 0 (by simp[Ai,Ac,Ab,Bj Dt,Ax,D8,D7,B1])))⟩
   have hc2:=bp hb2;have hu:E0 (G8 p) t.ps j=E0 (G8 p) t.ps (j+1):=fB hy (if_neg hc2);refine BM (B8 (t_ (AQ (m_ (h:=BH (h:=a_ (h:=AP (?_))))))));refine AF ?_;exact⟨t.ps.length - (j+1),_,by omega,⟨j+1,by omega,rfl,rfl⟩,(by first|(rw[hu,show(E0 (G8 p) t.ps j).length=(E0 (G8 p) t.ps (j+1)).length by rw[KC,KC]];exact Bl 5 0 (by simp[Ai,Ac,Ab,Bj Dt,Ax,D8,D7,B1]))|(rw[hu];exact Bl 5 0 (by simp[Ai,Ac,Ab,Bj Dt,Ax,D8,D7,B1])))⟩
  have hc1:=bp hb1;obtain rfl:j=t.ps.length:=by rw[KC]at hc1;omega
  rw[fC];refine BX (Aw (Aw (BY (?_))));refine AF ?_;exact⟨_,rfl,FJ 4 1 rfl (congrArg (fun x=>[Ax t,B1 p,D7,[.v (.int .i64 t.next), .v (.int .i64 t.nextS),x]]) (Ko Dt rfl rfl (by rw[List.length_map];exact hcap))) (.cons _ _ _ _ rfl (A9 _) (.cons _ _ _ _ rfl (A9 _) .nil))⟩
 rintro s rfl;refine w_ (l_ (h:=s_ (h:=e_ (A4 (?_)))));refine AJ ?_;rfl
end
def Kr(r:AD×Int×Int×Int×Int):List AV:=[.v (.string r.1), .v (.int .i64 r.2.1), .v (.int .i64 r.2.2.1), .v (.int .i64 r.2.2.2.1), .v (.int .i64 r.2.2.2.2)]
theorem fD{a b:Nat}(h:a<b):Nat.blt a b=true:=by rw[Nat.blt_eq];exact h
theorem fE{c:Cal}{j:Nat}(h:j<4):∃x,(Lo c)[j]?=some x∧(Dc c)[1+j]?=some (.v (.int .i64 x)):=by
 match j,h with
 |0,_=>exact⟨_,rfl,rfl⟩
 |1,_=>exact⟨_,rfl,rfl⟩
 |2,_=>exact⟨_,rfl,rfl⟩
 |3,_=>exact⟨_,rfl,rfl⟩
theorem fF{l:List Int}{n j:Nat}{x:Int}(hn:n≤j)(hy:l[j]?=some x)(hx:x≠0):((l.drop n).any fun x=>decide (x≠0))=true:=by
 rw[List.any_eq_true];refine⟨x,?_,by simpa using hx⟩;refine Al (i:=j - n) ?_;rw[List.getElem?_drop,show n+(j - n)=j by omega];exact hy
theorem fG{l:List Int}{n:Nat}(h:∀i x,n≤i→l[i]?=some x→x=0):((l.drop n).any fun x=>decide (x≠0))=false:=by
 rw[List.any_eq_false];intro x hx;obtain⟨i,hi⟩:=List.mem_iff_getElem?.1 hx;rw[List.getElem?_drop]at hi;simp[h _ x (Nat.le_add_right n i) hi]
theorem Vk(n:Int):0≤(Br n).2.1∧(Br n).2.1≤2:=by
 unfold Br;split
 ·decide
 rename_i h;obtain⟨m,rfl⟩:=Int.eq_ofNat_of_zero_le (show 0≤n by omega);have hm:m<22:=by omega
 have key:∀m,m<22→0≤((EU[m]?).getD (⟨#[]⟩,0,0,0,0)).2.1∧((EU[m]?).getD (⟨#[]⟩,0,0,0,0)).2.1≤2:=by decide
 exact key m hm
section
theorem Vl(n:Nod)(euid egid want:Int):AFn prog 187 [.agg (Ak n), .v (.int .i64 euid), .v (.int .i64 egid), .v (.int .i64 want)] (fun r=>r= .v (.bool (F8 n euid egid want))):=by
 refine enter Tryz.func187 rfl rfl rfl rfl rfl 0 rfl ?_;refine w_ (b_ (h:=a_ (h:=e_ (q_ (w_ (m_ (h:=BS (h:=m_ (h:=?_)))))))));refine B5 false rfl rfl (fun hb1=>?_) (fun hb1=>?_)
 ·have hc1:=bp hb1;refine A3 (h:=A3 (h:=Ag (h:=e_ (C2 (h:=w_ (a_ (h:=e_ (A4 (A7 (?_))))))))));refine AJ ?_
  first|(exfalso;first|contradiction|omega)|(exact vb (by first|(simp[F8,FP, *];done)|(simp[F8,FP, *];intro h;exact absurd ((by assumption:euid=n.uid).trans h) (by assumption))))
 have hc1:=bp hb1;refine m_ (h:=Ck (h:=Ar (h:=e_ (?_))));refine A8 rfl (fun hb2=>?_) (fun hb2=>?_)
 ·have hc2:=bp hb2;refine w_ (a_ (h:=e_ (A4 (A7 (?_)))));refine AJ ?_
  first|(exfalso;first|contradiction|omega)|(exact vb (by first|(simp[F8,FP, *];done)|(simp[F8,FP, *];intro h;exact absurd ((by assumption:euid=n.uid).trans h) (by assumption))))
 have hc2:=bp hb2;refine AN (q_ (w_ (m_ (h:=AR (h:=e_ (?_))))));refine A8 rfl (fun hb3=>?_) (fun hb3=>?_)
 ·have hc3:=bp hb3;refine w_ (m_ (h:=Em (h:=AR (h:=m_ (h:=?_)))));refine B5 false rfl rfl (fun hb4=>?_) (fun hb4=>?_)
  ·have hc4:=bp hb4;refine A3 (h:=A3 (h:=A3 (h:=Ag (h:=m_ (h:=A3 (h:=A3 (h:=A3 (h:=A3 (h:=Ag (h:=a_ (h:=e_ (A4 (A7 (?_))))))))))))));refine AJ ?_
   first|(exfalso;first|contradiction|omega)|(exact vb (by first|(simp[F8,FP, *];done)|(simp[F8,FP, *];intro h;exact absurd ((by assumption:euid=n.uid).trans h) (by assumption))))
  have hc4:=bp hb4;refine f_ (h:=l_ (h:=AR (h:=Ar (h:=m_ (h:=?_)))));refine B5 false rfl rfl (fun hb5=>?_) (fun hb5=>?_)
  ·have hc5:=bp hb5;refine A3 (h:=A3 (h:=A3 (h:=A3 (h:=Ag (h:=a_ (h:=e_ (A4 (A7 (?_)))))))));refine AJ ?_
   first|(exfalso;first|contradiction|omega)|(exact vb (by first|(simp[F8,FP, *];done)|(simp[F8,FP, *];intro h;exact absurd ((by assumption:euid=n.uid).trans h) (by assumption))))
  have hc5:=bp hb5;refine f_ (h:=l_ (h:=Em (h:=BV (h:=Ar (h:=a_ (h:=e_ (A4 (A7 (?_)))))))));refine AJ ?_
  first|(exfalso;first|contradiction|omega)|(exact vb (by first|(simp[F8,FP, *];done)|(simp[F8,FP, *];intro h;exact absurd ((by assumption:euid=n.uid).trans h) (by assumption))))
 have hc3:=bp hb3;refine AN (w_ (f_ (h:=l_ (h:=Em (h:=a_ (h:=e_ (q_ (w_ (m_ (h:=f_ (h:=l_ (h:=AR (h:=e_ (?_))))))))))))));refine A8 rfl (fun hb6=>?_) (fun hb6=>?_)
 ·have hc6:=bp hb6;refine AQ (f_ (h:=l_ (h:=TW (h:=Em (h:=a_ (h:=e_ (w_ (m_ (h:=m_ (h:=Em (h:=m_ (h:=AR (h:=a_ (h:=e_ (A4 (?_))))))))))))))));refine AJ ?_
  first|(exfalso;first|contradiction|omega)|(exact vb (by first|(simp[F8,FP, *];done)|(simp[F8,FP, *];intro h;exact absurd ((by assumption:euid=n.uid).trans h) (by assumption))))
 have hc6:=bp hb6;refine w_ (m_ (h:=f_ (h:=l_ (h:=AR (h:=e_ (?_))))));refine A8 rfl (fun hb7=>?_) (fun hb7=>?_)
 ·have hc7:=bp hb7;refine AQ (f_ (h:=l_ (h:=TW (h:=Em (h:=a_ (h:=e_ (w_ (m_ (h:=m_ (h:=Em (h:=m_ (h:=AR (h:=a_ (h:=e_ (A4 (?_))))))))))))))));refine AJ ?_
  first|(exfalso;first|contradiction|omega)|(exact vb (by first|(simp[F8,FP, *];done)|(simp[F8,FP, *];intro h;exact absurd ((by assumption:euid=n.uid).trans h) (by assumption))))
 have hc7:=bp hb7;refine AN (w_ (m_ (h:=m_ (h:=Em (h:=m_ (h:=AR (h:=a_ (h:=e_ (A4 (?_))))))))));refine AJ ?_
 first|(exfalso;first|contradiction|omega)|(exact vb (by first|(simp[F8,FP, *];done)|(simp[F8,FP, *];intro h;exact absurd ((by assumption:euid=n.uid).trans h) (by assumption))))
theorem Rm(n:Int):AFn prog 113 [.v (.int .i64 n)] (fun r=>r= .v (.bool (NM n))):=by
 refine enter Tryz.func113 rfl rfl rfl rfl rfl 0 rfl ?_;refine w_ (a_ (h:=e_ (w_ (m_ (h:=GL (h:=m_ (h:=?_)))))));refine B5 true rfl rfl (fun hb1=>?_) (fun hb1=>?_)
 ·have hc1:=bp hb1;refine m_ (h:=Ma (h:=Ag (h:=a_ (h:=e_ (A4 (?_))))));refine AJ ?_
  first|(exfalso;first|contradiction|omega)|(exact vb (by simp[NM, *]))
 have hc1:=bp hb1;refine A3 (h:=A3 (h:=Ar (h:=a_ (h:=e_ (A4 (?_))))));refine AJ ?_
 first|(exfalso;first|contradiction|omega)|(exact vb (by simp[NM, *]))
theorem Vm:AFn prog 148 [] (fun r=>r= .sl 5 (EU.map Kr) none):=by
 refine enter Tryz.func148 rfl rfl rfl rfl rfl 0 rfl ?_;refine w_ (a_ (h:=e_ (w_ (AX (h:=AX (h:=AX (h:=AX (h:=AX (h:=AX (h:=AX (h:=AX (h:=AX (h:=AX (h:=AX (h:=AX (h:=AX (h:=AX (h:=AX (h:=AX (h:=AX (h:=AX (h:=AX (h:=AX (h:=?_))))))))))))))))))))))));refine AX (h:=AX (h:=Bw (h:=a_ (h:=e_ (A4 (?_))))));refine AJ ?_;rfl
theorem fH:AFn prog 147 [] (fun r=>r= .v (.int .i64 22)):=by
 refine enter Tryz.func147 rfl rfl rfl rfl rfl 0 rfl ?_;refine w_ (a_ (h:=e_ (w_ (?_))));refine A6 rfl (AK (Vm) ?_);rintro r rfl;refine n_ (h:=a_ (h:=e_ (A4 (?_))));refine AJ ?_;rfl
theorem Vn(n:Int):AFn prog 109 [.v (.int .i64 n)] (fun r=>r= .agg (Kr (Br n))):=by
 refine enter Tryz.func109 rfl rfl rfl rfl rfl 0 rfl ?_;refine w_ (AZ (h:=e_ (q_ (w_ (m_ (h:=BS (h:=m_ (h:=?_))))))));refine B5 false rfl rfl (fun hb1=>?_) (fun hb1=>?_)
 ·have hc1:=bp hb1;refine A3 (h:=A3 (h:=A3 (h:=Ag (h:=e_ (C2 (h:=w_ (AX (h:=s_ (h:=e_ (A4 (A7 (?_))))))))))));refine AJ ?_;rw[Br,if_pos (by omega)];rfl
 have hc1:=bp hb1;refine m_ (h:=?_);refine BB (AK (fH) ?_);rintro r rfl;refine GL (h:=Ar (h:=e_ (?_)));refine A8 rfl (fun hb2=>?_) (fun hb2=>?_)
 ·have hc2:=bp hb2;refine w_ (AX (h:=s_ (h:=e_ (A4 (A7 (?_))))));refine AJ ?_;rw[Br,if_pos (by omega)];rfl
 have hc2:=bp hb2;refine AN (w_ (?_));refine A6 rfl (AK (Vm) ?_);rintro r rfl;obtain⟨m,rfl⟩:=Int.eq_ofNat_of_zero_le (show 0≤n by omega);obtain⟨row,hrow⟩:∃row,EU[m]?=some row:=⟨EU[m]'(by show m<22;omega),B9 (by show m<22;omega)⟩;have hrow2:(EU.map Kr)[m]?=some (Kr row):=by rw[List.getElem?_map,hrow];rfl
 refine m_ (h:=?_);refine A6 rfl (Ci (n:=m) rfl rfl rfl hrow2 ?_);refine l_ (h:=s_ (h:=e_ (A4 (?_))));refine AJ ?_;rw[Br,if_neg (by omega),Int.toNat_natCast,hrow];rfl
theorem Rn(c:Cal)(hp:c.paths.length≤1000)(ha:c.args.length≤1000):AFn prog 65 [.agg (Dc c)] (fun r=>r= .v (.int .i64 (Bi c))):=by
 obtain⟨n0,hn0⟩:=Int.eq_ofNat_of_zero_le (Vk c.num).1;have hpl:(c.paths.map DL).length=c.paths.length:=List.length_map _;have hal:(c.args.map DL).length=c.args.length:=List.length_map _;have hn2:n0≤2:=by have:=(Vk c.num).2;omega
 refine enter Tryz.func65 rfl rfl rfl rfl rfl 0 rfl ?_;refine w_ (b_ (h:=a_ (h:=e_ (w_ (f_ (h:=l_ (h:=?_)))))));refine A6 rfl (AK (Vn c.num) ?_);rintro r rfl;refine AZ (h:=s_ (h:=e_ (q_ (w_ (f_ (h:=l_ (h:=AR (h:=e_ (?_)))))))));refine A8 rfl (fun hb1=>?_) (fun hb1=>?_)
 ·have hc1:=bp hb1;refine w_ (a_ (h:=e_ (A4 (A7 (?_)))));refine AJ ?_
  first|(exfalso;first|contradiction|omega)|(exact vi (by first|(rw[Bi,if_pos hc1];done)|(rw[Bi,if_neg hc1,if_pos hany];done)|(rw[Bi,if_neg hc1,if_neg (by rw[hany];simp),if_pos (by omega)];done)|(rw[Bi,if_neg hc1,if_neg (by rw[hany];simp),if_neg (by omega),if_pos hany2];done)|(rw[Bi,if_neg hc1,if_neg (by rw[hany];simp),if_neg (by omega),if_neg (by rw[hany2];simp),if_pos hany3];done)|(rw[Bi,if_neg hc1,if_neg (by rw[hany];simp),if_neg (by omega),if_neg (by rw[hany2];simp),if_neg (by rw[hany3];simp)];done)))
 have hc1:=bp hb1;refine AN (q_ (w_ (f_ (h:=l_ (h:=a_ (h:=e_ (Av (?_))))))));refine Bq (fun m s=>∃j:Nat,n0≤j∧j≤4∧m=4 - j∧(∀i x,n0≤i→i<j→(Lo c)[i]?=some x→x=0)∧s=⟨look [(1, .bp 0 0),(3, .bp 1 0),(4, .v (.int .i64 (j:Int)))],⟨[Dc c,Kr (Br c.num)],[]⟩⟩) (4 - n0) (by rw[←hn0];exact(wk 2 0)) (⟨n0,BA _,by omega,rfl,fun i x h1 h2=>by omega,rfl⟩) ?_;rintro m s ⟨j,hlo,hj,rfl,hz,rfl⟩;refine q_ (w_ (m_ (h:=BS (h:=e_ (?_)))));refine A8 rfl (fun hb2=>?_) (fun hb2=>?_)
 ·have hc2:=bp hb2;obtain⟨x,hy,hrx⟩:=fE (c:=c) (j:=j) (by omega);refine AN (q_ (Av (w_ (m_ (h:=f_ (h:=?_))))));refine A6 rfl (CR (len:=4) (sz:=1) (n:=j) (by kernel_rfl) rfl rfl rfl (fD (by omega)) ?_);refine A6 rfl (DK rfl rfl (by rw[show 1+j * 1=1+j by omega];exact hrx) ?_);refine BV (h:=e_ (?_));refine A8 rfl (fun hb3=>?_) (fun hb3=>?_)
  ·have hc3:=bp hb3;have hany:(((Lo c).drop (Br c.num).2.1.toNat).any fun x=>decide (x≠0))=true:=by rw[hn0,Int.toNat_natCast];exact fF hlo hy hc3
   refine w_ (a_ (h:=e_ (A4 (AY (A7 (A7 (AY (A7 (?_)))))))));refine AJ ?_
   first|(exfalso;first|contradiction|omega)|(exact vi (by first|(rw[Bi,if_pos hc1];done)|(rw[Bi,if_neg hc1,if_pos hany];done)|(rw[Bi,if_neg hc1,if_neg (by rw[hany];simp),if_pos (by omega)];done)|(rw[Bi,if_neg hc1,if_neg (by rw[hany];simp),if_neg (by omega),if_pos hany2];done)|(rw[Bi,if_neg hc1,if_neg (by rw[hany];simp),if_neg (by omega),if_neg (by rw[hany2];simp),if_pos hany3];done)|(rw[Bi,if_neg hc1,if_neg (by rw[hany];simp),if_neg (by omega),if_neg (by rw[hany2];simp),if_neg (by rw[hany3];simp)];done)))
  have hc3:=bp hb3;have hx0:x=0:=by simpa using hc3
  refine BM (B8 (t_ (AQ (m_ (h:=BH (h:=a_ (h:=AP (?_))))))));refine AF ?_
  refine⟨_,_,?_,⟨j+1,by omega,by omega,rfl,(fun i x h1 h2 h3=>by
   by_cases e:i=j
   ·subst e;rw[hy]at h3;injection h3 with h3;rw[←h3];exact hx0
   exact hz i x h1 (by omega) h3),rfl⟩,(wk 2 0)⟩
  omega
 have hc2:=bp hb2
 have hany:(((Lo c).drop (Br c.num).2.1.toNat).any fun x=>decide (x≠0))=false:=by
  rw[hn0,Int.toNat_natCast];refine fG fun i x h1 h2=>hz i x h1 ?_ h2;have:=(As.1 h2).1;have h4:(Lo c).length=4:=rfl;omega
 refine BX (Aw (Aw (BY (t_ (q_ (w_ (f_ (h:=l_ (h:=n_ (h:=f_ (h:=l_ (h:=BV (h:=m_ (h:=?_))))))))))))));refine B5 false rfl rfl (fun hb4=>?_) (fun hb4=>?_)
 ·have hc4:=bp hb4;refine A3 (h:=A3 (h:=A3 (h:=A3 (h:=A3 (h:=A3 (h:=Ag (h:=m_ (h:=A3 (h:=A3 (h:=A3 (h:=A3 (h:=A3 (h:=A3 (h:=Ag (h:=e_ (C2 (h:=w_ (a_ (h:=e_ (A4 (A7 (?_))))))))))))))))))))));refine AJ ?_
  first|(exfalso;first|contradiction|omega)|(exact vi (by first|(rw[Bi,if_pos hc1];done)|(rw[Bi,if_neg hc1,if_pos hany];done)|(rw[Bi,if_neg hc1,if_neg (by rw[hany];simp),if_pos (by omega)];done)|(rw[Bi,if_neg hc1,if_neg (by rw[hany];simp),if_neg (by omega),if_pos hany2];done)|(rw[Bi,if_neg hc1,if_neg (by rw[hany];simp),if_neg (by omega),if_neg (by rw[hany2];simp),if_pos hany3];done)|(rw[Bi,if_neg hc1,if_neg (by rw[hany];simp),if_neg (by omega),if_neg (by rw[hany2];simp),if_neg (by rw[hany3];simp)];done)))
 have hc4:=bp hb4;refine f_ (h:=l_ (h:=n_ (h:=f_ (h:=l_ (h:=BS (h:=Ar (h:=m_ (h:=?_))))))));refine B5 false rfl rfl (fun hb5=>?_) (fun hb5=>?_)
 ·have hc5:=bp hb5;refine A3 (h:=A3 (h:=A3 (h:=A3 (h:=A3 (h:=A3 (h:=Ag (h:=e_ (C2 (h:=w_ (a_ (h:=e_ (A4 (A7 (?_))))))))))))));refine AJ ?_
  first|(exfalso;first|contradiction|omega)|(exact vi (by first|(rw[Bi,if_pos hc1];done)|(rw[Bi,if_neg hc1,if_pos hany];done)|(rw[Bi,if_neg hc1,if_neg (by rw[hany];simp),if_pos (by omega)];done)|(rw[Bi,if_neg hc1,if_neg (by rw[hany];simp),if_neg (by omega),if_pos hany2];done)|(rw[Bi,if_neg hc1,if_neg (by rw[hany];simp),if_neg (by omega),if_neg (by rw[hany2];simp),if_pos hany3];done)|(rw[Bi,if_neg hc1,if_neg (by rw[hany];simp),if_neg (by omega),if_neg (by rw[hany2];simp),if_neg (by rw[hany3];simp)];done)))
 have hc5:=bp hb5;refine f_ (h:=l_ (h:=n_ (h:=f_ (h:=l_ (h:=Ck (h:=Ar (h:=e_ (?_))))))));refine A8 rfl (fun hb6=>?_) (fun hb6=>?_)
 ·have hc6:=bp hb6;refine w_ (a_ (h:=e_ (A4 (A7 (?_)))));refine AJ ?_
  first|(exfalso;first|contradiction|omega)|(exact vi (by first|(rw[Bi,if_pos hc1];done)|(rw[Bi,if_neg hc1,if_pos hany];done)|(rw[Bi,if_neg hc1,if_neg (by rw[hany];simp),if_pos (by omega)];done)|(rw[Bi,if_neg hc1,if_neg (by rw[hany];simp),if_neg (by omega),if_pos hany2];done)|(rw[Bi,if_neg hc1,if_neg (by rw[hany];simp),if_neg (by omega),if_neg (by rw[hany2];simp),if_pos hany3];done)|(rw[Bi,if_neg hc1,if_neg (by rw[hany];simp),if_neg (by omega),if_neg (by rw[hany2];simp),if_neg (by rw[hany3];simp)];done)))
 have hc6:=bp hb6;refine AN (q_ (w_ (a_ (h:=e_ (Av (?_))))));refine Bq (fun m s=>∃j:Nat,j≤c.paths.length∧m=c.paths.length - j∧(∀i y,i<j→c.paths[i]?=some y→decide (128<y.size)=false)∧s=⟨look [(1, .bp 0 0),(3, .bp 1 0),(5, .v (.int .i64 (j:Int)))],⟨[Dc c,Kr (Br c.num)],[]⟩⟩) (c.paths.length) ((wk 2 0)) (⟨0,BJ _,rfl,fun i y hi=>by omega,rfl⟩) ?_;rintro m s ⟨j,hj,rfl,ha1,rfl⟩;refine q_ (w_ (m_ (h:=f_ (h:=l_ (h:=n_ (h:=BS (h:=e_ (?_))))))));refine A8 rfl (fun hb7=>?_) (fun hb7=>?_)
 ·have hc7:=bp hb7;obtain⟨hlt,y,hy,hrow, -⟩:=Cu DL hc7;refine AN (q_ (Av (w_ (f_ (h:=l_ (h:=m_ (h:=i_ (h:=l_ (h:=n_ (h:=Ck (h:=e_ (?_))))))))))));refine A8 rfl (fun hb8=>?_) (fun hb8=>?_)
  ·have hc8:=bp hb8;have hany2:(c.paths.any fun p=>decide (128<p.size))=true:=KZ hy (by simp;omega);refine w_ (a_ (h:=e_ (A4 (AY (A7 (A7 (AY (A7 (?_)))))))));refine AJ ?_
   first|(exfalso;first|contradiction|omega)|(exact vi (by first|(rw[Bi,if_pos hc1];done)|(rw[Bi,if_neg hc1,if_pos hany];done)|(rw[Bi,if_neg hc1,if_neg (by rw[hany];simp),if_pos (by omega)];done)|(rw[Bi,if_neg hc1,if_neg (by rw[hany];simp),if_neg (by omega),if_pos hany2];done)|(rw[Bi,if_neg hc1,if_neg (by rw[hany];simp),if_neg (by omega),if_neg (by rw[hany2];simp),if_pos hany3];done)|(rw[Bi,if_neg hc1,if_neg (by rw[hany];simp),if_neg (by omega),if_neg (by rw[hany2];simp),if_neg (by rw[hany3];simp)];done)))
  have hc8:=bp hb8;refine BM (B8 (t_ (AQ (m_ (h:=BH (h:=a_ (h:=AP (?_))))))));refine AF ?_;refine⟨_,_,?_,⟨j+1,by omega,rfl,EP hy ha1 (by simp;omega),rfl⟩,(wk 2 0)⟩;omega
 have hc7:=bp hb7;have e:=D0 DL hj hc7;have hany2:(c.paths.any fun p=>decide (128<p.size))=false:=LQ (by rw[←e];exact ha1);refine BX (Aw (Aw (BY (t_ (q_ (w_ (a_ (h:=e_ (Av (?_))))))))));refine Bq (fun m s=>∃j:Nat,j≤c.args.length∧m=c.args.length - j∧(∀i y,i<j→c.args[i]?=some y→decide (64<y.size)=false)∧s=⟨look [(1, .bp 0 0),(3, .bp 1 0),(6, .v (.int .i64 (j:Int)))],⟨[Dc c,Kr (Br c.num)],[]⟩⟩) (c.args.length) ((wk 2 0)) (⟨0,BJ _,rfl,fun i y hi=>by omega,rfl⟩) ?_;rintro m s ⟨j3,hj3,rfl,ha3,rfl⟩;refine q_ (w_ (m_ (h:=f_ (h:=l_ (h:=n_ (h:=BS (h:=e_ (?_))))))));refine A8 rfl (fun hb9=>?_) (fun hb9=>?_)
 ·have hc9:=bp hb9;obtain⟨hlt,y,hy,hrow, -⟩:=Cu DL hc9;refine AN (q_ (Av (w_ (f_ (h:=l_ (h:=m_ (h:=i_ (h:=l_ (h:=n_ (h:=Ck (h:=e_ (?_))))))))))));refine A8 rfl (fun hb10=>?_) (fun hb10=>?_)
  ·have hc10:=bp hb10;have hany3:(c.args.any fun p=>decide (64<p.size))=true:=KZ hy (by simp;omega);refine w_ (a_ (h:=e_ (A4 (AY (A7 (A7 (AY (A7 (?_)))))))));refine AJ ?_
   first|(exfalso;first|contradiction|omega)|(exact vi (by first|(rw[Bi,if_pos hc1];done)|(rw[Bi,if_neg hc1,if_pos hany];done)|(rw[Bi,if_neg hc1,if_neg (by rw[hany];simp),if_pos (by omega)];done)|(rw[Bi,if_neg hc1,if_neg (by rw[hany];simp),if_neg (by omega),if_pos hany2];done)|(rw[Bi,if_neg hc1,if_neg (by rw[hany];simp),if_neg (by omega),if_neg (by rw[hany2];simp),if_pos hany3];done)|(rw[Bi,if_neg hc1,if_neg (by rw[hany];simp),if_neg (by omega),if_neg (by rw[hany2];simp),if_neg (by rw[hany3];simp)];done)))
  have hc10:=bp hb10;refine BM (B8 (t_ (AQ (m_ (h:=BH (h:=a_ (h:=AP (?_))))))));refine AF ?_;refine⟨_,_,?_,⟨j3+1,by omega,rfl,EP hy ha3 (by simp;omega),rfl⟩,(wk 2 0)⟩;omega
 have hc9:=bp hb9;have e3:=D0 DL hj3 hc9;have hany3:(c.args.any fun p=>decide (64<p.size))=false:=LQ (by rw[←e3];exact ha3);refine BX (Aw (Aw (BY (t_ (w_ (a_ (h:=e_ (A4 (?_)))))))));refine AJ ?_
 first|(exfalso;first|contradiction|omega)|(exact vi (by first|(rw[Bi,if_pos hc1];done)|(rw[Bi,if_neg hc1,if_pos hany];done)|(rw[Bi,if_neg hc1,if_neg (by rw[hany];simp),if_pos (by omega)];done)|(rw[Bi,if_neg hc1,if_neg (by rw[hany];simp),if_neg (by omega),if_pos hany2];done)|(rw[Bi,if_neg hc1,if_neg (by rw[hany];simp),if_neg (by omega),if_neg (by rw[hany2];simp),if_pos hany3];done)|(rw[Bi,if_neg hc1,if_neg (by rw[hany];simp),if_neg (by omega),if_neg (by rw[hany2];simp),if_neg (by rw[hany3];simp)];done)))
theorem Vo(c:Cal):AFn prog 110 [.agg (Dc c)] (fun r=>r= .sl 1 ((CK c).map CF) none):=by
 refine enter Tryz.func110 rfl rfl rfl rfl rfl 0 rfl ?_;refine w_ (b_ (h:=a_ (h:=e_ (q_ (w_ (f_ (h:=l_ (h:=e_ (Av (w_ (AR (h:=a_ (h:=e_ (?_))))))))))))));refine A8 rfl (fun hb1=>?_) (fun hb1=>?_)
 ·have hc1:=bp hb1;refine w_ (Bw (h:=a_ (h:=e_ (A4 (AY (A7 (?_)))))));refine AJ ?_
  first|(exfalso;first|contradiction|omega)|(simp only[CK,C9];first|(simp[*,CF];done)|(simp[*,CF];rfl))
 have hc1:=bp hb1;refine w_ (AR (h:=a_ (h:=e_ (?_))));refine A8 rfl (fun hb2=>?_) (fun hb2=>?_)
 ·have hc2:=bp hb2;refine w_ (a_ (h:=e_ (q_ (w_ (f_ (h:=?_))))));refine A6 rfl (CR (len:=4) (sz:=1) (n:=0) (by kernel_rfl) rfl rfl rfl rfl ?_);refine l_ (h:=Em (h:=BV (h:=e_ (?_))));refine A8 rfl (fun hb3=>?_) (fun hb3=>?_)
  ·have hc3:=bp hb3;refine AQ (m_ (h:=BH (h:=a_ (h:=e_ (q_ (w_ (f_ (h:=?_))))))));refine A6 rfl (CR (len:=4) (sz:=1) (n:=0) (by kernel_rfl) rfl rfl rfl rfl ?_);refine l_ (h:=Em (h:=BV (h:=e_ (?_))));refine A8 rfl (fun hb4=>?_) (fun hb4=>?_)
   ·have hc4:=bp hb4;refine AQ (m_ (h:=BH (h:=a_ (h:=e_ (w_ (m_ (h:=Bw (h:=a_ (h:=e_ (A4 (AY (A7 (?_)))))))))))));refine AJ ?_
    first|(exfalso;first|contradiction|omega)|(simp only[CK,C9];first|(simp[*,CF];done)|(simp[*,CF];rfl))
   have hc4:=bp hb4;refine AN (w_ (m_ (h:=Bw (h:=a_ (h:=e_ (A4 (AY (A7 (?_)))))))));refine AJ ?_
   first|(exfalso;first|contradiction|omega)|(simp only[CK,C9];first|(simp[*,CF];done)|(simp[*,CF];rfl))
  have hc3:=bp hb3;refine AN (q_ (w_ (f_ (h:=?_))));refine A6 rfl (CR (len:=4) (sz:=1) (n:=0) (by kernel_rfl) rfl rfl rfl rfl ?_);refine l_ (h:=Em (h:=BV (h:=e_ (?_))));refine A8 rfl (fun hb5=>?_) (fun hb5=>?_)
  ·have hc5:=bp hb5;refine AQ (m_ (h:=BH (h:=a_ (h:=e_ (w_ (m_ (h:=Bw (h:=a_ (h:=e_ (A4 (AY (A7 (?_)))))))))))));refine AJ ?_
   first|(exfalso;first|contradiction|omega)|(simp only[CK,C9];first|(simp[*,CF];done)|(simp[*,CF];rfl))
  have hc5:=bp hb5;refine AN (w_ (m_ (h:=Bw (h:=a_ (h:=e_ (A4 (AY (A7 (?_)))))))));refine AJ ?_
  first|(exfalso;first|contradiction|omega)|(simp only[CK,C9];first|(simp[*,CF];done)|(simp[*,CF];rfl))
 have hc2:=bp hb2;refine w_ (AR (h:=a_ (h:=e_ (?_))));refine A8 rfl (fun hb6=>?_) (fun hb6=>?_)
 ·have hc6:=bp hb6;refine w_ (Bw (h:=a_ (h:=e_ (A4 (AY (A7 (?_)))))));refine AJ ?_
  first|(exfalso;first|contradiction|omega)|(simp only[CK,C9];first|(simp[*,CF];done)|(simp[*,CF];rfl))
 have hc6:=bp hb6;refine w_ (AR (h:=a_ (h:=e_ (?_))));refine A8 rfl (fun hb7=>?_) (fun hb7=>?_)
 ·have hc7:=bp hb7;refine w_ (Bw (h:=a_ (h:=e_ (A4 (AY (A7 (?_)))))));refine AJ ?_
  first|(exfalso;first|contradiction|omega)|(simp only[CK,C9];first|(simp[*,CF];done)|(simp[*,CF];rfl))
 have hc7:=bp hb7;refine q_ (w_ (AR (h:=a_ (h:=e_ (?_)))));refine A8 rfl (fun hb8=>?_) (fun hb8=>?_)
 ·have hc8:=bp hb8;refine AN (C2 (h:=w_ (Bw (h:=a_ (h:=e_ (A4 (AY (A7 (?_)))))))));refine AJ ?_
  first|(exfalso;first|contradiction|omega)|(simp only[CK,C9];first|(simp[*,CF];done)|(simp[*,CF];rfl))
 have hc8:=bp hb8;refine w_ (AR (h:=a_ (h:=e_ (?_))));refine A8 rfl (fun hb9=>?_) (fun hb9=>?_)
 ·have hc9:=bp hb9;refine AN (C2 (h:=w_ (Bw (h:=a_ (h:=e_ (A4 (AY (A7 (?_)))))))));refine AJ ?_
  first|(exfalso;first|contradiction|omega)|(simp only[CK,C9];first|(simp[*,CF];done)|(simp[*,CF];rfl))
 have hc9:=bp hb9;refine AQ (AR (h:=a_ (h:=e_ (?_))));refine A8 rfl (fun hb10=>?_) (fun hb10=>?_)
 ·have hc10:=bp hb10;refine w_ (Bw (h:=a_ (h:=e_ (A4 (AY (A7 (?_)))))));refine AJ ?_
  first|(exfalso;first|contradiction|omega)|(simp only[CK,C9];first|(simp[*,CF];done)|(simp[*,CF];rfl))
 have hc10:=bp hb10;refine w_ (AR (h:=a_ (h:=e_ (?_))));refine A8 rfl (fun hb11=>?_) (fun hb11=>?_)
 ·have hc11:=bp hb11;refine w_ (Bw (h:=a_ (h:=e_ (A4 (AY (A7 (?_)))))));refine AJ ?_
  first|(exfalso;first|contradiction|omega)|(simp only[CK,C9];first|(simp[*,CF];done)|(simp[*,CF];rfl))
 have hc11:=bp hb11;refine BM (B8 (t_ (w_ (Bw (h:=a_ (h:=e_ (A4 (?_))))))));refine AJ ?_
 first|(exfalso;first|contradiction|omega)|(simp only[CK,C9];first|(simp[*,CF];done)|(simp[*,CF];rfl))
theorem fJ(c:Cal):AFn prog 111 [.agg (Dc c)] (fun r=>r= .v (.bool (D5 c))):=by
 refine enter Tryz.func111 rfl rfl rfl rfl rfl 0 rfl ?_;refine w_ (b_ (h:=a_ (h:=e_ (q_ (w_ (f_ (h:=l_ (h:=e_ (Av (w_ (AR (h:=a_ (h:=e_ (?_))))))))))))));refine A8 rfl (fun hb1=>?_) (fun hb1=>?_)
 ·have hc1:=bp hb1;refine w_ (f_ (h:=?_));refine A6 rfl (CR (len:=4) (sz:=1) (n:=0) (by kernel_rfl) rfl rfl rfl rfl ?_);refine l_ (h:=Em (h:=AR (h:=a_ (h:=e_ (A4 (AY (A7 (?_))))))));refine AJ ?_
  first|(exfalso;first|contradiction|omega)|(exact vb (by simp[D5, *]))
 have hc1:=bp hb1;refine q_ (w_ (AR (h:=a_ (h:=e_ (?_)))));refine A8 rfl (fun hb2=>?_) (fun hb2=>?_)
 ·have hc2:=bp hb2;refine AN (C2 (h:=w_ (a_ (h:=e_ (A4 (AY (A7 (?_))))))));refine AJ ?_
  first|(exfalso;first|contradiction|omega)|(exact vb (by simp[D5, *]))
 have hc2:=bp hb2;refine w_ (AR (h:=a_ (h:=e_ (?_))));refine A8 rfl (fun hb3=>?_) (fun hb3=>?_)
 ·have hc3:=bp hb3;refine AN (C2 (h:=w_ (a_ (h:=e_ (A4 (AY (A7 (?_))))))));refine AJ ?_
  first|(exfalso;first|contradiction|omega)|(exact vb (by simp[D5, *]))
 have hc3:=bp hb3;refine w_ (AR (h:=a_ (h:=e_ (?_))));refine A8 rfl (fun hb4=>?_) (fun hb4=>?_)
 ·have hc4:=bp hb4;refine AN (C2 (h:=w_ (a_ (h:=e_ (A4 (AY (A7 (?_))))))));refine AJ ?_
  first|(exfalso;first|contradiction|omega)|(exact vb (by simp[D5, *]))
 have hc4:=bp hb4;refine w_ (AR (h:=a_ (h:=e_ (?_))));refine A8 rfl (fun hb5=>?_) (fun hb5=>?_)
 ·have hc5:=bp hb5;refine AN (C2 (h:=w_ (a_ (h:=e_ (A4 (AY (A7 (?_))))))));refine AJ ?_
  first|(exfalso;first|contradiction|omega)|(exact vb (by simp[D5, *]))
 have hc5:=bp hb5;refine w_ (AR (h:=a_ (h:=e_ (?_))));refine A8 rfl (fun hb6=>?_) (fun hb6=>?_)
 ·have hc6:=bp hb6;refine AN (C2 (h:=w_ (a_ (h:=e_ (A4 (AY (A7 (?_))))))));refine AJ ?_
  first|(exfalso;first|contradiction|omega)|(exact vb (by simp[D5, *]))
 have hc6:=bp hb6;refine AQ (AR (h:=a_ (h:=e_ (?_))));refine A8 rfl (fun hb7=>?_) (fun hb7=>?_)
 ·have hc7:=bp hb7;refine w_ (a_ (h:=e_ (A4 (AY (A7 (?_))))));refine AJ ?_
  first|(exfalso;first|contradiction|omega)|(exact vb (by simp[D5, *]))
 have hc7:=bp hb7;refine BM (B8 (t_ (w_ (a_ (h:=e_ (A4 (?_)))))));refine AJ ?_
 first|(exfalso;first|contradiction|omega)|(exact vb (by simp[D5, *]))
end
theorem H8(s:ByteArray):s.toList=s.data.toList:=Lib.toList_data s
theorem Vp{a b:ByteArray}(h:a.data.toList=b.data.toList):a=b:=by
 cases a;cases b;simp at h;simp[h]
theorem fK{a b:ByteArray}:a.data.toList=b.data.toList↔a=b:=⟨Vp,fun h=>by rw[h]⟩
theorem fL(a b:ByteArray):(a.toList==b.toList)=decide (a=b):=by
 rw[H8,H8,Bool.eq_iff_iff,beq_iff_eq,decide_eq_true_iff];exact fK
theorem Vq(s:ByteArray):s.toList.isEmpty=decide (s.size=0):=by
 rw[H8,Lib.size_eq,Bool.eq_iff_iff,List.isEmpty_iff,decide_eq_true_iff,List.length_eq_zero_iff]
set_option maxRecDepth 100000 in
set_option maxHeartbeats 400000 in
theorem Ro(s:ByteArray)(w:World):
    Calls prog 194 #[.string s, .string ⟨#[47]⟩] w fun e w'=>e= .returned (.int .i64 (Lib.indexByte s.data.toList 47))∧w=w':=by
 by_cases h:s=⟨#[47]⟩
 ·subst h
  go_enter Tryz.func194,Tryz.ntmps194
  go_wp2
  go_ret
  exact⟨rfl,rfl⟩
 have h1:([47]==s.toList)=false:=by
  have:=fL ⟨#[47]⟩ s;rw[decide_eq_false (fun e=>h e.symm),H8 ⟨#[47]⟩]at this;exact this
 go_enter Tryz.func194,Tryz.ntmps194
 go_wp2_with (go_at_call 201;refine(Tryz.stringslite_IndexByte _ _ _).mono ?_;rintro e w' ⟨rfl,rfl⟩)
 go_ret
 exact⟨rfl,rfl⟩
theorem fM(s:ByteArray)(w:World):
    Calls prog 173 #[.string s, .string ⟨#[47]⟩] w fun e w'=>e= .returned (.int .i64 (Lib.indexByte s.data.toList 47))∧w=w':=by
 go_enter Tryz.func173,Tryz.ntmps173
 go_wp2_with (go_at_call 194;refine(Ro _ _).mono ?_;rintro e w' ⟨rfl,rfl⟩)
 go_ret
 exact⟨rfl,rfl⟩
theorem Rp{l:Bs}(h:(47:UInt8)∈l):∃i:Nat,Lib.indexByte l 47=i∧i<l.length∧l=l.take i++47::l.drop (i+1)∧(47:UInt8)∉l.take i:=by
 have hge:=Lib.indexByte_ge l 47;by_cases hm:Lib.indexByte l 47= -1
 ·have:=Lib.indexByte_none hm;obtain⟨k,hk⟩:=List.mem_iff_getElem?.1 h;exact absurd hk (this k)
 obtain⟨i,hi⟩:=Int.eq_ofNat_of_zero_le (show 0≤Lib.indexByte l 47 by omega);obtain⟨h1,h2⟩:=Lib.indexByte_some hi;have hlt:i<l.length:=(As.1 h1).1;refine⟨i,hi,hlt,?_,?_⟩
 ·have h3:l[i]=47:=(As.1 h1).2;rw[←h3,List.getElem_cons_drop,List.take_append_drop]
 intro hmem;obtain⟨k,hk⟩:=List.mem_iff_getElem?.1 hmem;rw[List.getElem?_take]at hk;split at hk
 ·exact h2 k (by assumption) hk
 cases hk
theorem Vr{l:Bs}(h:(47:UInt8)∉l):Lib.indexByte l 47= -1:=by
 have hge:=Lib.indexByte_ge l 47;by_cases hm:Lib.indexByte l 47= -1
 ·exact hm
 obtain⟨i,hi⟩:=Int.eq_ofNat_of_zero_le (show 0≤Lib.indexByte l 47 by omega);obtain⟨h1,_⟩:=Lib.indexByte_some hi;exact absurd (Al h1) h
end Go.Proofs.YtbglbmnhgbgelaaGreatDoor
