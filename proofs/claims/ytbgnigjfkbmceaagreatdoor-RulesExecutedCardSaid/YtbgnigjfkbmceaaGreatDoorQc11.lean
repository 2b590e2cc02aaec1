/-
  Part 11 of the proof of RulesExecutedP: what the statement's proof uses of the texts in wip/tpl.
-/
import Derived.Lib.AppendZerosOnto
import Derived.Test.YtbgnigjfkbmceaaGreatDoorShelf
import Derived.Laws.RangeAny
import Derived.Deep.LoopGhost
import Derived.Test.YtbgnigjfkbmceaaGreatDoorQc10
open Go.Proofs.Tryz (prog)
set_option maxRecDepth 10000
set_option maxHeartbeats 4000000
set_option linter.unusedVariables false
set_option linter.unusedSimpArgs false
namespace Go.Proofs.YtbgnigjfkbmceaaGreatDoor
open Go.RowKit
theorem QV{s:Spc}{d:Int}(h:(Cd s d).isSome=true):Cd s d=some ((Cd s d).getD (0,0)):=by
 cases ho:Cd s d with
 |none=>rw[ho]at h;cases h
 |some o=>rfl
theorem Zh{s:Spc}{d:Int}(h:(Cd s d).isSome=false):Cd s d=none:=by
 cases ho:Cd s d with
 |none=>rfl
 |some o=>rw[ho]at h;cases h
theorem UO{s:Spc}{a:AQ}(k:Nat)(h:Ay s.files a=false):Em s (k+1) a=(0,0):=by unfold Em;rw[h];rfl
theorem Zi{s:Spc}{a:AQ}(k:Nat)(h:Ay s.files a=true)(h1:¬a.2=1):Em s (k+1) a=(a.1,(B5 s.files a).parent):=by unfold Em;rw[if_pos h,if_pos h1]
theorem Zj{s:Spc}{a:AQ}(k:Nat)(h:Ay s.files a=true)(h1:a.2=1)(ho:(Cd s a.1).isSome=true):Em s (k+1) a=Em s k ((Cd s a.1).getD (0,0)):=by
 conv=>lhs;unfold Em
 rw[if_pos h,if_neg (by simpa using h1),QV ho];rfl
theorem Zk{s:Spc}{a:AQ}(k:Nat)(h:Ay s.files a=true)(h1:a.2=1)(ho:(Cd s a.1).isSome=false):Em s (k+1) a=a:=by
 conv=>lhs;unfold Em
 rw[if_pos h,if_neg (by simpa using h1),Zh ho]
section
theorem UP{s:Spc}(hs:SpcB s)(hv:SpcV s)(a:AQ)
    (hrec:Ay s.files a=true→∀b,EY s a=some b→AFn prog 195 [.agg (BK s), .agg (AN b)] (fun r=>r= .tup [.v (.string (DT s b).1), .v (.bool (DT s b).2)])):
    AFn prog 195 [.agg (BK s), .agg (AN a)] (fun r=>r= .tup [.v (.string (DT s a).1), .v (.bool (DT s a).2)]):=by
 have hnm:=QO hv.files a;have hwz:=UD hv;refine enter Tryz.func195 rfl rfl rfl rfl rfl 0 rfl ?_;refine w_ (b_ (h:=b_ (h:=a_ (h:=a_ (h:=e_ (q_ (w_ (f_ (h:=l_ (h:=l_ (h:=?_)))))))))));refine A7 rfl (AG (Hd s.files a hs.files) ?_);rintro r rfl;refine B9 (h:=m_ (h:=?_));refine AW false rfl rfl (fun hb1=>?_) (fun hb1=>?_)
 ·have hc1:=bp hb1;refine A3 (h:=A3 (h:=A3 (h:=A3 (h:=A3 (h:=AF (h:=e_ (B8 (h:=w_ (a_ (h:=a_ (h:=e_ (A4 (A6 (?_))))))))))))));refine A9 ?_
  first|(rw[MJ hv (by simp_all)];rfl)|(rw[hw1];first|rfl|(rw[←hw2];rfl))|(rw[h00,MK hv (by rw[←h00];exact hc1)];rfl)
 have hc1:=bp hb1;refine l_ (h:=f_ (h:=l_ (h:=?_)));refine B4 (AG (Ln s a.1 hs) ?_);rintro r rfl;refine B9 (h:=AM (h:=e_ (?_)));refine A8 rfl (fun hb2=>?_) (fun hb2=>?_)
 ·have hc2:=bp hb2;refine w_ (a_ (h:=a_ (h:=e_ (A4 (A6 (?_))))));refine A9 ?_
  first|(rw[MJ hv (by simp_all)];rfl)|(rw[hw1];first|rfl|(rw[←hw2];rfl))|(rw[h00,MK hv (by rw[←h00];exact hc1)];rfl)
 have hc2:=bp hb2;refine AB (q_ (w_ (f_ (h:=l_ (h:=AD (h:=e_ (?_)))))));refine A8 rfl (fun hb3=>?_) (fun hb3=>?_)
 ·have hc3:=bp hb3;refine q_ (w_ (l_ (h:=f_ (h:=l_ (h:=?_)))));refine A7 rfl (AG (PO s a.1 hs) ?_);rintro r rfl;refine m_ (h:=x_ (h:=x_ (h:=Al (h:=s_ (h:=a_ (h:=e_ (w_ (m_ (h:=e_ (?_))))))))));refine A8 rfl (fun hb4=>?_) (fun hb4=>?_)
  ·have hc4:=bp hb4;have hst:EY s a=some ((Cd s a.1).getD (0,0)):=by unfold EY;rw[if_neg (by simpa using hc3)];exact QV hc4
   obtain⟨hw1,hw2⟩:=UB hv hc1 hc2 (fun e=>by rw[e,ZQ hv]at hc4;cases hc4) hst;rw[if_pos hc3]at hw1;refine w_ (l_ (h:=l_ (h:=?_)));refine A7 rfl (AG (hrec hc1 _ hst) ?_);rintro r rfl
   skip
   refine x_ (h:=x_ (h:=a_ (h:=a_ (h:=e_ (A4 (A6 (A6 (?_))))))));refine A9 ?_
   first|(rw[MJ hv (by simp_all)];rfl)|(rw[hw1];first|rfl|(rw[←hw2];rfl))|(rw[h00,MK hv (by rw[←h00];exact hc1)];rfl)
  have hc4:=bp hb4
  have h00:a=(0,1):=by
   refine Prod.ext ?_ hc3;have:=hc2;unfold Co at this;rw[hc4,Bool.false_or]at this;exact of_decide_eq_true this
  refine AB (w_ (a_ (h:=a_ (h:=e_ (A4 (A6 (?_)))))));refine A9 ?_
  first|(rw[MJ hv (by simp_all)];rfl)|(rw[hw1];first|rfl|(rw[←hw2];rfl))|(rw[h00,MK hv (by rw[←h00];exact hc1)];rfl)
 have hc3:=bp hb3;have hst:EY s a=some (a.1,(B5 s.files a).parent):=if_pos hc3;obtain⟨hw1,hw2⟩:=UB hv hc1 hc2 (fun e=>hc3 (by rw[e])) hst;rw[if_neg hc3]at hw1;refine AB (w_ (f_ (h:=l_ (h:=l_ (h:=?_)))));refine A7 rfl (AG (E0 s.files a hs.files) ?_);rintro r rfl;refine m_ (h:=x_ (h:=x_ (h:=Al (h:=s_ (h:=a_ (h:=e_ (w_ (l_ (h:=f_ (h:=l_ (h:=f_ (h:=l_ (h:=Ak (h:=?_))))))))))))));refine A7 rfl (AG (hrec hc1 _ hst) ?_);rintro r rfl
 skip
 refine m_ (h:=x_ (h:=x_ (h:=a_ (h:=a_ (h:=e_ (w_ (m_ (h:=f_ (h:=l_ (h:=l_ (h:=?_)))))))))));refine A7 rfl (AG (Zb s a hs) ?_);rintro r rfl;refine A7 rfl (AG (UF (DT s (a.1,(B5 s.files a).parent)).1 (H8 s a) (by have:=hwz (a.1,(B5 s.files a).parent);omega) (by omega)) ?_);rintro r rfl;refine m_ (h:=a_ (h:=a_ (h:=e_ (A4 (?_)))));refine A9 ?_
 first|(rw[MJ hv (by simp_all)];rfl)|(rw[hw1];first|rfl|(rw[←hw2];rfl))|(rw[h00,MK hv (by rw[←h00];exact hc1)];rfl)
theorem Zl{s:Spc}(hs:SpcB s)(hv:SpcV s)(a:AQ):AFn prog 195 [.agg (BK s), .agg (AN a)] (fun r=>r= .tup [.v (.string (DT s a).1), .v (.bool (DT s a).2)]):=by
 have key:∀(k:Nat) (a:AQ),ends s k a→AFn prog 195 [.agg (BK s), .agg (AN a)] (fun r=>r= .tup [.v (.string (DT s a).1), .v (.bool (DT s a).2)]):=by
  intro k
  induction k with
  |zero=>intro a h;exact UP hs hv a fun hd=>by rw[show Ay s.files a=false from h]at hd;cases hd
  |succ k ih=>intro a h;exact UP hs hv a fun hd b hb=>ih b (h.resolve_left (by rw[hd];simp) b hb)
 exact key _ a (O5 hv a)
theorem Zm{s:Spc}(hs:SpcB s)(a:AQ)(p:Nat)(hrec:(Cd s a.1).isSome=true→AFn prog 194 [.agg (BK s), .agg (AN ((Cd s a.1).getD (0,0)))] (fun r=>r= .agg (AN (Em s p ((Cd s a.1).getD (0,0)))))):
    AFn prog 194 [.agg (BK s), .agg (AN a)] (fun r=>r= .agg (AN (Em s (p+1) a))):=by
 have hde:=Lj s.files a;refine enter Tryz.func194 rfl rfl rfl rfl rfl 0 rfl ?_;refine w_ (b_ (h:=b_ (h:=Al (h:=e_ (w_ (f_ (h:=l_ (h:=l_ (h:=?_)))))))));refine A7 rfl (AG (E0 s.files a hs.files) ?_);rintro r rfl;refine m_ (h:=x_ (h:=x_ (h:=Al (h:=s_ (h:=a_ (h:=e_ (q_ (w_ (m_ (h:=B9 (h:=m_ (h:=?_))))))))))));refine AW false rfl rfl (fun hb1=>?_) (fun hb1=>?_)
 ·have hc1:=bp hb1;refine A3 (h:=A3 (h:=A3 (h:=AF (h:=e_ (B8 (h:=w_ (Ak (h:=s_ (h:=e_ (A4 (A6 (?_))))))))))));refine A9 ?_;rw[UO p (by rw[hde,hc1];rfl)];rfl
 have hc1:=bp hb1;refine f_ (h:=l_ (h:=Ap (h:=AM (h:=e_ (?_)))));refine A8 rfl (fun hb2=>?_) (fun hb2=>?_)
 ·have hc2:=bp hb2;refine w_ (Ak (h:=s_ (h:=e_ (A4 (A6 (?_))))));refine A9 ?_;rw[UO p (by rw[hde,decide_eq_false hc2,Bool.and_false])];rfl
 have hc2:=bp hb2;refine AB (q_ (w_ (f_ (h:=l_ (h:=Ap (h:=e_ (?_)))))));refine A8 rfl (fun hb3=>?_) (fun hb3=>?_)
 ·have hc3:=bp hb3;refine w_ (f_ (h:=l_ (h:=f_ (h:=l_ (h:=Ak (h:=s_ (h:=e_ (A4 (A6 (?_))))))))));refine A9 ?_;rw[Zi p (by rw[hde,hc1,decide_eq_true hc2];rfl) hc3];rfl
 have hc3:=bp hb3;refine AB (q_ (w_ (l_ (h:=f_ (h:=l_ (h:=?_))))));refine A7 rfl (AG (PO s a.1 hs) ?_);rintro r rfl;refine m_ (h:=x_ (h:=x_ (h:=Al (h:=s_ (h:=a_ (h:=e_ (w_ (m_ (h:=e_ (?_))))))))));refine A8 rfl (fun hb4=>?_) (fun hb4=>?_)
 ·have hc4:=bp hb4;refine w_ (l_ (h:=l_ (h:=?_)));refine A7 rfl (AG (hrec hc4) ?_);rintro r rfl;refine s_ (h:=e_ (A4 (A6 (?_))));refine A9 ?_;rw[Zj p (by rw[hde,hc1,decide_eq_true hc2];rfl) hc3 hc4];rfl
 have hc4:=bp hb4;refine AB (w_ (l_ (h:=s_ (h:=e_ (A4 (?_))))));refine A9 ?_;rw[Zk p (by rw[hde,hc1,decide_eq_true hc2];rfl) hc3 hc4];rfl
theorem Zn{s:Spc}(hs:SpcB s)(hv:SpcV s):∀(p:Nat) (a:AQ),Jm s a.1<p→AFn prog 194 [.agg (BK s), .agg (AN a)] (fun r=>r= .agg (AN (Em s p a))):=by
 intro p
 induction p with
 |zero=>intro a h;omega
 |succ p ih=>intro a hp;exact Zm hs a p fun ho=>ih _ (by have:=U0 hv (QV ho);omega)
end
end Go.Proofs.YtbgnigjfkbmceaaGreatDoor
namespace Go.Proofs.YtbgnigjfkbmceaaGreatDoor
structure Fnd where
 dir:AQ
 name:AT
 file:AQ
 ex:Bool
 slash:Bool
 path:AT
def EB:Fnd:=⟨(0,0),⟨#[]⟩,(0,0),false,false,⟨#[]⟩⟩
def Ar(x:Fnd):List AV:=[.v (.int .i64 x.dir.1), .v (.int .i64 x.dir.2), .v (.string x.name), .v (.int .i64 x.file.1), .v (.int .i64 x.file.2), .v (.bool x.ex), .v (.bool x.slash), .v (.string x.path)]
def EC(s:AT):List AT:=(Cr s.data.toList).map fun l=>⟨l.toArray⟩
theorem UQ(s:AT):CB (EC s)=Cr s.data.toList:=by
 unfold CB EC;rw[List.map_map];have:((fun x:AT=>x.data.toList) ∘ fun l:Bs=>(⟨l.toArray⟩:AT))=id:=by funext l;simp
 rw[this,List.map_id]
theorem UR:∀{a b:List AT},CB a=CB b→a=b
 |[],[],_=>rfl
 |[],_::_,h=>by simp[CB]at h
 |_::_,[],h=>by simp[CB]at h
 |x::a,y::b,h=>by
   simp only[CB,List.map_cons,List.cons.injEq]at h;rw[OB h.1,UR (a:=a) (b:=b) h.2]
theorem US{s:AT}{ps:List AT}(h:CB ps=Cr s.data.toList):ps=EC s:=UR (h.trans (UQ s).symm)
theorem QW(s:AT):(EC s).length≤s.size+1:=by
 have h1:=UM (EC s);have h2:=Px s.data.toList;rw[←UQ]at h2;rw[Lib.size_eq];omega
def FV(s:Spc):AQ:=E3 s s.mounts.length (0,1)
structure Lk where
 ps:List AT
 dir:AQ
 name:AT
 file:AQ
 ex:Bool
 links:Nat
abbrev Zo:AT:=⟨#[46]⟩
abbrev Zp:AT:=⟨#[46,46]⟩
def Cs(s:Spc)(fl:Bool)(p:AT)(ps:List AT)(a:AQ)(lk:Nat):Int ⊕ Lk:=
 if Ay s.files a=false then .inl 20
 else if 12<p.size then .inl 36
 else if p=Zo then .inr ⟨ps,a,⟨#[]⟩,a,true,lk⟩
 else if p=Zp then .inr ⟨ps,E3 s s.mounts.length (Em s (s.mounts.length+1) a),⟨#[]⟩,E3 s s.mounts.length (Em s (s.mounts.length+1) a),true,lk⟩
 else if(AZ s.files a p).2≠0 then(if ps≠[]∨FM p=false then .inl 2 else .inr ⟨[],a,p,(0,0),false,lk⟩)
 else if(B5 s.files (AZ s.files a p).1).kind=3∧(ps≠[]∨fl=true)then
  (if lk=8 then .inl 40 else
    .inr ⟨EC (B5 s.files (AZ s.files a p).1).target++ps,if FU (B5 s.files (AZ s.files a p).1).target=true then FV s else a,⟨#[]⟩,if FU (B5 s.files (AZ s.files a p).1).target=true then FV s else a,true,lk+1⟩)
 else .inr ⟨ps,a,p,E3 s s.mounts.length (AZ s.files a p).1,true,lk⟩
def QX:Lk:=⟨[],(0,0),⟨#[]⟩,(0,0),false,0⟩
def H9(s:Spc)(fl:Bool):Nat→Lk→Int×Lk
 |0,σ=>(0,σ)
 |k+1,σ=>match σ.ps with
   |[]=>(0,σ)
   |p::ps=>match Cs s fl p ps σ.file σ.links with
     | .inl e=>(e,QX)
     | .inr τ=>H9 s fl k τ
def Eo(σ:Lk):Nat:=(8 - σ.links) * 200+σ.ps.length
section
variable {s:Spc}(hv:FlsV s.files)
include hv
theorem QY{fl:Bool}{p:AT}{ps:List AT}{a:AQ}{lk:Nat}{τ:Lk}(h8:lk≤8)(h:Cs s fl p ps a lk= .inr τ):τ.links≤8∧Eo τ<(8 - lk) * 200+(ps.length+1):=by
 unfold Cs at h;split at h
 ·cases h
 split at h
 ·cases h
 split at h
 ·injection h with h;subst h;exact⟨h8,by unfold Eo;simp only;omega⟩
 split at h
 ·injection h with h;subst h;exact⟨h8,by unfold Eo;simp only;omega⟩
 split at h
 ·split at h
  ·cases h
  injection h with h;subst h;exact⟨h8,by unfold Eo;simp only[List.length_nil];omega⟩
 split at h
 ·split at h
  ·cases h
  rename_i h9;injection h with h;subst h;have ht:=QG hv (AZ s.files a p).1;have hl:=QW (B5 s.files (AZ s.files a p).1).target;refine⟨by simp only;omega,?_⟩;unfold Eo;simp only[List.length_append]
  have:(8 - lk) * 200=(8 - (lk+1)) * 200+200:=by
   rw[show 8 - lk=(8 - (lk+1))+1 by omega,Nat.add_mul]
  omega
 injection h with h;subst h;exact⟨h8,by unfold Eo;simp only;omega⟩
theorem Zq(fl:Bool):∀(k k':Nat) (σ:Lk),σ.links≤8→Eo σ≤k→Eo σ≤k'→H9 s fl k σ=H9 s fl k' σ:=by
 intro k
 induction k with
 |zero=>
   intro k' σ h8 h h'
   have he:σ.ps=[]:=by
    unfold Eo at h;exact ER (by omega)
   cases k' with
   |zero=>rfl
   |succ k'=>unfold H9;rw[he]
 |succ k ih=>
   intro k' σ h8 h h'
   cases hps:σ.ps with
   |nil=>cases k'<;>(unfold H9;rw[hps])
   |cons p ps=>
     have hm:Eo σ=(8 - σ.links) * 200+(ps.length+1):=by unfold Eo;rw[hps];rfl
     cases k' with
     |zero=>rw[hm]at h';omega
     |succ k'=>
       unfold H9;rw[hps];simp only
       cases hs:Cs s fl p ps σ.file σ.links with
       |inl e=>rfl
       |inr τ=>
         simp only;obtain⟨h1,h2⟩:=QY hv h8 hs;exact ih k' τ h1 (by omega) (by omega)
end
def EZ(s:Spc)(fl:Bool)(σ:Lk):Int×Lk:=H9 s fl (Eo σ) σ
theorem UT{s:Spc}{fl:Bool}{σ:Lk}(h:σ.ps=[]):EZ s fl σ=(0,σ):=by
 unfold EZ
 cases Eo σ with
 |zero=>rfl
 |succ k=>unfold H9;rw[h]
theorem Zr{s:Spc}(hv:FlsV s.files){fl:Bool}{σ:Lk}{p:AT}{ps:List AT}(h8:σ.links≤8)(h:σ.ps=p::ps):EZ s fl σ=match Cs s fl p ps σ.file σ.links with
    | .inl e=>(e,QX)
    | .inr τ=>EZ s fl τ:=by
 have hm:Eo σ=((8 - σ.links) * 200+ps.length)+1:=by unfold Eo;rw[h];rfl
 unfold EZ;rw[hm]
 conv=>lhs;unfold H9
 rw[h];simp only
 cases hs:Cs s fl p ps σ.file σ.links with
 |inl e=>rfl
 |inr τ=>
   simp only;obtain⟨h1,h2⟩:=QY hv h8 hs;exact Zq hv fl _ _ τ h1 (by omega) (BN _)
def Jo(s:Spc)(sl:Bool)(τ:Lk):Fnd:=⟨τ.dir,τ.name,τ.file,τ.ex,sl,if(DT s τ.dir).2=true then(if τ.name=⟨#[]⟩then(DT s τ.dir).1 else Gl (DT s τ.dir).1 τ.name)else⟨#[]⟩⟩
def HA(ps:List AT)(a:AQ):Lk:=⟨ps,a,⟨#[]⟩,a,true,0⟩
def CM(s:Spc)(start:AQ)(p:AT)(fl:Bool):Fnd×Int:=
 if p=⟨#[]⟩then(EB,2)else if 128<p.size then(EB,36)
 else if Ay s.files (if FU p=true then FV s else start)=false then(EB,2)
 else if(EZ s (fl||Bj p) (HA (EC p) (if FU p=true then FV s else start))).1≠0 then(EB,(EZ s (fl||Bj p) (HA (EC p) (if FU p=true then FV s else start))).1)
 else if Bj p=true∧(EZ s (fl||Bj p) (HA (EC p) (if FU p=true then FV s else start))).2.ex=true∧Ay s.files (EZ s (fl||Bj p) (HA (EC p) (if FU p=true then FV s else start))).2.file=false then(EB,20)
 else(Jo s (Bj p) (EZ s (fl||Bj p) (HA (EC p) (if FU p=true then FV s else start))).2,0)
end Go.Proofs.YtbgnigjfkbmceaaGreatDoor
namespace Go.Proofs.YtbgnigjfkbmceaaGreatDoor
open Go.RowKit
structure Dsc where
 fd:Int
 file:AQ
 flags:Int
structure Prc where
 pid:Int
 ppid:Int
 uid:Int
 euid:Int
 gid:Int
 egid:Int
 auid:Int
 ses:Int
 cwd:AQ
 comm:AT
 exe:AT
 opens:List Dsc
 audited:Bool
structure Tab where
 next:Int
 nextS:Int
 ps:List Prc
structure Syst where
 spc:Spc
 tab:Tab
structure Cal where
 num:Int
 a0:Int
 a1:Int
 a2:Int
 a3:Int
 paths:List AT
 args:List AT
structure Res where
 exit:Int
 child:Int
 gone:Int
 items:List Itm
 changes:List J3
structure Wrk where
 s:Syst
 p:Prc
 c:Cal
 found:List Fnd
 r:Res
def QZ:Prc:=⟨0,0,0,0,0,0,0,0,(0,0),⟨#[]⟩,⟨#[]⟩,[],false⟩
def DH:Tab:=⟨0,0,[]⟩
def Ep:Res:=⟨0,0,0,[],[]⟩
def ML(cwd:AQ):Tab:=⟨2,1,[⟨1,0,0,0,0,0,4294967295,4294967295,cwd,⟨#[105,110,105,116]⟩,⟨#[47,105,110,105,116]⟩,[],true⟩]⟩
def L4(t:Tab)(pid:Int):Option Prc:=t.ps.find? fun p=>decide (p.pid=pid)
def C7(t:Tab)(pid:Int):Bool:=(L4 t pid).isSome
def AY(t:Tab)(pid:Int):Prc:=(L4 t pid).getD QZ
def Ff(t:Tab)(p:Prc):Tab:=⟨t.next,t.nextS,t.ps.map fun x=>if x.pid=p.pid then p else x⟩
def Er(t:Tab)(pid:Int):Tab×Int×Int:=
 if C7 t pid=false then(DH,0,3)else if 16≤(t.ps.length:Int)∨t.next=1073741824 then(DH,0,11)
 else(⟨t.next+1,t.nextS,t.ps++[{AY t pid with pid:=t.next,ppid:=pid}]⟩,t.next,0)
def Fs(pid:Int)(p:Prc):Prc:=if p.ppid=pid then{p with ppid:=1}else p
def Ft(t:Tab)(pid:Int):Tab×Int:=
 if C7 t pid=false then(DH,3)else if pid=1 then(DH,1)
 else(⟨t.next,t.nextS,(t.ps.filter fun p=>decide (p.pid≠pid)).map (Fs pid)⟩,0)
def Ds(priv:Bool)(real eff n:Int):Int×Int×Int:=if priv=true then(n,n,0)else if n=real∨n=eff then(real,n,0)else(0,0,1)
def Gm(n:Int):Bool:=decide (0≤n)&&decide (n<4294967295)
def Fu(t:Tab)(pid u:Int):Tab×Int:=
 if C7 t pid=false then(DH,3)else if Gm u=false then(DH,22)
 else if(Ds (decide ((AY t pid).euid=0)) (AY t pid).uid (AY t pid).euid u).2.2≠0 then(DH,(Ds (decide ((AY t pid).euid=0)) (AY t pid).uid (AY t pid).euid u).2.2)
 else(Ff t {AY t pid with uid:=(Ds (decide ((AY t pid).euid=0)) (AY t pid).uid (AY t pid).euid u).1,euid:=(Ds (decide ((AY t pid).euid=0)) (AY t pid).uid (AY t pid).euid u).2.1},0)
def Fv(t:Tab)(pid u:Int):Tab×Int:=
 if C7 t pid=false then(DH,3)else if Gm u=false then(DH,22)
 else if(Ds (decide ((AY t pid).euid=0)) (AY t pid).gid (AY t pid).egid u).2.2≠0 then(DH,(Ds (decide ((AY t pid).euid=0)) (AY t pid).gid (AY t pid).egid u).2.2)
 else(Ff t {AY t pid with gid:=(Ds (decide ((AY t pid).euid=0)) (AY t pid).gid (AY t pid).egid u).1,egid:=(Ds (decide ((AY t pid).euid=0)) (AY t pid).gid (AY t pid).egid u).2.1},0)
def Ea(t:Tab)(pid auid:Int):Tab×Int:=
 if C7 t pid=false then(DH,3)else if Gm auid=false then(DH,22)
 else if(AY t pid).auid≠4294967295∧(AY t pid).euid≠0 then(DH,1)else if t.nextS=1073741824 then(DH,11)
 else(⟨t.next,t.nextS+1,(Ff t {AY t pid with auid:=auid,ses:=t.nextS}).ps⟩,0)
def EN:Nat→List Dsc→Nat
 |k,[]=>k
 |k,d::r=>if d.fd=(k:Int)then EN (k+1) r else k
def L5(l:List Dsc)(fd:Nat)(x:Dsc):List Dsc:=l.take fd++x::l.drop fd
def Eb(t:Tab)(pid:Int)(a:AQ)(flags:Int):Tab×Int×Int:=
 if C7 t pid=false then(DH,0,3)else if 8≤((AY t pid).opens.length:Int)then(DH,0,24)
 else(Ff t {AY t pid with opens:=L5 (AY t pid).opens (EN 0 (AY t pid).opens) ⟨(EN 0 (AY t pid).opens:Nat),a,flags⟩},(EN 0 (AY t pid).opens:Nat),0)
def Gp(t:Tab)(pid fd:Int):Tab×Int:=
 if C7 t pid=false then(DH,3)else if(((AY t pid).opens.filter fun d=>decide (d.fd≠fd)).length:Int)=((AY t pid).opens.length:Int)then(DH,9)
 else(Ff t {AY t pid with opens:=(AY t pid).opens.filter fun d=>decide (d.fd≠fd)},0)
def HB(t:Tab)(pid:Int)(dir:AQ):Tab×Int:=if C7 t pid=false then(DH,3)else(Ff t {AY t pid with cwd:=dir},0)
def HC(t:Tab)(pid:Int)(exe comm:AT):Tab×Int:=if C7 t pid=false then(DH,3)else(Ff t {AY t pid with exe:=exe,comm:=comm},0)
def Fg(t:Tab)(pid target:Int)(ends:Bool):Tab×Int:=
 if C7 t pid=false then(DH,3)else if C7 t target=false then(DH,3)
 else if target=1∨(AY t pid).euid≠0∧(AY t pid).euid≠(AY t target).uid then(DH,1)
 else if ends=true then Ft t target else(t,0)
def ED:List (AT×Int×Int×Int×Int):=[(⟨#[102,111,114,107]⟩,0,0,0,0),
 (⟨#[101,120,101,99,118,101]⟩,0,1,0,4),
 (⟨#[101,120,105,116]⟩,1,0,0,0),
 (⟨#[115,101,116,117,105,100]⟩,1,0,0,0),
 (⟨#[115,101,116,103,105,100]⟩,1,0,0,0),
 (⟨#[108,111,103,105,110]⟩,1,0,0,0),
 (⟨#[111,112,101,110]⟩,2,1,0,0),
 (⟨#[99,108,111,115,101]⟩,1,0,0,0),
 (⟨#[108,105,110,107]⟩,0,2,0,0),
 (⟨#[115,121,109,108,105,110,107]⟩,0,1,1,1),
 (⟨#[117,110,108,105,110,107]⟩,0,1,0,0),
 (⟨#[109,107,100,105,114]⟩,1,1,0,0),
 (⟨#[114,109,100,105,114]⟩,0,1,0,0),
 (⟨#[114,101,110,97,109,101]⟩,0,2,0,0),
 (⟨#[99,104,109,111,100]⟩,1,1,0,0),
 (⟨#[99,104,111,119,110]⟩,2,1,0,0),
 (⟨#[99,104,100,105,114]⟩,0,1,0,0),
 (⟨#[109,111,117,110,116]⟩,1,1,0,0),
 (⟨#[117,109,111,117,110,116]⟩,1,0,0,0),
 (⟨#[99,111,110,110,101,99,116]⟩,1,0,1,1),
 (⟨#[107,105,108,108]⟩,2,0,0,0),
 (⟨#[116,114,117,110,99,97,116,101]⟩,1,1,0,0)]
def By(n:Int):AT×Int×Int×Int×Int:=if n<0∨22≤n then(⟨#[]⟩,0,0,0,0)else(ED[n.toNat]?).getD (⟨#[]⟩,0,0,0,0)
def L6(c:Cal):List Int:=[c.a0,c.a1,c.a2,c.a3]
def Bo(c:Cal):Int:=
 if(By c.num).1=⟨#[]⟩then 100 else if(((L6 c).drop (By c.num).2.1.toNat).any fun x=>decide (x≠0))=true then 101
 else if(c.paths.length:Int)≠(By c.num).2.2.1∨(c.args.length:Int)<(By c.num).2.2.2.1∨(By c.num).2.2.2.2<(c.args.length:Int)then 101
 else if(c.paths.any fun p=>decide (128<p.size))=true then 102 else if(c.args.any fun p=>decide (64<p.size))=true then 102 else 0
def FC(n:Nod)(euid egid:Int):Int:=
 if euid=n.uid then Ef .i64 (Ja .i64 n.mode 6) 7 else if egid=n.gid then Ef .i64 (Ja .i64 n.mode 3) 7 else Ef .i64 n.mode 7
def Es(n:Nod)(euid egid want:Int):Bool:=
 if want<0∨7<want then false
 else if euid=0 then decide (Ef .i64 want 1=0)||decide (n.kind=2)||decide (Ef .i64 n.mode 73≠0)
 else decide (Ef .i64 (FC n euid egid) want=want)
def C4(a f:Int):Bool:=decide (Ef .i64 a f≠0)
def Ce(c:Cal):List Int:=
 if c.num=1 then[1]else if c.num=6 then[(if C4 c.a0 1=true then 4 else 0)+(if C4 c.a0 22=true then 2 else 0)]
 else if c.num=8 then[8,2]else if c.num=13 then[2,2]else if c.num=14∨c.num=15∨c.num=17 then[8]else if c.num=16 then[4]else[2]
def Ch(c:Cal):Bool:=
 if c.num=6 then decide (Ef .i64 c.a0 32=0)else decide (c.num=1∨c.num=14∨c.num=15∨c.num=16∨c.num=17∨c.num=21)
def MM(n:Int):Bool:=decide (0≤n)&&decide (n≤511)
def Gq(c:Cal):AT:=c.args.headD ⟨#[]⟩
def Ci(p:Prc)(c:Cal):Int:=
 if c.num=6 then(if c.a0<0∨63<c.a0∨Ef .i64 c.a0 3=0∨MM c.a1=false then 22 else if 8≤(p.opens.length:Int)then 24 else 0)
 else if c.num=9 then(if Gq c=⟨#[]⟩then 2 else if(Gq c).data.toList.any (fun b=>decide (b=0))=true then 22 else 0)
 else if c.num=11∨c.num=14 then(if MM c.a0=false then 22 else 0)
 else if c.num=15 then(if c.a0<0∨4294967295<c.a0∨c.a1<0∨4294967295<c.a1 then 22 else 0)
 else if c.num=17 then(if p.euid≠0 then 1 else 0)
 else if c.num=21 then(if c.a0<0 then 22 else 0)else 0
def MN(s:Spc)(given:AT)(perm:Int)(f:Fnd):Itm:=
 ⟨given,f.path,f.dir,f.name,f.file,1,(B5 s.files f.file).kind,(B5 s.files f.file).mode,(B5 s.files f.file).uid,(B5 s.files f.file).gid,perm⟩
def FD(given:AT)(perm:Int):Itm:=⟨given,⟨#[]⟩,(0,0),⟨#[]⟩,(0,0),1,0,0,0,0,perm⟩
def Ec(s:Spc)(cwd:AQ)(fl:Bool)(x:List Itm×List Fnd×Int)(g:AT×Int):List Itm×List Fnd×Int:=
 if x.2.2=0 then
  (if(CM s cwd g.1 fl).2=0 then(x.1++[MN s g.1 g.2 (CM s cwd g.1 fl).1],x.2.1++[(CM s cwd g.1 fl).1],0)else(x.1++[FD g.1 g.2],x.2.1++[(CM s cwd g.1 fl).1],(CM s cwd g.1 fl).2))
 else(x.1++[FD g.1 g.2],x.2.1++[EB],x.2.2)
def Hp(s:Spc)(cwd:AQ)(fl:Bool)(l:List (AT×Int))(e:Int):List Itm×List Fnd×Int:=l.foldl (Ec s cwd fl) ([],[],e)
def B7(w:Wrk)(i:Nat):Fnd:=(w.found[i]?).getD EB
def C5(w:Wrk)(a:AQ)(want:Int):Bool:=Es (B5 w.s.spc.files a) w.p.euid w.p.egid want
def Gr(w:Wrk)(i:Nat):Bool:=Ay w.s.spc.files (B7 w i).file
def Fw(w:Wrk)(a:AQ):Bool:=(D2 w.s.spc a).isSome||w.s.tab.ps.any fun p=>decide (p.cwd=a)
def Bh(w:Wrk)(R:Dm):Wrk×Int:=if R.2.2=0 then({w with s:=⟨⟨R.1,w.s.spc.mounts⟩,w.s.tab⟩,r:={w.r with changes:=R.2.1}},0)else(w,R.2.2)
def C6(w:Wrk)(R:Tab×Int):Wrk×Int:=if R.2=0 then({w with s:=⟨w.s.spc,R.1⟩},0)else(w,R.2)
def UU(n:Nod)(a:AQ)(x:Itm):Itm:={x with role:=2,file:=a,kind:=n.kind,mode:=n.mode,uid:=n.uid,gid:=n.gid}
def Gs(w:Wrk)(i:Nat)(a:AQ):Wrk:={w with r:={w.r with items:=w.r.items.modify i (UU (B5 w.s.spc.files a) a)}}
def Zs:J3:=((0,0),⟨#[]⟩,(0,0),(0,0))
def UV(l:List J3):AQ:=(l.headD Zs).2.2.2
def MO(w:Wrk)(n:Nod):Nod:={n with uid:=w.p.euid,gid:=w.p.egid}
def EE(w:Wrk)(i:Nat)(n:Nod):Dm:=Dq w.s.spc.files (B7 w i).dir (B7 w i).name (MO w n)
def CT(w:Wrk)(i:Nat)(n:Nod):Wrk×Int:=
 if(EE w i n).2.2=0 then(Gs (Bh w (EE w i n)).1 i (UV (EE w i n).2.1),0)else(w,(EE w i n).2.2)
def Fx(w:Wrk)(i:Nat)(role:Int):Wrk:={w with r:={w.r with items:=w.r.items.modify i fun x=>{x with role:=role}}}
def OC(w:Wrk)(n:Int):Wrk:={w with r:={w.r with exit:=n}}
def Fy(mode:Int):Nod:=⟨0,1,mode,0,0,0,⟨#[]⟩,[]⟩
def HG(w:Wrk)(a:AQ):Wrk×Int:=C6 (OC w (Eb w.s.tab w.p.pid a w.c.a0).2.1) ((Eb w.s.tab w.p.pid a w.c.a0).1,(Eb w.s.tab w.p.pid a w.c.a0).2.2)
def JH(a:Int):Int:=(if C4 a 1=true then 4 else 0)+(if C4 a 18=true then 2 else 0)
def CF(w:Wrk):Wrk×Int:=
 if(B7 w 0).ex=true then
  (if C4 w.c.a0 4=true∧C4 w.c.a0 8=true then(w,17)
  else if(B5 w.s.spc.files (B7 w 0).file).kind=3 then(w,40)
  else if(B5 w.s.spc.files (B7 w 0).file).kind=2∧C4 w.c.a0 22=true then(w,21)
  else if C5 w (B7 w 0).file (JH w.c.a0)=false then(w,13)
  else HG w (B7 w 0).file)
 else
  (if C4 w.c.a0 4=false then(w,2)else if(B7 w 0).slash=true then(w,21)else if C5 w (B7 w 0).dir 2=false then(w,13)
  else if(CT w 0 (Fy w.c.a1)).2≠0 then CT w 0 (Fy w.c.a1)
  else HG (CT w 0 (Fy w.c.a1)).1 (UV (CT w 0 (Fy w.c.a1)).1.r.changes))
def EO(w:Wrk):Wrk×Int:=
 if(B7 w 0).ex=false then(w,2)else if Gr w 0=true then(w,1)else if(B7 w 1).ex=true then(w,17)else if(B7 w 1).slash=true then(w,2)
 else if(B7 w 0).file.1≠(B7 w 1).dir.1 then(w,18)else if C5 w (B7 w 1).dir 2=false then(w,13)
 else if(Dg w.s.spc.files (B7 w 1).dir (B7 w 1).name (B7 w 0).file).2.2≠0 then(w,(Dg w.s.spc.files (B7 w 1).dir (B7 w 1).name (B7 w 0).file).2.2)
 else(Gs (Bh w (Dg w.s.spc.files (B7 w 1).dir (B7 w 1).name (B7 w 0).file)).1 1 (B7 w 0).file,0)
def GK(w:Wrk)(R:Dm):Wrk×Int:=if R.2.2≠0 then(w,R.2.2)else(Fx (Bh w R).1 0 3,0)
def Dh(w:Wrk):Wrk×Int:=
 if(B7 w 0).ex=false then(w,2)
 else if w.c.num=10 then
  (if(B7 w 0).name=⟨#[]⟩∨Gr w 0=true then(w,21)else if C5 w (B7 w 0).dir 2=false then(w,13)
  else GK w (FR w.s.spc.files (B7 w 0).dir (B7 w 0).name))
 else
  (if(B7 w 0).name=⟨#[]⟩then(w,16)else if Gr w 0=false then(w,20)
  else if Fw w (AZ w.s.spc.files (B7 w 0).dir (B7 w 0).name).1=true then(w,16)else if C5 w (B7 w 0).dir 2=false then(w,13)
  else GK w (Ek w.s.spc.files (B7 w 0).dir (B7 w 0).name))
def Hq(w:Wrk)(R:Dm)(x:AQ):Wrk×Int:=
 if R.2.2≠0 then(w,R.2.2)else if 0<(R.2.1.length:Int)then(Gs (Fx (Bh w R).1 0 3) 1 x,0)else((Bh w R).1,0)
def EP(w:Wrk):Wrk×Int:=
 if(B7 w 0).ex=false then(w,2)else if(B7 w 0).name=⟨#[]⟩∨(B7 w 1).name=⟨#[]⟩then(w,16)
 else if(B7 w 1).slash=true∧Gr w 0=false then(w,20)else if(B7 w 0).dir.1≠(B7 w 1).dir.1 then(w,18)
 else if C5 w (B7 w 0).dir 2=false∨C5 w (B7 w 1).dir 2=false then(w,13)
 else if(AZ w.s.spc.files (B7 w 1).dir (B7 w 1).name).2=0∧(AZ w.s.spc.files (B7 w 1).dir (B7 w 1).name).1≠(AZ w.s.spc.files (B7 w 0).dir (B7 w 0).name).1∧Ay w.s.spc.files (AZ w.s.spc.files (B7 w 1).dir (B7 w 1).name).1=true∧Fw w (AZ w.s.spc.files (B7 w 1).dir (B7 w 1).name).1=true then(w,16)
 else Hq w (EM w.s.spc.files (B7 w 0).dir (B7 w 0).name (B7 w 1).dir (B7 w 1).name) (AZ w.s.spc.files (B7 w 0).dir (B7 w 0).name).1
def Hr(w:Wrk)(R:Aj×Int):Wrk×Int:=Bh w (R.1,[],R.2)
def Ed(w:Wrk):Wrk×Int:=
 if(B7 w 0).ex=false then(w,2)
 else if w.c.num=14 then
  (if w.p.euid≠0∧w.p.euid≠(B5 w.s.spc.files (B7 w 0).file).uid then(w,1)
  else Hr w (EL w.s.spc.files (B7 w 0).file w.c.a0 (B5 w.s.spc.files (B7 w 0).file).uid (B5 w.s.spc.files (B7 w 0).file).gid))
 else if w.p.euid≠0 then(w,1)else Hr w (EL w.s.spc.files (B7 w 0).file (B5 w.s.spc.files (B7 w 0).file).mode w.c.a0 w.c.a1)
def Hs(w:Wrk)(R:Spc×Int):Wrk×Int:=if R.2=0 then({w with s:=⟨R.1,w.s.tab⟩},0)else(w,R.2)
def D5(w:Wrk):Wrk×Int:=
 if(B7 w 0).ex=false then(w,2)
 else if w.c.num=1 then(if Gr w 0=true∨C5 w (B7 w 0).file 1=false then(w,13)else C6 w (HC w.s.tab w.p.pid (B7 w 0).path (B7 w 0).name))
 else if w.c.num=16 then(if Gr w 0=false then(w,20)else if C5 w (B7 w 0).file 1=false then(w,13)else C6 w (HB w.s.tab w.p.pid (B7 w 0).file))
 else if w.c.num=17 then(if Gr w 0=false then(w,20)else Hs w (DO w.s.spc w.c.a0 (B7 w 0).file))
 else if Gr w 0=true then(w,21)else if C5 w (B7 w 0).file 2=false then(w,13)else(w,0)
def L7(t:AT):Nod:=⟨0,3,511,0,0,0,t,[]⟩
def MP(mode:Int):Nod:=⟨0,2,mode,0,0,0,⟨#[]⟩,[]⟩
def Ee(w:Wrk):Wrk×Int:=
 if(B7 w 0).ex=true then(w,17)else if(B7 w 0).slash=true∧w.c.num=9 then(w,2)else if C5 w (B7 w 0).dir 2=false then(w,13)
 else if w.c.num=9 then CT w 0 (L7 (Gq w.c))else CT w 0 (MP w.c.a0)
def L8(t:Tab)(dev:Int):Bool:=t.ps.any fun p=>decide (p.cwd.1=dev)||p.opens.any fun d=>decide (d.file.1=dev)
def Ht(w:Wrk)(R:Spc×Int):Wrk×Int:=if R.2=0 then({w with s:=⟨R.1,w.s.tab⟩,r:={w.r with gone:=w.c.a0}},0)else(w,R.2)
def FE(w:Wrk):Wrk×Int:=
 if w.p.euid≠0 then(w,1)else if w.c.a0=0∨Co w.s.spc w.c.a0=false then(w,22)else if L8 w.s.tab w.c.a0=true then(w,16)
 else Ht w (FS w.s.spc w.c.a0)
def L9(w:Wrk)(n:Int):Wrk:={w with r:={w.r with exit:=n,child:=n}}
def Dt(w:Wrk):Wrk×Int:=
 if w.c.num=0 then C6 (L9 w (Er w.s.tab w.p.pid).2.1) ((Er w.s.tab w.p.pid).1,(Er w.s.tab w.p.pid).2.2)
 else if w.c.num=2 then C6 w (Ft w.s.tab w.p.pid)
 else if w.c.num=3 then C6 w (Fu w.s.tab w.p.pid w.c.a0)
 else if w.c.num=4 then C6 w (Fv w.s.tab w.p.pid w.c.a0)
 else if w.c.num=5 then C6 w (Ea w.s.tab w.p.pid w.c.a0)
 else if w.c.num=7 then C6 w (Gp w.s.tab w.p.pid w.c.a0)
 else if w.c.num=18 then FE w
 else if w.c.num=19 then(if w.c.a0<0∨65535<w.c.a0∨Gq w.c=⟨#[]⟩then(w,22)else if w.c.a0=0 then(w,111)else(w,0))
 else if w.c.a1<0∨64<w.c.a1 then(w,22)else C6 w (Fg w.s.tab w.p.pid w.c.a0 (decide (w.c.a1≠0)))
def BY(w:Wrk):Wrk×Int:=
 if w.c.num=6 then CF w else if w.c.num=8 then EO w else if w.c.num=10∨w.c.num=12 then Dh w else if w.c.num=13 then EP w
 else if w.c.num=14∨w.c.num=15 then Ed w else if w.c.num=1∨w.c.num=16∨w.c.num=17∨w.c.num=21 then D5 w
 else if w.c.num=9∨w.c.num=11 then Ee w else Dt w
def Et(s:Syst)(p:Prc)(c:Cal):List Itm×List Fnd×Int:=Hp s.spc p.cwd (Ch c) (c.paths.zip (Ce c)) (Ci p c)
def GL(s:Syst)(pid:Int)(c:Cal):Wrk:=⟨s,AY s.tab pid,c,(Et s (AY s.tab pid) c).2.1,{Ep with items:=(Et s (AY s.tab pid) c).1}⟩
def KM(n:Int):Syst×Int:=if(Eh n).2≠0 then(⟨⟨[],[]⟩,DH⟩,(Eh n).2)else(⟨⟨(Eh n).1,[]⟩,ML (0,1)⟩,0)
def Eu(d:Dsc):List AV:=[.v (.int .i64 d.fd), .v (.int .i64 d.file.1), .v (.int .i64 d.file.2), .v (.int .i64 d.flags)]
def Aq(p:Prc):List AV:=[.v (.int .i64 p.pid), .v (.int .i64 p.ppid), .v (.int .i64 p.uid), .v (.int .i64 p.euid), .v (.int .i64 p.gid), .v (.int .i64 p.egid), .v (.int .i64 p.auid), .v (.int .i64 p.ses), .v (.int .i64 p.cwd.1), .v (.int .i64 p.cwd.2), .v (.string p.comm), .v (.string p.exe), .sl 4 (p.opens.map Eu) none, .v (.bool p.audited)]
def As(t:Tab):List AV:=[.v (.int .i64 t.next), .v (.int .i64 t.nextS), .sl 14 (t.ps.map Aq) none]
def C2(s:Syst):List AV:=[.sl 2 (s.spc.files.map Cc) none, .sl 3 (s.spc.mounts.map Fo) none, .v (.int .i64 s.tab.next), .v (.int .i64 s.tab.nextS), .sl 14 (s.tab.ps.map Aq) none]
def Cj(s:AT):List AV:=[.v (.string s)]
def DC(c:Cal):List AV:=[.v (.int .i64 c.num), .v (.int .i64 c.a0), .v (.int .i64 c.a1), .v (.int .i64 c.a2), .v (.int .i64 c.a3), .sl 1 (c.paths.map Cj) none, .sl 1 (c.args.map Cj) none]
def Cf(y:Itm):List AV:=[.v (.string y.given), .v (.string y.path), .v (.int .i64 y.dir.1), .v (.int .i64 y.dir.2), .v (.string y.name), .v (.int .i64 y.file.1), .v (.int .i64 y.file.2), .v (.int .i64 y.role), .v (.int .i64 y.kind), .v (.int .i64 y.mode), .v (.int .i64 y.uid), .v (.int .i64 y.gid), .v (.int .i64 y.perm)]
def HH(r:Res):List AV:=[.v (.int .i64 r.exit), .v (.int .i64 r.child), .v (.int .i64 r.gone), .sl 13 (r.items.map Cf) none, .sl 7 (r.changes.map DY) none]
def Cx(w:Wrk)(fnd its:AV):List AV:=
 [.sl 2 (w.s.spc.files.map Cc) none, .sl 3 (w.s.spc.mounts.map Fo) none, .v (.int .i64 w.s.tab.next), .v (.int .i64 w.s.tab.nextS), .sl 14 (w.s.tab.ps.map Aq) none,
 .v (.int .i64 w.p.pid), .v (.int .i64 w.p.ppid), .v (.int .i64 w.p.uid), .v (.int .i64 w.p.euid), .v (.int .i64 w.p.gid), .v (.int .i64 w.p.egid), .v (.int .i64 w.p.auid), .v (.int .i64 w.p.ses), .v (.int .i64 w.p.cwd.1), .v (.int .i64 w.p.cwd.2), .v (.string w.p.comm), .v (.string w.p.exe), .sl 4 (w.p.opens.map Eu) none, .v (.bool w.p.audited),
 .v (.int .i64 w.c.num), .v (.int .i64 w.c.a0), .v (.int .i64 w.c.a1), .v (.int .i64 w.c.a2), .v (.int .i64 w.c.a3), .sl 1 (w.c.paths.map Cj) none, .sl 1 (w.c.args.map Cj) none,fnd,
 .v (.int .i64 w.r.exit), .v (.int .i64 w.r.child), .v (.int .i64 w.r.gone),its, .sl 7 (w.r.changes.map DY) none]
structure TabB(t:Tab):Prop where
 few:t.ps.length≤16
 opens:∀p∈t.ps,p.opens.length≤8
 next:t.next≤1073741824
 nextS:t.nextS≤1073741824
structure RowF(sz:Nat){α:Type}(F:α→List AV):Prop where
 len:∀x,(F x).length=sz
 flat:∀x,∀y∈F x,(∃v,y= .v v)∨∃s r,y= .sl s r none
 pos:0<sz
def LB(sz:Nat){α:Type}(F:α→List AV)(l:List α)(cap:Nat):List AV:=CD sz cap (l.map F)
section
variable {α:Type}{sz:Nat}{F:α→List AV}(hF:RowF sz F)
include hF
theorem KN(l:List α):∀r∈l.map F,r.length=sz:=by
 intro r hr;obtain⟨x,_,rfl⟩:=List.mem_map.1 hr;exact hF.len x
theorem OD{l:List α}{cap:Nat}(h:l.length≤cap):(LB sz F l cap).length=cap * sz:=PU (KN hF l) (by simpa using h)
theorem Zt{g:AV→AV}(hv:∀x,g (.v x)= .v x)(hs:∀sz rows,g (.sl sz rows none)= .sl sz rows none)(x:α):(F x).map g=F x:=by
 conv=>rhs;rw[←List.map_id (F x)]
 apply List.map_congr_left;intro y hy;rcases hF.flat x y hy with⟨v,rfl⟩|⟨s,r,rfl⟩
 ·exact hv v
 exact hs s r
theorem Qa{g:AV→AV}(hany:g .any= .any)(hv:∀x,g (.v x)= .v x)(hs:∀sz rows,g (.sl sz rows none)= .sl sz rows none)(l:List α)(cap:Nat):(LB sz F l cap).map g=LB sz F l cap:=by
 unfold LB;rw[Lw g hany,List.map_map]
 congr 1
 apply List.map_congr_left;intro x _;exact Zt hF hv hs x
theorem Cy(g:Nat→Option Nat)(l:List α)(cap:Nat):DF g (LB sz F l cap)=LB sz F l cap:=by
 rw[Lu];exact Qa hF rfl (fun _=>rfl) (fun _ _=>rfl) l cap
theorem Fh(g:Nat→Option Nat)(l:List α)(cap:Nat):Fl g (LB sz F l cap)=LB sz F l cap:=by
 rw[Nn];exact Qa hF rfl (fun _=>rfl) (fun _ _=>rfl) l cap
theorem Zu(g:Nat→Option (List AV))(l:List α)(cap:Nat):GY g (LB sz F l cap)=LB sz F l cap:=by
 rw[Lv];exact Qa hF rfl (fun _=>rfl) (fun _ _=>rfl) l cap
theorem Zv{n m:Nat}(x:α):Ac n m (F x)=true:=by
 refine Pj.2 fun y hy=>?_;rcases hF.flat x y hy with⟨v,rfl⟩|⟨s,r,rfl⟩<;>rfl
theorem Bm{n m:Nat}{l:List α}{cap:Nat}:Ac n m (LB sz F l cap)=true:=by
 refine Pk fun r hr=>?_;obtain⟨x,_,rfl⟩:=List.mem_map.1 hr;exact Zv hF x
theorem Zw{n:Nat}{bx:List (List AV)}{k j:Nat}{l:List α}{cap:Nat}(hn:n≤j)(hj:bx[j]?=some (LB sz F l cap)):DV n bx (k+1) j=some (LB sz F l cap):=by
 have:Nat.blt j n=false:=by rw[←Bool.not_eq_true,Nat.blt_eq];omega
 simp only[DV,this,hj,Option.map_some,Zu hF]
theorem KO{n:Nat}{bx:List (List AV)}{k j:Nat}{l:List α}{cap cap0:Nat}(hn:Nat.ble n j=true)(hj:bx[j]?=some (LB sz F l cap))(hc:l.length≤cap):F1 n (DV n bx (k+1)) (.bs j 0 sz l.length cap0)= .sl sz (l.map F) none:=
 To (BL hn) (Zw hF (BL hn) hj) (KN hF l) (by simp) (by simpa using hc)
theorem Zx{l:List α}{cap i k:Nat}{x:α}{y:AV}(h:l[i]?=some x)(hx:(F x)[k]?=some y):(LB sz F l cap)[0+i * sz+k]?=some y:=Ly (KN hF l) (by rw[List.getElem?_map,h];rfl) hx
theorem JJ{l:List α}{cap i k:Nat}{x x':α}{cs:List AV}(h:l[i]?=some x)(hs:SetAt (F x) k cs (F x'))(hne:cs≠[]):SetAt (LB sz F l cap) (0+i * sz+k) cs (LB sz F (l.set i x') cap):=by
 have key:=Pn (cap:=cap) (KN hF l) (by rw[List.getElem?_map,h];rfl) hs hne;rw[←List.map_set]at key;exact key
theorem UW{l:List α}{cap i:Nat}{x x':α}(h:l[i]?=some x):SetAt (LB sz F l cap) (0+i * sz) (F x') (LB sz F (l.set i x') cap):=by
 have hne:F x'≠[]:=fun e=>by have h1:=hF.len x';have h2:=hF.pos;rw[e]at h1;simp at h1;omega
 have hs:SetAt (F x) 0 (F x') (F x'):=by
  have:=SetAt.whole (xs:=F x') (l:=F x) (b:=[]) (by rw[hF.len,hF.len])
  simpa using this
 have key:=JJ hF (cap:=cap) h hs hne
 simpa using key
theorem UX(x:α)(cap:Nat):F x++List.replicate ((cap - 1) * sz) .any=LB sz F [x] cap:=by
 have _:=hF;unfold LB CD;simp
theorem Qb(acc:List α)(x:α)(cap0 cap:Nat):((LB sz F acc cap0).drop 0).take (acc.length * sz)++F x++List.replicate ((cap - (acc.length+1)) * sz) .any=LB sz F (acc++[x]) cap:=by
 unfold LB;rw[Sq (KN hF acc) (by simp),List.map_append];rfl
theorem Qc{acc:List α}{x:α}{cap:Nat}{row:List AV}(hs:SetAt (LB sz F acc cap) (0+acc.length * sz) (F x) row)(hc:acc.length+1≤cap):row=LB sz F (acc++[x]) cap:=by
 have key:=So (rows:=acc.map F) (sz:=sz) (cap:=cap) (r:=F x) (row':=row) (KN hF acc) (hF.len x) hF.pos (by simpa using hc) (by rw[List.length_map];exact hs);rw[key];unfold LB;rw[List.map_append];rfl
end
theorem D6:RowF 14 Aq:=⟨fun _=>rfl,fun x y h=>by simp[Aq]at h;rcases h with h|h|h|h|h|h|h|h|h|h|h|h|h|h<;>first|exact .inl ⟨_,h⟩|exact .inr ⟨_,_,h⟩,by decide⟩
theorem BA:RowF 13 Cf:=⟨fun _=>rfl,fun x y h=>by simp[Cf]at h;rcases h with h|h|h|h|h|h|h|h|h|h|h|h|h<;>exact .inl ⟨_,h⟩,by decide⟩
theorem CG{f:Nat→Option AV}{bx:List (List AV)}{tk:List (Nat×Nat×List (List AV))}{l:List (Nat×AV)}{N:Dim}(n m:Nat){bx':List (List AV)}{tk':List (Nat×Nat×List (List AV))}(hbp:Af n m bx'=true)(hn:Nat.ble N.ni n=true:=by rfl)(hb:bx.take n=bx':=by rfl)(ht:tk.take m=tk':=by rfl)(hl:Sub n m f l:=by repeat (first|exact Sub.nil|refine Sub.cons _ _ _ rfl rfl ?_|refine Sub.any _ _ ?_|refine Sub.sl _ _ _ _ _ rfl ?_|refine Sub.slnil _ _ _ rfl ?_|(apply Sub.of;(focus exact rfl);(focus exact LeA.of_eq (vb (by simp[*])));(focus exact rfl)))):Weak N ⟨f,⟨bx,tk⟩⟩ ⟨look l,⟨bx',tk'⟩⟩:=Av n m hn hb ht hbp hl
def D7(bx:List (List AV))(g:Nat→Option Nat):List Nat→List (List AV)→List (List AV)
 |[],bc=>bx++bc.map (DF g)
 |i::is,[]=>D7 bx g is []
 |i::is,r::bc=>D7 (bx.set i (DF g r)) g is bc
theorem UY{g:Nat→Option Nat}:∀(is:List Nat) (bx bc:List (List AV)),is.length≤bc.length→(D7 bx g is bc).length=bx.length+(bc.length - is.length)
 |[],bx,bc,_=>by simp[D7]
 |i::is,bx,[],h=>by simp at h
 |i::is,bx,r::bc,h=>by
   unfold D7;rw[UY is _ bc (by simpa using h)];simp
theorem OE{g:Nat→Option Nat}:∀(is:List Nat) (bx bc:List (List AV)) (i:Nat),i∉is→i<bx.length→(D7 bx g is bc)[i]?=bx[i]?
 |[],bx,bc,i,_,hi=>by unfold D7;rw[Ck hi]
 |j::is,bx,[],i,h,hi=>by
   unfold D7;exact OE is bx [] i (fun hm=>h (List.mem_cons_of_mem _ hm)) hi
 |j::is,bx,r::bc,i,h,hi=>by
   unfold D7;rw[OE is _ bc i (fun hm=>h (List.mem_cons_of_mem _ hm)) (by simpa using hi),List.getElem?_set_ne (fun e=>h (by rw[e];exact List.mem_cons_self ..))]
theorem UZ{g:Nat→Option Nat}:∀(is:List Nat) (bx bc:List (List AV)) (k i:Nat) (row:List AV),is.Nodup→i<bx.length→is[k]?=some i→bc[k]?=some row→(D7 bx g is bc)[i]?=some (DF g row)
 |[],_,_,_,_,_,_,_,h,_=>by simp at h
 |j::is,bx,[],k,i,row,_,_,_,h=>by simp at h
 |j::is,bx,r::bc,0,i,row,hn,hi,h1,h2=>by
   simp at h1 h2;subst h1 h2;unfold D7;rw[OE is _ bc j (List.nodup_cons.1 hn).1 (by simpa using hi),List.getElem?_set_self hi]
 |j::is,bx,r::bc,k+1,i,row,hn,hi,h1,h2=>by
   unfold D7;exact UZ is _ bc k i row (List.nodup_cons.1 hn).2 (by simpa using hi) (by simpa using h1) (by simpa using h2)
theorem Ua{g:Nat→Option Nat}:∀(is:List Nat) (bx bc:List (List AV)) (k:Nat) (row:List AV),bc[is.length+k]?=some row→(D7 bx g is bc)[bx.length+k]?=some (DF g row)
 |[],bx,bc,k,row,h=>by
   unfold D7;rw[Dj (by omega),show bx.length+k - bx.length=k by omega,List.getElem?_map];simp at h;rw[h];rfl
 |j::is,bx,[],k,row,h=>by simp at h
 |j::is,bx,r::bc,k,row,h=>by
   unfold D7;have:=Ua (g:=g) is (bx.set j (DF g r)) bc k row (by simpa[Nat.add_right_comm]using h)
   simpa using this
theorem MQ{bx:List (List AV)}{is:List Nat}{bc:List (List AV)}(hn:is.Nodup)(hi:∀i∈is,i<bx.length)(hl:is.length≤bc.length):Back bx is bc (D7 bx (Db is bx.length) is bc):=by
 refine⟨UY is bx bc hl,fun i row h1 h2=>?_,fun k i row h1 h2=>?_,fun k row h=>Ua is bx bc k row h⟩
 ·rw[OE is bx bc i h1 (At.1 h2).1];exact h2
 exact UZ is bx bc k i row hn (hi i (Aw h1)) h1 h2
def CX:List AV:=[.v (.int .i64 0), .v (.int .i64 0), .v (.slice none 0 0)]
def Ct(t:Tab)(x:AV):List AV:=[.v (.int .i64 t.next), .v (.int .i64 t.nextS),x]
def Di(f:Prc→Prc)(l:List Prc)(j:Nat):List Prc:=(l.take j).map f++l.drop j
def Fz(p x:Prc):Prc:=if x.pid=p.pid then p else x
theorem Jp(f:Prc→Prc)(l:List Prc)(j:Nat):(Di f l j).length=l.length:=by
 unfold Di;simp;omega
theorem Qd{f:Prc→Prc}{l:List Prc}{j:Nat}{x:Prc}(h:l[j]?=some x):(Di f l j)[j]?=some x:=by
 have hl:=(At.1 h).1;unfold Di;rw[Dj (by simp;omega)];simp only[List.length_map,List.length_take,List.getElem?_drop];rw[show j+(j - min j l.length)=j by omega];exact h
theorem Ub{f:Prc→Prc}{l:List Prc}{j:Nat}{x:Prc}(h:l[j]?=some x):(Di f l j).set j (f x)=Di f l (j+1):=by
 obtain⟨hl,e⟩:=At.1 h;unfold Di;rw[List.take_add_one,h,List.drop_eq_getElem_cons hl,List.set_append_right _ _ (by simp;omega)];simp only[List.length_map,List.length_take,List.map_append,List.append_assoc];rw[show j - min j l.length=0 by omega];rfl
theorem Zy{f:Prc→Prc}{l:List Prc}{j:Nat}{x:Prc}(h:l[j]?=some x)(hf:f x=x):Di f l j=Di f l (j+1):=by
 rw[←Ub h,hf];have h2:=Qd (f:=f) h;obtain⟨h3,h4⟩:=At.1 h2;rw[←h4,List.set_getElem_self]
theorem Zz(f:Prc→Prc)(l:List Prc):Di f l l.length=l.map f:=by
 unfold Di;simp
theorem Uc{t:Tab}{pid:Int}{p:Prc}(h:L4 t pid=some p):p∈t.ps:=List.mem_of_find?_eq_some h
theorem G0{t:Tab}(ht:TabB t)(pid:Int):(AY t pid).opens.length≤8:=by
 unfold AY
 cases h:L4 t pid with
 |none=>exact BV _
 |some p=>exact ht.opens p (Uc h)
theorem Jq{t:Tab}{pid:Int}(h:C7 t pid=true):0<t.ps.length:=by
 unfold C7 at h;obtain⟨p,hp⟩:=Option.isSome_iff_exists.1 h;exact List.length_pos_of_mem (Uc hp)
theorem Ud{bx:List (List AV)}{n:Nat}(hn:bx.length=n)(t:Tab)(cap:Nat):Back bx [] [As t,Ct t (.bs 3 0 14 t.ps.length cap),Ct t (.bs 3 0 14 t.ps.length cap),LB 14 Aq t.ps cap] (bx++[As t,Ct t (.bs (n+3) 0 14 t.ps.length cap),Ct t (.bs (n+3) 0 14 t.ps.length cap),LB 14 Aq t.ps cap]):=by
 subst hn;have:=MQ (bx:=bx) (is:=[]) (bc:=[As t,Ct t (.bs 3 0 14 t.ps.length cap),Ct t (.bs 3 0 14 t.ps.length cap),LB 14 Aq t.ps cap]) List.nodup_nil (by simp) (by simp);have e1:DF (Db [] bx.length) (As t)=As t:=rfl;have e2:DF (Db [] bx.length) (Ct t (.bs 3 0 14 t.ps.length cap))=Ct t (.bs (bx.length+3) 0 14 t.ps.length cap):=by simp[DF,Ct,Ez,Db]
 simpa[D7,Cy D6,e1,e2]using this
section
theorem MR(p:Prc)(hp:p.opens.length≤1000):AFn prog 137 [.agg (Aq p)] (fun r=>r= .agg (Aq p)):=by
 refine enter Tryz.func137 rfl rfl rfl rfl rfl 0 rfl ?_;refine w_ (b_ (h:=Al (h:=e_ (w_ (f_ (h:=l_ (h:=?_)))))))
 first|refine A7 rfl (Dx rfl rfl rfl (by simp;omega) (by repeat constructor) ?_)|refine A7 rfl (Dy rfl rfl (by simp;omega) (by repeat constructor) ?_)
 refine f_ (h:=s_ (h:=e_ (w_ (l_ (h:=s_ (h:=e_ (A4 (?_))))))));refine A9 ?_;rfl
theorem Ue(t:Tab)(ht:TabB t):AFn prog 138 [.agg (As t)] (fun r=>r= .agg (As t)):=by
 have hfew:=ht.few;refine enter Tryz.func138 rfl rfl rfl rfl rfl 0 rfl ?_;refine w_ (b_ (h:=Al (h:=e_ (w_ (f_ (h:=l_ (h:=f_ (h:=l_ (h:=Ak (h:=Al (h:=s_ (h:=e_ (q_ (w_ (a_ (h:=e_ (Ag (?_))))))))))))))))));refine K4 2 2 29 14 rfl rfl (by repeat constructor) (by repeat constructor) (by repeat constructor) ?_;refine Be (fun m s=>∃j:Nat,j≤t.ps.length∧m=t.ps.length - j∧s=⟨look [(1, .bp 0 0),(2, .bp 1 0),(3, .bp 2 0),(4, .v (.int .i64 (j:Int)))],⟨[As t,CX,Ct t (.sl 14 ((t.ps.take j).map Aq) (some 0))],[(29,14,(t.ps.take j).map Aq)]⟩⟩) (t.ps.length) ((wk 3 1)) (⟨0,BV _,rfl,rfl⟩) ?_;rintro m s ⟨j,hj,rfl,rfl⟩;refine q_ (w_ (m_ (h:=f_ (h:=l_ (h:=n_ (h:=BB (h:=e_ (?_))))))));refine A8 rfl (fun hb1=>?_) (fun hb1=>?_)
 ·have hc1:=bp hb1;obtain⟨hlt,p,hy,hrow,e⟩:=C1 Aq hc1;have hop:p.opens.length≤1000:=by have:=ht.opens p (Aw hy);omega
  refine AB (q_ (Ag (Bf ([(0,As t),(1,CX),(2,Ct t (.sl 14 ((t.ps.take j).map Aq) (some 0)))]) 11 (h:=AO 0 (h:=AJ 1 (h:=AO 2 (h:=AJ 3 (h:=AU 4 (h:=Cg 5 (h:=AJ 6 (h:=?_)))))))))));refine c_ 7 rfl (AG (MR p hop) ?_);rintro r rfl;refine o_ (h:=H0 8 (h:=?_))
  first|refine c_ 9 rfl (Dx rfl rfl rfl (by simp;omega) (by repeat constructor) ?_)|refine c_ 9 rfl (Dy rfl rfl (by simp;omega) (by repeat constructor) ?_)
  refine o_ (h:=AO 10 (h:=?_));refine BH 11 rfl (BC rfl rfl rfl rfl rfl rfl (by repeat constructor) (by repeat constructor) ?_);refine o_ (h:=z_ (h:=Ah (t_ (AR (m_ (h:=BD (h:=a_ (h:=AP (?_)))))))));refine AE ?_;refine⟨_,_,?_,⟨j+1,by omega,rfl,rfl⟩,(by rw[e];exact Av 3 1 rfl rfl rfl rfl ((by repeat (first|exact Sub.nil|refine Ax rfl rfl ?_|refine B1 ?_|refine B2 rfl ?_|refine B3 rfl ?_))))⟩;omega
 have hc1:=bp hb1;have e:=CA Aq hj hc1;subst e;rw[List.take_length];refine BT (Ao (Ao (BU (t_ (w_ (l_ (h:=s_ (h:=e_ (A4 (?_))))))))));refine A9 ?_;rfl
theorem Uf(t:Tab)(ht:TabB t)(h0:0<t.ps.length):ACall prog 138 [.agg (As t)] [] (fun r b tk=>tk=[]∧∃cap,t.ps.length≤cap∧r= .agg (Ct t (.bs 3 0 14 t.ps.length cap))∧b=[As t,Ct t (.bs 3 0 14 t.ps.length cap),Ct t (.bs 3 0 14 t.ps.length cap),LB 14 Aq t.ps cap]):=by
 have hfew:=ht.few;refine enter Tryz.func138 rfl rfl rfl rfl rfl 4 rfl ?_;refine w_ (b_ (h:=Al (h:=e_ (w_ (f_ (h:=l_ (h:=f_ (h:=l_ (h:=Ak (h:=Al (h:=s_ (h:=e_ (q_ (w_ (a_ (h:=e_ (Ag (?_))))))))))))))))));refine Be (fun m s=>∃(j:Nat) (acc:List Prc),j≤t.ps.length∧m=t.ps.length - j∧t.ps.take j=acc∧((acc=[]∧s=⟨look [(1, .bp 0 0),(2, .bp 1 0),(3, .bp 2 0),(4, .v (.int .i64 (j:Int)))],⟨[As t,CX,Ct t (.v (.slice none 0 0))],[]⟩⟩)∨(∃cap,acc.length≤cap∧s=⟨look [(1, .bp 0 0),(2, .bp 1 0),(3, .bp 2 0),(4, .v (.int .i64 (j:Int)))],⟨[As t,CX,Ct t (.bs 3 0 14 acc.length cap),LB 14 Aq acc cap],[]⟩⟩))) (t.ps.length) ((wk 3 0)) (⟨0,[],BV _,rfl,rfl, .inl ⟨rfl,rfl⟩⟩) ?_;rintro m s ⟨j,acc,hj,rfl,hacc,⟨rfl,rfl⟩|⟨cap,hcp,rfl⟩⟩
 ·skip
  refine q_ (w_ (m_ (h:=f_ (h:=l_ (h:=n_ (h:=BB (h:=e_ (?_))))))));refine A8 rfl (fun hb1=>?_) (fun hb1=>?_)
  ·have hc1:=bp hb1;obtain⟨hlt,p,hy,hrow, -⟩:=C1 Aq hc1;have hk:t.ps.take (j+1)=t.ps.take j++[p]:=by rw[List.take_add_one,hy];rfl
   have hop:p.opens.length≤1000:=by have:=ht.opens p (Aw hy);omega
   refine AB (q_ (Ag (Bf ([(0,As t),(1,CX),(2,Ct t (.v (.slice none 0 0)))]) 11 (h:=AO 0 (h:=AJ 1 (h:=AO 2 (h:=AJ 3 (h:=AU 4 (h:=Cg 5 (h:=AJ 6 (h:=?_)))))))))));refine c_ 7 rfl (AG (MR p hop) ?_);rintro r rfl;refine o_ (h:=H0 8 (h:=?_));refine c_ 9 rfl (NX rfl rfl JD (by omega) (by omega) ?_);rintro cap2 k bx2 hcp hs;rw[show CQ (.agg (Aq p))++List.replicate ((cap2 - 1) * 14) AV.any=LB 14 Aq [p] cap2 from UX D6 p cap2]at hs;obtain⟨rfl,rfl⟩:k=3∧bx2=[_,_,_,_]:=hs.eq;refine o_ (h:=?_);refine AO 10 (h:=?_);refine BH 11 rfl (BC rfl rfl rfl rfl rfl rfl (by repeat constructor) (by repeat constructor) ?_);refine o_ (h:=z_ (h:=Ah (t_ (AR (m_ (h:=BD (h:=a_ (h:=AP (?_)))))))));refine AE ?_;exact⟨t.ps.length - (j+1),_,by omega,⟨j+1,[p],by omega,rfl,(by rw[hk,hacc];rfl), .inr ⟨cap2,hcp,rfl⟩⟩,Av 4 0 rfl rfl rfl (by simp[Af,Ac,Aa,Bm D6,As,Ct,CX]) ((by repeat (first|exact Sub.nil|refine Ax rfl rfl ?_|refine B1 ?_|refine B2 rfl ?_|refine B3 rfl ?_)))⟩
  have hc1:=bp hb1;exfalso;have e:=CA Aq hj hc1;rw[e,List.take_length]at hacc;rw[hacc]at h0;exact absurd h0 (by simp)
 skip
 refine q_ (w_ (m_ (h:=f_ (h:=l_ (h:=n_ (h:=BB (h:=e_ (?_))))))));refine A8 rfl (fun hb2=>?_) (fun hb2=>?_)
 ·have hc2:=bp hb2;obtain⟨hlt,p,hy,hrow, -⟩:=C1 Aq hc2;have hk:t.ps.take (j+1)=t.ps.take j++[p]:=by rw[List.take_add_one,hy];rfl
  have hop:p.opens.length≤1000:=by have:=ht.opens p (Aw hy);omega
  refine AB (q_ (Ag (Bf ([(0,As t),(1,CX),(2,Ct t (.bs 3 0 14 acc.length cap))]) 11 (h:=AO 0 (h:=AJ 1 (h:=AO 2 (h:=AJ 3 (h:=AU 4 (h:=Cg 5 (h:=AJ 6 (h:=?_)))))))))));refine c_ 7 rfl (AG (MR p hop) ?_);rintro r rfl;refine o_ (h:=H0 8 (h:=?_));refine c_ 9 rfl (Kh rfl rfl rfl (by rw[OD D6 hcp];omega) JD (by omega) (by have:=congrArg List.length hacc;simp at this;omega) ?_ ?_)
  ·rintro hg row2 bx2 hs hb;obtain rfl:=Qc D6 hs hg;obtain rfl:bx2=[_,_,_,_]:=hb.one.2;refine o_ (h:=?_);refine AO 10 (h:=?_);refine BH 11 rfl (BC rfl rfl rfl rfl rfl rfl (by repeat constructor) (by repeat constructor) ?_);refine o_ (h:=z_ (h:=Ah (t_ (AR (m_ (h:=BD (h:=a_ (h:=AP (?_)))))))));refine AE ?_
   first|exact⟨t.ps.length - (j+1),_,by omega,⟨j+1,acc++[p],by omega,rfl,(by rw[hk,hacc]), .inr ⟨cap,by simpa using hg,by rw[List.length_append];rfl⟩⟩,Av 4 0 rfl rfl rfl (by simp[Af,Ac,Aa,Bm D6,As,Ct,CX]) ((by repeat (first|exact Sub.nil|refine Ax rfl rfl ?_|refine B1 ?_|refine B2 rfl ?_|refine B3 rfl ?_)))⟩|exact⟨t.ps.length - (j+1),_,by omega,⟨j+1,acc++[p],by omega,rfl,(by rw[hk,hacc]), .inr ⟨cap3,by simpa using hcp3,by rw[List.length_append];rfl⟩⟩,DQ [0,1,2,4] (fun i hi=>absurd hi (Nat.not_lt_zero i)) (by decide) (.cons _ _ _ _ _ rfl rfl (.cons _ _ _ _ _ rfl rfl (.cons _ _ _ _ _ rfl rfl (.cons _ _ _ _ _ rfl (Fh D6 _ _ _) .nil)))) (by repeat (first|exact SubK.nil|refine SubK.cons _ _ _ _ rfl (AA _) ?_))⟩
  rintro hg cap3 k bx2 hcp3 hs;rw[show((LB 14 Aq acc cap).drop 0).take (acc.length * 14)++CQ (.agg (Aq p))++List.replicate ((cap3 - (acc.length+1)) * 14) AV.any=LB 14 Aq (acc++[p]) cap3 from Qb D6 acc p cap cap3]at hs;obtain⟨rfl,rfl⟩:k=4∧bx2=[_,_,_,_,_]:=hs.eq;refine o_ (h:=?_);refine AO 10 (h:=?_);refine BH 11 rfl (BC rfl rfl rfl rfl rfl rfl (by repeat constructor) (by repeat constructor) ?_);refine o_ (h:=z_ (h:=Ah (t_ (AR (m_ (h:=BD (h:=a_ (h:=AP (?_)))))))));refine AE ?_
  first|exact⟨t.ps.length - (j+1),_,by omega,⟨j+1,acc++[p],by omega,rfl,(by rw[hk,hacc]), .inr ⟨cap,by simpa using hg,by rw[List.length_append];rfl⟩⟩,Av 4 0 rfl rfl rfl (by simp[Af,Ac,Aa,Bm D6,As,Ct,CX]) ((by repeat (first|exact Sub.nil|refine Ax rfl rfl ?_|refine B1 ?_|refine B2 rfl ?_|refine B3 rfl ?_)))⟩|exact⟨t.ps.length - (j+1),_,by omega,⟨j+1,acc++[p],by omega,rfl,(by rw[hk,hacc]), .inr ⟨cap3,by simpa using hcp3,by rw[List.length_append];rfl⟩⟩,DQ [0,1,2,4] (fun i hi=>absurd hi (Nat.not_lt_zero i)) (by decide) (.cons _ _ _ _ _ rfl rfl (.cons _ _ _ _ _ rfl rfl (.cons _ _ _ _ _ rfl rfl (.cons _ _ _ _ _ rfl (Fh D6 _ _ _) .nil)))) (by repeat (first|exact SubK.nil|refine SubK.cons _ _ _ _ rfl (AA _) ?_))⟩
 have hc2:=bp hb2;have e:=CA Aq hj hc2;refine BT (Ao (Ao (BU (t_ (w_ (l_ (h:=s_ (h:=e_ (A4 (?_))))))))));rw[e,List.take_length]at hacc;subst hacc;refine Ai (r:= .agg (Ct t (.bs 3 0 14 t.ps.length cap))) none (h4:=(by simp[Af,Ac,Aa,Bm D6,As,Ct])) (h5:=(AA _)) (h6:=⟨rfl,cap,hcp,rfl,rfl⟩)
theorem GM(t:Tab)(pid:Int)(ht:TabB t):AFn prog 93 [.agg (As t), .v (.int .i64 pid)] (fun r=>r= .tup [.agg (Aq (AY t pid)), .v (.bool (C7 t pid))]):=by
 have hfew:=ht.few;refine enter Tryz.func93 rfl rfl rfl rfl rfl 0 rfl ?_;refine w_ (b_ (h:=Al (h:=a_ (h:=e_ (q_ (w_ (a_ (h:=e_ (Ag (?_))))))))));refine Be (fun m s=>∃j:Nat,j≤t.ps.length∧m=t.ps.length - j∧(∀i y,i<j→t.ps[i]?=some y→decide (y.pid=pid)=false)∧s=⟨look [(1, .v (.int .i64 pid)),(2, .bp 0 0),(4, .bp 1 0),(6, .v (.int .i64 (j:Int)))],⟨[As t,[.v (.int .i64 0), .v (.int .i64 0), .v (.int .i64 0), .v (.int .i64 0), .v (.int .i64 0), .v (.int .i64 0), .v (.int .i64 0), .v (.int .i64 0), .v (.int .i64 0), .v (.int .i64 0), .v (.string ⟨#[]⟩), .v (.string ⟨#[]⟩), .v (.slice none 0 0), .v (.bool false)]],[]⟩⟩) (t.ps.length) ((wk 2 0)) (⟨0,BV _,rfl,fun i y hi=>by omega,rfl⟩) ?_;rintro m s ⟨j,hj,rfl,ha,rfl⟩;refine q_ (w_ (m_ (h:=f_ (h:=l_ (h:=n_ (h:=BB (h:=e_ (?_))))))));refine A8 rfl (fun hb1=>?_) (fun hb1=>?_)
 ·have hc1:=bp hb1;obtain⟨hlt,p,hy,hrow, -⟩:=C1 Aq hc1;have hop:p.opens.length≤1000:=by have:=ht.opens p (Aw hy);omega
  refine AB (q_ (Ag (w_ (f_ (h:=l_ (h:=m_ (h:=i_ (h:=f_ (h:=l_ (h:=m_ (h:=AD (h:=e_ (?_)))))))))))));refine A8 rfl (fun hb2=>?_) (fun hb2=>?_)
  ·have hc2:=bp hb2;have hg:L4 t pid=some p:=Ll hy (decide_eq_true hc2) ha;refine w_ (f_ (h:=l_ (h:=m_ (h:=i_ (h:=l_ (h:=?_))))));refine A7 rfl (AG (MR p hop) ?_);rintro r rfl;refine s_ (h:=a_ (h:=e_ (A4 (AK (A6 (A6 (AK (A6 (?_)))))))));refine A9 ?_;rw[AY,C7,hg];rfl
  have hc2:=bp hb2;refine Au (Ah (t_ (AR (m_ (h:=BD (h:=a_ (h:=AP (?_))))))));refine AE ?_;refine⟨_,_,?_,⟨j+1,by omega,rfl,F8 hy ha (decide_eq_false hc2),rfl⟩,(wk 2 0)⟩;omega
 have hc1:=bp hb1;have e:=CA Aq hj hc1;subst e;have hg:L4 t pid=none:=Lm ha;refine BT (Ao (Ao (BU (t_ (w_ (Ak (h:=s_ (h:=a_ (h:=e_ (A4 (?_)))))))))));refine Ai (r:= .tup [.agg (Aq (AY t pid)), .v (.bool (C7 t pid))]) none (h5:=?_) (h6:=⟨rfl,rfl,rfl⟩);rw[AY,C7,hg];exact(by repeat (first|exact AA _|exact LeA.nil _|exact LeL.refl _|refine LeA.agg ?_|refine LeA.tup ?_|exact LeL.nil|refine LeL.cons ?_ ?_|exact LeA.any _))
theorem KP(t:Tab)(p:Prc)(ht:TabB t)(h0:0<t.ps.length)(hp:p.opens.length≤1000):AFn prog 250 [.agg (As t), .agg (Aq p)] (fun r=>r= .agg (As (Ff t p))):=by
 have hfew:=ht.few;refine enter Tryz.func250 rfl rfl rfl rfl rfl 0 rfl ?_;refine w_ (b_ (h:=b_ (h:=Al (h:=e_ (?_)))));refine BR (fun s=>∃cap,t.ps.length≤cap∧s=⟨look [(3, .bp 1 0),(4, .bp 2 0),(5, .bp 3 0)],⟨[As t,Aq p,CX,Ct t (.bs 4 0 14 (Di (Fz p) t.ps 0).length cap),LB 14 Aq (Di (Fz p) t.ps 0) cap],[]⟩⟩) ?_ ?_
 ·skip
  refine AR (l_ (h:=?_));refine A7 rfl (Bk [] rfl (.cons _ _ _ _ _ rfl (AA _) .nil) (by decide) .nil (Uf t ht h0) ?_);rintro r bc tc ⟨rfl,cap,hcap,rfl,rfl⟩;refine⟨rfl,_,(Ud (n:=3) rfl t cap:Back _ [] _ [_,_,_,_,_,_,_]),?_⟩;refine Al (h:=s_ (h:=AP (?_)));refine AE ?_;exact⟨_,⟨cap,hcap,rfl⟩,DQ [0,1,2,7,6] (fun i hi=>absurd hi (Nat.not_lt_zero i)) (by decide) (.cons _ _ _ _ _ rfl rfl (.cons _ _ _ _ _ rfl rfl (.cons _ _ _ _ _ rfl rfl (.cons _ _ _ _ _ rfl (by rw[Jp];rfl) (.cons _ _ _ _ _ rfl (Fh D6 _ _ _) .nil))))) (by repeat (first|exact SubK.nil|refine SubK.cons _ _ _ _ rfl (AA _) ?_))⟩
 rintro s ⟨cap,hcap,rfl⟩;refine BR (fun s=>s=⟨look [(4, .bp 2 0),(5, .bp 3 0)],⟨[As t,Aq p,CX,As (Ff t p)],[]⟩⟩) ?_ ?_
 ·skip
  refine w_ (a_ (h:=e_ (Ag (?_))));refine Be (fun m s=>∃j:Nat,j≤t.ps.length∧m=t.ps.length - j∧s=⟨look [(3, .bp 1 0),(4, .bp 2 0),(5, .bp 3 0),(6, .v (.int .i64 (j:Int)))],⟨[As t,Aq p,CX,Ct t (.bs 4 0 14 (Di (Fz p) t.ps j).length cap),LB 14 Aq (Di (Fz p) t.ps j) cap],[]⟩⟩) (t.ps.length) (Bb 5 0 (by simp[Af,Ac,Aa,Bm D6,As,Ct,CX,Aq])) (⟨0,BV _,rfl,rfl⟩) ?_;rintro m s ⟨j,hj,rfl,rfl⟩;refine q_ (w_ (m_ (h:=f_ (h:=l_ (h:=?_)))));refine A7 rfl (P5 rfl ?_);refine BB (h:=e_ (?_));refine A8 rfl (fun hb1=>?_) (fun hb1=>?_)
  ·have hc1:=bp hb1;have hlt:j<t.ps.length:=by rw[Jp]at hc1;omega
   obtain⟨x,hy⟩:∃x,t.ps[j]?=some x:=⟨_,BJ hlt⟩;have hl1:j<(Di (Fz p) t.ps j).length:=by rw[Jp];exact hlt
   refine AB (q_ (Ag (q_ (Cp 9 (h:=AO 0 (h:=AJ 1 (h:=AU 2 (h:=?_))))))));refine Eg (i:=3) rfl (DE (m:=j) rfl rfl rfl hl1 ⟨rfl,rfl⟩) ?_;refine AO 4 (h:=?_);refine Eg (i:=5) rfl (Bt rfl rfl (Zx D6 (Qd hy) rfl) ⟨rfl,rfl⟩) ?_;refine AO 6 (h:=AJ 7 (h:=H3 8 (h:=z_ (h:=t_ (?_)))));refine A8 rfl (fun hb2=>?_) (fun hb2=>?_)
   ·have hc2:=bp hb2;have hu:(Di (Fz p) t.ps j).set j p=Di (Fz p) t.ps (j+1):=by rw[←Ub hy,Fz,if_pos hc2]
    refine AR (f_ (h:=l_ (h:=m_ (h:=l_ (h:=?_)))));refine A7 rfl (DE (m:=j) rfl rfl rfl hl1 ?_);refine K1 (BC rfl rfl rfl rfl rfl rfl (UW D6 (x':=p) (Qd hy)) (by repeat constructor) ?_);refine AP (Ah (t_ (AR (m_ (h:=BD (h:=a_ (h:=AP (?_))))))));refine AE ?_;exact⟨t.ps.length - (j+1),_,by omega,⟨j+1,by omega,rfl,rfl⟩,(by first|(rw[hu,show(Di (Fz p) t.ps j).length=(Di (Fz p) t.ps (j+1)).length by rw[Jp,Jp]];exact Bb 5 0 (by simp[Af,Ac,Aa,Bm D6,As,Ct,CX,Aq]))|(rw[hu];exact Bb 5 0 (by simp[Af,Ac,Aa,Bm D6,As,Ct,CX,Aq])))⟩
   have hc2:=bp hb2;have hu:Di (Fz p) t.ps j=Di (Fz p) t.ps (j+1):=Zy hy (if_neg hc2);refine Au (Ah (t_ (AR (m_ (h:=BD (h:=a_ (h:=AP (?_))))))));refine AE ?_;exact⟨t.ps.length - (j+1),_,by omega,⟨j+1,by omega,rfl,rfl⟩,(by first|(rw[hu,show(Di (Fz p) t.ps j).length=(Di (Fz p) t.ps (j+1)).length by rw[Jp,Jp]];exact Bb 5 0 (by simp[Af,Ac,Aa,Bm D6,As,Ct,CX,Aq]))|(rw[hu];exact Bb 5 0 (by simp[Af,Ac,Aa,Bm D6,As,Ct,CX,Aq])))⟩
  have hc1:=bp hb1;obtain rfl:j=t.ps.length:=by rw[Jp]at hc1;omega
  rw[Zz];refine BT (Ao (Ao (BU (?_))));refine AE ?_;exact⟨_,rfl,ET 4 1 rfl (congrArg (fun x=>[As t,Aq p,CX,[.v (.int .i64 t.next), .v (.int .i64 t.nextS),x]]) (KO D6 rfl rfl (by rw[List.length_map];exact hcap))) (.cons _ _ _ _ rfl (AA _) (.cons _ _ _ _ rfl (AA _) .nil))⟩
 rintro s rfl;refine w_ (l_ (h:=s_ (h:=e_ (A4 (?_)))));refine A9 ?_;rfl
end
def KQ(r:AT×Int×Int×Int×Int):List AV:=[.v (.string r.1), .v (.int .i64 r.2.1), .v (.int .i64 r.2.2.1), .v (.int .i64 r.2.2.2.1), .v (.int .i64 r.2.2.2.2)]
theorem aA{a b:Nat}(h:a<b):Nat.blt a b=true:=by rw[Nat.blt_eq];exact h
theorem aB{c:Cal}{j:Nat}(h:j<4):∃x,(L6 c)[j]?=some x∧(DC c)[1+j]?=some (.v (.int .i64 x)):=by
 match j,h with
 |0,_=>exact⟨_,rfl,rfl⟩
 |1,_=>exact⟨_,rfl,rfl⟩
 |2,_=>exact⟨_,rfl,rfl⟩
 |3,_=>exact⟨_,rfl,rfl⟩
theorem aC{l:List Int}{n j:Nat}{x:Int}(hn:n≤j)(hy:l[j]?=some x)(hx:x≠0):((l.drop n).any fun x=>decide (x≠0))=true:=by
 rw[List.any_eq_true];refine⟨x,?_,by simpa using hx⟩;refine Aw (i:=j - n) ?_;rw[List.getElem?_drop,show n+(j - n)=j by omega];exact hy
theorem aD{l:List Int}{n:Nat}(h:∀i x,n≤i→l[i]?=some x→x=0):((l.drop n).any fun x=>decide (x≠0))=false:=by
 rw[List.any_eq_false];intro x hx;obtain⟨i,hi⟩:=List.mem_iff_getElem?.1 hx;rw[List.getElem?_drop]at hi;simp[h _ x (Nat.le_add_right n i) hi]
theorem Ug(n:Int):0≤(By n).2.1∧(By n).2.1≤2:=by
 unfold By;split
 ·decide
 rename_i h;obtain⟨m,rfl⟩:=Int.eq_ofNat_of_zero_le (show 0≤n by omega);have hm:m<22:=by omega
 have key:∀m,m<22→0≤((ED[m]?).getD (⟨#[]⟩,0,0,0,0)).2.1∧((ED[m]?).getD (⟨#[]⟩,0,0,0,0)).2.1≤2:=by decide
 exact key m hm
section
theorem Uh(n:Nod)(euid egid want:Int):AFn prog 249 [.agg (Am n), .v (.int .i64 euid), .v (.int .i64 egid), .v (.int .i64 want)] (fun r=>r= .v (.bool (Es n euid egid want))):=by
 refine enter Tryz.func249 rfl rfl rfl rfl rfl 0 rfl ?_;refine w_ (b_ (h:=a_ (h:=e_ (q_ (w_ (m_ (h:=BB (h:=m_ (h:=?_)))))))));refine AW false rfl rfl (fun hb1=>?_) (fun hb1=>?_)
 ·have hc1:=bp hb1;refine A3 (h:=A3 (h:=AF (h:=e_ (B8 (h:=w_ (a_ (h:=e_ (A4 (A6 (?_))))))))));refine A9 ?_
  first|(exfalso;first|contradiction|omega)|(exact vb (by first|(simp[Es,FC, *];done)|(simp[Es,FC, *];intro h;exact absurd ((by assumption:euid=n.uid).trans h) (by assumption))))
 have hc1:=bp hb1;refine m_ (h:=Bl (h:=AM (h:=e_ (?_))));refine A8 rfl (fun hb2=>?_) (fun hb2=>?_)
 ·have hc2:=bp hb2;refine w_ (a_ (h:=e_ (A4 (A6 (?_)))));refine A9 ?_
  first|(exfalso;first|contradiction|omega)|(exact vb (by first|(simp[Es,FC, *];done)|(simp[Es,FC, *];intro h;exact absurd ((by assumption:euid=n.uid).trans h) (by assumption))))
 have hc2:=bp hb2;refine AB (q_ (w_ (m_ (h:=AD (h:=e_ (?_))))));refine A8 rfl (fun hb3=>?_) (fun hb3=>?_)
 ·have hc3:=bp hb3;refine w_ (m_ (h:=DR (h:=AD (h:=m_ (h:=?_)))));refine AW false rfl rfl (fun hb4=>?_) (fun hb4=>?_)
  ·have hc4:=bp hb4;refine A3 (h:=A3 (h:=A3 (h:=AF (h:=m_ (h:=A3 (h:=A3 (h:=A3 (h:=A3 (h:=AF (h:=a_ (h:=e_ (A4 (A6 (?_))))))))))))));refine A9 ?_
   first|(exfalso;first|contradiction|omega)|(exact vb (by first|(simp[Es,FC, *];done)|(simp[Es,FC, *];intro h;exact absurd ((by assumption:euid=n.uid).trans h) (by assumption))))
  have hc4:=bp hb4;refine f_ (h:=l_ (h:=AD (h:=AM (h:=m_ (h:=?_)))));refine AW false rfl rfl (fun hb5=>?_) (fun hb5=>?_)
  ·have hc5:=bp hb5;refine A3 (h:=A3 (h:=A3 (h:=A3 (h:=AF (h:=a_ (h:=e_ (A4 (A6 (?_)))))))));refine A9 ?_
   first|(exfalso;first|contradiction|omega)|(exact vb (by first|(simp[Es,FC, *];done)|(simp[Es,FC, *];intro h;exact absurd ((by assumption:euid=n.uid).trans h) (by assumption))))
  have hc5:=bp hb5;refine f_ (h:=l_ (h:=DR (h:=Ap (h:=AM (h:=a_ (h:=e_ (A4 (A6 (?_)))))))));refine A9 ?_
  first|(exfalso;first|contradiction|omega)|(exact vb (by first|(simp[Es,FC, *];done)|(simp[Es,FC, *];intro h;exact absurd ((by assumption:euid=n.uid).trans h) (by assumption))))
 have hc3:=bp hb3;refine AB (w_ (f_ (h:=l_ (h:=DR (h:=a_ (h:=e_ (q_ (w_ (m_ (h:=f_ (h:=l_ (h:=AD (h:=e_ (?_))))))))))))));refine A8 rfl (fun hb6=>?_) (fun hb6=>?_)
 ·have hc6:=bp hb6;refine AR (f_ (h:=l_ (h:=Li (h:=DR (h:=a_ (h:=e_ (w_ (m_ (h:=m_ (h:=DR (h:=m_ (h:=AD (h:=a_ (h:=e_ (A4 (?_))))))))))))))));refine A9 ?_
  first|(exfalso;first|contradiction|omega)|(exact vb (by first|(simp[Es,FC, *];done)|(simp[Es,FC, *];intro h;exact absurd ((by assumption:euid=n.uid).trans h) (by assumption))))
 have hc6:=bp hb6;refine w_ (m_ (h:=f_ (h:=l_ (h:=AD (h:=e_ (?_))))));refine A8 rfl (fun hb7=>?_) (fun hb7=>?_)
 ·have hc7:=bp hb7;refine AR (f_ (h:=l_ (h:=Li (h:=DR (h:=a_ (h:=e_ (w_ (m_ (h:=m_ (h:=DR (h:=m_ (h:=AD (h:=a_ (h:=e_ (A4 (?_))))))))))))))));refine A9 ?_
  first|(exfalso;first|contradiction|omega)|(exact vb (by first|(simp[Es,FC, *];done)|(simp[Es,FC, *];intro h;exact absurd ((by assumption:euid=n.uid).trans h) (by assumption))))
 have hc7:=bp hb7;refine AB (w_ (m_ (h:=m_ (h:=DR (h:=m_ (h:=AD (h:=a_ (h:=e_ (A4 (?_))))))))));refine A9 ?_
 first|(exfalso;first|contradiction|omega)|(exact vb (by first|(simp[Es,FC, *];done)|(simp[Es,FC, *];intro h;exact absurd ((by assumption:euid=n.uid).trans h) (by assumption))))
theorem Qe(n:Int):AFn prog 144 [.v (.int .i64 n)] (fun r=>r= .v (.bool (MM n))):=by
 refine enter Tryz.func144 rfl rfl rfl rfl rfl 0 rfl ?_;refine w_ (a_ (h:=e_ (w_ (m_ (h:=Cw (h:=m_ (h:=?_)))))));refine AW true rfl rfl (fun hb1=>?_) (fun hb1=>?_)
 ·have hc1:=bp hb1;refine m_ (h:=E6 (h:=AF (h:=a_ (h:=e_ (A4 (?_))))));refine A9 ?_
  first|(exfalso;first|contradiction|omega)|(exact vb (by simp[MM, *]))
 have hc1:=bp hb1;refine A3 (h:=A3 (h:=AM (h:=a_ (h:=e_ (A4 (?_))))));refine A9 ?_
 first|(exfalso;first|contradiction|omega)|(exact vb (by simp[MM, *]))
theorem Ui:AFn prog 190 [] (fun r=>r= .sl 5 (ED.map KQ) none):=by
 refine enter Tryz.func190 rfl rfl rfl rfl rfl 0 rfl ?_;refine w_ (a_ (h:=e_ (w_ (Ak (h:=Ak (h:=Ak (h:=Ak (h:=Ak (h:=Ak (h:=Ak (h:=Ak (h:=Ak (h:=Ak (h:=Ak (h:=Ak (h:=Ak (h:=Ak (h:=Ak (h:=Ak (h:=Ak (h:=Ak (h:=Ak (h:=Ak (h:=?_))))))))))))))))))))))));refine Ak (h:=Ak (h:=Bd (h:=a_ (h:=e_ (A4 (?_))))));refine A9 ?_;rfl
theorem aE:AFn prog 189 [] (fun r=>r= .v (.int .i64 22)):=by
 refine enter Tryz.func189 rfl rfl rfl rfl rfl 0 rfl ?_;refine w_ (a_ (h:=e_ (w_ (?_))));refine A7 rfl (AG (Ui) ?_);rintro r rfl;refine n_ (h:=a_ (h:=e_ (A4 (?_))));refine A9 ?_;rfl
theorem Uj(n:Int):AFn prog 139 [.v (.int .i64 n)] (fun r=>r= .agg (KQ (By n))):=by
 refine enter Tryz.func139 rfl rfl rfl rfl rfl 0 rfl ?_;refine w_ (Al (h:=e_ (q_ (w_ (m_ (h:=BB (h:=m_ (h:=?_))))))));refine AW false rfl rfl (fun hb1=>?_) (fun hb1=>?_)
 ·have hc1:=bp hb1;refine A3 (h:=A3 (h:=A3 (h:=AF (h:=e_ (B8 (h:=w_ (Ak (h:=s_ (h:=e_ (A4 (A6 (?_))))))))))));refine A9 ?_;rw[By,if_pos (by omega)];rfl
 have hc1:=bp hb1;refine m_ (h:=?_);refine B4 (AG (aE) ?_);rintro r rfl;refine Cw (h:=AM (h:=e_ (?_)));refine A8 rfl (fun hb2=>?_) (fun hb2=>?_)
 ·have hc2:=bp hb2;refine w_ (Ak (h:=s_ (h:=e_ (A4 (A6 (?_))))));refine A9 ?_;rw[By,if_pos (by omega)];rfl
 have hc2:=bp hb2;refine AB (w_ (?_));refine A7 rfl (AG (Ui) ?_);rintro r rfl;obtain⟨m,rfl⟩:=Int.eq_ofNat_of_zero_le (show 0≤n by omega);obtain⟨row,hrow⟩:∃row,ED[m]?=some row:=⟨ED[m]'(by show m<22;omega),BJ (by show m<22;omega)⟩;have hrow2:(ED.map KQ)[m]?=some (KQ row):=by rw[List.getElem?_map,hrow];rfl
 refine m_ (h:=?_);refine A7 rfl (Cl (n:=m) rfl rfl rfl hrow2 ?_);refine l_ (h:=s_ (h:=e_ (A4 (?_))));refine A9 ?_;rw[By,if_neg (by omega),Int.toNat_natCast,hrow];rfl
theorem Uk(c:Cal)(hp:c.paths.length≤1000)(ha:c.args.length≤1000):AFn prog 95 [.agg (DC c)] (fun r=>r= .v (.int .i64 (Bo c))):=by
 obtain⟨n0,hn0⟩:=Int.eq_ofNat_of_zero_le (Ug c.num).1;have hpl:(c.paths.map Cj).length=c.paths.length:=List.length_map _;have hal:(c.args.map Cj).length=c.args.length:=List.length_map _;have hn2:n0≤2:=by have:=(Ug c.num).2;omega
 refine enter Tryz.func95 rfl rfl rfl rfl rfl 0 rfl ?_;refine w_ (b_ (h:=a_ (h:=e_ (w_ (f_ (h:=l_ (h:=?_)))))));refine A7 rfl (AG (Uj c.num) ?_);rintro r rfl;refine Al (h:=s_ (h:=e_ (q_ (w_ (f_ (h:=l_ (h:=AD (h:=e_ (?_)))))))));refine A8 rfl (fun hb1=>?_) (fun hb1=>?_)
 ·have hc1:=bp hb1;refine w_ (a_ (h:=e_ (A4 (A6 (?_)))));refine A9 ?_
  first|(exfalso;first|contradiction|omega)|(exact vi (by first|(rw[Bo,if_pos hc1];done)|(rw[Bo,if_neg hc1,if_pos hany];done)|(rw[Bo,if_neg hc1,if_neg (by rw[hany];simp),if_pos (by omega)];done)|(rw[Bo,if_neg hc1,if_neg (by rw[hany];simp),if_neg (by omega),if_pos hany2];done)|(rw[Bo,if_neg hc1,if_neg (by rw[hany];simp),if_neg (by omega),if_neg (by rw[hany2];simp),if_pos hany3];done)|(rw[Bo,if_neg hc1,if_neg (by rw[hany];simp),if_neg (by omega),if_neg (by rw[hany2];simp),if_neg (by rw[hany3];simp)];done)))
 have hc1:=bp hb1;refine AB (q_ (w_ (f_ (h:=l_ (h:=a_ (h:=e_ (Ag (?_))))))));refine Be (fun m s=>∃j:Nat,n0≤j∧j≤4∧m=4 - j∧(∀i x,n0≤i→i<j→(L6 c)[i]?=some x→x=0)∧s=⟨look [(1, .bp 0 0),(3, .bp 1 0),(4, .v (.int .i64 (j:Int)))],⟨[DC c,KQ (By c.num)],[]⟩⟩) (4 - n0) (by rw[←hn0];exact(wk 2 0)) (⟨n0,BN _,by omega,rfl,fun i x h1 h2=>by omega,rfl⟩) ?_;rintro m s ⟨j,hlo,hj,rfl,hz,rfl⟩;refine q_ (w_ (m_ (h:=BB (h:=e_ (?_)))));refine A8 rfl (fun hb2=>?_) (fun hb2=>?_)
 ·have hc2:=bp hb2;obtain⟨x,hy,hrx⟩:=aB (c:=c) (j:=j) (by omega);refine AB (q_ (Ag (w_ (m_ (h:=f_ (h:=?_))))));refine A7 rfl (BW (len:=4) (sz:=1) (n:=j) (by kernel_rfl) rfl rfl rfl (aA (by omega)) ?_);refine A7 rfl (Bt rfl rfl (by rw[show 1+j * 1=1+j by omega];exact hrx) ?_);refine Ap (h:=e_ (?_));refine A8 rfl (fun hb3=>?_) (fun hb3=>?_)
  ·have hc3:=bp hb3;have hany:(((L6 c).drop (By c.num).2.1.toNat).any fun x=>decide (x≠0))=true:=by rw[hn0,Int.toNat_natCast];exact aC hlo hy hc3
   refine w_ (a_ (h:=e_ (A4 (AK (A6 (A6 (AK (A6 (?_)))))))));refine A9 ?_
   first|(exfalso;first|contradiction|omega)|(exact vi (by first|(rw[Bo,if_pos hc1];done)|(rw[Bo,if_neg hc1,if_pos hany];done)|(rw[Bo,if_neg hc1,if_neg (by rw[hany];simp),if_pos (by omega)];done)|(rw[Bo,if_neg hc1,if_neg (by rw[hany];simp),if_neg (by omega),if_pos hany2];done)|(rw[Bo,if_neg hc1,if_neg (by rw[hany];simp),if_neg (by omega),if_neg (by rw[hany2];simp),if_pos hany3];done)|(rw[Bo,if_neg hc1,if_neg (by rw[hany];simp),if_neg (by omega),if_neg (by rw[hany2];simp),if_neg (by rw[hany3];simp)];done)))
  have hc3:=bp hb3;have hx0:x=0:=by simpa using hc3
  refine Au (Ah (t_ (AR (m_ (h:=BD (h:=a_ (h:=AP (?_))))))));refine AE ?_
  refine⟨_,_,?_,⟨j+1,by omega,by omega,rfl,(fun i x h1 h2 h3=>by
   by_cases e:i=j
   ·subst e;rw[hy]at h3;injection h3 with h3;rw[←h3];exact hx0
   exact hz i x h1 (by omega) h3),rfl⟩,(wk 2 0)⟩
  omega
 have hc2:=bp hb2
 have hany:(((L6 c).drop (By c.num).2.1.toNat).any fun x=>decide (x≠0))=false:=by
  rw[hn0,Int.toNat_natCast];refine aD fun i x h1 h2=>hz i x h1 ?_ h2;have:=(At.1 h2).1;have h4:(L6 c).length=4:=rfl;omega
 refine BT (Ao (Ao (BU (t_ (q_ (w_ (f_ (h:=l_ (h:=n_ (h:=f_ (h:=l_ (h:=Ap (h:=m_ (h:=?_))))))))))))));refine AW false rfl rfl (fun hb4=>?_) (fun hb4=>?_)
 ·have hc4:=bp hb4;refine A3 (h:=A3 (h:=A3 (h:=A3 (h:=A3 (h:=A3 (h:=AF (h:=m_ (h:=A3 (h:=A3 (h:=A3 (h:=A3 (h:=A3 (h:=A3 (h:=AF (h:=e_ (B8 (h:=w_ (a_ (h:=e_ (A4 (A6 (?_))))))))))))))))))))));refine A9 ?_
  first|(exfalso;first|contradiction|omega)|(exact vi (by first|(rw[Bo,if_pos hc1];done)|(rw[Bo,if_neg hc1,if_pos hany];done)|(rw[Bo,if_neg hc1,if_neg (by rw[hany];simp),if_pos (by omega)];done)|(rw[Bo,if_neg hc1,if_neg (by rw[hany];simp),if_neg (by omega),if_pos hany2];done)|(rw[Bo,if_neg hc1,if_neg (by rw[hany];simp),if_neg (by omega),if_neg (by rw[hany2];simp),if_pos hany3];done)|(rw[Bo,if_neg hc1,if_neg (by rw[hany];simp),if_neg (by omega),if_neg (by rw[hany2];simp),if_neg (by rw[hany3];simp)];done)))
 have hc4:=bp hb4;refine f_ (h:=l_ (h:=n_ (h:=f_ (h:=l_ (h:=BB (h:=AM (h:=m_ (h:=?_))))))));refine AW false rfl rfl (fun hb5=>?_) (fun hb5=>?_)
 ·have hc5:=bp hb5;refine A3 (h:=A3 (h:=A3 (h:=A3 (h:=A3 (h:=A3 (h:=AF (h:=e_ (B8 (h:=w_ (a_ (h:=e_ (A4 (A6 (?_))))))))))))));refine A9 ?_
  first|(exfalso;first|contradiction|omega)|(exact vi (by first|(rw[Bo,if_pos hc1];done)|(rw[Bo,if_neg hc1,if_pos hany];done)|(rw[Bo,if_neg hc1,if_neg (by rw[hany];simp),if_pos (by omega)];done)|(rw[Bo,if_neg hc1,if_neg (by rw[hany];simp),if_neg (by omega),if_pos hany2];done)|(rw[Bo,if_neg hc1,if_neg (by rw[hany];simp),if_neg (by omega),if_neg (by rw[hany2];simp),if_pos hany3];done)|(rw[Bo,if_neg hc1,if_neg (by rw[hany];simp),if_neg (by omega),if_neg (by rw[hany2];simp),if_neg (by rw[hany3];simp)];done)))
 have hc5:=bp hb5;refine f_ (h:=l_ (h:=n_ (h:=f_ (h:=l_ (h:=Bl (h:=AM (h:=e_ (?_))))))));refine A8 rfl (fun hb6=>?_) (fun hb6=>?_)
 ·have hc6:=bp hb6;refine w_ (a_ (h:=e_ (A4 (A6 (?_)))));refine A9 ?_
  first|(exfalso;first|contradiction|omega)|(exact vi (by first|(rw[Bo,if_pos hc1];done)|(rw[Bo,if_neg hc1,if_pos hany];done)|(rw[Bo,if_neg hc1,if_neg (by rw[hany];simp),if_pos (by omega)];done)|(rw[Bo,if_neg hc1,if_neg (by rw[hany];simp),if_neg (by omega),if_pos hany2];done)|(rw[Bo,if_neg hc1,if_neg (by rw[hany];simp),if_neg (by omega),if_neg (by rw[hany2];simp),if_pos hany3];done)|(rw[Bo,if_neg hc1,if_neg (by rw[hany];simp),if_neg (by omega),if_neg (by rw[hany2];simp),if_neg (by rw[hany3];simp)];done)))
 have hc6:=bp hb6;refine AB (q_ (w_ (a_ (h:=e_ (Ag (?_))))));refine Be (fun m s=>∃j:Nat,j≤c.paths.length∧m=c.paths.length - j∧(∀i y,i<j→c.paths[i]?=some y→decide (128<y.size)=false)∧s=⟨look [(1, .bp 0 0),(3, .bp 1 0),(5, .v (.int .i64 (j:Int)))],⟨[DC c,KQ (By c.num)],[]⟩⟩) (c.paths.length) ((wk 2 0)) (⟨0,BV _,rfl,fun i y hi=>by omega,rfl⟩) ?_;rintro m s ⟨j,hj,rfl,ha1,rfl⟩;refine q_ (w_ (m_ (h:=f_ (h:=l_ (h:=n_ (h:=BB (h:=e_ (?_))))))));refine A8 rfl (fun hb7=>?_) (fun hb7=>?_)
 ·have hc7:=bp hb7;obtain⟨hlt,y,hy,hrow, -⟩:=C1 Cj hc7;refine AB (q_ (Ag (w_ (f_ (h:=l_ (h:=m_ (h:=i_ (h:=l_ (h:=n_ (h:=Bl (h:=e_ (?_))))))))))));refine A8 rfl (fun hb8=>?_) (fun hb8=>?_)
  ·have hc8:=bp hb8;have hany2:(c.paths.any fun p=>decide (128<p.size))=true:=KC hy (by simp;omega);refine w_ (a_ (h:=e_ (A4 (AK (A6 (A6 (AK (A6 (?_)))))))));refine A9 ?_
   first|(exfalso;first|contradiction|omega)|(exact vi (by first|(rw[Bo,if_pos hc1];done)|(rw[Bo,if_neg hc1,if_pos hany];done)|(rw[Bo,if_neg hc1,if_neg (by rw[hany];simp),if_pos (by omega)];done)|(rw[Bo,if_neg hc1,if_neg (by rw[hany];simp),if_neg (by omega),if_pos hany2];done)|(rw[Bo,if_neg hc1,if_neg (by rw[hany];simp),if_neg (by omega),if_neg (by rw[hany2];simp),if_pos hany3];done)|(rw[Bo,if_neg hc1,if_neg (by rw[hany];simp),if_neg (by omega),if_neg (by rw[hany2];simp),if_neg (by rw[hany3];simp)];done)))
  have hc8:=bp hb8;refine Au (Ah (t_ (AR (m_ (h:=BD (h:=a_ (h:=AP (?_))))))));refine AE ?_;refine⟨_,_,?_,⟨j+1,by omega,rfl,F8 hy ha1 (by simp;omega),rfl⟩,(wk 2 0)⟩;omega
 have hc7:=bp hb7;have e:=CA Cj hj hc7;have hany2:(c.paths.any fun p=>decide (128<p.size))=false:=Kn (by rw[←e];exact ha1);refine BT (Ao (Ao (BU (t_ (q_ (w_ (a_ (h:=e_ (Ag (?_))))))))));refine Be (fun m s=>∃j:Nat,j≤c.args.length∧m=c.args.length - j∧(∀i y,i<j→c.args[i]?=some y→decide (64<y.size)=false)∧s=⟨look [(1, .bp 0 0),(3, .bp 1 0),(6, .v (.int .i64 (j:Int)))],⟨[DC c,KQ (By c.num)],[]⟩⟩) (c.args.length) ((wk 2 0)) (⟨0,BV _,rfl,fun i y hi=>by omega,rfl⟩) ?_;rintro m s ⟨j3,hj3,rfl,ha3,rfl⟩;refine q_ (w_ (m_ (h:=f_ (h:=l_ (h:=n_ (h:=BB (h:=e_ (?_))))))));refine A8 rfl (fun hb9=>?_) (fun hb9=>?_)
 ·have hc9:=bp hb9;obtain⟨hlt,y,hy,hrow, -⟩:=C1 Cj hc9;refine AB (q_ (Ag (w_ (f_ (h:=l_ (h:=m_ (h:=i_ (h:=l_ (h:=n_ (h:=Bl (h:=e_ (?_))))))))))));refine A8 rfl (fun hb10=>?_) (fun hb10=>?_)
  ·have hc10:=bp hb10;have hany3:(c.args.any fun p=>decide (64<p.size))=true:=KC hy (by simp;omega);refine w_ (a_ (h:=e_ (A4 (AK (A6 (A6 (AK (A6 (?_)))))))));refine A9 ?_
   first|(exfalso;first|contradiction|omega)|(exact vi (by first|(rw[Bo,if_pos hc1];done)|(rw[Bo,if_neg hc1,if_pos hany];done)|(rw[Bo,if_neg hc1,if_neg (by rw[hany];simp),if_pos (by omega)];done)|(rw[Bo,if_neg hc1,if_neg (by rw[hany];simp),if_neg (by omega),if_pos hany2];done)|(rw[Bo,if_neg hc1,if_neg (by rw[hany];simp),if_neg (by omega),if_neg (by rw[hany2];simp),if_pos hany3];done)|(rw[Bo,if_neg hc1,if_neg (by rw[hany];simp),if_neg (by omega),if_neg (by rw[hany2];simp),if_neg (by rw[hany3];simp)];done)))
  have hc10:=bp hb10;refine Au (Ah (t_ (AR (m_ (h:=BD (h:=a_ (h:=AP (?_))))))));refine AE ?_;refine⟨_,_,?_,⟨j3+1,by omega,rfl,F8 hy ha3 (by simp;omega),rfl⟩,(wk 2 0)⟩;omega
 have hc9:=bp hb9;have e3:=CA Cj hj3 hc9;have hany3:(c.args.any fun p=>decide (64<p.size))=false:=Kn (by rw[←e3];exact ha3);refine BT (Ao (Ao (BU (t_ (w_ (a_ (h:=e_ (A4 (?_)))))))));refine A9 ?_
 first|(exfalso;first|contradiction|omega)|(exact vi (by first|(rw[Bo,if_pos hc1];done)|(rw[Bo,if_neg hc1,if_pos hany];done)|(rw[Bo,if_neg hc1,if_neg (by rw[hany];simp),if_pos (by omega)];done)|(rw[Bo,if_neg hc1,if_neg (by rw[hany];simp),if_neg (by omega),if_pos hany2];done)|(rw[Bo,if_neg hc1,if_neg (by rw[hany];simp),if_neg (by omega),if_neg (by rw[hany2];simp),if_pos hany3];done)|(rw[Bo,if_neg hc1,if_neg (by rw[hany];simp),if_neg (by omega),if_neg (by rw[hany2];simp),if_neg (by rw[hany3];simp)];done)))
theorem Ul(c:Cal):AFn prog 140 [.agg (DC c)] (fun r=>r= .sl 1 ((Ce c).map C9) none):=by
 refine enter Tryz.func140 rfl rfl rfl rfl rfl 0 rfl ?_;refine w_ (b_ (h:=a_ (h:=e_ (q_ (w_ (f_ (h:=l_ (h:=e_ (Ag (w_ (AD (h:=a_ (h:=e_ (?_))))))))))))));refine A8 rfl (fun hb1=>?_) (fun hb1=>?_)
 ·have hc1:=bp hb1;refine w_ (Bd (h:=a_ (h:=e_ (A4 (AK (A6 (?_)))))));refine A9 ?_
  first|(exfalso;first|contradiction|omega)|(simp only[Ce,C4];first|(simp[*,C9];done)|(simp[*,C9];rfl))
 have hc1:=bp hb1;refine w_ (AD (h:=a_ (h:=e_ (?_))));refine A8 rfl (fun hb2=>?_) (fun hb2=>?_)
 ·have hc2:=bp hb2;refine w_ (a_ (h:=e_ (q_ (w_ (f_ (h:=?_))))));refine A7 rfl (BW (len:=4) (sz:=1) (n:=0) (by kernel_rfl) rfl rfl rfl rfl ?_);refine l_ (h:=DR (h:=Ap (h:=e_ (?_))));refine A8 rfl (fun hb3=>?_) (fun hb3=>?_)
  ·have hc3:=bp hb3;refine AR (m_ (h:=BD (h:=a_ (h:=e_ (q_ (w_ (f_ (h:=?_))))))));refine A7 rfl (BW (len:=4) (sz:=1) (n:=0) (by kernel_rfl) rfl rfl rfl rfl ?_);refine l_ (h:=DR (h:=Ap (h:=e_ (?_))));refine A8 rfl (fun hb4=>?_) (fun hb4=>?_)
   ·have hc4:=bp hb4;refine AR (m_ (h:=BD (h:=a_ (h:=e_ (w_ (m_ (h:=Bd (h:=a_ (h:=e_ (A4 (AK (A6 (?_)))))))))))));refine A9 ?_
    first|(exfalso;first|contradiction|omega)|(simp only[Ce,C4];first|(simp[*,C9];done)|(simp[*,C9];rfl))
   have hc4:=bp hb4;refine AB (w_ (m_ (h:=Bd (h:=a_ (h:=e_ (A4 (AK (A6 (?_)))))))));refine A9 ?_
   first|(exfalso;first|contradiction|omega)|(simp only[Ce,C4];first|(simp[*,C9];done)|(simp[*,C9];rfl))
  have hc3:=bp hb3;refine AB (q_ (w_ (f_ (h:=?_))));refine A7 rfl (BW (len:=4) (sz:=1) (n:=0) (by kernel_rfl) rfl rfl rfl rfl ?_);refine l_ (h:=DR (h:=Ap (h:=e_ (?_))));refine A8 rfl (fun hb5=>?_) (fun hb5=>?_)
  ·have hc5:=bp hb5;refine AR (m_ (h:=BD (h:=a_ (h:=e_ (w_ (m_ (h:=Bd (h:=a_ (h:=e_ (A4 (AK (A6 (?_)))))))))))));refine A9 ?_
   first|(exfalso;first|contradiction|omega)|(simp only[Ce,C4];first|(simp[*,C9];done)|(simp[*,C9];rfl))
  have hc5:=bp hb5;refine AB (w_ (m_ (h:=Bd (h:=a_ (h:=e_ (A4 (AK (A6 (?_)))))))));refine A9 ?_
  first|(exfalso;first|contradiction|omega)|(simp only[Ce,C4];first|(simp[*,C9];done)|(simp[*,C9];rfl))
 have hc2:=bp hb2;refine w_ (AD (h:=a_ (h:=e_ (?_))));refine A8 rfl (fun hb6=>?_) (fun hb6=>?_)
 ·have hc6:=bp hb6;refine w_ (Bd (h:=a_ (h:=e_ (A4 (AK (A6 (?_)))))));refine A9 ?_
  first|(exfalso;first|contradiction|omega)|(simp only[Ce,C4];first|(simp[*,C9];done)|(simp[*,C9];rfl))
 have hc6:=bp hb6;refine w_ (AD (h:=a_ (h:=e_ (?_))));refine A8 rfl (fun hb7=>?_) (fun hb7=>?_)
 ·have hc7:=bp hb7;refine w_ (Bd (h:=a_ (h:=e_ (A4 (AK (A6 (?_)))))));refine A9 ?_
  first|(exfalso;first|contradiction|omega)|(simp only[Ce,C4];first|(simp[*,C9];done)|(simp[*,C9];rfl))
 have hc7:=bp hb7;refine q_ (w_ (AD (h:=a_ (h:=e_ (?_)))));refine A8 rfl (fun hb8=>?_) (fun hb8=>?_)
 ·have hc8:=bp hb8;refine AB (B8 (h:=w_ (Bd (h:=a_ (h:=e_ (A4 (AK (A6 (?_)))))))));refine A9 ?_
  first|(exfalso;first|contradiction|omega)|(simp only[Ce,C4];first|(simp[*,C9];done)|(simp[*,C9];rfl))
 have hc8:=bp hb8;refine w_ (AD (h:=a_ (h:=e_ (?_))));refine A8 rfl (fun hb9=>?_) (fun hb9=>?_)
 ·have hc9:=bp hb9;refine AB (B8 (h:=w_ (Bd (h:=a_ (h:=e_ (A4 (AK (A6 (?_)))))))));refine A9 ?_
  first|(exfalso;first|contradiction|omega)|(simp only[Ce,C4];first|(simp[*,C9];done)|(simp[*,C9];rfl))
 have hc9:=bp hb9;refine AR (AD (h:=a_ (h:=e_ (?_))));refine A8 rfl (fun hb10=>?_) (fun hb10=>?_)
 ·have hc10:=bp hb10;refine w_ (Bd (h:=a_ (h:=e_ (A4 (AK (A6 (?_)))))));refine A9 ?_
  first|(exfalso;first|contradiction|omega)|(simp only[Ce,C4];first|(simp[*,C9];done)|(simp[*,C9];rfl))
 have hc10:=bp hb10;refine w_ (AD (h:=a_ (h:=e_ (?_))));refine A8 rfl (fun hb11=>?_) (fun hb11=>?_)
 ·have hc11:=bp hb11;refine w_ (Bd (h:=a_ (h:=e_ (A4 (AK (A6 (?_)))))));refine A9 ?_
  first|(exfalso;first|contradiction|omega)|(simp only[Ce,C4];first|(simp[*,C9];done)|(simp[*,C9];rfl))
 have hc11:=bp hb11;refine Au (Ah (t_ (w_ (Bd (h:=a_ (h:=e_ (A4 (?_))))))));refine A9 ?_
 first|(exfalso;first|contradiction|omega)|(simp only[Ce,C4];first|(simp[*,C9];done)|(simp[*,C9];rfl))
theorem aF(c:Cal):AFn prog 142 [.agg (DC c)] (fun r=>r= .v (.bool (Ch c))):=by
 refine enter Tryz.func142 rfl rfl rfl rfl rfl 0 rfl ?_;refine w_ (b_ (h:=a_ (h:=e_ (q_ (w_ (f_ (h:=l_ (h:=e_ (Ag (w_ (AD (h:=a_ (h:=e_ (?_))))))))))))));refine A8 rfl (fun hb1=>?_) (fun hb1=>?_)
 ·have hc1:=bp hb1;refine w_ (f_ (h:=?_));refine A7 rfl (BW (len:=4) (sz:=1) (n:=0) (by kernel_rfl) rfl rfl rfl rfl ?_);refine l_ (h:=DR (h:=AD (h:=a_ (h:=e_ (A4 (AK (A6 (?_))))))));refine A9 ?_
  first|(exfalso;first|contradiction|omega)|(exact vb (by simp[Ch, *]))
 have hc1:=bp hb1;refine q_ (w_ (AD (h:=a_ (h:=e_ (?_)))));refine A8 rfl (fun hb2=>?_) (fun hb2=>?_)
 ·have hc2:=bp hb2;refine AB (B8 (h:=w_ (a_ (h:=e_ (A4 (AK (A6 (?_))))))));refine A9 ?_
  first|(exfalso;first|contradiction|omega)|(exact vb (by simp[Ch, *]))
 have hc2:=bp hb2;refine w_ (AD (h:=a_ (h:=e_ (?_))));refine A8 rfl (fun hb3=>?_) (fun hb3=>?_)
 ·have hc3:=bp hb3;refine AB (B8 (h:=w_ (a_ (h:=e_ (A4 (AK (A6 (?_))))))));refine A9 ?_
  first|(exfalso;first|contradiction|omega)|(exact vb (by simp[Ch, *]))
 have hc3:=bp hb3;refine w_ (AD (h:=a_ (h:=e_ (?_))));refine A8 rfl (fun hb4=>?_) (fun hb4=>?_)
 ·have hc4:=bp hb4;refine AB (B8 (h:=w_ (a_ (h:=e_ (A4 (AK (A6 (?_))))))));refine A9 ?_
  first|(exfalso;first|contradiction|omega)|(exact vb (by simp[Ch, *]))
 have hc4:=bp hb4;refine w_ (AD (h:=a_ (h:=e_ (?_))));refine A8 rfl (fun hb5=>?_) (fun hb5=>?_)
 ·have hc5:=bp hb5;refine AB (B8 (h:=w_ (a_ (h:=e_ (A4 (AK (A6 (?_))))))));refine A9 ?_
  first|(exfalso;first|contradiction|omega)|(exact vb (by simp[Ch, *]))
 have hc5:=bp hb5;refine w_ (AD (h:=a_ (h:=e_ (?_))));refine A8 rfl (fun hb6=>?_) (fun hb6=>?_)
 ·have hc6:=bp hb6;refine AB (B8 (h:=w_ (a_ (h:=e_ (A4 (AK (A6 (?_))))))));refine A9 ?_
  first|(exfalso;first|contradiction|omega)|(exact vb (by simp[Ch, *]))
 have hc6:=bp hb6;refine AR (AD (h:=a_ (h:=e_ (?_))));refine A8 rfl (fun hb7=>?_) (fun hb7=>?_)
 ·have hc7:=bp hb7;refine w_ (a_ (h:=e_ (A4 (AK (A6 (?_))))));refine A9 ?_
  first|(exfalso;first|contradiction|omega)|(exact vb (by simp[Ch, *]))
 have hc7:=bp hb7;refine Au (Ah (t_ (w_ (a_ (h:=e_ (A4 (?_)))))));refine A9 ?_
 first|(exfalso;first|contradiction|omega)|(exact vb (by simp[Ch, *]))
end
theorem JK(s:ByteArray):s.toList=s.data.toList:=Lib.toList_data s
theorem Um{a b:ByteArray}(h:a.data.toList=b.data.toList):a=b:=by
 cases a;cases b;simp at h;simp[h]
theorem aG{a b:ByteArray}:a.data.toList=b.data.toList↔a=b:=⟨Um,fun h=>by rw[h]⟩
theorem aH(a b:ByteArray):(a.toList==b.toList)=decide (a=b):=by
 rw[JK,JK,Bool.eq_iff_iff,beq_iff_eq,decide_eq_true_iff];exact aG
theorem Un(s:ByteArray):s.toList.isEmpty=decide (s.size=0):=by
 rw[JK,Lib.size_eq,Bool.eq_iff_iff,List.isEmpty_iff,decide_eq_true_iff,List.length_eq_zero_iff]
set_option maxRecDepth 100000 in
set_option maxHeartbeats 400000 in
theorem aJ(s:ByteArray)(w:World):
    Calls prog 289 #[.string s, .string ⟨#[47]⟩] w fun e w'=>e= .returned (.int .i64 (Lib.indexByte s.data.toList 47))∧w=w':=by
 by_cases h:s=⟨#[47]⟩
 ·subst h
  go_enter Tryz.func289,Tryz.ntmps289
  go_wp2
  go_ret
  exact⟨rfl,rfl⟩
 have h1:([47]==s.toList)=false:=by
  have:=aH ⟨#[47]⟩ s;rw[decide_eq_false (fun e=>h e.symm),JK ⟨#[47]⟩]at this;exact this
 go_enter Tryz.func289,Tryz.ntmps289
 go_wp2_with (go_at_call 292;refine(Tryz.stringslite_IndexByte _ _ _).mono ?_;rintro e w' ⟨rfl,rfl⟩)
 go_ret
 exact⟨rfl,rfl⟩
theorem aK(s:ByteArray)(w:World):
    Calls prog 276 #[.string s, .string ⟨#[47]⟩] w fun e w'=>e= .returned (.int .i64 (Lib.indexByte s.data.toList 47))∧w=w':=by
 go_enter Tryz.func276,Tryz.ntmps276
 go_wp2_with (go_at_call 289;refine(aJ _ _).mono ?_;rintro e w' ⟨rfl,rfl⟩)
 go_ret
 exact⟨rfl,rfl⟩
theorem Uo{l:Bs}(h:(47:UInt8)∈l):∃i:Nat,Lib.indexByte l 47=i∧i<l.length∧l=l.take i++47::l.drop (i+1)∧(47:UInt8)∉l.take i:=by
 have hge:=Lib.indexByte_ge l 47;by_cases hm:Lib.indexByte l 47= -1
 ·have:=Lib.indexByte_none hm;obtain⟨k,hk⟩:=List.mem_iff_getElem?.1 h;exact absurd hk (this k)
 obtain⟨i,hi⟩:=Int.eq_ofNat_of_zero_le (show 0≤Lib.indexByte l 47 by omega);obtain⟨h1,h2⟩:=Lib.indexByte_some hi;have hlt:i<l.length:=(At.1 h1).1;refine⟨i,hi,hlt,?_,?_⟩
 ·have h3:l[i]=47:=(At.1 h1).2;rw[←h3,List.getElem_cons_drop,List.take_append_drop]
 intro hmem;obtain⟨k,hk⟩:=List.mem_iff_getElem?.1 hmem;rw[List.getElem?_take]at hk;split at hk
 ·exact h2 k (by assumption) hk
 cases hk
theorem aL{l:Bs}(h:(47:UInt8)∉l):Lib.indexByte l 47= -1:=by
 have hge:=Lib.indexByte_ge l 47;by_cases hm:Lib.indexByte l 47= -1
 ·exact hm
 obtain⟨i,hi⟩:=Int.eq_ofNat_of_zero_le (show 0≤Lib.indexByte l 47 by omega);obtain⟨h1,_⟩:=Lib.indexByte_some hi;exact absurd (Aw h1) h
theorem aM(r:Int)(h0:128≤r)(h1:Lib.validRune r=true):
    (∃a b:UInt8,Utf8.encode r=⟨#[a,b]⟩∧128≤b.toNat)∨(∃a b c:UInt8,Utf8.encode r=⟨#[a,b,c]⟩)∨(∃a b c d:UInt8,Utf8.encode r=⟨#[a,b,c,d]⟩):=by
 have hv:Utf8.valid r=true:=by
  have:=of_decide_eq_true h1;unfold Utf8.valid;simp only[Bool.or_eq_true,Bool.and_eq_true,decide_eq_true_iff];omega
 unfold Utf8.encode;simp only[hv,if_true];have hn:¬r.toNat<128:=by omega
 rw[if_neg hn];by_cases h2:r.toNat<2048
 ·rw[if_pos h2];refine .inl ⟨_,_,rfl,?_⟩;simp only[UInt8.toNat_ofNat'];omega
 rw[if_neg h2];by_cases h3:r.toNat<65536
 ·rw[if_pos h3];exact .inr (.inl ⟨_,_,_,rfl⟩)
 rw[if_neg h3];exact .inr (.inr ⟨_,_,_,_,rfl⟩)
set_option maxRecDepth 1000000 in
set_option maxHeartbeats 2000000 in
theorem aN(r:Int)(w:World)(h0:128≤r)(h1:r≤2147483647)(h2:r≠65533)(hv:Lib.validRune r=false):
    Calls prog 269 #[.string ⟨#[0,47]⟩, .int .i32 r] w fun e w'=>e= .returned (.int .i64 (-1))∧w=w':=by
 have h2':(r==65533)=false:=by simpa using h2
 go_enter Tryz.func269,Tryz.ntmps269
 go_wp2_with (go_at_call 285;refine(Tryz.utf8_ValidRune _ _).mono ?_;rintro e w' ⟨rfl,rfl⟩;rw[hv])
 go_ret
 exact⟨rfl,rfl⟩
set_option maxRecDepth 1000000 in
set_option maxHeartbeats 2000000 in
theorem aO(r:Int)(w:World)(h0:128≤r)(h1:r≤2147483647)(h2:r≠65533)(hv:Lib.validRune r=true):
    Calls prog 269 #[.string ⟨#[0,47]⟩, .int .i32 r] w fun e w'=>e= .returned (.int .i64 (-1))∧Below w.heap.size w w':=by
 have h2':(r==65533)=false:=by simpa using h2
 have hlt:decide (r<128)=false:=by simpa using h0
 rcases aM r h0 hv with⟨a,b,he,hb⟩|⟨a,b,c,he⟩|⟨a,b,c,d,he⟩
 ·have hne:((((⟨#[0,47]⟩:ByteArray)[1]'(by decide)).toNat:Int) != (((⟨#[a,b]⟩:ByteArray)[1]'(by show 1<2;decide)).toNat:Int))=true:=by
     show((47:Int) != (b.toNat:Int))=true;rw[bne_iff_ne];omega
  go_enter Tryz.func269,Tryz.ntmps269
  go_wp2_with (go_at_call 285;refine(Tryz.utf8_ValidRune _ _).mono ?_;rintro e w' ⟨rfl,rfl⟩;rw[hv])
  go_step3
  go_wp2
  refine wp_loop_rounds 1 ?_;rw[rounds_succ]
  go_wp2
  go_step3
  go_wp2
  go_quiet (fail)
  have hb:=PW (Below.refl w'.heap.size w') nq;generalize w'.drewN nq=wq at *
  go_wp2
  go_quiet ((go_at_call 284;exact Calls.quiet_of_same (Tryz.strings_IndexByte _ _ _)))
  go_wp2
  rw[Exit.noGoto_ret]
  go_wp2
  rw[Exit.noGoto_ret]
  go_wp2
  go_ret
  exact⟨rfl,PW hb _⟩
 ·go_enter Tryz.func269,Tryz.ntmps269
  go_wp2_with (go_at_call 285;refine(Tryz.utf8_ValidRune _ _).mono ?_;rintro e w' ⟨rfl,rfl⟩;rw[hv])
  go_step3
  go_wp2
  refine wp_loop_rounds 1 ?_;rw[rounds_succ]
  go_wp2
  rw[Exit.noGoto_ret]
  go_wp2
  go_ret
  exact⟨rfl,Below.refl _ _⟩
 go_enter Tryz.func269,Tryz.ntmps269
 go_wp2_with (go_at_call 285;refine(Tryz.utf8_ValidRune _ _).mono ?_;rintro e w' ⟨rfl,rfl⟩;rw[hv])
 go_step3
 go_wp2
 refine wp_loop_rounds 1 ?_;rw[rounds_succ]
 go_wp2
 rw[Exit.noGoto_ret]
 go_wp2
 go_ret
 exact⟨rfl,Below.refl _ _⟩
theorem aP(i:Nat)(hi:i<2):((⟨#[0,47]⟩:ByteArray)[i]'hi).toNat<128:=by
 match i,hi with
 |0,_=>show(0:UInt8).toNat<128;decide
 |1,_=>show(47:UInt8).toNat<128;decide
set_option maxRecDepth 1000000 in
set_option maxHeartbeats 2000000 in
theorem aQ(w:World):
    Calls prog 269 #[.string ⟨#[0,47]⟩, .int .i32 65533] w fun e w'=>e= .returned (.int .i64 (-1))∧Below w.heap.size w w':=by
 go_enter Tryz.func269,Tryz.ntmps269
 go_wp2
 go_loopg [5,6] 2 (fun g _ _ wx=>∃i:Nat,i+g=2∧wx=w.iter ⟨#[0,47]⟩ i)
 case atStart=>exact⟨0,by omega,rfl⟩
 case round=>
  obtain⟨i,hig,rfl⟩:=hrel
  cases gk with
  |zero=>
    obtain rfl:i=2:=by omega
    have hnx:=run_next_end (P:=prog) w ⟨#[0,47]⟩ 2
    go_wp2
    go_ret
    exact⟨rfl,(Below.refl _ _).alloc (BN _) _⟩
  |succ g=>
    have hi:i<2:=by omega
    have hx:=aP i hi;have hnx:=fun ty=>run_next_ascii (P:=prog) w ⟨#[0,47]⟩ i ty hi hx;generalize ((⟨#[0,47]⟩:ByteArray)[i]'hi)=x at *;have hne:((x.toNat:Int)==65533)=false:=beq_eq_false_iff_ne.2 (by omega)
    go_wp2
    go_roundg g
    case measure=>omega
    case rel=>exact⟨i+1,by omega,rfl⟩
end Go.Proofs.YtbgnigjfkbmceaaGreatDoor
