/- Part 5 of the proof of FilterBehindP. -/
import Derived.Lib.AppendZerosOnto
import Derived.Test.YtbgnigjfkbmceaaGreatDoorShelf
import Derived.Laws.RangeAny
import Derived.Deep.LoopGhost
import Derived.Lib.OthersKept
import Derived.Lib.IndexLaws
import Derived.Shelf.Abstract
import Derived.Shelf.RegionOpen
import Derived.OwnWalkIn
import Derived.TacticsInMore
import Derived.LoopNIn
import Derived.LoopIn
import Derived.Maps.AppendAt
import Derived.OwnWalk
import Derived.StillTailTactics
import Derived.Test.YtbgnigjfkbmceaaGreatDoorQj4
open Go.Proofs.Tryz (prog)
set_option maxRecDepth 10000
set_option maxHeartbeats 4000000
set_option linter.unusedVariables false
set_option linter.unusedSimpArgs false
namespace Go.Proofs.YtbgnigjfkbmceaaGreatDoor
open Go.RowKit
theorem ZT{f:AR}{a:A8}(h:AU f a=true):(AY f a).ino=a.2:=by
 obtain⟨q,d,m,_,_,_,h4,h5,_⟩:=O6 (f:=f) (a:=a) (by rw[h];simp);rw[h5,h4]
theorem VJ{s:Spc}{d:Int}(h:(CB s d).isSome=true):CB s d=some ((CB s d).getD (0,0)):=by
 cases ho:CB s d with
 |none=>rw[ho]at h;cases h
 |some o=>rfl
theorem oR{s:Spc}{d:Int}(h:(CB s d).isSome=false):CB s d=none:=by
 cases ho:CB s d with
 |none=>rfl
 |some o=>rw[ho]at h;cases h
theorem SK{s:Spc}{a:A8}(k:Nat)(h:AU s.files a=false):FV s (k+1) a=(0,0):=by unfold FV;rw[h];rfl
theorem ZU{s:Spc}{a:A8}(k:Nat)(h:AU s.files a=true)(h1:¬a.2=1):FV s (k+1) a=(a.1,(AY s.files a).parent):=by unfold FV;rw[if_pos h,if_pos h1]
theorem ZV{s:Spc}{a:A8}(k:Nat)(h:AU s.files a=true)(h1:a.2=1)(ho:(CB s a.1).isSome=true):FV s (k+1) a=FV s k ((CB s a.1).getD (0,0)):=by
 conv=>lhs;unfold FV
 rw[if_pos h,if_neg (by simpa using h1),VJ ho];rfl
theorem ZW{s:Spc}{a:A8}(k:Nat)(h:AU s.files a=true)(h1:a.2=1)(ho:(CB s a.1).isSome=false):FV s (k+1) a=a:=by
 conv=>lhs;unfold FV
 rw[if_pos h,if_neg (by simpa using h1),oR ho]
section
theorem ZX{s:Spc}(hs:SpcB s)(hv:SpcV s)(a:A8)
    (yx:AU s.files a=true->∀b,E9 s a=some b->AFn prog 195 [.agg (AQ s), .agg (AB b)] (fun r=>r= .tup [.v (.string (Bv s b).1), .v (.bool (Bv s b).2)])):
    AFn prog 195 [.agg (AQ s), .agg (AB a)] (fun r=>r= .tup [.v (.string (Bv s a).1), .v (.bool (Bv s a).2)]):=by
 have hnm:=V8 hv.files a;have hwz:=VF hv;refine enter Tryz.func195 rfl rfl rfl rfl rfl 0 rfl ?_;refine Fe (h:=a_ (h:=GT (h:=l_ (h:=?_))));refine AK (LT s.files a hs.files) ?_;refine F6 (h:=?_);refine AF false rfl rfl (fun kd ka=>?_) (fun kd ka=>?_)
 ·refine BB (h:=EV (h:=w_ (DY (h:=?_))));refine A4 ?_
  (rw[VE hv (by simp_all)];rfl)
 refine l_ (h:=Ac (h:=?_));refine Ak (AX (Pi s a.1 hs) ?_);rintro r rfl;refine D1 (h:=Cq (h:=?_));refine A3 rfl (fun ke kc=>?_) (fun ke kc=>?_)
 ·refine w_ (DY (h:=?_));refine A4 ?_
  (rw[VE hv (by simp_all)];rfl)
 refine DF (h:=BO (h:=?_));refine A3 rfl (fun kh kf=>?_) (fun kh kf=>?_)
 ·refine q_ (Bw (h:=Ac (h:=?_)));refine AK (Tu s a.1 hs) ?_;refine EU (h:=Cl (h:=e_ (?_)));refine A3 rfl (fun kl kg=>?_) (fun kl kg=>?_)
  ·have hst:E9 s a=some ((CB s a.1).getD (0,0)):=by unfold E9;rw[if_neg (by simpa using kf)];exact VJ kg
   obtain⟨hw1,hw2⟩:=ZE hv ka kc (fun e=>by rw[e,VC hv]at kg;cases kg) hst;rw[if_pos kf]at hw1;refine C9 (h:=?_);refine AK (yx ka _ hst) ?_
   skip
   refine LR (h:=DY (h:=Bp (?_)));refine A4 ?_;rw[hw1];first|rfl|(rw[<-hw2];rfl)
  have h00:a=(0,1):=by
   refine Prod.ext ?_ kf;have:=kc;unfold CR at this;rw[kg,Bool.false_or]at this;exact of_decide_eq_true this
  refine AG (w_ (DY (h:=?_)));refine A4 ?_;rw[h00,nZ hv (by rw[<-h00];exact ka)];rfl
 have hst:E9 s a=some (a.1,(AY s.files a).parent):=if_pos kf;obtain⟨hw1,hw2⟩:=ZE hv ka kc (fun e=>kf (by rw[e])) hst;rw[if_neg kf]at hw1;refine AG (B2 (h:=l_ (h:=?_)));refine AK (G0 s.files a hs.files) ?_;refine EU (h:=Ay (h:=Bw (h:=Je (h:=Bd (h:=?_)))));refine AK (yx ka _ hst) ?_
 skip
 refine Ft (h:=a_ (h:=Cl (h:=Ac (h:=l_ (h:=?_)))));refine AK (oG s a hs) ?_;refine AK (ZM (Bv s (a.1,(AY s.files a).parent)).1 (Ce s a) (by have:=hwz (a.1,(AY s.files a).parent);omega) (by omega)) ?_;refine m_ (h:=a_ (h:=BW (h:=?_)));refine A4 ?_;rw[hw1];first|rfl|(rw[<-hw2];rfl)
theorem oS{s:Spc}(hs:SpcB s)(hv:SpcV s)(a:A8):AFn prog 195 [.agg (AQ s), .agg (AB a)] (fun r=>r= .tup [.v (.string (Bv s a).1), .v (.bool (Bv s a).2)]):=by
 have key:∀(k:Nat) (a:A8),ends s k a->AFn prog 195 [.agg (AQ s), .agg (AB a)] (fun r=>r= .tup [.v (.string (Bv s a).1), .v (.bool (Bv s a).2)]):=by
  intro k
  induction k with
  |zero=>intro a h;exact ZX hs hv a fun hd=>by rw[show AU s.files a=false from h]at hd;cases hd
  |succ k ih=>intro a h;exact ZX hs hv a fun hd b hb=>ih b (h.resolve_left (by rw[hd];simp) b hb)
 exact key _ a (M5 hv a)
theorem oT{s:Spc}(hs:SpcB s)(a:A8)(p:Nat)(yx:(CB s a.1).isSome=true->AFn prog 194 [.agg (AQ s), .agg (AB ((CB s a.1).getD (0,0)))] (fun r=>r= .agg (AB (FV s p ((CB s a.1).getD (0,0)))))):
    AFn prog 194 [.agg (AQ s), .agg (AB a)] (fun r=>r= .agg (AB (FV s (p+1) a))):=by
 have hde:=L5 s.files a;refine enter Tryz.func194 rfl rfl rfl rfl rfl 0 rfl ?_;refine Ef (h:=e_ (B2 (h:=l_ (h:=?_))));refine AK (G0 s.files a hs.files) ?_;refine Nl (h:=F6 (h:=?_));refine AF false rfl rfl (fun kd ka=>?_) (fun kd ka=>?_)
 ·refine EV (h:=Gq (h:=e_ (BH (Bp (?_)))));refine A4 ?_;rw[SK p (by rw[hde,ka];rfl)];rfl
 refine CG (h:=Cq (h:=?_));refine A3 rfl (fun ke kc=>?_) (fun ke kc=>?_)
 ·refine Gq (h:=e_ (BH (Bp (?_))));refine A4 ?_;rw[SK p (by rw[hde,decide_eq_false kc,Bool.and_false])];rfl
 refine DF (h:=D3 (h:=?_));refine A3 rfl (fun kh kf=>?_) (fun kh kf=>?_)
 ·refine H8 (h:=GR (h:=e_ (BH (Bp (?_)))));refine A4 ?_;rw[ZU p (by rw[hde,ka,decide_eq_true kc];rfl) kf];rfl
 refine FA (h:=Bw (h:=Ac (h:=?_)));refine AK (Tu s a.1 hs) ?_;refine EU (h:=Cl (h:=e_ (?_)));refine A3 rfl (fun kl kg=>?_) (fun kl kg=>?_)
 ·refine C9 (h:=?_);refine AK (yx kg) ?_;refine GF (h:=BH (Bp (?_)));refine A4 ?_;rw[ZV p (by rw[hde,ka,decide_eq_true kc];rfl) kf kg];rfl
 refine AG (EX (h:=?_));refine A4 ?_;rw[ZW p (by rw[hde,ka,decide_eq_true kc];rfl) kf kg];rfl
theorem oU{s:Spc}(hs:SpcB s)(hv:SpcV s):∀(p:Nat) (a:A8),NH s a.1<p->AFn prog 194 [.agg (AQ s), .agg (AB a)] (fun r=>r= .agg (AB (FV s p a))):=by
 intro p
 induction p with
 |zero=>intro a h;omega
 |succ p ih=>intro a hp;exact oT hs a p fun ho=>ih _ (by have:=Z0 hv (VJ ho);omega)
theorem oV{s:Spc}(hs:SpcB s)(hv:SpcV s)(a:A8):AFn prog 265 [.agg (AQ s), .agg (AB a)] (fun r=>r= .agg (AB (FV s (s.mounts.length+1) a))):=by
 have fa:=hs.few;have hml:(s.mounts.map Dm).length=s.mounts.length:=by simp
 refine enter Tryz.func265 rfl rfl rfl rfl rfl 0 rfl ?_;refine Ef (h:=e_ (Fu (h:=n_ (h:=XE (h:=e_ (BF (?_)))))));refine BL (fun m t=>∃(j:Nat) (b:A8),j<=s.mounts.length+1/\m=s.mounts.length+1 - j/\FV s (s.mounts.length+1 - j) b=FV s (s.mounts.length+1) a/\t=⟨look [(2, .bp 0 0),(3, .bp 1 0),(4, .bp 2 0),(11, .v (.int .i64 (((s.mounts.map Dm).length:Int)+1))),(12, .v (.int .i64 (j:Int)))],⟨[AQ s,AB b,[.v (.int .i64 0), .v (.int .i64 0)]],[]⟩⟩) (s.mounts.length+1) ((wk 3 0)) (⟨0,a,by omega,rfl,rfl,rfl⟩) ?_;rintro m t ⟨j,b,hj,rfl,hit,rfl⟩;have hde:=L5 s.files b;refine Fz (h:=?_);refine A3 rfl (fun kd ka=>?_) (fun kd ka=>?_)
 ·obtain⟨k,hk⟩:∃k,s.mounts.length+1 - j=k+1:=⟨s.mounts.length - j,by omega⟩;rw[hk]at hit;refine Bq (h:=B2 (h:=l_ (h:=?_)));refine AK (Lz s.files b hs.files) ?_;refine Nl (h:=F6 (h:=?_));refine AF false rfl rfl (fun ke kc=>?_) (fun ke kc=>?_)
  ·refine EV (h:=Gq (h:=e_ (BH (C1 (h:=C1 (h:=?_))))));refine A4 ?_;rw[<-hit,SK k (by rw[hde,kc];rfl)];rfl
  refine CG (h:=Cq (h:=?_));refine A3 rfl (fun kh kf=>?_) (fun kh kf=>?_)
  ·refine Gq (h:=e_ (BH (C1 (h:=C1 (h:=?_)))));refine A4 ?_;rw[<-hit,SK k (by rw[hde,decide_eq_false kf,Bool.and_false])];rfl
  refine DF (h:=D3 (h:=?_));refine A3 rfl (fun kl kg=>?_) (fun kl kg=>?_)
  ·have hdd:AU s.files b=true:=by rw[hde,kc,decide_eq_true kf];rfl
   have kd:¬b.2=1:=by rw[<-ZT hdd];exact kg
   refine H8 (h:=GR (h:=e_ (BH (C1 (h:=C1 (h:=?_))))));refine A4 ?_;rw[<-hit,ZU k hdd kd];rfl
  have hdd:AU s.files b=true:=by rw[hde,kc,decide_eq_true kf];rfl
  have kd:b.2=1:=by rw[<-ZT hdd];exact kg
  refine AG (Bw (h:=Ac (h:=?_)));refine AK (Tv s b.1 hs) ?_;refine Nl (h:=F6 (h:=?_));refine AF false rfl rfl (fun ko kk=>?_) (fun ko kk=>?_)
  ·refine EV (h:=EX (h:=C1 (h:=C1 (h:=?_))));refine A4 ?_;rw[<-hit,ZW k hdd kd kk];rfl
  refine D2 (h:=Cq (h:=?_));refine A3 rfl (fun kq km=>?_) (fun kq km=>?_)
  ·refine EX (h:=C1 (h:=C1 (h:=?_)));refine A4 ?_;exfalso;rw[km,VC hv]at kk;cases kk
  refine AG (Aq (l_ (h:=s_ (h:=Bu (Bz (t_ (Aq (GV (h:=?_)))))))));refine⟨_,_,?_,⟨j+1,((CB s b.1).getD (0,0)),by omega,rfl,(by rw[<-hit,ZV k hdd kd kk,show s.mounts.length+1 - (j+1)=k by omega]),rfl⟩,(wk 3 0)⟩;omega
 refine C4 (h:=EX (h:=?_));refine A4 ?_;have ej:s.mounts.length+1 - j=0:=by omega
 rw[ej]at hit;rw[<-hit];rfl
end
end Go.Proofs.YtbgnigjfkbmceaaGreatDoor
namespace Go.Proofs.YtbgnigjfkbmceaaGreatDoor
section
open Go.RowKit
variable {s:Spc}(hv:SpcV s)
include hv
omit hv in
theorem VK{a:A8}(h:(Bv s a).2=true):AU s.files a=true/\CR s a.1=true:=by
 unfold Bv at h;split at h
 ·rename_i c;exact⟨c.1,c.2.1⟩
 cases h
theorem ZY{d:Int}(h0:0<=d)(h1:d<(s.files.length:Int)):AU s.files (d,1)=true:=by
 obtain⟨q,rfl⟩:=Int.eq_ofNat_of_zero_le h0;have hq:s.files[q]?=some s.files[q]:=B7 (by omega);obtain⟨r,rest,hr,h2,h3,_⟩:=(hv.files.vd _ (Aj hq)).root;exact(O5 (VA hv hq (by rw[hr];exact List.mem_cons_self ..) h2)).2 h3
end
end Go.Proofs.YtbgnigjfkbmceaaGreatDoor
namespace Go.Proofs.YtbgnigjfkbmceaaGreatDoor
structure Fnd where
 dir:A8
 name:AD
 file:A8
 ex:Bool
 slash:Bool
 path:AD
def Ep:Fnd:=⟨(0,0),⟨#[]⟩,(0,0),false,false,⟨#[]⟩⟩
def Ah(x:Fnd):List AV:=[.v (.int .i64 x.dir.1), .v (.int .i64 x.dir.2), .v (.string x.name), .v (.int .i64 x.file.1), .v (.int .i64 x.file.2), .v (.bool x.ex), .v (.bool x.slash), .v (.string x.path)]
def Dc(s:AD):List AD:=(CJ s.data.toList).map fun l=>⟨l.toArray⟩
theorem ZZ(s:AD):Ch (Dc s)=CJ s.data.toList:=by
 unfold Ch Dc;rw[List.map_map];have:((fun x:AD=>x.data.toList) ∘ fun l:Bs=>(⟨l.toArray⟩:AD))=id:=by funext l;simp
 rw[this,List.map_id]
theorem Za:∀{a b:List AD},Ch a=Ch b->a=b
 |[],[],_=>rfl
 |[],_::_,h=>by simp[Ch]at h
 |_::_,[],h=>by simp[Ch]at h
 |x::a,y::b,h=>by
   simp only[Ch,List.map_cons,List.cons.injEq]at h;rw[QS h.1,Za (a:=a) (b:=b) h.2]
theorem VL{s:AD}{ps:List AD}(h:Ch ps=CJ s.data.toList):ps=Dc s:=Za (h.trans (ZZ s).symm)
theorem Ou(s:AD):(Dc s).length<=s.size+1:=by
 have h1:=ZS (Dc s);have h2:=Ua s.data.toList;rw[<-ZZ]at h2;rw[Lib.size_eq];omega
def GK(s:Spc):A8:=Dh s s.mounts.length (0,1)
structure Lk where
 ps:List AD
 dir:A8
 name:AD
 file:A8
 ex:Bool
 links:Nat
abbrev SL:AD:=⟨#[46]⟩
abbrev QT:AD:=⟨#[46,46]⟩
def DR(s:Spc)(fl:Bool)(p:AD)(ps:List AD)(a:A8)(lk:Nat):Int ⊕ Lk:=
 if AU s.files a=false then .inl 20
 else if 12<p.size then .inl 36
 else if p=SL then .inr ⟨ps,a,⟨#[]⟩,a,true,lk⟩
 else if p=QT then .inr ⟨ps,Dh s s.mounts.length (FV s (s.mounts.length+1) a),⟨#[]⟩,Dh s s.mounts.length (FV s (s.mounts.length+1) a),true,lk⟩
 else if(AJ s.files a p).2≠0 then(if ps≠[]\/FC p=false then .inl 2 else .inr ⟨[],a,p,(0,0),false,lk⟩)
 else if(AY s.files (AJ s.files a p).1).kind=3/\(ps≠[]\/fl=true)then
  (if lk=8 then .inl 40 else
    .inr ⟨Dc (AY s.files (AJ s.files a p).1).target++ps,if EB (AY s.files (AJ s.files a p).1).target=true then GK s else a,⟨#[]⟩,if EB (AY s.files (AJ s.files a p).1).target=true then GK s else a,true,lk+1⟩)
 else .inr ⟨ps,a,p,Dh s s.mounts.length (AJ s.files a p).1,true,lk⟩
def SM:Lk:=⟨[],(0,0),⟨#[]⟩,(0,0),false,0⟩
def Lc(s:Spc)(fl:Bool):Nat->Lk->Int×Lk
 |0,σ=>(0,σ)
 |k+1,σ=>match σ.ps with
   |[]=>(0,σ)
   |p::ps=>match DR s fl p ps σ.file σ.links with
     | .inl e=>(e,SM)
     | .inr τ=>Lc s fl k τ
def He(σ:Lk):Nat:=(8 - σ.links) * 200+σ.ps.length
section
open Go.RowKit
variable {s:Spc}(hv:FlsV s.files)
include hv
theorem VM{fl:Bool}{p:AD}{ps:List AD}{a:A8}{lk:Nat}{τ:Lk}(h8:lk<=8)(h:DR s fl p ps a lk= .inr τ):τ.links<=8/\He τ<(8 - lk) * 200+(ps.length+1):=by
 unfold DR at h;split at h
 ·cases h
 split at h
 ·cases h
 split at h
 ·injection h with h;subst h;exact⟨h8,by unfold He;simp only;omega⟩
 split at h
 ·injection h with h;subst h;exact⟨h8,by unfold He;simp only;omega⟩
 split at h
 ·split at h
  ·cases h
  injection h with h;subst h;exact⟨h8,by unfold He;simp only[List.length_nil];omega⟩
 split at h
 ·split at h
  ·cases h
  rename_i h9;injection h with h;subst h;have ht:=QK hv (AJ s.files a p).1;have hl:=Ou (AY s.files (AJ s.files a p).1).target;refine⟨by simp only;omega,?_⟩;unfold He;simp only[List.length_append]
  have:(8 - lk) * 200=(8 - (lk+1)) * 200+200:=by
   rw[show 8 - lk=(8 - (lk+1))+1 by omega,Nat.add_mul]
  omega
 injection h with h;subst h;exact⟨h8,by unfold He;simp only;omega⟩
theorem oW(fl:Bool):∀(k k':Nat) (σ:Lk),σ.links<=8->He σ<=k->He σ<=k'->Lc s fl k σ=Lc s fl k' σ:=by
 intro k
 induction k with
 |zero=>
   intro k' σ h8 h h'
   have he:σ.ps=[]:=by
    unfold He at h;exact ER (by omega)
   cases k' with
   |zero=>rfl
   |succ k'=>unfold Lc;rw[he]
 |succ k ih=>
   intro k' σ h8 h h'
   cases hps:σ.ps with
   |nil=>cases k'<;>(unfold Lc;rw[hps])
   |cons p ps=>
     have hm:He σ=(8 - σ.links) * 200+(ps.length+1):=by unfold He;rw[hps];rfl
     cases k' with
     |zero=>rw[hm]at h';omega
     |succ k'=>
       unfold Lc;rw[hps];simp only
       cases hs:DR s fl p ps σ.file σ.links with
       |inl e=>rfl
       |inr τ=>
         simp only;obtain⟨h1,h2⟩:=VM hv h8 hs;exact ih k' τ h1 (by omega) (by omega)
end
def Fn(s:Spc)(fl:Bool)(σ:Lk):Int×Lk:=Lc s fl (He σ) σ
theorem VN{s:Spc}{fl:Bool}{σ:Lk}(h:σ.ps=[]):Fn s fl σ=(0,σ):=by
 unfold Fn
 cases He σ with
 |zero=>rfl
 |succ k=>unfold Lc;rw[h]
theorem Zb{s:Spc}(hv:FlsV s.files){fl:Bool}{σ:Lk}{p:AD}{ps:List AD}(h8:σ.links<=8)(h:σ.ps=p::ps):Fn s fl σ=match DR s fl p ps σ.file σ.links with
    | .inl e=>(e,SM)
    | .inr τ=>Fn s fl τ:=by
 have hm:He σ=((8 - σ.links) * 200+ps.length)+1:=by unfold He;rw[h];rfl
 unfold Fn;rw[hm]
 conv=>lhs;unfold Lc
 rw[h];simp only
 cases hs:DR s fl p ps σ.file σ.links with
 |inl e=>rfl
 |inr τ=>
   simp only;obtain⟨h1,h2⟩:=VM hv h8 hs;exact oW hv fl _ _ τ h1 (by omega) (As _)
def Ld(s:Spc)(sl:Bool)(τ:Lk):Fnd:=⟨τ.dir,τ.name,τ.file,τ.ex,sl,if(Bv s τ.dir).2=true then(if τ.name=⟨#[]⟩then(Bv s τ.dir).1 else EN (Bv s τ.dir).1 τ.name)else⟨#[]⟩⟩
def Kc(ps:List AD)(a:A8):Lk:=⟨ps,a,⟨#[]⟩,a,true,0⟩
def CW(s:Spc)(start:A8)(p:AD)(fl:Bool):Fnd×Int:=
 if p=⟨#[]⟩then(Ep,2)else if 128<p.size then(Ep,36)
 else if AU s.files (if EB p=true then GK s else start)=false then(Ep,2)
 else if(Fn s (fl||BM p) (Kc (Dc p) (if EB p=true then GK s else start))).1≠0 then(Ep,(Fn s (fl||BM p) (Kc (Dc p) (if EB p=true then GK s else start))).1)
 else if BM p=true/\(Fn s (fl||BM p) (Kc (Dc p) (if EB p=true then GK s else start))).2.ex=true/\AU s.files (Fn s (fl||BM p) (Kc (Dc p) (if EB p=true then GK s else start))).2.file=false then(Ep,20)
 else(Ld s (BM p) (Fn s (fl||BM p) (Kc (Dc p) (if EB p=true then GK s else start))).2,0)
section
open Go.RowKit
structure Dsc where
 fd:Int
 file:A8
 flags:Int
structure Prc where
 pid:Int
 ppid:Int
 uid:Int
 euid:Int
 gid:Int
 egid:Int
 auid:Int
 ses:Int
 cwd:A8
 comm:AD
 exe:AD
 opens:List Dsc
 audited:Bool
structure Tab where
 next:Int
 nextS:Int
 ps:List Prc
structure Syst where
 spc:Spc
 tab:Tab
structure Cal where
 num:Int
 a0:Int
 a1:Int
 a2:Int
 a3:Int
 paths:List AD
 args:List AD
structure Res where
 exit:Int
 child:Int
 gone:Int
 items:List Itm
 changes:List MQ
structure Wrk where
 s:Syst
 p:Prc
 c:Cal
 found:List Fnd
 r:Res
def VO:Prc:=⟨0,0,0,0,0,0,0,0,(0,0),⟨#[]⟩,⟨#[]⟩,[],false⟩
def EZ:Tab:=⟨0,0,[]⟩
def Hf:Res:=⟨0,0,0,[],[]⟩
def Ov(cwd:A8):Tab:=⟨2,1,[⟨1,0,0,0,0,0,4294967295,4294967295,cwd,⟨#[105,110,105,116]⟩,⟨#[47,105,110,105,116]⟩,[],true⟩]⟩
def Ow(t:Tab)(pid:Int):Option Prc:=t.ps.find? fun p=>decide (p.pid=pid)
def Ca(t:Tab)(pid:Int):Bool:=(Ow t pid).isSome
def AP(t:Tab)(pid:Int):Prc:=(Ow t pid).getD VO
def Jh(t:Tab)(p:Prc):Tab:=⟨t.next,t.nextS,t.ps.map fun x=>if x.pid=p.pid then p else x⟩
def Hg(t:Tab)(pid:Int):Tab×Int×Int:=
 if Ca t pid=false then(EZ,0,3)else if 16<=(t.ps.length:Int)\/t.next=1073741824 then(EZ,0,11)
 else(⟨t.next+1,t.nextS,t.ps++[{AP t pid with pid:=t.next,ppid:=pid}]⟩,t.next,0)
def Kd(pid:Int)(p:Prc):Prc:=if p.ppid=pid then{p with ppid:=1}else p
def K5(t:Tab)(pid:Int):Tab×Int:=
 if Ca t pid=false then(EZ,3)else if pid=1 then(EZ,1)
 else(⟨t.next,t.nextS,(t.ps.filter fun p=>decide (p.pid≠pid)).map (Kd pid)⟩,0)
def Fo(priv:Bool)(real eff n:Int):Int×Int×Int:=if priv=true then(n,n,0)else if n=real\/n=eff then(real,n,0)else(0,0,1)
def LC(n:Int):Bool:=decide (0<=n)&&decide (n<4294967295)
def K6(t:Tab)(pid u:Int):Tab×Int:=
 if Ca t pid=false then(EZ,3)else if LC u=false then(EZ,22)
 else if(Fo (decide ((AP t pid).euid=0)) (AP t pid).uid (AP t pid).euid u).2.2≠0 then(EZ,(Fo (decide ((AP t pid).euid=0)) (AP t pid).uid (AP t pid).euid u).2.2)
 else(Jh t {AP t pid with uid:=(Fo (decide ((AP t pid).euid=0)) (AP t pid).uid (AP t pid).euid u).1,euid:=(Fo (decide ((AP t pid).euid=0)) (AP t pid).uid (AP t pid).euid u).2.1},0)
def K7(t:Tab)(pid u:Int):Tab×Int:=
 if Ca t pid=false then(EZ,3)else if LC u=false then(EZ,22)
 else if(Fo (decide ((AP t pid).euid=0)) (AP t pid).gid (AP t pid).egid u).2.2≠0 then(EZ,(Fo (decide ((AP t pid).euid=0)) (AP t pid).gid (AP t pid).egid u).2.2)
 else(Jh t {AP t pid with gid:=(Fo (decide ((AP t pid).euid=0)) (AP t pid).gid (AP t pid).egid u).1,egid:=(Fo (decide ((AP t pid).euid=0)) (AP t pid).gid (AP t pid).egid u).2.1},0)
def Gy(t:Tab)(pid auid:Int):Tab×Int:=
 if Ca t pid=false then(EZ,3)else if LC auid=false then(EZ,22)
 else if(AP t pid).auid≠4294967295/\(AP t pid).euid≠0 then(EZ,1)else if t.nextS=1073741824 then(EZ,11)
 else(⟨t.next,t.nextS+1,(Jh t {AP t pid with auid:=auid,ses:=t.nextS}).ps⟩,0)
def Ge:Nat->List Dsc->Nat
 |k,[]=>k
 |k,d::r=>if d.fd=(k:Int)then Ge (k+1) r else k
def Ox(l:List Dsc)(fd:Nat)(x:Dsc):List Dsc:=l.take fd++x::l.drop fd
def Gz(t:Tab)(pid:Int)(a:A8)(flags:Int):Tab×Int×Int:=
 if Ca t pid=false then(EZ,0,3)else if 8<=((AP t pid).opens.length:Int)then(EZ,0,24)
 else(Jh t {AP t pid with opens:=Ox (AP t pid).opens (Ge 0 (AP t pid).opens) ⟨(Ge 0 (AP t pid).opens:Nat),a,flags⟩},(Ge 0 (AP t pid).opens:Nat),0)
def LD(t:Tab)(pid fd:Int):Tab×Int:=
 if Ca t pid=false then(EZ,3)else if(((AP t pid).opens.filter fun d=>decide (d.fd≠fd)).length:Int)=((AP t pid).opens.length:Int)then(EZ,9)
 else(Jh t {AP t pid with opens:=(AP t pid).opens.filter fun d=>decide (d.fd≠fd)},0)
def Le(t:Tab)(pid:Int)(dir:A8):Tab×Int:=if Ca t pid=false then(EZ,3)else(Jh t {AP t pid with cwd:=dir},0)
def Lf(t:Tab)(pid:Int)(exe comm:AD):Tab×Int:=if Ca t pid=false then(EZ,3)else(Jh t {AP t pid with exe:=exe,comm:=comm},0)
def Ji(t:Tab)(pid target:Int)(ends:Bool):Tab×Int:=
 if Ca t pid=false then(EZ,3)else if Ca t target=false then(EZ,3)
 else if target=1\/(AP t pid).euid≠0/\(AP t pid).euid≠(AP t target).uid then(EZ,1)
 else if ends=true then K5 t target else(t,0)
def GL:List (AD×Int×Int×Int×Int):=[(⟨#[102,111,114,107]⟩,0,0,0,0),
 (⟨#[101,120,101,99,118,101]⟩,0,1,0,4),
 (⟨#[101,120,105,116]⟩,1,0,0,0),
 (⟨#[115,101,116,117,105,100]⟩,1,0,0,0),
 (⟨#[115,101,116,103,105,100]⟩,1,0,0,0),
 (⟨#[108,111,103,105,110]⟩,1,0,0,0),
 (⟨#[111,112,101,110]⟩,2,1,0,0),
 (⟨#[99,108,111,115,101]⟩,1,0,0,0),
 (⟨#[108,105,110,107]⟩,0,2,0,0),
 (⟨#[115,121,109,108,105,110,107]⟩,0,1,1,1),
 (⟨#[117,110,108,105,110,107]⟩,0,1,0,0),
 (⟨#[109,107,100,105,114]⟩,1,1,0,0),
 (⟨#[114,109,100,105,114]⟩,0,1,0,0),
 (⟨#[114,101,110,97,109,101]⟩,0,2,0,0),
 (⟨#[99,104,109,111,100]⟩,1,1,0,0),
 (⟨#[99,104,111,119,110]⟩,2,1,0,0),
 (⟨#[99,104,100,105,114]⟩,0,1,0,0),
 (⟨#[109,111,117,110,116]⟩,1,1,0,0),
 (⟨#[117,109,111,117,110,116]⟩,1,0,0,0),
 (⟨#[99,111,110,110,101,99,116]⟩,1,0,1,1),
 (⟨#[107,105,108,108]⟩,2,0,0,0),
 (⟨#[116,114,117,110,99,97,116,101]⟩,1,1,0,0)]
def C6(n:Int):AD×Int×Int×Int×Int:=if n<0\/22<=n then(⟨#[]⟩,0,0,0,0)else(GL[n.toNat]?).getD (⟨#[]⟩,0,0,0,0)
def Oy(c:Cal):List Int:=[c.a0,c.a1,c.a2,c.a3]
def Bt(c:Cal):Int:=
 if(C6 c.num).1=⟨#[]⟩then 100 else if(((Oy c).drop (C6 c.num).2.1.toNat).any fun x=>decide (x≠0))=true then 101
 else if(c.paths.length:Int)≠(C6 c.num).2.2.1\/(c.args.length:Int)<(C6 c.num).2.2.2.1\/(C6 c.num).2.2.2.2<(c.args.length:Int)then 101
 else if(c.paths.any fun p=>decide (128<p.size))=true then 102 else if(c.args.any fun p=>decide (64<p.size))=true then 102 else 0
def J8(n:Nod)(euid egid:Int):Int:=
 if euid=n.uid then H6 .i64 (Nc .i64 n.mode 6) 7 else if egid=n.gid then H6 .i64 (Nc .i64 n.mode 3) 7 else H6 .i64 n.mode 7
def Hh(n:Nod)(euid egid want:Int):Bool:=
 if want<0\/7<want then false
 else if euid=0 then decide (H6 .i64 want 1=0)||decide (n.kind=2)||decide (H6 .i64 n.mode 73≠0)
 else decide (H6 .i64 (J8 n euid egid) want=want)
def CT(a f:Int):Bool:=decide (H6 .i64 a f≠0)
def DS(c:Cal):List Int:=
 if c.num=1 then[1]else if c.num=6 then[(if CT c.a0 1=true then 4 else 0)+(if CT c.a0 22=true then 2 else 0)]
 else if c.num=8 then[8,2]else if c.num=13 then[2,2]else if c.num=14\/c.num=15\/c.num=17 then[8]else if c.num=16 then[4]else[2]
def FJ(c:Cal):Bool:=
 if c.num=6 then decide (H6 .i64 c.a0 32=0)else decide (c.num=1\/c.num=14\/c.num=15\/c.num=16\/c.num=17\/c.num=21)
def QU(n:Int):Bool:=decide (0<=n)&&decide (n<=511)
def LE(c:Cal):AD:=c.args.headD ⟨#[]⟩
def DU(p:Prc)(c:Cal):Int:=
 if c.num=6 then(if c.a0<0\/63<c.a0\/H6 .i64 c.a0 3=0\/QU c.a1=false then 22 else if 8<=(p.opens.length:Int)then 24 else 0)
 else if c.num=9 then(if LE c=⟨#[]⟩then 2 else if(LE c).data.toList.any (fun b=>decide (b=0))=true then 22 else 0)
 else if c.num=11\/c.num=14 then(if QU c.a0=false then 22 else 0)
 else if c.num=15 then(if c.a0<0\/4294967295<c.a0\/c.a1<0\/4294967295<c.a1 then 22 else 0)
 else if c.num=17 then(if p.euid≠0 then 1 else 0)
 else if c.num=21 then(if c.a0<0 then 22 else 0)else 0
def VP(s:Spc)(given:AD)(perm:Int)(f:Fnd):Itm:=
 ⟨given,f.path,f.dir,f.name,f.file,1,(AY s.files f.file).kind,(AY s.files f.file).mode,(AY s.files f.file).uid,(AY s.files f.file).gid,perm⟩
def Ke(given:AD)(perm:Int):Itm:=⟨given,⟨#[]⟩,(0,0),⟨#[]⟩,(0,0),1,0,0,0,0,perm⟩
def Kf(s:Spc)(cwd:A8)(fl:Bool)(x:List Itm×List Fnd×Int)(g:AD×Int):List Itm×List Fnd×Int:=
 if x.2.2=0 then
  (if(CW s cwd g.1 fl).2=0 then(x.1++[VP s g.1 g.2 (CW s cwd g.1 fl).1],x.2.1++[(CW s cwd g.1 fl).1],0)else(x.1++[Ke g.1 g.2],x.2.1++[(CW s cwd g.1 fl).1],(CW s cwd g.1 fl).2))
 else(x.1++[Ke g.1 g.2],x.2.1++[Ep],x.2.2)
def M6(s:Spc)(cwd:A8)(fl:Bool)(l:List (AD×Int))(e:Int):List Itm×List Fnd×Int:=l.foldl (Kf s cwd fl) ([],[],e)
def Av(w:Wrk)(i:Nat):Fnd:=(w.found[i]?).getD Ep
def CU(w:Wrk)(a:A8)(want:Int):Bool:=Hh (AY w.s.spc.files a) w.p.euid w.p.egid want
def LF(w:Wrk)(i:Nat):Bool:=AU w.s.spc.files (Av w i).file
def K8(w:Wrk)(a:A8):Bool:=(CH w.s.spc a).isSome||w.s.tab.ps.any fun p=>decide (p.cwd=a)
def Bf(w:Wrk)(R:Fj):Wrk×Int:=if R.2.2=0 then({w with s:=⟨⟨R.1,w.s.spc.mounts⟩,w.s.tab⟩,r:={w.r with changes:=R.2.1}},0)else(w,R.2.2)
def CV(w:Wrk)(R:Tab×Int):Wrk×Int:=if R.2=0 then({w with s:=⟨w.s.spc,R.1⟩},0)else(w,R.2)
def Zc(n:Nod)(a:A8)(x:Itm):Itm:={x with role:=2,file:=a,kind:=n.kind,mode:=n.mode,uid:=n.uid,gid:=n.gid}
def LG(w:Wrk)(i:Nat)(a:A8):Wrk:={w with r:={w.r with items:=w.r.items.modify i (Zc (AY w.s.spc.files a) a)}}
def oX:MQ:=((0,0),⟨#[]⟩,(0,0),(0,0))
def Zd(l:List MQ):A8:=(l.headD oX).2.2.2
def QV(w:Wrk)(n:Nod):Nod:={n with uid:=w.p.euid,gid:=w.p.egid}
def GM(w:Wrk)(i:Nat)(n:Nod):Fj:=Fl w.s.spc.files (Av w i).dir (Av w i).name (QV w n)
def DK(w:Wrk)(i:Nat)(n:Nod):Wrk×Int:=
 if(GM w i n).2.2=0 then(LG (Bf w (GM w i n)).1 i (Zd (GM w i n).2.1),0)else(w,(GM w i n).2.2)
def K9(w:Wrk)(i:Nat)(role:Int):Wrk:={w with r:={w.r with items:=w.r.items.modify i fun x=>{x with role:=role}}}
def SN(w:Wrk)(n:Int):Wrk:={w with r:={w.r with exit:=n}}
def LH(mode:Int):Nod:=⟨0,1,mode,0,0,0,⟨#[]⟩,[]⟩
def Lg(w:Wrk)(a:A8):Wrk×Int:=CV (SN w (Gz w.s.tab w.p.pid a w.c.a0).2.1) ((Gz w.s.tab w.p.pid a w.c.a0).1,(Gz w.s.tab w.p.pid a w.c.a0).2.2)
def Md(a:Int):Int:=(if CT a 1=true then 4 else 0)+(if CT a 18=true then 2 else 0)
def D8(w:Wrk):Wrk×Int:=
 if(Av w 0).ex=true then
  (if CT w.c.a0 4=true/\CT w.c.a0 8=true then(w,17)
  else if(AY w.s.spc.files (Av w 0).file).kind=3 then(w,40)
  else if(AY w.s.spc.files (Av w 0).file).kind=2/\CT w.c.a0 22=true then(w,21)
  else if CU w (Av w 0).file (Md w.c.a0)=false then(w,13)
  else Lg w (Av w 0).file)
 else
  (if CT w.c.a0 4=false then(w,2)else if(Av w 0).slash=true then(w,21)else if CU w (Av w 0).dir 2=false then(w,13)
  else if(DK w 0 (LH w.c.a1)).2≠0 then DK w 0 (LH w.c.a1)
  else Lg (DK w 0 (LH w.c.a1)).1 (Zd (DK w 0 (LH w.c.a1)).1.r.changes))
def Gf(w:Wrk):Wrk×Int:=
 if(Av w 0).ex=false then(w,2)else if LF w 0=true then(w,1)else if(Av w 1).ex=true then(w,17)else if(Av w 1).slash=true then(w,2)
 else if(Av w 0).file.1≠(Av w 1).dir.1 then(w,18)else if CU w (Av w 1).dir 2=false then(w,13)
 else if(FU w.s.spc.files (Av w 1).dir (Av w 1).name (Av w 0).file).2.2≠0 then(w,(FU w.s.spc.files (Av w 1).dir (Av w 1).name (Av w 0).file).2.2)
 else(LG (Bf w (FU w.s.spc.files (Av w 1).dir (Av w 1).name (Av w 0).file)).1 1 (Av w 0).file,0)
def Kg(w:Wrk)(R:Fj):Wrk×Int:=if R.2.2≠0 then(w,R.2.2)else(K9 (Bf w R).1 0 3,0)
def FW(w:Wrk):Wrk×Int:=
 if(Av w 0).ex=false then(w,2)
 else if w.c.num=10 then
  (if(Av w 0).name=⟨#[]⟩\/LF w 0=true then(w,21)else if CU w (Av w 0).dir 2=false then(w,13)
  else Kg w (JL w.s.spc.files (Av w 0).dir (Av w 0).name))
 else
  (if(Av w 0).name=⟨#[]⟩then(w,16)else if LF w 0=false then(w,20)
  else if K8 w (AJ w.s.spc.files (Av w 0).dir (Av w 0).name).1=true then(w,16)else if CU w (Av w 0).dir 2=false then(w,13)
  else Kg w (Hc w.s.spc.files (Av w 0).dir (Av w 0).name))
def M7(w:Wrk)(R:Fj)(x:A8):Wrk×Int:=
 if R.2.2≠0 then(w,R.2.2)else if 0<(R.2.1.length:Int)then(LG (K9 (Bf w R).1 0 3) 1 x,0)else((Bf w R).1,0)
def Gg(w:Wrk):Wrk×Int:=
 if(Av w 0).ex=false then(w,2)else if(Av w 0).name=⟨#[]⟩\/(Av w 1).name=⟨#[]⟩then(w,16)
 else if(Av w 1).slash=true/\LF w 0=false then(w,20)else if(Av w 0).dir.1≠(Av w 1).dir.1 then(w,18)
 else if CU w (Av w 0).dir 2=false\/CU w (Av w 1).dir 2=false then(w,13)
 else if(AJ w.s.spc.files (Av w 1).dir (Av w 1).name).2=0/\(AJ w.s.spc.files (Av w 1).dir (Av w 1).name).1≠(AJ w.s.spc.files (Av w 0).dir (Av w 0).name).1/\AU w.s.spc.files (AJ w.s.spc.files (Av w 1).dir (Av w 1).name).1=true/\K8 w (AJ w.s.spc.files (Av w 1).dir (Av w 1).name).1=true then(w,16)
 else M7 w (Gd w.s.spc.files (Av w 0).dir (Av w 0).name (Av w 1).dir (Av w 1).name) (AJ w.s.spc.files (Av w 0).dir (Av w 0).name).1
def M8(w:Wrk)(R:AR×Int):Wrk×Int:=Bf w (R.1,[],R.2)
def H0(w:Wrk):Wrk×Int:=
 if(Av w 0).ex=false then(w,2)
 else if w.c.num=14 then
  (if w.p.euid≠0/\w.p.euid≠(AY w.s.spc.files (Av w 0).file).uid then(w,1)
  else M8 w (Gb w.s.spc.files (Av w 0).file w.c.a0 (AY w.s.spc.files (Av w 0).file).uid (AY w.s.spc.files (Av w 0).file).gid))
 else if w.p.euid≠0 then(w,1)else M8 w (Gb w.s.spc.files (Av w 0).file (AY w.s.spc.files (Av w 0).file).mode w.c.a0 w.c.a1)
def M9(w:Wrk)(R:Spc×Int):Wrk×Int:=if R.2=0 then({w with s:=⟨R.1,w.s.tab⟩},0)else(w,R.2)
def EC(w:Wrk):Wrk×Int:=
 if(Av w 0).ex=false then(w,2)
 else if w.c.num=1 then(if LF w 0=true\/CU w (Av w 0).file 1=false then(w,13)else CV w (Lf w.s.tab w.p.pid (Av w 0).path (Av w 0).name))
 else if w.c.num=16 then(if LF w 0=false then(w,20)else if CU w (Av w 0).file 1=false then(w,13)else CV w (Le w.s.tab w.p.pid (Av w 0).file))
 else if w.c.num=17 then(if LF w 0=false then(w,20)else M9 w (Eo w.s.spc w.c.a0 (Av w 0).file))
 else if LF w 0=true then(w,21)else if CU w (Av w 0).file 2=false then(w,13)else(w,0)
def Oz(t:AD):Nod:=⟨0,3,511,0,0,0,t,[]⟩
def QW(mode:Int):Nod:=⟨0,2,mode,0,0,0,⟨#[]⟩,[]⟩
def H3(w:Wrk):Wrk×Int:=
 if(Av w 0).ex=true then(w,17)else if(Av w 0).slash=true/\w.c.num=9 then(w,2)else if CU w (Av w 0).dir 2=false then(w,13)
 else if w.c.num=9 then DK w 0 (Oz (LE w.c))else DK w 0 (QW w.c.a0)
def P0(t:Tab)(dev:Int):Bool:=t.ps.any fun p=>decide (p.cwd.1=dev)||p.opens.any fun d=>decide (d.file.1=dev)
def MA(w:Wrk)(R:Spc×Int):Wrk×Int:=if R.2=0 then({w with s:=⟨R.1,w.s.tab⟩,r:={w.r with gone:=w.c.a0}},0)else(w,R.2)
def J9(w:Wrk):Wrk×Int:=
 if w.p.euid≠0 then(w,1)else if w.c.a0=0\/CR w.s.spc w.c.a0=false then(w,22)else if P0 w.s.tab w.c.a0=true then(w,16)
 else MA w (JM w.s.spc w.c.a0)
def P3(w:Wrk)(n:Int):Wrk:={w with r:={w.r with exit:=n,child:=n}}
def Fp(w:Wrk):Wrk×Int:=
 if w.c.num=0 then CV (P3 w (Hg w.s.tab w.p.pid).2.1) ((Hg w.s.tab w.p.pid).1,(Hg w.s.tab w.p.pid).2.2)
 else if w.c.num=2 then CV w (K5 w.s.tab w.p.pid)
 else if w.c.num=3 then CV w (K6 w.s.tab w.p.pid w.c.a0)
 else if w.c.num=4 then CV w (K7 w.s.tab w.p.pid w.c.a0)
 else if w.c.num=5 then CV w (Gy w.s.tab w.p.pid w.c.a0)
 else if w.c.num=7 then CV w (LD w.s.tab w.p.pid w.c.a0)
 else if w.c.num=18 then J9 w
 else if w.c.num=19 then(if w.c.a0<0\/65535<w.c.a0\/LE w.c=⟨#[]⟩then(w,22)else if w.c.a0=0 then(w,111)else(w,0))
 else if w.c.a1<0\/64<w.c.a1 then(w,22)else CV w (Ji w.s.tab w.p.pid w.c.a0 (decide (w.c.a1≠0)))
def Bb(w:Wrk):Wrk×Int:=
 if w.c.num=6 then D8 w else if w.c.num=8 then Gf w else if w.c.num=10\/w.c.num=12 then FW w else if w.c.num=13 then Gg w
 else if w.c.num=14\/w.c.num=15 then H0 w else if w.c.num=1\/w.c.num=16\/w.c.num=17\/w.c.num=21 then EC w
 else if w.c.num=9\/w.c.num=11 then H3 w else Fp w
def Hi(s:Syst)(p:Prc)(c:Cal):List Itm×List Fnd×Int:=M6 s.spc p.cwd (FJ c) (c.paths.zip (DS c)) (DU p c)
def Kh(s:Syst)(pid:Int)(c:Cal):Wrk:=⟨s,AP s.tab pid,c,(Hi s (AP s.tab pid) c).2.1,{Hf with items:=(Hi s (AP s.tab pid) c).1}⟩
def Ki(n:Int):Syst×Int:=if(Gu n).2≠0 then(⟨⟨[],[]⟩,EZ⟩,(Gu n).2)else(⟨⟨(Gu n).1,[]⟩,Ov (0,1)⟩,0)
def Hj(d:Dsc):List AV:=[.v (.int .i64 d.fd), .v (.int .i64 d.file.1), .v (.int .i64 d.file.2), .v (.int .i64 d.flags)]
def Ar(p:Prc):List AV:=[.v (.int .i64 p.pid), .v (.int .i64 p.ppid), .v (.int .i64 p.uid), .v (.int .i64 p.euid), .v (.int .i64 p.gid), .v (.int .i64 p.egid), .v (.int .i64 p.auid), .v (.int .i64 p.ses), .v (.int .i64 p.cwd.1), .v (.int .i64 p.cwd.2), .v (.string p.comm), .v (.string p.exe), .sl 4 (p.opens.map Hj) none, .v (.bool p.audited)]
def Ao(t:Tab):List AV:=[.v (.int .i64 t.next), .v (.int .i64 t.nextS), .sl 14 (t.ps.map Ar) none]
def Cb(s:Syst):List AV:=[.sl 2 (s.spc.files.map CQ) none, .sl 3 (s.spc.mounts.map Dm) none, .v (.int .i64 s.tab.next), .v (.int .i64 s.tab.nextS), .sl 14 (s.tab.ps.map Ar) none]
def DV(s:AD):List AV:=[.v (.string s)]
def GN(c:Cal):List AV:=[.v (.int .i64 c.num), .v (.int .i64 c.a0), .v (.int .i64 c.a1), .v (.int .i64 c.a2), .v (.int .i64 c.a3), .sl 1 (c.paths.map DV) none, .sl 1 (c.args.map DV) none]
def Cn(y:Itm):List AV:=[.v (.string y.given), .v (.string y.path), .v (.int .i64 y.dir.1), .v (.int .i64 y.dir.2), .v (.string y.name), .v (.int .i64 y.file.1), .v (.int .i64 y.file.2), .v (.int .i64 y.role), .v (.int .i64 y.kind), .v (.int .i64 y.mode), .v (.int .i64 y.uid), .v (.int .i64 y.gid), .v (.int .i64 y.perm)]
def Kj(r:Res):List AV:=[.v (.int .i64 r.exit), .v (.int .i64 r.child), .v (.int .i64 r.gone), .sl 13 (r.items.map Cn) none, .sl 7 (r.changes.map FE) none]
def Dn(w:Wrk)(fnd its:AV):List AV:=
 [.sl 2 (w.s.spc.files.map CQ) none, .sl 3 (w.s.spc.mounts.map Dm) none, .v (.int .i64 w.s.tab.next), .v (.int .i64 w.s.tab.nextS), .sl 14 (w.s.tab.ps.map Ar) none,
 .v (.int .i64 w.p.pid), .v (.int .i64 w.p.ppid), .v (.int .i64 w.p.uid), .v (.int .i64 w.p.euid), .v (.int .i64 w.p.gid), .v (.int .i64 w.p.egid), .v (.int .i64 w.p.auid), .v (.int .i64 w.p.ses), .v (.int .i64 w.p.cwd.1), .v (.int .i64 w.p.cwd.2), .v (.string w.p.comm), .v (.string w.p.exe), .sl 4 (w.p.opens.map Hj) none, .v (.bool w.p.audited),
 .v (.int .i64 w.c.num), .v (.int .i64 w.c.a0), .v (.int .i64 w.c.a1), .v (.int .i64 w.c.a2), .v (.int .i64 w.c.a3), .sl 1 (w.c.paths.map DV) none, .sl 1 (w.c.args.map DV) none,fnd,
 .v (.int .i64 w.r.exit), .v (.int .i64 w.r.child), .v (.int .i64 w.r.gone),its, .sl 7 (w.r.changes.map FE) none]
structure TabB(t:Tab):Prop where
 few:t.ps.length<=16
 opens:∀p∈t.ps,p.opens.length<=8
 next:t.next<=1073741824
 nextS:t.nextS<=1073741824
structure RowF(sz:Nat){α:Type}(F:α->List AV):Prop where
 len:∀x,(F x).length=sz
 flat:∀x,∀y∈F x,(∃v,y= .v v)\/∃s r,y= .sl s r none
 pos:0<sz
def LB(sz:Nat){α:Type}(F:α->List AV)(l:List α)(cap:Nat):List AV:=Cm sz cap (l.map F)
section
variable {α:Type}{sz:Nat}{F:α->List AV}(hF:RowF sz F)
include hF
theorem O8(l:List α):∀r∈l.map F,r.length=sz:=by
 intro r hr;obtain⟨x,_,rfl⟩:=List.mem_map.1 hr;exact hF.len x
theorem SO{l:List α}{cap:Nat}(h:l.length<=cap):(LB sz F l cap).length=cap * sz:=U7 (O8 hF l) (by simpa using h)
theorem oY{g:AV->AV}(hv:∀x,g (.v x)= .v x)(hs:∀sz rows,g (.sl sz rows none)= .sl sz rows none)(x:α):(F x).map g=F x:=by
 conv=>rhs;rw[<-List.map_id (F x)]
 apply List.map_congr_left;intro y hy;rcases hF.flat x y hy with⟨v,rfl⟩|⟨s,r,rfl⟩
 ·exact hv v
 exact hs s r
theorem VQ{g:AV->AV}(hany:g .any= .any)(hv:∀x,g (.v x)= .v x)(hs:∀sz rows,g (.sl sz rows none)= .sl sz rows none)(l:List α)(cap:Nat):(LB sz F l cap).map g=LB sz F l cap:=by
 unfold LB;rw[Pv g hany,List.map_map]
 congr 1
 apply List.map_congr_left;intro x _;exact oY hF hv hs x
theorem Dp(g:Nat->Option Nat)(l:List α)(cap:Nat):ES g (LB sz F l cap)=LB sz F l cap:=by
 rw[Pt];exact VQ hF rfl (fun _=>rfl) (fun _ _=>rfl) l cap
theorem Me(g:Nat->Option Nat)(l:List α)(cap:Nat):Jn g (LB sz F l cap)=LB sz F l cap:=by
 rw[Rx];exact VQ hF rfl (fun _=>rfl) (fun _ _=>rfl) l cap
theorem oZ(g:Nat->Option (List AV))(l:List α)(cap:Nat):Ky g (LB sz F l cap)=LB sz F l cap:=by
 rw[Pu];exact VQ hF rfl (fun _=>rfl) (fun _ _=>rfl) l cap
theorem pA{n m:Nat}(x:α):Af n m (F x)=true:=by
 refine UK.2 fun y hy=>?_;rcases hF.flat x y hy with⟨v,rfl⟩|⟨s,r,rfl⟩<;>rfl
theorem C7{n m:Nat}{l:List α}{cap:Nat}:Af n m (LB sz F l cap)=true:=by
 refine UL fun r hr=>?_;obtain⟨x,_,rfl⟩:=List.mem_map.1 hr;exact pA hF x
theorem pB{n:Nat}{bx:List (List AV)}{k j:Nat}{l:List α}{cap:Nat}(hn:n<=j)(hj:bx[j]?=some (LB sz F l cap)):Ey n bx (k+1) j=some (LB sz F l cap):=by
 have:Nat.blt j n=false:=by rw[<-Bool.not_eq_true,Nat.blt_eq];omega
 simp only[Ey,this,hj,Option.map_some,oZ hF]
theorem P4{n:Nat}{bx:List (List AV)}{k j:Nat}{l:List α}{cap cap0:Nat}(hn:Nat.ble n j=true)(hj:bx[j]?=some (LB sz F l cap))(hc:l.length<=cap):Ho n (Ey n bx (k+1)) (.bs j 0 sz l.length cap0)= .sl sz (l.map F) none:=
 Yn (Bl hn) (pB hF (Bl hn) hj) (O8 hF l) (by simp) (by simpa using hc)
theorem pC{l:List α}{cap i k:Nat}{x:α}{y:AV}(h:l[i]?=some x)(hx:(F x)[k]?=some y):(LB sz F l cap)[0+i * sz+k]?=some y:=Px (O8 hF l) (by rw[List.getElem?_map,h];rfl) hx
theorem Mf{l:List α}{cap i k:Nat}{x x':α}{cs:List AV}(h:l[i]?=some x)(hs:SetAt (F x) k cs (F x'))(hne:cs≠[]):SetAt (LB sz F l cap) (0+i * sz+k) cs (LB sz F (l.set i x') cap):=by
 have key:=UP (cap:=cap) (O8 hF l) (by rw[List.getElem?_map,h];rfl) hs hne;rw[<-List.map_set]at key;exact key
theorem Ze{l:List α}{cap i:Nat}{x x':α}(h:l[i]?=some x):SetAt (LB sz F l cap) (0+i * sz) (F x') (LB sz F (l.set i x') cap):=by
 have hne:F x'≠[]:=fun e=>by have h1:=hF.len x';have h2:=hF.pos;rw[e]at h1;simp at h1;omega
 have hs:SetAt (F x) 0 (F x') (F x'):=by
  have:=SetAt.whole (xs:=F x') (l:=F x) (b:=[]) (by rw[hF.len,hF.len])
  simpa using this
 have key:=Mf hF (cap:=cap) h hs hne
 simpa using key
theorem Zf(x:α)(cap:Nat):F x++List.replicate ((cap - 1) * sz) .any=LB sz F [x] cap:=by
 have _:=hF;unfold LB Cm;simp
theorem VR(acc:List α)(x:α)(cap0 cap:Nat):((LB sz F acc cap0).drop 0).take (acc.length * sz)++F x++List.replicate ((cap - (acc.length+1)) * sz) .any=LB sz F (acc++[x]) cap:=by
 unfold LB;rw[Xq (O8 hF acc) (by simp),List.map_append];rfl
theorem VS{acc:List α}{x:α}{cap:Nat}{row:List AV}(hs:SetAt (LB sz F acc cap) (0+acc.length * sz) (F x) row)(hc:acc.length+1<=cap):row=LB sz F (acc++[x]) cap:=by
 have key:=Xp (rows:=acc.map F) (sz:=sz) (cap:=cap) (r:=F x) (row':=row) (O8 hF acc) (hF.len x) hF.pos (by simpa using hc) (by rw[List.length_map];exact hs);rw[key];unfold LB;rw[List.map_append];rfl
end
theorem FX:RowF 14 Ar:=⟨fun _=>rfl,fun x y h=>by simp[Ar]at h;rcases h with h|h|h|h|h|h|h|h|h|h|h|h|h|h<;>first|exact .inl ⟨_,h⟩|exact .inr ⟨_,_,h⟩,by decide⟩
theorem B9:RowF 13 Cn:=⟨fun _=>rfl,fun x y h=>by simp[Cn]at h;rcases h with h|h|h|h|h|h|h|h|h|h|h|h|h<;>exact .inl ⟨_,h⟩,by decide⟩
theorem CL{f:Nat->Option AV}{bx:List (List AV)}{tk:List (Nat×Nat×List (List AV))}{l:List (Nat×AV)}{N:Dim}(n m:Nat){bx':List (List AV)}{tk':List (Nat×Nat×List (List AV))}(hbp:Am n m bx'=true)(hn:Nat.ble N.ni n=true:=by rfl)(hb:bx.take n=bx':=by rfl)(ht:tk.take m=tk':=by rfl)(hl:Sub n m f l:=by repeat (first|exact Sub.nil|refine Sub.cons _ _ _ rfl rfl ?_|refine Sub.any _ _ ?_|refine Sub.sl _ _ _ _ _ rfl ?_|refine Sub.slnil _ _ _ rfl ?_|(apply Sub.of;(focus exact rfl);(focus exact LeA.of_eq (vb (by simp[*])));(focus exact rfl)))):Weak N ⟨f,⟨bx,tk⟩⟩ ⟨look l,⟨bx',tk'⟩⟩:=At n m hn hb ht hbp hl
def ED(bx:List (List AV))(g:Nat->Option Nat):List Nat->List (List AV)->List (List AV)
 |[],bc=>bx++bc.map (ES g)
 |i::is,[]=>ED bx g is []
 |i::is,r::bc=>ED (bx.set i (ES g r)) g is bc
theorem Zg{g:Nat->Option Nat}:∀(is:List Nat) (bx bc:List (List AV)),is.length<=bc.length->(ED bx g is bc).length=bx.length+(bc.length - is.length)
 |[],bx,bc,_=>by simp[ED]
 |i::is,bx,[],h=>by simp at h
 |i::is,bx,r::bc,h=>by
   unfold ED;rw[Zg is _ bc (by simpa using h)];simp
theorem SP{g:Nat->Option Nat}:∀(is:List Nat) (bx bc:List (List AV)) (i:Nat),i∉is->i<bx.length->(ED bx g is bc)[i]?=bx[i]?
 |[],bx,bc,i,_,hi=>by unfold ED;rw[DD hi]
 |j::is,bx,[],i,h,hi=>by
   unfold ED;exact SP is bx [] i (fun hm=>h (List.mem_cons_of_mem _ hm)) hi
 |j::is,bx,r::bc,i,h,hi=>by
   unfold ED;rw[SP is _ bc i (fun hm=>h (List.mem_cons_of_mem _ hm)) (by simpa using hi),List.getElem?_set_ne (fun e=>h (by rw[e];exact List.mem_cons_self ..))]
theorem Zh{g:Nat->Option Nat}:∀(is:List Nat) (bx bc:List (List AV)) (k i:Nat) (row:List AV),is.Nodup->i<bx.length->is[k]?=some i->bc[k]?=some row->(ED bx g is bc)[i]?=some (ES g row)
 |[],_,_,_,_,_,_,_,h,_=>by simp at h
 |j::is,bx,[],k,i,row,_,_,_,h=>by simp at h
 |j::is,bx,r::bc,0,i,row,hn,hi,h1,h2=>by
   simp at h1 h2;subst h1 h2;unfold ED;rw[SP is _ bc j (List.nodup_cons.1 hn).1 (by simpa using hi),List.getElem?_set_self hi]
 |j::is,bx,r::bc,k+1,i,row,hn,hi,h1,h2=>by
   unfold ED;exact Zh is _ bc k i row (List.nodup_cons.1 hn).2 (by simpa using hi) (by simpa using h1) (by simpa using h2)
theorem Zi{g:Nat->Option Nat}:∀(is:List Nat) (bx bc:List (List AV)) (k:Nat) (row:List AV),bc[is.length+k]?=some row->(ED bx g is bc)[bx.length+k]?=some (ES g row)
 |[],bx,bc,k,row,h=>by
   unfold ED;rw[Er (by omega),show bx.length+k - bx.length=k by omega,List.getElem?_map];simp at h;rw[h];rfl
 |j::is,bx,[],k,row,h=>by simp at h
 |j::is,bx,r::bc,k,row,h=>by
   unfold ED;have:=Zi (g:=g) is (bx.set j (ES g r)) bc k row (by simpa[Nat.add_right_comm]using h)
   simpa using this
theorem QX{bx:List (List AV)}{is:List Nat}{bc:List (List AV)}(hn:is.Nodup)(hi:∀i∈is,i<bx.length)(hl:is.length<=bc.length):Back bx is bc (ED bx (FM is bx.length) is bc):=by
 refine⟨Zg is bx bc hl,fun i row h1 h2=>?_,fun k i row h1 h2=>?_,fun k row h=>Zi is bx bc k row h⟩
 ·rw[SP is bx bc i h1 (AZ.1 h2).1];exact h2
 exact Zh is bx bc k i row hn (hi i (Aj h1)) h1 h2
def Dq:List AV:=[.v (.int .i64 0), .v (.int .i64 0), .v (.slice none 0 0)]
def Dr(t:Tab)(x:AV):List AV:=[.v (.int .i64 t.next), .v (.int .i64 t.nextS),x]
def FY(f:Prc->Prc)(l:List Prc)(j:Nat):List Prc:=(l.take j).map f++l.drop j
def KA(p x:Prc):Prc:=if x.pid=p.pid then p else x
theorem NK(f:Prc->Prc)(l:List Prc)(j:Nat):(FY f l j).length=l.length:=by
 unfold FY;simp;omega
theorem VT{f:Prc->Prc}{l:List Prc}{j:Nat}{x:Prc}(h:l[j]?=some x):(FY f l j)[j]?=some x:=by
 have hl:=(AZ.1 h).1;unfold FY;rw[Er (by simp;omega)];simp only[List.length_map,List.length_take,List.getElem?_drop];rw[show j+(j - min j l.length)=j by omega];exact h
theorem Zj{f:Prc->Prc}{l:List Prc}{j:Nat}{x:Prc}(h:l[j]?=some x):(FY f l j).set j (f x)=FY f l (j+1):=by
 obtain⟨hl,e⟩:=AZ.1 h;unfold FY;rw[List.take_add_one,h,List.drop_eq_getElem_cons hl,List.set_append_right _ _ (by simp;omega)];simp only[List.length_map,List.length_take,List.map_append,List.append_assoc];rw[show j - min j l.length=0 by omega];rfl
theorem pD{f:Prc->Prc}{l:List Prc}{j:Nat}{x:Prc}(h:l[j]?=some x)(hf:f x=x):FY f l j=FY f l (j+1):=by
 rw[<-Zj h,hf];have h2:=VT (f:=f) h;obtain⟨h3,h4⟩:=AZ.1 h2;rw[<-h4,List.set_getElem_self]
theorem pE(f:Prc->Prc)(l:List Prc):FY f l l.length=l.map f:=by
 unfold FY;simp
theorem Zk{t:Tab}{pid:Int}{p:Prc}(h:Ow t pid=some p):p∈t.ps:=List.mem_of_find?_eq_some h
theorem KC{t:Tab}(ht:TabB t)(pid:Int):(AP t pid).opens.length<=8:=by
 unfold AP
 cases h:Ow t pid with
 |none=>exact BG _
 |some p=>exact ht.opens p (Zk h)
theorem NL{t:Tab}{pid:Int}(h:Ca t pid=true):0<t.ps.length:=by
 unfold Ca at h;obtain⟨p,hp⟩:=Option.isSome_iff_exists.1 h;exact List.length_pos_of_mem (Zk hp)
theorem Zl{bx:List (List AV)}{n:Nat}(hn:bx.length=n)(t:Tab)(cap:Nat):Back bx [] [Ao t,Dr t (.bs 3 0 14 t.ps.length cap),Dr t (.bs 3 0 14 t.ps.length cap),LB 14 Ar t.ps cap] (bx++[Ao t,Dr t (.bs (n+3) 0 14 t.ps.length cap),Dr t (.bs (n+3) 0 14 t.ps.length cap),LB 14 Ar t.ps cap]):=by
 subst hn;have:=QX (bx:=bx) (is:=[]) (bc:=[Ao t,Dr t (.bs 3 0 14 t.ps.length cap),Dr t (.bs 3 0 14 t.ps.length cap),LB 14 Ar t.ps cap]) List.nodup_nil (by simp) (by simp);have e1:ES (FM [] bx.length) (Ao t)=Ao t:=rfl;have e2:ES (FM [] bx.length) (Dr t (.bs 3 0 14 t.ps.length cap))=Dr t (.bs (bx.length+3) 0 14 t.ps.length cap):=by simp[ES,Dr,Hn,FM]
 simpa[ED,Dp FX,e1,e2]using this
section
theorem QY(p:Prc)(hp:p.opens.length<=1000):AFn prog 137 [.agg (Ar p)] (fun r=>r= .agg (Ar p)):=by
 refine enter Tryz.func137 rfl rfl rfl rfl rfl 0 rfl ?_;refine E5 (h:=e_ (B2 (h:=?_)));refine A7 (N0 rfl rfl (by simp;omega) (by repeat constructor) ?_);refine Cg (h:=EX (h:=?_));refine A4 ?_;rfl
theorem Zm(t:Tab)(ht:TabB t):AFn prog 138 [.agg (Ao t)] (fun r=>r= .agg (Ao t)):=by
 have fa:=ht.few;refine enter Tryz.func138 rfl rfl rfl rfl rfl 0 rfl ?_;refine E5 (h:=e_ (H8 (h:=Bd (h:=CP (h:=Cz (h:=?_))))));refine MN 2 2 29 14 rfl rfl (by repeat constructor) (by repeat constructor) (by repeat constructor) ?_;refine BL (fun m s=>∃j:Nat,j<=t.ps.length/\m=t.ps.length - j/\s=⟨look [(1, .bp 0 0),(2, .bp 1 0),(3, .bp 2 0),(4, .v (.int .i64 (j:Int)))],⟨[Ao t,Dq,Dr t (.sl 14 ((t.ps.take j).map Ar) (some 0))],[(29,14,(t.ps.take j).map Ar)]⟩⟩) (t.ps.length) ((wk 3 1)) (⟨0,BG _,rfl,rfl⟩) ?_;rintro m s ⟨j,hj,rfl,rfl⟩;refine Hz (h:=?_);refine A3 rfl (fun kd ka=>?_) (fun kd ka=>?_)
 ·obtain⟨hlt,p,hy,ya,e⟩:=Bx Ar ka;have hop:p.opens.length<=1000:=by have:=ht.opens p (Aj hy);omega
  refine AG (q_ (BF (BJ ([(0,Ao t),(1,Dq),(2,Dr t (.sl 14 ((t.ps.take j).map Ar) (some 0)))]) 11 (h:=AA 0 (h:=A9 1 (h:=AA 2 (h:=A9 3 (h:=AE 4 (h:=E1 5 (h:=A9 6 (h:=?_)))))))))));refine c_ 7 rfl (AX (QY p hop) ?_);rintro r rfl;refine o_ (h:=KR 8 (h:=?_));refine c_ 9 rfl (G7 rfl rfl rfl (by simp;omega) (by repeat constructor) ?_);refine o_ (h:=AA 10 (h:=?_));refine Ax 11 (h:=z_ (h:=Bz (t_ (Aq (m_ (h:=Ez (h:=a_ (h:=Bu (AT (?_))))))))));refine⟨_,_,?_,⟨j+1,by omega,rfl,rfl⟩,(by rw[e];exact At 3 1 rfl rfl rfl rfl ((by repeat (first|exact Sub.nil|refine Aw rfl rfl ?_|refine B3 ?_|refine B4 rfl ?_|refine B5 rfl ?_))))⟩;omega
 have e:=CA Ar hj ka;subst e;rw[List.take_length];refine C4 (h:=EX (h:=?_));refine A4 ?_;rfl
theorem Zn(t:Tab)(ht:TabB t)(h0:0<t.ps.length):ACall prog 138 [.agg (Ao t)] [] (fun r b tk=>tk=[]/\∃cap,t.ps.length<=cap/\r= .agg (Dr t (.bs 3 0 14 t.ps.length cap))/\b=[Ao t,Dr t (.bs 3 0 14 t.ps.length cap),Dr t (.bs 3 0 14 t.ps.length cap),LB 14 Ar t.ps cap]):=by
 have fa:=ht.few;refine enter Tryz.func138 rfl rfl rfl rfl rfl 4 rfl ?_;refine E5 (h:=e_ (H8 (h:=Bd (h:=CP (h:=Cz (h:=?_))))));refine BL (fun m s=>∃(j:Nat) (acc:List Prc),j<=t.ps.length/\m=t.ps.length - j/\t.ps.take j=acc/\((acc=[]/\s=⟨look [(1, .bp 0 0),(2, .bp 1 0),(3, .bp 2 0),(4, .v (.int .i64 (j:Int)))],⟨[Ao t,Dq,Dr t (.v (.slice none 0 0))],[]⟩⟩)\/(∃cap,acc.length<=cap/\s=⟨look [(1, .bp 0 0),(2, .bp 1 0),(3, .bp 2 0),(4, .v (.int .i64 (j:Int)))],⟨[Ao t,Dq,Dr t (.bs 3 0 14 acc.length cap),LB 14 Ar acc cap],[]⟩⟩))) (t.ps.length) ((wk 3 0)) (⟨0,[],BG _,rfl,rfl, .inl ⟨rfl,rfl⟩⟩) ?_;rintro m s ⟨j,acc,hj,rfl,yl,⟨rfl,rfl⟩|⟨cap,hcp,rfl⟩⟩
 ·refine Hz (h:=?_);refine A3 rfl (fun kd ka=>?_) (fun kd ka=>?_)
  ·obtain⟨hlt,p,hy,ya, -⟩:=Bx Ar ka;have hk:t.ps.take (j+1)=t.ps.take j++[p]:=by rw[List.take_add_one,hy];rfl
   have hop:p.opens.length<=1000:=by have:=ht.opens p (Aj hy);omega
   refine AG (q_ (BF (BJ ([(0,Ao t),(1,Dq),(2,Dr t (.v (.slice none 0 0)))]) 11 (h:=AA 0 (h:=A9 1 (h:=AA 2 (h:=A9 3 (h:=AE 4 (h:=E1 5 (h:=A9 6 (h:=?_)))))))))));refine c_ 7 rfl (AX (QY p hop) ?_);rintro r rfl;refine o_ (h:=KR 8 (h:=?_));refine c_ 9 rfl (Rj rfl rfl Ma (by omega) (by omega) ?_);rintro cap2 k bx2 hcp hs;rw[show Cf (.agg (Ar p))++List.replicate ((cap2 - 1) * 14) AV.any=LB 14 Ar [p] cap2 from Zf FX p cap2]at hs;obtain⟨rfl,rfl⟩:k=3/\bx2=[_,_,_,_]:=hs.eq;refine o_ (h:=AA 10 (h:=?_));refine Ax 11 (h:=z_ (h:=Bz (t_ (Aq (m_ (h:=Ez (h:=a_ (h:=Bu (AT (?_))))))))));exact⟨t.ps.length - (j+1),_,by omega,⟨j+1,[p],by omega,rfl,(by rw[hk,yl];rfl), .inr ⟨cap2,hcp,rfl⟩⟩,At 4 0 rfl rfl rfl (by simp[Am,Af,Aa,C7 FX,Ao,Dr,Dq]) ((by repeat (first|exact Sub.nil|refine Aw rfl rfl ?_|refine B3 ?_|refine B4 rfl ?_|refine B5 rfl ?_)))⟩
  exfalso;have e:=CA Ar hj ka;rw[e,List.take_length]at yl;rw[yl]at h0;exact absurd h0 (by simp)
 skip
 refine Hz (h:=?_);refine A3 rfl (fun ke kc=>?_) (fun ke kc=>?_)
 ·obtain⟨hlt,p,hy,ya, -⟩:=Bx Ar kc;have hk:t.ps.take (j+1)=t.ps.take j++[p]:=by rw[List.take_add_one,hy];rfl
  have hop:p.opens.length<=1000:=by have:=ht.opens p (Aj hy);omega
  refine AG (q_ (BF (BJ ([(0,Ao t),(1,Dq),(2,Dr t (.bs 3 0 14 acc.length cap))]) 11 (h:=AA 0 (h:=A9 1 (h:=AA 2 (h:=A9 3 (h:=AE 4 (h:=E1 5 (h:=A9 6 (h:=?_)))))))))));refine c_ 7 rfl (AX (QY p hop) ?_);rintro r rfl;refine o_ (h:=KR 8 (h:=?_));refine c_ 9 rfl (OS rfl rfl rfl (by rw[SO FX hcp];omega) Ma (by omega) (by have:=congrArg List.length yl;simp at this;omega) ?_ ?_)
  ·rintro hg row2 bx2 hs hb;obtain rfl:=VS FX hs hg;obtain rfl:bx2=[_,_,_,_]:=hb.one.2;refine o_ (h:=AA 10 (h:=?_));refine Ax 11 (h:=z_ (h:=Bz (t_ (Aq (m_ (h:=Ez (h:=a_ (h:=Bu (AT (?_))))))))));exact⟨t.ps.length - (j+1),_,by omega,⟨j+1,acc++[p],by omega,rfl,(by rw[hk,yl]), .inr ⟨cap,by simpa using hg,by rw[List.length_append];rfl⟩⟩,At 4 0 rfl rfl rfl (by simp[Am,Af,Aa,C7 FX,Ao,Dr,Dq]) ((by repeat (first|exact Sub.nil|refine Aw rfl rfl ?_|refine B3 ?_|refine B4 rfl ?_|refine B5 rfl ?_)))⟩
  rintro hg cap3 k bx2 mz hs;rw[show((LB 14 Ar acc cap).drop 0).take (acc.length * 14)++Cf (.agg (Ar p))++List.replicate ((cap3 - (acc.length+1)) * 14) AV.any=LB 14 Ar (acc++[p]) cap3 from VR FX acc p cap cap3]at hs;obtain⟨rfl,rfl⟩:k=4/\bx2=[_,_,_,_,_]:=hs.eq;refine o_ (h:=AA 10 (h:=?_));refine Ax 11 (h:=z_ (h:=Bz (t_ (Aq (m_ (h:=Ez (h:=a_ (h:=Bu (AT (?_))))))))));exact⟨t.ps.length - (j+1),_,by omega,⟨j+1,acc++[p],by omega,rfl,(by rw[hk,yl]), .inr ⟨cap3,by simpa using mz,by rw[List.length_append];rfl⟩⟩,JZ [0,1,2,4] (fun i hi=>absurd hi (Nat.not_lt_zero i)) (by decide) (.cons _ _ _ _ _ rfl rfl (.cons _ _ _ _ _ rfl rfl (.cons _ _ _ _ _ rfl rfl (.cons _ _ _ _ _ rfl (Me FX _ _ _) .nil)))) (by repeat (first|exact SubK.nil|refine SubK.cons _ _ _ _ rfl (A6 _) ?_))⟩
 have e:=CA Ar hj kc;refine C4 (h:=EX (h:=?_));rw[e,List.take_length]at yl;subst yl;refine AO (r:= .agg (Dr t (.bs 3 0 14 t.ps.length cap))) none (h4:=(by simp[Am,Af,Aa,C7 FX,Ao,Dr])) (h5:=(A6 _)) (h6:=⟨rfl,cap,hcp,rfl,rfl⟩)
theorem Kk(t:Tab)(pid:Int)(ht:TabB t):AFn prog 93 [.agg (Ao t), .v (.int .i64 pid)] (fun r=>r= .tup [.agg (Ar (AP t pid)), .v (.bool (Ca t pid))]):=by
 have fa:=ht.few;refine enter Tryz.func93 rfl rfl rfl rfl rfl 0 rfl ?_;refine E5 (h:=Ay (h:=Cz (h:=?_)));refine BL (fun m s=>∃j:Nat,j<=t.ps.length/\m=t.ps.length - j/\(∀i y,i<j->t.ps[i]?=some y->decide (y.pid=pid)=false)/\s=⟨look [(1, .v (.int .i64 pid)),(2, .bp 0 0),(4, .bp 1 0),(6, .v (.int .i64 (j:Int)))],⟨[Ao t,[.v (.int .i64 0), .v (.int .i64 0), .v (.int .i64 0), .v (.int .i64 0), .v (.int .i64 0), .v (.int .i64 0), .v (.int .i64 0), .v (.int .i64 0), .v (.int .i64 0), .v (.int .i64 0), .v (.string ⟨#[]⟩), .v (.string ⟨#[]⟩), .v (.slice none 0 0), .v (.bool false)]],[]⟩⟩) (t.ps.length) ((wk 2 0)) (⟨0,BG _,rfl,fun i y hi=>by omega,rfl⟩) ?_;rintro m s ⟨j,hj,rfl,ha,rfl⟩;refine Hz (h:=?_);refine A3 rfl (fun kd ka=>?_) (fun kd ka=>?_)
 ·obtain⟨hlt,p,hy,ya, -⟩:=Bx Ar ka;have hop:p.opens.length<=1000:=by have:=ht.opens p (Aj hy);omega
  refine Bq (h:=F8 (h:=i_ (h:=Eu (h:=BO (h:=?_)))));refine A3 rfl (fun ke kc=>?_) (fun ke kc=>?_)
  ·have hg:Ow t pid=some p:=Lv hy (decide_eq_true kc) ha;refine F8 (h:=E6 (h:=?_));refine AK (QY p hop) ?_;refine s_ (h:=BE (h:=C1 (h:=?_)));refine A4 ?_;rw[AP,Ca,hg];rfl
  refine Dg (h:=?_);refine⟨_,_,?_,⟨j+1,by omega,rfl,GX hy ha (decide_eq_false kc),rfl⟩,(wk 2 0)⟩;omega
 have e:=CA Ar hj ka;subst e;have hg:Ow t pid=none:=Lw ha;refine C4 (h:=Gq (h:=BW (h:=?_)));refine AO (r:= .tup [.agg (Ar (AP t pid)), .v (.bool (Ca t pid))]) none (h5:=?_) (h6:=⟨rfl,rfl,rfl⟩);rw[AP,Ca,hg];exact(by repeat (first|exact A6 _|exact LeA.nil _|exact LeL.refl _|refine LeA.agg ?_|refine LeA.tup ?_|exact LeL.nil|refine LeL.cons ?_ ?_|exact LeA.any _))
theorem O9(t:Tab)(p:Prc)(ht:TabB t)(h0:0<t.ps.length)(hp:p.opens.length<=1000):AFn prog 250 [.agg (Ao t), .agg (Ar p)] (fun r=>r= .agg (Ao (Jh t p))):=by
 have fa:=ht.few;refine enter Tryz.func250 rfl rfl rfl rfl rfl 0 rfl ?_;refine Ef (h:=e_ (?_));refine BD (fun s=>∃cap,t.ps.length<=cap/\s=⟨look [(3, .bp 1 0),(4, .bp 2 0),(5, .bp 3 0)],⟨[Ao t,Ar p,Dq,Dr t (.bs 4 0 14 (FY (KA p) t.ps 0).length cap),LB 14 Ar (FY (KA p) t.ps 0) cap],[]⟩⟩) ?_ ?_
 ·refine Aq (l_ (h:=?_));refine A7 (Bo [] rfl (.cons _ _ _ _ _ rfl (A6 _) .nil) (by decide) .nil (Zn t ht h0) ?_);rintro r bc tc ⟨rfl,cap,yk,rfl,rfl⟩;refine⟨rfl,_,(Zl (n:=3) rfl t cap:Back _ [] _ [_,_,_,_,_,_,_]),?_⟩;refine Lt (h:=FP (h:=?_));exact⟨_,⟨cap,yk,rfl⟩,JZ [0,1,2,7,6] (fun i hi=>absurd hi (Nat.not_lt_zero i)) (by decide) (.cons _ _ _ _ _ rfl rfl (.cons _ _ _ _ _ rfl rfl (.cons _ _ _ _ _ rfl rfl (.cons _ _ _ _ _ rfl (by rw[NK];rfl) (.cons _ _ _ _ _ rfl (Me FX _ _ _) .nil))))) (by repeat (first|exact SubK.nil|refine SubK.cons _ _ _ _ rfl (A6 _) ?_))⟩
 rintro s ⟨cap,yk,rfl⟩;refine BD (fun s=>s=⟨look [(4, .bp 2 0),(5, .bp 3 0)],⟨[Ao t,Ar p,Dq,Ao (Jh t p)],[]⟩⟩) ?_ ?_
 ·refine OV (h:=?_);refine BL (fun m s=>∃j:Nat,j<=t.ps.length/\m=t.ps.length - j/\s=⟨look [(3, .bp 1 0),(4, .bp 2 0),(5, .bp 3 0),(6, .v (.int .i64 (j:Int)))],⟨[Ao t,Ar p,Dq,Dr t (.bs 4 0 14 (FY (KA p) t.ps j).length cap),LB 14 Ar (FY (KA p) t.ps j) cap],[]⟩⟩) (t.ps.length) (CF 5 0 (by simp[Am,Af,Aa,C7 FX,Ao,Dr,Dq,Ar])) (⟨0,BG _,rfl,rfl⟩) ?_;rintro m s ⟨j,hj,rfl,rfl⟩;refine Be (h:=Ac (h:=?_));refine A7 (TX rfl ?_);refine Ff (h:=?_);refine A3 rfl (fun kd ka=>?_) (fun kd ka=>?_)
  ·have hlt:j<t.ps.length:=by rw[NK]at ka;omega
   obtain⟨x,hy⟩:∃x,t.ps[j]?=some x:=⟨_,B7 hlt⟩;have hl1:j<(FY (KA p) t.ps j).length:=by rw[NK];exact hlt
   refine AG (q_ (BF (q_ (E0 9 (h:=AA 0 (h:=A9 1 (h:=AE 2 (h:=?_))))))));refine Hm (i:=3) rfl (EF (m:=j) rfl rfl rfl hl1 ⟨rfl,rfl⟩) ?_;refine AA 4 (h:=?_);refine Hm (i:=5) rfl (Fa rfl rfl (pC FX (VT hy) rfl) ⟨rfl,rfl⟩) ?_;refine AA 6 (h:=A9 7 (h:=KS 8 (h:=z_ (h:=t_ (?_)))));refine A3 rfl (fun ke kc=>?_) (fun ke kc=>?_)
   ·have hu:(FY (KA p) t.ps j).set j p=FY (KA p) t.ps (j+1):=by rw[<-Zj hy,KA,if_pos kc]
    refine Aq (Eu (h:=l_ (h:=?_)));refine A7 (EF (m:=j) rfl rfl rfl hl1 ?_);refine Mz (Es rfl rfl rfl rfl rfl rfl (Ze FX (x':=p) (VT hy)) (by repeat constructor) ?_);refine Bu (FO (h:=?_));exact⟨t.ps.length - (j+1),_,by omega,⟨j+1,by omega,rfl,rfl⟩,(by first|(rw[hu,show(FY (KA p) t.ps j).length=(FY (KA p) t.ps (j+1)).length by rw[NK,NK]];exact CF 5 0 (by simp[Am,Af,Aa,C7 FX,Ao,Dr,Dq,Ar]))|(rw[hu];exact CF 5 0 (by simp[Am,Af,Aa,C7 FX,Ao,Dr,Dq,Ar])))⟩
   have hu:FY (KA p) t.ps j=FY (KA p) t.ps (j+1):=pD hy (if_neg kc);refine Dg (h:=?_);exact⟨t.ps.length - (j+1),_,by omega,⟨j+1,by omega,rfl,rfl⟩,(by first|(rw[hu,show(FY (KA p) t.ps j).length=(FY (KA p) t.ps (j+1)).length by rw[NK,NK]];exact CF 5 0 (by simp[Am,Af,Aa,C7 FX,Ao,Dr,Dq,Ar]))|(rw[hu];exact CF 5 0 (by simp[Am,Af,Aa,C7 FX,Ao,Dr,Dq,Ar])))⟩
  obtain rfl:j=t.ps.length:=by rw[NK]at ka;omega
  rw[pE];refine LS (h:=AT (?_));exact⟨_,rfl,Jm 4 1 rfl (congrArg (fun x=>[Ao t,Ar p,Dq,[.v (.int .i64 t.next), .v (.int .i64 t.nextS),x]]) (P4 FX rfl rfl (by rw[List.length_map];exact yk))) (.cons _ _ _ _ rfl (A6 _) (.cons _ _ _ _ rfl (A6 _) .nil))⟩
 rintro s rfl;refine EX (h:=?_);refine A4 ?_;rfl
end
def OA(r:AD×Int×Int×Int×Int):List AV:=[.v (.string r.1), .v (.int .i64 r.2.1), .v (.int .i64 r.2.2.1), .v (.int .i64 r.2.2.2.1), .v (.int .i64 r.2.2.2.2)]
theorem pF{a b:Nat}(h:a<b):Nat.blt a b=true:=by rw[Nat.blt_eq];exact h
theorem pG{c:Cal}{j:Nat}(h:j<4):∃x,(Oy c)[j]?=some x/\(GN c)[1+j]?=some (.v (.int .i64 x)):=by
 match j,h with
 |0,_=>exact⟨_,rfl,rfl⟩
 |1,_=>exact⟨_,rfl,rfl⟩
 |2,_=>exact⟨_,rfl,rfl⟩
 |3,_=>exact⟨_,rfl,rfl⟩
theorem pH{l:List Int}{n j:Nat}{x:Int}(hn:n<=j)(hy:l[j]?=some x)(hx:x≠0):((l.drop n).any fun x=>decide (x≠0))=true:=by
 rw[List.any_eq_true];refine⟨x,?_,by simpa using hx⟩;refine Aj (i:=j - n) ?_;rw[List.getElem?_drop,show n+(j - n)=j by omega];exact hy
theorem pJ{l:List Int}{n:Nat}(h:∀i x,n<=i->l[i]?=some x->x=0):((l.drop n).any fun x=>decide (x≠0))=false:=by
 rw[List.any_eq_false];intro x hx;obtain⟨i,hi⟩:=List.mem_iff_getElem?.1 hx;rw[List.getElem?_drop]at hi;simp[h _ x (Nat.le_add_right n i) hi]
theorem Zo(n:Int):0<=(C6 n).2.1/\(C6 n).2.1<=2:=by
 unfold C6;split
 ·decide
 rename_i h;obtain⟨m,rfl⟩:=Int.eq_ofNat_of_zero_le (show 0<=n by omega);have hm:m<22:=by omega
 have key:∀m,m<22->0<=((GL[m]?).getD (⟨#[]⟩,0,0,0,0)).2.1/\((GL[m]?).getD (⟨#[]⟩,0,0,0,0)).2.1<=2:=by decide
 exact key m hm
section
theorem Zp(n:Nod)(euid egid want:Int):AFn prog 249 [.agg (Al n), .v (.int .i64 euid), .v (.int .i64 egid), .v (.int .i64 want)] (fun r=>r= .v (.bool (Hh n euid egid want))):=by
 refine enter Tryz.func249 rfl rfl rfl rfl rfl 0 rfl ?_;refine Ee (h:=Du (h:=EG (h:=?_)));refine AF false rfl rfl (fun kd ka=>?_) (fun kd ka=>?_)
 ·refine BB (h:=Fg (h:=?_));refine A4 ?_;exact vb (by first|(simp[Hh,J8, *];done)|(simp[Hh,J8, *];intro h;exact absurd ((by assumption:euid=n.uid).trans h) (by assumption)))
 refine m_ (h:=ET (h:=Cq (h:=?_)));refine A3 rfl (fun ke kc=>?_) (fun ke kc=>?_)
 ·refine BC (h:=?_);refine A4 ?_;exact vb (by first|(simp[Hh,J8, *];done)|(simp[Hh,J8, *];intro h;exact absurd ((by assumption:euid=n.uid).trans h) (by assumption)))
 refine D5 (h:=BO (h:=?_));refine A3 rfl (fun kh kf=>?_) (fun kh kf=>?_)
 ·refine Ab (h:=Fd (h:=Dv (h:=?_)));refine AF false rfl rfl (fun kl kg=>?_) (fun kl kg=>?_)
  ·refine Co (h:=GB (h:=FN (h:=?_)));refine A4 ?_;exact vb (by first|(simp[Hh,J8, *];done)|(simp[Hh,J8, *];intro h;exact absurd ((by assumption:euid=n.uid).trans h) (by assumption)))
  refine D2 (h:=BZ (h:=?_));refine AF false rfl rfl (fun ko kk=>?_) (fun ko kk=>?_)
  ·refine GB (h:=FN (h:=?_));refine A4 ?_;exact vb (by first|(simp[Hh,J8, *];done)|(simp[Hh,J8, *];intro h;exact absurd ((by assumption:euid=n.uid).trans h) (by assumption)))
  refine Ac (h:=Fd (h:=Hp (h:=C3 (h:=FN (h:=?_)))));refine A4 ?_;exact vb (by first|(simp[Hh,J8, *];done)|(simp[Hh,J8, *];intro h;exact absurd ((by assumption:euid=n.uid).trans h) (by assumption)))
 refine AG (B2 (h:=Fd (h:=Du (h:=D2 (h:=e_ (?_))))));refine A3 rfl (fun kq km=>?_) (fun kq km=>?_)
 ·refine Aq (Ac (h:=Rl (h:=Fd (h:=Cl (h:=m_ (h:=Fd (h:=EJ (h:=BW (h:=?_)))))))));refine A4 ?_;exact vb (by first|(simp[Hh,J8, *];done)|(simp[Hh,J8, *];intro h;exact absurd ((by assumption:euid=n.uid).trans h) (by assumption)))
 refine Ab (h:=D2 (h:=e_ (?_)));refine A3 rfl (fun ks kp=>?_) (fun ks kp=>?_)
 ·refine Aq (Ac (h:=Rl (h:=Fd (h:=Cl (h:=m_ (h:=Fd (h:=EJ (h:=BW (h:=?_)))))))));refine A4 ?_;exact vb (by first|(simp[Hh,J8, *];done)|(simp[Hh,J8, *];intro h;exact absurd ((by assumption:euid=n.uid).trans h) (by assumption)))
 refine AG (Eh (h:=Fd (h:=EJ (h:=BW (h:=?_)))));refine A4 ?_;exact vb (by first|(simp[Hh,J8, *];done)|(simp[Hh,J8, *];intro h;exact absurd ((by assumption:euid=n.uid).trans h) (by assumption)))
theorem VU(n:Int):AFn prog 144 [.v (.int .i64 n)] (fun r=>r= .v (.bool (QU n))):=by
 refine enter Tryz.func144 rfl rfl rfl rfl rfl 0 rfl ?_;refine FB (h:=Dt (h:=m_ (h:=?_)));refine AF true rfl rfl (fun kd ka=>?_) (fun kd ka=>?_)
 ·refine m_ (h:=Hq (h:=Eg (h:=?_)));refine A4 ?_;exact vb (by simp[QU, *])
 refine BB (h:=H9 (h:=?_));refine A4 ?_;exact vb (by simp[QU, *])
theorem Zq:AFn prog 190 [] (fun r=>r= .sl 5 (GL.map OA) none):=by
 refine enter Tryz.func190 rfl rfl rfl rfl rfl 0 rfl ?_;refine DZ (h:=w_ (Bd (h:=Bd (h:=Bd (h:=Bd (h:=Bd (h:=Bd (h:=Bd (h:=Bd (h:=Bd (h:=Bd (h:=Bd (h:=Bd (h:=Bd (h:=Bd (h:=Bd (h:=Bd (h:=Bd (h:=Bd (h:=Bd (h:=Bd (h:=?_))))))))))))))))))))));refine Bd (h:=Bd (h:=BT (h:=BW (h:=?_))));refine A4 ?_;rfl
theorem pK:AFn prog 189 [] (fun r=>r= .v (.int .i64 22)):=by
 refine enter Tryz.func189 rfl rfl rfl rfl rfl 0 rfl ?_;refine DZ (h:=w_ (?_));refine AK (Zq) ?_;refine n_ (h:=BW (h:=?_));refine A4 ?_;rfl
theorem Zr(n:Int):AFn prog 139 [.v (.int .i64 n)] (fun r=>r= .agg (OA (C6 n))):=by
 refine enter Tryz.func139 rfl rfl rfl rfl rfl 0 rfl ?_;refine w_ (Ck (h:=e_ (Be (h:=EG (h:=?_)))));refine AF false rfl rfl (fun kd ka=>?_) (fun kd ka=>?_)
 ·refine EV (h:=Gq (h:=e_ (BH (Bp (?_)))));refine A4 ?_;rw[C6,if_pos (by omega)];rfl
 refine m_ (h:=?_);refine Ak (AX (pK) ?_);rintro r rfl;refine Dt (h:=Cq (h:=?_));refine A3 rfl (fun ke kc=>?_) (fun ke kc=>?_)
 ·refine Gq (h:=e_ (BH (Bp (?_))));refine A4 ?_;rw[C6,if_pos (by omega)];rfl
 refine AG (w_ (?_));refine AK (Zq) ?_;obtain⟨m,rfl⟩:=Int.eq_ofNat_of_zero_le (show 0<=n by omega);obtain⟨row,ya⟩:∃row,GL[m]?=some row:=⟨GL[m]'(by show m<22;omega),B7 (by show m<22;omega)⟩;have mo:(GL.map OA)[m]?=some (OA row):=by rw[List.getElem?_map,ya];rfl
 refine m_ (h:=?_);refine A7 (DM (n:=m) rfl rfl rfl mo ?_);refine l_ (h:=GF (h:=BH (?_)));refine A4 ?_;rw[C6,if_neg (by omega),Int.toNat_natCast,ya];rfl
theorem Zs(c:Cal)(hp:c.paths.length<=1000)(ha:c.args.length<=1000):AFn prog 95 [.agg (GN c)] (fun r=>r= .v (.int .i64 (Bt c))):=by
 obtain⟨n0,hn0⟩:=Int.eq_ofNat_of_zero_le (Zo c.num).1;have hpl:(c.paths.map DV).length=c.paths.length:=List.length_map _;have hal:(c.args.map DV).length=c.args.length:=List.length_map _;have hn2:n0<=2:=by have:=(Zo c.num).2;omega
 refine enter Tryz.func95 rfl rfl rfl rfl rfl 0 rfl ?_;refine Ee (h:=Ay (h:=B2 (h:=?_)));refine AK (Zr c.num) ?_;refine CP (h:=Fu (h:=BO (h:=?_)));refine A3 rfl (fun kd ka=>?_) (fun kd ka=>?_)
 ·refine BC (h:=?_);refine A4 ?_;exact vi (by first|(rw[Bt,if_pos ka];done)|(rw[Bt,if_neg ka,if_pos hany];done)|(rw[Bt,if_neg ka,if_neg (by rw[hany];simp),if_pos (by omega)];done)|(rw[Bt,if_neg ka,if_neg (by rw[hany];simp),if_neg (by omega),if_pos fi];done)|(rw[Bt,if_neg ka,if_neg (by rw[hany];simp),if_neg (by omega),if_neg (by rw[fi];simp),if_pos oa];done)|(rw[Bt,if_neg ka,if_neg (by rw[hany];simp),if_neg (by omega),if_neg (by rw[fi];simp),if_neg (by rw[oa];simp)];done))
 refine DF (h:=Ay (h:=BF (?_)));refine BL (fun m s=>∃j:Nat,n0<=j/\j<=4/\m=4 - j/\(∀i x,n0<=i->i<j->(Oy c)[i]?=some x->x=0)/\s=⟨look [(1, .bp 0 0),(3, .bp 1 0),(4, .v (.int .i64 (j:Int)))],⟨[GN c,OA (C6 c.num)],[]⟩⟩) (4 - n0) (by rw[<-hn0];exact(wk 2 0)) (⟨n0,As _,by omega,rfl,fun i x h1 h2=>by omega,rfl⟩) ?_;rintro m s ⟨j,hlo,hj,rfl,hz,rfl⟩;refine Be (h:=Ff (h:=?_));refine A3 rfl (fun ke kc=>?_) (fun ke kc=>?_)
 ·obtain⟨x,hy,hrx⟩:=pG (c:=c) (j:=j) (by omega);refine Bq (h:=Ab (h:=f_ (h:=?_)));refine A7 (CX (len:=4) (sz:=1) (n:=j) (by kernel_rfl) rfl rfl rfl (pF (by omega)) ?_);refine A7 (Fa rfl rfl (by rw[show 1+j * 1=1+j by omega];exact hrx) ?_);refine D3 (h:=?_);refine A3 rfl (fun kh kf=>?_) (fun kh kf=>?_)
  ·have hany:(((Oy c).drop (C6 c.num).2.1.toNat).any fun x=>decide (x≠0))=true:=by rw[hn0,Int.toNat_natCast];exact pH hlo hy kf
   refine BR (h:=C1 (h:=?_));refine A4 ?_;exact vi (by first|(rw[Bt,if_pos ka];done)|(rw[Bt,if_neg ka,if_pos hany];done)|(rw[Bt,if_neg ka,if_neg (by rw[hany];simp),if_pos (by omega)];done)|(rw[Bt,if_neg ka,if_neg (by rw[hany];simp),if_neg (by omega),if_pos fi];done)|(rw[Bt,if_neg ka,if_neg (by rw[hany];simp),if_neg (by omega),if_neg (by rw[fi];simp),if_pos oa];done)|(rw[Bt,if_neg ka,if_neg (by rw[hany];simp),if_neg (by omega),if_neg (by rw[fi];simp),if_neg (by rw[oa];simp)];done))
  have hx0:x=0:=by simpa using kf
  refine Dg (h:=?_)
  refine⟨_,_,?_,⟨j+1,by omega,by omega,rfl,(fun i x h1 h2 h3=>by
   by_cases e:i=j
   ·subst e;rw[hy]at h3;injection h3 with h3;rw[<-h3];exact hx0
   exact hz i x h1 (by omega) h3),rfl⟩,(wk 2 0)⟩
  omega
 have hany:(((Oy c).drop (C6 c.num).2.1.toNat).any fun x=>decide (x≠0))=false:=by
  rw[hn0,Int.toNat_natCast];refine pJ fun i x h1 h2=>hz i x h1 ?_ h2;have:=(AZ.1 h2).1;have h4:(Oy c).length=4:=rfl;omega
 refine C4 (h:=Fu (h:=n_ (h:=CG (h:=m_ (h:=?_)))));refine AF false rfl rfl (fun kl kg=>?_) (fun kl kg=>?_)
 ·refine Jo (h:=Bg (h:=Jo (h:=Fg (h:=?_))));refine A4 ?_;exact vi (by first|(rw[Bt,if_pos ka];done)|(rw[Bt,if_neg ka,if_pos hany];done)|(rw[Bt,if_neg ka,if_neg (by rw[hany];simp),if_pos (by omega)];done)|(rw[Bt,if_neg ka,if_neg (by rw[hany];simp),if_neg (by omega),if_pos fi];done)|(rw[Bt,if_neg ka,if_neg (by rw[hany];simp),if_neg (by omega),if_neg (by rw[fi];simp),if_pos oa];done)|(rw[Bt,if_neg ka,if_neg (by rw[hany];simp),if_neg (by omega),if_neg (by rw[fi];simp),if_neg (by rw[oa];simp)];done))
 refine Gr (h:=Ac (h:=Jc (h:=BZ (h:=?_))));refine AF false rfl rfl (fun ko kk=>?_) (fun ko kk=>?_)
 ·refine Jo (h:=Fg (h:=?_));refine A4 ?_;exact vi (by first|(rw[Bt,if_pos ka];done)|(rw[Bt,if_neg ka,if_pos hany];done)|(rw[Bt,if_neg ka,if_neg (by rw[hany];simp),if_pos (by omega)];done)|(rw[Bt,if_neg ka,if_neg (by rw[hany];simp),if_neg (by omega),if_pos fi];done)|(rw[Bt,if_neg ka,if_neg (by rw[hany];simp),if_neg (by omega),if_neg (by rw[fi];simp),if_pos oa];done)|(rw[Bt,if_neg ka,if_neg (by rw[hany];simp),if_neg (by omega),if_neg (by rw[fi];simp),if_neg (by rw[oa];simp)];done))
 refine Gr (h:=Jd (h:=Cq (h:=?_)));refine A3 rfl (fun kq km=>?_) (fun kq km=>?_)
 ·refine BC (h:=?_);refine A4 ?_;exact vi (by first|(rw[Bt,if_pos ka];done)|(rw[Bt,if_neg ka,if_pos hany];done)|(rw[Bt,if_neg ka,if_neg (by rw[hany];simp),if_pos (by omega)];done)|(rw[Bt,if_neg ka,if_neg (by rw[hany];simp),if_neg (by omega),if_pos fi];done)|(rw[Bt,if_neg ka,if_neg (by rw[hany];simp),if_neg (by omega),if_neg (by rw[fi];simp),if_pos oa];done)|(rw[Bt,if_neg ka,if_neg (by rw[hany];simp),if_neg (by omega),if_neg (by rw[fi];simp),if_neg (by rw[oa];simp)];done))
 refine AG (Cz (h:=?_));refine BL (fun m s=>∃j:Nat,j<=c.paths.length/\m=c.paths.length - j/\(∀i y,i<j->c.paths[i]?=some y->decide (128<y.size)=false)/\s=⟨look [(1, .bp 0 0),(3, .bp 1 0),(5, .v (.int .i64 (j:Int)))],⟨[GN c,OA (C6 c.num)],[]⟩⟩) (c.paths.length) ((wk 2 0)) (⟨0,BG _,rfl,fun i y hi=>by omega,rfl⟩) ?_;rintro m s ⟨j,hj,rfl,ha1,rfl⟩;refine Hz (h:=?_);refine A3 rfl (fun ks kp=>?_) (fun ks kp=>?_)
 ·obtain⟨hlt,y,hy,ya, -⟩:=Bx DV kp;refine Bq (h:=F8 (h:=E6 (h:=Fx (h:=e_ (?_)))));refine A3 rfl (fun kt kr=>?_) (fun kt kr=>?_)
  ·have fi:(c.paths.any fun p=>decide (128<p.size))=true:=Nt hy (by simp;omega);refine BR (h:=C1 (h:=?_));refine A4 ?_;exact vi (by first|(rw[Bt,if_pos ka];done)|(rw[Bt,if_neg ka,if_pos hany];done)|(rw[Bt,if_neg ka,if_neg (by rw[hany];simp),if_pos (by omega)];done)|(rw[Bt,if_neg ka,if_neg (by rw[hany];simp),if_neg (by omega),if_pos fi];done)|(rw[Bt,if_neg ka,if_neg (by rw[hany];simp),if_neg (by omega),if_neg (by rw[fi];simp),if_pos oa];done)|(rw[Bt,if_neg ka,if_neg (by rw[hany];simp),if_neg (by omega),if_neg (by rw[fi];simp),if_neg (by rw[oa];simp)];done))
  refine Dg (h:=?_);refine⟨_,_,?_,⟨j+1,by omega,rfl,GX hy ha1 (by simp;omega),rfl⟩,(wk 2 0)⟩;omega
 have e:=CA DV hj kp;have fi:(c.paths.any fun p=>decide (128<p.size))=false:=Oe (by rw[<-e];exact ha1);refine C4 (h:=Cz (h:=?_));refine BL (fun m s=>∃j:Nat,j<=c.args.length/\m=c.args.length - j/\(∀i y,i<j->c.args[i]?=some y->decide (64<y.size)=false)/\s=⟨look [(1, .bp 0 0),(3, .bp 1 0),(6, .v (.int .i64 (j:Int)))],⟨[GN c,OA (C6 c.num)],[]⟩⟩) (c.args.length) ((wk 2 0)) (⟨0,BG _,rfl,fun i y hi=>by omega,rfl⟩) ?_;rintro m s ⟨j3,hj3,rfl,ha3,rfl⟩;refine Hz (h:=?_);refine A3 rfl (fun kv ku=>?_) (fun kv ku=>?_)
 ·obtain⟨hlt,y,hy,ya, -⟩:=Bx DV ku;refine Bq (h:=F8 (h:=E6 (h:=Fx (h:=e_ (?_)))));refine A3 rfl (fun yf yb=>?_) (fun yf yb=>?_)
  ·have oa:(c.args.any fun p=>decide (64<p.size))=true:=Nt hy (by simp;omega);refine BR (h:=C1 (h:=?_));refine A4 ?_;exact vi (by first|(rw[Bt,if_pos ka];done)|(rw[Bt,if_neg ka,if_pos hany];done)|(rw[Bt,if_neg ka,if_neg (by rw[hany];simp),if_pos (by omega)];done)|(rw[Bt,if_neg ka,if_neg (by rw[hany];simp),if_neg (by omega),if_pos fi];done)|(rw[Bt,if_neg ka,if_neg (by rw[hany];simp),if_neg (by omega),if_neg (by rw[fi];simp),if_pos oa];done)|(rw[Bt,if_neg ka,if_neg (by rw[hany];simp),if_neg (by omega),if_neg (by rw[fi];simp),if_neg (by rw[oa];simp)];done))
  refine Dg (h:=?_);refine⟨_,_,?_,⟨j3+1,by omega,rfl,GX hy ha3 (by simp;omega),rfl⟩,(wk 2 0)⟩;omega
 have e3:=CA DV hj3 ku;have oa:(c.args.any fun p=>decide (64<p.size))=false:=Oe (by rw[<-e3];exact ha3);refine Hv (h:=?_);refine A4 ?_;exact vi (by first|(rw[Bt,if_pos ka];done)|(rw[Bt,if_neg ka,if_pos hany];done)|(rw[Bt,if_neg ka,if_neg (by rw[hany];simp),if_pos (by omega)];done)|(rw[Bt,if_neg ka,if_neg (by rw[hany];simp),if_neg (by omega),if_pos fi];done)|(rw[Bt,if_neg ka,if_neg (by rw[hany];simp),if_neg (by omega),if_neg (by rw[fi];simp),if_pos oa];done)|(rw[Bt,if_neg ka,if_neg (by rw[hany];simp),if_neg (by omega),if_neg (by rw[fi];simp),if_neg (by rw[oa];simp)];done))
theorem Zt(c:Cal):AFn prog 140 [.agg (GN c)] (fun r=>r= .sl 1 ((DS c).map Cc) none):=by
 refine enter Tryz.func140 rfl rfl rfl rfl rfl 0 rfl ?_;refine Ee (h:=GT (h:=e_ (BF (Az (h:=?_)))));refine A3 rfl (fun kd ka=>?_) (fun kd ka=>?_)
 ·refine w_ (BT (h:=BE (h:=?_)));refine A4 ?_;simp only[DS,CT];first|(simp[*,Cc];done)|(simp[*,Cc];rfl)
 refine Az (h:=?_);refine A3 rfl (fun ke kc=>?_) (fun ke kc=>?_)
 ·refine DZ (h:=q_ (w_ (f_ (h:=?_))));refine A7 (CX (len:=4) (sz:=1) (n:=0) (by kernel_rfl) rfl rfl rfl rfl ?_);refine l_ (h:=Fd (h:=D3 (h:=?_)));refine A3 rfl (fun kh kf=>?_) (fun kh kf=>?_)
  ·refine Rm (h:=Ay (h:=q_ (w_ (f_ (h:=?_)))));refine A7 (CX (len:=4) (sz:=1) (n:=0) (by kernel_rfl) rfl rfl rfl rfl ?_);refine l_ (h:=Fd (h:=D3 (h:=?_)));refine A3 rfl (fun kl kg=>?_) (fun kl kg=>?_)
   ·refine Rm (h:=Cl (h:=BT (h:=BE (h:=?_))));refine A4 ?_;simp only[DS,CT];first|(simp[*,Cc];done)|(simp[*,Cc];rfl)
   refine Ei (h:=BT (h:=BE (h:=?_)));refine A4 ?_;simp only[DS,CT];first|(simp[*,Cc];done)|(simp[*,Cc];rfl)
  refine FA (h:=w_ (f_ (h:=?_)));refine A7 (CX (len:=4) (sz:=1) (n:=0) (by kernel_rfl) rfl rfl rfl rfl ?_);refine l_ (h:=Fd (h:=D3 (h:=?_)));refine A3 rfl (fun ko kk=>?_) (fun ko kk=>?_)
  ·refine Rm (h:=Cl (h:=BT (h:=BE (h:=?_))));refine A4 ?_;simp only[DS,CT];first|(simp[*,Cc];done)|(simp[*,Cc];rfl)
  refine Ei (h:=BT (h:=BE (h:=?_)));refine A4 ?_;simp only[DS,CT];first|(simp[*,Cc];done)|(simp[*,Cc];rfl)
 refine Az (h:=?_);refine A3 rfl (fun kq km=>?_) (fun kq km=>?_)
 ·refine w_ (BT (h:=BE (h:=?_)));refine A4 ?_;simp only[DS,CT];first|(simp[*,Cc];done)|(simp[*,Cc];rfl)
 refine Az (h:=?_);refine A3 rfl (fun ks kp=>?_) (fun ks kp=>?_)
 ·refine w_ (BT (h:=BE (h:=?_)));refine A4 ?_;simp only[DS,CT];first|(simp[*,Cc];done)|(simp[*,Cc];rfl)
 refine q_ (Az (h:=?_));refine A3 rfl (fun kt kr=>?_) (fun kt kr=>?_)
 ·refine AG (GQ (h:=w_ (BT (h:=BE (h:=?_)))));refine A4 ?_;simp only[DS,CT];first|(simp[*,Cc];done)|(simp[*,Cc];rfl)
 refine Az (h:=?_);refine A3 rfl (fun kv ku=>?_) (fun kv ku=>?_)
 ·refine AG (GQ (h:=w_ (BT (h:=BE (h:=?_)))));refine A4 ?_;simp only[DS,CT];first|(simp[*,Cc];done)|(simp[*,Cc];rfl)
 refine Aq (Et (h:=?_));refine A3 rfl (fun yf yb=>?_) (fun yf yb=>?_)
 ·refine w_ (BT (h:=BE (h:=?_)));refine A4 ?_;simp only[DS,CT];first|(simp[*,Cc];done)|(simp[*,Cc];rfl)
 refine Az (h:=?_);refine A3 rfl (fun yq yc=>?_) (fun yq yc=>?_)
 ·refine w_ (BT (h:=BE (h:=?_)));refine A4 ?_;simp only[DS,CT];first|(simp[*,Cc];done)|(simp[*,Cc];rfl)
 refine Ej (h:=w_ (BT (h:=BW (h:=?_))));refine A4 ?_;simp only[DS,CT];first|(simp[*,Cc];done)|(simp[*,Cc];rfl)
theorem pL(c:Cal):AFn prog 142 [.agg (GN c)] (fun r=>r= .v (.bool (FJ c))):=by
 refine enter Tryz.func142 rfl rfl rfl rfl rfl 0 rfl ?_;refine Ee (h:=GT (h:=e_ (BF (Az (h:=?_)))));refine A3 rfl (fun kd ka=>?_) (fun kd ka=>?_)
 ·refine w_ (f_ (h:=?_));refine A7 (CX (len:=4) (sz:=1) (n:=0) (by kernel_rfl) rfl rfl rfl rfl ?_);refine l_ (h:=Fd (h:=Df (h:=BE (h:=?_))));refine A4 ?_;exact vb (by simp[FJ, *])
 refine q_ (Az (h:=?_));refine A3 rfl (fun ke kc=>?_) (fun ke kc=>?_)
 ·refine AG (F1 (h:=?_));refine A4 ?_;exact vb (by simp[FJ, *])
 refine Az (h:=?_);refine A3 rfl (fun kh kf=>?_) (fun kh kf=>?_)
 ·refine AG (F1 (h:=?_));refine A4 ?_;exact vb (by simp[FJ, *])
 refine Az (h:=?_);refine A3 rfl (fun kl kg=>?_) (fun kl kg=>?_)
 ·refine AG (F1 (h:=?_));refine A4 ?_;exact vb (by simp[FJ, *])
 refine Az (h:=?_);refine A3 rfl (fun ko kk=>?_) (fun ko kk=>?_)
 ·refine AG (F1 (h:=?_));refine A4 ?_;exact vb (by simp[FJ, *])
 refine Az (h:=?_);refine A3 rfl (fun kq km=>?_) (fun kq km=>?_)
 ·refine AG (F1 (h:=?_));refine A4 ?_;exact vb (by simp[FJ, *])
 refine Aq (Et (h:=?_));refine A3 rfl (fun ks kp=>?_) (fun ks kp=>?_)
 ·refine BR (h:=?_);refine A4 ?_;exact vb (by simp[FJ, *])
 refine Fi (h:=?_);refine A4 ?_;exact vb (by simp[FJ, *])
end
theorem LJ(s:ByteArray):s.toList=s.data.toList:=Lib.toList_data s
theorem Zu{a b:ByteArray}(h:a.data.toList=b.data.toList):a=b:=by
 cases a;cases b;simp at h;simp[h]
theorem pM{a b:ByteArray}:a.data.toList=b.data.toList↔a=b:=⟨Zu,fun h=>by rw[h]⟩
theorem pN(a b:ByteArray):(a.toList==b.toList)=decide (a=b):=by
 rw[LJ,LJ,Bool.eq_iff_iff,beq_iff_eq,decide_eq_true_iff];exact pM
theorem Zv(s:ByteArray):s.toList.isEmpty=decide (s.size=0):=by
 rw[LJ,Lib.size_eq,Bool.eq_iff_iff,List.isEmpty_iff,decide_eq_true_iff,List.length_eq_zero_iff]
set_option maxRecDepth 100000 in
set_option maxHeartbeats 400000 in
theorem VV(s:ByteArray)(w:World):
    Calls prog 289 #[.string s, .string ⟨#[47]⟩] w fun e w'=>e= .returned (.int .i64 (Lib.indexByte s.data.toList 47))/\w=w':=by
 by_cases h:s=⟨#[47]⟩
 ·subst h
  go_enter Tryz.func289,Tryz.ntmps289
  go_wp2
  go_ret
  exact⟨rfl,rfl⟩
 have h1:([47]==s.toList)=false:=by
  have:=pN ⟨#[47]⟩ s;rw[decide_eq_false (fun e=>h e.symm),LJ ⟨#[47]⟩]at this;exact this
 go_enter Tryz.func289,Tryz.ntmps289
 go_wp2_with (go_at_call 292;refine(Tryz.stringslite_IndexByte _ _ _).mono ?_;rintro e w' ⟨rfl,rfl⟩)
 go_ret
 exact⟨rfl,rfl⟩
theorem pO(s:ByteArray)(w:World):
    Calls prog 276 #[.string s, .string ⟨#[47]⟩] w fun e w'=>e= .returned (.int .i64 (Lib.indexByte s.data.toList 47))/\w=w':=by
 go_enter Tryz.func276,Tryz.ntmps276
 go_wp2_with (go_at_call 289;refine(VV _ _).mono ?_;rintro e w' ⟨rfl,rfl⟩)
 go_ret
 exact⟨rfl,rfl⟩
theorem VW{l:Bs}(h:(47:UInt8)∈l):∃i:Nat,Lib.indexByte l 47=i/\i<l.length/\l=l.take i++47::l.drop (i+1)/\(47:UInt8)∉l.take i:=by
 have hge:=Lib.indexByte_ge l 47;by_cases hm:Lib.indexByte l 47= -1
 ·have:=Lib.indexByte_none hm;obtain⟨k,hk⟩:=List.mem_iff_getElem?.1 h;exact absurd hk (this k)
 obtain⟨i,hi⟩:=Int.eq_ofNat_of_zero_le (show 0<=Lib.indexByte l 47 by omega);obtain⟨h1,h2⟩:=Lib.indexByte_some hi;have hlt:i<l.length:=(AZ.1 h1).1;refine⟨i,hi,hlt,?_,?_⟩
 ·have h3:l[i]=47:=(AZ.1 h1).2;rw[<-h3,List.getElem_cons_drop,List.take_append_drop]
 intro hmem;obtain⟨k,hk⟩:=List.mem_iff_getElem?.1 hmem;rw[List.getElem?_take]at hk;split at hk
 ·exact h2 k (by assumption) hk
 cases hk
theorem Zw{l:Bs}(h:(47:UInt8)∉l):Lib.indexByte l 47= -1:=by
 have hge:=Lib.indexByte_ge l 47;by_cases hm:Lib.indexByte l 47= -1
 ·exact hm
 obtain⟨i,hi⟩:=Int.eq_ofNat_of_zero_le (show 0<=Lib.indexByte l 47 by omega);obtain⟨h1,_⟩:=Lib.indexByte_some hi;exact absurd (Aj h1) h
theorem pP(r:Int)(h0:128<=r)(h1:Lib.validRune r=true):
    (∃a b:UInt8,Utf8.encode r=⟨#[a,b]⟩/\128<=b.toNat)\/(∃a b c:UInt8,Utf8.encode r=⟨#[a,b,c]⟩)\/(∃a b c d:UInt8,Utf8.encode r=⟨#[a,b,c,d]⟩):=by
 have hv:Utf8.valid r=true:=by
  have:=of_decide_eq_true h1;unfold Utf8.valid;simp only[Bool.or_eq_true,Bool.and_eq_true,decide_eq_true_iff];omega
 unfold Utf8.encode;simp only[hv,if_true];have hn:¬r.toNat<128:=by omega
 rw[if_neg hn];by_cases h2:r.toNat<2048
 ·rw[if_pos h2];refine .inl ⟨_,_,rfl,?_⟩;simp only[UInt8.toNat_ofNat'];omega
 rw[if_neg h2];by_cases h3:r.toNat<65536
 ·rw[if_pos h3];exact .inr (.inl ⟨_,_,_,rfl⟩)
 rw[if_neg h3];exact .inr (.inr ⟨_,_,_,_,rfl⟩)
set_option maxRecDepth 1000000 in
set_option maxHeartbeats 2000000 in
theorem pQ(r:Int)(w:World)(h0:128<=r)(h1:r<=2147483647)(h2:r≠65533)(hv:Lib.validRune r=false):
    Calls prog 269 #[.string ⟨#[0,47]⟩, .int .i32 r] w fun e w'=>e= .returned (.int .i64 (-1))/\w=w':=by
 have h2':(r==65533)=false:=by simpa using h2
 go_enter Tryz.func269,Tryz.ntmps269
 go_wp2_with (go_at_call 285;refine(Tryz.utf8_ValidRune _ _).mono ?_;rintro e w' ⟨rfl,rfl⟩;rw[hv])
 go_ret
 exact⟨rfl,rfl⟩
set_option maxRecDepth 1000000 in
set_option maxHeartbeats 2000000 in
theorem pR(r:Int)(w:World)(h0:128<=r)(h1:r<=2147483647)(h2:r≠65533)(hv:Lib.validRune r=true):
    Calls prog 269 #[.string ⟨#[0,47]⟩, .int .i32 r] w fun e w'=>e= .returned (.int .i64 (-1))/\Below w.heap.size w w':=by
 have h2':(r==65533)=false:=by simpa using h2
 have hlt:decide (r<128)=false:=by simpa using h0
 rcases pP r h0 hv with⟨a,b,he,hb⟩|⟨a,b,c,he⟩|⟨a,b,c,d,he⟩
 ·have hne:((((⟨#[0,47]⟩:ByteArray)[1]'(by decide)).toNat:Int) != (((⟨#[a,b]⟩:ByteArray)[1]'(by show 1<2;decide)).toNat:Int))=true:=by
     show((47:Int) != (b.toNat:Int))=true;rw[bne_iff_ne];omega
  go_enter Tryz.func269,Tryz.ntmps269
  go_wp2_with (go_at_call 285;refine(Tryz.utf8_ValidRune _ _).mono ?_;rintro e w' ⟨rfl,rfl⟩;rw[hv])
  go_step3
  go_wp2
  refine wp_loop_rounds 1 ?_;rw[rounds_succ]
  go_wp2
  go_step3
  go_wp2
  go_quiet (fail)
  have hb:=Rt (Below.refl w'.heap.size w') nq;generalize w'.drewN nq=wq at *
  go_wp2
  go_quiet ((go_at_call 284;exact Calls.quiet_of_same (Tryz.strings_IndexByte _ _ _)))
  go_wp2
  rw[Exit.noGoto_ret]
  go_wp2
  rw[Exit.noGoto_ret]
  go_wp2
  go_ret
  exact⟨rfl,Rt hb _⟩
 ·go_enter Tryz.func269,Tryz.ntmps269
  go_wp2_with (go_at_call 285;refine(Tryz.utf8_ValidRune _ _).mono ?_;rintro e w' ⟨rfl,rfl⟩;rw[hv])
  go_step3
  go_wp2
  refine wp_loop_rounds 1 ?_;rw[rounds_succ]
  go_wp2
  rw[Exit.noGoto_ret]
  go_wp2
  go_ret
  exact⟨rfl,Below.refl _ _⟩
 go_enter Tryz.func269,Tryz.ntmps269
 go_wp2_with (go_at_call 285;refine(Tryz.utf8_ValidRune _ _).mono ?_;rintro e w' ⟨rfl,rfl⟩;rw[hv])
 go_step3
 go_wp2
 refine wp_loop_rounds 1 ?_;rw[rounds_succ]
 go_wp2
 rw[Exit.noGoto_ret]
 go_wp2
 go_ret
 exact⟨rfl,Below.refl _ _⟩
theorem pS(i:Nat)(hi:i<2):((⟨#[0,47]⟩:ByteArray)[i]'hi).toNat<128:=by
 match i,hi with
 |0,_=>show(0:UInt8).toNat<128;decide
 |1,_=>show(47:UInt8).toNat<128;decide
set_option maxRecDepth 1000000 in
set_option maxHeartbeats 2000000 in
theorem pT(w:World):
    Calls prog 269 #[.string ⟨#[0,47]⟩, .int .i32 65533] w fun e w'=>e= .returned (.int .i64 (-1))/\Below w.heap.size w w':=by
 go_enter Tryz.func269,Tryz.ntmps269
 go_wp2
 go_loopg [5,6] 2 (fun g _ _ wx=>∃i:Nat,i+g=2/\wx=w.iter ⟨#[0,47]⟩ i)
 case atStart=>exact⟨0,by omega,rfl⟩
 case round=>
  obtain⟨i,hig,rfl⟩:=hrel
  cases gk with
  |zero=>
    obtain rfl:i=2:=by omega
    have hnx:=run_next_end (P:=prog) w ⟨#[0,47]⟩ 2
    go_wp2
    go_ret
    exact⟨rfl,(Below.refl _ _).alloc (As _) _⟩
  |succ g=>
    have hi:i<2:=by omega
    have hx:=pS i hi;have hnx:=fun ty=>run_next_ascii (P:=prog) w ⟨#[0,47]⟩ i ty hi hx;generalize ((⟨#[0,47]⟩:ByteArray)[i]'hi)=x at *;have hne:((x.toNat:Int)==65533)=false:=beq_eq_false_iff_ne.2 (by omega)
    go_wp2
    go_roundg g
    case measure=>omega
    case rel=>exact⟨i+1,by omega,rfl⟩
theorem Zx(s:ByteArray)(i:Nat)(h:i<s.size)(ha:128<=(s[i]'h).toNat):
    1<=(Utf8.decode s i).2/\i+(Utf8.decode s i).2<=s.size/\∀k,k<(Utf8.decode s i).2->128<=(s.get! (i+k)).toNat:=by
 have hn:¬(s[i]'h).toNat<128:=by omega
 have h0:s.get! (i+0)=s[i]'h:=get_at s i h;have g0:128<=(s.get! (i+0)).toNat:=by rw[h0];exact ha
 have c1:∀k,(decide (i+k<s.size)&&(s.get! (i+k)).toNat / 64==2)=true->i+k<s.size/\128<=(s.get! (i+k)).toNat:=by
  intro k hk;simp only[Bool.and_eq_true,decide_eq_true_iff,beq_iff_eq]at hk;exact⟨hk.1,by omega⟩
 have one:1<=1/\i+1<=s.size/\∀k,k<1->128<=(s.get! (i+k)).toNat:=by
  refine⟨As _,h,fun k hk=>?_⟩;obtain rfl:k=0:=by omega
  exact g0
 unfold Utf8.decode;simp only[h0,hn,if_false];split
 ·rename_i hc;rw[Bool.and_eq_true]at hc;obtain⟨a1,b1⟩:=c1 1 hc.2;split
  ·refine⟨by simp,a1,fun k hk=>?_⟩;have:k=0\/k=1:=by simp at hk;omega
   rcases this with rfl|rfl
   ·exact g0
   exact b1
  exact one
 split
 ·rename_i hc;rw[Bool.and_eq_true,Bool.and_eq_true]at hc;obtain⟨a1,b1⟩:=c1 1 hc.1.2;obtain⟨a2,b2⟩:=c1 2 hc.2;split
  ·refine⟨by simp,a2,fun k hk=>?_⟩;have:k=0\/k=1\/k=2:=by simp at hk;omega
   rcases this with rfl|rfl|rfl
   ·exact g0
   ·exact b1
   exact b2
  exact one
 split
 ·rename_i hc;rw[Bool.and_eq_true,Bool.and_eq_true,Bool.and_eq_true]at hc;obtain⟨a1,b1⟩:=c1 1 hc.1.1.2;obtain⟨a2,b2⟩:=c1 2 hc.1.2;obtain⟨a3,b3⟩:=c1 3 hc.2;split
  ·refine⟨by simp,a3,fun k hk=>?_⟩;have:k=0\/k=1\/k=2\/k=3:=by simp at hk;omega
   rcases this with rfl|rfl|rfl|rfl
   ·exact g0
   ·exact b1
   ·exact b2
   exact b3
  exact one
 exact one
theorem pU(s:ByteArray)(j:Nat)(hj:j<s.size):s.data.toList[j]?=some (s.get! j):=by
 have:=get_at s j hj;rw[Nat.add_zero]at this;rw[this];exact Lib.data_getElem? s j hj
theorem pV{s:ByteArray}{i:Nat}(h:i<s.size)(ha:128<=(s[i]'h).toNat)(hno:Lib.NoAny s.data.toList [0,47] i):Lib.NoAny s.data.toList [0,47] (i+(Utf8.decode s i).2):=by
 obtain⟨_,h2,h3⟩:=Zx s i h ha;intro j b hj hb;by_cases hlt:j<i
 ·exact hno j b hlt hb
 have:=h3 (j - i) (by omega);rw[show i+(j - i)=j by omega]at this;rw[pU s j (by omega)]at hb;injection hb with hb;rw[hb]at this;have h0:b≠0:=by rintro rfl;simp at this
 have h47:b≠47:=by
  rintro rfl;have:(47:UInt8).toNat=47:=rfl;omega
 simp[h0,h47]
theorem pW(r:Int)(w:World)(h0:128<=r)(h1:r<=2147483647):
    Calls prog 269 #[.string ⟨#[0,47]⟩, .int .i32 r] w fun e w'=>e= .returned (.int .i64 (-1))/\Below w.heap.size w w':=by
 by_cases h2:r=65533
 ·subst h2;exact pT w
 cases hv:Lib.validRune r with
 |true=>exact pR r w h0 h1 h2 hv
 |false=>exact(pQ r w h0 h1 h2 hv).mono fun e w' h=>⟨h.1,by rw[<-h.2];exact Below.refl _ _⟩
def Zy(s:ByteArray)(w:World)(e:Ending)(w':World):Prop:=∃v:Int,e= .returned (.int .i64 v)/\Below w.heap.size w w'/\((0<=v)↔((0:UInt8)∈s.data.toList\/(47:UInt8)∈s.data.toList))
theorem pX{s:ByteArray}(h:Lib.NoAny s.data.toList [0,47] s.size):¬((0:UInt8)∈s.data.toList\/(47:UInt8)∈s.data.toList):=by
 rintro(h'|h')
 ·obtain⟨j,hj⟩:=List.mem_iff_getElem?.1 h';have:=h j 0 (by rw[Lib.size_eq];exact(AZ.1 hj).1) hj;simp at this
 obtain⟨j,hj⟩:=List.mem_iff_getElem?.1 h';have:=h j 47 (by rw[Lib.size_eq];exact(AZ.1 hj).1) hj;simp at this
theorem pY{s:ByteArray}{i:Nat}{x:UInt8}(hx:s.data.toList[i]?=some x)(h:[0,47].contains x=true):((0:UInt8)∈s.data.toList\/(47:UInt8)∈s.data.toList):=by
 have hm:=Aj hx;simp at h;rcases h with rfl|rfl
 ·exact .inl hm
 exact .inr hm
set_option maxRecDepth 1000000 in
set_option maxHeartbeats 4000000 in
theorem pZ(s:ByteArray)(w:World)(h8:s.size<=8):Calls prog 245 #[.string s, .string ⟨#[0,47]⟩] w (Zy s w):=by
 have h8z:decide ((8:Int)<(s.size:Int))=false:=decide_eq_false (by omega)
 go_enter Tryz.func245,Tryz.ntmps245
 go_wp2_with (go_at_call 270;refine(Tryz.strings_shouldUseASCIISet _ _).mono ?_;rintro e w' ⟨rfl,hw⟩;rw[hw,h8z])
 clear hw
 go_loopg [9,10] s.size (fun g _ _ wx=>∃i:Nat,s.size<=i+g/\i<=s.size/\wx.heap[w.heap.size]?=some (.stringIter s i)/\Below w.heap.size w wx/\Hid (Lib.NoAny s.data.toList [0,47] i))
 case atStart=>exact⟨0,by omega,by omega,World.iter_heap w s 0,(Below.refl _ _).alloc (As _) _,Lib.hid (Lib.NoAny.zero _ _)⟩
 case round=>
  obtain⟨i,hg,hi,hit,hbel,hno⟩:=hrel;have hks:=hbel.size;by_cases hlt:i<s.size
  ·obtain⟨g,rfl⟩:∃g,gk=g+1:=⟨gk - 1,by omega⟩;by_cases hx:(s[i]'hlt).toNat<128
   ·have hnx:=fun ty=>Lib.run_next_ascii_at (P:=prog) wr w.heap.size s i ty hit hlt hx;have hxl:s.data.toList[i]?=some (s[i]'hlt):=Lib.data_getElem? s i hlt;generalize (s[i]'hlt)=x at *;have Hx:=Lib.hid hxl;have hit':=Lib.iterAt_heap wr w.heap.size s i (i+1) hit;have hbel':=Lib.below_iterAt hbel (As _) s (i+1);generalize wr.iterAt w.heap.size s (i+1)=w1 at *;have hcon:=Lib.contains_iff_indexByte [0,47] x;have hback:((x.toNat:Int)).toNat.toUInt8=x:=by simp
    have HI:=Lib.hid hit';clear hxl hit hit';cases hin:[0,47].contains x
    ·rw[hin]at hcon;have hneg:¬((0:Int)<=Lib.indexByte [0,47] x):=of_decide_eq_false hcon.symm;clear hcon
     go_wp2_with (go_at_call 269;refine(Tryz.strings_IndexRune_ascii _ _ _ (by omega) (by omega)).mono ?_;rintro e w' ⟨rfl,hw⟩;rw[hw,hback])
     go_roundg g
     case measure=>omega
     case rel=>exact⟨i+1,by omega,by omega,HI.out,hbel',Lib.hid (hno.out.succ Hx.out hin)⟩
    rw[hin]at hcon;have hpos:(0:Int)<=Lib.indexByte [0,47] x:=of_decide_eq_true hcon.symm;clear hcon
    go_wp2_with (go_at_call 269;refine(Tryz.strings_IndexRune_ascii _ _ _ (by omega) (by omega)).mono ?_;rintro e w' ⟨rfl,hw⟩;rw[hw,hback])
    go_ret
    exact⟨_,rfl,hbel',⟨fun _=>pY Hx.out hin,fun _=>by omega⟩⟩
   have hx':128<=(s[i]'hlt).toNat:=by omega
   obtain⟨p1,p2,_⟩:=Zx s i hlt hx';have HN:=Lib.hid (pV hlt hx' hno.out);have q1:=(decode_high s i hlt hx').1;have q2:=decode_le s i;have hnx:=fun ty=>Lib.run_next_any_at (P:=prog) wr w.heap.size s i ty hit hlt;generalize Utf8.decode s i=d at *;obtain⟨d1,d2⟩:=d;simp only at *;have hit':=Lib.iterAt_heap wr w.heap.size s i (i+d2) hit;have hbel':=Lib.below_iterAt hbel (As _) s (i+d2);have hsz:=Lib.iterAt_size wr w.heap.size s (i+d2);generalize wr.iterAt w.heap.size s (i+d2)=w1 at *;have hk1:w.heap.size<w1.heap.size:=(Array.getElem?_eq_some_iff.1 hit').1;have HI:=Lib.hid hit';clear hit hit' hsz
   go_wp2_with fail
   refine(pW _ _ (by omega) (by omega)).mono ?_;rintro e w2 ⟨rfl,ke⟩
   go_wp2
   go_roundg g
   case measure=>omega
   case rel=>exact⟨i+d2,by omega,by omega,(ke.block _ hk1).trans HI.out,hbel'.trans (ke.mono (by omega)),HN⟩
  obtain rfl:i=s.size:=by omega
  have hnx:=fun ty=>Lib.run_next_end_at (P:=prog) wr w.heap.size s s.size ty hit hlt
  go_wp2
  go_ret
  exact⟨_,rfl,hbel,⟨fun h=>absurd h (by decide),fun h=>absurd h (pX hno.out)⟩⟩
theorem qA(s:ByteArray):(0<=Lib.indexAny s.data.toList [0,47])↔((0:UInt8)∈s.data.toList\/(47:UInt8)∈s.data.toList):=by
 generalize s.data.toList=l
 induction l with
 |nil=>simp[Lib.indexAny]
 |cons b l ih=>
   have hge:=Lib.indexAny_ge [0,47] l;unfold Lib.indexAny;by_cases hb:[0,47].contains b=true
   ·rw[if_pos hb];simp only[List.contains_cons,List.contains_nil,Bool.or_false,Bool.or_eq_true,beq_iff_eq]at hb;rcases hb with rfl|rfl<;>simp
   rw[if_neg hb];have h0:(0:UInt8)≠b:=by rintro rfl;simp at hb
   have h47:(47:UInt8)≠b:=by rintro rfl;simp at hb
   simp only[List.mem_cons,h0,h47,false_or];rw[<-ih];split
   ·rename_i h;have:Lib.indexAny l [0,47]= -1:=by simpa using h
    rw[this]
   rename_i h;have:Lib.indexAny l [0,47]≠ -1:=by simpa using h
   constructor<;>intro h'<;>omega
theorem qB(s:ByteArray)(w:World)(hs:s.size<=1000000):Calls prog 245 #[.string s, .string ⟨#[0,47]⟩] w (Zy s w):=by
 by_cases h8:s.size<=8
 ·exact pZ s w h8
 refine(Tryz.strings_IndexAny_long (fun w=>by kernel_rfl) s ⟨#[0,47]⟩ w (by decide) (by omega) (by omega) (by decide) ?_).mono ?_
 ·intro j b hj;have:b∈[0,47]:=Aj hj;simp at this;rcases this with rfl|rfl<;>decide
 rintro e w' ⟨rfl,rfl⟩;exact⟨_,rfl,M1 _ _ _,qA s⟩
def VX(s:ByteArray):Bool:=decide ((0:UInt8)∈s.data.toList\/(47:UInt8)∈s.data.toList)
theorem qC(s:ByteArray)(w:World)(hs:s.size<=1000000):
    Calls prog 186 #[.string s, .string ⟨#[0,47]⟩] w fun e w'=>e= .returned (.bool (VX s))/\Below w.heap.size w w':=by
 go_enter Tryz.func186,Tryz.ntmps186
 go_wp2_with fail
 refine(qB s w hs).mono ?_;rintro e w' ⟨v,rfl,hb,hv⟩;have HV:=Lib.hid hv;clear hv
 go_wp2
 go_ret
 exact⟨Nu (decide_eq_decide.2 HV.out),hb⟩
theorem Zz(s:ByteArray):(s.toList==[46])=decide (s.data.toList=[46]):=by rw[LJ,Bool.eq_iff_iff];simp
theorem aA(s:ByteArray):(s.toList==[46,46])=decide (s.data.toList=[46,46]):=by rw[LJ,Bool.eq_iff_iff];simp
set_option maxHeartbeats 1000000 in
theorem aB(s:ByteArray)(w:World):
    Calls prog 131 #[.string s] w fun e w'=>e= .returned (.bool (GH s.data.toList))/\Below w.heap.size w w':=by
 have hsz:=Lib.size_eq s;by_cases h0:s.size=0
 ·have he:s.toList.isEmpty=true:=by rw[Zv];simp[h0]
  have he':s.toList=[]:=List.isEmpty_iff.1 he
  have HF:Hid (GH s.data.toList=false):=Lib.hid (by
   rw[<-LJ,he'];rfl)
  clear hsz
  go_enter Tryz.func131,Tryz.ntmps131
  go_wp2
  go_ret
  exact⟨Nu HF.out.symm,Below.refl _ _⟩
 have he:s.toList.isEmpty=false:=by rw[Zv];simp[h0]
 have hne:s.data.toList≠[]:=by intro e;rw[e]at hsz;exact h0 hsz
 by_cases h12:s.size<=12
 ·have hle:decide ((s.size:Int)<=12)=true:=decide_eq_true (by omega);by_cases h1:s.data.toList=[46]
  ·have e1:(s.toList==[46])=true:=by rw[Zz];simp[h1]
   have e1':(s.toList != [46])=false:=by simp[bne,e1]
   have HF:Hid (GH s.data.toList=false):=Lib.hid (by rw[h1];rfl);clear hsz hne h1
   go_enter Tryz.func131,Tryz.ntmps131
   go_wp2
   go_ret
   exact⟨Nu HF.out.symm,Below.refl _ _⟩
  have e1:(s.toList==[46])=false:=by rw[Zz];simp[h1]
  have e1':(s.toList != [46])=true:=by simp[bne,e1]
  by_cases h2:s.data.toList=[46,46]
  ·have e2:(s.toList==[46,46])=true:=by rw[aA];simp[h2]
   have e2':(s.toList != [46,46])=false:=by simp[bne,e2]
   have HF:Hid (GH s.data.toList=false):=Lib.hid (by rw[h2];rfl);clear hsz hne h1 h2
   go_enter Tryz.func131,Tryz.ntmps131
   go_wp2
   go_ret
   exact⟨Nu HF.out.symm,Below.refl _ _⟩
  have e2:(s.toList==[46,46])=false:=by rw[aA];simp[h2]
  have e2':(s.toList != [46,46])=true:=by simp[bne,e2]
  have HF:Hid (GH s.data.toList= !VX s):=Lib.hid (by
   unfold VX;rw[Bool.eq_iff_iff,Pz];simp only[Bool.not_eq_true',decide_eq_false_iff_not,not_or]
   exact⟨fun h=>h.2.2.2.2,fun h=>⟨hne,by omega,h1,h2,h⟩⟩)
  clear hsz hne h1 h2
  go_enter Tryz.func131,Tryz.ntmps131
  go_wp2_with fail
  refine(qC s _ (by omega)).mono ?_;rintro e w' ⟨rfl,hb⟩
  go_wp2
  go_ret
  exact⟨Nu HF.out.symm,hb⟩
 have hle:decide ((s.size:Int)<=12)=false:=decide_eq_false (by omega);have HF:Hid (GH s.data.toList=false):=Lib.hid (decide_eq_false (fun h=>by have:=h.2.1;omega));clear hsz hne
 go_enter Tryz.func131,Tryz.ntmps131
 go_wp2
 go_ret
 exact⟨Nu HF.out.symm,Below.refl _ _⟩
theorem qD(s:AD):AFn prog 131 [.v (.string s)] (fun r=>r= .v (.bool (FC s))):=by
 rw[S7];exact Ra (us:=[.string s]) fun w=>aB s w
theorem VY{α:Type}(p:α->Bool):∀(l:List α) (i:Nat) (m:α),(l.filter p)[i]?=some m->∃j:Nat,l[j]?=some m/\(l.filter p).take i=(l.take j).filter p
 |[],i,m,h=>by simp at h
 |x::l,i,m,h=>by
   rw[List.filter_cons]at h ⊢
   cases hx:p x with
   |false=>
     rw[hx]at h;obtain⟨j,h1,h2⟩:=VY p l i m (by simpa using h);exact⟨j+1,by simpa using h1,by simp[hx,h2]⟩
   |true=>
     rw[hx]at h
     cases i with
     |zero=>exact⟨0,by simpa using h,by simp⟩
     |succ i=>
       obtain⟨j,h1,h2⟩:=VY p l i m (by simpa using h);exact⟨j+1,by simpa using h1,by simp[hx,h2]⟩
theorem qE{s:Spc}(hv:SpcV s)(dev:Int)(h0:(JM s dev).2=0):SpcV (JM s dev).1/\(JM s dev).1=⟨s.files,s.mounts.filter fun m:E7=>decide (m.1≠dev)⟩:=by
 unfold JM at h0 ⊢;split at h0
 ·exact absurd h0 (by decide)
 rename_i c1;split at h0
 ·exact absurd h0 (by decide)
 rename_i c2;rw[if_neg c1,if_neg c2];refine⟨⟨hv.files,hv.pos,fun i m hi=>?_⟩,rfl⟩;obtain⟨j,h1,h2⟩:=VY _ s.mounts i m hi;have hm:=hv.mnt j m h1;show MntOK s.files ((s.mounts.filter _).take i) m;rw[h2];refine⟨hm.dev1,hm.dev2,?_,hm.dir,?_,?_⟩
 ·have hf:=hm.fresh;rw[<-Bool.not_eq_true]at hf ⊢;exact fun h=>hf (ZC h fun x hx=>(List.mem_filter.1 hx).1)
 ·by_cases hz:m.2.1=0
  ·unfold CR;simp[hz]
  obtain⟨m',hm',e⟩:=V9 hm.there hz;rw[<-e];refine QP (s:=⟨s.files,(s.mounts.take j).filter fun m:E7=>decide (m.1≠dev)⟩) (List.mem_filter.2 ⟨hm',decide_eq_true ?_⟩);intro e2;have hany:(s.mounts.any fun m:E7=>decide (m.2.1=dev))=true:=List.any_eq_true.2 ⟨m,Aj h1,decide_eq_true (by rw[<-e,e2])⟩;exact c2 hany
 have hf:=hm.free
 cases hc:CH ⟨s.files,(s.mounts.take j).filter fun m:E7=>decide (m.1≠dev)⟩ m.2 with
 |none=>rfl
 |some d=>
   exfalso;obtain⟨k,hk⟩:=QR hc;have hmem:=(List.mem_filter.1 (Aj hk)).1
   cases kc:CH ⟨s.files,s.mounts.take j⟩ m.2 with
   |some d'=>rw[kc]at hf;cases hf
   |none=>
     unfold CH at kc
     cases hq:(s.mounts.take j).find? fun x:E7=>decide (x.2=m.2)with
     |some y=>rw[hq]at kc;cases kc
     |none=>have:=List.find?_eq_none.1 hq _ hmem;simp at this
section
theorem qG(s:Spc)(hs:SpcB s):AFn prog 126 [.agg (AQ s)] (fun r=>r= .agg (AQ s)):=by
 have fa:=hs.few;refine enter Tryz.func126 rfl rfl rfl rfl rfl 0 rfl ?_;refine w_ (b_ (h:=Ck (h:=e_ (q_ (BJ ([(0,AQ s)]) 8 (h:=AA 0 (h:=?_)))))));refine A9 1 (h:=?_);refine AA 3 (h:=?_);refine A9 4 (h:=?_);refine c_ 2 rfl (AX (Uu s.files hs.files) ?_);rintro r rfl;refine o_ (h:=c_ 5 rfl (N0 rfl rfl (by simp;omega) (by repeat constructor) ?_));refine o_ (h:=Kz 6 (h:=?_));refine Ax 7 (h:=z_ (h:=t_ (BH (?_))));refine AO (r:= .agg (AQ s)) none (h5:=?_) (h6:=⟨rfl,rfl,rfl⟩);exact LeA.agg (LeL.cons (A6 _) (LeL.cons (LeA.tok _ _ _) LeL.nil))
end
end
end Go.Proofs.YtbgnigjfkbmceaaGreatDoor
namespace Go.Proofs.YtbgnigjfkbmceaaGreatDoor
section
open Go.RowKit
variable {s:Spc}(hv:SpcV s)
include hv
def MB(s:Spc)(a:A8):Prop:=(Bv s a).2=true/\∀i,0<i->Kb s (BS s (Bh s.files) a) i=true
theorem SQ{a:A8}(h:AU s.files a=true)(hm:CR s a.1=true):(Bv s a).2=true:=by rw[SH hv h hm]
omit hv in
theorem aC(a:A8)(L:List A8)(i:Nat):Kb s (a::L) (i+2)=Kb s L (i+1):=by
 unfold Kb;have h1:(a::L)[i+2]?=L[i+1]?:=List.getElem?_cons_succ;have h2:(a::L)[i+2 - 1]?=L[i+1 - 1]?:=List.getElem?_cons_succ;rw[h1,h2];simp
omit hv in
theorem aD(a b:A8)(L:List A8):Kb s (a::b::L) 1=true↔∀dev,CH s b=some dev->a=(dev,1):=by
 unfold Kb;simp only[List.getElem?_cons_succ,List.getElem?_cons_zero,Nat.sub_self]
 cases CH s b with
 |none=>simp
 |some dev=>simp
omit hv in
theorem aF{L:List A8}{i:Nat}(h:L.length<=i):Kb s L i=true:=by
 unfold Kb;rw[List.getElem?_eq_none h]
theorem aG(a:A8):SG s a=true↔MB s a/\CH s a=none:=by
 rw[oC hv,Bool.and_eq_true,List.all_eq_true];constructor
 ·rintro⟨h1,h2⟩;obtain⟨t,ht⟩:=SF hv (VK h1).1;refine⟨⟨h1,fun i hi=>?_⟩,?_⟩
  ·by_cases hl:i<(BS s (Bh s.files) a).length
   ·exact h2 i (List.mem_range.2 hl)
   exact aF (by omega)
  have h3:=h2 0 (List.mem_range.2 (by rw[ht];simp));rw[ht]at h3;unfold Kb at h3;simp only[List.getElem?_cons_zero]at h3
  cases hc:CH s a with
  |none=>rfl
  |some dev=>rw[hc]at h3;simp at h3
 rintro⟨⟨h1,h2⟩,hc⟩;refine⟨h1,fun i _=>?_⟩;obtain⟨t,ht⟩:=SF hv (VK h1).1;by_cases h0:i=0
 ·subst h0;rw[ht];unfold Kb;simp only[List.getElem?_cons_zero,hc]
 exact h2 i (by omega)
theorem qH{a b:A8}(h:AU s.files a=true)(hm:CR s a.1=true)(hs:E9 s a=some b):MB s a↔MB s b/\∀dev,CH s b=some dev->a=(dev,1):=by
 have hb:=QQ hv h hs;have hbm:=VB hv hm hs;obtain⟨t,ht⟩:=SF hv hb;have hc:BS s (Bh s.files) a=a::BS s (Bh s.files) b:=by rw[NJ hv h,hs]
 unfold MB;rw[hc];constructor
 ·rintro⟨_,h2⟩;refine⟨⟨SQ hv hb hbm,fun i hi=>?_⟩,?_⟩
  ·obtain⟨j,rfl⟩:∃j,i=j+1:=⟨i - 1,by omega⟩;rw[<-aC a];exact h2 _ (by omega)
  have h3:=h2 1 (by omega);rw[ht]at h3;exact(aD a b t).1 h3
 rintro⟨⟨_,h2⟩,h3⟩;refine⟨SQ hv h hm,fun i hi=>?_⟩;by_cases h1:i=1
 ·subst h1;rw[ht];exact(aD a b t).2 h3
 obtain⟨j,rfl⟩:∃j,i=j+2:=⟨i - 2,by omega⟩;rw[aC];exact h2 _ (by omega)
theorem qJ(h:AU s.files (0,1)=true):MB s (0,1):=by
 have hs:E9 s (0,1)=none:=by unfold E9;rw[if_neg (by simp)];exact VC hv
 refine⟨SQ hv h (by unfold CR;simp),fun i hi=>?_⟩;rw[NJ hv h,hs];exact aF (by simp;omega)
theorem qK{a:A8}{dev:Int}(hc:CH s a=some dev):E9 s (dev,1)=some a/\AU s.files (dev,1)=true/\CR s dev=true/\dev≠0/\AU s.files a=true:=by
 obtain⟨i,hi⟩:=QR hc;have hm:=hv.mnt i _ hi;have h1:=hm.dev1;have h2:=hm.dev2;simp only at h1 h2
 have hs:E9 s (dev,1)=some a:=by
  unfold E9;rw[if_neg (by simp)];exact ZJ hv hi
 exact⟨hs,ZY hv (by omega) h2,QP (s:=s) (m:=(dev,a)) (Aj hi),by omega,hm.dir⟩
theorem qL{a:A8}(h:MB s a):MB s (LW s a):=by
 unfold LW
 cases hc:CH s a with
 |none=>exact h
 |some dev=>
   obtain⟨h1,h2,h3,_⟩:=qK hv hc;refine(qH hv (a:=(dev,1)) h2 h3 h1).2 ⟨h,fun d hd=>?_⟩;rw[hc]at hd;injection hd with hd;rw[hd]
theorem aH:∀(n:Nat) (a:A8),MB s a->MB s (Dh s n a)
 |0,_,h=>h
 |n+1,a,h=>by rw[Dh];exact aH n _ (qL hv h)
theorem qM{a:A8}(h:MB s a):SG s (Dh s s.mounts.length a)=true:=(aG hv _).2 ⟨aH hv _ a h,ZG hv _ a fun i m _ _=>by omega⟩
omit hv in
theorem qO{d:Dvc}(hd:VD d){a b m:Nod}(ha:a∈d.nodes)(hb:b∈d.nodes)(hm:m∈d.nodes)(h1:m.ino≠1)(hk:m.kind=2)(hea:∃e∈a.entries,e.2=m.ino)(heb:∃e∈b.entries,e.2=m.ino):a=b:=by
 have hc:=hd.one m hm h1 hk;obtain⟨A,B,hAB,_,_⟩:=YW hd.asc ha;rw[hAB,Ue,Oj]at hc;have h2:=YV.2 hea;rw[hAB]at hb;rcases List.mem_append.1 hb with hb|hb
 ·have:=Q8.2 ⟨b,hb,heb⟩;omega
 rcases List.mem_cons.1 hb with hb|hb
 ·exact hb.symm
 have:=Q8.2 ⟨b,hb,heb⟩;omega
theorem aJ{a b:A8}{p:AD}(hl:AJ s.files a p=(b,0)):AU s.files a=true/\FC p=true/\b.1=a.1/\b.2≠1/\Dl s.files b=true/\(AU s.files b=true->E9 s b=some a):=by
 unfold AJ at hl
 cases hn:C5 s.files a with
 |none=>rw[hn]at hl;simp at hl
 |some n=>
   rw[hn]at hl;simp only at hl;by_cases hk:n.kind=2
   ·rw[if_pos hk]at hl;have hdir:AU s.files a=true:=(O5 hn).2 hk
    cases hf:n.entries.find? fun e:BQ=>decide (e.1=p)with
    |none=>rw[hf]at hl;simp at hl
    |some e=>
      rw[hf]at hl;simp only[Prod.mk.injEq,and_true]at hl;subst hl;have he:=List.mem_of_find?_eq_some hf;have hep:=List.find?_some hf;simp only[decide_eq_true_eq]at hep;obtain⟨q,d,n',e1,e2,e3,e4,e5,e6⟩:=O6 (f:=s.files) (a:=a) (by rw[hdir];simp)
      have hn':n'=n:=by
       have:AY s.files a=n:=by unfold AY;rw[hn];rfl
       rw[<-this];exact e5.symm
      subst hn';have hd:=hv.files.vd d (Aj e2);obtain⟨h1,h2,m,hm,hme⟩:=hd.ent n' e3 e he;have hnb:C5 s.files (a.1,e.2)=some m:=by rw[e1];exact VA hv e2 hm hme
      refine⟨hdir,by rw[<-hep];exact h1,rfl,h2,by unfold Dl;rw[hnb];rfl,fun hdb=>?_⟩;have hmk:m.kind=2:=(O5 hnb).1 hdb;have hm1:m.ino≠1:=by rw[hme];exact h2
      obtain⟨p',hp',hpi,hpe⟩:=hd.par m hm hm1 hmk;have:=qO hd e3 hp' hm hm1 hmk ⟨e,he,hme.symm⟩ hpe;subst this;unfold E9;rw[if_pos h2];unfold AY;rw[hnb];simp only[Option.getD_some];rw[<-hpi,e4]
   rw[if_neg hk]at hl;simp at hl
end
end Go.Proofs.YtbgnigjfkbmceaaGreatDoor
namespace Go.Proofs.YtbgnigjfkbmceaaGreatDoor
theorem qP{p:AD}(h:FC p=true):p≠SL/\p≠QT/\p.size<=12/\p≠⟨#[]⟩/\(47:UInt8)∉p.data.toList:=by
 rw[S7]at h;obtain⟨h1,h2,h3,h4,h5,h6⟩:=Pz.1 h;refine⟨?_,?_,by rw[Lib.size_eq];exact h2,?_,h6⟩<;>(intro e;subst e;first|exact h3 rfl|exact h4 rfl|exact h1 rfl)
theorem qQ{p:AD}(h:p.data.toList=[]):p=⟨#[]⟩:=QS h
theorem qR{l:Bs}(h1:l≠[])(h2:l.head?≠some 47):CJ l≠[]:=by
 intro h;have h3:EL (Cd l)=47::l:=UW l
 cases hs:Cd l with
 |nil=>exact S2 l hs
 |cons p ps=>
   rw[hs,L8]at h3;injection h3 with _ h3
   have h4:p=[]:=by
    unfold CJ at h;rw[hs,List.filter_cons]at h;split at h
    ·cases h
    rename_i hne
    simpa[ne_]using hne
   rw[h4,List.nil_append]at h3
   cases ps with
   |nil=>exact h1 h3.symm
   |cons q ps=>
     rw[L8]at h3;rw[<-h3]at h2;simp at h2
theorem qT{p:AD}(h1:p≠⟨#[]⟩)(h2:EB p=false):Dc p≠[]:=by
 intro h;unfold Dc at h;rw[List.map_eq_nil_iff]at h;refine qR (fun e=>h1 (qQ e)) ?_ h;unfold EB at h2
 simpa using h2
end Go.Proofs.YtbgnigjfkbmceaaGreatDoor
namespace Go.Proofs.YtbgnigjfkbmceaaGreatDoor
abbrev zz:AD:=⟨#[122,122]⟩
end Go.Proofs.YtbgnigjfkbmceaaGreatDoor
namespace Go.Proofs.YtbgnigjfkbmceaaGreatDoor
structure Wk where
 ps:List AD
 at_:A8
 dir:A8
 name:AD
 missing:Bool
 links:Nat
def GO(s:Spc)(fl:Bool)(p:AD)(ps:List AD)(w:Wk):Int ⊕ Wk:=
 if AU s.files w.at_=false then .inl 20
 else if 12<p.size then .inl 36
 else if p=QT then .inr ⟨ps,Dh s s.mounts.length (FV s (s.mounts.length+1) w.at_),(0,0),⟨#[]⟩,w.missing,w.links⟩
 else if p=SL then .inr ⟨ps,w.at_,(0,0),⟨#[]⟩,w.missing,w.links⟩
 else if FC p=false then .inl 2
 else if(AJ s.files w.at_ p).2≠0 then(if ps≠[]then .inl 2 else .inr ⟨ps,w.at_,w.at_,p,true,w.links⟩)
 else if(AY s.files (AJ s.files w.at_ p).1).kind=3/\(ps≠[]\/fl=true)then
  (if w.links=8 then .inl 40 else
    .inr ⟨Dc (AY s.files (AJ s.files w.at_ p).1).target++ps,if EB (AY s.files (AJ s.files w.at_ p).1).target=true then GK s else w.at_,if EB (AY s.files (AJ s.files w.at_ p).1).target=true then(0,0)else w.dir,if EB (AY s.files (AJ s.files w.at_ p).1).target=true then⟨#[]⟩else w.name,w.missing,w.links+1⟩)
 else .inr ⟨ps,Dh s s.mounts.length (AJ s.files w.at_ p).1,w.at_,p,w.missing,w.links⟩
def Kl(s:Spc)(sl:Bool)(w:Wk):Fnd:=
 if w.name=⟨#[]⟩then⟨w.at_,⟨#[]⟩,w.at_, !w.missing,sl,(Bv s w.at_).1⟩
 else⟨w.dir,w.name,if w.missing=true then(0,0)else w.at_, !w.missing,sl,if(Bv s w.dir).2=true then EN (Bv s w.dir).1 w.name else⟨#[]⟩⟩
structure Sim(w:Wk)(σ:Lk):Prop where
 ps:w.ps=σ.ps
 links:w.links=σ.links
 ex:σ.ex= !w.missing
 here:w.missing=false->w.at_=σ.file
 gone:w.missing=true->σ.file=(0,0)/\w.ps=[]/\w.dir=σ.dir/\w.name=σ.name/\w.name≠⟨#[]⟩
 last:w.ps=[]->w.missing=false->(w.name=⟨#[]⟩->σ.name=⟨#[]⟩/\σ.dir=σ.file)/\(w.name≠⟨#[]⟩->w.dir=σ.dir/\w.name=σ.name)
section
open Go.RowKit
variable {s:Spc}(hv:SpcV s)
include hv
theorem qU{a:A8}{p:AD}(h:FC p=false):(AJ s.files a p).2≠0:=by
 intro e;have:=(aJ hv (a:=a) (p:=p) (b:=(AJ s.files a p).1) (Prod.ext rfl e)).2.1;rw[this]at h;cases h
theorem qV{a b:A8}{p:AD}(hl:AJ s.files a p=(b,0))(hk:(AY s.files b).kind=3):(AY s.files b).target≠⟨#[]⟩:=by
 have hb:=(aJ hv hl).2.2.2.2.1;obtain⟨q,i,d,m,h1,h2,h3,h4,h5,h6⟩:=QM hb;rw[h6]at hk ⊢;have hp:=(hv.files.vd d (Aj h2)).plain m (Aj h3);unfold J4 at hp;split at hp
 ·cases hp
 try rw[if_pos hk]at hp
 unfold Np at hp;intro e;rw[e]at hp;revert hp;decide+kernel
theorem qW(fl:Bool){p:AD}{ps:List AD}{w:Wk}{σ:Lk}(h:Sim w σ)(hm:w.missing=false):(∃e,GO s fl p ps w= .inl e/\DR s fl p ps σ.file σ.links= .inl e)\/∃w' τ,GO s fl p ps w= .inr w'/\DR s fl p ps σ.file σ.links= .inr τ/\Sim w' τ:=by
 have ha:=h.here hm;have hex:(true:Bool)= !w.missing:=by rw[hm];rfl
 rw[<-ha,<-h.links];unfold GO DR;by_cases c1:AU s.files w.at_=false
 ·simp only[if_pos c1];exact .inl ⟨_,rfl,rfl⟩
 simp only[if_neg c1];by_cases c2:12<p.size
 ·simp only[if_pos c2];exact .inl ⟨_,rfl,rfl⟩
 simp only[if_neg c2];by_cases c3:p=SL
 ·have c4:¬p=QT:=by rw[c3];decide
  simp only[if_pos c3,if_neg c4];exact .inr ⟨_,_,rfl,rfl,rfl,rfl,hex,fun _=>rfl,fun c=>(by rw[hm]at c;cases c),fun _ _=>⟨fun _=>⟨rfl,rfl⟩,fun c=>absurd rfl c⟩⟩
 simp only[if_neg c3];by_cases c4:p=QT
 ·simp only[if_pos c4];exact .inr ⟨_,_,rfl,rfl,rfl,rfl,hex,fun _=>rfl,fun c=>(by rw[hm]at c;cases c),fun _ _=>⟨fun _=>⟨rfl,rfl⟩,fun c=>absurd rfl c⟩⟩
 simp only[if_neg c4];by_cases c5:FC p=false
 ·have c6:=qU hv (a:=w.at_) c5;simp only[if_pos c5,if_pos c6,if_pos (show ps≠[]\/FC p=false from .inr c5)];exact .inl ⟨_,rfl,rfl⟩
 simp only[if_neg c5];have hp0:p≠⟨#[]⟩:=(qP (by simpa using c5)).2.2.2.1;by_cases c6:(AJ s.files w.at_ p).2≠0
 ·simp only[if_pos c6];by_cases c7:ps≠[]
  ·simp only[if_pos c7,if_pos (show ps≠[]\/FC p=false from .inl c7)];exact .inl ⟨_,rfl,rfl⟩
  simp only[if_neg c7,if_neg (show¬(ps≠[]\/FC p=false) from fun c=>c.elim c7 c5)];have c8:ps=[]:=Decidable.not_not.1 c7;exact .inr ⟨_,_,rfl,rfl,c8,rfl,rfl,fun c=>(by cases c),fun _=>⟨rfl,c8,rfl,rfl,hp0⟩,fun _ c=>by cases c⟩
 simp only[if_neg c6];by_cases c7:(AY s.files (AJ s.files w.at_ p).1).kind=3/\(ps≠[]\/fl=true)
 ·simp only[if_pos c7];by_cases c8:w.links=8
  ·simp only[if_pos c8];exact .inl ⟨_,rfl,rfl⟩
  simp only[if_neg c8];have ht:=qV hv (a:=w.at_) (p:=p) (b:=(AJ s.files w.at_ p).1) (Prod.ext rfl (Decidable.not_not.1 c6)) c7.1;refine .inr ⟨_,_,rfl,rfl,rfl,rfl,hex,fun _=>rfl,fun c=>(by rw[hm]at c;cases c),fun hps _=>?_⟩;by_cases c9:EB (AY s.files (AJ s.files w.at_ p).1).target=true
  ·simp only[if_pos c9];exact⟨fun _=>⟨trivial,trivial⟩,fun c=>absurd rfl c⟩
  have:=qT ht (by simpa using c9);exact absurd (List.append_eq_nil_iff.1 hps).1 this
 simp only[if_neg c7];exact .inr ⟨_,_,rfl,rfl,rfl,rfl,hex,fun _=>rfl,fun c=>(by rw[hm]at c;cases c),fun _ _=>⟨fun c=>absurd c hp0,fun _=>⟨rfl,rfl⟩⟩⟩
theorem qX{sl:Bool}{w:Wk}{σ:Lk}(h:Sim w σ)(hps:w.ps=[]):Kl s sl w=Ld s sl σ:=by
 unfold Kl Ld
 cases hm:w.missing with
 |true=>
   obtain⟨g1,_,g2,g3,g4⟩:=h.gone hm;rw[if_neg g4,h.ex,hm,g1,<-g2,<-g3];simp only[if_true,g4,if_false]
 |false=>
   have ha:=h.here hm;obtain⟨k1,k2⟩:=h.last hps hm;by_cases c:w.name=⟨#[]⟩
   ·obtain⟨e1,e2⟩:=k1 c;rw[if_pos c,h.ex,hm,e1,e2,<-ha];simp only[if_true];by_cases cw:(Bv s w.at_).2=true
    ·rw[if_pos cw]
    rw[if_neg cw];have:Bv s w.at_=(⟨#[]⟩,false):=VE hv fun c=>cw (SQ hv c.1 c.2);rw[this]
   obtain⟨e1,e2⟩:=k2 c;rw[if_neg c,h.ex,hm,<-e1,<-e2,<-ha];simp only[c,if_false,Bool.false_eq_true]
end
section
open Go.RowKit
open Go.Shelf
attribute [local go_sem] Oper.semAt_some
theorem qY(s:ByteArray)(w:World):
    Calls prog 239 #[.string s, .string ⟨#[47]⟩] w fun e w'=>
     e= .returned (.func (.func 274) #[] #[.pointer (some ⟨w.heap.size+1,0,none⟩), .pointer (some ⟨w.heap.size,0,none⟩), .pointer (some ⟨w.heap.size+1+1,0,none⟩)])/\
     w'=((w.alloc (.cells #[.string s] 9)).alloc (.cells #[.string ⟨#[47]⟩] 9)).alloc (.cells #[.int .i64 0] 3):=by
 go_enter Tryz.func239,Tryz.ntmps239
 go_wp2
 go_ret
 exact⟨rfl,rfl⟩
def SR(w:World)(b:Nat):Nat:=match w.cell? ⟨b,0,none⟩with
 |some (.string r)=>r.size
 |_=>0
theorem P5{w:World}{b:Nat}{t:TypeId}{r:ByteArray}(h:Boxed w b t (.string r)):SR w b=r.size:=by simp[SR,h.cell]
def Keep3(a b c:Nat)(X Y:World):Prop:=Y.heap[a]?=X.heap[a]?/\Y.heap[b]?=X.heap[b]?/\Y.heap[c]?=X.heap[c]?
theorem Keep3.trans{a b c:Nat}{X Y Z:World}(h:Keep3 a b c X Y)(k:Keep3 a b c Y Z):Keep3 a b c X Z:=⟨k.1.trans h.1,k.2.1.trans h.2.1,k.2.2.trans h.2.2⟩
theorem qZ{a b c N:Nat}(ha:a<N)(hb:b<N)(hc:c<N)(W:World)(l:Nat)(o':Obj)(hl:N<=l):Keep3 a b c W (W.putObj l o'):=
 ⟨World.putObj_heap_other (by omega),World.putObj_heap_other (by omega),World.putObj_heap_other (by omega)⟩
theorem r8{a b c:Nat}{X Y:World}(h:Below X.heap.size X Y)(ha:a<X.heap.size)(hb:b<X.heap.size)(hc:c<X.heap.size):Keep3 a b c X Y:=⟨h.block _ ha,h.block _ hb,h.block _ hc⟩
theorem VZ(s:ByteArray)(i:Nat)(h:i<s.size):(s.extract (i+1) s.size).size<s.size:=by
 rw[ByteArray.size_extract];omega
theorem r9{s:ByteArray}{i:Nat}(hi:Lib.indexByte s.data.toList 47=i):i<s.size/\Cd s.data.toList=(s.extract 0 i).data.toList::Cd (s.extract (i+1) s.size).data.toList:=by
 have hm:(47:UInt8)∈s.data.toList:=by
  apply Classical.byContradiction;intro h;rw[Zw h]at hi;omega
 obtain⟨j,hj,hlt,hl,hn⟩:=VW hm;obtain rfl:j=i:=by omega
 refine⟨by rw[Lib.size_eq];exact hlt,?_⟩;rw[Lib.extract_data,Lib.extract_to_end];simp only[List.drop_zero,Nat.sub_zero]
 conv=>lhs;rw[hl]
 exact Y9 hn _
theorem rA{s:ByteArray}(hi:Lib.indexByte s.data.toList 47<0):Cd s.data.toList=[s.data.toList]:=by
 refine S3 fun h=>?_;obtain⟨i,hi',_⟩:=VW h;omega
def Ex(xs:List AD):List Bs:=xs.map fun x=>x.data.toList
set_option maxRecDepth 100000 in
set_option maxHeartbeats 1000000 in
theorem rB(n:Nat)(s:ByteArray)(hs:s.size<=1000000)(b0 b1 b2:Nat)(w:World)(h0:Boxed w b0 9 (.string s))(h1:Boxed w b1 9 (.string ⟨#[47]⟩))(h2:Boxed w b2 3 (.int .i64 0))(h01:b0≠b1)(h02:b0≠b2):
    SeqW Fence.wide n prog 274 #[.pointer (some ⟨b1,0,none⟩), .pointer (some ⟨b0,0,none⟩), .pointer (some ⟨b2,0,none⟩)] (fun x:AD=>#[.string x]) (fun b=>b=b0) (Keep3 b0 b1 b2) (fun xs=>Ex xs<+:Cd s.data.toList)
     (fun xs=>Ex xs=Cd s.data.toList) (fun pre=>Ex pre<+:Cd s.data.toList) w:=fun l J Jx W hW hJ hJx hY hst=>by
 have k0:Boxed W b0 9 (.string s):=BY h0 hW h0.lt;have k1:Boxed W b1 9 (.string ⟨#[47]⟩):=BY h1 hW h1.lt;have k2:Boxed W b2 3 (.int .i64 0):=BY h2 hW h2.lt;refine callsIn_of_wp Tryz.func274 rfl trivial ?_ rfl;simp only[Tryz.ntmps274,List.size_toArray,List.length_cons,List.length_nil,Nat.reduceAdd,Nat.reduceSub,Array.replicate_succ,Array.replicate_zero,List.push_toArray,List.append_toArray,List.nil_append,List.cons_append];have c1:=k1.cell
 gi_wp2
 gi_loopw [7] (fun _ wr=>∃(pre:List AD) (r:ByteArray),Boxed wr b0 9 (.string r)/\Boxed wr b1 9 (.string ⟨#[47]⟩)/\Boxed wr b2 3 (.int .i64 0)/\J pre wr/\Hid (Ex pre++Cd r.data.toList=Cd s.data.toList)/\r.size<=s.size) (fun _ wr=>SR wr b0)
 case atStart=>exact⟨[],s,k0,k1,k2,hst,rfl,As _⟩
 case round=>
  obtain⟨pre,r,m0,m1,m2,hj,hpre,hle⟩:=hrel;clear k0 k1 k2 c1 hst;have c0:=m0.cell;have c1:=m1.cell;have c2:=m2.cell;have f0:=m0.frozen
  gi_wp2_with fail
  refine G4 ((callsIn_wide.2 (pO _ _)).mono ?_);rintro e w' ⟨rfl,rfl⟩;have hge:=Lib.indexByte_ge r.data.toList 47;by_cases hneg:Lib.indexByte r.data.toList 47<0
  ·have HS:=Lib.hid (rA hneg);obtain⟨fn,tmps,assign,body,hy,hR⟩:=hY pre r wr hj (by rw[<-hpre.out,HS.out];simp[Ex])
   gi_wp2
   refine⟨(fun h=>by cases h),hR.mono ?_⟩;rintro e W3 (⟨rfl,hJ3,hk3⟩|⟨rfl,hJx3⟩)
   ·gi_wp2
    go_end0
    exact⟨⟨_,rfl⟩, .inl ⟨pre++[r],by rw[<-hpre.out,HS.out];simp[Ex],hJ3⟩⟩
   gi_wp2
   go_end0
   exact⟨⟨_,rfl⟩, .inr ⟨pre++[r],by rw[<-hpre.out,HS.out];simp[Ex],hJx3⟩⟩
  obtain⟨i,hi⟩:=Int.eq_ofNat_of_zero_le (show 0<=Lib.indexByte r.data.toList 47 by omega);obtain⟨hlt,hseg⟩:=r9 hi;have HS:=Lib.hid hseg;clear hseg hge hneg;rw[hi];clear hi;obtain⟨fn,tmps,assign,body,hy,hR⟩:=hY pre (r.extract 0 i) wr hj (by rw[<-hpre.out,HS.out];simp[Ex])
  gi_wp2
  refine⟨(fun h=>by cases h),hR.mono ?_⟩;rintro e W3 (⟨rfl,hJ3,hk3⟩|⟨rfl,hJx3⟩)
  ·have q0:Boxed W3 b0 9 (.string r):=hk3.1.trans m0;have q1:Boxed W3 b1 9 (.string ⟨#[47]⟩):=hk3.2.1.trans m1;have q2:Boxed W3 b2 3 (.int .i64 0):=hk3.2.2.trans m2;clear c0 c1 c2 f0 hy hR;have c0:=q0.cell;have c1:=q1.cell;have c2:=q2.cell;have f0:=q0.frozen
   gi_wp2
   go_roundw
   case rel=>exact⟨pre++[r.extract 0 i],r.extract (i+1) r.size,q0.set _,q1.other (Ne.symm h01) _,q2.other (Ne.symm h02) _,hJ _ _ _ hJ3 (Moves.set_ (own:=fun b=>b=b0) _ rfl _),Lib.hid (by rw[<-hpre.out,HS.out];simp[Ex]),Nat.le_trans (Nat.le_of_lt (VZ r i hlt)) hle⟩
   case measure=>rw[P5 (q0.set _),P5 m0];exact VZ r i hlt
  gi_wp2
  refine bodyPost_ret (results_none rfl _ _ _) rfl ?_;exact⟨⟨_,rfl⟩, .inr ⟨pre++[r.extract 0 i],by rw[<-hpre.out,HS.out];simp[Ex],hJx3⟩⟩
end
section
open Go.RowKit
open Go.Shelf
attribute [local go_sem] Oper.semAt_some
theorem QZ(l:Bs):Lib.hasPrefix l [47]=decide (l.head?=some 47):=by
 unfold Lib.hasPrefix
 cases l with
 |nil=>simp
 |cons c t=>
   rw[Bool.eq_iff_iff,List.isPrefixOf_iff_prefix];simp[List.cons_prefix_cons,eq_comm]
theorem rC{l:Bs}(h:l.head?=some 47):Lib.trimPrefix l [47]=l.tail:=by
 unfold Lib.trimPrefix;rw[QZ,if_pos (by simp[h])];simp
set_option maxRecDepth 100000 in
set_option maxHeartbeats 1000000 in
theorem aK(s:ByteArray)(w:World)(h:s.data.toList=[47]\/s.data.toList.head?≠some 47):
    Calls prog 183 #[.string s] w fun e w'=>e= .returned (.bool (FS s.data.toList))/\Below w.heap.size w w':=by
 by_cases h1:s.data.toList=[47]
 ·obtain rfl:s=⟨#[47]⟩:=Zu h1
  go_enter Tryz.func183,Tryz.ntmps183
  go_wp2
  exact bodyPost_ret (v:= .bool true) (by simp[results,Tryz.results183,go_sem]) rfl ⟨rfl,(Below.refl _ _).alloc (As _) _⟩
 have h2:s.data.toList.head?≠some 47:=h.resolve_left h1;have e1:(s.toList==[47])=false:=by rw[LJ,beq_eq_false_iff_ne];exact h1
 have HP:=Lib.hid (QZ s.data.toList);have HF:Hid (FS s.data.toList=false):=Lib.hid (by unfold FS;simp[h1,h2]);have HD:Hid (decide (s.data.toList.head?=some 47)=false):=Lib.hid (decide_eq_false h2);clear h h1 h2
 go_enter Tryz.func183,Tryz.ntmps183
 go_wp2_with fail
 refine(Tryz.strings_CutPrefix _ _ _).mono ?_;rintro e w' ⟨rfl,rfl⟩;rw[HP.out,HD.out]
 go_wp2
 exact bodyPost_ret (v:= .bool false) (by simp[results,Tryz.results183,go_sem]) rfl ⟨by rw[HF.out],(Below.refl _ _).alloc (As _) _⟩
set_option maxRecDepth 100000 in
set_option maxHeartbeats 1000000 in
theorem rD(n:Nat)(hn:Hid (1<=n))(s:ByteArray)(w:World)(hs:s.size<=1000000)(h1:s.data.toList≠[47])(h2:s.data.toList.head?=some 47):
    CallsIn Fence.wide n prog 183 #[.string s] w fun e w'=>e= .returned (.bool (FS s.data.toList))/\Below w.heap.size w w':=by
 have e1:(s.toList==[47])=false:=by rw[LJ,beq_eq_false_iff_ne];exact h1
 have HP:=Lib.hid (QZ s.data.toList);have HT:=Lib.hid (rC h2);have HF:Hid (FS s.data.toList=(Cd s.data.toList.tail).all GH):=Lib.hid (by unfold FS;simp[h1,h2]);have HD:Hid (decide (s.data.toList.head?=some 47)=true):=Lib.hid (decide_eq_true h2);clear h1 h2;refine callsIn_of_wp_marks Tryz.func183 rfl trivial ?_ rfl;simp only[Tryz.ntmps183,List.size_toArray,List.length_cons,List.length_nil,Nat.reduceAdd,Nat.reduceSub,Array.replicate_succ,Array.replicate_zero,List.push_toArray,List.append_toArray,List.nil_append,List.cons_append]
 gi_wp2_with fail
 refine G4 ((callsIn_wide.2 (Tryz.strings_CutPrefix _ _ _)).mono ?_);rintro e w' ⟨rfl,rfl⟩;obtain⟨r,hr⟩:∃r:ByteArray,r=⟨(Lib.trimPrefix s.data.toList [47]).toArray⟩:=⟨_,rfl⟩;have hrl:r.data.toList=s.data.toList.tail:=by rw[hr,<-HT.out]
 have HR:=Lib.hid hrl;have hrs:r.size<=1000000:=by rw[Lib.size_eq,hrl,List.length_tail,<-Lib.size_eq];omega
 rw[HP.out,HD.out];rw[show(⟨(Lib.trimPrefix s.data.toList (ByteArray.mk #[47]).data.toList).toArray⟩:ByteArray)=r from hr.symm];clear hrl hr
 gi_wp2_with fail
 refine G4 ((callsIn_wide.2 (qY _ _)).mono ?_);rintro e w' ⟨rfl,rfl⟩
 gi_wp2_with fail
 have hR:Boxed (w.alloc (.cells #[.bool false] 4)) w.heap.size 4 (.bool false):=Boxed.new _ _ _;obtain⟨W0,hW0⟩:∃W0,w.alloc (.cells #[.bool false] 4)=W0:=⟨_,rfl⟩;have hz0:W0.heap.size=w.heap.size+1:=by rw[<-hW0];simp
 have hB0:Below w.heap.size w W0:=by rw[<-hW0];exact Jz _ _
 rw[hW0]at hR ⊢;obtain⟨WL,hWL⟩:∃WL,((W0.alloc (.cells #[.string r] 9)).alloc (.cells #[.string ⟨#[47]⟩] 9)).alloc (.cells #[.int .i64 0] 3)=WL:=⟨_,rfl⟩;have hzL:WL.heap.size=w.heap.size+1+1+1+1:=by rw[<-hWL];simp[hz0]
 have hBL:Below W0.heap.size W0 WL:=by rw[<-hWL];exact Po _ _ _ _
 have k0:Boxed WL (w.heap.size+1) 9 (.string r):=by rw[<-hWL,<-hz0];exact Pp _ _ _ _
 have k1:Boxed WL (w.heap.size+1+1) 9 (.string ⟨#[47]⟩):=by rw[<-hWL,<-hz0];exact Pq _ _ _ _
 have k2:Boxed WL (w.heap.size+1+1+1) 3 (.int .i64 0):=by rw[<-hWL,<-hz0];exact Pr _ _ _ _
 have kR:Boxed WL w.heap.size 4 (.bool false):=BY hR hBL hR.lt;have hBw:Below w.heap.size w WL:=hB0.trans (hBL.mono (by omega));rw[hWL];have HB0:=Lib.hid hz0;have HBL:=Lib.hid hzL;clear hW0 hWL hz0 hR hB0 hBL hzL
 refine YE rfl hn.out (gf:=274) rfl trivial (enters_of Tryz.func274 (by kernel_rfl) rfl)
  (rB (n - 1) r hrs (w.heap.size+1) (w.heap.size+1+1) (w.heap.size+1+1+1) WL k0 k1 k2 (by omega) (by omega))
  (fun b hb=>by have:=HBL.out;omega) Keep3.trans (fun W l o o' hl _ _=>by have:=HBL.out;exact qZ (N:=WL.heap.size) (by omega) (by omega) (by omega) W l o' hl) (Below.refl _ _) (fun _=>rfl)
  (fun pre W=>Boxed W w.heap.size 4 (.bool false)/\(∀p∈Ex pre,GH p=true)/\Below w.heap.size w W)
  (fun c pre W=>c= .ret/\Boxed W w.heap.size 4 (.bool false)/\(∃p∈Ex pre,GH p=false)/\Below w.heap.size w W)
  (fun s X Y h hm=>⟨hm.boxed h.1 (by omega),h.2.1,hm.under h.2.2 (As _) (fun b hb=>by omega) (by have:=HBL.out;omega)⟩)
  (fun c s X Y h hm=>⟨h.1,hm.boxed h.2.1 (by omega),h.2.2.1,hm.under h.2.2.2 (As _) (fun b hb=>by omega) (by have:=HBL.out;omega)⟩)
  ⟨kR,by simp[Ex],hBw⟩
  (fun x=>{tmps:=#[.string s,undef, .pointer (some ⟨w.heap.size,0,none⟩), .string r, .bool true, .string x, .string s, .bool false, .tuple #[.string r, .bool true], .string s, .tuple #[.string r, .bool true], .string r, .bool true, .bool true, .bool false, .string r,
    .func (.func 274) #[] #[.pointer (some ⟨w.heap.size+1+1,0,none⟩), .pointer (some ⟨w.heap.size+1,0,none⟩), .pointer (some ⟨w.heap.size+1+1+1,0,none⟩)], .string x,undef,undef,undef],defers:=[]}) ?assign ?body ?done ?stop
 case assign=>
  intro l x W K hK
  gi_wp2
  exact hK
 case body=>
  rintro l pre x W ⟨hc,hnm,hbw⟩ _ hsz;have hcell:=hc.cell;have hfz:=hc.frozen;have HN:=Lib.hid hnm;have HZ:=Lib.hid hsz;clear hnm hsz
  gi_wp2_with fail
  refine G4 ((CallsIn.inRound l (callsIn_wide.2 (aB x W))).mono ?_);rintro e W' ⟨rfl,hb'⟩;have hc':Boxed W' w.heap.size 4 (.bool false):=BY hc hb' hc.lt;have hbw':Below w.heap.size w W':=hbw.trans (hb'.mono hbw.size);clear hcell hfz;have hcell:=hc'.cell;have hfz:=hc'.frozen;have HX:Hid (Ex (pre++[x])=Ex pre++[x.data.toList]):=Lib.hid (by simp[Ex])
  cases hnx:GH x.data.toList with
  |true=>
    gi_wp2
    have h1:=HBL.out;have h2:=HZ.out;exact⟨O0 hb',r8 hb' (by omega) (by omega) (by omega),hc',by rw[HX.out];intro p hp;rcases List.mem_append.1 hp with hp|hp;exact HN.out p hp;simp at hp;rw[hp];exact hnx,hbw'⟩
  |false=>
    gi_wp2
    have h1:=HBL.out;exact⟨Q2 (O0 hb') (by omega) _,rfl,hc'.set _,⟨x.data.toList,by rw[HX.out];simp,hnx⟩,hbw'.setCell (As _) _⟩
 case done=>
  rintro D xs W hD hS ⟨hc,hnm,hbw⟩ hK;have HS:=Lib.hid hS;have HN:=Lib.hid hnm;clear hS hnm;have hcell:=hc.cell;have hfz:=hc.frozen
  gi_wp2
  refine⟨by simp, .inl ⟨_,_,rfl,run_takeDeferred ((KeepsOthers.setCell _ _ _).same D _ hK rfl),?_⟩⟩;have h1:=HBL.out;have hcb:=(MZ (hc.set (.bool true)) (show w.heap.size≠D by omega) (.deferred none)).cell;refine⟨.bool true,by simp[results,Tryz.f183,go_sem,hcb],by rw[HF.out,<-HR.out,<-HS.out,List.all_eq_true.2 HN.out],O1 (hbw.setCell (p:=⟨w.heap.size,0,none⟩) (As _) _) (by omega) _⟩
 case stop=>
  rintro D c pre W hD hSp ⟨rfl,hc,hnm,hbw⟩ hK;have HS:=Lib.hid hSp;have HN:=Lib.hid hnm;clear hSp hnm;have hcell:=hc.cell
  gi_wp2
  refine⟨by simp, .inl ⟨_,_,rfl,run_takeDeferred hK,?_⟩⟩;have h1:=HBL.out;have hcb:=(MZ hc (show w.heap.size≠D by omega) (.deferred none)).cell;refine⟨.bool false,by simp[results,Tryz.f183,go_sem,hcb],?_,O1 hbw (by omega) _⟩;obtain⟨p,hp,hpf⟩:=HN.out;rw[HF.out,<-HR.out,List.all_eq_false.2 ⟨p,HS.out.subset hp,by simp[hpf]⟩]
theorem rE(s:ByteArray)(w:World)(hs:s.size<=1000000):
    Calls prog 183 #[.string s] w fun e w'=>e= .returned (.bool (FS s.data.toList))/\Below w.heap.size w w':=by
 by_cases h1:s.data.toList=[47]
 ·exact aK s w (.inl h1)
 by_cases h2:s.data.toList.head?=some 47
 ·exact callsIn_wide.1 (rD 6 (Lib.hid (by omega)) s w hs h1 h2)
 exact aK s w (.inr h2)
end
section
open Go.RowKit
def flat{α:Type}(sz:Nat)(cell:α->Nat->Value)(xs:List α):List Value:=xs.flatMap fun x=>(List.range sz).map (cell x)
section
variable {α:Type}{sz:Nat}{cell:α->Nat->Value}
theorem flat_get(xs:List α):∀(i j:Nat) (x:α),xs[i]?=some x->j<sz->(flat sz cell xs)[i * sz+j]?=some (cell x j):=by
 induction xs with
 |nil=>intro i j x h;simp at h
 |cons y ys ih=>
   intro i j x h hj;have e:flat sz cell (y::ys)=(List.range sz).map (cell y)++flat sz cell ys:=by simp[flat]
   rw[e]
   cases i with
   |zero=>
     simp at h;subst h;rw[DD (by simpa using hj)];simp[hj]
   |succ i=>
     rw[Er (by simp[Nat.add_mul];omega)];simp only[List.getElem?_cons_succ]at h;have:=ih i j x h hj;rw[<-this]
     congr 1
     simp[Nat.add_mul];omega
def OwnL(sz:Nat)(cell:α->Nat->Value)(E:TypeId)(w:World)(base:Nat)(v:Value)(xs:List α):Prop:=
 w.ownsRow base E sz v xs.length (flat sz cell xs)
theorem OwnL.list{E:TypeId}{w:World}{base:Nat}{v:Value}{xs:List α}(h:OwnL sz cell E w base v xs)(hf:xs.length<=few){D:Nat->Prop}(hD:∀b,base<=b->b<w.heap.size->D b):ListR sz cell w D v xs:=by
 rcases h.2 with⟨rfl,hn⟩|⟨g,cap,cur,rfl,hb,hg,hnc,_,hcs,htake⟩
 ·obtain rfl:xs=[]:=ER hn;exact ListR.nil_
 refine⟨_,_,rfl,hnc,hf,fun _=>⟨g,0,rfl,hD g hb (Array.getElem?_eq_some_iff.1 hg).1,fun i x j hi hj=>?_⟩⟩
 have hlt:i * sz+j<xs.length * sz:=by
  have h1:=(AZ.1 hi).1;have h2:(i+1) * sz<=xs.length * sz:=Nat.mul_le_mul_right sz h1;rw[Nat.add_mul]at h2;omega
 rw[Nat.zero_add,cell_of_row w g _ cur E (0,0) hg,<-flat_get xs i j x hi hj,<-htake,List.getElem?_take,if_pos hlt];simp
end
theorem rF(l:Bs):Lib.hasSuffix l [47]=decide (l.getLast?=some 47):=by
 unfold Lib.hasSuffix;rw[Bool.eq_iff_iff,List.isSuffixOf_iff_suffix,decide_eq_true_iff];rcases List.eq_nil_or_concat l with rfl|⟨a,x,rfl⟩
 ·simp
 simp only[List.concat_eq_append,List.getLast?_concat,Option.some.injEq];constructor
 ·rintro⟨t,ht⟩;have:=congrArg List.getLast? ht
  simpa[eq_comm]using this
 rintro rfl;exact⟨a,rfl⟩
theorem aL(l:Bs):(CJ l).length<=l.length+1:=by
 have h1:(CJ l).length<=(Cd l).length:=List.length_filter_le _ _
 have h2:(Cd l).length<=l.length+1:=by
  clear h1
  induction l with
  |nil=>simp[Cd]
  |cons c t ih=>
    rw[UU];split
    ·simp;omega
    split
    ·simp
    rename_i h;rw[h]at ih;simp at ih ⊢;omega
 omega
theorem rG(xs:List AD):flat 1 Pl xs=xs.map Value.string:=by
 induction xs with
 |nil=>rfl
 |cons x xs ih=>
   unfold flat at ih ⊢;rw[List.flatMap_cons,ih];rfl
theorem Tryz.infoStr:(prog.info? 9).map (fun i=>(i.zero,i.size,i.bytes))=some (some (.string ⟨#[]⟩),1,16):=by kernel_rfl
set_option maxHeartbeats 400000 in
theorem rH(s:ByteArray)(w:World)(i:Nat)(hi:Lib.indexByte s.data.toList 47=i)(hlt:i<s.size)(hmax:s.size<=1000000):
    Calls prog 278 #[.string s, .string ⟨#[47]⟩] w fun e w'=>e= .returned (.tuple #[.string (s.extract 0 i), .string (s.extract (i+1) s.size), .bool true])/\∃n,w'=w.drewN n:=by
 have HI:=Lib.hid hi;clear hi
 have h1:Calls prog 290 #[.string s, .string ⟨#[47]⟩] w fun e w'=>e= .returned (.tuple #[.string (s.extract 0 i), .string (s.extract (i+1) s.size), .bool true])/\∃n,w'=w.drewN n:=by
  go_enter Tryz.func290,Tryz.ntmps290
  go_wp2_with fail
  refine(VV _ _).mono ?_;rintro e w' ⟨rfl,rfl⟩;rw[HI.out]
  go_wp2_with fail
  go_quiet (fail)
  go_wp2
  go_ret3
  exact⟨rfl,_,rfl⟩
 go_enter Tryz.func278,Tryz.ntmps278
 go_wp2_with fail
 refine h1.mono ?_;rintro e w' ⟨rfl,n,rfl⟩
 go_wp2
 go_ret3
 exact⟨rfl,_,rfl⟩
set_option maxHeartbeats 400000 in
theorem rJ(s:ByteArray)(w:World)(hi:Lib.indexByte s.data.toList 47= -1):
    Calls prog 278 #[.string s, .string ⟨#[47]⟩] w fun e w'=>e= .returned (.tuple #[.string s, .string ⟨#[]⟩, .bool false])/\w=w':=by
 have HI:=Lib.hid hi;clear hi
 have h1:Calls prog 290 #[.string s, .string ⟨#[47]⟩] w fun e w'=>e= .returned (.tuple #[.string s, .string ⟨#[]⟩, .bool false])/\w=w':=by
  go_enter Tryz.func290,Tryz.ntmps290
  go_wp2_with fail
  refine(VV _ _).mono ?_;rintro e w' ⟨rfl,rfl⟩;rw[HI.out]
  go_wp2
  go_ret3
  exact⟨rfl,rfl⟩
 go_enter Tryz.func278,Tryz.ntmps278
 go_wp2_with fail
 refine h1.mono ?_;rintro e w' ⟨rfl,rfl⟩
 go_wp2
 go_ret3
 exact⟨rfl,rfl⟩
end
section
open Go.RowKit
open Go.Shelf
attribute [local go_sem] Oper.semAt_some
def rK(s:AD)(w:World)(e:Ending)(w':World):Prop:=∃(p q:AD) (b:Bool) (n:Nat),e= .returned (.tuple #[.string p, .string q, .bool b])/\w'=w.drewN n/\CJ s.data.toList=one_ p.data.toList++CJ q.data.toList/\(0<s.size->q.size<s.size)
theorem rL(s:ByteArray)(w:World)(hmax:s.size<=1000000):Calls prog 278 #[.string s, .string ⟨#[47]⟩] w (rK s w):=by
 by_cases h:(47:UInt8)∈s.data.toList
 ·obtain⟨i,hi,hlt,hl,hn⟩:=VW h;have hlt':i<s.size:=by rw[Lib.size_eq];exact hlt
  refine(rH s w i hi hlt' hmax).mono ?_;rintro e w' ⟨rfl,n,rfl⟩;refine⟨_,_,_,n,rfl,rfl,?_,fun _=>VZ s i hlt'⟩;rw[Lib.extract_data,Lib.extract_to_end];simp only[List.drop_zero,Nat.sub_zero]
  conv=>lhs;rw[hl]
  exact jS hn _
 refine(rJ s w (Zw h)).mono ?_;rintro e w' ⟨rfl,rfl⟩;refine⟨_,_,_,0,rfl,rfl,?_,fun h=>h⟩;rw[S4 h];simp[NC]
theorem rM(s:ByteArray)(w:World):
    Calls prog 261 #[.string s] w fun e w'=>
     e= .returned (.func (.func 277) #[] #[.pointer (some ⟨w.heap.size,0,none⟩)])/\w'=w.alloc (.cells #[.string s] 9):=by
 go_enter Tryz.func261,Tryz.ntmps261
 go_wp2
 go_ret
 exact⟨rfl,rfl⟩
theorem SS(s:ByteArray):s.toList.isEmpty=decide (s.size=0):=by
 rw[LJ,Lib.size_eq,Bool.eq_iff_iff,List.isEmpty_iff,decide_eq_true_iff,List.length_eq_zero_iff]
def rN(a:Nat)(X Y:World):Prop:=Y.heap[a]?=X.heap[a]?
set_option maxRecDepth 100000 in
set_option maxHeartbeats 1000000 in
theorem rO(n:Nat)(s:ByteArray)(hs:s.size<=1000000)(b0:Nat)(w:World)(h0:Boxed w b0 9 (.string s)):
    SeqW Fence.wide n prog 277 #[.pointer (some ⟨b0,0,none⟩)] (fun x:AD=>#[.string x]) (fun b=>b=b0) (rN b0) (fun xs=>Ex xs<+:CJ s.data.toList)
     (fun xs=>Ex xs=CJ s.data.toList) (fun pre=>Ex pre<+:CJ s.data.toList) w:=fun l J Jx W hW hJ hJx hY hst=>by
 have k0:Boxed W b0 9 (.string s):=BY h0 hW h0.lt;refine callsIn_of_wp Tryz.func277 rfl trivial ?_ rfl;simp only[Tryz.ntmps277,List.size_toArray,List.length_cons,List.length_nil,Nat.reduceAdd,Nat.reduceSub,Array.replicate_succ,Array.replicate_zero,List.push_toArray,List.append_toArray,List.nil_append,List.cons_append]
 gi_wp2
 gi_loopw [3] (fun _ wr=>∃(pre:List AD) (r:ByteArray),Boxed wr b0 9 (.string r)/\J pre wr/\Hid (Ex pre++CJ r.data.toList=CJ s.data.toList)/\r.size<=s.size) (fun _ wr=>SR wr b0)
 case atStart=>exact⟨[],s,k0,hst,rfl,As _⟩
 case round=>
  obtain⟨pre,r,m0,hj,hpre,hle⟩:=hrel;clear k0 hst;have c0:=m0.cell;have f0:=m0.frozen;by_cases hr:r.size=0
  ·have he:r.toList.isEmpty=true:=by rw[SS];simp[hr]
   have he':r.toList=[]:=List.isEmpty_iff.1 he;have HP:Hid (CJ r.data.toList=[]):=by rw[<-LJ,he'];exact Lib.hid NC
   gi_wp2
   go_end0
   exact⟨⟨_,rfl⟩, .inl ⟨pre,by rw[<-hpre.out,HP.out];simp,hj⟩⟩
  have he:r.toList.isEmpty=false:=by rw[SS];simp[hr]
  gi_wp2_with fail
  refine G4 ((callsIn_wide.2 (rL _ _ (by omega))).mono ?_);rintro e w' ⟨p,q,b,nd,rfl,rfl,hpq,hq⟩;have hql:=hq (by omega);have HP:=Lib.hid hpq;clear hpq hq;have hj':J pre ((wr.drewN nd).setCell ⟨b0,0,none⟩ (.string q)):=hJ _ _ _ (hJ _ _ _ hj (Moves.below (Rt (Below.refl _ _) nd))) (Moves.set_ (own:=fun b=>b=b0) _ rfl _);have m0':Boxed ((wr.drewN nd).setCell ⟨b0,0,none⟩ (.string q)) b0 9 (.string q):=Boxed.set _ (show Boxed (wr.drewN nd) b0 9 (.string r) from m0);by_cases hp:p.size=0
  ·have hpe:p.toList.isEmpty=true:=by rw[SS];simp[hp]
   have hpe':p.toList=[]:=List.isEmpty_iff.1 hpe;have HO:Hid (one_ p.data.toList=[]):=by rw[<-LJ,hpe'];exact Lib.hid rfl
   gi_wp2
   refine⟨fun _ h=>(by cases h),?_⟩
   gi_wp2
   go_roundw
   case rel=>exact⟨pre,q,m0',hj',Lib.hid (by rw[<-hpre.out,HP.out,HO.out];simp),by omega⟩
   case measure=>rw[P5 m0',P5 m0];exact hql
  have HO:Hid (one_ p.data.toList=[p.data.toList]):=Lib.hid (if_neg (fun e=>hp (by rw[Lib.size_eq,e];rfl)));have hpe:p.toList.isEmpty=false:=by rw[SS];simp[hp]
  obtain⟨fn,tmps,assign,body,hy,hR⟩:=hY pre p _ hj' (by rw[<-hpre.out,HP.out,HO.out];simp[Ex])
  gi_wp2
  refine⟨(fun h=>by cases h),hR.mono ?_⟩;rintro e W3 (⟨rfl,hJ3,hk3⟩|⟨rfl,hJx3⟩)
  ·have q0:Boxed W3 b0 9 (.string q):=hk3.trans m0';clear c0 f0 hy hR
   gi_wp2
   go_roundw
   case rel=>exact⟨pre++[p],q,q0,hJ3,Lib.hid (by rw[<-hpre.out,HP.out,HO.out];simp[Ex]),by omega⟩
   case measure=>rw[P5 q0,P5 m0];exact hql
  gi_wp2
  refine bodyPost_ret (results_none rfl _ _ _) rfl ?_;exact⟨⟨_,rfl⟩, .inr ⟨pre++[p],by rw[<-hpre.out,HP.out,HO.out];simp[Ex],hJx3⟩⟩
end
section
open Go.RowKit
open Go.Shelf
attribute [local go_sem] Oper.semAt_some
theorem Moves.row{own:Nat->Prop}{B:Nat}{X Y:World}(h:Moves own B X Y){base e size k:Nat}{v:Value}{xs:List Value}(hr:X.ownsRow base e size v k xs)(ho:∀b,own b->b<base):Y.ownsRow base e size v k xs:=by
 refine⟨hr.1,?_⟩;rcases hr.2 with h'|⟨g,cap,cur,hv,hg,hb,r⟩
 ·exact .inl h'
 refine .inr ⟨g,cap,cur,hv,hg,?_,r⟩;exact(h.block g (Array.getElem?_eq_some_iff.1 hb).1 (fun e=>by have:=ho g e;omega) (.inr ⟨_,hb,rfl⟩)).trans hb
theorem rP{W w1:World}{base B:Nat}{t e:TypeId}{size:Nat}{v v':Value}{k m:Nat}{xs ys:List Value}{tmp:Obj}
    (hv:Boxed W B t v) (hrow:W.ownsRow base e size v k xs) (hbase:base<=W.heap.size) (hB:B<base)
    (hown':w1.ownsRow base e size v' m ys) (hgrow:(W.alloc tmp).grownBy w1 v.ownBlock):
    Boxed w1 B t v/\Boxed (w1.setCell ⟨B,0,none⟩ v') B t v'/\(w1.setCell ⟨B,0,none⟩ v').ownsRow base e size v' m ys/\KeepsOthers W (w1.setCell ⟨B,0,none⟩ v')/\
     Below B W (w1.setCell ⟨B,0,none⟩ v')/\∀j,j<base->j≠B->(w1.setCell ⟨B,0,none⟩ v').heap[j]?=W.heap[j]?:=by
 have hne:∀j,j<base->some j≠v.ownBlock:=by
  intro j hj e;have:=World.ownsRow.lt hrow j e.symm;omega
 have hblk:∀j,j<base->w1.heap[j]?=W.heap[j]?:=fun j hj=>(hgrow.block j (by simp;omega) (hne j hj)).trans (Below.heap_alloc W tmp j (by omega));have hv1:Boxed w1 B t v:=(hblk B hB).trans hv;refine⟨hv1,hv1.set v',ownsRow_setCell_below hown' hB v',?_,?_,fun j hj hj'=>(Below.heap_setCell w1 ⟨B,0,none⟩ v' j hj').trans (hblk j hj)⟩
 ·refine((KeepsOthers.alloc W tmp).trans (KeepsOthers.of_grownBy hgrow fun j o ej hj=>?_)).trans (KeepsOthers.setCell _ _ _);rcases(hrow.alloc tmp).2 with⟨rfl,_⟩|⟨g,cap,cur,rfl,_,hgb,_⟩
  ·simp[Value.ownBlock]at ej
  obtain rfl:g=j:=by simpa[Value.ownBlock]using ej
  rw[hgb]at hj;cases hj;rfl
 have hs:=hgrow.size;simp at hs;exact⟨hgrow.os,hgrow.tape,hgrow.output,by simp[World.setCell];omega,fun j hj=>(Below.heap_setCell w1 ⟨B,0,none⟩ v' j (by show j≠B;omega)).trans (hblk j (by omega))⟩
def aM(l:Bs)(w:World)(e:Ending)(w':World):Prop:=∃(v:Value) (ss:List AD),e= .returned (.tuple #[v, .bool (decide (l.head?=some 47)), .bool (decide (l.getLast?=some 47))])/\Xs w' (U9 w w') v ss/\Ex ss=CJ l/\Below w.heap.size w w'/\∃A c,v= .slice A ss.length c/\c<=maxLen
set_option maxRecDepth 100000 in
set_option maxHeartbeats 2000000 in
theorem rQ(n:Nat)(hn:Hid (1<=n))(s:ByteArray)(w:World)(hs:s.size<=60000):
    CallsIn Fence.wide n prog 240 #[.string s] w (aM s.data.toList w):=by
 obtain⟨i0,hi,hz0,hz1,hz2⟩:=info_parts Tryz.infoStr;refine callsIn_of_wp_marks Tryz.func240 rfl trivial ?_ rfl;simp only[Tryz.ntmps240,List.size_toArray,List.length_cons,List.length_nil,Nat.reduceAdd,Nat.reduceSub,Array.replicate_succ,Array.replicate_zero,List.push_toArray,List.append_toArray,List.nil_append,List.cons_append]
 gi_wp2_with fail
 refine G4 ((callsIn_wide.2 (rM _ _)).mono ?_);rintro e w' ⟨rfl,rfl⟩
 gi_wp2_with fail
 obtain⟨WL,hWL⟩:∃WL,(w.alloc (.cells #[.slice none 0 0] 31)).alloc (.cells #[.string s] 9)=WL:=⟨_,rfl⟩;have hzL:WL.heap.size=w.heap.size+1+1:=by rw[<-hWL];simp
 have hBw:Below w.heap.size w WL:=by rw[<-hWL];exact M1 _ _ _
 have kR:Boxed WL w.heap.size 31 (.slice none 0 0):=by rw[<-hWL];exact MW _ _ _
 have k0:Boxed WL (w.heap.size+1) 9 (.string s):=by rw[<-hWL];exact MX _ _ _
 rw[hWL];have HZ:=Lib.hid hzL;clear hWL hzL
 refine YE rfl hn.out (gf:=277) rfl trivial (enters_of Tryz.func277 (by kernel_rfl) rfl)
  (rO (n - 1) s (by omega) (w.heap.size+1) WL k0)
  (fun b hb=>by have:=HZ.out;omega) (fun h k=>Eq.trans k h) (fun W l o o' hl _ _=>by have:=HZ.out;exact World.putObj_heap_other (by omega)) (Below.refl _ _) (fun _=>rfl)
  (fun pre W=>∃v,Boxed W w.heap.size 31 v/\W.ownsRow WL.heap.size 9 1 v pre.length (pre.map Value.string)/\Below w.heap.size w W)
  (fun _ _ _=>False)
  (fun s X Y h hm=>by
    obtain⟨v,h1,h2,h3⟩:=h;have:=HZ.out
    exact⟨v,hm.boxed h1 (by omega),hm.row h2 (fun b hb=>by omega),hm.under h3 (As _) (fun b hb=>by omega) (by omega)⟩)
  (fun _ _ _ _ h _=>h)
  ⟨_,kR,World.ownsRow_nil _ _ _ _,hBw⟩
  (fun x=>{tmps:=#[.string s,undef, .pointer (some ⟨w.heap.size,0,none⟩), .bool false, .bool false, .string x, .string s, .func (.func 277) #[] #[.pointer (some ⟨w.heap.size+1,0,none⟩)], .string x,undef,undef,undef,undef,undef,undef,undef,undef,undef],defers:=[]}) ?assign ?body ?done ?stop
 case assign=>
  intro l x W K hK
  gi_wp2
  exact hK
 case body=>
  rintro l pre x W ⟨v,hc,hrow,hbw⟩ hpf hsz;have hcell:=hc.cell;have HZW:=Lib.hid hsz
  have hpl:pre.length<=1000000:=by
   have h1:=hpf.length_le;have h2:=aL s.data.toList;rw[<-Lib.size_eq]at h2;simp[Ex]at h1;omega
  have hmx:pre.length+1<=maxLen:=by unfold maxLen;omega
  clear hsz hpf
  gi_wp2_with (gi_at_builtin;refine wpListIn_append_own _ rfl _ _ 31 rfl WL.heap.size 9 i0 (.string ⟨#[]⟩) 1 16 Tryz.underlying31 hi hz0 hz1 hz2 rfl (by decide) _ _ _ rfl (hrow.alloc _) ⟨W.heap.size,0,none⟩ 1 1 [.string x] rfl rfl (cell_one_new _ _ _) (by simp[Value.oneCell']) (by omega) (by omega) (by have:=HZW.out;simp;omega) ?_;intro v' w1 hown' hgrow _;obtain⟨g',cap',rfl⟩:=ownsRow_succ hown';obtain⟨hv1,hv2,hr2,hk2,ke,hj2⟩:=rP hc hrow (by have:=HZW.out;omega) (by have:=HZ.out;omega) hown' hgrow;have ka:=hv1.cell;have hf1:=hv1.frozen)
  have h1:=HZ.out;exact⟨hk2.from _,hj2 _ (by omega) (by omega),⟨_,hv2,by simpa using hr2,hbw.trans ke⟩⟩
 case done=>
  rintro D xs W hD hS ⟨v,hc,hrow,hbw⟩ hK;have HS:=Lib.hid hS;clear hS
  obtain⟨A,cc,rfl⟩:∃A c,v= .slice A xs.length c:=by
   rcases hrow.2 with⟨rfl,hn⟩|⟨g,cap,cur,rfl,_⟩
   ·exact⟨none,0,by rw[hn]⟩
   exact⟨_,_,rfl⟩
  have hccm:cc<=maxLen:=by
   rcases hrow.2 with⟨h1,_⟩|⟨g,cap,cur,h1,h2,h3,h4,h5,_⟩
   ·injection h1 with _ _ h1;rw[h1];exact BG _
   injection h1 with _ _ h1;rw[h1];exact h5
  have hcell:=hc.cell;have hfz:=hc.frozen
  gi_wp2_with fail
  refine wpIn_wide.2 ?_;refine wp_region_still_tail 5 (by kernel_rfl) (by kernel_rfl) ?_;simp only[List.take_succ_cons,List.take_zero,List.drop_succ_cons,List.drop_zero]
  still_step
  still_step
  still_call (Tryz.strings_HasPrefix _ _ _)
  still_step
  still_call (Tryz.strings_HasSuffix _ _ _ (by omega))
  refine wpStill_nil ?_;change wpList _ _ _ _ _ W.drew;have kc:Boxed W.drew w.heap.size 31 (.slice A xs.length cc):=hc;have hr2:W.drew.ownsRow WL.heap.size 9 1 (.slice A xs.length cc) xs.length (xs.map Value.string):=hrow;have ke:Below w.heap.size w W.drew:=hbw.drew;have hK2:W.drew.heap[D]?=some (.deferred (some [])):=hK;clear hc hrow hbw hK hcell hfz;generalize W.drew=W2 at *;have hcell:=kc.cell;have hfz:=kc.frozen
  go_wp2
  gi_wp2
  refine⟨by simp, .inl ⟨_,_,rfl,run_takeDeferred ((KeepsOthers.setCell _ _ _).same D _ hK2 rfl),?_⟩⟩;have h1:=HZ.out;have hcb:=(MZ (kc.set (.slice A xs.length cc)) (show w.heap.size≠D by omega) (.deferred none)).cell;refine⟨.tuple #[.slice A xs.length cc, .bool (Lib.hasPrefix s.data.toList [47]), .bool (Lib.hasSuffix s.data.toList [47])],by simp[results,Tryz.f240,go_sem,hcb], .slice A xs.length cc,xs,by rw[QZ,rF],?_,HS.out,O1 (ke.setCell (p:=⟨w.heap.size,0,none⟩) (As _) _) (by omega) _,A,cc,rfl,hccm⟩;have hrow':=ownsRow_putObj (ownsRow_setCell_below hr2 (a:=⟨w.heap.size,0,none⟩) (by show w.heap.size<_;omega) (.slice A xs.length cc)) (.deferred none) ((KeepsOthers.setCell _ _ _).same D _ hK2 rfl) rfl
  have hlen:xs.length<=few:=by
   have h2:=aL s.data.toList;rw[<-HS.out,<-Lib.size_eq]at h2;simp[Ex]at h2;unfold few;omega
  refine OwnL.list (sz:=1) (cell:=Pl) (E:=9) (base:=WL.heap.size) ?_ hlen (fun b hb hlt=>⟨by omega,hlt⟩);unfold OwnL;rw[rG];exact hrow'
 case stop=>
  rintro D c pre W hD hSp h hK;exact h.elim
theorem rR(s:ByteArray)(w:World)(hs:s.size<=60000):Calls prog 240 #[.string s] w (aM s.data.toList w):=
 callsIn_wide.1 (rQ 6 (Lib.hid (by omega)) s w hs)
end
section
open Go.RowKit
theorem rT{P:Program}{St:Nat->Nat->Prop}{w:World}(hst:∀b o,St b o->b<w.heap.size){T T' sz bytes:Nat}(hE:NX P T=some (T',sz,bytes))(hby:bytes<=100000){rows new:List (List AV)}{A:Option Addr}{cap:Nat}{y:Value}
    (hs:Ai St w (.sl sz rows none) (.slice A rows.length cap)) (hy:Ai St w (.sl sz new none) y) (hsm:rows.length+new.length<=1000000) (rt:TypeId):
    ∃(v':Value) (w':World) (N:Nat->Nat->Prop),(Builtin.append_ #[T,T] rt #[.slice A rows.length rows.length,y]).run P w= .ok v' w'/\Below w.heap.size w w'/\(∀b o,N b o->w.heap.size<=b/\b<w'.heap.size)/\Ai (fun b o=>St b o\/N b o) w' (.sl sz (rows++new) none) v':=by
 obtain⟨hu,inf,z,hinf,hz,hzs,hsz,hbts,hp⟩:=Gl hE;obtain⟨A',cap',vs,e1,e2,e3,e4,e5⟩:=OO hy;obtain⟨A0,cap0,us,f1,f2,f3,f4,f5⟩:=OO hs;injection f1 with f1a f1b f1c;subst f1a;by_cases h0:new=[]
 ·subst h0;refine⟨.slice A rows.length rows.length,w,fun _ _=>False,?_,Below.refl _ _,fun _ _ h=>h.elim,?_⟩
  ·rw[e1];rcases A' with _|ad<;>rcases A with _|ad0<;>simp[Builtin.append_,run_underlying hu,sizeOf,typeInfo,hinf,Builtin.lenOf,Builtin.firstCells,storeCells,loadCells,loadCellsFrom]
  rw[List.append_nil]
  have k:Ai St w (.sl sz rows none) (.slice A rows.length rows.length):=by
   simp only[Ai]at hs ⊢;obtain⟨_,B,c,h1,h2,h3,h4⟩:=hs;injection h1 with h1 _ _;subst h1;exact⟨trivial,_,_,rfl,As _,Nat.le_trans h2 h3,h4⟩
  exact JS (fun b o hb=>⟨.inl hb,rfl⟩) _ _ k
 obtain⟨b,off,q1,q2⟩:=e5 h0;subst q1;rw[e1];have hnl:0<new.length:=List.length_pos_iff.2 h0;have hnews:∀j u,vs[j]?=some u->w.cell? ((⟨b,off,none⟩:Addr).add j)=some u:=fun j u hj=>by rw[Addr.add_mid];exact q2 j u hj
 have hbt:(rows.length+new.length) * bytes<=140737488355328:=by
  have:(rows.length+new.length) * bytes<=1000000 * 100000:=Nat.mul_le_mul hsm hby;omega
 have key:∃v' w',(Builtin.append_ #[T,T] rt #[.slice A rows.length rows.length, .slice (some ⟨b,off,none⟩) new.length cap']).run P w= .ok v' w'/\w'.ownsRow w.heap.size T' sz v' (rows.length+new.length) (us++vs)/\w.grownBy w' none:=by
  by_cases hr0:rows=[]
  ·subst hr0;have hus:us=[]:=ER (by simpa using f4.1);subst hus;rcases A with _|ad
   ·obtain⟨v',w',r1,r2,r3,r4,r5⟩:=run_append_own_at (P:=P) w w.heap.size T rt T' inf z sz bytes hu hinf hz hsz hbts hzs hp (.slice none 0 0) 0 [] (World.ownsRow_nil w _ _ _) ⟨b,off,none⟩ new.length cap' vs (by rw[e4.1]) hnews e4.2.2.1 (by simp at hsm;unfold maxLen;omega) (by simpa using hbt) (As _);exact⟨v',w',by simpa using r1,by simpa using r2,by simpa[Value.ownBlock]using r3⟩
   obtain⟨v',w',r1,r2,r3⟩:=run_append_arg_grows (P:=P) w T rt T' inf z sz bytes hu hinf hz hsz hbts hzs hp ad 0 0 [] (by simp) (by simp) ⟨b,off,none⟩ new.length cap' vs (by rw[e4.1]) hnews (by omega) (by simp at hsm;unfold maxLen;omega) (by simpa using hbt);exact⟨v',w',by simpa using r1,by simpa using r2,r3⟩
  obtain⟨b0,off0,p1,p2⟩:=f5 hr0;subst p1;exact run_append_arg_grows (P:=P) w T rt T' inf z sz bytes hu hinf hz hsz hbts hzs hp ⟨b0,off0,none⟩ rows.length rows.length us (by rw[f4.1]) (fun j u hj=>by rw[Addr.add_mid];exact p2 j u hj) ⟨b,off,none⟩ new.length cap' vs (by rw[e4.1]) hnews (by omega) (by unfold maxLen;omega) hbt
 obtain⟨v',w',r1,r2,r3⟩:=key;have hbel:Below w.heap.size w w':=⟨r3.os,r3.tape,r3.output,r3.size,fun k hk=>r3.block k hk (by simp)⟩;have hlt:=World.ownsRow.lt r2;refine⟨v',w',fun b _=>v'.ownBlock=some b,r1,hbel,fun b o hb=>hlt b hb,?_⟩;have hflat:FlatR (fun b o=>St b o\/v'.ownBlock=some b) w' sz (rows++new) (us++vs):=(f4.append e4).mono fun b o hb=>⟨.inl hb,hbel.cell (p:=⟨b,o,none⟩) (hst b o hb)⟩;rcases r2.2 with⟨c1,c2⟩|⟨gb,cp,cur,c1,c2,c3,c4,c5,c6,c7⟩
 ·omega
 subst c1;simp only[Ai];refine⟨trivial,_,cp,by rw[List.length_append],by rw[List.length_append];exact c4,c5, .inr ⟨gb,0,rfl,hflat.froR fun j u hj=>⟨.inr rfl,?_⟩⟩⟩
 have hj2:j<(rows.length+new.length) * sz:=by
  have:=(AZ.1 hj).1
  rwa [r2.1]at this
 rw[Nat.zero_add];simp only[World.cell?,c3];rw[<-c7,List.getElem?_take,if_pos hj2,Array.getElem?_toList]at hj
 simpa using hj
theorem aO{a:Act}{d n:Nat}(v:Value)(hn:a.tmps.size=n)(hd:d<n):(a.put (some d) v).eval (.tmp d)=v:=by
 show(a.put (some d) v).tmps.getD d undef=v;simp[Act.put,hn,hd]
theorem rU{a:Act}{d t:Nat}(v:Value)(h:d≠t):(a.put (some d) v).eval (.tmp t)=a.eval (.tmp t):=by
 show(a.put (some d) v).tmps.getD t undef=a.tmps.getD t undef;simp[Act.put,Array.getElem?_setIfInBounds_ne h]
theorem rV{P:Program}{N:Dim}{ops:Array Oper}{Q:Exit->AS->Prop}{rest:List Oper}{l:List (Nat×AV)}{hh:AH}{d1 d2 d3:Nat}{ty1 ty2 ty3:TypeId}{pos1 pos2 pos3:String}{af1 af2 af3:Array Edge}{T:TypeId}{x hi mx y:Operand}{T' sz bytes:Nat}{rows new:List (List AV)}{tok tok':Option Nat}[hE:Elm P T T' sz bytes]{i j:Int}
    (h1:Nat.blt d1 N.n=true) (h2:Nat.blt d2 N.n=true) (h3:Nat.blt d3 N.n=true) (hne:Nat.beq d2 d1=false)
    (hx:CD (look l) x=some (.sl sz rows tok)) (hhi:CD (look l) hi=some (.v (.int .i64 i))) (hmx:CD (look l) mx=some (.v (.int .i64 j))) (hi':i=(rows.length:Int)) (hj':j=(rows.length:Int)) (hy:CD (look ((d1, .sl sz rows none)::l)) y=some (.sl sz new tok')) (hsm:rows.length+new.length<=1000000)
    (h:AL P N ops Q rest ⟨look ((d3, .sl sz (rows++new) none)::(d2, .sl sz new tok')::(d1, .sl sz rows none)::l),hh⟩):
    AL P N ops Q (⟨some d1, .slice T x none (some hi) (some mx),ty1,pos1,af1,none⟩::⟨some d2, .move y,ty2,pos2,af2,none⟩::⟨some d3, .call {callee:= .builtin .append,args:=#[.tmp d1, .tmp d2],argTypes:=#[T,T]},ty3,pos3,af3,none⟩::rest) ⟨look l,hh⟩:=by
 obtain⟨hu,inf,z,hinf,hz,hzs,hsz,hbts,hp⟩:=Gl hE.eq;intro E a w hr;obtain⟨G,g1,g2,g3,g4,g5⟩:=hr;have kx:=JT _ _ (g2.ev hx);have ki:=g2.ev hhi;have kj:=g2.ev hmx;simp only[DW]at kx;simp only[rep]at ki kj;subst hi' hj';obtain⟨A,cap,us,e1,e2,e3,e4,e5⟩:=OO kx;rw[e1]at kx;refine wpList_plain rfl fun K hK=>?_
 have run1:(execOp a.eval ⟨some d1, .slice T x none (some hi) (some mx),ty1,pos1,af1,none⟩).run P w= .ok (.value (.slice A rows.length rows.length)) w:=by
  have hA:Option.map (fun x:Addr=>x.add 0) A=A:=by cases A with
   |none=>rfl
   |some ad=>cases ad;rfl
  have e0:(if rows.length=0 then A else Option.map (fun x:Addr=>x.add 0) A)=A:=by rw[hA];split<;>rfl
  simp[execOp,e1,ki,kj,Instr.sliceAt,Instr.slice,Instr.sliceBounds,Instr.sliceBound,asIntOf,run_underlying hu,sizeOf,typeInfo,hinf,hsz,e2,hA]
 refine Ql (E:=E) (w:=w) (R:=fun x' h'=>x'= .v (.slice A rows.length rows.length)/\h'=hh) (G:=G) ?_ ?_
 ·rw[run1];exact⟨_,_,G,⟨rfl,rfl⟩,g1,Ext.refl G w,by simp only[rep]⟩
 rintro v1 w1 ⟨x1,h1',G1,⟨rfl,rfl⟩,k1,k2,k3⟩;simp only[rep]at k3;subst k3;have kx1:Ai G1.St w1 (.sl sz rows none) (.slice A rows.length cap):=JS k2.st _ _ kx
 have kn1:Ai G1.St w1 (.sl sz rows none) (.slice A rows.length rows.length):=by
  have:=kx1;simp only[Ai]at this ⊢;obtain⟨_,B,c,q1,q2,q3,q4⟩:=this;injection q1 with q1 _ _;subst q1;exact⟨trivial,_,_,rfl,As _,Nat.le_trans q2 q3,q4⟩
 obtain⟨s1,s2,s3⟩:=g2.put (d:=some d1) (x:= .sl sz rows none) k2 g3 h1 (KL _ _ kn1);apply hK;refine wpList_plain rfl fun K2 hK2=>?_;have ky:=s1.ev hy;refine Ql (E:=E) (R:=fun x' h'=>x'= .sl sz new tok'/\h'=h1') (G:=G1) (w:=w1) (r:= .ok (.value ((a.put (some d1) (.slice A rows.length rows.length)).eval y)) w1) ⟨_,_,G1,⟨rfl,rfl⟩,k1,Ext.refl G1 w1,ky⟩ ?_;rintro v2 w2 ⟨x2,h2',G2,⟨rfl,rfl⟩,m1,m2,m3⟩;obtain⟨t1,t2,t3⟩:=s1.put (d:=some d2) (x:= .sl sz new tok') m2 s2 h2 m3;have kn2:Ai G2.St w2 (.sl sz rows none) (.slice A rows.length rows.length):=JS m2.st _ _ kn1;have ky2:=JT _ _ m3;simp only[DW]at ky2;apply hK2;refine wpList_plain rfl fun K3 hK3=>?_;obtain⟨v',w',Nw,r1,r2,r3,r4⟩:=rT (P:=P) m1.stlt hE.eq hE.few kn2 ky2 hsm ty3;obtain⟨u1,u2⟩:=m1.grow r2 Nw r3;have hd12:d2≠d1:=fun e=>by rw[e,Nat.beq_refl]at hne;cases hne
 have q1:((a.put (some d1) (.slice A rows.length rows.length)).put (some d2) v2).eval (.tmp d1)= .slice A rows.length rows.length:=by
  rw[rU _ hd12];exact aO _ g3 (Bl h1)
 have q2:((a.put (some d1) (.slice A rows.length rows.length)).put (some d2) v2).eval (.tmp d2)=v2:=aO _ s2 (Bl h2);refine Ql (E:=E) (R:=fun x' h'=>x'= .sl sz (rows++new) none/\h'=h2') (G:=G2) (w:=w2) ?_ ?_
 ·simp only[execOp,resolve,invoke,builtin,Sem.run_bind,Sem.run_pure,Result.andThen_ok,List.map_toArray,List.map_cons,List.map_nil,q1,q2,r1];exact⟨_,_,_,⟨rfl,rfl⟩,u1,u2,KL _ _ r4⟩
 rintro v3 w3 ⟨x3,h3',G3,⟨rfl,rfl⟩,n1,n2,n3⟩;obtain⟨o1,o2,o3⟩:=t1.put (d:=some d3) (x:= .sl sz (rows++new) none) n2 t2 h3 n3;apply hK3;exact h E _ w3 ⟨G3,n1,o1,o2,o3.trans (t3.trans (s3.trans g4)),g5⟩
theorem aQ(s:AD)(hs:s.size<=60000):AFn prog 240 [.v (.string s)] (fun r=>r= .tup [.sl 1 ((Dc s).map Dy) none, .v (.bool (EB s)), .v (.bool (BM s))]):=by
 intro w St bl vs hr hv;have hbl:bl=[]:=by have:=hr.bxlen;simpa using this
 subst hbl;simp only[AN,rep]at hv;obtain⟨z,zs,rfl,rfl,rfl⟩:=hv;refine(rR s w hs).mono ?_;rintro e w' ⟨v,ss,rfl,hv,hp,hB,A,c,rfl,hc⟩;obtain rfl:=VL (ps:=ss) hp;obtain⟨k1,k2⟩:=hr.grow hB (fun b _=>U9 w w' b) (fun b _ hb=>hb);refine⟨_,_,_,_,⟨rfl,rfl,rfl⟩,k1,k2,?_⟩;simp only[rep,AN];refine⟨_,rfl,_,_,rfl,?_,_,_,rfl,rfl,_,_,rfl,rfl,rfl⟩;obtain⟨A',c',h1,h2,h3,h4⟩:=hv;injection h1 with h1 _ h1c;subst h1 h1c;simp only[Ai];refine⟨trivial,A,c,by rw[List.length_map],by rw[List.length_map];exact h2,hc,?_⟩;by_cases h0:(Dc s).length=0
 ·exact .inl (by rw[ER h0];rfl)
 obtain⟨b,off,rfl,hb,hcell⟩:=h4 (by omega);refine .inr ⟨b,off,rfl,PN fun i r hi=>?_⟩;rw[List.getElem?_map]at hi
 cases hy:(Dc s)[i]? with
 |none=>rw[hy]at hi;cases hi
 |some x=>
   rw[hy]at hi;injection hi with hi;subst hi;refine⟨rfl,OH fun j av hj=>?_⟩
   match j,hj with
   |0,hj=>
     injection hj with hj;subst hj;exact⟨.inr hb, .string x,hcell i x 0 hy (by omega),rfl,by simp only[Ai]⟩
   |j+1,hj=>simp[Dy]at hj
def KD(f:AR)(a:A8):Int:=match C5 f a with
 |none=>2
 |some n=>if n.kind=2 then 0 else 20
def Km(f:AR)(a:A8)(name:AD):A8×Bool:=match C5 f a with
 |none=>((0,0),false)
 |some n=>match n.entries.find? (fun e:BQ=>decide (e.1=name))with
   |none=>((0,0),false)
   |some e=>((a.1,e.2),true)
theorem rW{f:AR}{a:A8}{name:AD}(h:¬KD f a=0):AJ f a name=((0,0),KD f a):=by
 unfold KD at h ⊢;unfold AJ
 cases hn:C5 f a with
 |none=>rfl
 |some n=>
   simp only[hn]at h ⊢;by_cases hk:n.kind=2
   ·rw[if_pos hk]at h;exact absurd rfl h
   rw[if_neg hk,if_neg hk]
theorem rX{f:AR}{a:A8}{name:AD}(h:KD f a=0)(h2:(Km f a name).2=false):AJ f a name=((0,0),2):=by
 unfold KD at h;unfold Km at h2;unfold AJ
 cases hn:C5 f a with
 |none=>rfl
 |some n=>
   simp only[hn]at h h2 ⊢;by_cases hk:n.kind=2
   ·rw[if_pos hk]
    cases hf:n.entries.find? (fun e:BQ=>decide (e.1=name))with
    |none=>rfl
    |some e=>rw[hf]at h2;cases h2
   rw[if_neg hk]at h;exact absurd h (by decide)
theorem rY{f:AR}{a:A8}{name:AD}(h:KD f a=0)(h2:(Km f a name).2=true):AJ f a name=((Km f a name).1,0):=by
 unfold KD at h;unfold Km at h2 ⊢;unfold AJ
 cases hn:C5 f a with
 |none=>rw[hn]at h2;cases h2
 |some n=>
   simp only[hn]at h h2 ⊢;by_cases hk:n.kind=2
   ·rw[if_pos hk]
    cases hf:n.entries.find? (fun e:BQ=>decide (e.1=name))with
    |none=>rw[hf]at h2;cases h2
    |some e=>rfl
   rw[if_neg hk]at h;exact absurd h (by decide)
def GP(s:Spc)(fl:Bool)(w:Wk):List AV:=[.sl 2 (s.files.map CQ) none, .sl 3 (s.mounts.map Dm) none, .sl 1 (w.ps.map Dy) none, .v (.int .i64 w.at_.1), .v (.int .i64 w.at_.2), .v (.int .i64 w.dir.1), .v (.int .i64 w.dir.2), .v (.string w.name), .v (.bool w.missing), .v (.bool fl), .v (.int .i64 (w.links:Int))]
theorem aR(d m:AD)(hd:d.size<=1000000)(hm:m.size<=1000000):AFn prog 268 [.v (.string d), .v (.string m)] (fun r=>r= .v (.string (EN d m))):=
 Ra (us:=[.string d, .string m]) fun w=>(Z5 d m w hd hm).mono fun e w' h=>by
  obtain⟨h1,rfl⟩:=h;exact⟨h1,Below.refl _ _⟩
theorem rZ(t:AD):AFn prog 262 [.v (.string t), .v (.string ⟨#[47]⟩)] (fun r=>r= .v (.bool (EB t))):=
 Ra (us:=[.string t, .string ⟨#[47]⟩]) fun w=>(Tryz.strings_HasPrefix t ⟨#[47]⟩ w).mono fun e w' h=>by
  obtain⟨h1,rfl⟩:=h;refine⟨?_,Below.refl _ _⟩;rw[h1];unfold EB;rw[<-QZ]
section
theorem s6(f:AR)(a:A8)(hf:FlsB f):AFn prog 246 [.agg (Ap f), .agg (AB a)] (fun r=>r= .v (.int .i64 (KD f a))):=by
 refine enter Tryz.func246 rfl rfl rfl rfl rfl 0 rfl ?_;refine Hw (h:=C9 (h:=?_));refine A7 (AX (U4 f a hf) ?_);rintro r (⟨e,rfl⟩|⟨n,e,rfl⟩)
 ·refine Ay (h:=q_ (BF (Ab (h:=?_))));refine A7 (U5 (by kernel_rfl) rfl rfl ?_);refine Ay (h:=?_);refine A3 rfl (fun kd ka=>?_) (fun kd ka=>?_)
  ·refine BR (h:=?_);refine A4 ?_;rw[show KD f a=2 by simp only[KD,e]];rfl
  exact Cx
 skip
 refine Ay (h:=q_ (BF (Ab (h:=?_))));refine A7 (U6 (by kernel_rfl) rfl rfl ?_);refine Ay (h:=?_);refine A3 rfl (fun ke kc=>?_) (fun ke kc=>?_)
 ·exact Cx
 refine Ab (h:=k_ (h:=CG (h:=Ay (h:=?_))));refine A3 rfl (fun kh kf=>?_) (fun kh kf=>?_)
 ·refine BR (h:=?_);refine A4 ?_;rw[show KD f a=20 by simp only[KD,e];exact if_neg kf];rfl
 refine Fi (h:=?_);refine A4 ?_;rw[show KD f a=0 by simp only[KD,e];exact if_pos kf];rfl
theorem s7(f:AR)(a:A8)(name:AD)(hf:FlsB f):AFn prog 247 [.agg (Ap f), .agg (AB a), .v (.string name)] (fun r=>r= .tup [.agg (AB (Km f a name).1), .v (.bool (Km f a name).2)]):=by
 have hen:=Ph hf a;refine enter Tryz.func247 rfl rfl rfl rfl rfl 0 rfl ?_;refine Ef (h:=Ay (h:=C9 (h:=?_)));refine A7 (AX (U4 f a hf) ?_);rintro r (⟨e,rfl⟩|⟨n,e,rfl⟩)
 ·refine Du (h:=?_);refine A7 (U5 (by kernel_rfl) rfl rfl ?_);refine e_ (?_);refine A3 rfl (fun kd ka=>?_) (fun kd ka=>?_)
  ·refine Bj (h:=?_);refine A4 ?_;rw[show Km f a name=((0,0),false) by simp only[Km,e]];rfl
  exact Cx
 have hnl:n.entries.length<=1000:=by simpa[AY,e]using hen
 refine Du (h:=?_);refine A7 (U6 (by kernel_rfl) rfl rfl ?_);refine e_ (?_);refine A3 rfl (fun ke kc=>?_) (fun ke kc=>?_)
 ·exact Cx
 refine D5 (h:=k_ (h:=Gr (h:=m_ (h:=e_ (BF (?_))))));refine BL (fun m t=>∃j:Nat,j<=n.entries.length/\m=n.entries.length - j/\(∀i y,i<j->n.entries[i]?=some y->decide (y.1=name)=false)/\t=⟨look [(2, .v (.string name)),(4, .bp 1 0),(6, .bp 2 0),(20, .sl 2 (n.entries.map D6) none),(21, .v (.int .i64 ((n.entries.map D6).length:Int))),(22, .v (.int .i64 (j:Int)))],⟨[Ap f,AB a,[.v (.int .i64 0), .v (.int .i64 0)]],[]⟩⟩) (n.entries.length) ((wk 3 0)) (⟨0,by omega,rfl,fun i y hi=>by omega,rfl⟩) ?_;rintro m t ⟨j,hj,rfl,ha,rfl⟩;refine Fz (h:=?_);refine A3 rfl (fun kh kf=>?_) (fun kh kf=>?_)
 ·obtain⟨hlt,x,hy,ya, -⟩:=Bx D6 kf;refine Bq (h:=w_ (E6 (h:=CP (h:=F8 (h:=BO (h:=?_))))));refine A3 rfl (fun kl kg=>?_) (fun kl kg=>?_)
  ·refine H8 (h:=GR (h:=BE (h:=C1 (h:=?_))));refine A4 ?_;rw[show Km f a name=((a.1,x.2),true) by simp only[Km,e];rw[Lv hy (by simpa using kg) ha]];rfl
  refine Ej (h:=Aq (GV (h:=?_)));refine⟨_,_,?_,⟨j+1,by omega,rfl,GX hy ha (by simpa using kg),rfl⟩,(wk 3 0)⟩;omega
 have e3:=CA D6 hj kf;subst e3;refine C4 (h:=Gq (h:=BW (h:=?_)));refine A4 ?_;rw[show Km f a name=((0,0),false) by simp only[Km,e];rw[Lw ha]];rfl
theorem Va(f:AR)(a:A8)(name:AD)(hf:FlsB f):AFn prog 188 [.agg (Ap f), .agg (AB a), .v (.string name)] (fun r=>r= .tup [.agg (AB (AJ f a name).1), .v (.int .i64 (AJ f a name).2)]):=by
 refine enter Tryz.func188 rfl rfl rfl rfl rfl 0 rfl ?_;refine Ef (h:=Ay (h:=q_ (C9 (h:=?_))));refine AK (s6 f a hf) ?_;refine Gs (h:=?_);refine A3 rfl (fun kd ka=>?_) (fun kd ka=>?_)
 ·refine w_ (Jt (h:=?_));refine A4 ?_;rw[rW ka];rfl
 refine AG (J2 (h:=?_));refine AK (s7 f a name hf) ?_;refine HQ (h:=?_);refine A3 rfl (fun ke kc=>?_) (fun ke kc=>?_)
 ·refine Bj (h:=?_);refine A4 ?_;rw[rX ka (by simpa using kc)];rfl
 refine AG (Jp (h:=?_));refine A4 ?_;rw[rY ka (by simpa using kc)];rfl
theorem aS(s:Spc)(hs:SpcB s):AFn prog 241 [.agg (AQ s)] (fun r=>r= .agg (AB (GK s))):=by
 refine enter Tryz.func241 rfl rfl rfl rfl rfl 0 rfl ?_;refine E5 (h:=e_ (Bw (h:=Bd (h:=?_))));refine AK (U0 s (0,1) hs) ?_;refine GF (h:=BH (?_));refine A4 ?_;rfl
theorem Vb(s:Spc)(fl:Bool)(w:Wk)(hs:SpcB s):AFn prog 242 [.fp (GP s fl w)] (fun r=>r= .v (.bool (AU s.files w.at_))):=by
 have hde:=L5 s.files w.at_;refine enter Tryz.func242 rfl rfl rfl rfl rfl 0 rfl ?_;refine w_ (a_ (h:=e_ (q_ (BJ ([]) 16 (h:=AE 0 (h:=BA 1 (h:=AA 2 (h:=AA 3 (h:=A9 4 (h:=AE 5 (h:=BA 6 (h:=AA 7 (h:=A9 8 (h:=?_))))))))))))));refine Ed 9 13 rfl rfl ?_ ?_
 ·refine AX (Lz s.files w.at_ hs.files) ?_;rintro r rfl;refine o_ (h:=AE 10 (h:=B6 11 (h:=B6 12 (h:=?_))));refine c_ 13 rfl (Bn (by repeat constructor) ?_);refine o_ (h:=Ax 14 (h:=B8 15 (h:=z_ (h:=t_ (w_ (m_ (h:=m_ (h:=?_))))))));refine AF true rfl rfl (fun kd ka=>?_) (fun kd ka=>?_)
  ·refine D2 (h:=Eg (h:=?_));refine A4 ?_
   (rw[hde,kd];rfl)
  refine Hy (h:=?_);refine A4 ?_
  (rw[hde,kd];rfl)
 refine Bn (by repeat constructor) ?_;refine o_ (h:=c_ 9 rfl (AX (Lz s.files w.at_ hs.files) ?_));rintro r rfl;refine o_ (h:=AE 10 (h:=B6 11 (h:=B6 12 (h:=?_))));refine Ax 14 (h:=B8 15 (h:=z_ (h:=t_ (w_ (m_ (h:=m_ (h:=?_)))))));refine AF true rfl rfl (fun ke kc=>?_) (fun ke kc=>?_)
 ·refine D2 (h:=Eg (h:=?_));refine A4 ?_;rw[hde,ke];rfl
 refine Hy (h:=?_);refine A4 ?_;rw[hde,ke];rfl
theorem s8(s:Spc)(fl sl:Bool)(w:Wk)(hs:SpcN s)(hw:∀a,(Bv s a).1.size<=1000)(hn:w.name.size<=1000000):AFn prog 244 [.fp (GP s fl w), .v (.bool sl)] (fun r=>r= .agg (Ah (Kl s sl w))):=by
 refine enter Tryz.func244 rfl rfl rfl rfl rfl 0 rfl ?_;refine w_ (Ck (h:=e_ (q_ (BJ ([(0,Ah Ep)]) 17 (h:=AE 0 (h:=BA 1 (h:=AA 2 (h:=A9 3 (h:=AE 4 (h:=BA 5 (h:=AA 6 (h:=A9 7 (h:=AE 8 (h:=BA 9 (h:=AA 10 (h:=A9 11 (h:=gE 12 (h:=AE 13 (h:=Kz 14 (h:=?_))))))))))))))))))));refine c_ 15 rfl (Bn (by repeat constructor) ?_);refine o_ (h:=Ax 16 (h:=z_ (h:=t_ (q_ (w_ (m_ (h:=k_ (h:=f_ (h:=l_ (h:=Df (h:=e_ (?_))))))))))));refine A3 rfl (fun kd ka=>?_) (fun kd ka=>?_)
 ·refine q_ (BJ ([(0,Ah Ep)]) 12 (h:=AE 0 (h:=BA 1 (h:=AA 2 (h:=A9 3 (h:=AE 4 (h:=BA 5 (h:=AA 6 (h:=A9 7 (h:=AA 8 (h:=?_)))))))))));refine Ax 9 (h:=AA 10 (h:=?_));refine Ax 11 (h:=z_ (h:=t_ (q_ (BJ ([(0,Ah Ep)]) 12 (h:=AE 0 (h:=BA 1 (h:=AA 2 (h:=A9 3 (h:=AA 4 (h:=?_))))))))));refine c_ 5 rfl (KN rfl rfl rfl ?_);refine o_ (h:=c_ 6 rfl (AX (V7 hs w.at_) ?_));rintro r rfl;refine o_ (h:=AE 7 (h:=B6 8 (h:=B6 9 (h:=AA 10 (h:=?_)))));refine Ax 11 (h:=z_ (h:=t_ (w_ (l_ (h:=s_ (h:=e_ (BH (Bp (?_)))))))));refine A4 ?_;rw[show Kl s sl w=⟨w.at_,⟨#[]⟩,w.at_, !w.missing,sl,(Bv s w.at_).1⟩ from if_pos ka,ka];rfl
 refine DF (h:=e_ (?_));refine A3 rfl (fun ke kc=>?_) (fun ke kc=>?_)
 ·refine Aq (m_ (h:=k_ (h:=f_ (h:=l_ (h:=f_ (h:=s_ (h:=e_ (q_ (q_ (E0 12 (h:=AE 0 (h:=BA 1 (h:=AA 2 (h:=A9 3 (h:=AA 4 (h:=A9 5 (h:=?_)))))))))))))))));refine c_ 6 rfl (AX (V7 hs w.dir) ?_);rintro r rfl;refine o_ (h:=AE 7 (h:=B6 8 (h:=B6 9 (h:=B8 10 (h:=B8 11 (h:=z_ (h:=t_ (w_ (m_ (h:=e_ (?_)))))))))));refine A3 rfl (fun kh kf=>?_) (fun kh kf=>?_)
  ·refine BU (h:=Ac (h:=?_));refine AK (aR (Bv s w.dir).1 w.name (by have:=hw w.dir;omega) hn) ?_;refine Cg (h:=EX (h:=?_));refine A4 ?_;rw[show Kl s sl w=⟨w.dir,w.name,w.at_, !w.missing,sl,EN (Bv s w.dir).1 w.name⟩ by unfold Kl;rw[if_neg ka,if_neg (by simp[kc]),if_pos kf]];rfl
  refine AG (EX (h:=?_));refine A4 ?_;rw[show Kl s sl w=⟨w.dir,w.name,w.at_, !w.missing,sl,⟨#[]⟩⟩ by unfold Kl;rw[if_neg ka,if_neg (by simp[kc]),if_neg (by simp[kf])]];rfl
 refine AG (q_ (q_ (E0 12 (h:=AE 0 (h:=BA 1 (h:=AA 2 (h:=A9 3 (h:=AA 4 (h:=A9 5 (h:=?_))))))))));refine c_ 6 rfl (AX (V7 hs w.dir) ?_);rintro r rfl;refine o_ (h:=AE 7 (h:=B6 8 (h:=B6 9 (h:=B8 10 (h:=B8 11 (h:=z_ (h:=t_ (w_ (m_ (h:=e_ (?_)))))))))));refine A3 rfl (fun kl kg=>?_) (fun kl kg=>?_)
 ·refine BU (h:=Ac (h:=?_));refine AK (aR (Bv s w.dir).1 w.name (by have:=hw w.dir;omega) hn) ?_;refine Cg (h:=EX (h:=?_));refine A4 ?_;rw[show Kl s sl w=⟨w.dir,w.name,(0,0), !w.missing,sl,EN (Bv s w.dir).1 w.name⟩ by unfold Kl;rw[if_neg ka,if_pos (by simp[kc]),if_pos kg]];rfl
 refine AG (EX (h:=?_));refine A4 ?_;rw[show Kl s sl w=⟨w.dir,w.name,(0,0), !w.missing,sl,⟨#[]⟩⟩ by unfold Kl;rw[if_neg ka,if_pos (by simp[kc]),if_neg (by simp[kg])]];rfl
end
def ST(s:Spc)(tg:AD)(rest:List AD)(w:Wk):Wk:=⟨Dc tg++rest,if EB tg=true then GK s else w.at_,if EB tg=true then(0,0)else w.dir,if EB tg=true then⟨#[]⟩else w.name,w.missing,w.links+1⟩
theorem SU(s:Spc)(fl:Bool)(w:Wk):Af 0 0 (GP s fl w)=true:=rfl
section
theorem s9(s:Spc)(fl:Bool)(w:Wk)(tg:AD)(rest:List AD)(hs:SpcB s)(h8:w.links<=8)(htg:tg.size<=60000)(hrl:rest.length<=500000):RO prog 266 [.bp 0 0, .v (.string tg), .sl 1 (rest.map Dy) none] (GP s fl w) (fun r row'=>(w.links=8/\r= .v (.int .i64 40)/\row'=GP s fl w)\/(w.links≠8/\r= .v (.int .i64 0)/\row'=GP s fl (ST s tg rest w))):=by
 have hpl:=Ou tg;refine enter Tryz.func266 rfl rfl rfl rfl rfl 1 rfl ?_;refine GE (h:=k_ (h:=D2 (h:=e_ (?_))));refine A3 rfl (fun kd ka=>?_) (fun kd ka=>?_)
 ·refine BC (h:=?_);refine AO none (h5:=(A6 _)) (h6:=⟨_,rfl,rfl, .inl ⟨by omega,rfl,rfl⟩⟩)
 refine Ei (h:=k_ (h:=Ac (h:=?_)));refine A7 (NY rfl rfl (by omega) ?_);refine k_ (h:=Cg (h:=Ab (h:=?_)));refine AK (aQ tg htg) ?_;refine Ft (h:=x_ (h:=a_ (h:=a_ (h:=Cl (h:=Cp (h:=GU (h:=n_ (h:=?_))))))));refine rV rfl rfl rfl rfl rfl rfl rfl rfl rfl rfl (by simp;omega) ?_;refine k_ (h:=Cg (h:=Be (h:=?_)));refine AK (rZ tg) ?_;refine e_ (?_);refine A3 rfl (fun ke kc=>?_) (fun ke kc=>?_)
 ·refine BU (h:=Cp (h:=m_ (h:=k_ (h:=Ac (h:=?_)))));refine AK (aS s hs) ?_;refine Bd (h:=k_ (h:=Cy (h:=k_ (h:=Cy (h:=k_ (h:=Cg (h:=KT (h:=?_))))))));refine AO none (h5:=(A6 _)) (h6:=⟨_,rfl,rfl, .inr ⟨by omega,rfl,by simp only[GP,ST,if_pos kc,List.map_append];rfl⟩⟩)
 refine AG (KT (h:=?_));refine AO none (h5:=(A6 _)) (h6:=⟨_,rfl,rfl, .inr ⟨by omega,rfl,by simp only[GP,ST,kc,if_neg (show¬false=true by simp),List.map_append];rfl⟩⟩)
theorem sA(s:Spc)(fl:Bool)(w:Wk)(p:AD)(ps:List AD)(hps:w.ps=p::ps)(hs:SpcB s)(hv:SpcV s)(h8:w.links<=8)(hrl:ps.length<=500000):RO prog 243 [.bp 0 0] (GP s fl w) (fun r row'=>(∃e,GO s fl p ps w= .inl e/\e≠0/\r= .v (.int .i64 e)/\row'=GP s fl w)\/∃w',GO s fl p ps w= .inr w'/\r= .v (.int .i64 0)/\row'=GP s fl w'):=by
 obtain⟨ps0,a,dr,nm,mi,lk⟩:=w;simp only at hps h8;subst hps;have hml:(ps.map Dy).length=ps.length:=by simp
 have htg:=QK hv.files (AJ s.files a p).1;refine enter Tryz.func243 rfl rfl rfl rfl rfl 1 rfl ?_;refine w_ (a_ (h:=e_ (q_ (BJ ([(0,GP s fl ⟨p::ps,a,dr,nm,mi,lk⟩)]) 13 (h:=AE 0 (h:=BA 1 (h:=AA 2 (h:=A9 3 (h:=?_)))))))));refine CE 4 rfl (fun _ hS=>DM (n:=0) rfl rfl rfl rfl ⟨rfl,rfl⟩) ?_;refine A9 5 (h:=AE 6 (h:=BA 7 (h:=AA 8 (h:=A9 9 (h:=?_)))));refine CE 10 rfl (fun _ hS=>TK (l:=1) rfl rfl rfl (by simp) ⟨rfl,rfl⟩) ?_;refine B8 11 (h:=B8 12 (h:=z_ (h:=t_ (q_ (w_ (m_ (h:=?_)))))));refine A7 (DX 1 rfl (.cons _ _ _ _ _ rfl (A6 _) .nil) (Vb s fl ⟨p::ps,a,dr,nm,mi,lk⟩ hs) ?_);rintro r rfl;refine⟨rfl,?_⟩;refine CY (h:=?_);refine A3 rfl (fun kd ka=>?_) (fun kd ka=>?_)
 ·refine BC (h:=?_);refine AO none (h5:=(A6 _)) (h6:=⟨_,rfl,rfl, .inl ⟨20,by unfold GO;rw[if_pos ka],by decide,rfl,rfl⟩⟩)
 refine D5 (h:=Fx (h:=e_ (?_)));refine A3 rfl (fun ke kc=>?_) (fun ke kc=>?_)
 ·refine BC (h:=?_);refine AO none (h5:=(A6 _)) (h6:=⟨_,rfl,rfl, .inl ⟨36,by unfold GO;rw[if_neg (by simp[ka]),if_pos (by omega)],by decide,rfl,rfl⟩⟩)
 refine D5 (h:=e_ (BF (q_ (BF (q_ (BF (q_ (q_ (Az (h:=?_))))))))));refine A3 rfl (fun kh kf=>?_) (fun kh kf=>?_)
 ·refine C4 (h:=?_);refine OK (fun h=>∃x y,h.bx=[[.sl 2 (s.files.map CQ) none, .sl 3 (s.mounts.map Dm) none, .sl 1 ((p::ps).map Dy) none,x,y, .v (.int .i64 dr.1), .v (.int .i64 dr.2), .v (.string nm), .v (.bool mi), .v (.bool fl), .v (.int .i64 (lk:Int))]]) 18 (by kernel_rfl) ?_;refine Cw (i:=0) rfl rfl (by kernel_rfl) (by first|rfl|exact Ag rfl rfl (CM ‹_›)|exact Ag rfl rfl (CN ‹_›)|exact Ag rfl rfl (by simp[*])) (fun h0 hS=>JB rfl ⟨rfl,rfl⟩) ⟨_,_,rfl⟩ ?_;refine Cw (i:=1) rfl rfl (by kernel_rfl) (by first|rfl|exact Ag rfl rfl (CM ‹_›)|exact Ag rfl rfl (CN ‹_›)|exact Ag rfl rfl (by simp[*])) (fun h0 hS=>JB rfl ⟨rfl,rfl⟩) ⟨_,_,rfl⟩ ?_;refine Cw (i:=2) rfl rfl (by kernel_rfl) (by first|rfl|exact Ag rfl rfl (CM ‹_›)|exact Ag rfl rfl (CN ‹_›)|exact Ag rfl rfl (by simp[*])) (fun h0 hS=>Lo rfl ⟨rfl,rfl⟩) ⟨_,_,rfl⟩ ?_;refine Cw (i:=3) rfl rfl (by kernel_rfl) (by first|rfl|exact Ag rfl rfl (CM ‹_›)|exact Ag rfl rfl (CN ‹_›)|exact Ag rfl rfl (by simp[*])) (fun h0 hS=>H4 rfl ⟨rfl,rfl⟩) ⟨_,_,rfl⟩ ?_;refine Cw (i:=4) rfl rfl (by kernel_rfl) (by first|rfl|exact Ag rfl rfl (CM ‹_›)|exact Ag rfl rfl (CN ‹_›)|exact Ag rfl rfl (by simp[*])) (fun h0 hS=>by obtain⟨x,y,e⟩:=hS;exact KN (row:=[.sl 2 (s.files.map CQ) none, .sl 3 (s.mounts.map Dm) none, .sl 1 ((p::ps).map Dy) none,x,y, .v (.int .i64 dr.1), .v (.int .i64 dr.2), .v (.string nm), .v (.bool mi), .v (.bool fl), .v (.int .i64 (lk:Int))]) rfl (by rw[e];rfl) rfl (show _=AV.agg (AQ s)/\_ from⟨rfl,rfl⟩)) ⟨_,_,rfl⟩ ?_;refine Cw (i:=5) rfl rfl (by kernel_rfl) (by first|rfl|exact Ag rfl rfl (CM ‹_›)|exact Ag rfl rfl (CN ‹_›)|exact Ag rfl rfl (by simp[*])) (fun h0 hS=>JB rfl ⟨rfl,rfl⟩) ⟨_,_,rfl⟩ ?_;refine Cw (i:=6) rfl rfl (by kernel_rfl) (by first|rfl|exact Ag rfl rfl (CM ‹_›)|exact Ag rfl rfl (CN ‹_›)|exact Ag rfl rfl (by simp[*])) (fun h0 hS=>Lo rfl ⟨rfl,rfl⟩) ⟨_,_,rfl⟩ ?_;refine Cw (i:=7) rfl rfl (by kernel_rfl) (by first|rfl|exact Ag rfl rfl (CM ‹_›)|exact Ag rfl rfl (CN ‹_›)|exact Ag rfl rfl (by simp[*])) (fun h0 hS=>H4 rfl ⟨rfl,rfl⟩) ⟨_,_,rfl⟩ ?_;refine Cw (i:=8) rfl rfl (by kernel_rfl) (by first|rfl|exact Ag rfl rfl (CM ‹_›)|exact Ag rfl rfl (CN ‹_›)|exact Ag rfl rfl (by simp[*])) (fun h0 hS=>by obtain⟨x,y,e⟩:=hS;exact KN (row:=[.sl 2 (s.files.map CQ) none, .sl 3 (s.mounts.map Dm) none, .sl 1 ((p::ps).map Dy) none,x,y, .v (.int .i64 dr.1), .v (.int .i64 dr.2), .v (.string nm), .v (.bool mi), .v (.bool fl), .v (.int .i64 (lk:Int))]) rfl (by rw[e];rfl) rfl (show _=AV.agg (AQ s)/\_ from⟨rfl,rfl⟩)) ⟨_,_,rfl⟩ ?_;refine Cw (i:=9) rfl rfl (by kernel_rfl) (by first|rfl|exact Ag rfl rfl (CM ‹_›)|exact Ag rfl rfl (CN ‹_›)|exact Ag rfl rfl (by simp[*])) (fun h0 hS=>JB rfl ⟨rfl,rfl⟩) ⟨_,_,rfl⟩ ?_;refine Cw (i:=10) rfl rfl (by kernel_rfl) (by first|rfl|exact Ag rfl rfl (CM ‹_›)|exact Ag rfl rfl (CN ‹_›)|exact Ag rfl rfl (by simp[*])) (fun h0 hS=>Lo rfl ⟨rfl,rfl⟩) ⟨_,_,rfl⟩ ?_;refine Cw (i:=11) rfl rfl (by kernel_rfl) (by first|rfl|exact Ag rfl rfl (CM ‹_›)|exact Ag rfl rfl (CN ‹_›)|exact Ag rfl rfl (by simp[*])) (fun h0 hS=>H4 rfl ⟨rfl,rfl⟩) ⟨_,_,rfl⟩ ?_;refine c_ 12 rfl (KN rfl rfl rfl ?_);refine⟨.inr ⟨_,_,rfl⟩,?_⟩;refine c_ 13 rfl (AX (oV hs hv a) ?_);rintro r rfl;refine⟨.inr ⟨_,_,rfl⟩,?_⟩;refine c_ 14 rfl (AX (U0 s (FV s (s.mounts.length+1) a) hs) ?_);rintro r rfl;refine⟨.inr ⟨_,_,rfl⟩,?_⟩;refine Cw (i:=15) rfl rfl (by kernel_rfl) (by first|rfl|exact Ag rfl rfl (CM ‹_›)|exact Ag rfl rfl (CN ‹_›)|exact Ag rfl rfl (by simp[*])) (fun h0 hS=>Lo rfl ⟨rfl,rfl⟩) ⟨_,_,rfl⟩ ?_;refine Cw (i:=16) rfl rfl (by kernel_rfl) (by first|rfl|exact Ag rfl rfl (CM ‹_›)|exact Ag rfl rfl (CN ‹_›)|exact Ag rfl rfl (by simp[*])) (fun h0 hS=>H4 rfl ⟨rfl,rfl⟩) ⟨_,_,rfl⟩ ?_;refine H7 17 rfl (Es rfl rfl rfl rfl rfl rfl (by repeat constructor) (by repeat constructor) ?_);refine⟨.inr ⟨_,_,rfl⟩,?_⟩;refine z_ (h:=Bz (t_ (Be (h:=Cp (h:=m_ (h:=Bd (h:=k_ (h:=Cy (h:=k_ (h:=Cy (h:=k_ (h:=Cg (h:=KT (h:=?_))))))))))))));refine C1 (h:=?_);refine AO none (h5:=(A6 _)) (h6:=⟨_,rfl,rfl, .inr ⟨⟨ps,Dh s s.mounts.length (FV s (s.mounts.length+1) a),(0,0),⟨#[]⟩,mi,lk⟩,by unfold GO;rw[if_neg (by simp[ka]),if_neg (by omega),if_pos kf],rfl,rfl⟩⟩)
 refine AG (Az (h:=?_));refine A3 rfl (fun kl kg=>?_) (fun kl kg=>?_)
 ·refine Ll (H5 (PO rfl (H5 (Ku (t_ (q_ (w_ (m_ (h:=m_ (h:=m_ (h:=m_ (h:=Bd (h:=k_ (h:=f_ (h:=s_ (h:=k_ (h:=f_ (h:=s_ (h:=k_ (h:=f_ (h:=s_ (h:=e_ (w_ (?_))))))))))))))))))))))));refine FN (h:=DG (h:=?_));refine AO none (h5:=(A6 _)) (h6:=⟨_,rfl,rfl, .inr ⟨⟨ps,a,(0,0),⟨#[]⟩,mi,lk⟩,by unfold GO;rw[if_neg (by simp[ka]),if_neg (by omega),if_neg kf,if_pos kg],rfl,rfl⟩⟩)
 refine AG (Ll (PO rfl (H5 (PO rfl (H5 (Ku (t_ (q_ (w_ (m_ (h:=?_)))))))))));refine AK (qD p) ?_;refine CY (h:=?_);refine A3 rfl (fun ko kk=>?_) (fun ko kk=>?_)
 ·refine BC (h:=?_);refine AO none (h5:=(A6 _)) (h6:=⟨_,rfl,rfl, .inl ⟨2,by unfold GO;rw[if_neg (by simp[ka]),if_neg (by omega),if_neg kf,if_neg kg,if_pos kk],by decide,rfl,rfl⟩⟩)
 refine AG (?_);refine JW (⟨look [(0, .bp 0 0),(3, .v (.string p)),(4, .sl 1 (ps.map Dy) none),(5, .bp 1 0),(6, .v (.int .i64 (AJ s.files a p).2))],⟨[GP s fl ⟨p::ps,a,dr,nm,mi,lk⟩,AB (AJ s.files a p).1],[]⟩⟩) ?_ ?_
 ·refine BJ ([(0,GP s fl ⟨p::ps,a,dr,nm,mi,lk⟩)]) 17 (h:=AE 0 (h:=BA 1 (h:=AA 2 (h:=AA 3 (h:=A9 4 (h:=AE 5 (h:=BA 6 (h:=AA 7 (h:=A9 8 (h:=AE 9 (h:=?_)))))))))));refine Ed 10 14 rfl rfl ?_ ?_
  ·refine AX (Va s.files a p hs.files) ?_;rintro r rfl;refine o_ (h:=AE 11 (h:=B6 12 (h:=B6 13 (h:=?_))));refine c_ 14 rfl (Bn (by repeat constructor) ?_);refine o_ (h:=Ax 15 (h:=B8 16 (h:=z_ (h:=?_))));refine AT ?_;exact At 2 0 rfl rfl rfl rfl (by repeat (first|exact Sub.nil|refine Aw rfl rfl ?_|refine B3 ?_|refine B4 rfl ?_|refine B5 rfl ?_|(apply Sub.of;(focus exact rfl);(focus exact LeA.of_eq (vb (by rfl)));(focus exact rfl))))
  refine Bn (by repeat constructor) ?_;refine o_ (h:=c_ 10 rfl (AX (Va s.files a p hs.files) ?_));rintro r rfl;refine o_ (h:=AE 11 (h:=B6 12 (h:=B6 13 (h:=?_))));refine Ax 15 (h:=B8 16 (h:=z_ (h:=?_)));refine AT ?_;exact At 2 0 rfl rfl rfl rfl (by repeat (first|exact Sub.nil|refine Aw rfl rfl ?_|refine B3 ?_|refine B4 rfl ?_|refine B5 rfl ?_|(apply Sub.of;(focus exact rfl);(focus exact LeA.of_eq (vb (by rfl)));(focus exact rfl))))
 skip
 refine Be (h:=D3 (h:=?_));refine A3 rfl (fun kq km=>?_) (fun kq km=>?_)
 ·refine Be (h:=Fx (h:=e_ (?_)));refine A3 rfl (fun ks kp=>?_) (fun ks kp=>?_)
  ·have hps:ps≠[]:=fun e=>by rw[e]at hml kp;simp at kp
   refine BC (h:=Bp (?_));refine AO none (h5:=(A6 _)) (h6:=⟨_,rfl,rfl, .inl ⟨2,by unfold GO;rw[if_neg (by simp[ka]),if_neg (by omega),if_neg kf,if_neg kg,if_neg (by simp[kk]),if_pos km,if_pos hps],by decide,rfl,rfl⟩⟩)
  have hps:¬ps≠[]:=fun e=>e (ER (by omega));refine Ei (h:=Cp (h:=Cp (h:=m_ (h:=k_ (h:=Eu (h:=k_ (h:=Cy (h:=k_ (h:=Cy (h:=k_ (h:=Cy (h:=k_ (h:=Cy (h:=?_))))))))))))));refine e_ (BC (h:=?_));refine AO none (h5:=(A6 _)) (h6:=⟨_,rfl,rfl, .inr ⟨⟨ps,a,a,p,true,lk⟩,by unfold GO;rw[if_neg (by simp[ka]),if_neg (by omega),if_neg kf,if_neg kg,if_neg (by simp[kk]),if_pos km,if_neg hps],rfl,rfl⟩⟩)
 refine AG (?_);refine JW (⟨look [(0, .bp 0 0),(3, .v (.string p)),(4, .sl 1 (ps.map Dy) none),(5, .bp 1 0),(7, .bp 2 0)],⟨[GP s fl ⟨p::ps,a,dr,nm,mi,lk⟩,AB (AJ s.files a p).1,Al (AY s.files (AJ s.files a p).1)],[]⟩⟩) ?_ ?_
 ·refine BJ ([(0,GP s fl ⟨p::ps,a,dr,nm,mi,lk⟩),(1,AB (AJ s.files a p).1)]) 13 (h:=AE 0 (h:=BA 1 (h:=AA 2 (h:=AA 3 (h:=A9 4 (h:=A9 5 (h:=?_)))))));refine Ed 6 10 rfl rfl ?_ ?_
  ·refine AX (Lz s.files (AJ s.files a p).1 hs.files) ?_;rintro r rfl;refine o_ (h:=AE 7 (h:=B6 8 (h:=B6 9 (h:=?_))));refine c_ 10 rfl (Bn (by repeat constructor) ?_);refine o_ (h:=Ax 11 (h:=B8 12 (h:=z_ (h:=?_))));refine AT ?_;exact At 3 0 rfl rfl rfl rfl (by repeat (first|exact Sub.nil|refine Aw rfl rfl ?_|refine B3 ?_|refine B4 rfl ?_|refine B5 rfl ?_|(apply Sub.of;(focus exact rfl);(focus exact LeA.of_eq (vb (by rfl)));(focus exact rfl))))
  refine Bn (by repeat constructor) ?_;refine o_ (h:=c_ 6 rfl (AX (Lz s.files (AJ s.files a p).1 hs.files) ?_));rintro r rfl;refine o_ (h:=AE 7 (h:=B6 8 (h:=B6 9 (h:=?_))));refine Ax 11 (h:=B8 12 (h:=z_ (h:=?_)));refine AT ?_;exact At 3 0 rfl rfl rfl rfl (by repeat (first|exact Sub.nil|refine Aw rfl rfl ?_|refine B3 ?_|refine B4 rfl ?_|refine B5 rfl ?_|(apply Sub.of;(focus exact rfl);(focus exact LeA.of_eq (vb (by rfl)));(focus exact rfl))))
 skip
 refine q_ (?_);refine JW (⟨look [(0, .bp 0 0),(3, .v (.string p)),(4, .sl 1 (ps.map Dy) none),(5, .bp 1 0),(7, .bp 2 0),(122, .v (.bool (decide ((AY s.files (AJ s.files a p).1).kind=3)&&(decide (0<((ps.map Dy).length:Int))||fl))))],⟨[GP s fl ⟨p::ps,a,dr,nm,mi,lk⟩,AB (AJ s.files a p).1,Al (AY s.files (AJ s.files a p).1)],[]⟩⟩) ?_ ?_
 ·refine Aq (Ju (h:=?_));refine AF true rfl rfl (fun kt kr=>?_) (fun kt kr=>?_)
  ·refine m_ (h:=Fx (h:=m_ (h:=?_)));refine AF false rfl rfl (fun kv ku=>?_) (fun kv ku=>?_)
   ·refine GB (h:=J0 (h:=?_));exact At 3 0 rfl rfl rfl rfl (by repeat (first|exact Sub.nil|refine Aw rfl rfl ?_|refine B3 ?_|refine B4 rfl ?_|refine B5 rfl ?_|(apply Sub.of;(focus exact rfl);(focus exact LeA.of_eq (vb (by first|(rw[kt];rfl)|(rw[kt,kv];rfl))));(focus exact rfl))))
   refine m_ (h:=k_ (h:=Ac (h:=C3 (h:=J0 (h:=?_)))));exact At 3 0 rfl rfl rfl rfl (by repeat (first|exact Sub.nil|refine Aw rfl rfl ?_|refine B3 ?_|refine B4 rfl ?_|refine B5 rfl ?_|(apply Sub.of;(focus exact rfl);(focus exact LeA.of_eq (vb (by first|(rw[kt];rfl)|(rw[kt,kv];rfl))));(focus exact rfl))))
  refine Hu (h:=Gp (h:=DT (h:=F9 (h:=?_))));exact At 3 0 rfl rfl rfl rfl (by repeat (first|exact Sub.nil|refine Aw rfl rfl ?_|refine B3 ?_|refine B4 rfl ?_|refine B5 rfl ?_|(apply Sub.of;(focus exact rfl);(focus exact LeA.of_eq (vb (by first|(rw[kt];rfl)|(rw[kt,kv];rfl))));(focus exact rfl))))
 skip
 refine A3 rfl (fun yf yb=>?_) (fun yf yb=>?_)
 ·have hlk:(AY s.files (AJ s.files a p).1).kind=3/\(ps≠[]\/fl=true):=by
   simp only[Bool.and_eq_true,Bool.or_eq_true,decide_eq_true_eq]at yb;exact⟨yb.1,yb.2.imp (fun h e=>by rw[e]at h;simp at h) id⟩
  refine Ab (h:=Eu (h:=?_));refine A7 (TS 0 rfl (by repeat (first|exact ArgsB.nil|refine ArgsB.cons _ _ _ _ _ rfl rfl ?_)) rfl rfl (s9 s fl ⟨p::ps,a,dr,nm,mi,lk⟩ (AY s.files (AJ s.files a p).1).target ps hs h8 (by omega) hrl) ?_);rintro r row2 (⟨h9,rfl,rfl⟩|⟨h9,rfl,rfl⟩)
  ·refine⟨SU _ _ _,rfl,_,(by repeat constructor),?_⟩;refine FN (h:=?_);refine AO none (h5:=(A6 _)) (h6:=⟨_,rfl,rfl, .inl ⟨40,by unfold GO;rw[if_neg (by simp[ka]),if_neg (by omega),if_neg kf,if_neg kg,if_neg (by simp[kk]),if_neg (by simp[km]),if_pos hlk,if_pos h9],by decide,rfl,rfl⟩⟩)
  refine⟨SU _ _ _,rfl,_,(by repeat constructor),?_⟩;refine FN (h:=?_);refine AO none (h5:=(A6 _)) (h6:=⟨_,rfl,rfl, .inr ⟨ST s (AY s.files (AJ s.files a p).1).target ps ⟨p::ps,a,dr,nm,mi,lk⟩,by unfold GO;rw[if_neg (by simp[ka]),if_neg (by omega),if_neg kf,if_neg kg,if_neg (by simp[kk]),if_neg (by simp[km]),if_pos hlk,if_neg h9];rfl,rfl,rfl⟩⟩)
 have hlk:¬((AY s.files (AJ s.files a p).1).kind=3/\(ps≠[]\/fl=true)):=fun h=>by
  rw[decide_eq_true h.1,Bool.true_and,Bool.or_eq_false_iff]at yb;rcases h.2 with e|e
  ·exact e (ER (by have:=of_decide_eq_false yb.1;omega))
  rw[yb.2]at e;cases e
 refine Ei (h:=Cp (h:=Cp (h:=k_ (h:=Eu (h:=k_ (h:=Cy (h:=k_ (h:=Cy (h:=k_ (h:=Cg (h:=q_ (?_))))))))))));refine OK (fun h=>∃x y r,h.bx=[[.sl 2 (s.files.map CQ) none, .sl 3 (s.mounts.map Dm) none, .sl 1 (ps.map Dy) none,x,y, .v (.int .i64 a.1), .v (.int .i64 a.2), .v (.string p), .v (.bool mi), .v (.bool fl), .v (.int .i64 (lk:Int))],AB (AJ s.files a p).1]++r) 10 (by kernel_rfl) ?_;refine Cw (i:=0) rfl rfl (by kernel_rfl) (by first|rfl|exact Ag rfl rfl (CM ‹_›)|exact Ag rfl rfl (CN ‹_›)|exact Ag rfl rfl (by simp[*])) (fun h0 hS=>JB rfl ⟨rfl,rfl⟩) ⟨_,_,_,rfl⟩ ?_;refine Cw (i:=1) rfl rfl (by kernel_rfl) (by first|rfl|exact Ag rfl rfl (CM ‹_›)|exact Ag rfl rfl (CN ‹_›)|exact Ag rfl rfl (by simp[*])) (fun h0 hS=>JB rfl ⟨rfl,rfl⟩) ⟨_,_,_,rfl⟩ ?_;refine Cw (i:=2) rfl rfl (by kernel_rfl) (by first|rfl|exact Ag rfl rfl (CM ‹_›)|exact Ag rfl rfl (CN ‹_›)|exact Ag rfl rfl (by simp[*])) (fun h0 hS=>Lo rfl ⟨rfl,rfl⟩) ⟨_,_,_,rfl⟩ ?_;refine Cw (i:=3) rfl rfl (by kernel_rfl) (by first|rfl|exact Ag rfl rfl (CM ‹_›)|exact Ag rfl rfl (CN ‹_›)|exact Ag rfl rfl (by simp[*])) (fun h0 hS=>H4 rfl ⟨rfl,rfl⟩) ⟨_,_,_,rfl⟩ ?_;refine Cw (i:=4) rfl rfl (by kernel_rfl) (by first|rfl|exact Ag rfl rfl (CM ‹_›)|exact Ag rfl rfl (CN ‹_›)|exact Ag rfl rfl (by simp[*])) (fun h0 hS=>by obtain⟨x,y,r,e⟩:=hS;exact KN (row:=[.sl 2 (s.files.map CQ) none, .sl 3 (s.mounts.map Dm) none, .sl 1 (ps.map Dy) none,x,y, .v (.int .i64 a.1), .v (.int .i64 a.2), .v (.string p), .v (.bool mi), .v (.bool fl), .v (.int .i64 (lk:Int))]) rfl (by rw[e];rfl) rfl (show _=AV.agg (AQ s)/\_ from⟨rfl,rfl⟩)) ⟨_,_,_,rfl⟩ ?_;refine Cw (i:=5) rfl rfl (by kernel_rfl) (by first|rfl|exact Ag rfl rfl (CM ‹_›)|exact Ag rfl rfl (CN ‹_›)|exact Ag rfl rfl (by simp[*])) (fun h0 hS=>by obtain⟨x,y,r,e⟩:=hS;exact Kv (row:=AB (AJ s.files a p).1) rfl (by rw[e];rfl) rfl ⟨rfl,rfl⟩) ⟨_,_,_,rfl⟩ ?_;refine c_ 6 rfl (AX (U0 s (AJ s.files a p).1 hs) ?_);rintro r rfl;refine⟨.inr ⟨_,_,_,rfl⟩,?_⟩;refine Cw (i:=7) rfl rfl (by kernel_rfl) (by first|rfl|exact Ag rfl rfl (CM ‹_›)|exact Ag rfl rfl (CN ‹_›)|exact Ag rfl rfl (by simp[*])) (fun h0 hS=>Lo rfl ⟨rfl,rfl⟩) ⟨_,_,_,rfl⟩ ?_;refine Cw (i:=8) rfl rfl (by kernel_rfl) (by first|rfl|exact Ag rfl rfl (CM ‹_›)|exact Ag rfl rfl (CN ‹_›)|exact Ag rfl rfl (by simp[*])) (fun h0 hS=>H4 rfl ⟨rfl,rfl⟩) ⟨_,_,_,rfl⟩ ?_;refine H7 9 rfl (Es rfl rfl rfl rfl rfl rfl (by repeat constructor) (by repeat constructor) ?_);refine⟨.inr ⟨_,_,_,rfl⟩,?_⟩;refine z_ (h:=Pg (h:=?_));refine AO none (h5:=(A6 _)) (h6:=⟨_,rfl,rfl, .inr ⟨⟨ps,Dh s s.mounts.length (AJ s.files a p).1,a,p,mi,lk⟩,by unfold GO;rw[if_neg (by simp[ka]),if_neg (by omega),if_neg kf,if_neg kg,if_neg (by simp[kk]),if_neg (by simp[km]),if_neg hlk],rfl,rfl⟩⟩)
end
theorem sB{s:Spc}(hv:SpcV s):AU s.files (GK s)=true:=(VK ((aG hv _).1 (qM hv (qJ hv (ZY hv (Int.le_refl 0) (by have:=hv.pos;omega))))).1.1).1
theorem sC{s:Spc}(fl:Bool){p:AD}{ps:List AD}{w w':Wk}(hn:w.name.size<=12)(h:GO s fl p ps w= .inr w'):w'.name.size<=12:=by
 unfold GO at h;split at h
 ·cases h
 split at h
 ·cases h
 rename_i h2;split at h
 ·injection h with h;subst h;exact BG _
 split at h
 ·injection h with h;subst h;exact BG _
 split at h
 ·cases h
 split at h
 ·split at h
  ·cases h
  injection h with h;subst h;exact Nat.le_of_not_lt h2
 split at h
 ·split at h
  ·cases h
  injection h with h;subst h;show ByteArray.size (if _ then _ else _)<=12;split
  ·exact BG _
  exact hn
 injection h with h;subst h;exact Nat.le_of_not_lt h2
theorem Vc{s:Spc}(hv:FlsV s.files)(fl:Bool){p:AD}{ps:List AD}{w w':Wk}(hl:w.links<=8)(h:GO s fl p ps w= .inr w'):w'.links<=8/\(8 - w'.links) * 200+w'.ps.length<(8 - w.links) * 200+(ps.length+1):=by
 unfold GO at h;split at h
 ·cases h
 split at h
 ·cases h
 split at h
 ·injection h with h;subst h;exact⟨hl,by simp only;omega⟩
 split at h
 ·injection h with h;subst h;exact⟨hl,by simp only;omega⟩
 split at h
 ·cases h
 split at h
 ·split at h
  ·cases h
  injection h with h;subst h;exact⟨hl,by simp only;omega⟩
 split at h
 ·split at h
  ·cases h
  rename_i h9;injection h with h;subst h;have ht:=QK hv (AJ s.files w.at_ p).1;have hs:=Ou (AY s.files (AJ s.files w.at_ p).1).target;refine⟨by simp only;omega,?_⟩;simp only[List.length_append]
  have:(8 - w.links) * 200=(8 - (w.links+1)) * 200+200:=by
   rw[show 8 - w.links=(8 - (w.links+1))+1 by omega,Nat.add_mul]
  omega
 injection h with h;subst h;exact⟨hl,by simp only;omega⟩
theorem aT{s:Spc}{start:A8}{p:AD}{fl:Bool}(h1:¬p=⟨#[]⟩)(h2:128<p.size):CW s start p fl=(Ep,36):=by unfold CW;rw[if_neg h1,if_pos h2]
section
variable {s:Spc}{start a:A8}{p:AD}{fl:Bool}(h1:¬p=⟨#[]⟩)(h2:¬128<p.size)(ha:(if EB p=true then GK s else start)=a)
include h1 h2 ha
theorem aU(hd:AU s.files a=false):CW s start p fl=(Ep,2):=by
 unfold CW;rw[if_neg h1,if_neg h2,ha,if_pos hd]
variable (hd:AU s.files a=true)
include hd
theorem P6{e:Int}{τ:Lk}(h:Fn s (fl||BM p) (Kc (Dc p) a)=(e,τ))(he:e≠0):CW s start p fl=(Ep,e):=by
 unfold CW;rw[if_neg h1,if_neg h2,ha,if_neg (by simp[hd]),h,if_pos he]
theorem aV{τ:Lk}(h:Fn s (fl||BM p) (Kc (Dc p) a)=(0,τ))(hs:BM p=true/\τ.ex=true/\AU s.files τ.file=false):CW s start p fl=(Ep,20):=by
 unfold CW;rw[if_neg h1,if_neg h2,ha,if_neg (by simp[hd]),h,if_neg (by simp),if_pos hs]
theorem SV{τ:Lk}(h:Fn s (fl||BM p) (Kc (Dc p) a)=(0,τ))(hs:¬(BM p=true/\τ.ex=true/\AU s.files τ.file=false)):CW s start p fl=(Ld s (BM p) τ,0):=by
 unfold CW;rw[if_neg h1,if_neg h2,ha,if_neg (by simp[hd]),h,if_neg (by simp),if_neg hs]
end
theorem sD(ps:List AD)(a d:A8)(hd:ps=[]->True):Sim ⟨ps,a,d,⟨#[]⟩,false,0⟩ (Kc ps a):=by
 have _:=hd;exact⟨rfl,rfl,rfl,fun _=>rfl,fun h=>(by cases h),fun _ _=>⟨fun _=>⟨rfl,rfl⟩,fun h=>absurd rfl h⟩⟩
def SW(s:Spc)(F:Bool)(σ0:Lk)(w:Wk):Prop:=w.links<=8/\w.name.size<=12/\∃σ,Sim w σ/\Fn s F σ=Fn s F σ0
theorem aW{s:Spc}(hv:SpcV s){F:Bool}{σ0:Lk}{w:Wk}{p:AD}{ps:List AD}(hps:w.ps=p::ps)(h:SW s F σ0 w):(∀e,GO s F p ps w= .inl e->Fn s F σ0=(e,SM))/\∀w',GO s F p ps w= .inr w'->SW s F σ0 w':=by
 obtain⟨h8,hn,σ,hS,hT⟩:=h
 have hm:w.missing=false:=by
  cases hm:w.missing with
  |false=>rfl
  |true=>have:=(hS.gone hm).2.1;rw[hps]at this;cases this
 have h8σ:σ.links<=8:=by rw[<-hS.links];exact h8
 have hc:=Zb hv.files (fl:=F) h8σ (hS.ps.symm.trans hps);rcases qW hv F (p:=p) (ps:=ps) hS hm with⟨e,q1,q2⟩|⟨w1,τ,q1,q2,q3⟩
 ·refine⟨fun e' he=>?_,fun w' hw=>by rw[q1]at hw;cases hw⟩;rw[q1]at he;injection he with he;subst he;rw[<-hT,hc,q2]
 refine⟨fun e' he=>by(rw[q1]at he;cases he),fun w' hw=>?_⟩;have k1:=Vc hv.files F h8 hw;have k2:=sC F hn hw;rw[q1]at hw;injection hw with hw;subst hw;refine⟨k1.1,k2,τ,q3,?_⟩;rw[<-hT,hc,q2]
theorem sE{s:Spc}(hv:SpcV s){F:Bool}{σ0:Lk}{w:Wk}(hps:w.ps=[])(h:SW s F σ0 w):∃σ,Fn s F σ0=(0,σ)/\σ.ex= !w.missing/\(w.missing=false->σ.file=w.at_)/\∀sl,Kl s sl w=Ld s sl σ:=by
 obtain⟨h8,hn,σ,hS,hT⟩:=h;exact⟨σ,by rw[<-hT];exact VN (hS.ps.symm.trans hps),hS.ex,fun hm=>(hS.here hm).symm,fun sl=>qX hv hS hps⟩
section
theorem sF(s:Spc)(start:A8)(p:AD)(fl:Bool)(hs:SpcN s)(hv:SpcV s)(hp:p.size<=1000000):AFn prog 184 [.agg (AQ s), .agg (AB start), .v (.string p), .v (.bool fl)] (fun r=>r= .tup [.agg (Ah (CW s start p fl).1), .v (.int .i64 (CW s start p fl).2)]):=by
 have hw:=VF hv;have hri:=sB hv;refine enter Tryz.func184 rfl rfl rfl rfl rfl 0 rfl ?_;refine Ef (h:=Ay (h:=q_ (BF (Ab (h:=Et (h:=?_))))));refine A3 rfl (fun kd ka=>?_) (fun kd ka=>?_)
 ·refine Gq (h:=BE (h:=?_));refine A4 ?_;rw[show CW s start p fl=(Ep,2) from if_pos ka];rfl
 refine Ab (h:=Fx (h:=Ay (h:=?_)));refine A3 rfl (fun ke kc=>?_) (fun ke kc=>?_)
 ·refine Gq (h:=BE (h:=?_));refine A4 ?_;rw[aT ka (by omega)];rfl
 refine Ej (h:=Ab (h:=?_));refine AK (aQ p (by omega)) ?_;refine Ft (h:=x_ (h:=a_ (h:=a_ (h:=Ay (h:=?_)))));refine BD (fun t=>t=⟨look [(2, .v (.string p)),(4, .bp 0 0),(5, .bp 1 0),(8, .bp 2 0),(11, .v (.bool (EB p))),(12, .v (.bool (BM p))),(13, .bp 3 0)],⟨[AQ s,AB start,Ah Ep,GP s (fl||BM p) ⟨Dc p,start,(0,0),⟨#[]⟩,false,0⟩],[]⟩⟩) ?_ ?_
 ·refine Aq (GD (h:=l_ (h:=Cp (h:=?_))));refine AF false rfl rfl (fun kh kf=>?_) (fun kh kf=>?_)
  ·refine DT (h:=Bm (h:=Bd (h:=Lt (h:=FP (h:=?_)))))
   (rw[kh];exact⟨_,rfl,(wk 4 0)⟩)
  refine m_ (h:=C3 (h:=Bd (h:=Lt (h:=FP (h:=?_)))))
  (rw[kh];exact⟨_,rfl,(wk 4 0)⟩)
 rintro t rfl;refine BD (fun t=>∃a,(if EB p=true then GK s else start)=a/\AU s.files a=true/\t=⟨look [(4, .bp 0 0),(8, .bp 2 0),(12, .v (.bool (BM p))),(13, .bp 3 0)],⟨[AQ s,AB start,Ah Ep,GP s (fl||BM p) ⟨Dc p,a,(0,0),⟨#[]⟩,false,0⟩],[]⟩⟩) ?_ ?_
 ·refine Ab (h:=e_ (?_));refine A3 rfl (fun kl kg=>?_) (fun kl kg=>?_)
  ·refine Aq (l_ (h:=?_));refine AK (aS s hs.b) ?_;refine Jf (h:=?_);exact⟨_,⟨GK s,if_pos kg,hri,rfl⟩,(wk 4 0)⟩
  refine w_ (?_);refine A7 (DX 1 rfl (.cons _ _ _ _ _ rfl (A6 _) .nil) (Vb s (fl||BM p) ⟨Dc p,start,(0,0),⟨#[]⟩,false,0⟩ hs.b) ?_);rintro r rfl;refine⟨rfl,?_⟩;refine CY (h:=?_);refine A3 rfl (fun ko kk=>?_) (fun ko kk=>?_)
  ·refine Bj (h:=?_);refine A4 ?_;rw[aU ka (by omega) (if_neg (by simp[kg])) (by simpa using kk)];rfl
  refine Ci (AT (?_));exact⟨_,⟨start,if_neg (by simp[kg]),by simpa using kk,rfl⟩,(wk 4 0)⟩
 rintro t ⟨a,ha,had,rfl⟩;refine q_ (BF (?_));refine BL (fun m t=>∃w,SW s (fl||BM p) (Kc (Dc p) a) w/\m=(8 - w.links) * 200+w.ps.length/\m<=1600+(p.size+1)/\t=⟨look [(4, .bp 0 0),(8, .bp 2 0),(12, .v (.bool (BM p))),(13, .bp 3 0)],⟨[AQ s,AB start,Ah Ep,GP s (fl||BM p) w],[]⟩⟩) ((8 - 0) * 200+(Dc p).length) ((wk 4 0)) (⟨_,⟨BG _,BG _,_,sD (Dc p) a (0,0) (fun _=>trivial),rfl⟩,rfl,by have:=Ou p;omega,rfl⟩) ?_;rintro m t ⟨w,hR,rfl,hm,rfl⟩;have hml:(w.ps.map Dy).length=w.ps.length:=by simp
 refine Fu (h:=Fx (h:=e_ (?_)));refine A3 rfl (fun kq km=>?_) (fun kq km=>?_)
 ·obtain⟨q,qs,hqs⟩:∃q qs,w.ps=q::qs:=by
   cases hq:w.ps with
   |nil=>rw[hq]at hml km;simp at km
   |cons q qs=>exact⟨q,qs,rfl⟩
  have hql:w.ps.length=qs.length+1:=by rw[hqs];rfl
  refine AG (BF (w_ (?_)));refine A7 (TS 3 rfl (by repeat (first|exact ArgsB.nil|refine ArgsB.cons _ _ _ _ _ rfl rfl ?_)) rfl rfl (sA s (fl||BM p) w q qs hqs hs.b hv hR.1 (by omega)) ?_);rintro r row2 (⟨e,he,he0,rfl,rfl⟩|⟨w2,hw2,rfl,rfl⟩)
  ·refine⟨SU _ _ _,rfl,_,(by repeat constructor),?_⟩;refine Gs (h:=?_);refine A3 rfl (fun ks kp=>?_) (fun ks kp=>?_)
   ·refine w_ (MP (h:=BE (h:=DG (h:=?_))));refine A4 ?_;rw[P6 ka (by omega) ha had ((aW hv hqs hR).1 e he) he0];rfl
   exact absurd kp he0
  refine⟨SU _ _ _,rfl,_,(by repeat constructor),?_⟩;refine Gs (h:=?_);refine A3 rfl (fun kt kr=>?_) (fun kt kr=>?_)
  ·exact absurd rfl kr
  refine JE (h:=AT (?_));exact⟨(8 - w2.links) * 200+w2.ps.length,_,(by have:=(Vc hv.files _ hR.1 hw2).2;omega),⟨w2,(aW hv hqs hR).2 w2 hw2,rfl,by have:=(Vc hv.files _ hR.1 hw2).2;omega,rfl⟩,(wk 4 0)⟩
 have hps:w.ps=[]:=ER (by omega);obtain⟨σ,hT,hσx,hσf,hσe⟩:=sE hv hps hR;refine C4 (h:=q_ (?_));refine JW (⟨look [(8, .bp 2 0),(12, .v (.bool (BM p))),(13, .bp 3 0),(63, .v (.bool (BM p&&(!w.missing&& !AU s.files w.at_))))],⟨[AQ s,AB start,Ah Ep,GP s (fl||BM p) w],[]⟩⟩) ?_ ?_
 ·refine HU (h:=?_);refine AF true rfl rfl (fun kv ku=>?_) (fun kv ku=>?_)
  ·refine Ac (h:=D1 (h:=Bg (h:=?_)));refine AF true rfl rfl (fun yf yb=>?_) (fun yf yb=>?_)
   ·refine Ak (DX 1 rfl (.cons _ _ _ _ _ rfl (A6 _) .nil) (Vb s (fl||BM p) w hs.b) ?_);rintro r rfl;refine⟨rfl,?_⟩;refine D1 (h:=J0 (h:=?_));exact At 4 0 rfl rfl rfl rfl (by repeat (first|exact Sub.nil|refine Aw rfl rfl ?_|refine B3 ?_|refine B4 rfl ?_|refine B5 rfl ?_|(apply Sub.of;(focus exact rfl);(focus exact LeA.of_eq (vb (by first|(rw[kv];rfl)|(rw[kv,yf];rfl))));(focus exact rfl))))
   refine BB (h:=F9 (h:=?_));exact At 4 0 rfl rfl rfl rfl (by repeat (first|exact Sub.nil|refine Aw rfl rfl ?_|refine B3 ?_|refine B4 rfl ?_|refine B5 rfl ?_|(apply Sub.of;(focus exact rfl);(focus exact LeA.of_eq (vb (by first|(rw[kv];rfl)|(rw[kv,yf];rfl))));(focus exact rfl))))
  refine GS (h:=BB (h:=F9 (h:=?_)));exact At 4 0 rfl rfl rfl rfl (by repeat (first|exact Sub.nil|refine Aw rfl rfl ?_|refine B3 ?_|refine B4 rfl ?_|refine B5 rfl ?_|(apply Sub.of;(focus exact rfl);(focus exact LeA.of_eq (vb (by first|(rw[kv];rfl)|(rw[kv,yf];rfl))));(focus exact rfl))))
 skip
 refine A3 rfl (fun yq yc=>?_) (fun yq yc=>?_)
 ·refine Bj (h:=?_);refine A4 ?_;rw[aV ka (by omega) ha had hT (by simp only[Bool.and_eq_true,Bool.not_eq_true']at yc;exact⟨yc.1,by rw[hσx,yc.2.1];rfl,by rw[hσf yc.2.1];exact yc.2.2⟩)];rfl
 refine Ei (h:=?_);refine A7 (DX 1 rfl (.cons _ _ _ _ _ rfl (A6 _) (.cons _ _ _ _ _ rfl (A6 _) .nil)) (s8 s (fl||BM p) (BM p) w hs hw (by have:=hR.2.1;omega)) ?_);rintro r rfl;refine⟨rfl,?_⟩;refine s_ (h:=BW (h:=?_));refine A4 ?_
 rw[SV ka (by omega) ha had hT (fun h=>by
  obtain⟨h1,h2,h3⟩:=h;rw[hσx]at h2;have hm2:w.missing=false:=by simpa using h2
  rw[hσf hm2]at h3;rw[h1,h2,h3]at yc
  cases yc),<-hσe]
 rfl
end
section
theorem Vd{s:Spc}(hs:SpcB s)(hv:SpcV s)(a:A8):AFn prog 193 [.agg (AQ s), .agg (AB a)] (fun r=>r= .agg (AB (Dh s s.mounts.length a))):=
 (iJ s a hs).mono fun r hr=>by rw[hr,oA hv]
end
def Qa(σ:Lk):List AV:=Ah ⟨σ.dir,σ.name,σ.file,σ.ex,false,⟨#[]⟩⟩
theorem Lh{s:Spc}(hv:FlsV s.files){F:Bool}{q:AD}{qs:List AD}{da:A8}{na:AD}{a:A8}{ea:Bool}{lk:Nat}(h8:lk<=8):(∀e,DR s F q qs a lk= .inl e->Fn s F ⟨q::qs,da,na,a,ea,lk⟩=(e,SM))/\∀τ,DR s F q qs a lk= .inr τ->τ.links<=8/\Fn s F ⟨q::qs,da,na,a,ea,lk⟩=Fn s F τ/\He τ<(8 - lk) * 200+(qs.length+1):=by
 have hc:=Zb hv (fl:=F) (σ:=⟨q::qs,da,na,a,ea,lk⟩) (p:=q) (ps:=qs) h8 rfl;refine⟨fun e he=>?_,fun τ hτ=>?_⟩
 ·rw[hc];simp only[he]
 obtain⟨h1,h2⟩:=VM hv h8 hτ;refine⟨h1,?_,h2⟩;rw[hc];simp only[hτ]
section
theorem aY(s:Spc)(hs:SpcB s)(hv:SpcV s):AFn prog 192 [.agg (AQ s)] (fun r=>r= .agg (AB (GK s))):=by
 refine enter Tryz.func192 rfl rfl rfl rfl rfl 0 rfl ?_;refine E5 (h:=e_ (Bw (h:=Bd (h:=?_))));refine AK (Vd hs hv (0,1)) ?_;refine GF (h:=BH (?_));refine A4 ?_;rfl
theorem aZ(s:Spc)(start:A8)(p:AD)(fl:Bool)(hs:SpcN s)(hv:SpcV s)(hp:p.size<=100000):AFn prog 141 [.agg (AQ s), .agg (AB start), .v (.string p), .v (.bool fl)] (fun r=>r= .tup [.agg (Ah (CW s start p fl).1), .v (.int .i64 (CW s start p fl).2)]):=by
 have hw:=VF hv;have hsp:=Ou p;refine enter Tryz.func141 rfl rfl rfl rfl rfl 0 rfl ?_;refine Ef (h:=Cl (h:=?_));refine A7 (AX (VH p hp) ?_);rintro r ⟨ps,hps,rfl⟩;obtain rfl:=VL hps;clear hps;refine Ft (h:=x_ (h:=a_ (h:=Jq (h:=BO (h:=?_)))));refine A3 rfl (fun kd ka=>?_) (fun kd ka=>?_)
 ·refine Bj (h:=?_);refine A4 ?_;rw[show CW s start p fl=(Ep,2) from if_pos ka];rfl
 refine D5 (h:=Fx (h:=e_ (?_)));refine A3 rfl (fun ke kc=>?_) (fun ke kc=>?_)
 ·refine Bj (h:=?_);refine A4 ?_;rw[aT ka (by omega)];rfl
 refine AG (Bw (h:=CP (h:=?_)));refine BD (fun t=>∃a,(if EB p=true then GK s else start)=a/\t=⟨look [(3, .v (.bool fl)),(4, .bp 0 0),(8, .bp 2 0),(10, .sl 1 ((Dc p).map Dy) none),(12, .v (.bool (BM p))),(13, .bp 3 0)],⟨[AQ s,AB start,Ah Ep,AB a],[]⟩⟩) ?_ ?_
 ·refine Ab (h:=e_ (?_));refine A3 rfl (fun kh kf=>?_) (fun kh kf=>?_)
  ·refine Aq (l_ (h:=?_));refine AK (aY s hs.b hv) ?_;refine s_ (h:=FP (h:=?_));exact⟨_,⟨GK s,if_pos kf,rfl⟩,(wk 4 0)⟩
  refine Ci (AT (?_));exact⟨_,⟨start,if_neg (by simp[kf]),rfl⟩,(wk 4 0)⟩
 rintro t ⟨a0,ha,rfl⟩;refine Fu (h:=l_ (h:=?_));refine AK (LT s.files a0 hs.b.files) ?_;refine CY (h:=?_);refine A3 rfl (fun kl kg=>?_) (fun kl kg=>?_)
 ·refine Bj (h:=?_);refine A4 ?_;rw[aU ka (by omega) ha (by simpa using kg)];rfl
 have had:AU s.files a0=true:=by simpa using kg
 refine AG (C9 (h:=Bd (h:=CP (h:=DZ (h:=?_)))));refine BD (fun t=>∃(τ:Lk) (d:A8),Fn s (fl||BM p) (Kc (Dc p) a0)=(0,τ)/\τ.name.size<=1000/\t=⟨look [(4, .bp 0 0),(8, .bp 2 0),(12, .v (.bool (BM p))),(14, .bp 4 0)],⟨[AQ s,AB start,Ah Ep,AB d,Qa τ],[]⟩⟩) ?_ ?_
 ·refine BF (?_);refine BL (fun m t=>∃(σ:Lk) (d:A8),σ.links<=8/\σ.name.size<=12/\Fn s (fl||BM p) σ=Fn s (fl||BM p) (Kc (Dc p) a0)/\m=He σ/\m<=1729/\t=⟨look [(3, .v (.bool fl)),(4, .bp 0 0),(8, .bp 2 0),(10, .sl 1 (σ.ps.map Dy) none),(12, .v (.bool (BM p))),(13, .bp 3 0),(14, .bp 4 0),(15, .v (.int .i64 (σ.links:Int)))],⟨[AQ s,AB start,Ah Ep,AB d,Qa σ],[]⟩⟩) (He (Kc (Dc p) a0)) ((wk 5 0)) (⟨_,a0,BG _,BG _,rfl,rfl,by show(8 - 0) * 200+(Dc p).length<=1729;omega,rfl⟩) ?_;rintro m t ⟨⟨ps0,da,na,a,ea,lk⟩,d,h8,hna,hT,rfl,hm,rfl⟩;have hm:(8 - lk) * 200+ps0.length<=1729:=hm;have h8:lk<=8:=h8;have hml:(ps0.map Dy).length=ps0.length:=by simp
  refine Be (h:=Fx (h:=e_ (?_)));refine A3 rfl (fun ko kk=>?_) (fun ko kk=>?_)
  ·obtain⟨q,qs,hps⟩:∃q qs,ps0=q::qs:=by
    cases ps0 with
    |nil=>simp at kk
    |cons q qs=>exact⟨q,qs,rfl⟩
   subst hps;have hml:(qs.map Dy).length=qs.length:=by simp
   have hmq:(8 - lk) * 200+(qs.length+1)<=1729:=hm;have htg:=QK hv.files (AJ s.files a q).1;have htp:=Ou (AY s.files (AJ s.files a q).1).target;refine AG (BF (Ab (h:=?_)));refine A7 (DM (n:=0) rfl rfl rfl rfl ?_);refine l_ (h:=Ay (h:=?_));refine JW (⟨look [(3, .v (.bool fl)),(4, .bp 0 0),(8, .bp 2 0),(10, .sl 1 (qs.map Dy) none),(12, .v (.bool (BM p))),(13, .bp 3 0),(14, .bp 4 0),(15, .v (.int .i64 (lk:Int))),(16, .v (.string q))],⟨[AQ s,AB start,Ah Ep,AB d,Qa ⟨q::qs,da,na,a,ea,lk⟩],[]⟩⟩) ?_ ?_
   ·refine BU (h:=?_);refine A7 (TK (l:=1) rfl rfl rfl (by simp) ?_);refine D4 (h:=?_);exact At 5 0 rfl rfl rfl rfl (by repeat (first|exact Sub.nil|refine Aw rfl rfl ?_|refine B3 ?_|refine B4 rfl ?_|refine B5 rfl ?_|(apply Sub.of;(focus exact rfl);(focus exact LeA.of_eq (vb (by rfl)));(focus exact rfl))))
   skip
   refine B2 (h:=GF (h:=Fu (h:=l_ (h:=?_))));refine AK (LT s.files a hs.b.files) ?_;refine CY (h:=?_);refine A3 rfl (fun kq km=>?_) (fun kq km=>?_)
   ·have hst:DR s (fl||BM p) q qs a lk= .inl 20:=by unfold DR;rw[if_pos km]
    refine Bj (h:=DG (h:=DG (h:=?_)));refine A4 ?_;rw[P6 ka (by omega) ha had (hT.symm.trans ((Lh (F:=fl||BM p) (da:=da) (na:=na) (ea:=ea) hv.files h8).1 _ hst)) (by decide)];rfl
   refine D5 (h:=Fx (h:=e_ (?_)));refine A3 rfl (fun ks kp=>?_) (fun ks kp=>?_)
   ·have hst:DR s (fl||BM p) q qs a lk= .inl 36:=by unfold DR;rw[if_neg (by simp[km]),if_pos (by omega)]
    refine Bj (h:=DG (h:=DG (h:=?_)));refine A4 ?_;rw[P6 ka (by omega) ha had (hT.symm.trans ((Lh (F:=fl||BM p) (da:=da) (na:=na) (ea:=ea) hv.files h8).1 _ hst)) (by decide)];rfl
   have pv:q.size<=12:=by omega
   refine D5 (h:=Dv (h:=?_));refine AF false rfl rfl (fun kt kr=>?_) (fun kt kr=>?_)
   ·refine BB (h:=L3 (h:=Be (h:=BO (h:=?_))));refine A3 rfl (fun kv ku=>?_) (fun kv ku=>?_)
    ·rw[kr]at ku;exact absurd ku (by decide)
    have hst:DR s (fl||BM p) q qs a lk= .inr ⟨qs,a,⟨#[]⟩,a,true,lk⟩:=by unfold DR;rw[if_neg (by simp[km]),if_neg (by omega),if_pos kr]
    refine AG (C9 (h:=GR (h:=e_ (Tm (h:=Ku (AT (?_)))))));obtain⟨g1,g2,g3⟩:=(Lh (F:=fl||BM p) (da:=da) (na:=na) (ea:=ea) hv.files h8).2 _ hst;exact⟨_,_,g3,⟨_,_,g1,(by first|exact BG _|exact pv),g2.symm.trans hT,rfl,Nat.le_trans (Nat.le_of_lt g3) hmq,rfl⟩,(by(try simp only[List.map_append]);exact At 5 0 rfl rfl rfl rfl ((by repeat (first|exact Sub.nil|refine Aw rfl rfl ?_|refine B3 ?_|refine B4 rfl ?_|refine B5 rfl ?_))))⟩
   refine EJ (h:=Cq (h:=?_));refine A3 rfl (fun yf yb=>?_) (fun yf yb=>?_)
   ·refine Be (h:=BO (h:=?_));refine A3 rfl (fun yq yc=>?_) (fun yq yc=>?_)
    ·have hst:DR s (fl||BM p) q qs a lk= .inr ⟨qs,Dh s s.mounts.length (FV s (s.mounts.length+1) a),⟨#[]⟩,Dh s s.mounts.length (FV s (s.mounts.length+1) a),true,lk⟩:=by unfold DR;rw[if_neg (by simp[km]),if_neg (by omega),if_neg kr,if_pos yc]
     refine BJ ([(0,AQ s),(3,AB a)]) 5 (h:=A9 0 (h:=A9 1 (h:=A9 2 (h:=?_))));refine c_ 3 rfl (AX (oU hs.b hv (s.mounts.length+1) a (by have:=o0 (s:=s) a.1;omega)) ?_);rintro r rfl;refine o_ (h:=c_ 4 rfl (AX (Vd hs.b hv (FV s (s.mounts.length+1) a)) ?_));rintro r rfl;refine o_ (h:=Ax 5 (h:=z_ (h:=t_ (w_ (l_ (h:=l_ (h:=Bd (h:=s_ (h:=e_ (Ll (H5 (Ku (AT (?_))))))))))))));obtain⟨g1,g2,g3⟩:=(Lh (F:=fl||BM p) (da:=da) (na:=na) (ea:=ea) hv.files h8).2 _ hst;exact⟨_,_,g3,⟨_,_,g1,(by first|exact BG _|exact pv),g2.symm.trans hT,rfl,Nat.le_trans (Nat.le_of_lt g3) hmq,rfl⟩,(by(try simp only[List.map_append]);exact At 5 0 rfl rfl rfl rfl ((by repeat (first|exact Sub.nil|refine Aw rfl rfl ?_|refine B3 ?_|refine B4 rfl ?_|refine B5 rfl ?_))))⟩
    exact absurd yb yc
   refine AG (B2 (h:=GD (h:=?_)));refine AK (LV s.files a q hs.b.files) ?_;refine Js (h:=?_);refine A3 rfl (fun yu yg=>?_) (fun yu yg=>?_)
   ·refine Be (h:=Fx (h:=m_ (h:=?_)));refine AF false rfl rfl (fun yy yr=>?_) (fun yy yr=>?_)
    ·have hne:qs≠[]:=fun e=>by rw[e]at yr;simp at yr
     have hst:DR s (fl||BM p) q qs a lk= .inl 2:=by unfold DR;rw[if_neg (by simp[km]),if_neg (by omega),if_neg kr,if_neg yb,if_pos yg,if_pos (.inl hne)]
     refine EV (h:=Bj (h:=C1 (h:=DG (h:=?_))));refine A4 ?_;rw[P6 ka (by omega) ha had (hT.symm.trans ((Lh (F:=fl||BM p) (da:=da) (na:=na) (ea:=ea) hv.files h8).1 _ hst)) (by decide)];rfl
    have hne:¬qs≠[]:=fun e=>e (ER (by omega));refine m_ (h:=?_);refine Ak (AX (Tq q (by omega)) ?_);rintro r rfl;refine D1 (h:=Cq (h:=?_));refine A3 rfl (fun ff fc=>?_) (fun ff fc=>?_)
    ·have hst:DR s (fl||BM p) q qs a lk= .inl 2:=by unfold DR;rw[if_neg (by simp[km]),if_neg (by omega),if_neg kr,if_neg yb,if_pos yg,if_pos (.inr fc)]
     refine Bj (h:=C1 (h:=DG (h:=?_)));refine A4 ?_;rw[P6 ka (by omega) ha had (hT.symm.trans ((Lh (F:=fl||BM p) (da:=da) (na:=na) (ea:=ea) hv.files h8).1 _ hst)) (by decide)];rfl
    have hst:DR s (fl||BM p) q qs a lk= .inr ⟨[],a,q,(0,0),false,lk⟩:=by unfold DR;rw[if_neg (by simp[km]),if_neg (by omega),if_neg kr,if_neg yb,if_pos yg,if_neg (fun e=>e.elim hne (by simp[fc]))]
    have mn:=hT.symm.trans (((Lh (F:=fl||BM p) (da:=da) (na:=na) (ea:=ea) hv.files h8).2 _ hst).2.1.trans (VN rfl));refine AG (w_ (l_ (h:=m_ (h:=Bd (h:=s_ (h:=e_ (Ll (H5 (PO rfl (H5 (Ku (AT (?_)))))))))))));exact⟨_,⟨_,_,mn,(by first|exact Nat.le_trans hna (by decide)|exact Nat.le_trans pv (by decide)),rfl⟩,(wk 5 0)⟩
   refine AG (B2 (h:=l_ (h:=?_)));refine AK (G0 s.files (AJ s.files a q).1 hs.b.files) ?_;refine EU (h:=Ay (h:=q_ (?_)));refine JW (⟨look [(3, .v (.bool fl)),(4, .bp 0 0),(8, .bp 2 0),(10, .sl 1 (qs.map Dy) none),(12, .v (.bool (BM p))),(13, .bp 3 0),(14, .bp 4 0),(15, .v (.int .i64 (lk:Int))),(16, .v (.string q)),(17, .bp 5 0),(19, .bp 6 0),(130, .v (.bool (decide ((AY s.files (AJ s.files a q).1).kind=3)&&(decide (0<((qs.map Dy).length:Int))||(fl||BM p)))))],⟨[AQ s,AB start,Ah Ep,AB a,Qa ⟨q::qs,da,na,a,ea,lk⟩,AB (AJ s.files a q).1,Al (AY s.files (AJ s.files a q).1)],[]⟩⟩) ?_ ?_
   ·refine Aq (Ju (h:=?_));refine AF true rfl rfl (fun fe fx=>?_) (fun fe fx=>?_)
    ·refine m_ (h:=Fx (h:=m_ (h:=?_)));refine AF false rfl rfl (fun fq od=>?_) (fun fq od=>?_)
     ·refine DT (h:=Bg (h:=DT (h:=Bm (h:=J0 (h:=?_)))));exact At 7 0 rfl rfl rfl rfl (by repeat (first|exact Sub.nil|refine Aw rfl rfl ?_|refine B3 ?_|refine B4 rfl ?_|refine B5 rfl ?_|(apply Sub.of;(focus exact rfl);(focus exact LeA.of_eq (vb (by first|(rw[fe];rfl)|(rw[fe,fq];rfl)|(rw[fe,fq,fy];rfl))));(focus exact rfl))))
     refine m_ (h:=BZ (h:=?_));refine AF false rfl rfl (fun fy oe=>?_) (fun fy oe=>?_)
     ·refine DT (h:=Bm (h:=J0 (h:=?_)));exact At 7 0 rfl rfl rfl rfl (by repeat (first|exact Sub.nil|refine Aw rfl rfl ?_|refine B3 ?_|refine B4 rfl ?_|refine B5 rfl ?_|(apply Sub.of;(focus exact rfl);(focus exact LeA.of_eq (vb (by first|(rw[fe];rfl)|(rw[fe,fq];rfl)|(rw[fe,fq,fy];rfl))));(focus exact rfl))))
     refine m_ (h:=C3 (h:=J0 (h:=?_)));exact At 7 0 rfl rfl rfl rfl (by repeat (first|exact Sub.nil|refine Aw rfl rfl ?_|refine B3 ?_|refine B4 rfl ?_|refine B5 rfl ?_|(apply Sub.of;(focus exact rfl);(focus exact LeA.of_eq (vb (by first|(rw[fe];rfl)|(rw[fe,fq];rfl)|(rw[fe,fq,fy];rfl))));(focus exact rfl))))
    refine CO (h:=Jb (h:=BB (h:=Lu (h:=F9 (h:=?_)))));exact At 7 0 rfl rfl rfl rfl (by repeat (first|exact Sub.nil|refine Aw rfl rfl ?_|refine B3 ?_|refine B4 rfl ?_|refine B5 rfl ?_|(apply Sub.of;(focus exact rfl);(focus exact LeA.of_eq (vb (by first|(rw[fe];rfl)|(rw[fe,fq];rfl)|(rw[fe,fq,fy];rfl))));(focus exact rfl))))
   skip
   refine A3 rfl (fun ma fr=>?_) (fun ma fr=>?_)
   ·have hlk:(AY s.files (AJ s.files a q).1).kind=3/\(qs≠[]\/(fl||BM p)=true):=by
     rw[Bool.and_eq_true,decide_eq_true_eq,Bool.or_eq_true,decide_eq_true_eq]at fr;exact⟨fr.1,fr.2.imp (fun h e=>by rw[e]at h;simp at h) id⟩
    refine Be (h:=BO (h:=?_));refine A3 rfl (fun mu mv=>?_) (fun mu mv=>?_)
    ·have hst:DR s (fl||BM p) q qs a lk= .inl 40:=by unfold DR;rw[if_neg (by simp[km]),if_neg (by omega),if_neg kr,if_neg yb,if_neg (by simp[yg]),if_pos hlk,if_pos (by omega)]
     refine Bj (h:=C1 (h:=DG (h:=?_)));refine A4 ?_;rw[P6 ka (by omega) ha had (hT.symm.trans ((Lh (F:=fl||BM p) (da:=da) (na:=na) (ea:=ea) hv.files h8).1 _ hst)) (by decide)];rfl
    refine Ei (h:=?_);refine A7 (NY rfl rfl (by omega) ?_);refine Ay (h:=B2 (h:=?_));refine A7 (AX (VH (AY s.files (AJ s.files a q).1).target (by omega)) ?_);rintro r ⟨ps,hps,rfl⟩;obtain rfl:=VL hps;clear hps;refine Ft (h:=x_ (h:=a_ (h:=Jq (h:=e_ (?_)))));refine A3 rfl (fun ob mf=>?_) (fun ob mf=>?_)
    ·have hst:DR s (fl||BM p) q qs a lk= .inr ⟨Dc (AY s.files (AJ s.files a q).1).target++qs,GK s,⟨#[]⟩,GK s,true,lk+1⟩:=by unfold DR;rw[if_neg (by simp[km]),if_neg (by omega),if_neg kr,if_neg yb,if_neg (by simp[yg]),if_pos hlk,if_neg (by omega),if_pos mf]
     refine Aq (l_ (h:=?_));refine AK (aY s hs.b hv) ?_;refine s_ (h:=e_ (w_ (m_ (h:=G8 (h:=m_ (h:=G8 (h:=a_ (h:=e_ (w_ (l_ (h:=l_ (h:=Bd (h:=s_ (h:=e_ (Ll (H5 (Ku (AT (?_)))))))))))))))))));obtain⟨g1,g2,g3⟩:=(Lh (F:=fl||BM p) (da:=da) (na:=na) (ea:=ea) hv.files h8).2 _ hst;exact⟨_,_,g3,⟨_,_,g1,(by first|exact BG _|exact pv),g2.symm.trans hT,rfl,Nat.le_trans (Nat.le_of_lt g3) hmq,rfl⟩,(by(try simp only[List.map_append]);exact At 5 0 rfl rfl rfl rfl ((by repeat (first|exact Sub.nil|refine Aw rfl rfl ?_|refine B3 ?_|refine B4 rfl ?_|refine B5 rfl ?_))))⟩
    have hst:DR s (fl||BM p) q qs a lk= .inr ⟨Dc (AY s.files (AJ s.files a q).1).target++qs,a,⟨#[]⟩,a,true,lk+1⟩:=by unfold DR;rw[if_neg (by simp[km]),if_neg (by omega),if_neg kr,if_neg yb,if_neg (by simp[yg]),if_pos hlk,if_neg (by omega),if_neg (by simp[mf])]
    refine AG (w_ (m_ (h:=G8 (h:=m_ (h:=G8 (h:=a_ (h:=e_ (w_ (l_ (h:=l_ (h:=Bd (h:=s_ (h:=e_ (Ll (H5 (Ku (AT (?_))))))))))))))))));obtain⟨g1,g2,g3⟩:=(Lh (F:=fl||BM p) (da:=da) (na:=na) (ea:=ea) hv.files h8).2 _ hst;exact⟨_,_,g3,⟨_,_,g1,(by first|exact BG _|exact pv),g2.symm.trans hT,rfl,Nat.le_trans (Nat.le_of_lt g3) hmq,rfl⟩,(by(try simp only[List.map_append]);exact At 5 0 rfl rfl rfl rfl ((by repeat (first|exact Sub.nil|refine Aw rfl rfl ?_|refine B3 ?_|refine B4 rfl ?_|refine B5 rfl ?_))))⟩
   have hlk:¬((AY s.files (AJ s.files a q).1).kind=3/\(qs≠[]\/(fl||BM p)=true)):=fun h=>by
    rw[decide_eq_true h.1,Bool.true_and,Bool.or_eq_false_iff]at fr;rcases h.2 with e|e
    ·exact e (ER (by have:=of_decide_eq_false fr.1;omega))
    rw[fr.2]at e;cases e
   have hst:DR s (fl||BM p) q qs a lk= .inr ⟨qs,a,q,Dh s s.mounts.length (AJ s.files a q).1,true,lk⟩:=by unfold DR;rw[if_neg (by simp[km]),if_neg (by omega),if_neg kr,if_neg yb,if_neg (by simp[yg]),if_neg hlk]
   refine AG (BJ ([(0,AQ s),(3,AB a),(5,AB (AJ s.files a q).1)]) 6 (h:=A9 0 (h:=AE 1 (h:=A9 2 (h:=A9 3 (h:=?_))))));refine c_ 4 rfl (AX (Vd hs.b hv (AJ s.files a q).1) ?_);rintro r rfl;refine o_ (h:=Kz 5 (h:=?_));refine Ax 6 (h:=z_ (h:=Bz (AT (?_))));obtain⟨g1,g2,g3⟩:=(Lh (F:=fl||BM p) (da:=da) (na:=na) (ea:=ea) hv.files h8).2 _ hst;exact⟨_,_,g3,⟨_,_,g1,(by first|exact BG _|exact pv),g2.symm.trans hT,rfl,Nat.le_trans (Nat.le_of_lt g3) hmq,rfl⟩,(by(try simp only[List.map_append]);exact At 5 0 rfl rfl rfl rfl ((by repeat (first|exact Sub.nil|refine Aw rfl rfl ?_|refine B3 ?_|refine B4 rfl ?_|refine B5 rfl ?_))))⟩
  have kk:¬(0:Int)<((ps0.map Dy).length:Int):=kk;have e5:ps0=[]:=ER (by omega);subst e5;have mn:=hT.symm.trans (VN (s:=s) (fl:=fl||BM p) (σ:=⟨[],da,na,a,ea,lk⟩) rfl);refine LS (h:=AT (?_));exact⟨_,⟨_,_,mn,(by first|exact Nat.le_trans hna (by decide)|exact Nat.le_trans pv (by decide)),rfl⟩,(wk 5 0)⟩
 rintro t ⟨τ,d,hT,hnm,rfl⟩;refine q_ (?_);refine JW (⟨look [(4, .bp 0 0),(8, .bp 2 0),(12, .v (.bool (BM p))),(14, .bp 4 0),(171, .v (.bool (BM p&&(τ.ex&& !AU s.files τ.file))))],⟨[AQ s,AB start,Ah Ep,AB d,Qa τ],[]⟩⟩) ?_ ?_
 ·refine HU (h:=?_);refine AF true rfl rfl (fun og mw=>?_) (fun og mw=>?_)
  ·refine Ac (h:=Bg (h:=?_));refine AF true rfl rfl (fun mg my=>?_) (fun mg my=>?_)
   ·have hx:τ.ex=true:=mg;refine Je (h:=?_);refine Ak (AX (LT s.files τ.file hs.b.files) ?_);rintro r rfl;refine D1 (h:=J0 (h:=?_));exact At 5 0 rfl rfl rfl rfl (by repeat (first|exact Sub.nil|refine Aw rfl rfl ?_|refine B3 ?_|refine B4 rfl ?_|refine B5 rfl ?_|(apply Sub.of;(focus exact rfl);(focus exact LeA.of_eq (vb (by first|(rw[og];rfl)|(rw[og,hx];rfl))));(focus exact rfl))))
   have hx:τ.ex=false:=mg;refine Jo (h:=F9 (h:=?_));exact At 5 0 rfl rfl rfl rfl (by repeat (first|exact Sub.nil|refine Aw rfl rfl ?_|refine B3 ?_|refine B4 rfl ?_|refine B5 rfl ?_|(apply Sub.of;(focus exact rfl);(focus exact LeA.of_eq (vb (by first|(rw[og];rfl)|(rw[og,hx];rfl))));(focus exact rfl))))
  refine BB (h:=BZ (h:=Jo (h:=F9 (h:=?_))));exact At 5 0 rfl rfl rfl rfl (by repeat (first|exact Sub.nil|refine Aw rfl rfl ?_|refine B3 ?_|refine B4 rfl ?_|refine B5 rfl ?_|(apply Sub.of;(focus exact rfl);(focus exact LeA.of_eq (vb (by first|(rw[og];rfl)|(rw[og,hx];rfl))));(focus exact rfl))))
 skip
 refine A3 rfl (fun po oh=>?_) (fun po oh=>?_)
 ·refine Bj (h:=?_);refine A4 ?_;rw[aV ka (by omega) ha had hT (by simp only[Bool.and_eq_true,Bool.not_eq_true']at oh;exact oh)];rfl
 refine Ei (h:=Cg (h:=q_ (Bw (h:=Ac (h:=?_)))));refine AK (oS hs.b hv τ.dir) ?_;refine Ft (h:=a_ (h:=Cl (h:=e_ (?_))));refine A3 rfl (fun kz pi=>?_) (fun kz pi=>?_)
 ·refine Ab (h:=Cg (h:=B2 (h:=D3 (h:=?_))));refine A3 rfl (fun mq pp=>?_) (fun mq pp=>?_)
  ·refine BU (h:=Ac (h:=?_));refine AK (ZM (Bv s τ.dir).1 τ.name (by have:=hw τ.dir;omega) (by omega)) ?_;refine Cg (h:=Jp (h:=?_));refine A4 ?_;rw[SV ka (by omega) ha had hT (fun h=>by rw[h.1,h.2.1,h.2.2]at oh;cases oh),show Ld s (BM p) τ=⟨τ.dir,τ.name,τ.file,τ.ex,BM p,EN (Bv s τ.dir).1 τ.name⟩ by unfold Ld;rw[if_pos pi,if_neg pp]];rfl
  refine AG (Jp (h:=?_));refine A4 ?_;rw[SV ka (by omega) ha had hT (fun h=>by rw[h.1,h.2.1,h.2.2]at oh;cases oh),show Ld s (BM p) τ=⟨τ.dir,τ.name,τ.file,τ.ex,BM p,(Bv s τ.dir).1⟩ by unfold Ld;rw[if_pos pi,if_pos pp]];rfl
 refine AG (Jp (h:=?_));refine A4 ?_;rw[SV ka (by omega) ha had hT (fun h=>by rw[h.1,h.2.1,h.2.2]at oh;cases oh),show Ld s (BM p) τ=⟨τ.dir,τ.name,τ.file,τ.ex,BM p,⟨#[]⟩⟩ by unfold Ld;rw[if_neg (by simp[pi])]];rfl
end
end
end Go.Proofs.YtbgnigjfkbmceaaGreatDoor
