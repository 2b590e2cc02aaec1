/- Part 4 of the proof of FilterBehindP. -/
import Derived.Test.YtbgnigjfkbmceaaGreatDoorShelf
import Derived.Maps.AppendAt
import Derived.OwnWalk
import Derived.StillTailTactics
import Derived.OpenShut
import Derived.ChangeArms
import Derived.ChangeOld
import Derived.DataReads
import Derived.DataElems
import Derived.Test.YtbgnigjfkbmceaaGreatDoorQj3
open Go.Proofs.Tryz (prog)
set_option maxRecDepth 10000
set_option maxHeartbeats 4000000
set_option linter.unusedVariables false
set_option linter.unusedSimpArgs false
namespace Go.Proofs.YtbgnigjfkbmceaaGreatDoor
open Go.RowKit
theorem Ut{f:AR}{a:A8}{q i:Nat}{d:Dvc}{n:Nod}(ha:a.1=(q:Int))(hq:f[q]?=some d)(hd:Fk d.nodes)(hn:d.nodes[i]?=some n)(hi:n.ino=a.2):JH f a=(i:Int):=by
 rw[Tp ha hq];refine XG hn (by simpa using hi) fun j y hj hy=>?_;obtain⟨l1,e1⟩:=AZ.1 hn;obtain⟨l2,e2⟩:=AZ.1 hy;have hp:=List.pairwise_iff_getElem.1 hd j i l2 l1 hj;rw[e1,e2]at hp;have:y.ino≠a.2:=by omega
 simpa using this
theorem Yi(f:AR)(q:Nat)(d':Dvc)(n:Nod)(i:Nat)(a:A8)(name:AD)(ino:Int)(cap cap1:Nat)(hf:FlsB (f.set q d'))(hq:q<f.length)(ha:a.1=(q:Int))(hi:JH (f.set q d') a=(i:Int))(hn:d'.nodes[i]?=some n)(hcap:f.length<=cap)(hcap1:d'.nodes.length<=cap1):
    ACall prog 232 [.agg [.bs 0 0 2 f.length cap], .agg (AB a), .v (.string name), .v (.int .i64 ino)] [DB f q d' 1 cap cap1,NB d'.nodes cap1] (fun r b t=>t=[]/\r= .tup []/\b=[DB f q d' 1 cap cap1,NB (entS d'.nodes i n name ino) cap1]):=by
 have key:=Q5 (f.set q d') q d' n i a name ino cap cap1 hf (by simp[hq]) ha hi hn (by simpa using hcap) hcap1;rw[List.length_set,UT]at key;exact key
def Gb(f:AR)(a:A8)(mode uid gid:Int):AR×Int:=
 if Dl f a=false then([],2)else if J4 (Gw mode uid gid (AY f a))=false then([],22)else(K1 f a.1.toNat fun ns=>DJ ns a.2 (Gw mode uid gid),0)
def QJ(R:AR×Int):AV:= .tup [.agg (Ap R.1), .v (.int .i64 R.2)]
theorem Yj(e:Int):LeA (.tup [.agg [.v (.slice none 0 0)], .v (.int .i64 e)]) (QJ ([],e)):=(by repeat (first|exact A6 _|exact LeA.nil _|exact LeL.refl _|refine LeA.agg ?_|refine LeA.tup ?_|exact LeL.nil|refine LeL.cons ?_ ?_|exact LeA.any _))
theorem lQ{n:Nod}(h:J4 n=true):n.target.size<=128:=by
 unfold J4 at h;split at h
 ·cases h
 split at h
 ·simp[Np]at h;omega
 have h2:=List.isEmpty_iff.1 h;rw[ByteArray.toList_eq]at h2;have:n.target.data.size=0:=by rw[<-Array.length_toList,h2];rfl
 show n.target.data.size<=128;omega
theorem QK{f:AR}(hv:FlsV f)(a:A8):(AY f a).target.size<=128:=by
 rcases MR f a with⟨-,h⟩|⟨k,i,d,n, -,h1,h2, -, -,h⟩
 ·simp only[AY,h,Option.getD_none];exact BG _
 simp only[AY,h,Option.getD_some];exact lQ ((hv.vd d (Aj h1)).plain n (Aj h2))
def Fl(f:AR)(dir:A8)(name:AD)(n:Nod):Fj:=
 if Cr f dir name≠0 then([],[],Cr f dir name)else if J4 n=false then([],[],22)else if(AJ f dir name).2=0 then([],[],17)else
 match GW f dir.1 with
 |none=>([],[],2)
 |some d=>if 16<=d.nodes.length\/d.next=1073741824\/MT f dir=true then([],[],28)else(f.set dir.1.toNat ⟨d.next+1,Bk d.nodes dir.2 name d.next++[Gv n d.next dir.2]⟩,[(dir,name,(0,0),(dir.1,d.next))],0)
theorem Yk{f:AR}{q:Nat}{d:Dvc}{j j' cap cap1 c:Nat}(m:Nod)(hq:q<f.length):SetAt (DB f q d j cap cap1) (0+q * 2+1) [.bs j' 0 8 (d.nodes.length+1) c] (DB f q {d with nodes:=d.nodes++[m]} j' cap c):=by
 have h:=US (d:=d) (d':={d with nodes:=d.nodes++[m]}) (j:=j) (j':=j') (cap:=cap) (cap1:=cap1) (cap1':=c) (k:=1) (cs:=[.bs j' 0 8 (d.nodes++[m]).length c]) hq (by repeat constructor) (by simp)
 rwa [List.length_append]at h
section
theorem lR(f:AR)(a:A8)(mode uid gid:Int)(hv:FlsV f):AFn prog 176 [.agg (Ap f), .agg (AB a), .v (.int .i64 mode), .v (.int .i64 uid), .v (.int .i64 gid)] (fun r=>r=QJ (Gb f a mode uid gid)):=by
 have hf:=hv.b;have htg:=QK hv a;refine enter Tryz.func176 rfl rfl rfl rfl rfl 0 rfl ?_;refine Ef (h:=Ay (h:=C9 (h:=?_)));refine AK (G0 f a hf) ?_;refine HQ (h:=?_);refine A3 rfl (fun kd ka=>?_) (fun kd ka=>?_)
 ·refine Bj (h:=?_);refine AO (r:=QJ (Gb f a mode uid gid)) none (h5:=?_) (h6:=⟨rfl,rfl,rfl⟩);rw[Gb,if_pos ka];exact Yj _
 refine Ei (h:=Cp (h:=Cy (h:=Cy (h:=Cg (h:=q_ (Bw (h:=?_)))))));refine AK (Xa (Gw mode uid gid (AY f a)) (by show(AY f a).target.size<=100000;omega)) ?_;refine CY (h:=?_);refine A3 rfl (fun ke kc=>?_) (fun ke kc=>?_)
 ·refine Bj (h:=?_);refine AO (r:=QJ (Gb f a mode uid gid)) none (h5:=?_) (h6:=⟨rfl,rfl,rfl⟩);rw[Gb,if_neg (by simp[ka]),if_pos kc];exact Yj _
 obtain⟨q,i,d,n0,hdq,hq,hn0,ft,om,fg⟩:=(MR f a).resolve_left (fun h=>by simp[Dl,h.2]at ka);have hil:=(AZ.1 hn0).1;have hql:=(AZ.1 hq).1;have hng:AY f a=n0:=by simp[AY,fg]
 refine AG (Bw (h:=?_));refine A7 (Bo [] rfl (.cons _ _ _ _ _ rfl (A6 _) .nil) (by decide) .nil (Og f q d hf hq (by omega)) ?_);rintro r bc tc ⟨rfl,cap,cap1,yk,yz,rfl,rfl⟩;refine⟨rfl,_,(Om (n:=4) rfl f q d d.nodes cap cap1:Back _ [] _ [_,_,_,_,_,_]),?_⟩;have hD0:(DB f q d 5 cap cap1)[0+q * 2+1]?=some (.bs 5 0 8 d.nodes.length cap1):=Py hql
 have yp:SetAt (NB d.nodes cap1) (0+i * 8) (Al (Gw mode uid gid (AY f a))) (NB (d.nodes.set i (Gw mode uid gid (AY f a))) cap1):=by
  rw[hng];exact UR (k:=0) hn0 (by repeat constructor) (by simp[Al])
 refine Ck (h:=s_ (h:=e_ (q_ (BJ ([(0,Ap f),(1,AB a),(3,Al (Gw mode uid gid (AY f a))),(4,DB f q d 5 cap cap1),(6,[.bs 4 0 2 f.length cap])]) 13 (h:=AA 0 (h:=?_))))));refine A9 1 (h:=?_);refine AA 2 (h:=?_);refine A9 3 (h:=?_);refine CE 4 rfl (fun _ hS=>EF (m:=q) rfl rfl hdq hql ⟨rfl,rfl⟩) ?_;refine AA 5 (h:=?_);refine CE 6 rfl (fun _ hS=>Fa (row:=DB f q d 5 cap cap1) rfl (kb hS rfl) hD0 ⟨rfl,rfl⟩) ?_;refine A9 7 (h:=?_);refine A9 8 (h:=?_);refine A9 10 (h:=?_);refine c_ 9 rfl (DX 2 rfl (.cons _ _ _ _ _ rfl (LeA.of_eq (NA hq yk yz (BG _) (BG _) rfl rfl)) (.cons _ _ _ _ _ rfl (A6 _) .nil)) (N3 f a hf) ?_);rintro r rfl;refine⟨rfl,?_⟩;refine o_ (h:=CE 11 rfl (fun _ hS=>EF (m:=i) rfl rfl om hil ⟨rfl,rfl⟩) ?_);refine H7 12 rfl (Es rfl rfl rfl rfl rfl rfl yp (by repeat constructor) ?_);refine J1 (h:=t_ (?_));refine BD (fun t=>t=⟨look [(10, .bp 2 0),(11, .v (.int .i64 0))],⟨[Ap f,AB a,Ap (f.set q {d with nodes:=d.nodes.set i (Gw mode uid gid (AY f a))})],[]⟩⟩) ?_ ?_
 ·refine Aq (l_ (h:=s_ (h:=D4 (h:=?_))));exact⟨_,rfl,Jm 3 2 rfl (congrArg (fun x=>[Ap f,AB a,x]) (NE (k:=0) (i:=4) (j:=5) (d:=d) (d':={d with nodes:=d.nodes.set i (Gw mode uid gid (AY f a))}) hql rfl (by simp) yk (by simpa using yz) (Bl rfl) (Bl rfl) rfl rfl)) (.cons _ _ _ _ rfl (A6 _) (.cons _ _ _ _ rfl (A6 _) .nil))⟩
 rintro t rfl;refine BH (?_);refine A4 ?_;rw[Gb,if_neg (by simp[ka]),if_neg (by simp[kc]),hdq,Int.toNat_natCast,KY hq,<-ft,<-QG (hv.vd d (Aj hq)).asc hn0,<-hng];rfl
theorem lS(f:AR)(dir:A8)(name:AD)(n:Nod)(hv:FlsV f)(hs:name.size<=100000)(hns:n.target.size<=100000):AFn prog 177 [.agg (Ap f), .agg (AB dir), .v (.string name), .agg (Al n)] (fun r=>r=Cs (Fl f dir name n)):=by
 have hf:=hv.b;obtain⟨e0,he0⟩:∃e0:Int,e0=if Cr f dir name≠0 then Cr f dir name else if J4 n=false then 22 else 0:=⟨_,rfl⟩
 refine enter Tryz.func177 rfl rfl rfl rfl rfl 0 rfl ?_;refine Fe (h:=b_ (h:=Ck (h:=a_ (h:=Ay (h:=J2 (h:=?_))))));refine AK (OY f dir name hf hs) ?_;refine Ay (h:=?_);refine BD (fun t=>t=⟨look [(2, .v (.string name)),(4, .bp 0 0),(5, .bp 1 0),(7, .bp 2 0),(8, .bp 3 0),(9, .v (.slice none 0 0)),(10, .v (.int .i64 0)),(11, .v (.int .i64 e0))],⟨[Ap f,AB dir,Al n,[.v (.slice none 0 0)]],[]⟩⟩) ?_ ?_
 ·refine Ab (h:=Dv (h:=?_));refine AF true rfl rfl (fun kd ka=>?_) (fun kd ka=>?_)
  ·refine l_ (h:=?_);refine Ak (AX (Xa n hns) ?_);rintro r rfl;refine D1 (h:=Bm (h:=e_ (?_)));refine A3 rfl (fun ke kc=>?_) (fun ke kc=>?_)
   ·have hee:e0=22:=by rw[he0,if_neg (by omega),if_pos kc]
    refine Aq (D4 (h:=?_));refine⟨_,rfl,?_⟩;rw[hee];exact(wk 4 0)
   have hee:e0=Cr f dir name:=by rw[he0,if_neg (by omega),if_neg (by simp[kc]),ka]
   refine Ci (AT (?_));refine⟨_,rfl,?_⟩;rw[hee];exact(wk 4 0)
  have hee:e0=Cr f dir name:=by rw[he0,if_pos ka]
  refine DE (h:=e_ (Ja (h:=Ci (AT (?_)))));refine⟨_,rfl,?_⟩;rw[hee];exact(wk 4 0)
 rintro t rfl;refine Be (h:=D3 (h:=?_));refine A3 rfl (fun kh kf=>?_) (fun kh kf=>?_)
 ·refine w_ (MP (h:=DY (h:=?_)));refine AO (r:=Cs (Fl f dir name n)) none (h5:=?_) (h6:=⟨rfl,rfl,rfl⟩)
  rw[show Fl f dir name n=([],[],e0) by
   unfold Fl;by_cases h:Cr f dir name=0
   ·rw[if_neg (by omega)]at he0 ⊢;by_cases h2:J4 n=false
    ·rw[if_pos h2]at he0 ⊢;rw[he0]
    rw[if_neg h2]at he0;omega
   rw[if_pos h]at he0 ⊢;rw[he0]]
  exact Em _
 have hpl:Cr f dir name=0:=by
  by_cases h:Cr f dir name=0
  ·exact h
  rw[if_pos h]at he0;omega
 have hpn:¬J4 n=false:=by
  intro h;rw[if_neg (by omega),if_pos h]at he0;omega
 refine FA (h:=J2 (h:=?_));refine AK (LV f dir name hf) ?_;refine EU (h:=Cl (h:=BO (h:=?_)));refine A3 rfl (fun kl kg=>?_) (fun kl kg=>?_)
 ·refine Fh (h:=?_);refine AO (r:=Cs (Fl f dir name n)) none (h5:=?_) (h6:=⟨rfl,rfl,rfl⟩);rw[Fl,if_neg (by omega),if_neg hpn,if_pos (by omega)];exact Em _
 obtain⟨q,i,d,n0,hdq,hq,hn0,ft,om,fg,hk0,hnm⟩:=L9 (name:=name) (dir:=dir) (f:=f) hpl;have hil:=(AZ.1 hn0).1;have hql:=(AZ.1 hq).1;have hvd:=hv.vd d (Aj hq);have hatI:GW f dir.1=some d:=by rw[hdq,Nn,hq]
 have ya:(f.map CQ)[q]?=some (CQ d):=by rw[List.getElem?_map,hq];rfl
 have hnx1:=hvd.next2;have hnx2:=hvd.nextM;have hdl:=hvd.len;refine AG (H8 (h:=?_));refine A7 (DM (n:=q) rfl rfl hdq ya ?_);refine l_ (h:=CP (h:=Fu (h:=n_ (h:=Dt (h:=m_ (h:=?_))))));refine AF false rfl rfl (fun ko kk=>?_) (fun ko kk=>?_)
 ·refine Co (h:=EV (h:=Fh (h:=?_)));refine AO (r:=Cs (Fl f dir name n)) none (h5:=?_) (h6:=⟨rfl,rfl,rfl⟩);rw[Fl,if_neg (by omega),if_neg hpn,if_neg (by omega),hatI];simp only;rw[if_pos (by first|exact .inl (by simp at *;omega)|exact .inr (.inl (by omega))|exact .inr (.inr (by assumption)))];exact Em _
 refine D2 (h:=BZ (h:=?_));refine AF false rfl rfl (fun kq km=>?_) (fun kq km=>?_)
 ·refine EV (h:=Fh (h:=?_));refine AO (r:=Cs (Fl f dir name n)) none (h5:=?_) (h6:=⟨rfl,rfl,rfl⟩);rw[Fl,if_neg (by omega),if_neg hpn,if_neg (by omega),hatI];simp only;rw[if_pos (by first|exact .inl (by simp at *;omega)|exact .inr (.inl (by omega))|exact .inr (.inr (by assumption)))];exact Em _
 refine Fv (h:=?_);refine Ak (AX (Tr f dir hf) ?_);rintro r rfl;refine Cq (h:=?_);refine A3 rfl (fun ks kp=>?_) (fun ks kp=>?_)
 ·refine Fh (h:=?_);refine AO (r:=Cs (Fl f dir name n)) none (h5:=?_) (h6:=⟨rfl,rfl,rfl⟩);rw[Fl,if_neg (by omega),if_neg hpn,if_neg (by omega),hatI];simp only;rw[if_pos (by first|exact .inl (by simp at *;omega)|exact .inr (.inl (by omega))|exact .inr (.inr (by assumption)))];exact Em _
 refine AG (Bw (h:=?_));refine A7 (Bo [] rfl (.cons _ _ _ _ _ rfl (A6 _) .nil) (by decide) .nil (Og f q d hf hq (by omega)) ?_);rintro r bc tc ⟨rfl,cap,cap1,yk,yz,rfl,rfl⟩;refine⟨rfl,_,(Om (n:=6) rfl f q d d.nodes cap cap1:Back _ [] _ [_,_,_,_,_,_,_,_]),?_⟩;have hD0:(DB f q d 7 cap cap1)[0+q * 2+1]?=some (.bs 7 0 8 d.nodes.length cap1):=Py hql;obtain⟨mk,hmk⟩:∃mk,mk=Gv n d.next dir.2:=⟨_,rfl⟩;refine CP (h:=H8 (h:=Je (h:=Je (h:=?_))));refine A7 (Hr (y:= .agg (Al ⟨d.next,n.kind,n.mode,n.uid,n.gid,0,n.target,[]⟩)) (E3 ⟨rfl,rfl⟩) ?_);refine CP (h:=?_);refine BD (fun t=>t=⟨look [(2, .v (.string name)),(5, .bp 1 0),(8, .bp 3 0),(15, .bp 8 0),(16, .bp 9 0)],⟨[Ap f,AB dir,Al n,[.v (.slice none 0 0)],AB (AJ f dir name).1,CQ d,DB f q d 7 cap cap1,NB d.nodes cap1,[.bs 6 0 2 f.length cap],Al mk],[]⟩⟩) ?_ ?_
 ·refine B2 (h:=BO (h:=?_));refine A3 rfl (fun kt kr=>?_) (fun kt kr=>?_)
  ·have hmk2:mk=⟨d.next,n.kind,n.mode,n.uid,n.gid,dir.2,n.target,[]⟩:=by rw[hmk];unfold Gv;rw[if_pos kr]
   refine Aq (Ac (h:=Jf (h:=?_)));refine⟨_,rfl,?_⟩;rw[hmk2];exact CF 10 0 (by simp[Am,Af,Aa,FG,FH,AB,Al,Ap,CQ])
  have hmk2:mk=⟨d.next,n.kind,n.mode,n.uid,n.gid,0,n.target,[]⟩:=by rw[hmk];unfold Gv;rw[if_neg kr]
  refine Ci (AT (?_));refine⟨_,rfl,?_⟩;rw[hmk2];exact CF 10 0 (by simp[Am,Af,Aa,FG,FH,AB,Al,Ap,CQ])
 rintro t rfl;refine BD (fun t=>∃capx,(d.nodes++[mk]).length<=capx/\t=⟨look [(2, .v (.string name)),(5, .bp 1 0),(8, .bp 3 0),(15, .bp 8 0),(16, .bp 9 0)],⟨[Ap f,AB dir,Al n,[.v (.slice none 0 0)],AB (AJ f dir name).1,CQ d,DB f q {d with nodes:=d.nodes++[mk]} 7 cap capx,NB (d.nodes++[mk]) capx,[.bs 6 0 2 f.length cap],Al mk],[]⟩⟩) ?_ ?_
 ·refine BJ ([(0,Ap f),(1,AB dir),(2,Al n),(3,[.v (.slice none 0 0)]),(4,AB (AJ f dir name).1),(5,CQ d),(6,DB f q d 7 cap cap1),(8,[.bs 6 0 2 f.length cap]),(9,Al mk)]) 16 (h:=?_);refine J6 0 rfl (fun h0 hS=>H4 rfl ⟨rfl,rfl⟩) ?_;refine J6 1 rfl (fun h0 hS=>Fa rfl (kb hS rfl) rfl ⟨rfl,rfl⟩) ?_;refine J6 2 rfl (fun h0 hS=>H4 rfl ⟨rfl,rfl⟩) ?_;refine J6 3 rfl (fun h0 hS=>Fa rfl (kb hS rfl) rfl ⟨rfl,rfl⟩) ?_;refine J6 4 rfl (fun h0 hS=>H4 rfl ⟨rfl,rfl⟩) ?_;refine J6 5 rfl (fun h0 hS=>Fa rfl (kb hS rfl) rfl ⟨rfl,rfl⟩) ?_;refine J6 6 rfl (fun h0 hS=>H4 rfl ⟨rfl,rfl⟩) ?_;refine J6 7 rfl (fun h0 hS=>Fa rfl (kb hS rfl) rfl ⟨rfl,rfl⟩) ?_;refine J6 8 rfl (fun h0 hS=>EF (m:=q) rfl rfl hdq hql ⟨rfl,rfl⟩) ?_;refine J6 9 rfl (fun h0 hS=>H4 rfl ⟨rfl,rfl⟩) ?_;refine J6 10 rfl (fun h0 hS=>Fa (row:=DB f q d 7 cap cap1) rfl (kb hS rfl) hD0 ⟨rfl,rfl⟩) ?_;refine J6 11 rfl (fun h0 hS=>Kv rfl (kb hS rfl) rfl ⟨rfl,rfl⟩) ?_;refine J6 12 rfl (fun h0 hS=>PV (by repeat (first|exact DenseA.nil _|(apply DenseA.cons;(focus exact rfl);(focus exact rfl);(focus exact rfl);(focus exact rfl))|(apply DenseA.consE;(focus exact rfl);(focus exact rfl);(focus exact rfl)))) rfl rfl rfl rfl ⟨rfl,rfl⟩) ?_;refine c_ 13 rfl (OS rfl rfl rfl (by rw[Pw yz];omega) Ma (by omega) (by omega) ?_ ?_)
  ·rintro hg row2 bx2 hs hb;obtain rfl:=YO hs hg;obtain rfl:bx2=[_,_,_,_,_,_,_,_,_,_]:=hb.one.2;have hgx:(d.nodes++[mk]).length<=cap1:=by simpa using hg
   refine o_ (h:=J6 14 rfl (fun h0 hS=>EF (m:=q) rfl rfl hdq hql ⟨rfl,rfl⟩) ?_);refine J6 15 rfl (fun h0 hS=>H4 rfl ⟨rfl,rfl⟩) ?_;refine H7 16 rfl (Es rfl rfl rfl rfl rfl rfl (Yk mk hql) (by repeat constructor) ?_);refine J1 (h:=?_);refine AT ?_;exact⟨_,⟨_,hgx,rfl⟩,CF 10 0 (by simp[Am,Af,Aa,FG,FH,AB,Al,Ap,CQ])⟩
  rintro hg cap3 k bx2 mz hs;rw[show((NB d.nodes cap1).drop 0).take (d.nodes.length * 8)++Cf (.agg (Al mk))++List.replicate ((cap3 - (d.nodes.length+1)) * 8) AV.any=NB (d.nodes++[mk]) cap3 from YN d.nodes mk cap1 cap3]at hs;obtain⟨rfl,rfl⟩:k=10/\bx2=[_,_,_,_,_,_,_,_,_,_,_]:=hs.eq;have hgx:(d.nodes++[mk]).length<=cap3:=by simpa using mz
  refine o_ (h:=J6 14 rfl (fun h0 hS=>EF (m:=q) rfl rfl hdq hql ⟨rfl,rfl⟩) ?_);refine J6 15 rfl (fun h0 hS=>H4 rfl ⟨rfl,rfl⟩) ?_;refine H7 16 rfl (Es rfl rfl rfl rfl rfl rfl (Yk mk hql) (by repeat constructor) ?_);refine J1 (h:=?_);refine AT ?_;exact⟨_,⟨_,hgx,rfl⟩,JZ [0,1,2,3,4,5,6,10,8,9] (fun i hi=>absurd hi (Nat.not_lt_zero i)) (by decide) (.cons _ _ _ _ _ rfl rfl (.cons _ _ _ _ _ rfl rfl (.cons _ _ _ _ _ rfl rfl (.cons _ _ _ _ _ rfl rfl (.cons _ _ _ _ _ rfl rfl (.cons _ _ _ _ _ rfl rfl (.cons _ _ _ _ _ rfl (UN (by rfl) _ _ _ _ _) (.cons _ _ _ _ _ rfl (Ry _ _ _) (.cons _ _ _ _ _ rfl rfl (.cons _ _ _ _ _ rfl rfl .nil)))))))))) (by repeat (first|exact SubK.nil|refine SubK.cons _ _ _ _ rfl (A6 _) ?_))⟩
 rintro t ⟨capx,hcapx,rfl⟩;have hasc2:Fk (d.nodes++[mk]):=List.pairwise_append.2 ⟨hvd.asc,List.pairwise_singleton _ _,fun x hx y hy=>by obtain rfl:=List.mem_singleton.1 hy;rw[hmk];exact hvd.lt x hx⟩;have hn2:(d.nodes++[mk])[i]?=some n0:=by rw[DD hil];exact hn0
 have hidx2:JH (f.set q ⟨d.next+1,d.nodes++[mk]⟩) dir=(i:Int):=Ut hdq (d:=⟨d.next+1,d.nodes++[mk]⟩) (by simp[hql]) hasc2 hn2 ft
 have hf2:FlsB (f.set q ⟨d.next+1,d.nodes++[mk]⟩):=hf.set_ (by have:=hvd.len;simp;omega) (fun m hm=>by
  rcases List.mem_append.1 hm with h|h
  ·have:=hvd.many m h;omega
  obtain rfl:=List.mem_singleton.1 h;rw[hmk];simp[Gv])
 have hmki:mk.ino=d.next:=by rw[hmk];rfl
 have hmk0:(Al mk)[0+0]?=some (.v (.int .i64 d.next)):=by rw[hmk];rfl
 refine H8 (h:=?_);refine A7 (EF (m:=q) rfl rfl hdq hql ?_);refine f_ (h:=?_);refine A7 (Fa rfl rfl (jR hql) ?_);refine A7 (NY rfl rfl (by dsimp only;omega) ?_);refine A7 (EF (m:=q) rfl rfl hdq hql ?_);refine f_ (h:=?_);refine Mz (Es rfl rfl rfl rfl rfl rfl (US (d':=⟨d.next+1,d.nodes++[mk]⟩) (j':=7) (cap1':=capx) (k:=0) (cs:=[.v (.int .i64 (d.next+1))]) hql (by repeat constructor) (by simp)) (by repeat constructor) ?_);refine e_ (J2 (h:=Ac (h:=?_)));refine A7 (Bo [6,7] rfl (.cons _ _ _ _ _ rfl (A6 _) (.cons _ _ _ _ _ rfl (A6 _) (.cons _ _ _ _ _ rfl (A6 _) (.cons _ _ _ _ _ rfl (LeA.of_eq (show AV.v (.int .i64 mk.ino)=_ by rw[hmki])) .nil)))) (by decide) (.cons _ _ _ _ _ rfl (KV (by rfl) _ _ _ _ _) (.cons _ _ _ _ _ rfl (K0 _ _ _) .nil)) (Yi f q ⟨d.next+1,d.nodes++[mk]⟩ n0 i dir name d.next cap capx hf2 hql hdq hidx2 hn2 yk hcapx) ?_);rintro r bc tc ⟨rfl,rfl,rfl⟩;refine⟨rfl,_,(On (Bl rfl) (Bl rfl) (by decide) f q ⟨d.next+1,d.nodes++[mk]⟩ (entS (d.nodes++[mk]) i n0 name d.next) cap capx capx:Back _ [6,7] _ [_,_,_,_,_,_,_,_,_,_]),?_⟩;refine e_ (?_);refine BD (fun t=>t=⟨look [(8, .bp 3 0),(9, .sl 7 [FE (dir,name,(0,0),(dir.1,d.next))] none),(10, .v (.int .i64 0))],⟨[Ap f,AB dir,Al n,Ap (f.set q ⟨d.next+1,entS (d.nodes++[mk]) i n0 name d.next⟩)],[]⟩⟩) ?_ ?_
 ·refine BJ ([(0,Ap f),(1,AB dir),(2,Al n),(4,AB (AJ f dir name).1),(5,CQ d),(8,[.bs 6 0 2 f.length cap]),(9,Al mk)]) 13 (h:=A9 0 (h:=A9 1 (h:=AE 2 (h:=?_))));refine CE 3 rfl (fun _ hS=>JC (y:= .agg (AB (0,0))) (E3 ⟨rfl,rfl⟩) (by repeat (first|exact A6 _|exact LeA.nil _|exact LeL.refl _|refine LeA.agg ⟨rfl,rfl⟩|refine LeA.tup ⟨rfl,rfl⟩|exact LeL.nil|refine LeL.cons ⟨rfl,rfl⟩ ⟨rfl,rfl⟩|exact LeA.any _)) ⟨rfl,rfl⟩) ?_;refine AA 4 (h:=A9 5 (h:=AA 6 (h:=?_)));refine CE 7 rfl (fun _ hS=>Fa (row:=Al mk) rfl (kb hS rfl) hmk0 ⟨rfl,rfl⟩) ?_;refine Kz 8 (h:=?_);refine c_ 9 rfl (AX (Ns dir name (0,0) (dir.1,d.next)) ?_);rintro r rfl;refine o_ (h:=Ax 10 (h:=B8 11 (h:=B8 12 (h:=z_ (h:=?_)))));refine AT ?_;exact⟨_,rfl,Jm 4 2 rfl (congrArg (fun x=>[Ap f,AB dir,Al n,x]) (NE (k:=0) (i:=6) (j:=7) (d:=⟨d.next+1,d.nodes++[mk]⟩) (d':=⟨d.next+1,entS (d.nodes++[mk]) i n0 name d.next⟩) hql rfl (KZ _ _ _ _ _) yk (by rw[KZ];exact hcapx) (Bl rfl) (Bl rfl) rfl rfl)) (.cons _ _ _ _ rfl (A6 _) (.cons _ _ _ _ rfl (A6 _) (.cons _ _ _ _ rfl (A6 _) .nil)))⟩
 rintro t rfl;refine BH (?_);refine A4 ?_;rw[List.length_map]at kk;rw[Fl,if_neg (by omega),if_neg hpn,if_neg (by omega),hatI];simp only;rw[if_neg (by rw[kp];simp;omega),hdq,Int.toNat_natCast,<-ft,<-Oo hvd hn0,ft,<-hmk,show entS d.nodes i n0 name d.next++[mk]=entS (d.nodes++[mk]) i n0 name d.next by unfold entS;rw[List.set_append_left _ _ hil],<-hdq];rfl
end
theorem Uu(f:AR)(hf:FlsB f):AFn prog 182 [.agg (Ap f)] (fun r=>r= .agg (Ap f)):=by
 intro w St bl vs hr hv;have hbl:bl=[]:=by have:=hr.bxlen;simpa using this
 subst hbl;simp only[AN]at hv;obtain⟨z,zs,rfl,hz,rfl⟩:=hv;have hz':Ai St w (.agg (Ap f)) z:=by have:=JT _ _ hz;simpa[DW,FZ,Ap]using this
 have hF:=Y3 hr.stlt hf hz';refine Calls.mono (Old.Copy_any z f w hF) ?_;rintro e w' ⟨dv,L,rfl,hD,hL,hB⟩;have hsz:=hB.size;obtain⟨d1,d2,d3,d4⟩:=hD;let St':Nat->Nat->Prop:=fun b o=>St b o\/(w.heap.size<=b/\b<w'.heap.size);let G':Gh:=⟨St',[],[]⟩;have hfresh:∀{α:Type} {sz:Nat} {cell:α->Nat->Value} {E:TypeId} {v:Value} {xs:List α},Old.OwnL sz cell E w' w.heap.size v xs->∀b,v.ownBlock=some b->∀o,St' b o:=fun h b hb o=> .inr (h.lt b hb)
 have hents:∀(y:Nod×Value),Old.OwnL 2 Old.entCell 234 w' w.heap.size y.2 y.1.entries->Ai St' w' (.sl 2 (y.1.entries.map D6) none) y.2:=by
  intro y hy;refine Ps hy (hfresh hy) (fun _ _=>rfl) fun e _ j av hj=>?_
  match j,hj with
  |0,hj=>injection hj with hj;subst hj;simp only[Ai];rfl
  |1,hj=>injection hj with hj;subst hj;simp only[Ai];rfl
 have hnod:∀(y:Nod×Value),Old.OwnL 2 Old.entCell 234 w' w.heap.size y.2 y.1.entries->∀j av,(Al y.1)[j]?=some av->Ai St' w' av (Old.nodCell y j):=by
  intro y hy j av hj
  match j,hj with
  |0,hj=>injection hj with hj;subst hj;simp only[Ai];rfl
  |1,hj=>injection hj with hj;subst hj;simp only[Ai];rfl
  |2,hj=>injection hj with hj;subst hj;simp only[Ai];rfl
  |3,hj=>injection hj with hj;subst hj;simp only[Ai];rfl
  |4,hj=>injection hj with hj;subst hj;simp only[Ai];rfl
  |5,hj=>injection hj with hj;subst hj;simp only[Ai];rfl
  |6,hj=>injection hj with hj;subst hj;simp only[Ai];rfl
  |7,hj=>injection hj with hj;subst hj;exact hents y hy
  |j+8,hj=>exact absurd hj (by simp[Al])
 have hdev:Ai St' w' (.sl 2 (L.map fun x=>CQ (Old.dvcOf x)) none) dv:=by
  refine Ps d1 (hfresh d1) (fun _ _=>rfl) fun x hx j av hj=>?_;obtain⟨f1,f2,f3⟩:=(d2 x hx).1
  match j,hj with
  |0,hj=>injection hj with hj;subst hj;simp only[Ai];rfl
  |1,hj=>
    injection hj with hj;subst hj;have key:=Ps f1 (St:=St') (hfresh f1) (enc:=fun y=>Al y.1) (fun _ _=>rfl) fun z hz j av hj=>hnod z (f2 z hz).1 j av hj;have e:((Old.dvcOf x).nodes.map Al)=x.2.2.map fun y=>Al y.1:=by simp[Old.dvcOf]
    rw[e];exact key
  |j+2,hj=>exact absurd hj (by simp[CQ])
 have hst:∀b o,St b o->b<w.heap.size:=hr.stlt;refine⟨.agg (Ap f),[],[],G',⟨rfl,rfl,rfl⟩,⟨?_,?_,?_,?_,rfl,?_,?_,?_,?_,rfl,?_,?_,?_⟩,⟨?_,?_,?_⟩,?_⟩
 ·intro i b hi;simp at hi
 ·exact⟨hB.os,hB.tape,hB.output,hB.size,fun k hk _=>hB.block k hk⟩
 ·rintro b o (h|h)
  ·have:=hst b o h;omega
  exact h.2
 ·rintro b o (h|h)
  ·exact .inl h
  exact .inr h.1
 ·show([]:List Nat).Nodup;simp
 ·intro b hb;simp[G']at hb
 ·intro b hb;simp[G']at hb
 ·intro i b row hi;simp[G']at hi
 ·intro g n u T sz rows hg;simp[G']at hg
 ·intro g n u hg;simp[G']at hg
 ·intro g g' n n' u u' hg;simp[G']at hg
 ·exact fun b o h=>⟨.inl h,hB.cell (p:=⟨b,o,none⟩) (hst b o h)⟩
 ·intro i b hi;simp at hi
 ·intro g n u hg;simp at hg
 refine KL _ _ ?_;unfold Ap;rw[<-hL,Old.flsOf,List.map_map];simp only[Ai,Bc];have hdev2:Ai St' w' (.sl 2 (L.map (CQ ∘ Old.dvcOf)) none) dv:=hdev;simp only[Ai]at hdev2;exact⟨[dv],rfl,dv,[],rfl,hdev2,rfl⟩
def QL(f:AR)(a top:A8):Bool:=M0 f top 17 a
def K4:List Int:=[2,20,22]
def Ka(a b:Int):Int:=if a=2\/b=2 then 2 else if a=20\/b=20 then 20 else if a=22\/b=22 then 22 else 0
theorem Yl{a b:Int}{j:Nat}{x:Int}(hx:K4[j]?=some x)(ha:∀i y,i<j->K4[i]?=some y->¬(a=y\/b=y))(h:a=x\/b=x):Ka a b=x:=by
 unfold Ka
 match j,hx with
 |0,hx=>injection hx with hx;subst hx;rw[if_pos h]
 |1,hx=>
   injection hx with hx;subst hx;rw[if_neg (ha 0 2 (by omega) rfl),if_pos h]
 |2,hx=>
   injection hx with hx;subst hx;rw[if_neg (ha 0 2 (by omega) rfl),if_neg (ha 1 20 (by omega) rfl),if_pos h]
 |j+3,hx=>exact absurd hx (by simp[K4])
theorem Ym(f:AR)(a:A8)(name:AD):Cr f a name=0\/Cr f a name=2\/Cr f a name=20\/Cr f a name=22:=by
 unfold Cr;split
 ·exact .inr (.inl rfl)
 split
 ·split
  ·exact .inl rfl
  exact .inr (.inr (.inr rfl))
 exact .inr (.inr (.inl rfl))
theorem lT{a b:Int}(ha:∀i y,i<3->K4[i]?=some y->¬(a=y\/b=y)):Ka a b=0:=by
 unfold Ka;rw[if_neg (ha 0 2 (by omega) rfl),if_neg (ha 1 20 (by omega) rfl),if_neg (ha 2 22 (by omega) rfl)]
theorem Uv{f:AR}{x y:A8}{name name2:AD}(h:Ka (Cr f x name) (Cr f y name2)=0):Cr f x name=0/\Cr f y name2=0:=by
 unfold Ka at h;split at h
 ·omega
 split at h
 ·omega
 split at h
 ·omega
 rename_i h1 h2 h3;have a:=Ym f x name;have b:=Ym f y name2;omega
def Fm(f:AR)(src to:A8)(a o:A8)(e:Int):Int:=
 if e=0 then(if AU f o=true/\AU f a=false then 21 else if AU f o=false/\AU f a=true then 20 else if AU f o=true/\N2 f o=false then 39 else 0)else if MT f to=true/\src≠to then 28 else 0
def O3(ns:List Nod)(src:A8)(name:AD)(to:A8)(name2:AD)(a o:A8)(e:Int):List Nod:=
 if e=0 then CK (Bk (Bk ns src.2 name 0) to.2 name2 a.2) o.2 else Bk (Bk ns src.2 name 0) to.2 name2 a.2
def M4(ns:List Nod)(i:Int)(p:Int)(b:Bool):List Nod:=if b=true then DJ ns i (fun n=>{n with parent:=p})else ns
def Gd(f:AR)(src:A8)(name:AD)(to:A8)(name2:AD):Fj:=
 if Ka (Cr f src name) (Cr f to name2)≠0 then([],[],Ka (Cr f src name) (Cr f to name2))else if(AJ f src name).2≠0 then([],[],(AJ f src name).2)else if src.1≠to.1 then([],[],18)else
 if AU f (AJ f src name).1=true/\QL f to (AJ f src name).1=true then([],[],22)else if(AJ f to name2).2=0/\(AJ f to name2).1=(AJ f src name).1 then(f,[],0)else
 if Fm f src to (AJ f src name).1 (AJ f to name2).1 (AJ f to name2).2≠0 then([],[],Fm f src to (AJ f src name).1 (AJ f to name2).1 (AJ f to name2).2)else
 (K1 f to.1.toNat fun ns=>M4 (O3 ns src name to name2 (AJ f src name).1 (AJ f to name2).1 (AJ f to name2).2) (AJ f src name).1.2 to.2 (AU f (AJ f src name).1),[(src,name,(AJ f src name).1,(0,0)),(to,name2,(AJ f to name2).1,(AJ f src name).1)],0)
theorem lU(f:AR):LeA (.tup [.agg (Ap f), .v (.slice none 0 0), .v (.int .i64 0)]) (Cs (f,[],0)):=LeA.tup (.cons (A6 _) (.cons (LeA.nil 7) (.cons (A6 _) .nil)))
theorem lV{n:Nat}{bx:List (List AV)}{k i j:Nat}{f:AR}{q:Nat}{d:Dvc}{cap cap0 cap1:Nat}(hq:q<f.length)(hc:f.length<=cap)(ka:d.nodes.length<=cap1)(hni:n<=i)(hnj:n<=j)
    (hi:bx[i]?=some (DB f q d j cap cap1)) (hj:bx[j]?=some (NB d.nodes cap1)):Fc (Ey n bx (k+2)) (.agg [.bs i 0 2 f.length cap0])= .agg (Ap (f.set q d)):=by
 have key:=NA (n:=n) (bx:=bx) (k:=k) (i:=i) (j:=j) (f:=f.set q d) (K:=q) (d:=d) (cap:=cap) (cap0:=cap0) (cap1:=cap1) (by simp[hq]) (by simpa using hc) ka hni hnj (by rw[hi,UT]) hj;rw[List.length_set]at key;exact key
theorem lW{n:Nat}{bx:List (List AV)}{k j sz cap:Nat}{rows:List (List AV)}(hn:n<=j)(hj:bx[j]?=some (Cm sz cap rows))(hp:∀r∈rows,∀x∈r,∃v,x= .v v):Ey n bx (k+1) j=some (Cm sz cap rows):=by
 have:Nat.blt j n=false:=by rw[<-Bool.not_eq_true,Nat.blt_eq];omega
 simp only[Ey,this,hj,Option.map_some,Pu];rw[Pv _ rfl]
 congr 2
 conv=>rhs;rw[<-List.map_id rows]
 apply List.map_congr_left;intro r hr
 conv=>rhs;rw[id,<-List.map_id r]
 apply List.map_congr_left;intro x hx;obtain⟨v,rfl⟩:=hp r hr x hx;rfl
theorem lX(l:List MQ):∀r∈l.map FE,∀x∈r,∃v,x= .v v:=by
 intro r hr x hx;obtain⟨c,_,rfl⟩:=List.mem_map.1 hr;simp[FE]at hx;rcases hx with h|h|h|h|h|h|h<;>exact⟨_,h⟩
theorem lY(l:List MQ):∀r∈l.map FE,r.length=7:=by
 intro r hr;obtain⟨c,_,rfl⟩:=List.mem_map.1 hr;rfl
theorem lZ{bx:List (List AV)}(bc:List (List AV))(h:∀r∈bc,∀x∈r,∃v,x= .v v):Back bx [] bc (bx++bc):=by
 refine⟨by simp,fun i row _ h=>?_,fun k i row h=>by simp at h,fun k row hk=>?_⟩
 ·rw[DD (AZ.1 h).1];exact h
 rw[Er (by omega),show bx.length+k - bx.length=k by omega];simp only[List.length_nil,Nat.zero_add]at hk;rw[hk,Pt]
 congr 1
 conv=>lhs;rw[<-List.map_id row]
 apply List.map_congr_left;intro x hx;obtain⟨v,rfl⟩:=h row (Aj hk) x hx;rfl
theorem Uw{d:Dvc}(hd:Fk d.nodes){i:Nat}{n0:Nod}(hn:d.nodes[i]?=some n0)(name:AD)(ino:Int):entS d.nodes i n0 name ino=Bk d.nodes n0.ino name ino:=by
 unfold entS Bk;rw[<-QG hd hn];rfl
section
theorem m5(d:A8)(name:AD)(o n:A8):ACall prog 233 [.agg (AB d), .v (.string name), .agg (AB o), .agg (AB n)] [] (fun r b t=>t=[]/\r= .bs 3 0 7 1 1/\b=[AB d,AB o,AB n,FE (d,name,o,n)]):=by
 refine enter Tryz.func233 rfl rfl rfl rfl rfl 4 rfl ?_;refine Fe (h:=b_ (h:=Ay (h:=Fy (h:=Fv (h:=Bd (h:=?_))))));refine A7 (gC (k:=3) rfl rfl rfl rfl (by repeat constructor) ?_);refine BW (h:=?_);refine AO (r:= .bs 3 0 7 1 1) none (h5:=(A6 _)) (h6:=⟨rfl,rfl,rfl⟩)
end
theorem Yn{n:Nat}{g:Nat->Option (List AV)}{j sz m cap0 cap:Nat}{rows:List (List AV)}(hn:n<=j)(hg:g j=some (Cm sz cap rows))(hr:∀r∈rows,r.length=sz)(hm:m=rows.length)(hc:rows.length<=cap):Ho n g (.bs j 0 sz m cap0)= .sl sz rows none:=by
 have:Nat.blt j n=false:=by rw[<-Bool.not_eq_true,Nat.blt_eq];omega
 simp only[Ho,this];exact UO hg hr hm hc
theorem m6(a b c:A8)(x:MQ):∀r∈[AB a,AB b,AB c,FE x],∀y∈r,∃v,y= .v v:=by
 intro r hr y hy;simp only[List.mem_cons,List.not_mem_nil,or_false]at hr;rcases hr with rfl|rfl|rfl|rfl
 ·simp[AB]at hy;rcases hy with h|h<;>exact⟨_,h⟩
 ·simp[AB]at hy;rcases hy with h|h<;>exact⟨_,h⟩
 ·simp[AB]at hy;rcases hy with h|h<;>exact⟨_,h⟩
 simp[FE]at hy;rcases hy with h|h|h|h|h|h|h<;>exact⟨_,h⟩
theorem Yo{j:Nat}{x:Int}(hx:K4[j]?=some x):x≠0:=by
 match j,hx with
 |0,hx=>injection hx with hx;omega
 |1,hx=>injection hx with hx;omega
 |2,hx=>injection hx with hx;omega
 |j+3,hx=>exact absurd hx (by simp[K4])
theorem Ux{ns:List Nod}{i k:Nat}{n0 m:Nod}(hi:ns[i]?=some n0)(hk:ns[k]?=some m)(name:AD)(ino:Int):∃m',(entS ns i n0 name ino)[k]?=some m'/\m'.ino=m.ino/\m'.entries.length<=m.entries.length+1:=by
 unfold entS;rw[List.getElem?_set];split
 ·rename_i e;subst e;rw[hi]at hk;injection hk with hk;subst hk;exact⟨{n0 with entries:=DP n0.entries name ino},by rw[if_pos (AZ.1 hi).1],rfl,Uq _ _ _⟩
 exact⟨m,hk,rfl,by omega⟩
theorem Yp{ns:List Nod}{i:Nat}{n0:Nod}(hi:ns[i]?=some n0){name:AD}{ino:Int}{m':Nod}(hm:m'∈entS ns i n0 name ino):∃m∈ns,m'.ino=m.ino/\m'.entries.length<=m.entries.length+1:=by
 rcases List.mem_or_eq_of_mem_set hm with h|h
 ·exact⟨m',h,rfl,by omega⟩
 subst h;exact⟨n0,Aj hi,rfl,Uq _ _ _⟩
theorem Yq{ns:List Nod}(h:Fk ns){i:Nat}{n0:Nod}(hn:ns[i]?=some n0)(name:AD)(ino:Int):Fk (entS ns i n0 name ino):=by
 have:=Uw (d:=⟨0,ns⟩) h hn name ino;simp only at this;rw[this];exact Ol h _ _ _
theorem m7(f:AR)(q:Nat)(d d':Dvc)(n:Nod)(i:Nat)(a:A8)(name:AD)(ino:Int)(cap cap1:Nat)(hf:FlsB (f.set q d'))(hq:q<f.length)(ha:a.1=(q:Int))(hi:JH (f.set q d') a=(i:Int))(hn:d'.nodes[i]?=some n)(hcap:f.length<=cap)(hcap1:d'.nodes.length<=cap1)(hnx:d'.next=d.next)(hl:d'.nodes.length=d.nodes.length):
    ACall prog 232 [.agg [.bs 0 0 2 f.length cap], .agg (AB a), .v (.string name), .v (.int .i64 ino)] [DB f q d 1 cap cap1,NB d'.nodes cap1] (fun r b t=>t=[]/\r= .tup []/\b=[DB f q ⟨d.next,entS d'.nodes i n name ino⟩ 1 cap cap1,NB (entS d'.nodes i n name ino) cap1]):=by
 have key:=Yi f q d' n i a name ino cap cap1 hf hq ha hi hn hcap hcap1;have e1:DB f q d' 1 cap cap1=DB f q d 1 cap cap1:=by unfold DB JJ L7;rw[hnx,hl]
 have e2:DB f q d 1 cap cap1=DB f q ⟨d.next,entS d'.nodes i n name ino⟩ 1 cap cap1:=by unfold DB JJ L7;rw[KZ,hl]
 rw[e1]at key;exact key.mono fun r b t ⟨h1,h2,h3⟩=>⟨h1,h2,by rw[h3,e2]⟩
theorem m8{f:AR}(hv:FlsV f){q:Nat}{d:Dvc}(hq:f[q]?=some d){i i2:Nat}{n1 n2:Nod}(hn1:d.nodes[i]?=some n1)(hn2:d.nodes[i2]?=some n2)(name name2:AD)(ai:Int)(ha:∃m∈d.nodes,m.ino=ai):
    ∃(X1 X2:List Nod) (m2:Nod),X1=entS d.nodes i n1 name 0/\X1[i2]?=some m2/\m2.ino=n2.ino/\X2=entS X1 i2 m2 name2 ai/\Fk X1/\Fk X2/\X1.length=d.nodes.length/\X2.length=d.nodes.length/\X2=Bk (Bk d.nodes n1.ino name 0) n2.ino name2 ai/\
     FlsB (f.set q ⟨d.next,X1⟩)/\FlsB (f.set q ⟨d.next,X2⟩)/\(∀m∈X2,m.entries.length<=1000)/\(∃m∈X2,m.ino=1)/\∃m∈X2,m.ino=ai:=by
 have hd:=hv.vd d (Aj hq);obtain⟨m2,hm2,hi2,hl2⟩:=Ux hn1 hn2 name 0;have e1:=Uw hd.asc hn1 name 0;have a1:=Yq hd.asc hn1 name 0;have e2:=Uw (d:=⟨0,entS d.nodes i n1 name 0⟩) a1 hm2 name2 ai;simp only at e2;have a2:=Yq a1 hm2 name2 ai
 have ke:∀m∈entS (entS d.nodes i n1 name 0) i2 m2 name2 ai,m.entries.length<=1000:=fun m hm=>by
  obtain⟨m',h1,_,h2⟩:=Yp hm2 hm;obtain⟨m'',h3,_,h4⟩:=Yp hn1 h1;have:=hd.many m'' h3;omega
 have hmem:∀x:Int,(∃m∈d.nodes,m.ino=x)->∃m∈entS (entS d.nodes i n1 name 0) i2 m2 name2 ai,m.ino=x:=by
  rintro x ⟨m,hm,rfl⟩;obtain⟨k,hk⟩:=List.getElem?_of_mem hm;obtain⟨m',h1,h2,_⟩:=Ux hn1 hk name 0;obtain⟨m'',h3,h4,_⟩:=Ux hm2 h1 name2 ai;exact⟨m'',Aj h3,h4.trans h2⟩
 obtain⟨r,hr,hr1,_⟩:=hd.rootMem;refine⟨_,_,m2,rfl,hm2,hi2,rfl,a1,a2,KZ _ _ _ _ _,by rw[KZ,KZ],by rw[e2,e1,hi2],hv.entS hq hn1 name 0,hv.b.set_ ?_ ke,ke,hmem 1 ⟨r,hr,hr1⟩,hmem ai ha⟩;show(entS _ _ _ _ _).length<=1000;rw[KZ,KZ];have:=hd.len;omega
section
theorem m9(f:AR)(src:A8)(name:AD)(to:A8)(name2:AD)(hv:FlsV f)(hs:name.size<=100000)(hs2:name2.size<=100000):AFn prog 175 [.agg (Ap f), .agg (AB src), .v (.string name), .agg (AB to), .v (.string name2)] (fun r=>r=Cs (Gd f src name to name2)):=by
 have hf:=hv.b;have P1:=OY f src name hf hs;have P2:=OY f to name2 hf hs2;have L1:=LV f src name hf;have L2:=LV f to name2 hf;obtain⟨pa,hpa⟩:∃x,Cr f src name=x:=⟨_,rfl⟩;obtain⟨pb,hpb⟩:∃x,Cr f to name2=x:=⟨_,rfl⟩;obtain⟨⟨A,e1⟩,hl1⟩:∃x,AJ f src name=x:=⟨_,rfl⟩;obtain⟨⟨O,e2⟩,hl2⟩:∃x,AJ f to name2=x:=⟨_,rfl⟩;rw[hpa]at P1;rw[hpb]at P2;rw[hl1]at L1;rw[hl2]at L2;simp only at L1 L2
 have hRen:Gd f src name to name2=(if Ka pa pb≠0 then([],[],Ka pa pb)else if e1≠0 then([],[],e1)else if src.1≠to.1 then([],[],18)else
     if AU f A=true/\QL f to A=true then([],[],22)else if e2=0/\O=A then(f,[],0)else if Fm f src to A O e2≠0 then([],[],Fm f src to A O e2)else
     (K1 f to.1.toNat fun ns=>M4 (O3 ns src name to name2 A O e2) A.2 to.2 (AU f A),[(src,name,A,(0,0)),(to,name2,O,A)],0)):=by
  unfold Gd;rw[hpa,hpb,hl1,hl2]
 have hol:K4.length=3:=rfl;refine enter Tryz.func175 rfl rfl rfl rfl rfl 0 rfl ?_;refine w_ (b_ (h:=b_ (h:=b_ (h:=Ck (h:=a_ (h:=a_ (h:=e_ (q_ (E0 10 (h:=A9 0 (h:=A9 1 (h:=AE 2 (h:=A9 4 (h:=A9 5 (h:=AE 6 (h:=?_))))))))))))))));refine c_ 3 rfl (AX (P1) ?_);rintro r rfl;refine o_ (h:=c_ 7 rfl (AX (P2) ?_));rintro r rfl;refine o_ (h:=B8 8 (h:=B8 9 (h:=z_ (h:=t_ (w_ (BT (h:=a_ (h:=e_ (q_ (w_ (a_ (h:=e_ (BF (?_))))))))))))));refine BL (fun m t=>∃j:Nat,j<=K4.length/\m=K4.length - j/\(∀i y,i<j->K4[i]?=some y->¬(pa=y\/pb=y))/\t=⟨look [(2, .v (.string name)),(4, .v (.string name2)),(5, .bp 0 0),(6, .bp 1 0),(8, .bp 2 0),(10, .bp 3 0),(13, .v (.int .i64 pa)),(14, .v (.int .i64 pb)),(15, .sl 1 (K4.map Cc) none),(16, .v (.int .i64 (j:Int)))],⟨[Ap f,AB src,AB to,[.v (.slice none 0 0)]],[]⟩⟩) (K4.length) ((wk 4 0)) (⟨0,BG _,rfl,fun i y hi=>by omega,rfl⟩) ?_;rintro m t ⟨j,hj,rfl,ha,rfl⟩;refine EH (h:=JD (h:=?_));refine A3 rfl (fun kd ka=>?_) (fun kd ka=>?_)
 ·obtain⟨hlt,x,hx,ya, -⟩:=Bx Cc (l:=K4) ka;refine Bq (h:=Ab (h:=Cp (h:=E6 (h:=Dv (h:=?_)))));refine AF false rfl rfl (fun ke kc=>?_) (fun ke kc=>?_)
  ·refine Jo (h:=L3 (h:=q_ (?_)));refine OK (fun _=>True) 8 (by kernel_rfl) ?_;refine Cw (i:=0) rfl rfl (by kernel_rfl) (by first|rfl|exact Ag rfl rfl (CM ‹_›)|exact Ag rfl rfl (CN ‹_›)|exact Ag rfl rfl (by simp[*])) (fun h0 hS=>E3 ⟨rfl,rfl⟩) trivial ?_;refine Cw (i:=1) rfl rfl (by kernel_rfl) (by first|rfl|exact Ag rfl rfl (CM ‹_›)|exact Ag rfl rfl (CN ‹_›)|exact Ag rfl rfl (by simp[*])) (fun h0 hS=>JB rfl ⟨rfl,rfl⟩) trivial ?_;refine Cw (i:=2) rfl rfl (by kernel_rfl) (by first|rfl|exact Ag rfl rfl (CM ‹_›)|exact Ag rfl rfl (CN ‹_›)|exact Ag rfl rfl (by simp[*])) (fun h0 hS=>JB rfl ⟨rfl,rfl⟩) trivial ?_;refine Cw (i:=3) rfl rfl (by kernel_rfl) (by first|rfl|exact Ag rfl rfl (CM ‹_›)|exact Ag rfl rfl (CN ‹_›)|exact Ag rfl rfl (by simp[*])) (fun h0 hS=>DM rfl rfl rfl (by first|assumption|rfl) ⟨rfl,rfl⟩) trivial ?_;refine Cw (i:=4) rfl rfl (by kernel_rfl) (by first|rfl|exact Ag rfl rfl (CM ‹_›)|exact Ag rfl rfl (CN ‹_›)|exact Ag rfl rfl (by simp[*])) (fun h0 hS=>OL rfl rfl ⟨rfl,rfl⟩) trivial ?_;refine H7 5 rfl (Es rfl rfl rfl rfl rfl rfl (by repeat constructor) (by repeat constructor) ?_);refine⟨.inr trivial,?_⟩;refine Cw (i:=6) rfl rfl (by kernel_rfl) (by first|rfl|exact Ag rfl rfl (CM ‹_›)|exact Ag rfl rfl (CN ‹_›)|exact Ag rfl rfl (by simp[*])) (fun h0 hS=>JU rfl ⟨rfl,rfl⟩) trivial ?_;refine Cw (i:=7) rfl rfl (by kernel_rfl) (by first|rfl|exact Ag rfl rfl (CM ‹_›)|exact Ag rfl rfl (CN ‹_›)|exact Ag rfl rfl (by simp[*])) (fun h0 hS=>JU rfl ⟨rfl,rfl⟩) trivial ?_;refine z_ (h:=t_ (BH (DG (h:=C1 (h:=?_)))));refine AO (r:=Cs (Gd f src name to name2)) none (h5:=?_) (h6:=⟨rfl,rfl,rfl⟩);rw[hRen,show Ka pa pb=x from Yl hx ha (.inl kc),if_pos (Yo hx)];exact Em _
  refine Cp (h:=m_ (h:=E6 (h:=Df (h:=Cq (h:=?_)))));refine A3 rfl (fun kh kf=>?_) (fun kh kf=>?_)
  ·refine q_ (?_);refine OK (fun _=>True) 8 (by kernel_rfl) ?_;refine Cw (i:=0) rfl rfl (by kernel_rfl) (by first|rfl|exact Ag rfl rfl (CM ‹_›)|exact Ag rfl rfl (CN ‹_›)|exact Ag rfl rfl (by simp[*])) (fun h0 hS=>E3 ⟨rfl,rfl⟩) trivial ?_;refine Cw (i:=1) rfl rfl (by kernel_rfl) (by first|rfl|exact Ag rfl rfl (CM ‹_›)|exact Ag rfl rfl (CN ‹_›)|exact Ag rfl rfl (by simp[*])) (fun h0 hS=>JB rfl ⟨rfl,rfl⟩) trivial ?_;refine Cw (i:=2) rfl rfl (by kernel_rfl) (by first|rfl|exact Ag rfl rfl (CM ‹_›)|exact Ag rfl rfl (CN ‹_›)|exact Ag rfl rfl (by simp[*])) (fun h0 hS=>JB rfl ⟨rfl,rfl⟩) trivial ?_;refine Cw (i:=3) rfl rfl (by kernel_rfl) (by first|rfl|exact Ag rfl rfl (CM ‹_›)|exact Ag rfl rfl (CN ‹_›)|exact Ag rfl rfl (by simp[*])) (fun h0 hS=>DM rfl rfl rfl (by first|assumption|rfl) ⟨rfl,rfl⟩) trivial ?_;refine Cw (i:=4) rfl rfl (by kernel_rfl) (by first|rfl|exact Ag rfl rfl (CM ‹_›)|exact Ag rfl rfl (CN ‹_›)|exact Ag rfl rfl (by simp[*])) (fun h0 hS=>OL rfl rfl ⟨rfl,rfl⟩) trivial ?_;refine H7 5 rfl (Es rfl rfl rfl rfl rfl rfl (by repeat constructor) (by repeat constructor) ?_);refine⟨.inr trivial,?_⟩;refine Cw (i:=6) rfl rfl (by kernel_rfl) (by first|rfl|exact Ag rfl rfl (CM ‹_›)|exact Ag rfl rfl (CN ‹_›)|exact Ag rfl rfl (by simp[*])) (fun h0 hS=>JU rfl ⟨rfl,rfl⟩) trivial ?_;refine Cw (i:=7) rfl rfl (by kernel_rfl) (by first|rfl|exact Ag rfl rfl (CM ‹_›)|exact Ag rfl rfl (CN ‹_›)|exact Ag rfl rfl (by simp[*])) (fun h0 hS=>JU rfl ⟨rfl,rfl⟩) trivial ?_;refine z_ (h:=t_ (BH (DG (h:=C1 (h:=?_)))));refine AO (r:=Cs (Gd f src name to name2)) none (h5:=?_) (h6:=⟨rfl,rfl,rfl⟩);rw[hRen,show Ka pa pb=x from Yl hx ha (.inr kf),if_pos (Yo hx)];exact Em _
  refine Dg (h:=?_);refine⟨_,_,?_,⟨j+1,hlt,rfl,GX hx ha (not_or.2 ⟨kc,kf⟩),rfl⟩,(wk 4 0)⟩;omega
 have e3:=CA Cc (l:=K4) hj ka;subst e3;have mh:Ka pa pb=0:=lT ha;obtain⟨hpl1,hpl2⟩:=Uv (f:=f) (x:=src) (y:=to) (name:=name) (name2:=name2) (by rw[hpa,hpb];exact mh);refine C4 (h:=J2 (h:=?_));refine AK (L1) ?_;refine Js (h:=?_);refine A3 rfl (fun kl kg=>?_) (fun kl kg=>?_)
 ·refine w_ (MP (h:=DY (h:=?_)));refine AO (r:=Cs (Gd f src name to name2)) none (h5:=?_) (h6:=⟨rfl,rfl,rfl⟩);rw[hRen,if_neg (by rw[mh];simp),if_pos kg];exact Em _
 have he1:e1=0:=by omega
 refine DF (h:=CG (h:=e_ (?_)));refine A3 rfl (fun ko kk=>?_) (fun ko kk=>?_)
 ·refine Fh (h:=?_);refine AO (r:=Cs (Gd f src name to name2)) none (h5:=?_) (h6:=⟨rfl,rfl,rfl⟩);rw[hRen,if_neg (by rw[mh];simp),if_neg (by simp[he1]),if_pos kk];exact Em _
 refine AG (C9 (h:=?_));refine AK (LT f A hf) ?_;refine Ay (h:=?_);refine BD (fun t=>(AU f A=true->QL f to A=false)/\t=⟨look [(2, .v (.string name)),(4, .v (.string name2)),(5, .bp 0 0),(6, .bp 1 0),(8, .bp 2 0),(10, .bp 3 0),(17, .bp 4 0),(19, .v (.bool (AU f A)))],⟨[Ap f,AB src,AB to,[.v (.slice none 0 0)],AB A],[]⟩⟩) ?_ ?_
 ·refine Eh (h:=?_);refine AF true rfl rfl (fun kq km=>?_) (fun kq km=>?_)
  ·refine Fv (h:=l_ (h:=?_));refine Ak (AX (iR f to A hf) ?_);rintro r rfl;refine Bm (h:=e_ (?_));refine A3 rfl (fun ks kp=>?_) (fun ks kp=>?_)
   ·refine Fh (h:=?_);refine AO (r:=Cs (Gd f src name to name2)) none (h5:=?_) (h6:=⟨rfl,rfl,rfl⟩);rw[hRen,if_neg (by rw[mh];simp),if_neg (by simp[he1]),if_neg (by simp[kk]),if_pos ⟨km,kp⟩];exact Em _
   have hbl:AU f A=true->QL f to A=false:=fun _=>kp;refine Ci (AT (?_));exact⟨_,⟨hbl,rfl⟩,(wk 5 0)⟩
  have hbl:AU f A=true->QL f to A=false:=fun h=>absurd (h.symm.trans km) (by decide);refine CO (h:=GC (h:=Ci (AT (?_))));exact⟨_,⟨hbl,rfl⟩,(wk 5 0)⟩
 rintro t ⟨hbl,rfl⟩;refine J2 (h:=?_);refine AK (L2) ?_;refine EU (h:=Ay (h:=?_));refine BD (fun t=>(e2=0->O≠A)/\t=⟨look [(2, .v (.string name)),(4, .v (.string name2)),(5, .bp 0 0),(6, .bp 1 0),(8, .bp 2 0),(10, .bp 3 0),(17, .bp 4 0),(18, .v (.int .i64 e2)),(19, .v (.bool (AU f A))),(20, .bp 5 0)],⟨[Ap f,AB src,AB to,[.v (.slice none 0 0)],AB A,AB O],[]⟩⟩) ?_ ?_
 ·refine Ab (h:=Dv (h:=?_));refine AF true rfl rfl (fun kt kr=>?_) (fun kt kr=>?_)
  ·refine Fv (h:=?_);refine Ak (Jk rfl rfl (by repeat constructor) (by repeat constructor) (fun w=>OZ _ _ _ _ w) (by kernel_rfl) ?_);refine Bm (h:=e_ (?_));refine A3 rfl (fun kv ku=>?_) (fun kv ku=>?_)
   ·refine Bw (h:=?_);refine AK (Uu f hf) ?_;refine s_ (h:=DY (h:=?_));refine AO (r:=Cs (Gd f src name to name2)) none (h5:=?_) (h6:=⟨rfl,rfl,rfl⟩);rw[hRen,if_neg (by rw[mh];simp),if_neg (by simp[he1]),if_neg (by simp[kk]),if_neg (fun h=>absurd h.2 (by rw[hbl h.1];decide)),if_pos ⟨kr,ku⟩];exact lU _
   have hoa:e2=0->O≠A:=fun _=>ku;refine Ci (AT (?_));exact⟨_,⟨hoa,rfl⟩,(wk 6 0)⟩
  have hoa:e2=0->O≠A:=fun h=>absurd h kr;refine DE (h:=e_ (Ja (h:=Ci (AT (?_)))));exact⟨_,⟨hoa,rfl⟩,(wk 6 0)⟩
 rintro t ⟨hoa,rfl⟩;refine BD (fun t=>Fm f src to A O e2=0/\t=⟨look [(2, .v (.string name)),(4, .v (.string name2)),(5, .bp 0 0),(6, .bp 1 0),(8, .bp 2 0),(10, .bp 3 0),(17, .bp 4 0),(18, .v (.int .i64 e2)),(19, .v (.bool (AU f A))),(20, .bp 5 0)],⟨[Ap f,AB src,AB to,[.v (.slice none 0 0)],AB A,AB O],[]⟩⟩) ?_ ?_
 ·refine Ab (h:=BO (h:=?_));refine A3 rfl (fun yf yb=>?_) (fun yf yb=>?_)
  ·refine C9 (h:=?_);refine AK (LT f O hf) ?_;refine Du (h:=m_ (h:=?_));refine AF true rfl rfl (fun yq yc=>?_) (fun yq yc=>?_)
   ·refine m_ (h:=D1 (h:=Bm (h:=e_ (?_))));refine A3 rfl (fun yu yg=>?_) (fun yu yg=>?_)
    ·refine Fh (h:=Bp (?_));refine AO (r:=Cs (Gd f src name to name2)) none (h5:=?_) (h6:=⟨rfl,rfl,rfl⟩);have h2:Fm f src to A O e2=21:=by unfold Fm;simp[yb,yc,yg]
     rw[hRen,if_neg (by rw[mh];simp),if_neg (by simp[he1]),if_neg (by simp[kk]),if_neg (fun h=>absurd h.2 (by rw[hbl h.1];decide)),if_neg (fun h=>hoa h.1 h.2),h2,if_pos (by decide)];exact Em _
    refine D5 (h:=F6 (h:=DT (h:=GC (h:=AG (Eh (h:=Fv (h:=?_)))))));refine Ak (AX (XZ f O hf) ?_);rintro r rfl;refine D1 (h:=Bm (h:=e_ (?_)));refine A3 rfl (fun yy yr=>?_) (fun yy yr=>?_)
    ·refine Fh (h:=?_);refine AO (r:=Cs (Gd f src name to name2)) none (h5:=?_) (h6:=⟨rfl,rfl,rfl⟩);have h2:Fm f src to A O e2=39:=by unfold Fm;simp[yb,yc,yg,yr]
     rw[hRen,if_neg (by rw[mh];simp),if_neg (by simp[he1]),if_neg (by simp[kk]),if_neg (fun h=>absurd h.2 (by rw[hbl h.1];decide)),if_neg (fun h=>hoa h.1 h.2),h2,if_pos (by decide)];exact Em _
    have h2:Fm f src to A O e2=0:=by unfold Fm;simp[yb,yc,yg,yr]
    refine Ci (AT (?_));exact⟨_,⟨h2,rfl⟩,(wk 6 0)⟩
   refine BB (h:=GC (h:=D5 (h:=D1 (h:=Cp (h:=Bm (h:=e_ (?_)))))));refine A3 rfl (fun ff fc=>?_) (fun ff fc=>?_)
   ·refine Fh (h:=Bp (?_));refine AO (r:=Cs (Gd f src name to name2)) none (h5:=?_) (h6:=⟨rfl,rfl,rfl⟩);have h2:Fm f src to A O e2=20:=by unfold Fm;simp[yb,yc,fc]
    rw[hRen,if_neg (by rw[mh];simp),if_neg (by simp[he1]),if_neg (by simp[kk]),if_neg (fun h=>absurd h.2 (by rw[hbl h.1];decide)),if_neg (fun h=>hoa h.1 h.2),h2,if_pos (by decide)];exact Em _
   have h2:Fm f src to A O e2=0:=by unfold Fm;simp[yb,yc,fc]
   refine AG (Eh (h:=CO (h:=GC (h:=Ci (AT (?_))))));exact⟨_,⟨h2,rfl⟩,(wk 6 0)⟩
  refine C9 (h:=?_);refine AK (Tr f to hf) ?_;refine m_ (h:=?_);refine AF true rfl rfl (fun fe fx=>?_) (fun fe fx=>?_)
  ·refine Fv (h:=?_);refine Ak (Jk rfl rfl (by repeat constructor) (by repeat constructor) (fun w=>Tt _ _ _ _ w) (by kernel_rfl) ?_);refine Bm (h:=e_ (?_));refine A3 rfl (fun fq od=>?_) (fun fq od=>?_)
   ·refine Fh (h:=?_);refine AO (r:=Cs (Gd f src name to name2)) none (h5:=?_) (h6:=⟨rfl,rfl,rfl⟩);have h2:Fm f src to A O e2=28:=by unfold Fm;rw[if_neg yb,if_pos ⟨fx,od⟩]
    rw[hRen,if_neg (by rw[mh];simp),if_neg (by simp[he1]),if_neg (by simp[kk]),if_neg (fun h=>absurd h.2 (by rw[hbl h.1];decide)),if_neg (fun h=>hoa h.1 h.2),h2,if_pos (by decide)];exact Em _
   have h2:Fm f src to A O e2=0:=by unfold Fm;rw[if_neg yb,if_neg (fun h=>h.2 od)]
   refine Ci (AT (?_));exact⟨_,⟨h2,rfl⟩,(wk 6 0)⟩
  have h2:Fm f src to A O e2=0:=by unfold Fm;rw[if_neg yb,if_neg (fun h=>absurd (h.1.symm.trans fx) (by decide))]
  refine DE (h:=e_ (Ja (h:=Ci (AT (?_)))));exact⟨_,⟨h2,rfl⟩,(wk 6 0)⟩
 rintro t ⟨h2,rfl⟩;obtain⟨q,i,d,n1,hsq,hq,hn1,hn1i,om,fg,hk1,hnm1⟩:=L9 hpl1;obtain⟨q',i2,d',n2,htq,hq',hn2,hn2i, -,hnode2,hk2,hnm2⟩:=L9 hpl2;obtain rfl:q=q':=by omega
 obtain rfl:d=d':=Option.some.inj (hq.symm.trans hq');have hvd:=hv.vd d (Aj hq);have hql:=(AZ.1 hq).1;have hil:=(AZ.1 hn1).1;obtain⟨e,he,hle⟩:=QH fg hk1 (by rw[hl1];exact he1);have hA1:A=(src.1,e.2):=by rw[hl1]at hle;exact congrArg Prod.fst hle
 have hAm:∃m∈d.nodes,m.ino=A.2:=by rw[hA1];exact(hvd.ent n1 (Aj hn1) e (LX he).1).2.2
 obtain⟨X1,X2,m2,hX1,hm2,hm2i,hX2,hasc1,hasc2,hx1l,hx2l,hX2D,hf1,hf2,ke,⟨r,hr,hr1⟩,⟨am,ham,hami⟩⟩:=m8 hv hq hn1 hn2 name name2 A.2 hAm;have hidx2:JH (f.set q ⟨d.next,X1⟩) to=(i2:Int):=Ut htq (d:=⟨d.next,X1⟩) (by simp[hql]) hasc1 hm2 (hm2i.trans hn2i)
 have hoo:e2=0->O.1=(q:Int)/\0<(E8 O.2 X2).length:=by
  intro h;obtain⟨e',he',hle'⟩:=QH hnode2 hk2 (by rw[hl2];exact h);have hO1:O=(to.1,e'.2):=by rw[hl2]at hle';exact congrArg Prod.fst hle'
  refine⟨by rw[hO1];exact htq,Ur hr ?_⟩;rw[hr1,hO1];exact(hvd.ent n2 (Aj hn2) e' (LX he').1).2.1.symm
 have hO1:e2=0->O.1=A.1:=fun h=>by rw[(hoo h).1,hA1];exact hsq.symm
 obtain⟨NS,hNS⟩:∃NS,NS=(if e2=0 then CK X2 O.2 else X2):=⟨_,rfl⟩
 have hNSf:NS=X2\/(e2=0/\NS=CK X2 O.2):=by
  by_cases h:e2=0
  ·exact .inr ⟨h,by rw[hNS,if_pos h]⟩
  exact .inl (by rw[hNS,if_neg h])
 have pk:NS.Sublist X2:=by
  rcases hNSf with h|⟨_,h⟩
  ·rw[h];exact List.Sublist.refl _
  rw[h];exact List.filter_sublist
 have hasc3:Fk NS:=hasc2.sublist pk
 have hAN:am∈NS:=by
  rcases hNSf with h|⟨h0,h⟩
  ·rw[h];exact ham
  rw[h];refine List.mem_filter.2 ⟨ham,decide_eq_true (.inl fun e=>hoa h0 ?_)⟩;exact Prod.ext (hO1 h0) (by rw[<-e,hami])
 obtain⟨i3,hm3⟩:=List.getElem?_of_mem hAN;have hil3:=(AZ.1 hm3).1;have hf3:FlsB (f.set q ⟨d.next,NS⟩):=hf.set_ (by have:=pk.length_le;have:=hvd.len;show NS.length<=1000;omega) fun m hm=>ke m (pk.subset hm);have hidx3:JH (f.set q ⟨d.next,NS⟩) A=(i3:Int):=Ut (by rw[hA1];exact hsq) (d:=⟨d.next,NS⟩) (by simp[hql]) hasc3 hm3 hami;obtain⟨m3,rfl⟩:∃m3,m3=am:=⟨_,rfl⟩;have hm3i:=hami;obtain⟨NS2,hNS2⟩:∃NS2,NS2=M4 NS A.2 to.2 (AU f A):=⟨_,rfl⟩;refine Bw (h:=?_);refine A7 (Bo [] rfl (.cons _ _ _ _ _ rfl (A6 _) .nil) (by decide) .nil (Og f q d hf hq (by omega)) ?_);rintro r bc tc ⟨rfl,cap,cap1,yk,yz,rfl,rfl⟩;refine⟨rfl,_,(Om (n:=6) rfl f q d d.nodes cap cap1:Back _ [] _ [_,_,_,_,_,_,_,_]),?_⟩;have hcx1:X1.length<=cap1:=by omega
 have hcx2:X2.length<=cap1:=by omega
 refine CP (h:=J2 (h:=?_));refine A7 (Bo [6,7] rfl (.cons _ _ _ _ _ rfl (A6 _) (.cons _ _ _ _ _ rfl (A6 _) (.cons _ _ _ _ _ rfl (A6 _) (.cons _ _ _ _ _ rfl (A6 _) .nil)))) (by decide) (.cons _ _ _ _ _ rfl (KV (by rfl) _ _ _ _ _) (.cons _ _ _ _ _ rfl (K0 _ _ _) .nil)) (Q5 f q d n1 i src name 0 cap cap1 hf hq hsq om hn1 yk yz) ?_);rintro r bc tc ⟨rfl,rfl,rfl⟩;rw[show d.nodes.set i {n1 with entries:=DP n1.entries name 0}=X1 from hX1.symm];refine⟨rfl,_,(On (Bl rfl) (Bl rfl) (by decide) f q d X1 cap cap1 cap1:Back _ [6,7] _ [_,_,_,_,_,_,_,_,_]),?_⟩;refine e_ (J2 (h:=Ac (h:=?_)));refine A7 (Bo [6,7] rfl (.cons _ _ _ _ _ rfl (A6 _) (.cons _ _ _ _ _ rfl (A6 _) (.cons _ _ _ _ _ rfl (A6 _) (.cons _ _ _ _ _ rfl (A6 _) .nil)))) (by decide) (.cons _ _ _ _ _ rfl (KV (by rfl) _ _ _ _ _) (.cons _ _ _ _ _ rfl (K0 _ _ _) .nil)) (m7 f q d ⟨d.next,X1⟩ m2 i2 to name2 A.2 cap cap1 hf1 hql htq hidx2 hm2 yk hcx1 rfl hx1l) ?_);rintro r bc tc ⟨rfl,rfl,rfl⟩;refine⟨rfl,?_⟩;dsimp only;rw[<-hX2];refine⟨_,(On (Bl rfl) (Bl rfl) (by decide) f q ⟨d.next,X2⟩ X2 cap cap1 cap1:Back _ [6,7] _ [_,_,_,_,_,_,_,_,_]),?_⟩;refine e_ (?_);refine BD (fun t=>∃capx,NS.length<=capx/\t=⟨look [(2, .v (.string name)),(4, .v (.string name2)),(6, .bp 1 0),(8, .bp 2 0),(10, .bp 3 0),(17, .bp 4 0),(19, .v (.bool (AU f A))),(20, .bp 5 0),(22, .bp 8 0)],⟨[Ap f,AB src,AB to,[.v (.slice none 0 0)],AB A,AB O,DB f q ⟨d.next,NS⟩ 7 cap capx,NB NS capx,[.bs 6 0 2 f.length cap]],[]⟩⟩) ?_ ?_
 ·refine Ab (h:=BO (h:=?_));refine A3 rfl (fun fy oe=>?_) (fun fy oe=>?_)
  ·have he2:e2=0:=oe;obtain⟨hoq,hkp⟩:=hoo he2;refine Aq (Fv (h:=?_));refine A7 (Bo [6,7] rfl (.cons _ _ _ _ _ rfl (A6 _) (.cons _ _ _ _ _ rfl (A6 _) .nil)) (by decide) (.cons _ _ _ _ _ rfl (KV (by rfl) _ _ _ _ _) (.cons _ _ _ _ _ rfl (K0 _ _ _) .nil)) (Us f q ⟨d.next,X2⟩ ⟨d.next,X2⟩ O cap cap1 hf2 hql hoq yk hcx2 hkp rfl rfl) ?_);rintro r bc tc ⟨rfl,rfl,⟨hns,rfl⟩|⟨hns,cap2,hcap2,rfl⟩⟩
   ·refine⟨rfl,_,(Up (n:=9) rfl (by decide) (by decide) (by decide) f q ⟨d.next,X2⟩ X2 O f.length cap cap cap1 cap1:Back _ [6,7] _ [_,_,_,_,_,_,_,_,_,_,_]),?_⟩;obtain rfl:NS=X2:=by rw[hNS,if_pos (by assumption)];exact hns
    refine FP (h:=?_);exact⟨_,⟨_,hcx2,rfl⟩,CF 9 0 (by simp[Am,Af,Aa,FG,FH,AB,Ap])⟩
   refine⟨rfl,_,(Uo (n:=9) rfl (by decide) (by decide) (by decide) f q ⟨d.next,E8 O.2 X2⟩ X2 (E8 O.2 X2) O f.length cap cap cap1 cap2:Back _ [6,7] _ [_,_,_,_,_,_,_,_,_,_,_,_]),?_⟩;have hNSk:NS=E8 O.2 X2:=by rw[hNS,if_pos (by assumption)];exact hns
   rw[<-hNSk]at hcap2;rw[<-hNSk];refine FP (h:=?_);exact⟨_,⟨_,hcap2,rfl⟩,JZ [0,1,2,3,4,5,6,11,8] (fun i hi=>absurd hi (Nat.not_lt_zero i)) (by decide) (.cons _ _ _ _ _ rfl rfl (.cons _ _ _ _ _ rfl rfl (.cons _ _ _ _ _ rfl rfl (.cons _ _ _ _ _ rfl rfl (.cons _ _ _ _ _ rfl rfl (.cons _ _ _ _ _ rfl rfl (.cons _ _ _ _ _ rfl (UN (by rfl) _ _ _ _ _) (.cons _ _ _ _ _ rfl (Ry _ _ _) (.cons _ _ _ _ _ rfl rfl .nil))))))))) (by repeat (first|exact SubK.nil|refine SubK.cons _ _ _ _ rfl (A6 _) ?_))⟩
  have he2:¬e2=0:=oe;obtain rfl:NS=X2:=by rw[hNS,if_neg he2]
  refine Ci (AT (?_));exact⟨_,⟨_,hcx2,rfl⟩,CF 9 0 (by simp[Am,Af,Aa,FG,FH,AB,Ap])⟩
 rintro t ⟨capx,hcapx,rfl⟩;refine BD (fun t=>t=⟨look [(2, .v (.string name)),(4, .v (.string name2)),(6, .bp 1 0),(8, .bp 2 0),(10, .bp 3 0),(17, .bp 4 0),(20, .bp 5 0),(22, .bp 8 0)],⟨[Ap f,AB src,AB to,[.v (.slice none 0 0)],AB A,AB O,DB f q ⟨d.next,NS⟩ 7 cap capx,NB NS2 capx,[.bs 6 0 2 f.length cap]],[]⟩⟩) ?_ ?_
 ·refine Ab (h:=e_ (?_));refine A3 rfl (fun ma fr=>?_) (fun ma fr=>?_)
  ·have e4:NS.set i3 {m3 with parent:=to.2}=NS2:=by rw[hNS2,M4,if_pos fr,QG hasc3 hm3 (fun n=>{n with parent:=to.2}),hm3i]
   have hset3:SetAt (NB NS capx) (0+i3 * 8+5) [.v (.int .i64 to.2)] (NB NS2 capx):=by
    rw[<-e4];exact UR hm3 (by repeat constructor) (by simp)
   refine BJ ([(0,Ap f),(1,AB src),(2,AB to),(3,[.v (.slice none 0 0)]),(4,AB A),(5,AB O),(6,DB f q ⟨d.next,NS⟩ 7 cap capx),(8,[.bs 6 0 2 f.length cap])]) 15 (h:=AA 0 (h:=?_));refine A9 1 (h:=?_);refine AA 2 (h:=?_);refine A9 3 (h:=?_);refine CE 4 rfl (fun _ hS=>EF (m:=q) rfl rfl htq hql ⟨rfl,rfl⟩) ?_;refine AA 5 (h:=?_);refine CE 6 rfl (fun _ hS=>Fa (row:=DB f q ⟨d.next,NS⟩ 7 cap capx) rfl (kb hS rfl) (Py hql) ⟨rfl,rfl⟩) ?_;refine A9 7 (h:=?_);refine A9 8 (h:=?_);refine AA 10 (h:=?_);refine A9 11 (h:=?_);refine c_ 9 rfl (DX 2 rfl (.cons _ _ _ _ _ rfl (LeA.of_eq (lV (d:=⟨d.next,NS⟩) hql yk hcapx (BG _) (BG _) rfl rfl)) (.cons _ _ _ _ _ rfl (A6 _) .nil)) (N3 (f.set q ⟨d.next,NS⟩) A hf3) ?_);rintro r rfl;refine⟨rfl,?_⟩;refine o_ (h:=CE 12 rfl (fun _ hS=>EF (m:=i3) rfl rfl hidx3 hil3 ⟨rfl,rfl⟩) ?_);refine AA 13 (h:=?_);refine H7 14 rfl (Es rfl rfl rfl rfl rfl rfl hset3 (by repeat constructor) ?_);refine J1 (h:=?_);refine AT ?_;exact⟨_,rfl,CF 9 0 (by simp[Am,Af,Aa,FG,FH,AB,Ap])⟩
  obtain rfl:NS2=NS:=by rw[hNS2,M4,if_neg (by rw[fr];decide)]
  refine Ci (AT (?_));exact⟨_,rfl,CF 9 0 (by simp[Am,Af,Aa,FG,FH,AB,Ap])⟩
 rintro t rfl;have hl3:NS2.length=NS.length:=by rw[hNS2];unfold M4;split<;>simp[DJ]
 have hcapx2:NS2.length<=capx:=by omega
 refine BD (fun t=>t=⟨look [(10, .bp 3 0),(11, .sl 7 ([(src,name,A,(0,0)),(to,name2,O,A)].map FE) none),(12, .v (.int .i64 0))],⟨[Ap f,AB src,AB to,Ap (f.set q ⟨d.next,NS2⟩)],[]⟩⟩) ?_ ?_
 ·refine BJ ([(0,Ap f),(1,AB src),(2,AB to),(4,AB A),(5,AB O),(6,DB f q ⟨d.next,NS⟩ 7 cap capx),(7,NB NS2 capx),(8,[.bs 6 0 2 f.length cap])]) 15 (h:=A9 0 (h:=A9 1 (h:=AE 2 (h:=A9 3 (h:=?_)))));refine CE 4 rfl (fun _ hS=>JC (y:= .agg (AB (0,0))) (E3 ⟨rfl,rfl⟩) (by repeat (first|exact A6 _|exact LeA.nil _|exact LeL.refl _|refine LeA.agg ⟨rfl,rfl⟩|refine LeA.tup ⟨rfl,rfl⟩|exact LeL.nil|refine LeL.cons ⟨rfl,rfl⟩ ⟨rfl,rfl⟩|exact LeA.any _)) ⟨rfl,rfl⟩) ?_;refine A9 6 (h:=AE 7 (h:=A9 8 (h:=A9 9 (h:=?_))));refine c_ 5 rfl (Bo [] rfl (.cons _ _ _ _ _ rfl (A6 _) (.cons _ _ _ _ _ rfl (A6 _) (.cons _ _ _ _ _ rfl (A6 _) (.cons _ _ _ _ _ rfl (A6 _) .nil)))) (by decide) .nil (m5 src name A (0,0)) ?_);rintro r bc tc ⟨rfl,rfl,rfl⟩;refine⟨rfl,_,(lZ _ (m6 _ _ _ _):Back _ [] _ [_,_,_,_,_,_,_,_,_,_,_,_,_]),?_⟩;refine o_ (h:=c_ 10 rfl (AX (Ns to name2 O A) ?_));rintro r rfl;refine o_ (h:=c_ 11 rfl (OS rfl rfl rfl (Bl rfl) Ma (by omega) (by omega) (fun h=>absurd h (by omega)) ?_));rintro hg cap4 k bx2 hcp4 hs;obtain⟨rfl,rfl⟩:k=13/\bx2=[_,_,_,_,_,_,_,_,_,_,_,_,_,Cm 7 cap4 ([(src,name,A,(0,0)),(to,name2,O,A)].map FE)]:=hs.eq;refine o_ (h:=Ax 12 (h:=B8 13 (h:=B8 14 (h:=z_ (h:=?_)))));refine AT ?_;exact⟨_,rfl,Jm 4 2 rfl (congrArg (fun x=>[Ap f,AB src,AB to,x]) (NE (k:=0) (i:=6) (j:=7) (d:=⟨d.next,NS⟩) (d':=⟨d.next,NS2⟩) hql rfl hl3 yk hcapx2 (Bl rfl) (Bl rfl) rfl rfl)) (.cons _ _ _ _ rfl (A6 _) (.cons _ _ _ _ rfl (LeA.of_eq (Yn (rows:=[(src,name,A,(0,0)),(to,name2,O,A)].map FE) (Bl rfl) (lW (n:=4) (k:=1) (j:=13) (Bl rfl) rfl (lX _)) (lY _) rfl hcp4)) (.cons _ _ _ _ rfl (A6 _) .nil)))⟩
 rintro t rfl;refine BH (?_);refine A4 ?_;rw[hRen,if_neg (by rw[mh];simp),if_neg (by simp[he1]),if_neg (by simp[kk]),if_neg (fun h=>absurd h.2 (by rw[hbl h.1];decide)),if_neg (fun h=>hoa h.1 h.2),if_neg (by rw[h2];simp),htq,Int.toNat_natCast,KY hq,show O3 d.nodes src name to name2 A O e2=NS by rw[hNS,hX2D,hn1i,hn2i];rfl,<-hNS2];rfl
end
end Go.Proofs.YtbgnigjfkbmceaaGreatDoor
namespace Go.Proofs.YtbgnigjfkbmceaaGreatDoor
theorem FlsV.set_{f:AR}(h:FlsV f){q:Nat}{d':Dvc}(hd:VD d'):FlsV (f.set q d'):=by
 refine⟨by simpa using h.few,fun d hm=>?_⟩;rcases List.mem_or_eq_of_mem_set hm with h1|h1
 ·exact h.vd d h1
 rw[h1];exact hd
theorem QM{f:AR}{a:A8}(h:Dl f a=true):∃(q i:Nat) (d:Dvc) (m:Nod),a.1=(q:Int)/\f[q]?=some d/\d.nodes[i]?=some m/\m.ino=a.2/\C5 f a=some m/\AY f a=m:=by
 rcases MR f a with⟨_,h2⟩|⟨q,i,d,n,h1,h2,h3,h4,h5,h6⟩
 ·simp[Dl,h2]at h
 exact⟨q,i,d,n,h1,h2,h3,h4,h6,by simp[AY,h6]⟩
theorem Uy{f:AR}{a:A8}{q:Nat}{d:Dvc}{m:Nod}(ha:a.1=(q:Int))(hq:f[q]?=some d)(hd:Fk d.nodes)(hm:m∈d.nodes)(hi:m.ino=a.2):C5 f a=some m:=by
 unfold C5;rw[ha,Nn,hq];simp only
 cases h:d.nodes.find? (fun n=>n.ino==a.2)with
 |none=>
   have:=List.find?_eq_none.1 h m hm;simp[hi]at this
 |some n=>
   have h1:=List.mem_of_find?_eq_some h;have h2:=List.find?_some h;simp only[beq_iff_eq]at h2;rw[El hd h1 hm (by omega)]
theorem SD{f:AR}{dir:A8}{name:AD}{n0:Nod}(hn:C5 f dir=some n0)(hk:n0.kind=2)(h:(AJ f dir name).2≠0):Ek n0.entries name=none/\(AJ f dir name).1=(0,0):=by
 unfold AJ at h ⊢;rw[hn]at h ⊢;simp only[hk,if_true]at h ⊢;unfold Ek;split at h
 ·rename_i he;exact⟨he,rfl⟩
 exact absurd rfl h
theorem Uz{f:AR}{dir:A8}{n0:Nod}(hn:C5 f dir=some n0)(h:¬MT f dir=true):n0.entries.length<12:=by
 unfold MT at h;rw[hn]at h;simp at h;omega
theorem QN(f:AR)(q:Nat)(g:List Nod->List Nod):(K1 f q g).length=f.length:=by simp[K1]
def O4(f:AR)(R:Fj):Prop:=R.2.2=0->FlsV R.1/\R.1.length=f.length
theorem G5{f:AR}{e:Int}(h:e≠0):O4 f ([],[],e):=fun h0=>absurd h0 h
theorem Yr{f:AR}(hv:FlsV f)(dir:A8)(name:AD)(a:A8):O4 f (FU f dir name a):=by
 unfold FU;split
 ·rename_i h;exact G5 h
 rename_i hp;split
 ·exact G5 (by decide)
 rename_i hh;split
 ·exact G5 (by decide)
 rename_i hdev;split
 ·exact G5 (by decide)
 rename_i hk;split
 ·exact G5 (by decide)
 rename_i hl;split
 ·exact G5 (by decide)
 rename_i hfl;intro _;obtain⟨q,i,d,n0,hdq,hq,hn0,hino,hidx,hnode,hk0,hnm⟩:=L9 (name:=name) (dir:=dir) (f:=f) (by omega);obtain⟨q',i',d',m,haq,hq',hm,hmi,hnm2,hng⟩:=QM (f:=f) (a:=a) (by simpa using hh);obtain rfl:q=q':=by omega
 obtain rfl:d=d':=Option.some.inj (hq.symm.trans hq');have hvd:=hv.vd d (Aj hq);have key:=hvd.linked (Aj hn0) hk0 (Aj hm) (by rw[<-hng];exact hk) hnm (SD hnode hk0 hl).1 (Uz hnode hfl);rw[hino,hmi]at key;refine⟨?_,by dsimp only;exact QN _ _ _⟩;dsimp only;rw[hdq,Int.toNat_natCast,KY hq];exact hv.set_ key
theorem O5{f:AR}{a:A8}{m:Nod}(h:C5 f a=some m):AU f a=true↔m.kind=2:=by
 unfold AU;rw[h];simp
theorem Ys{f:AR}{a:A8}{m:Nod}(h:C5 f a=some m):N2 f a=true↔m.entries=[]:=by
 unfold N2;rw[h];simp
theorem SE{f:AR}(hv:FlsV f){dir:A8}{name:AD}{q i:Nat}{d:Dvc}{n0:Nod}(hdq:dir.1=(q:Int))(hq:f[q]?=some d)(hn0:d.nodes[i]?=some n0)(hnode:C5 f dir=some n0)(hk0:n0.kind=2)(hl:(AJ f dir name).2=0):
    ∃e m,Ek n0.entries name=some e/\AJ f dir name=((dir.1,e.2),0)/\m∈d.nodes/\e.2=m.ino/\e.2≠1/\C5 f (AJ f dir name).1=some m:=by
 obtain⟨e,he,hle⟩:=QH hnode hk0 hl;have hvd:=hv.vd d (Aj hq);obtain⟨_,h1,m,hm,h2⟩:=hvd.ent n0 (Aj hn0) e (LX he).1;refine⟨e,m,he,hle,hm,h2.symm,h1,?_⟩;rw[hle];exact Uy hdq hq hvd.asc hm h2
theorem mA{f:AR}(hv:FlsV f)(dir:A8)(name:AD):O4 f (JL f dir name):=by
 unfold JL;split
 ·rename_i h;exact G5 h
 rename_i hp;split
 ·rename_i h;exact G5 h
 rename_i hl;split
 ·exact G5 (by decide)
 rename_i hk;intro _;obtain⟨q,i,d,n0,hdq,hq,hn0,hino,hidx,hnode,hk0,hnm⟩:=L9 (name:=name) (dir:=dir) (f:=f) (by omega);obtain⟨e,m,he,hle,hm,h1,h2,h3⟩:=SE hv hdq hq hn0 hnode hk0 (name:=name) (by omega);have hvd:=hv.vd d (Aj hq);have key:=hvd.removed (Aj hn0) hm (hvd.leaf m hm fun h=>hk ((O5 h3).2 h)).2 he h1;refine⟨?_,by dsimp only;exact QN _ _ _⟩;dsimp only;rw[hdq,Int.toNat_natCast,KY hq,show(AJ f dir name).1.2=m.ino by rw[hle];exact h1,<-hino];exact hv.set_ key
theorem mB{f:AR}(hv:FlsV f)(dir:A8)(name:AD):O4 f (Hc f dir name):=by
 unfold Hc;split
 ·rename_i h;exact G5 h
 rename_i hp;split
 ·rename_i h;exact G5 h
 rename_i hl;split
 ·exact G5 (by decide)
 rename_i hk;split
 ·exact G5 (by decide)
 rename_i hem;intro _;obtain⟨q,i,d,n0,hdq,hq,hn0,hino,hidx,hnode,hk0,hnm⟩:=L9 (name:=name) (dir:=dir) (f:=f) (by omega);obtain⟨e,m,he,hle,hm,h1,h2,h3⟩:=SE hv hdq hq hn0 hnode hk0 (name:=name) (by omega);have hvd:=hv.vd d (Aj hq);have key:=hvd.removed (Aj hn0) hm ((Ys h3).1 (by simpa using hem)) he h1;refine⟨?_,by dsimp only;exact QN _ _ _⟩;dsimp only;rw[hdq,Int.toNat_natCast,KY hq,show(AJ f dir name).1.2=m.ino by rw[hle];exact h1,<-hino];exact hv.set_ key
theorem mC{f:AR}(hv:FlsV f)(a:A8)(mode uid gid:Int):(Gb f a mode uid gid).2=0->FlsV (Gb f a mode uid gid).1/\(Gb f a mode uid gid).1.length=f.length:=by
 unfold Gb;split
 ·intro h;exact absurd h (by decide)
 rename_i hh;split
 ·intro h;exact absurd h (by decide)
 rename_i hp;intro _;obtain⟨q,i,d,m,haq,hq,hm,hmi,hnm2,hng⟩:=QM (f:=f) (a:=a) (by simpa using hh);have hvd:=hv.vd d (Aj hq);have key:=hvd.attrs (Aj hm) mode uid gid (by rw[<-hng];simpa using hp);refine⟨?_,by dsimp only;exact QN _ _ _⟩;dsimp only;rw[haq,Int.toNat_natCast,KY hq,<-hmi];exact hv.set_ key
theorem Yt{f:AR}(hv:FlsV f)(dir:A8)(name:AD)(n:Nod):O4 f (Fl f dir name n):=by
 unfold Fl;split
 ·rename_i h;exact G5 h
 rename_i hp;split
 ·exact G5 (by decide)
 rename_i hpl;split
 ·exact G5 (by decide)
 rename_i hl;obtain⟨q,i,d,n0,hdq,hq,hn0,hino,hidx,hnode,hk0,hnm⟩:=L9 (name:=name) (dir:=dir) (f:=f) (by omega);have hat:GW f dir.1=some d:=by rw[hdq,Nn,hq]
 rw[hat];simp only;split
 ·exact G5 (by decide)
 rename_i hc;intro _;have hvd:=hv.vd d (Aj hq);have hnm2:=hvd.nextM;have key:=hvd.make (Aj hn0) hk0 hnm (SD hnode hk0 hl).1 (n:=n) (by simpa using hpl) (by omega) (by omega) (Uz hnode (fun h=>hc (.inr (.inr h))));refine⟨?_,by simp⟩;dsimp only;rw[hdq,Int.toNat_natCast,<-hino];exact hv.set_ key
theorem mD{ns:List Nod}{a o:Int}{g:Nod->Nod}(hi:∀n,(g n).ino=n.ino)(he:∀n,(g n).entries=n.entries):CK (DJ ns a g) o=DJ (CK ns o) a g:=by
 have hc:Br o (DJ ns a g)=Br o ns:=by
  unfold Br
  congr 1
  unfold DJ;rw[List.flatMap_map]
  congr 1
  funext n
  split
  ·rw[he]
  rfl
 unfold CK;rw[hc];unfold DJ;rw[List.filter_map]
 congr 1
 apply List.filter_congr;intro n _;simp only[Function.comp];split
 ·rw[hi]
 rfl
theorem mE{ns:List Nod}{a:Int}{g:Nod->Nod}(h:∀n∈ns,n.ino=a->g n=n):DJ ns a g=ns:=by
 unfold DJ
 conv=>rhs;rw[<-List.map_id ns]
 apply List.map_congr_left;intro n hn;split
 ·rename_i e;rw[h n hn e];rfl
 rfl
theorem mF{ns:List Nod}{a:Int}{g g':Nod->Nod}(h:∀n∈ns,n.ino=a->g n=g' n):DJ ns a g=DJ ns a g':=by
 unfold DJ;apply List.map_congr_left;intro n hn;split
 ·rename_i e;rw[h n hn e]
 rfl
theorem Yu{f:AR}{q:Nat}{d:Dvc}(hq:f[q]?=some d)(hd:Fk d.nodes){top:A8}(ht:top.1=(q:Int)):∀(k n:Nat) (a:A8),k<n->a.1=(q:Int)->QE d.nodes k a.2 top.2->M0 f top n a=true
 |_,0,_,h,_,_=>by omega
 |0,n+1,a,_,ha,hk=>by
   have e:a.2=top.2:=hk;unfold M0;rw[if_neg (by omega),if_pos (Prod.ext (by omega) e)]
 |k+1,n+1,a,h,ha,hk=>by
   obtain⟨m,hm,h1,h2,h3,h4⟩:=hk;unfold M0;rw[if_neg (by omega)];split
   ·rfl
   have hn:=Uy ha hq hd hm h1;refine Yu hq hd ht k n _ (by omega) ha ?_;simp only[AY,hn,Option.getD_some];exact h4
theorem Yv{f:AR}(hv:FlsV f)(src:A8)(name:AD)(to:A8)(name2:AD):O4 f (Gd f src name to name2):=by
 unfold Gd;split
 ·rename_i h;exact G5 h
 rename_i hord;obtain⟨hpl1,hpl2⟩:=Uv (f:=f) (x:=src) (y:=to) (name:=name) (name2:=name2) (by omega);split
 ·rename_i h;exact G5 h
 rename_i hl1;split
 ·exact G5 (by decide)
 rename_i hdev;split
 ·exact G5 (by decide)
 rename_i hbel;split
 ·intro _;exact⟨hv,rfl⟩
 rename_i hsame;split
 ·rename_i h;exact G5 h
 rename_i hr2;intro _;obtain⟨q,i,d,n1,hsq,hq,hn1,hn1i,hidx,hnode,hk1,hnm1⟩:=L9 hpl1;obtain⟨q',i2,d',n2,htq,hq',hn2,hn2i, -,hnode2,hk2,hnm2⟩:=L9 hpl2;obtain rfl:q=q':=by omega
 obtain rfl:d=d':=Option.some.inj (hq.symm.trans hq');have hvd:=hv.vd d (Aj hq);obtain⟨e,m,he,hle,hm,hem,he1,hmn⟩:=SE hv hsq hq hn1 hnode hk1 (name:=name) (by omega);have hA2:(AJ f src name).1.2=m.ino:=by rw[hle];exact hem
 have hmoves:AU f (AJ f src name).1=true↔m.kind=2:=O5 hmn
 have hanc:m.kind=2->¬KX d.nodes n2.ino m.ino:=by
  rintro hmk ⟨k,hk⟩;have hlen:=hvd.anc_len hm hk;have:=hvd.len;refine hbel ⟨hmoves.2 hmk,Yu hq hvd.asc (top:=(AJ f src name).1) (by rw[hle];exact hsq) k 17 to (by omega) htq ?_⟩;rw[hA2,<-hn2i];exact hk
 have hdiff:n1.ino=n2.ino->name≠name2:=by
  rintro h rfl;have est:to=src:=Prod.ext (by omega) (by omega);subst est;exact hsame ⟨by omega,rfl⟩
 have ho:(Ek n2.entries name2=none/\(n2.entries.length<12\/n1.ino=n2.ino)/\(AJ f to name2).1.2=0)\/(∃eo o,Ek n2.entries name2=some eo/\o∈d.nodes/\eo.2=(AJ f to name2).1.2/\o.ino=(AJ f to name2).1.2/\(AJ f to name2).1.2≠m.ino/\o.entries=[]):=by
  have hr3:Fm f src to (AJ f src name).1 (AJ f to name2).1 (AJ f to name2).2=0:=by omega
  unfold Fm at hr3;by_cases h0:(AJ f to name2).2=0
  ·right;rw[if_pos h0]at hr3;obtain⟨eo,o,heo,hleo,hom,heoi,heo1,hon⟩:=SE hv htq hq hn2 hnode2 hk2 (name:=name2) h0;have hO2:(AJ f to name2).1.2=eo.2:=by rw[hleo]
   refine⟨eo,o,heo,hom,hO2.symm,by rw[hO2,heoi],?_,?_⟩
   ·intro h;refine hsame ⟨h0,Prod.ext ?_ (h.trans hA2.symm)⟩;rw[hleo,hle];exact htq.trans hsq.symm
   have hdo:=O5 hon;by_cases hok:o.kind=2
   ·rw[if_neg (fun h=>by
       rw[if_pos h]at hr3;exact absurd hr3 (by decide))]at hr3
    rw[if_neg (fun h=>by rw[hdo.2 hok]at h;exact absurd h.1 (by decide))]at hr3;split at hr3
    ·exact absurd hr3 (by decide)
    rename_i h5;refine(Ys hon).1 ?_
    cases hem2:N2 f (AJ f to name2).1 with
    |true=>rfl
    |false=>exact absurd ⟨hdo.2 hok,hem2⟩ h5
   exact(hvd.leaf o hom hok).2
  left;rw[if_neg h0]at hr3;obtain⟨h1,h2⟩:=SD hnode2 hk2 h0;refine⟨h1,?_,by rw[h2]⟩;split at hr3
  ·exact absurd hr3 (by decide)
  rename_i h3;by_cases hfl:MT f to=true
  ·right;have:src=to:=Classical.byContradiction fun h=>h3 ⟨hfl,h⟩;rw[hn1i,hn2i,this]
  left;exact Uz hnode2 hfl
 have key:=hvd.renamed (Aj hn1) (Aj hn2) hm hk2 he hem hnm2 hdiff hanc ho;refine⟨?_,by dsimp only;exact QN _ _ _⟩;dsimp only;rw[htq,Int.toNat_natCast,KY hq]
 have hns:M4 (O3 d.nodes src name to name2 (AJ f src name).1 (AJ f to name2).1 (AJ f to name2).2) (AJ f src name).1.2 to.2 (AU f (AJ f src name).1)=CK (FT d.nodes n1.ino n2.ino name name2 m.ino) (AJ f to name2).1.2:=by
  rw[<-Yd,hA2,<-hn2i]
  have hY:∀y∈Bk (Bk d.nodes n1.ino name 0) n2.ino name2 m.ino,y.ino=m.ino->y.kind=m.kind:=by
   intro y hy hyi;obtain⟨y1,h1,w1⟩:=Hb hy;obtain⟨y2,h2,w2⟩:=Hb h1;have:y2=m:=El hvd.asc h2 hm (by rw[<-w2.ino,<-w1.ino];exact hyi);rw[w1.kind,w2.kind,this]
  have hpos:∀y∈Bk (Bk d.nodes n1.ino name 0) n2.ino name2 m.ino,1<=y.ino:=by
   intro y hy;obtain⟨y1,h1,w1⟩:=Hb hy;obtain⟨y2,h2,w2⟩:=Hb h1;rw[w1.ino,w2.ino];exact hvd.pos h2
  have hset:CK (DJ (Bk (Bk d.nodes n1.ino name 0) n2.ino name2 m.ino) m.ino (LY n2.ino)) (AJ f to name2).1.2=DJ (CK (Bk (Bk d.nodes n1.ino name 0) n2.ino name2 m.ino) (AJ f to name2).1.2) m.ino (LY n2.ino):=mD (fun n=>by unfold LY;split<;>rfl) (fun n=>by unfold LY;split<;>rfl);rw[hset]
  have hN:O3 d.nodes src name to name2 (AJ f src name).1 (AJ f to name2).1 (AJ f to name2).2=CK (Bk (Bk d.nodes n1.ino name 0) n2.ino name2 m.ino) (AJ f to name2).1.2:=by
   unfold O3;rw[hA2,<-hn1i,<-hn2i];split
   ·rfl
   rename_i h0;rw[(SD hnode2 hk2 h0).2];unfold CK
   symm
   rw[List.filter_eq_self];intro y hy;have:=hpos y hy;exact decide_eq_true (.inl (by show y.ino≠0;omega))
  rw[hN];have hsub:∀y∈CK (Bk (Bk d.nodes n1.ino name 0) n2.ino name2 m.ino) (AJ f to name2).1.2,y∈Bk (Bk d.nodes n1.ino name 0) n2.ino name2 m.ino:=fun y hy=>(QD.1 hy).1;unfold M4;split
  ·rename_i hmv;refine mF fun y hy hyi=>?_;unfold LY;rw[if_pos ((hY y (hsub y hy) hyi).trans (hmoves.1 hmv))]
  rename_i hmv;refine(mE fun y hy hyi=>?_).symm;unfold LY;rw[if_neg (fun h=>hmv (hmoves.2 ((hY y (hsub y hy) hyi).symm.trans h)))]
 rw[hns];exact hv.set_ key
section
open Go.RowKit
def J7(R:Spc×Int):AV:= .tup [.agg (AQ R.1), .v (.int .i64 R.2)]
def NF:Spc:=⟨[],[]⟩
theorem LZ(e:Int):LeA (.tup [.agg [.v (.slice none 0 0), .v (.slice none 0 0)], .v (.int .i64 e)]) (J7 (NF,e)):=(by repeat (first|exact A6 _|exact LeA.nil _|exact LeL.refl _|refine LeA.agg ?_|refine LeA.tup ?_|exact LeL.nil|refine LeL.cons ?_ ?_|exact LeA.any _))
def Eo(s:Spc)(dev:Int)(a:A8):Spc×Int:=
 if dev<1\/(s.files.length:Int)<=dev then(NF,22)else if Dl s.files a=false then(NF,2)else if(AY s.files a).kind≠2 then(NF,20)else if CR s a.1=false\/a.1=dev then(NF,22)else
 if CR s dev=true\/(CH s a).isSome=true then(NF,16)else(⟨s.files,s.mounts++[(dev,a)]⟩,0)
def JM(s:Spc)(dev:Int):Spc×Int:=
 if dev=0\/CR s dev=false then(NF,22)else if(s.mounts.any fun m=>decide (m.2.1=dev))=true then(NF,16)else(⟨s.files,s.mounts.filter fun m=>decide (m.1≠dev)⟩,0)
section
theorem Yw(s:Spc)(hs:SpcB s):RN prog 126 [.agg (AQ s)] (fun g=> .agg [.sl 2 (s.files.map CQ) none, .sl 3 (s.mounts.map Dm) g]) (185,3,s.mounts.map Dm):=by
 have fa:=hs.few;refine enter Tryz.func126 rfl rfl rfl rfl rfl 0 rfl ?_;refine w_ (b_ (h:=Ck (h:=e_ (q_ (BJ ([(0,AQ s)]) 8 (h:=AA 0 (h:=?_)))))));refine A9 1 (h:=?_);refine AA 3 (h:=?_);refine A9 4 (h:=?_);refine c_ 2 rfl (AX (Uu s.files hs.files) ?_);rintro r rfl;refine o_ (h:=c_ 5 rfl (N0 rfl rfl (by simp;omega) (by repeat constructor) ?_));refine o_ (h:=Kz 6 (h:=?_));refine Ax 7 (h:=z_ (h:=t_ (BH (?_))));refine AO (some 0) (h5:=(A6 _)) (h6:=⟨rfl,rfl,rfl⟩)
theorem mG(s:Spc)(dev:Int)(a:A8)(hs:SpcB s):AFn prog 76 [.agg (AQ s), .v (.int .i64 dev), .agg (AB a)] (fun r=>r=J7 (Eo s dev a)):=by
 have fa:=hs.few;refine enter Tryz.func76 rfl rfl rfl rfl rfl 0 rfl ?_;refine Ef (h:=Du (h:=EG (h:=?_)));refine AF false rfl rfl (fun kd ka=>?_) (fun kd ka=>?_)
 ·refine Jo (h:=L3 (h:=Bj (h:=?_)));refine AO (r:=J7 (Eo s dev a)) none (h5:=?_) (h6:=⟨rfl,rfl,rfl⟩);rw[Eo,if_pos (.inl ka)];exact LZ _
 refine m_ (h:=E4 (h:=n_ (h:=Dt (h:=Cq (h:=?_)))));refine A3 rfl (fun ke kc=>?_) (fun ke kc=>?_)
 ·refine Bj (h:=?_);refine AO (r:=J7 (Eo s dev a)) none (h5:=?_) (h6:=⟨rfl,rfl,rfl⟩);rw[Eo,if_pos (.inr (by rw[List.length_map]at kc;omega))];exact LZ _
 refine AG (B2 (h:=l_ (h:=?_)));refine AK (G0 s.files a hs.files) ?_;refine HQ (h:=?_);refine A3 rfl (fun kh kf=>?_) (fun kh kf=>?_)
 ·refine Bj (h:=?_);refine AO (r:=J7 (Eo s dev a)) none (h5:=?_) (h6:=⟨rfl,rfl,rfl⟩);rw[Eo,if_neg (by rw[List.length_map]at kc;omega),if_pos kf];exact LZ _
 refine DF (h:=D3 (h:=?_));refine A3 rfl (fun kl kg=>?_) (fun kl kg=>?_)
 ·refine Bj (h:=?_);refine AO (r:=J7 (Eo s dev a)) none (h5:=?_) (h6:=⟨rfl,rfl,rfl⟩);rw[Eo,if_neg (by rw[List.length_map]at kc;omega),if_neg (by simp[kf]),if_pos kg];exact LZ _
 refine FA (h:=Bw (h:=Ac (h:=?_)));refine AK (Pi s a.1 hs) ?_;refine F6 (h:=?_);refine AF false rfl rfl (fun ko kk=>?_) (fun ko kk=>?_)
 ·refine CO (h:=L3 (h:=Bj (h:=?_)));refine AO (r:=J7 (Eo s dev a)) none (h5:=?_) (h6:=⟨rfl,rfl,rfl⟩);rw[Eo,if_neg (by rw[List.length_map]at kc;omega),if_neg (by simp[kf]),if_neg (by simp[kg]),if_pos (.inl kk)];exact LZ _
 refine Ac (h:=EJ (h:=Cq (h:=?_)));refine A3 rfl (fun kq km=>?_) (fun kq km=>?_)
 ·refine Bj (h:=?_);refine AO (r:=J7 (Eo s dev a)) none (h5:=?_) (h6:=⟨rfl,rfl,rfl⟩);rw[Eo,if_neg (by rw[List.length_map]at kc;omega),if_neg (by simp[kf]),if_neg (by simp[kg]),if_pos (.inr km)];exact LZ _
 refine FA (h:=Fy (h:=?_));refine AK (Pi s dev hs) ?_;refine m_ (h:=?_);refine AF false rfl rfl (fun ks kp=>?_) (fun ks kp=>?_)
 ·refine EV (h:=Bj (h:=?_));refine AO (r:=J7 (Eo s dev a)) none (h5:=?_) (h6:=⟨rfl,rfl,rfl⟩);rw[Eo,if_neg (by rw[List.length_map]at kc;omega),if_neg (by simp[kf]),if_neg (by simp[kg]),if_neg (by simp[kk,km]),if_pos (.inl kp)];exact LZ _
 refine Fv (h:=?_);refine Ak (AX (Xc s a hs) ?_);rintro r rfl;refine Cq (h:=?_);refine A3 rfl (fun kt kr=>?_) (fun kt kr=>?_)
 ·refine Bj (h:=?_);refine AO (r:=J7 (Eo s dev a)) none (h5:=?_) (h6:=⟨rfl,rfl,rfl⟩);rw[Eo,if_neg (by rw[List.length_map]at kc;omega),if_neg (by simp[kf]),if_neg (by simp[kg]),if_neg (by simp[kk,km]),if_pos (.inr kr)];exact LZ _
 refine AG (Bw (h:=?_));refine A7 (TQ rfl (by repeat (first|exact Args.nil|refine Args.cons _ _ _ _ _ rfl (LP rfl) ?_|refine Args.cons _ _ _ _ _ rfl (MK _) ?_|refine Args.cons _ _ _ _ _ rfl (Lq _) ?_|refine Args.cons _ _ _ _ _ rfl (MM rfl (by repeat (first|exact A6 _|exact LeA.nil _|exact LeL.refl _|refine LeA.agg ?_|refine LeA.tup ?_|exact LeL.nil|refine LeL.cons ?_ ?_|exact LeA.any _))) ?_)) (Yw s hs) (fun _=>rfl) (by repeat constructor) ?_);refine CP (h:=F8 (h:=l_ (h:=Bd (h:=BT (h:=?_)))));refine A7 (G7 rfl rfl rfl (by simp;omega) (by repeat constructor) ?_);refine Cg (h:=Jp (h:=?_));refine A4 ?_;rw[Eo,if_neg (by rw[List.length_map]at kc;omega),if_neg (by simp[kf]),if_neg (by simp[kg]),if_neg (by simp[kk,km]),if_neg (by simp[kp,kr])];simp only[J7,AQ,List.map_append];rfl
theorem mH(s:Spc)(dev:Int)(hs:SpcB s):AFn prog 253 [.agg (AQ s), .v (.int .i64 dev)] (fun r=>r=J7 (JM s dev)):=by
 have fa:=hs.few;refine enter Tryz.func253 rfl rfl rfl rfl rfl 0 rfl ?_;refine E5 (h:=Du (h:=Dv (h:=?_)));refine AF false rfl rfl (fun kd ka=>?_) (fun kd ka=>?_)
 ·refine CO (h:=L3 (h:=Bj (h:=?_)));refine AO (r:=J7 (JM s dev)) none (h5:=?_) (h6:=⟨rfl,rfl,rfl⟩);rw[JM,if_pos (.inl ka)];exact LZ _
 refine GD (h:=?_);refine Ak (AX (Pi s dev hs) ?_);rintro r rfl;refine D1 (h:=Cq (h:=?_));refine A3 rfl (fun ke kc=>?_) (fun ke kc=>?_)
 ·refine Bj (h:=?_);refine AO (r:=J7 (JM s dev)) none (h5:=?_) (h6:=⟨rfl,rfl,rfl⟩);rw[JM,if_pos (.inr kc)];exact LZ _
 refine AG (DZ (h:=Cz (h:=?_)));refine NZ 6 185 3 rfl (by repeat constructor) ?_;refine BL (fun m t=>∃(j:Nat) (acc:List E7),j<=s.mounts.length/\m=s.mounts.length - j/\(∀i y,i<j->s.mounts[i]?=some y->decide (y.2.1=dev)=false)/\(s.mounts.take j).filter (fun m=>decide (m.1≠dev))=acc/\acc.length<=j/\t=⟨look [(1, .v (.int .i64 dev)),(2, .bp 0 0),(4, .bp 1 0),(6, .sl 3 (acc.map Dm) (some 0)),(7, .v (.int .i64 (j:Int)))],⟨[AQ s,[.v (.slice none 0 0), .v (.slice none 0 0)]],[(185,3,acc.map Dm)]⟩⟩) (s.mounts.length) ((wk 2 1)) (⟨0,[],by omega,rfl,fun i y hi=>by omega,rfl,As _,rfl⟩) ?_;rintro m t ⟨j,acc,hj,rfl,ha,yl,hal,rfl⟩;refine Hz (h:=?_);refine A3 rfl (fun kh kf=>?_) (fun kh kf=>?_)
 ·obtain⟨hlt,x,hy,ya, -⟩:=Bx Dm kf;refine Bq (h:=Fu (h:=m_ (h:=i_ (h:=E4 (h:=m_ (h:=BO (h:=?_)))))));refine A3 rfl (fun kl kg=>?_) (fun kl kg=>?_)
  ·have hany:(s.mounts.any fun m=>decide (m.2.1=dev))=true:=Nt hy (decide_eq_true kg);refine Bj (h:=DG (h:=C1 (h:=?_)));refine AO (r:=J7 (JM s dev)) none (h5:=?_) (h6:=⟨rfl,rfl,rfl⟩);rw[JM,if_neg (by simp[ka,kc]),if_pos hany];exact LZ _
  refine AG (F8 (h:=i_ (h:=Eu (h:=D3 (h:=?_)))));refine A3 rfl (fun ko kk=>?_) (fun ko kk=>?_)
  ·have hk:(s.mounts.take (j+1)).filter (fun m=>decide (m.1≠dev))=acc++[x]:=by rw[List.take_add_one,hy,List.filter_append,yl];simp[kk]
   refine BU (h:=Eu (h:=E6 (h:=BT (h:=?_))));refine A7 (G7 rfl rfl rfl (by simp;omega) (by repeat constructor) ?_);refine Ht (h:=FO (h:=?_));exact⟨s.mounts.length - (j+1),_,by omega,⟨j+1,acc++[x],by omega,rfl,GX hy ha (decide_eq_false kg),hk,by simp;omega,rfl⟩,(by rw[List.map_append];exact At 2 1 rfl rfl rfl rfl ((by repeat (first|exact Sub.nil|refine Aw rfl rfl ?_|refine B3 ?_|refine B4 rfl ?_|refine B5 rfl ?_))))⟩
  have hk:(s.mounts.take (j+1)).filter (fun m=>decide (m.1≠dev))=acc:=by rw[List.take_add_one,hy,List.filter_append,yl];simp[kk]
  refine Dg (h:=?_);exact⟨s.mounts.length - (j+1),_,by omega,⟨j+1,acc,by omega,rfl,GX hy ha (decide_eq_false kg),hk,by omega,rfl⟩,At 2 1 rfl rfl rfl rfl ((by repeat (first|exact Sub.nil|refine Aw rfl rfl ?_|refine B3 ?_|refine B4 rfl ?_|refine B5 rfl ?_)))⟩
 have e3:=CA Dm hj kf;subst e3;have hany:(s.mounts.any fun m=>decide (m.2.1=dev))=false:=Oe ha;rw[List.take_length]at yl;refine C4 (h:=Bw (h:=?_));refine A7 (TQ rfl (by repeat (first|exact Args.nil|refine Args.cons _ _ _ _ _ rfl (LP rfl) ?_|refine Args.cons _ _ _ _ _ rfl (MK _) ?_|refine Args.cons _ _ _ _ _ rfl (Lq _) ?_|refine Args.cons _ _ _ _ _ rfl (MM rfl (by repeat (first|exact A6 _|exact LeA.nil _|exact LeL.refl _|refine LeA.agg ?_|refine LeA.tup ?_|exact LeL.nil|refine LeL.cons ?_ ?_|exact LeA.any _))) ?_)) (Yw s hs) (fun _=>rfl) (by repeat constructor) ?_);refine CP (h:=Ab (h:=Cg (h:=Jp (h:=?_))));refine A4 ?_;rw[JM,if_neg (by simp[ka,kc]),if_neg (by simp[hany]),yl];rfl
end
theorem Yx(z:Int){n:Int}(h:1<=n): -n<z.tmod n/\z.tmod n<n:=⟨Int.lt_tmod_of_pos z (by omega),Int.tmod_lt_of_pos z (by omega)⟩
theorem LA(a b:ByteArray):(a++b).size=a.size+b.size:=ByteArray.size_append
section
theorem mJ(l:List Int):ACall prog 12 [.sl 1 (l.map Cc) none] [] (fun r b t=>r= .bp 0 0/\b=[EE l 0]/\t=[]):=by
 refine enter Tryz.func12 rfl rfl rfl rfl rfl 1 rfl ?_;refine FB (h:=Bd (h:=b_ (h:=BW (h:=?_))));refine AO none (h5:=(A6 _)) (h6:=⟨rfl,rfl,rfl⟩)
theorem Gn(l:List Int)(a:Nat)(n:Int)(ha:a<=1000000000000)(hn:n<=1000000000000):GenF prog 21 l a [.v (.int .i64 n)] 1 (fun r=>∃k:Int,r= .v (.int .i64 k)/\0<=k/\(1<=n->k<n)/\(n<1->k=0)):=by
 refine enter Tryz.func21 rfl rfl rfl rfl rfl 1 rfl ?_;refine GE (h:=Ff (h:=?_));refine A3 rfl (fun kd ka=>?_) (fun kd ka=>?_)
 ·refine BC (h:=?_);refine AO none (h5:=(A6 _)) (h6:=⟨_,rfl,rfl,a,by omega,rfl,0,rfl,by omega,by omega,by omega⟩)
 refine AG (w_ (m_ (h:=k_ (h:=f_ (h:=l_ (h:=Ez (h:=k_ (h:=f_ (h:=s_ (h:=e_ (w_ (m_ (h:=k_ (h:=f_ (h:=l_ (h:=gF (h:=a_ (h:=e_ (q_ (q_ (E0 10 (h:=AE 0 (h:=BA 1 (h:=?_))))))))))))))))))))))));refine AA 2 (h:=A9 3 (h:=AE 4 (h:=BA 5 (h:=AA 6 (h:=A9 7 (h:=N1 8 (h:=gH 9 (h:=z_ (h:=t_ (?_))))))))));refine A3 rfl (fun ke kc=>?_) (fun ke kc=>?_)
 ·have hlt:a<l.length:=by simp at kc;omega
  obtain⟨z,hz⟩:∃z,(l.map Cc)[a]?=some (Cc z):=⟨l[a],by simp[hlt]⟩;have tz:=Yx z (n:=n) (by omega);refine E0 12 (h:=AE 0 (h:=BA 1 (h:=AA 2 (h:=A9 3 (h:=AE 4 (h:=BA 5 (h:=AA 6 (h:=A9 7 (h:=Tj 8 (h:=?_))))))))));refine Hm (i:=9) rfl (DM (n:=a) rfl rfl (by omega) hz ⟨rfl,rfl⟩) ?_;refine A9 10 (h:=B8 11 (h:=z_ (h:=t_ (w_ (m_ (h:=m_ (h:=?_)))))));refine A7 (WW rfl rfl (by omega) ?_);refine Du (h:=Ff (h:=?_));refine A3 rfl (fun kh kf=>?_) (fun kh kf=>?_)
  ·refine HU (h:=?_);refine A7 (NY rfl rfl (by omega) ?_);refine Cl (h:=BW (h:=?_));refine AO none (h5:=(A6 _)) (h6:=⟨_,rfl,rfl,a+1,by omega,rfl,_,rfl,by omega,by omega,by omega⟩)
  refine AG (EW (h:=?_));refine AO none (h5:=(A6 _)) (h6:=⟨_,rfl,rfl,a+1,by omega,rfl,_,rfl,by omega,by omega,by omega⟩)
 have tz:=Yx (IntKind.i64.wrap (((a:Int)+1) * 7)) (n:=n) (by omega);refine AG (Eh (h:=?_));refine A7 (WW rfl rfl (by omega) ?_);refine Du (h:=Ff (h:=?_));refine A3 rfl (fun kl kg=>?_) (fun kl kg=>?_)
 ·refine HU (h:=?_);refine A7 (NY rfl rfl (by omega) ?_);refine Cl (h:=BW (h:=?_));refine AO none (h5:=(A6 _)) (h6:=⟨_,rfl,rfl,a+1,by omega,rfl,_,rfl,by omega,by omega,by omega⟩)
 refine AG (EW (h:=?_));refine AO none (h5:=(A6 _)) (h6:=⟨_,rfl,rfl,a+1,by omega,rfl,_,rfl,by omega,by omega,by omega⟩)
theorem EM(l:List Int)(a:Nat)(lo hi:Int)(ha:a<=1000000000000)(h1: -1000000<=lo)(h2:lo<=hi)(h3:hi<=1000000):GenF prog 47 l a [.v (.int .i64 lo), .v (.int .i64 hi)] 1 (fun r=>∃k:Int,r= .v (.int .i64 k)/\lo<=k/\k<=hi):=by
 refine enter Tryz.func47 rfl rfl rfl rfl rfl 1 rfl ?_;refine FB (h:=Cp (h:=m_ (h:=LQ (h:=Ez (h:=?_)))));refine A7 (B0 0 (hc:=Gn l a (hi - lo+1) ha (by omega)) (hR:=?_));rintro r a1 ha1 ⟨k,rfl,k1,k2,k3⟩;refine B1 ?_;refine Ez (h:=BW (h:=?_));refine AO none (h5:=(A6 _)) (h6:=⟨_,rfl,rfl,a1,by omega,rfl,_,rfl,by omega,by omega⟩)
theorem Hd(l:List Int)(a:Nat)(rows:List (List AV))(p:Int->Bool)(ha:a<=1000000000000)(h0:Nat.blt 0 rows.length=true)(h1:Nat.ble rows.length 1000=true)(hp:Rd p rows=true):GenF prog 78 l a [.sl 1 rows none] 1 (fun r=>∃z:Int,r= .v (.int .i64 z)/\p z=true):=by
 have h0':0<rows.length:=Bl h0;have h1':rows.length<=1000:=Bl h1;refine enter Tryz.func78 rfl rfl rfl rfl rfl 1 rfl ?_;refine FB (h:=Cp (h:=n_ (h:=?_)));refine A7 (B0 0 (hc:=Gn l a rows.length ha (by omega)) (hR:=?_));rintro r a1 ha1 ⟨k,rfl,k1,k2,k3⟩;refine B1 ?_;obtain⟨m,rfl⟩:=Int.eq_ofNat_of_zero_le k1;obtain⟨z,hz,pz⟩:=X4 hp (i:=m) (by omega);refine A7 (DM (n:=m) rfl rfl rfl hz ?_);refine l_ (h:=BW (h:=?_));refine AO none (h5:=(A6 _)) (h6:=⟨_,rfl,rfl,a1,by omega,rfl,z,rfl,pz⟩)
theorem NG(l:List Int)(a:Nat)(rows:List (List AV))(p:ByteArray->Bool)(ha:a<=1000000000000)(h0:Nat.blt 0 rows.length=true)(h1:Nat.ble rows.length 1000=true)(hp:Re p rows=true):GenF prog 81 l a [.sl 1 rows none] 1 (fun r=>∃z:ByteArray,r= .v (.string z)/\p z=true):=by
 have h0':0<rows.length:=Bl h0;have h1':rows.length<=1000:=Bl h1;refine enter Tryz.func81 rfl rfl rfl rfl rfl 1 rfl ?_;refine FB (h:=Cp (h:=n_ (h:=?_)));refine A7 (B0 0 (hc:=Gn l a rows.length ha (by omega)) (hR:=?_));rintro r a1 ha1 ⟨k,rfl,k1,k2,k3⟩;refine B1 ?_;obtain⟨m,rfl⟩:=Int.eq_ofNat_of_zero_le k1;obtain⟨z,hz,pz⟩:=X5 hp (i:=m) (by omega);refine A7 (DM (n:=m) rfl rfl rfl hz ?_);refine l_ (h:=BW (h:=?_));refine AO none (h5:=(A6 _)) (h6:=⟨_,rfl,rfl,a1,by omega,rfl,z,rfl,pz⟩)
theorem Yy(l:List Int)(a:Nat)(ha:a<=100000000000):GenF prog 127 l a [] 2 (fun r=>∃s:ByteArray,r= .v (.string s)/\s.size<=13):=by
 refine enter Tryz.func127 rfl rfl rfl rfl rfl 1 rfl ?_;refine GE (h:=?_);refine A7 (B0 0 (hc:=Gn l _ (20) (by omega) (by omega)) (hR:=?_));rintro r a1 ha1 ⟨k1,rfl,p1,q1,o1⟩;refine B1 ?_;refine BO (h:=?_);refine A3 rfl (fun kd ka=>?_) (fun kd ka=>?_)
 ·refine Ab (h:=BT (h:=?_));refine A7 (B0 0 (hc:=NG l _ _ (fun s=>decide (s.size<=13)) (by omega) (by rfl) (by rfl) (by rfl)) (hR:=?_));rintro r a2 ha2 ⟨k2,rfl,p2⟩;refine B1 ?_;refine FN (h:=?_);refine AO none (h5:=(A6 _)) (h6:=⟨_,rfl,rfl,_,?_,rfl,_,rfl,of_decide_eq_true ‹_›⟩)<;>omega
 refine Ei (h:=BT (h:=?_));refine A7 (B0 0 (hc:=NG l _ _ (fun s=>decide (s.size<=13)) (by omega) (by rfl) (by rfl) (by rfl)) (hR:=?_));rintro r a3 ha3 ⟨k3,rfl,p3⟩;refine B1 ?_;refine BW (h:=?_);refine AO none (h5:=(A6 _)) (h6:=⟨_,rfl,rfl,_,?_,rfl,_,rfl,of_decide_eq_true ‹_›⟩)<;>omega
theorem mK(l:List Int)(a:Nat)(ha:a<=50000000000):GenF prog 100 l a [] 20 (fun r=>∃s:ByteArray,r= .v (.string s)/\s.size<=58):=by
 have e1:(⟨#[47]⟩:ByteArray).size=1:=rfl;have e0:(⟨#[]⟩:ByteArray).size=0:=rfl;refine enter Tryz.func100 rfl rfl rfl rfl rfl 1 rfl ?_;refine DZ (h:=DZ (h:=?_));refine BD (fun s=>∃(b:Nat) (t:ByteArray),b<=a+1/\t.size<=1/\s=⟨look [(0, .bp 0 0),(3, .v (.string t))],⟨[EE l b],[]⟩⟩) ?_ ?_
 ·refine Ab (h:=?_);refine A7 (B0 0 (hc:=Gn l _ (6) (by omega) (by omega)) (hR:=?_));rintro r a1 ha1 ⟨k1,rfl,p1,q1,o1⟩;refine B1 ?_;refine ET (h:=e_ (?_));refine A3 rfl (fun kd ka=>?_) (fun kd ka=>?_)
  ·refine Aq (D4 (h:=?_));refine⟨_,⟨_,_,?_,?_,rfl⟩,(wk 1 0)⟩<;>first|omega|exact Bl rfl
  refine Ci (AT (?_));refine⟨_,⟨_,_,?_,?_,rfl⟩,(wk 1 0)⟩<;>first|omega|exact Bl rfl
 rintro s ⟨b,t0,hb,ht0,rfl⟩;refine Ab (h:=BT (h:=?_));refine A7 (B0 0 (hc:=Hd l _ _ (fun z=>decide (0<=z/\z<=4)) (by omega) (by rfl) (by rfl) (by rfl)) (hR:=?_));rintro r a2 ha2 ⟨k2,rfl,p2⟩;refine B1 ?_;obtain⟨hz1,hz2⟩:=of_decide_eq_true p2;obtain⟨m,rfl⟩:=Int.eq_ofNat_of_zero_le hz1;refine Ay (h:=Cz (h:=?_));refine BL (fun n s=>∃(j b1:Nat) (t:ByteArray),j<=m/\n=m - j/\b1<=b+1+4 * j/\t.size<=1+14 * j/\s=⟨look [(0, .bp 0 0),(3, .v (.string t)),(4, .v (.int .i64 (m:Int))),(5, .v (.int .i64 (j:Int)))],⟨[EE l b1],[]⟩⟩) (m) ((wk 1 0)) (⟨0,_,t0,by omega,rfl,by omega,by omega,rfl⟩) ?_;rintro n s ⟨j,b1,t,hj,rfl,kd,ht,rfl⟩;refine EH (h:=Ff (h:=?_));refine A3 rfl (fun ke kc=>?_) (fun ke kc=>?_)
 ·refine AG (?_);refine BD (fun s=>∃(b3:Nat) (t1:ByteArray),b3<=b1+4/\t1.size<=1+14 * (j+1)/\s=⟨look [(0, .bp 0 0),(3, .v (.string t1)),(4, .v (.int .i64 (m:Int))),(5, .v (.int .i64 (j:Int)))],⟨[EE l b3],[]⟩⟩) ?_ ?_
  ·refine BF (Be (h:=ET (h:=e_ (?_))));refine A3 rfl (fun kh kf=>?_) (fun kh kf=>?_)
   ·refine BU (h:=?_);refine A7 (Hl rfl rfl (by(try simp only[LA]);omega) ?_);refine Cl (h:=?_);refine A7 (B0 0 (hc:=Gn l _ (8) (by omega) (by omega)) (hR:=?_));rintro r a3 ha3 ⟨k3,rfl,p3,q3,o3⟩;refine B1 ?_;refine BO (h:=?_);refine A3 rfl (fun kl kg=>?_) (fun kl kg=>?_)
    ·refine HU (h:=BT (h:=?_));refine A7 (B0 0 (hc:=NG l _ _ (fun s=>decide (s.size<=13)) (by omega) (by rfl) (by rfl) (by rfl)) (hR:=?_));rintro r a4 ha4 ⟨k4,rfl,p4⟩;refine B1 ?_;have hw:=of_decide_eq_true p4;refine A7 (Hl rfl rfl (by(try simp only[LA]);omega) ?_);refine Ht (h:=Bz (AT (?_)));refine⟨_,⟨_,_,?_,?_,rfl⟩,(wk 1 0)⟩<;>(try simp only[LA])<;>omega
    refine HU (h:=?_);refine A7 (B0 0 (hc:=Yy l _ (by omega)) (hR:=?_));rintro r a5 ha5 ⟨k5,rfl,hw⟩;refine B1 ?_;refine A7 (Hl rfl rfl (by(try simp only[LA]);omega) ?_);refine Ht (h:=Bz (AT (?_)));refine⟨_,⟨_,_,?_,?_,rfl⟩,(wk 1 0)⟩<;>(try simp only[LA])<;>omega
   refine Ei (h:=?_);refine A7 (B0 0 (hc:=Gn l _ (8) (by omega) (by omega)) (hR:=?_));rintro r a6 ha6 ⟨k6,rfl,p6,q6,o6⟩;refine B1 ?_;refine BO (h:=?_);refine A3 rfl (fun ko kk=>?_) (fun ko kk=>?_)
   ·refine HU (h:=BT (h:=?_));refine A7 (B0 0 (hc:=NG l _ _ (fun s=>decide (s.size<=13)) (by omega) (by rfl) (by rfl) (by rfl)) (hR:=?_));rintro r a7 ha7 ⟨k7,rfl,p7⟩;refine B1 ?_;have hw:=of_decide_eq_true p7;refine A7 (Hl rfl rfl (by(try simp only[LA]);omega) ?_);refine Ht (h:=Bz (AT (?_)));refine⟨_,⟨_,_,?_,?_,rfl⟩,(wk 1 0)⟩<;>(try simp only[LA])<;>omega
   refine HU (h:=?_);refine A7 (B0 0 (hc:=Yy l _ (by omega)) (hR:=?_));rintro r a8 ha8 ⟨k8,rfl,hw⟩;refine B1 ?_;refine A7 (Hl rfl rfl (by(try simp only[LA]);omega) ?_);refine Ht (h:=Bz (AT (?_)));refine⟨_,⟨_,_,?_,?_,rfl⟩,(wk 1 0)⟩<;>(try simp only[LA])<;>omega
  rintro s ⟨b3,t1,kh,ht1,rfl⟩;refine Rn (h:=?_);refine⟨_,_,?_,⟨j+1,_,_,by omega,rfl,?_,?_,rfl⟩,(wk 1 0)⟩<;>omega
 refine C4 (h:=Be (h:=?_));refine A7 (B0 0 (hc:=Gn l _ (8) (by omega) (by omega)) (hR:=?_));rintro r a9 ha9 ⟨k9,rfl,p9,q9,o9⟩;refine B1 ?_;refine BO (h:=?_);refine A3 rfl (fun kq km=>?_) (fun kq km=>?_)
 ·refine BU (h:=?_);refine A7 (Hl rfl rfl (by(try simp only[LA]);omega) ?_);refine Cl (h:=BW (h:=?_));refine AO none (h5:=(A6 _)) (h6:=⟨_,rfl,rfl,_,?_,rfl,_,rfl,?_⟩)<;>(try simp only[LA])<;>omega
 refine AG (EW (h:=?_));refine AO none (h5:=(A6 _)) (h6:=⟨_,rfl,rfl,_,?_,rfl,_,rfl,?_⟩)<;>(try simp only[LA])<;>omega
end
theorem mL:VD OW:=by
 refine⟨by decide,by decide,by decide,⟨Rr,[],rfl,rfl,rfl,rfl⟩,List.pairwise_singleton _ _,?_,?_,?_,?_,?_,?_,?_,?_,?_,⟨fun _=>0,?_⟩⟩<;>
  (intro n hn;obtain rfl:n=Rr:=by simpa[OW]using hn)
 ·decide
 ·decide+kernel
 ·intro h;exact absurd rfl h
 ·decide
 ·exact List.Pairwise.nil
 ·intro e he;cases he
 ·intro h;exact absurd rfl h
 ·intro h;exact absurd rfl h
 ·intro h;exact absurd rfl h
 intro h;exact absurd rfl h
theorem Yz{k:Int}(h1:1<=k)(h2:k<=3):FlsV (Gu k).1/\0<(Gu k).1.length:=by
 unfold Gu;rw[if_neg (by omega)];refine⟨⟨?_,fun d hd=>?_⟩,?_⟩
 ·show(List.replicate _ _).length<=3;rw[List.length_replicate];omega
 ·rw[(List.mem_replicate.1 hd).2];exact mL
 show 0<(List.replicate _ _).length;rw[List.length_replicate];omega
structure MntOK(f:AR)(ms:List E7)(m:E7):Prop where
 dev1:1<=m.1
 dev2:m.1<(f.length:Int)
 fresh:CR ⟨f,ms⟩ m.1=false
 dir:AU f m.2=true
 there:CR ⟨f,ms⟩ m.2.1=true
 free:(CH ⟨f,ms⟩ m.2).isSome=false
structure SpcV(s:Spc):Prop where
 files:FlsV s.files
 pos:0<s.files.length
 mnt:∀i m,s.mounts[i]?=some m->MntOK s.files (s.mounts.take i) m
theorem mM{s:Spc}(h:SpcV s)(dev:Int)(a:A8)(h0:(Eo s dev a).2=0):SpcV (Eo s dev a).1/\(Eo s dev a).1=⟨s.files,s.mounts++[(dev,a)]⟩:=by
 unfold Eo at h0 ⊢;split at h0
 ·exact absurd h0 (by decide)
 rename_i c1;split at h0
 ·exact absurd h0 (by decide)
 rename_i c2;split at h0
 ·exact absurd h0 (by decide)
 rename_i c3;split at h0
 ·exact absurd h0 (by decide)
 rename_i c4;split at h0
 ·exact absurd h0 (by decide)
 rename_i c5;rw[if_neg c1,if_neg c2,if_neg c3,if_neg c4,if_neg c5];refine⟨⟨h.files,h.pos,fun i m hi=>?_⟩,rfl⟩;simp only at hi ⊢;rcases Nat.lt_trichotomy i s.mounts.length with hlt|heq|hgt
 ·rw[DD hlt]at hi;rw[List.take_append_of_le_length (by omega)];exact h.mnt i m hi
 ·subst heq;simp at hi;subst hi;rw[List.take_left' rfl];exact⟨by simp only;omega,by simp only;omega,by simpa using fun h=>c5 (.inl h),by simp only;rw[L5];simp at c2 c3;simp[c2,c3],by simpa using fun h=>c4 (.inl h),Bool.eq_false_iff.2 fun h=>c5 (.inr h)⟩
 rw[List.getElem?_eq_none (by simp;omega)]at hi;cases hi
end
end Go.Proofs.YtbgnigjfkbmceaaGreatDoor
namespace Go.Proofs.YtbgnigjfkbmceaaGreatDoor
def E9(s:Spc)(a:A8):Option A8:=if a.2≠1 then some (a.1,(AY s.files a).parent)else CB s a.1
def ends(s:Spc):Nat->A8->Prop
 |0,a=>AU s.files a=false
 |k+1,a=>AU s.files a=false\/∀b,E9 s a=some b->ends s k b
theorem QO{s:Spc}{dev:Int}{on:A8}(h:CB s dev=some on):∃m∈s.mounts,m.1=dev/\m.2=on:=by
 unfold CB at h
 cases hf:s.mounts.find? fun m:E7=>decide (m.1=dev)with
 |none=>rw[hf]at h;cases h
 |some m=>
   rw[hf]at h;injection h with h;exact⟨m,List.mem_of_find?_eq_some hf,by have:=List.find?_some hf;simpa using this,h⟩
theorem O6{f:AR}{a:A8}(h:¬AU f a=false):∃(q:Nat) (d:Dvc) (m:Nod),a.1=(q:Int)/\f[q]?=some d/\m∈d.nodes/\m.ino=a.2/\AY f a=m/\m.kind=2:=by
 rw[Bool.not_eq_false,L5,Bool.and_eq_true,decide_eq_true_eq]at h;obtain⟨q,i,d,m,h1,h2,h3,h4,_,h6⟩:=QM h.1;exact⟨q,d,m,h1,h2,Aj h3,h4,h6,by rw[<-h6];exact h.2⟩
theorem Oq{s:Spc}(hv:SpcV s){a:A8}(h:¬AU s.files a=false):GZ s a=E9 s a:=by
 obtain⟨q,d,m,_,_,_,h4,h5,_⟩:=O6 h;unfold GZ E9;rw[h5,h4];split
 ·rfl
 split
 ·rename_i h0
  cases ho:CB s a.1 with
  |none=>rfl
  |some on=>
    obtain⟨m',hm,h1,_⟩:=QO ho;obtain⟨i,hi⟩:=List.getElem?_of_mem hm;have:=(hv.mnt i m' hi).dev1;omega
 rfl
def NH(s:Spc)(dev:Int):Nat:=match s.mounts.findIdx? fun m:E7=>decide (m.1=dev)with
 |none=>0
 |some i=>i+1
theorem Z0{s:Spc}(hv:SpcV s){dev:Int}{on:A8}(h:CB s dev=some on):NH s on.1<NH s dev:=by
 unfold CB at h
 cases hf:s.mounts.find? fun m:E7=>decide (m.1=dev)with
 |none=>rw[hf]at h;cases h
 |some m=>
   rw[hf]at h;injection h with h;subst h;rw[List.find?_eq_some_iff_getElem]at hf;obtain⟨hp,i,hi,hmi,hbefore⟩:=hf
   have e1:s.mounts.findIdx? (fun m:E7=>decide (m.1=dev))=some i:=by
    rw[List.findIdx?_eq_some_iff_getElem];exact⟨hi,by rw[hmi];exact hp,fun j hj=>by simpa using hbefore j hj⟩
   have hthere:=(hv.mnt i m (by rw[B7 hi,hmi])).there;unfold NH;rw[e1]
   cases e2:s.mounts.findIdx? (fun m':E7=>decide (m'.1=m.2.1))with
   |none=>simp
   |some j=>
     simp only;by_cases h0:m.2.1=0
     ·rw[List.findIdx?_eq_some_iff_getElem]at e2;obtain⟨hj,h1,_⟩:=e2;have:=(hv.mnt j _ (B7 hj)).dev1;simp only[decide_eq_true_eq]at h1;omega
     unfold CR CB at hthere;simp only[Bool.or_eq_true,decide_eq_true_eq,h0,or_false,Option.isSome_map]at hthere
     cases hg:(s.mounts.take i).find? fun m':E7=>decide (m'.1=m.2.1)with
     |none=>rw[hg]at hthere;cases hthere
     |some m'=>
       rw[List.find?_eq_some_iff_getElem]at hg;obtain⟨hp',k,hk,hmk,_⟩:=hg;rw[List.findIdx?_eq_some_iff_getElem]at e2;obtain⟨hj,_,hno⟩:=e2;have hki:k<i:=by simp at hk;omega
       by_cases hjk:j<=k
       ·omega
       have:=hno k (by omega);simp only[List.getElem_take]at hmk;rw[hmk]at this;rw[hp']at this;exact absurd rfl this
theorem mO{s:Spc}(hv:SpcV s):∀(p:Nat) (a:A8),NH s a.1<p->∃k,ends s k a:=by
 intro p
 induction p with
 |zero=>intro a h;omega
 |succ p ih=>
   intro a hp;by_cases hd:AU s.files a=false
   ·exact⟨0,hd⟩
   obtain⟨q,d,m,hq,hfd,_⟩:=O6 hd;have hvd:=hv.files.vd d (Aj hfd);obtain⟨rk,hrk⟩:=hvd.rank
   have key:∀(r:Nat) (ino:Int),rk ino<r->∃k,ends s k (a.1,ino):=by
    intro r
    induction r with
    |zero=>intro ino h;omega
    |succ r ihr=>
      intro ino hr;by_cases hd2:AU s.files (a.1,ino)=false
      ·exact⟨0,hd2⟩
      obtain⟨q',d',m',hq',hfd',hm',hi',hn',hk'⟩:=O6 hd2;have:q'=q:=by simp only at hq';omega
      subst this;rw[hfd]at hfd';injection hfd' with hfd';subst hfd';simp only at hi';by_cases h1:ino=1
      ·cases ho:CB s a.1 with
       |none=>exact⟨1, .inr fun b hb=>by simp[E9,h1,ho]at hb⟩
       |some on=>
         obtain⟨k,hk⟩:=ih on (by have:=Z0 hv ho;omega);refine⟨k+1, .inr fun b hb=>?_⟩;simp[E9,h1,ho]at hb;rw[<-hb];exact hk
      obtain⟨k,hk⟩:=ihr m'.parent (by have:=hrk m' hm' (by omega) hk';rw[hi']at this;omega);refine⟨k+1, .inr fun b hb=>?_⟩;simp[E9,h1,hn']at hb;rw[<-hb];exact hk
   exact key (rk a.2+1) a.2 (by omega)
theorem O7{s:Spc}{a:A8}(h:AU s.files a=false):∀k,BS s k a=[]
 |0=>rfl
 |k+1=>by unfold BS;rw[h];rfl
theorem La{s:Spc}{a:A8}(h:¬AU s.files a=false)(k:Nat):BS s (k+1) a=a::(match GZ s a with
    |none=>[]
    |some b=>BS s k b):=by
 conv=>lhs;unfold BS
 rw[if_pos (by simpa using h)];cases GZ s a<;>rfl
theorem V0{s:Spc}(hv:SpcV s):∀(k k':Nat) (a:A8),ends s k a->ends s k' a->BS s k a=BS s k' a:=by
 intro k
 induction k with
 |zero=>intro k' a h _;rw[O7 h,O7 h]
 |succ k ih=>
   intro k' a h h';by_cases hd:AU s.files a=false
   ·rw[O7 hd,O7 hd]
   cases k' with
   |zero=>exact absurd h' hd
   |succ k'=>
     rw[La hd,La hd];have h1:=h.resolve_left hd;have h2:=h'.resolve_left hd;rw[<-Oq hv hd]at h1 h2
     cases hs:GZ s a with
     |none=>rfl
     |some b=>simp only;rw[ih k' b (h1 b hs) (h2 b hs)]
theorem V4{s:Spc}(hv:SpcV s):∀(k:Nat) (a x:A8),ends s k a->x∈BS s k a->(¬AU s.files x=false)/\∃j,ends s j x/\(BS s j x).length<=(BS s k a).length:=by
 intro k
 induction k with
 |zero=>intro a x h hx;cases hx
 |succ k ih=>
   intro a x h hx;by_cases hd:AU s.files a=false
   ·rw[O7 hd]at hx;cases hx
   have h1:=h.resolve_left hd;rw[<-Oq hv hd]at h1;rw[La hd]at hx;rcases List.mem_cons.1 hx with rfl|hx
   ·exact⟨hd,k+1,h,As _⟩
   rw[La hd]
   cases hs:GZ s a with
   |none=>rw[hs]at hx;cases hx
   |some b=>
     rw[hs]at hx;obtain⟨h2,j,h3,h4⟩:=ih b x (h1 b hs) hx;exact⟨h2,j,h3,by simp;omega⟩
theorem Z1{s:Spc}(hv:SpcV s):∀(k:Nat) (a:A8),ends s k a->(BS s k a).Nodup:=by
 intro k
 induction k with
 |zero=>intro a h;exact List.nodup_nil
 |succ k ih=>
   intro a h;by_cases hd:AU s.files a=false
   ·rw[O7 hd];exact List.nodup_nil
   have h1:=h.resolve_left hd;rw[<-Oq hv hd]at h1
   cases hs:GZ s a with
   |none=>rw[La hd,hs];simp
   |some b=>
     have e:BS s (k+1) a=a::BS s k b:=by rw[La hd,hs]
     rw[e,List.nodup_cons];refine⟨fun hm=>?_,ih b (h1 b hs)⟩;obtain⟨_,j,h3,h4⟩:=V4 hv k b a (h1 b hs) hm;rw[V0 hv j (k+1) a h3 h,e]at h4;simp at h4;omega
def Ot:Nat->AR->List A8
 |_,[]=>[]
 |q,d::ds=>d.nodes.map (fun n=>((q:Int),n.ino))++Ot (q+1) ds
theorem Z2:∀(f:AR) (q:Nat),(Ot q f).length=Bh f
 |[],_=>rfl
 |d::ds,q=>by
   have:=Z2 ds (q+1);unfold Bh at this ⊢;simp only[Ot,List.length_append,List.length_map,List.map_cons,List.sum_cons];omega
theorem Z3:∀(f:AR) (q i:Nat) (d:Dvc) (m:Nod),f[i]?=some d->m∈d.nodes->(((q+i:Nat):Int),m.ino)∈Ot q f
 |[],_,i,_,_,h,_=>by simp at h
 |d0::ds,q,0,d,m,h,hm=>by
   simp only[List.getElem?_cons_zero,Option.some.injEq]at h;subst h;simp only[Ot,Nat.add_zero];exact List.mem_append_left _ (List.mem_map.2 ⟨m,hm,rfl⟩)
 |d0::ds,q,i+1,d,m,h,hm=>by
   simp only[List.getElem?_cons_succ]at h;have:=Z3 ds (q+1) i d m h hm;simp only[Ot];refine List.mem_append_right _ ?_
   rwa [show q+(i+1)=q+1+i by omega]
theorem mP{l:List A8}(hn:l.Nodup):∀{m:List A8},(∀x∈l,x∈m)->l.length<=m.length:=by
 induction l with
 |nil=>intro m _;simp
 |cons x xs ih=>
   intro m h;rw[List.nodup_cons]at hn
   have h1:=ih hn.2 (m:=m.erase x) fun y hy=>by
    have hne:y≠x:=fun e=>hn.1 (e ▸ hy);exact(List.mem_erase_of_ne hne).2 (h y (List.mem_cons_of_mem _ hy))
   have h2:=List.length_erase_of_mem (h x (List.mem_cons_self ..));have h3:0<m.length:=List.length_pos_of_mem (h x (List.mem_cons_self ..));simp only[List.length_cons];omega
theorem mQ{s:Spc}(hv:SpcV s){k:Nat}{a:A8}(h:ends s k a):(BS s k a).length<=Bh s.files:=by
 rw[<-Z2 s.files 0];refine mP (Z1 hv k a h) fun x hx=>?_;obtain⟨hd,_⟩:=V4 hv k a x h hx;obtain⟨q,d,m,h1,h2,h3,h4,_⟩:=O6 hd;have:=Z3 s.files 0 q d m h2 h3;rw[Nat.zero_add,h4,<-h1]at this;exact this
theorem mR{s:Spc}(hv:SpcV s):∀(k m:Nat) (a:A8),ends s k a->(BS s k a).length<=m->ends s m a:=by
 intro k
 induction k with
 |zero=>
   intro m a h _
   cases m with
   |zero=>exact h
   |succ m=>exact .inl h
 |succ k ih=>
   intro m a h hl;by_cases hd:AU s.files a=false
   ·cases m with
    |zero=>exact hd
    |succ m=>exact .inl hd
   have h1:=h.resolve_left hd;rw[La hd]at hl
   cases m with
   |zero=>simp at hl
   |succ m=>
     refine .inr fun b hb=>?_;have hb':=hb;rw[<-Oq hv hd]at hb';rw[hb']at hl;exact ih m b (h1 b hb) (by simpa using hl)
theorem M5{s:Spc}(hv:SpcV s)(a:A8):ends s (Bh s.files) a:=by
 obtain⟨k,hk⟩:=mO hv (NH s a.1+1) a (Nat.lt_succ_self _);exact mR hv k _ a hk (mQ hv hk)
end Go.Proofs.YtbgnigjfkbmceaaGreatDoor
namespace Go.Proofs.YtbgnigjfkbmceaaGreatDoor
theorem mT{s:Spc}(hv:SpcV s):∀(k:Nat) (a x:A8),ends s k a->x∈BS s k a->∃j,ends s j x/\BS s j x<:+BS s k a:=by
 intro k
 induction k with
 |zero=>intro a x h hx;cases hx
 |succ k ih=>
   intro a x h hx;by_cases hd:AU s.files a=false
   ·rw[O7 hd]at hx;cases hx
   have h1:=h.resolve_left hd;rw[<-Oq hv hd]at h1;rw[La hd]at hx;rcases List.mem_cons.1 hx with rfl|hx
   ·exact⟨k+1,h,List.suffix_refl _⟩
   rw[La hd]
   cases hs:GZ s a with
   |none=>rw[hs]at hx;cases hx
   |some b=>
     rw[hs]at hx;obtain⟨j,h3,h4⟩:=ih b x (h1 b hs) hx;exact⟨j,h3,h4.trans (List.suffix_cons _ _)⟩
section
open Go.RowKit
variable {s:Spc}(hv:SpcV s)
include hv
theorem mU{a b:A8}(h:a∈BS s (Bh s.files) b):BS s (Bh s.files) a<:+BS s (Bh s.files) b:=by
 obtain⟨j,h1,h2⟩:=mT hv _ b a (M5 hv b) h
 rwa [V0 hv j (Bh s.files) a h1 (M5 hv a)]at h2
theorem SF{a:A8}(h:AU s.files a=true):∃t,BS s (Bh s.files) a=a::t:=by
 have hd:¬AU s.files a=false:=by rw[h];simp
 have:=M5 hv a
 cases hm:Bh s.files with
 |zero=>rw[hm]at this;exact absurd this hd
 |succ m=>exact⟨_,La hd m⟩
theorem mV{a b:A8}(h:a∈BS s (Bh s.files) b):AU s.files a=true:=by
 have:=(V4 hv _ b a (M5 hv b) h).1
 simpa using this
end
section
open Go.RowKit
open Go.Shelf
section
variable {F:Fence}{n:Nat}{P:Program}
theorem Z4{α:Type}{g:Operand}{ps:Array Tmp}{assign body:Code}{Q:Exit->Act->World->Prop}{a:Act}{w:World}
    (hro:F.round=none) (h1:1<=n) {gf:Nat} {lb:Array Value} (hg:a.eval g= .func (.func gf) #[] lb) (hFg:F.fn gf) (eg:∀args w,(callFunc gf args).run P w= .ok (.enter gf args) w)
    {encs:α->Array Value} {own:Nat->Prop} {Kp:World->World->Prop} {Pf:List α->Prop} {S Sp:List α->Prop} {w0:World} (hseq:SeqW F (n - 1) P gf lb encs own Kp Pf S Sp w0)
    (hown:∀b,own b->b<w.heap.size) (hKt:∀{A B C:World},Kp A B->Kp B C->Kp A C) (hKb:∀(W:World) (l:Nat) (o o':Obj),w.heap.size<=l->W.heap[l]?=some o->o.isCells=false->Kp W (W.putObj l o'))
    (kw:Below w0.heap.size w0 w) (hps:∀x,(encs x).size=ps.size)
    (I:List α->World->Prop) (Ix:Code->List α->World->Prop) (hI:∀s X Y,I s X->Moves own w.heap.size X Y->I s Y) (hIx:∀c s X Y,Ix c s X->Moves own w.heap.size X Y->Ix c s Y) (h0:I [] w) (a₁:α->World->Act) (w₁:α->World->World) (hw1:∀x W,w.heap.size+2<=W.heap.size->Below W.heap.size W (w₁ x W)/\Kp W (w₁ x W))
    (hassign:∀(l:Nat) (x:α) (W:World) (K:Act->World->Prop),w.heap.size+2<=W.heap.size->K (a₁ x W) (w₁ x W)->
      assign.wpIn (F.inRound l) (n - 1 - 1) P (Exit.then K (fun _ _ _=>False)) {tmps:=(ps.zip (encs x)).foldl (fun t (p,v)=>t.setIfInBounds p v) a.tmps,defers:=[]} W)
    (hbody:∀(l:Nat) (pre:List α) (x:α) (W0 W:World),I pre W->Pf (pre++[x])->w.heap.size+2<=W0.heap.size->(w₁ x W0).heap.size<=W.heap.size->(∀(k:Nat) (o:Obj),(w₁ x W0).heap[k]?=some o->o.isCells=true->W.heap[k]?=some o)->w.heap.size<=l->(∃r,W.heap[l]?=some (.loop r))->
      body.wpIn (F.inRound l) (n - 1 - 1) P (ownPostG w.heap.size Kp I Ix (pre++[x]) W) (a₁ x W0) W)
    (hdone:∀(D:Nat) (xs:List α) (W:World),w.heap.size<=D->S xs->I xs W->W.heap[D]?=some (.deferred (some []))->Q .normal {a with defers:={target:= .collected D,args:=#[]}::a.defers} W)
    (hstop:∀(D:Nat) (c:Code) (pre:List α) (W:World),w.heap.size<=D->Sp pre->Ix c pre W->W.heap[D]?=some (.deferred (some []))->c.wpIn F n P Q {a with defers:={target:= .collected D,args:=#[]}::a.defers} W):
    (Code.rangeFunc g ps assign body).wpIn F n P Q a w:=by
 refine wpIn_rangeFunc ?_;intro fn hfn;rw[hro];obtain⟨rec,hrec⟩:∃rec:LoopState->Option Code->Loop,rec=fun st pe=>{state:=st,pending:=pe,fn,tmps:=a.tmps,params:=ps,assign,body,defers:=w.heap.size}:=⟨_,rfl⟩;obtain⟨W1,hW1⟩:∃W1,(w.alloc (.deferred (some []))).alloc (.loop (rec .ready none))=W1:=⟨_,rfl⟩;have hbw:Below w.heap.size w W1:=by rw[<-hW1];exact M1 w _ _
 have hsz:W1.heap.size=w.heap.size+2:=by rw[<-hW1];simp
 have hL1:W1.heap[w.heap.size+1]?=some (.loop (rec .ready none)):=by rw[<-hW1];exact MX _ _ _
 have hK1:W1.heap[w.heap.size]?=some (.deferred (some [])):=by rw[<-hW1];exact MW _ _ _
 have hn0:¬own w.heap.size:=fun h=>by have:=hown _ h;omega
 have hn1:¬own (w.heap.size+1):=fun h=>by have:=hown _ h;omega
 refine⟨w.heap.size+1,[{target:= .collected w.heap.size,args:=#[]}],W1,{target:= .fn (.func gf) lb,args:=#[.func (.yield (w.heap.size+1)) #[] #[]]},W1,gf,
  #[.func (.yield (w.heap.size+1)) #[] #[]]++lb,W1,?_,?_,?_,?_,fun _=>h1,?_⟩
 ·rw[<-hW1,hrec];exact run_enterLoop_outer _ _ _ _ _
 ·simp only[resolve,hg];simp[go_sem]
 ·intro f' hf';simp[Target.leads]at hf';subst hf';exact hFg
 ·simp[invoke,go_sem,eg]
 have lt_of:∀{W:World} {k:Nat} {o:Obj},W.heap[k]?=some o->k<W.heap.size:=fun h=>(Array.getElem?_eq_some_iff.1 h).1;have keep:∀{X Y:World} {k:Nat} {o:Obj},Moves own W1.heap.size X Y->X.heap[k]?=some o->k<W1.heap.size->¬own k->Y.heap[k]?=some o:=fun hm hx hk hn=>(hm.block _ (lt_of hx) hn (.inl hk)).trans hx
 refine(hseq (w.heap.size+1)
  (fun pre W=>I pre W/\W.heap[w.heap.size+1]?=some (.loop (rec .ready none))/\W.heap[w.heap.size]?=some (.deferred (some [])))
  (fun pre W=>∃c,Ix c pre W/\W.heap[w.heap.size+1]?=some (.loop (rec .done (some c)))/\W.heap[w.heap.size]?=some (.deferred (some [])))
  W1 (kw.trans (hbw.mono kw.size))
  (fun s X Y hs hm=>⟨hI s X Y hs.1 (hm.mono (by omega)),keep hm hs.2.1 (by omega) hn1,keep hm hs.2.2 (by omega) hn0⟩)
  (fun s X Y hs hm=>by
    obtain⟨c,hc,hl,hk⟩:=hs
    exact⟨c,hIx c s X Y hc (hm.mono (by omega)),keep hm hl (by omega) hn1,keep hm hk (by omega) hn0⟩)
  ?_ ⟨hI _ _ _ h0 (.below hbw),hL1,hK1⟩).mono ?_
 ·rintro pre x W0 ⟨hi0,hl0,hk0⟩ hpf;have hlt0:w.heap.size+1<W0.heap.size:=lt_of hl0;obtain⟨hbV,hkV⟩:=hw1 x W0 hlt0;obtain⟨W,hWe⟩:∃W,w₁ x W0=W:=⟨_,rfl⟩;rw[hWe]at hbV hkV;have hi:I pre W:=hI _ _ _ hi0 (.below hbV);have hl:=(hbV.block _ (by omega)).trans hl0;have hk:=(hbV.block _ (by omega)).trans hk0;have hlt:w.heap.size+1<W.heap.size:=lt_of hl;have hy:=run_yield (P:=P) (args:=encs x) hl0 (by rw[hrec];exact hps x);rw[hrec]at hy;refine⟨fn,_,assign,body,hy,roundIn_of_wpIn hfn (hassign _ x W0 _ hlt0 ⟨_,run_beginRound (by rw[hWe];exact hl) (by rw[hrec]),?_⟩)⟩;rw[hWe];have hl2:(W.putObj (w.heap.size+1) (.loop {rec .ready none with state:= .busy})).heap[w.heap.size+1]?=some (.loop {rec .ready none with state:= .busy}):=World.putObj_heap_same hlt;have hk2:(W.putObj (w.heap.size+1) (.loop {rec .ready none with state:= .busy})).heap[w.heap.size]?=some (.deferred (some [])):=(World.putObj_heap_other (by omega)).trans hk;have hw2:Kp W0 (W.putObj (w.heap.size+1) (.loop {rec .ready none with state:= .busy})):=hKt hkV (hKb _ _ _ _ (by omega) hl rfl)
  refine wpIn_mono (hbody _ pre x W0 _ (hI _ _ _ hi (.put_ _ hl rfl (by omega))) hpf hlt0 (by rw[hWe];exact(grownBy_putObj' W (w.heap.size+1) _).size) (fun k o hko hoc=>by
   rw[hWe]at hko;refine(World.putObj_heap_other fun e=>?_).trans hko;subst e;rw[hl]at hko;injection hko with hko;subst hko
   cases hoc) (by omega) ⟨_,hl2⟩) ?_
  have fin:∀(jump:Option Code) (W3:World),KeepsFrom w.heap.size (W.putObj (w.heap.size+1) (.loop {rec .ready none with state:= .busy})) W3->
      (Instr.endRound (w.heap.size+1) jump).run P W3= .ok (.bool jump.isNone) (W3.putObj (w.heap.size+1) (.loop (rec (if jump.isNone then .ready else .done) jump)))/\
      W3.heap[w.heap.size+1]?=some (.loop {rec .ready none with state:= .busy})/\
      (W3.putObj (w.heap.size+1) (.loop (rec (if jump.isNone then .ready else .done) jump))).heap[w.heap.size+1]?=some (.loop (rec (if jump.isNone then .ready else .done) jump))/\
      (W3.putObj (w.heap.size+1) (.loop (rec (if jump.isNone then .ready else .done) jump))).heap[w.heap.size]?=some (.deferred (some [])):=fun jump W3 hk3=>by
   have hl3:=hk3.same _ _ (by omega) hl2 rfl;have:=run_endRound (P:=P) jump hl3;rw[hrec]at this ⊢;exact⟨this,by rw[hrec]at hl3;exact hl3,World.putObj_heap_same (lt_of hl3),(World.putObj_heap_other (by omega)).trans (hk3.same _ _ (As _) hk2 rfl)⟩
  rintro e a3 W3 hp
  cases e with
  |normal=>
    obtain⟨hk3,hkp3,hi3⟩:=hp;obtain⟨hr,hl3,hl4,hk4⟩:=fin none W3 hk3;exact⟨_,_,hr, .inl ⟨rfl,⟨hI _ _ _ hi3 (.put_ _ hl3 rfl (by omega)),hl4,hk4⟩,hKt (hKt hw2 hkp3) (hKb _ _ _ _ (by omega) hl3 rfl)⟩⟩
  |ret=>
    obtain⟨hk3,hi3⟩:=hp;obtain⟨hr,hl3,hl4,hk4⟩:=fin (some .ret) W3 hk3;exact⟨_,_,hr, .inr ⟨rfl, .ret,hIx _ _ _ _ hi3 (.put_ _ hl3 rfl (by omega)),hl4,hk4⟩⟩
  |exit id=>
    obtain⟨hk3,hi3⟩:=hp;obtain⟨hr,hl3,hl4,hk4⟩:=fin (some (.exit id)) W3 hk3;exact⟨_,_,hr, .inr ⟨rfl, .exit id,hIx _ _ _ _ hi3 (.put_ _ hl3 rfl (by omega)),hl4,hk4⟩⟩
  |goto t=>
    obtain⟨hk3,hi3⟩:=hp;obtain⟨hr,hl3,hl4,hk4⟩:=fin (some (.goto t)) W3 hk3;exact⟨_,_,hr, .inr ⟨rfl, .goto t,hIx _ _ _ _ hi3 (.put_ _ hl3 rfl (by omega)),hl4,hk4⟩⟩
  |panic ch=>exact hp.elim
  |outgrown=>exact hp.elim
 rintro e W2 ⟨⟨v,rfl⟩,(⟨xs,hS,hi,hl,hk⟩|⟨pre,hSp,c,hi,hl,hk⟩)⟩
 ·exact⟨none,_,by have:=run_endLoop (P:=P) hl (by rw[hrec];simp);rw[hrec]at this;exact this,hdone _ xs _ (As _) hS (hI _ _ _ hi (.put_ _ hl rfl (by omega))) ((World.putObj_heap_other (by omega)).trans hk)⟩
 exact⟨some c,_,by have:=run_endLoop (P:=P) hl (by rw[hrec];simp);rw[hrec]at this;exact this,hstop _ c pre _ (As _) hSp (hIx _ _ _ _ hi (.put_ _ hl rfl (by omega))) ((World.putObj_heap_other (by omega)).trans hk)⟩
end
theorem CC{W:World}{k:Nat}{o:Obj}(h:W.heap[k]?=some o):k<W.heap.size:=(Array.getElem?_eq_some_iff.1 h).1
attribute [local go_sem] Oper.semAt_some
set_option maxRecDepth 100000 in
set_option maxHeartbeats 2000000 in
theorem mW(n:Nat)(hn:Hid (1<=n))(s:Spc)(hs:SpcB s)(root dir:A8)(ds ms:Value)(w:World)(h:SpcIn s w.heap.size w ds ms):
    CallsIn Fence.wide n prog 120 #[.agg #[ds,ms],FF root,FF dir] w fun e w'=>e= .returned (.bool (decide (root∈BS s (Bh s.files) dir)))/\Below w.heap.size w w':=by
 obtain⟨rd,ri⟩:=root;obtain⟨dd,di⟩:=dir;unfold FF;refine callsIn_of_wp_marks Tryz.func120 rfl trivial ?_ rfl;simp only[Tryz.ntmps120,List.size_toArray,List.length_cons,List.length_nil,Nat.reduceAdd,Nat.reduceSub,Array.replicate_succ,Array.replicate_zero,List.push_toArray,List.append_toArray,List.nil_append,List.cons_append]
 gi_wp2_with fail
 obtain⟨W4,hW4⟩:∃W4,(((w.alloc (.cells #[ds,ms] 42)).alloc (.cells #[.int .i64 rd, .int .i64 ri] 26)).alloc (.cells #[.int .i64 dd, .int .i64 di] 26)).alloc (.cells #[.bool false] 4)=W4:=⟨_,rfl⟩;have hz4:W4.heap.size=w.heap.size+4:=by rw[<-hW4];simp
 have hB4:Below w.heap.size w W4:=by rw[<-hW4];exact UB _ _ _ _ _
 have kR:W4.heap[w.heap.size+1]?=some (.cells #[.int .i64 rd, .int .i64 ri] 26):=by rw[<-hW4];exact UC _ _ _ _ _
 have kE:Boxed W4 (w.heap.size+1+1+1) 4 (.bool false):=by rw[<-hW4];exact UD _ _ _ _ _
 rw[hW4];have HZ4:=Lib.hid hz4;clear hW4;refine G4 ((callsIn_wide.2 (YJ ds ms (dd,di) W4)).mono ?_);rintro e W6 ⟨rfl,hW6⟩;have hB6:Below W4.heap.size W4 W6:=by rw[hW6];exact M1 _ _ _
 have hz6:W6.heap.size=w.heap.size+6:=by rw[hW6];simp[hz4]
 have kS:W6.heap[W4.heap.size]?=some (.cells #[ds,ms] 42):=by rw[hW6];exact MW _ _ _
 have kD:W6.heap[W4.heap.size+1]?=some (.cells #[.int .i64 dd, .int .i64 di] 26):=by rw[hW6];exact MX _ _ _
 have kR6:=BY kR hB6 (by omega);have kE6:Boxed W6 (w.heap.size+1+1+1) 4 (.bool false):=BY kE hB6 (by omega);have hBw:Below w.heap.size w W6:=hB4.trans (hB6.mono (by omega));have kSp:=h.below hBw (As _);have HZ6:=Lib.hid hz6;clear hW6 kR kE hB4 hB6 hz6 hz4
 gi_wp2_with fail
 refine Z4 rfl hn.out (gf:=228) rfl trivial (enters_of Tryz.func228 (by kernel_rfl) rfl)
  (YM (n - 1) s hs (dd,di) w.heap.size W4.heap.size (W4.heap.size+1) ds ms W6 kS kD kSp (by have:=HZ4.out;omega) (by have:=HZ4.out;omega) (by omega))
  (fun b hb=>by have:=HZ4.out;have:=HZ6.out;omega) KeepC.trans (fun W l o o' hl ho hc=>by have:=HZ4.out;have:=HZ6.out;exact YK (B:=W6.heap.size) (by omega) (by omega) (by omega) W l o o' hl ho hc) (Below.refl _ _) (fun _=>rfl)
  (fun pre W=>W.heap[w.heap.size+1]?=some (.cells #[.int .i64 rd, .int .i64 ri] 26)/\Boxed W (w.heap.size+1+1+1) 4 (.bool false)/\(rd,ri)∉pre/\Below w.heap.size w W)
  (fun c pre W=>c= .ret/\Boxed W (w.heap.size+1+1+1) 4 (.bool true)/\(rd,ri)∈pre/\Below w.heap.size w W)
  (fun s X Y h hm=>⟨(hm.block _ (CC h.1) (by have:=HZ4.out;omega) (.inr ⟨_,h.1,rfl⟩)).trans h.1,hm.boxed h.2.1 (by have:=HZ4.out;omega),h.2.2.1,hm.under h.2.2.2 (As _) (fun b hb=>by have:=HZ4.out;omega) (by have:=HZ6.out;omega)⟩)
  (fun c s X Y h hm=>⟨h.1,hm.boxed h.2.1 (by have:=HZ4.out;omega),h.2.2.1,hm.under h.2.2.2 (As _) (fun b hb=>by have:=HZ4.out;omega) (by have:=HZ6.out;omega)⟩)
  ⟨kR6,kE6,by simp,hBw⟩
  (fun x W=>{tmps:=#[.agg #[ds,ms], .agg #[.int .i64 rd, .int .i64 ri], .agg #[.int .i64 dd, .int .i64 di], .pointer (some ⟨w.heap.size,0,none⟩), .pointer (some ⟨w.heap.size+1,0,none⟩), .pointer (some ⟨w.heap.size+1+1,0,none⟩), .pointer (some ⟨w.heap.size+1+1+1,0,none⟩), .pointer (some ⟨W.heap.size,0,none⟩), .agg #[ds,ms], .agg #[.int .i64 dd, .int .i64 di],
    .func (.func 228) #[] #[.pointer (some ⟨W4.heap.size,0,none⟩), .pointer (some ⟨W4.heap.size+1,0,none⟩)], .agg #[.int .i64 x.1, .int .i64 x.2],undef,undef,undef],defers:=[]})
  (fun x W=>W.alloc (.cells #[.int .i64 x.1, .int .i64 x.2] 26))
  (fun x W hsz=>⟨Jz _ _,by have:=HZ4.out;have:=HZ6.out;exact Q4 (Jz _ _) (by omega) (by omega) (by omega)⟩) ?assign ?body ?done ?stop
 case assign=>
  intro l x W K hsz hK;unfold FF
  gi_wp2
  exact hK
 case body=>
  rintro l pre x W0 W ⟨c1,cE,hnm,hbw⟩ _ hsz hszW hcell _ _;have cX:=hcell _ _ (MV W0 (.cells #[.int .i64 x.1, .int .i64 x.2] 26)) rfl;have HN:=Lib.hid hnm;have HZ:=Lib.hid hsz;clear hnm hsz hcell;obtain⟨c1',f1'⟩:=CS c1;obtain⟨cX',fX'⟩:=CS cX;have cE':=cE.cell;have fE':=cE.frozen;have h4:=HZ4.out;have h6:=HZ6.out;simp only[Pn]at hszW
  gi_wp2_with fail
  ·exact⟨Q2 (O0 (Below.refl _ _)) (by omega) _,rfl,cE.set _,List.mem_append_right _ (by simp;exact Prod.ext (by simp[*]) (by simp[*])),hbw.setCell (by show w.heap.size<=w.heap.size+1+1+1;omega) _⟩
  all_goals
   have hz:=HZ.out
   exact⟨O0 (Below.refl _ _),Q4 (Below.refl _ _) (by omega) (by omega) (by omega),c1,cE,by
    intro hm;rcases List.mem_append.1 hm with hm|hm
    ·exact HN.out hm
    simp only[List.mem_singleton]at hm;subst hm
    simp_all,hbw⟩
 case done=>
  rintro D xs W hD hS ⟨_,hc,hnm,hbw⟩ hK;have HS:=Lib.hid hS;have HN:=Lib.hid hnm;clear hS hnm;have hcell:=hc.cell;have hfz:=hc.frozen
  gi_wp2
  have h4:=HZ4.out;have h6:=HZ6.out;refine⟨by simp, .inl ⟨_,_,rfl,run_takeDeferred ((KeepsOthers.setCell _ _ _).same D _ hK rfl),?_⟩⟩;have hcb:=(MZ (hc.set (.bool false)) (show w.heap.size+1+1+1≠D by omega) (.deferred none)).cell;refine⟨.bool false,by simp[results,Tryz.f120,go_sem,hcb],by rw[decide_eq_false (by rw[<-HS.out];exact HN.out)],O1 (hbw.setCell (p:=⟨w.heap.size+1+1+1,0,none⟩) (by show w.heap.size<=w.heap.size+1+1+1;omega) _) (by omega) _⟩
 case stop=>
  rintro D c pre W hD hSp ⟨rfl,hc,hnm,hbw⟩ hK;have HS:=Lib.hid hSp;have HN:=Lib.hid hnm;clear hSp hnm;have hcell:=hc.cell
  gi_wp2
  have h4:=HZ4.out;have h6:=HZ6.out;refine⟨by simp, .inl ⟨_,_,rfl,run_takeDeferred hK,?_⟩⟩;have hcb:=(MZ hc (show w.heap.size+1+1+1≠D by omega) (.deferred none)).cell;refine⟨.bool true,by simp[results,Tryz.f120,go_sem,hcb],by rw[decide_eq_true (HS.out.subset HN.out)],O1 hbw (by omega) _⟩
end
section
open Go.RowKit
open Go.Shelf
attribute [local go_sem] Oper.semAt_some
end
section
open Go.RowKit
def JN(s:Spc)(a:A8):Nod:=AY s.files (a.1,(AY s.files a).parent)
def Ce(s:Spc)(a:A8):AD:=(((JN s a).entries.find? fun e:BQ=>decide (e.2=a.2)).map (·.1)).getD ⟨#[]⟩
section
theorem mX(s:Spc)(a:A8)(hs:SpcB s):AFn prog 283 [.agg (AQ s), .agg (AB a)] (fun r=>r= .v (.string (Ce s a))):=by
 have hen:=Ph hs.files (a.1,(AY s.files a).parent);change (JN s a).entries.length<=1000 at hen;refine enter Tryz.func283 rfl rfl rfl rfl rfl 0 rfl ?_;refine Hw (h:=B2 (h:=l_ (h:=?_)));refine AK (Lz s.files a hs.files) ?_
 skip
 refine EU (h:=Ay (h:=H8 (h:=Ac (h:=Bd (h:=?_)))));refine AK (Lz s.files (a.1,(AY s.files a).parent) hs.files) ?_
 skip
 refine EU (h:=GT (h:=GU (h:=e_ (BF (?_)))));refine BL (fun m t=>∃j:Nat,j<=(JN s a).entries.length/\m=(JN s a).entries.length - j/\(∀i y,i<j->(JN s a).entries[i]?=some y->decide (y.2=a.2)=false)/\t=⟨look [(3, .bp 1 0),(30, .sl 2 ((JN s a).entries.map D6) none),(31, .v (.int .i64 (((JN s a).entries.map D6).length:Int))),(32, .v (.int .i64 (j:Int)))],⟨[AQ s,AB a],[]⟩⟩) ((JN s a).entries.length) ((wk 2 0)) (⟨0,by omega,rfl,fun i y hi=>by omega,rfl⟩) ?_;rintro m t ⟨j,hj,rfl,ha,rfl⟩;refine Fz (h:=?_);refine A3 rfl (fun kd ka=>?_) (fun kd ka=>?_)
 ·obtain⟨hlt,x,hy,ya, -⟩:=Bx D6 ka;refine Bq (h:=w_ (E6 (h:=CP (h:=B2 (h:=D2 (h:=e_ (?_)))))));refine A3 rfl (fun ke kc=>?_) (fun ke kc=>?_)
  ·refine B2 (h:=BE (h:=C1 (h:=?_)));refine A4 ?_;rw[show Ce s a=x.1 by simp only[Ce];rw[Lv hy (by simpa using kc) ha];rfl];rfl
  refine Ej (h:=Aq (GV (h:=?_)));refine⟨_,_,?_,⟨j+1,by omega,rfl,GX hy ha (by simpa using kc),rfl⟩,(wk 2 0)⟩;omega
 have e3:=CA D6 hj ka;subst e3;refine Hv (h:=?_);refine A4 ?_;rw[show Ce s a=⟨#[]⟩ by simp only[Ce];rw[Lw ha];rfl];rfl
end
end
section
open Go.RowKit
open Go.Shelf
section
variable {F:Fence}{n:Nat}{P:Program}
theorem mY{α:Type}{g:Operand}{ps:Array Tmp}{assign body:Code}{Q:Exit->Act->World->Prop}{a:Act}{w:World}
    {l₀:Nat} {r₀:Loop} (hro:F.round=some l₀) (hl₀:w.heap[l₀]?=some (.loop r₀)) (h1:1<=n) {gf:Nat} {lb:Array Value} (hg:a.eval g= .func (.func gf) #[] lb) (hFg:F.fn gf) (eg:∀args w,(callFunc gf args).run P w= .ok (.enter gf args) w)
    {encs:α->Array Value} {own:Nat->Prop} {Kp:World->World->Prop} {Pf:List α->Prop} {S Sp:List α->Prop} {w0:World} (hseq:SeqW F (n - 1) P gf lb encs own Kp Pf S Sp w0)
    (hown:∀b,own b->b<w.heap.size) (hKt:∀{A B C:World},Kp A B->Kp B C->Kp A C) (hKb:∀(W:World) (l:Nat) (o o':Obj),w.heap.size<=l->W.heap[l]?=some o->o.isCells=false->Kp W (W.putObj l o'))
    (kw:Below w0.heap.size w0 w) (hps:∀x,(encs x).size=ps.size)
    (I:List α->World->Prop) (Ix:Code->List α->World->Prop) (hI:∀s X Y,I s X->Moves own w.heap.size X Y->I s Y) (hIx:∀c s X Y,Ix c s X->Moves own w.heap.size X Y->Ix c s Y) (h0:I [] w) (a₁:α->Act)
    (hassign:∀(l:Nat) (x:α) (W:World) (K:Act->World->Prop),K (a₁ x) W->
      assign.wpIn (F.inRound l) (n - 1 - 1) P (Exit.then K (fun _ _ _=>False)) {tmps:=(ps.zip (encs x)).foldl (fun t (p,v)=>t.setIfInBounds p v) a.tmps,defers:=[]} W)
    (hbody:∀(l:Nat) (pre:List α) (x:α) (W:World),I pre W->Pf (pre++[x])->w.heap.size+1<=W.heap.size->body.wpIn (F.inRound l) (n - 1 - 1) P (ownPostG w.heap.size Kp I Ix (pre++[x]) W) (a₁ x) W)
    (hdone:∀(xs:List α) (W:World),S xs->I xs W->Q .normal a W)
    (hstop:∀(c:Code) (pre:List α) (W:World),Sp pre->Ix c pre W->c.wpIn F n P Q a W):
    (Code.rangeFunc g ps assign body).wpIn F n P Q a w:=by
 refine wpIn_rangeFunc ?_;intro fn hfn;rw[hro];obtain⟨rec,hrec⟩:∃rec:LoopState->Option Code->Loop,rec=fun st pe=>{state:=st,pending:=pe,fn,tmps:=a.tmps,params:=ps,assign,body,defers:=r₀.defers}:=⟨_,rfl⟩;obtain⟨W1,hW1⟩:∃W1,w.alloc (.loop (rec .ready none))=W1:=⟨_,rfl⟩;have hbw:Below w.heap.size w W1:=by rw[<-hW1];exact Jz w _
 have hsz:W1.heap.size=w.heap.size+1:=by rw[<-hW1];simp
 have hL1:W1.heap[w.heap.size]?=some (.loop (rec .ready none)):=by rw[<-hW1];exact MV _ _
 have hn1:¬own w.heap.size:=fun h=>by have:=hown _ h;omega
 refine⟨w.heap.size,[],W1,{target:= .fn (.func gf) lb,args:=#[.func (.yield w.heap.size) #[] #[]]},W1,gf,
  #[.func (.yield w.heap.size) #[] #[]]++lb,W1,?_,?_,?_,?_,fun _=>h1,?_⟩
 ·rw[<-hW1,hrec];exact run_enterLoop_inner hl₀ _ _ _ _ _
 ·simp only[resolve,hg];simp[go_sem]
 ·intro f' hf';simp[Target.leads]at hf';subst hf';exact hFg
 ·simp[invoke,go_sem,eg]
 have lt_of:∀{W:World} {k:Nat} {o:Obj},W.heap[k]?=some o->k<W.heap.size:=fun h=>(Array.getElem?_eq_some_iff.1 h).1;have keep:∀{X Y:World} {k:Nat} {o:Obj},Moves own W1.heap.size X Y->X.heap[k]?=some o->k<W1.heap.size->¬own k->Y.heap[k]?=some o:=fun hm hx hk hn=>(hm.block _ (lt_of hx) hn (.inl hk)).trans hx
 refine(hseq w.heap.size
  (fun pre W=>I pre W/\W.heap[w.heap.size]?=some (.loop (rec .ready none)))
  (fun pre W=>∃c,Ix c pre W/\W.heap[w.heap.size]?=some (.loop (rec .done (some c))))
  W1 (kw.trans (hbw.mono kw.size))
  (fun s X Y hs hm=>⟨hI s X Y hs.1 (hm.mono (by omega)),keep hm hs.2 (by omega) hn1⟩)
  (fun s X Y hs hm=>by
    obtain⟨c,hc,hl⟩:=hs
    exact⟨c,hIx c s X Y hc (hm.mono (by omega)),keep hm hl (by omega) hn1⟩)
  ?_ ⟨hI _ _ _ h0 (.below hbw),hL1⟩).mono ?_
 ·rintro pre x W ⟨hi,hl⟩ hpf;have hlt:w.heap.size<W.heap.size:=lt_of hl;have hy:=run_yield (P:=P) (args:=encs x) hl (by rw[hrec];exact hps x);rw[hrec]at hy;refine⟨fn,_,assign,body,hy,roundIn_of_wpIn hfn (hassign _ x W _ ⟨_,run_beginRound hl (by rw[hrec]),?_⟩)⟩;have hl2:(W.putObj w.heap.size (.loop {rec .ready none with state:= .busy})).heap[w.heap.size]?=some (.loop {rec .ready none with state:= .busy}):=World.putObj_heap_same hlt;have hw2:Kp W (W.putObj w.heap.size (.loop {rec .ready none with state:= .busy})):=hKb _ _ _ _ (by omega) hl rfl;refine wpIn_mono (hbody _ pre x _ (hI _ _ _ hi (.put_ _ hl rfl (by omega))) hpf (lt_of hl2)) ?_
  have fin:∀(jump:Option Code) (W3:World),KeepsFrom w.heap.size (W.putObj w.heap.size (.loop {rec .ready none with state:= .busy})) W3->
      (Instr.endRound w.heap.size jump).run P W3= .ok (.bool jump.isNone) (W3.putObj w.heap.size (.loop (rec (if jump.isNone then .ready else .done) jump)))/\
      W3.heap[w.heap.size]?=some (.loop {rec .ready none with state:= .busy})/\
      (W3.putObj w.heap.size (.loop (rec (if jump.isNone then .ready else .done) jump))).heap[w.heap.size]?=some (.loop (rec (if jump.isNone then .ready else .done) jump)):=fun jump W3 hk3=>by
   have hl3:=hk3.same _ _ (by omega) hl2 rfl;have:=run_endRound (P:=P) jump hl3;rw[hrec]at this ⊢;exact⟨this,by rw[hrec]at hl3;exact hl3,World.putObj_heap_same (lt_of hl3)⟩
  rintro e a3 W3 hp
  cases e with
  |normal=>
    obtain⟨hk3,hkp3,hi3⟩:=hp;obtain⟨hr,hl3,hl4⟩:=fin none W3 hk3;exact⟨_,_,hr, .inl ⟨rfl,⟨hI _ _ _ hi3 (.put_ _ hl3 rfl (by omega)),hl4⟩,hKt (hKt hw2 hkp3) (hKb _ _ _ _ (by omega) hl3 rfl)⟩⟩
  |ret=>
    obtain⟨hk3,hi3⟩:=hp;obtain⟨hr,hl3,hl4⟩:=fin (some .ret) W3 hk3;exact⟨_,_,hr, .inr ⟨rfl, .ret,hIx _ _ _ _ hi3 (.put_ _ hl3 rfl (by omega)),hl4⟩⟩
  |exit id=>
    obtain⟨hk3,hi3⟩:=hp;obtain⟨hr,hl3,hl4⟩:=fin (some (.exit id)) W3 hk3;exact⟨_,_,hr, .inr ⟨rfl, .exit id,hIx _ _ _ _ hi3 (.put_ _ hl3 rfl (by omega)),hl4⟩⟩
  |goto t=>
    obtain⟨hk3,hi3⟩:=hp;obtain⟨hr,hl3,hl4⟩:=fin (some (.goto t)) W3 hk3;exact⟨_,_,hr, .inr ⟨rfl, .goto t,hIx _ _ _ _ hi3 (.put_ _ hl3 rfl (by omega)),hl4⟩⟩
  |panic ch=>exact hp.elim
  |outgrown=>exact hp.elim
 rintro e W2 ⟨⟨v,rfl⟩,(⟨xs,hS,hi,hl⟩|⟨pre,hSp,c,hi,hl⟩)⟩
 ·exact⟨none,_,by have:=run_endLoop (P:=P) hl (by rw[hrec];simp);rw[hrec]at this;exact this,hdone xs _ hS (hI _ _ _ hi (.put_ _ hl rfl (by omega)))⟩
 exact⟨some c,_,by have:=run_endLoop (P:=P) hl (by rw[hrec];simp);rw[hrec]at this;exact this,hstop c pre _ hSp (hIx _ _ _ _ hi (.put_ _ hl rfl (by omega)))⟩
end
theorem mZ(l:Bs):Lib.hasSuffix l [47]=decide (l.getLast?=some 47):=by
 unfold Lib.hasSuffix;rw[Bool.eq_iff_iff,List.isSuffixOf_iff_suffix,decide_eq_true_iff];rcases List.eq_nil_or_concat l with rfl|⟨a,x,rfl⟩
 ·simp
 simp only[List.concat_eq_append,List.getLast?_concat,Option.some.injEq];constructor
 ·rintro⟨t,ht⟩;have:=congrArg List.getLast? ht
  simpa[eq_comm]using this
 rintro rfl;exact⟨a,rfl⟩
def EN(d m:AD):AD:=if d.data.toList.getLast?=some 47 then d++m else d++⟨#[47]⟩++m
set_option maxHeartbeats 400000 in
theorem Z5(d m:AD)(w:World)(hd:d.size<=1000000)(hm:m.size<=1000000):
    Calls prog 268 #[.string d, .string m] w fun e w'=>e= .returned (.string (EN d m))/\w'=w:=by
 have HL:=Lib.hid (mZ d.data.toList);by_cases h:d.data.toList.getLast?=some 47
 ·have HJ:Hid (EN d m=d++m):=Lib.hid (if_pos h);have HD:Hid (decide (d.data.toList.getLast?=some 47)=true):=Lib.hid (decide_eq_true h);clear h
  go_enter Tryz.func268,Tryz.ntmps268
  go_wp2_with fail
  refine(Tryz.strings_HasSuffix _ _ _ (by omega)).mono ?_;rintro e w' ⟨rfl,rfl⟩;rw[show({data:=#[47]}:ByteArray).data.toList=[47] from rfl,HL.out,HD.out]
  go_wp2
  go_ret
  exact⟨by rw[HJ.out];rfl,rfl⟩
 have HJ:Hid (EN d m=d++⟨#[47]⟩++m):=Lib.hid (if_neg h);have HD:Hid (decide (d.data.toList.getLast?=some 47)=false):=Lib.hid (decide_eq_false h);clear h
 go_enter Tryz.func268,Tryz.ntmps268
 go_wp2_with fail
 refine(Tryz.strings_HasSuffix _ _ _ (by omega)).mono ?_;rintro e w' ⟨rfl,rfl⟩;rw[show({data:=#[47]}:ByteArray).data.toList=[47] from rfl,HL.out,HD.out]
 go_wp2
 go_ret
 exact⟨by rw[HJ.out];rfl,rfl⟩
end
section
open Go.RowKit
open Go.Shelf
attribute [local go_sem] Oper.semAt_some
theorem SeqW.inRound{α:Type}{F:Fence}{n:Nat}{P:Program}{g:Nat}{lb:Array Value}{encs:α->Array Value}{own:Nat->Prop}{Kp:World->World->Prop}{Pf:List α->Prop}{S Sp:List α->Prop}{w:World}(l:Nat)(h:SeqW F n P g lb encs own Kp Pf S Sp w):SeqW (F.inRound l) n P g lb encs own Kp Pf S Sp w:=h
theorem n8(A:Option Addr)(m c:Nat)(w:World):
    Calls prog 282 #[.slice A m c] w fun e w'=>
     e= .returned (.func (.func 291) #[] #[.pointer (some ⟨w.heap.size,0,none⟩)])/\w'=w.alloc (.cells #[.slice A m c] 31):=by
 go_enter Tryz.func282,Tryz.ntmps282
 go_wp2
 go_ret
 exact⟨rfl,rfl⟩
def NamesIn(w:World)(A:Option Addr)(m c:Nat)(ns:List AD)(g:Nat):Prop:=
 ns.length=m/\m<=c/\(ns=[]\/A=some ⟨g,0,none⟩/\∀i x,ns[i]?=some x->w.cell? ⟨g,i,none⟩=some (.string x))
theorem NamesIn.keep{w w':World}{A:Option Addr}{m c:Nat}{ns:List AD}{g:Nat}(h:NamesIn w A m c ns g)(hg:w'.heap[g]?=w.heap[g]?):NamesIn w' A m c ns g:=
 ⟨h.1,h.2.1,h.2.2.imp id fun h=>⟨h.1,fun i x hx=>(World.cell?_of_block (w:=w) (w':=w') (a:=⟨g,i,none⟩) hg).trans (h.2 i x hx)⟩⟩
def n9(b0 g:Nat)(X Y:World):Prop:=Y.heap[b0]?=X.heap[b0]?/\Y.heap[g]?=X.heap[g]?
set_option maxRecDepth 100000 in
set_option maxHeartbeats 2000000 in
theorem nA(n:Nat)(ns:List AD)(hns:ns.length<=1000000)(b0 g:Nat)(A:Option Addr)(m c:Nat)(w:World)(h0:Boxed w b0 31 (.slice A m c))(hN:NamesIn w A m c ns g)(hg:ns=[]\/g<w.heap.size):
    SeqW Fence.wide n prog 291 #[.pointer (some ⟨b0,0,none⟩)] (fun x:Int×AD=>#[.int .i64 x.1, .string x.2]) (fun _=>False) (n9 b0 g) (fun xs=>xs.map (·.2)<+:ns.reverse)
     (fun xs=>xs.map (·.2)=ns.reverse) (fun _=>True) w:=fun l J Jx W hW hJ hJx hY hst=>by
 have k0:Boxed W b0 31 (.slice A m c):=BY h0 hW h0.lt
 have kN:NamesIn W A m c ns g:=by
  rcases hg with hg|hg
  ·exact⟨hN.1,hN.2.1, .inl hg⟩
  exact hN.keep (hW.block g hg)
 have hmc:=kN.2.1;have hme:=kN.1;subst hme;have c0:=k0.cell;have f0:=k0.frozen;have HJ:=Lib.hid hJ;have HJx:=Lib.hid hJx;have HY:=Lib.hid hY;clear hN hg hW hJ hJx hY h0;refine callsIn_of_wp Tryz.func291 rfl trivial ?_ rfl;simp only[Tryz.ntmps291,List.size_toArray,List.length_cons,List.length_nil,Nat.reduceAdd,Nat.reduceSub,Array.replicate_succ,Array.replicate_zero,List.push_toArray,List.append_toArray,List.nil_append,List.cons_append]
 gi_wp2
 gi_loopw [3] (fun i wr=>∃(j:Nat) (pre:List (Int×AD)),j<=ns.length/\i= .int .i64 ((j:Int) - 1)/\J pre wr/\Boxed wr b0 31 (.slice A ns.length c)/\NamesIn wr A ns.length c ns g/\Hid (pre.map (·.2)=(ns.drop j).reverse)) (fun i _=>(intOf i+1).toNat)
 case atStart=>exact⟨ns.length,[],As _,rfl,hst,k0,kN,by rw[List.drop_length];exact Lib.hid rfl⟩
 case round=>
  obtain⟨j,pre,hj,rfl,hJp,m0,mN,hpre⟩:=hrel;clear k0 kN hst c0 f0;have c0:=m0.cell;have f0:=m0.frozen
  cases j with
  |zero=>
    gi_wp2
    go_end0
    exact⟨⟨_,rfl⟩, .inl ⟨pre,by rw[hpre.out];simp,hJp⟩⟩
  |succ j=>
    have hlt:j<ns.length:=by omega
    have hx:ns[j]?=some ns[j]:=B7 hlt;obtain⟨_,_,hA⟩:=mN;obtain⟨rfl,hcell⟩:=hA.resolve_left (fun e=>by rw[e]at hlt;simp at hlt);have hc:=hcell j _ hx;have HD:Hid ((ns.drop j).reverse=(ns.drop (j+1)).reverse++[ns[j]]):=Lib.hid (by rw[List.drop_eq_getElem_cons hlt];simp);obtain⟨fn,tmps,assign,body,hy,hR⟩:=HY.out pre ((j:Int),ns[j]) wr hJp (by rw[List.map_append,hpre.out];refine⟨(ns.take j).reverse,?_⟩;rw[show(ns.drop (j+1)).reverse++List.map (·.2) [((j:Int),ns[j])]=(ns.drop j).reverse by rw[HD.out];rfl,<-List.reverse_append,List.take_append_drop]);have HC:=Lib.hid hcell;clear hcell hA hx;generalize ns[j]=x at *
    gi_wp2_with fail
    refine⟨(fun h=>by cases h),hR.mono ?_⟩;rintro e W3 (⟨rfl,hJ3,hk3⟩|⟨rfl,hJx3⟩)
    ·have q0:Boxed W3 b0 31 (.slice (some ⟨g,0,none⟩) ns.length c):=hk3.1.trans m0;have qN:NamesIn W3 (some ⟨g,0,none⟩) ns.length c ns g:=⟨rfl,hmc, .inr ⟨rfl,fun i y hy=>(World.cell?_of_block (w:=wr) (w':=W3) (a:=⟨g,i,none⟩) hk3.2).trans (HC.out i y hy)⟩⟩;clear c0 f0 hy hR hc
     gi_wp2
     go_roundw
     case rel=>exact⟨j,pre++[((j:Int),x)],by omega,rfl,hJ3,q0,qN,by rw[HD.out,<-hpre.out];exact Lib.hid (by simp)⟩
     case measure=>simp[intOf]
    gi_wp2
    refine bodyPost_ret (results_none rfl _ _ _) rfl ?_;exact⟨⟨_,rfl⟩, .inr ⟨pre++[((j:Int),x)],trivial,hJx3⟩⟩
end
section
open Go.RowKit
open Go.Shelf
attribute [local go_sem] Oper.semAt_some
theorem Tryz.infoStrH:(prog.info? 9).map (fun i=>(i.zero,i.size,i.bytes))=some (some (.string ⟨#[]⟩),1,16):=by kernel_rfl
def Di(s:Spc)(pre:List A8):List AD:=(pre.filter fun x:A8=>decide (x.2≠1)).map (Ce s)
def Lb(s:Spc)(pre:List A8):AD:=(Di s pre).reverse.foldl EN ⟨#[47]⟩
def Bv(s:Spc)(dir:A8):AD×Bool:=
 if AU s.files dir=true/\CR s dir.1=true/\(0,1)∈BS s (Bh s.files) dir then(Lb s ((BS s (Bh s.files) dir).takeWhile fun x=>decide (x≠(0,1))),true)else(⟨#[]⟩,false)
theorem V5(s:Spc):∀(k:Nat) (a:A8),(BS s k a).length<=k
 |0,_=>by simp[BS]
 |k+1,a=>by
   unfold BS;split
   ·cases h:GZ s a with
    |none=>simp
    |some b=>have:=V5 s k b;simp;omega
   simp
theorem nB(d m:AD):(EN d m).size<=d.size+1+m.size:=by
 unfold EN;split
 ·rw[ByteArray.size_append];omega
 rw[ByteArray.size_append,ByteArray.size_append];exact As _
theorem Z6:∀(l:List AD) (d:AD),(∀x∈l,x.size<=100)->(l.foldl EN d).size<=d.size+101 * l.length
 |[],d,_=>by simp
 |x::l,d,h=>by
   have h1:=Z6 l (EN d x) fun y hy=>h y (List.mem_cons_of_mem _ hy);have h2:=nB d x;have h3:=h x (List.mem_cons_self ..);simp only[List.foldl_cons,List.length_cons];omega
theorem nC{w:World}{base:Nat}{e:TypeId}{A:Option Addr}{c g0:Nat}{ns:List AD}(h:w.ownsRow base e 1 (.slice A ns.length c) ns.length (ns.map Value.string))(hg0:g0<w.heap.size):∃g,g<w.heap.size/\NamesIn w A ns.length c ns g:=by
 rcases h.2 with⟨hv,hn⟩|⟨g,cap,cur,hv,_,hb,h1,_,_,h2⟩
 ·injection hv with _ _ hc;exact⟨g0,hg0,rfl,by omega, .inl (List.length_eq_zero_iff.1 hn)⟩
 injection hv with hA _ hc;subst hA hc;refine⟨g,CC hb,rfl,h1, .inr ⟨rfl,fun i x hx=>?_⟩⟩;rw[(CS hb).1 i,<-Array.getElem?_toList];have hi:i<ns.length:=(AZ.1 hx).1;rw[<-List.getElem?_take_of_lt (show i<ns.length * 1 by omega),h2,List.getElem?_map,hx];rfl
theorem nD{pre l:List A8}(h:pre<+:l)(hm:(0,1)∈pre):(l.takeWhile fun x:A8=>decide (x≠(0,1)))=pre.takeWhile fun x:A8=>decide (x≠(0,1)):=by
 obtain⟨t,rfl⟩:=h
 induction pre with
 |nil=>simp at hm
 |cons y ys ih=>
   by_cases hy:y=(0,1)
   ·simp[hy]
   have hm':(0,1)∈ys:=by
    rcases List.mem_cons.1 hm with h|h
    ·exact absurd h.symm hy
    exact h
   rw[List.cons_append,List.takeWhile_cons,List.takeWhile_cons,ih hm']
theorem nE{pre:List A8}(h:(0,1)∉pre):((pre++[(0,1)]).takeWhile fun x:A8=>decide (x≠(0,1)))=pre:=by
 induction pre with
 |nil=>simp
 |cons y ys ih=>
   have hy:y≠(0,1):=fun e=>h (by rw[e];simp);rw[List.cons_append,List.takeWhile_cons,if_pos (by simpa using hy),ih (fun hm=>h (List.mem_cons_of_mem _ hm))]
theorem Z7(s:Spc)(pre:List A8)(x:A8):Di s (pre++[x])=if x.2=1 then Di s pre else Di s pre++[Ce s x]:=by
 unfold Di;rw[List.filter_append,List.map_append];by_cases h:x.2=1<;>simp[h]
theorem Z8(s:Spc)(pre:List A8):(Di s pre).length<=pre.length:=by
 unfold Di;rw[List.length_map];exact List.length_filter_le _ _
theorem EA{F:Fence}{n:Nat}{P:Program}{ops:Array Oper}{Q:Exit->Act->World->Prop}{fuel:Nat}{listed:Array Bool}{a:Act}{w:World}{rs:List Nat}(hr:Region.ready .any ops listed=rs)(hne:rs≠[])
    (h:∀i∈rs,wpOpIn F n P ops Q i (wpAnyIn F n P .any ops Q fuel (listed.setIfInBounds i true)) a w):wpAnyIn F n P .any ops Q (fuel+1) listed a w:=
 ⟨fun h0=>absurd (hr.symm.trans h0) hne,fun i hi=>h i (hr ▸ hi)⟩
theorem D0{F:Fence}{n:Nat}{P:Program}{ops l:Array Oper}{Q:Exit->Act->World->Prop}{i:Nat}{o:Oper}{K:Act->World->Prop}{a:Act}{w:World}(hops:ops=l)(ho:l[i]?=some o)
    (h:∀K':Act->World->Prop,(∀a w,K a w->K' a w)->wpListIn F n P ops (Exit.then K' Q) [o] a w):wpOpIn F n P ops Q i K a w:=by
 have h1:=h K fun _ _ h=>h;subst hops;unfold wpOpIn;rw[ho];unfold wpListIn at h1;simp only;split at h1
 ·rename_i hw;rw[if_pos hw];refine⟨h1.1,?_⟩;have h2:=h1.2;generalize (o.semAt F.round a.eval).run P w=r at h2
  cases r with
  |ok x w'=>cases x<;>exact h2
  |halt x w'=>cases x<;>exact h2
 rename_i hw;rw[if_neg hw];exact h1
theorem nF{F:Fence}{n:Nat}{P:Program}{ops:Array Oper}{Q:Exit->Act->World->Prop}{id:Nat}{a:Act}{w:World}(hm:P.follows .mixedOrders=true)(k:Nat)(hk:ops.size=k)
    (h:∀ops',ops'=ops->wpAnyIn F n P .any ops' Q k (Array.replicate k false) a w.drew):(Code.region id ops true).wpIn F n P Q a w:=by
 subst hk;exact wpIn_region_any hm (h ops rfl)
theorem nG{W w1:World}{base B:Nat}{t e:TypeId}{size:Nat}{v v':Value}{k m:Nat}{xs ys:List Value}{tmp:Obj}
    (hv:Boxed W B t v) (hrow:W.ownsRow base e size v k xs) (hbase:base<=W.heap.size) (hB:B<base)
    (hown':w1.ownsRow base e size v' m ys) (hgrow:(W.alloc tmp).grownBy w1 v.ownBlock):
    Boxed w1 B t v/\Boxed (w1.setCell ⟨B,0,none⟩ v') B t v'/\(w1.setCell ⟨B,0,none⟩ v').ownsRow base e size v' m ys/\KeepsOthers W (w1.setCell ⟨B,0,none⟩ v')/\
     Below B W (w1.setCell ⟨B,0,none⟩ v')/\(∀j:Nat,j<base->j≠B->(w1.setCell ⟨B,0,none⟩ v').heap[j]?=W.heap[j]?)/\
     ∀(j:Nat) (cs:Array Value) (t':TypeId),t'≠e->t'≠t->W.heap[j]?=some (.cells cs t')->(w1.setCell ⟨B,0,none⟩ v').heap[j]?=some (.cells cs t'):=by
 have hne:∀j,j<base->some j≠v.ownBlock:=by
  intro j hj e;have:=World.ownsRow.lt hrow j e.symm;omega
 have hblk:∀j,j<base->w1.heap[j]?=W.heap[j]?:=fun j hj=>(hgrow.block j (by simp;omega) (hne j hj)).trans (Below.heap_alloc W tmp j (by omega));have hv1:Boxed w1 B t v:=(hblk B hB).trans hv;refine⟨hv1,hv1.set v',ownsRow_setCell_below hown' hB v',?_,?_,fun j hj hj'=>(Below.heap_setCell w1 ⟨B,0,none⟩ v' j hj').trans (hblk j hj),?_⟩
 ·refine((KeepsOthers.alloc W tmp).trans (KeepsOthers.of_grownBy hgrow fun j o ej hj=>?_)).trans (KeepsOthers.setCell _ _ _);rcases(hrow.alloc tmp).2 with⟨rfl,_⟩|⟨g,cap,cur,rfl,_,hgb,_⟩
  ·simp[Value.ownBlock]at ej
  obtain rfl:g=j:=by simpa[Value.ownBlock]using ej
  rw[hgb]at hj;cases hj;rfl
 ·have hs:=hgrow.size;simp at hs;exact⟨hgrow.os,hgrow.tape,hgrow.output,by simp[World.setCell];omega,fun j hj=>(Below.heap_setCell w1 ⟨B,0,none⟩ v' j (by show j≠B;omega)).trans (hblk j (by omega))⟩
 intro j cs t' he ht hj;have hjl:=CC hj;refine(Below.heap_setCell w1 ⟨B,0,none⟩ v' j fun eq=>?_).trans (((hgrow.block j (by simp;omega) fun eq=>?_).trans (Below.heap_alloc W tmp j (by omega))).trans hj)
 ·have eq':j=B:=eq;subst eq';rw[show W.heap[j]?=_ from hv]at hj;injection hj with hj;injection hj with _ h2;exact ht h2.symm
 rcases hrow.2 with⟨rfl,_⟩|⟨g,cap,cur,rfl,_,hgb,_⟩
 ·simp[Value.ownBlock]at eq
 obtain rfl:j=g:=by simpa[Value.ownBlock]using eq
 rw[hgb]at hj;injection hj with hj;injection hj with _ h2;exact he h2.symm
theorem Moves.rowH{own:Nat->Prop}{B:Nat}{X Y:World}(h:Moves own B X Y){base e size k:Nat}{v:Value}{xs:List Value}(hr:X.ownsRow base e size v k xs)(ho:∀b,own b->b<base):Y.ownsRow base e size v k xs:=by
 refine⟨hr.1,?_⟩;rcases hr.2 with h'|⟨g,cap,cur,hv,hg,hb,r⟩
 ·exact .inl h'
 refine .inr ⟨g,cap,cur,hv,hg,?_,r⟩;exact(h.block g (Array.getElem?_eq_some_iff.1 hb).1 (fun e=>by have:=ho g e;omega) (.inr ⟨_,hb,rfl⟩)).trans hb
set_option maxRecDepth 100000 in
set_option maxHeartbeats 4000000 in
theorem nH(n:Nat)(hn:Hid (4<=n))(s:Spc)(hs:SpcB s)(hnm:∀x,(Ce s x).size<=100)(hmo:Bh s.files<=5000)(dir:A8)(ds ms:Value)(w:World)(h:SpcIn s w.heap.size w ds ms):
    CallsIn Fence.wide n prog 267 #[.agg #[ds,ms],FF dir] w fun e w'=>e= .returned (.tuple #[.string (Bv s dir).1, .bool (Bv s dir).2])/\Below w.heap.size w w':=by
 obtain⟨i0,hi0,hz0,hz1,hz2⟩:=info_parts Tryz.infoStrH;have HNM:=Lib.hid hnm;clear hnm;unfold FF;refine callsIn_of_wp_marks Tryz.func267 rfl trivial ?_ rfl;simp only[Tryz.ntmps267,List.size_toArray,List.length_cons,List.length_nil,Nat.reduceAdd,Nat.reduceSub,Array.replicate_succ,Array.replicate_zero,List.push_toArray,List.append_toArray,List.nil_append,List.cons_append]
 gi_wp2_with fail
 obtain⟨W4,hW4⟩:∃W4,(((w.alloc (.cells #[ds,ms] 42)).alloc (.cells #[.int .i64 dir.1, .int .i64 dir.2] 26)).alloc (.cells #[.string ⟨#[]⟩] 9)).alloc (.cells #[.bool false] 4)=W4:=⟨_,rfl⟩;have hz4:W4.heap.size=w.heap.size+4:=by rw[<-hW4];simp
 have hB4:Below w.heap.size w W4:=by rw[<-hW4];exact UB _ _ _ _ _
 have kS:W4.heap[w.heap.size]?=some (.cells #[ds,ms] 42):=by rw[<-hW4];exact Xu _ _ _ _ _
 have kD:W4.heap[w.heap.size+1]?=some (.cells #[.int .i64 dir.1, .int .i64 dir.2] 26):=by rw[<-hW4];exact UC _ _ _ _ _
 have kP:Boxed W4 (w.heap.size+1+1) 9 (.string ⟨#[]⟩):=by rw[<-hW4];exact Xv _ _ _ _ _
 have kE:Boxed W4 (w.heap.size+1+1+1) 4 (.bool false):=by rw[<-hW4];exact UD _ _ _ _ _
 have hSp:=h.below hB4 (As _);rw[hW4];have HZ4:=Lib.hid hz4;clear hW4;refine G4 ((callsIn_wide.2 (l0 hSp hs dir)).mono ?_);rintro e W5 ⟨rfl,ko⟩;obtain⟨di,hdi⟩:∃di,AU s.files dir=di:=⟨_,rfl⟩;rw[hdi];have hz5:=ko.size;have k5S:=BY kS ko (CC kS);have k5D:=BY kD ko (CC kD);have k5P:Boxed W5 (w.heap.size+1+1) 9 (.string ⟨#[]⟩):=BY kP ko (CC kP);have k5E:Boxed W5 (w.heap.size+1+1+1) 4 (.bool false):=BY kE ko (CC kE);have hB5:Below w.heap.size w W5:=hB4.trans (ko.mono hB4.size);have h5:=h.below hB5 (As _);have HZ5:Hid (w.heap.size+4<=W5.heap.size):=Lib.hid (by omega);have HDI:=Lib.hid hdi;clear kS kD kP kE hB4 hSp ko hz4 hz5 hdi HZ4;obtain⟨c0,f0⟩:=CS k5S;obtain⟨c1,f1⟩:=CS k5D;have c2:=k5P.cell;have f2:=k5P.frozen;have c3:=k5E.cell;have f3:=k5E.frozen
 cases di with
 |false=>
   have HW:Hid (Bv s dir=(⟨#[]⟩,false)):=Lib.hid (by unfold Bv;rw[HDI.out];simp)
   gi_wp2
   refine⟨trivial,?_⟩
   gi_wp2
   have hP:=(Boxed.other (k5P.set (.string ⟨#[]⟩)) (show w.heap.size+1+1≠w.heap.size+1+1+1 by omega) (.bool false)).cell;have hE:=((Boxed.other k5E (show w.heap.size+1+1+1≠w.heap.size+1+1 by omega) (.string ⟨#[]⟩)).set (.bool false)).cell;refine⟨.tuple #[.string ⟨#[]⟩, .bool false],by simp[results,Tryz.f267,go_sem,hP,hE],by rw[HW.out],(hB5.setCell (by show w.heap.size<=w.heap.size+1+1;omega) _).setCell (by show w.heap.size<=w.heap.size+1+1+1;omega) _⟩
 |true=>
   gi_wp2_with fail
   refine G4 ((callsIn_wide.2 (l3 h5 hs dir.1)).mono ?_);rintro e W6 ⟨rfl,kq⟩;obtain⟨mi,hmi⟩:∃mi,CR s dir.1=mi:=⟨_,rfl⟩;rw[hmi];have hz6:=kq.size;have k6S:=BY k5S kq (CC k5S);have k6D:=BY k5D kq (CC k5D);have k6P:Boxed W6 (w.heap.size+1+1) 9 (.string ⟨#[]⟩):=BY k5P kq (CC k5P);have k6E:Boxed W6 (w.heap.size+1+1+1) 4 (.bool false):=BY k5E kq (CC k5E);have hB6:Below w.heap.size w W6:=hB5.trans (kq.mono hB5.size);have HZ6:Hid (w.heap.size+4<=W6.heap.size):=Lib.hid (by have:=HZ5.out;omega);have HMI:=Lib.hid hmi;clear k5S k5D k5P k5E hB5 h5 kq hz6 hmi HZ5 c0 f0 c1 f1 c2 f2 c3 f3;obtain⟨c0,f0⟩:=CS k6S;obtain⟨c1,f1⟩:=CS k6D;have c2:=k6P.cell;have f2:=k6P.frozen;have c3:=k6E.cell;have f3:=k6E.frozen
   cases mi with
   |false=>
     have HW:Hid (Bv s dir=(⟨#[]⟩,false)):=Lib.hid (by unfold Bv;rw[HMI.out];simp)
     gi_wp2
     have hP:=(Boxed.other (k6P.set (.string ⟨#[]⟩)) (show w.heap.size+1+1≠w.heap.size+1+1+1 by omega) (.bool false)).cell;have hE:=((Boxed.other k6E (show w.heap.size+1+1+1≠w.heap.size+1+1 by omega) (.string ⟨#[]⟩)).set (.bool false)).cell;refine⟨.tuple #[.string ⟨#[]⟩, .bool false],by simp[results,Tryz.f267,go_sem,hP,hE],by rw[HW.out],(hB6.setCell (by show w.heap.size<=w.heap.size+1+1;omega) _).setCell (by show w.heap.size<=w.heap.size+1+1+1;omega) _⟩
   |true=>
     have HW:Hid (Bv s dir=if(0,1)∈BS s (Bh s.files) dir then(Lb s ((BS s (Bh s.files) dir).takeWhile fun x=>decide (x≠(0,1))),true)else(⟨#[]⟩,false)):=Lib.hid (by unfold Bv;rw[HDI.out,HMI.out];simp);obtain⟨d0,g0⟩:=CS (Db k6S (.cells #[.slice none 0 0] 31));obtain⟨d1,g1⟩:=CS (Db k6D (.cells #[.slice none 0 0] 31))
     gi_wp2_with fail
     obtain⟨W7,hW7⟩:∃W7,W6.alloc (.cells #[.slice none 0 0] 31)=W7:=⟨_,rfl⟩;have hB7:Below W6.heap.size W6 W7:=by rw[<-hW7];exact Jz _ _
     have hz7:W7.heap.size=W6.heap.size+1:=by rw[<-hW7];simp
     have kN:Boxed W7 W6.heap.size 31 (.slice none 0 0):=by rw[<-hW7];exact MV _ _
     rw[hW7];clear hW7 d0 g0 d1 g1 c0 f0 c1 f1 c2 f2 c3 f3;refine G4 ((callsIn_wide.2 (YJ ds ms dir W7)).mono ?_);rintro e W9 ⟨rfl,hW9⟩;have hB9:Below W7.heap.size W7 W9:=by rw[hW9];exact M1 _ _ _
     have hz9:W9.heap.size=W6.heap.size+3:=by rw[hW9];simp[hz7]
     have cS:W9.heap[W7.heap.size]?=some (.cells #[ds,ms] 42):=by rw[hW9];exact MW _ _ _
     have cD:W9.heap[W7.heap.size+1]?=some (.cells #[.int .i64 dir.1, .int .i64 dir.2] 26):=by rw[hW9];exact MX _ _ _
     have hB69:Below W6.heap.size W6 W9:=hB7.trans (hB9.mono (by omega));have kN9:Boxed W9 W6.heap.size 31 (.slice none 0 0):=BY kN hB9 (by omega);have k9S:=BY k6S hB69 (CC k6S);have k9P:Boxed W9 (w.heap.size+1+1) 9 (.string ⟨#[]⟩):=BY k6P hB69 (CC k6P);have k9E:Boxed W9 (w.heap.size+1+1+1) 4 (.bool false):=BY k6E hB69 (CC k6E);have hBw:Below w.heap.size w W9:=hB6.trans (hB69.mono hB6.size);have kSp:=h.below hBw (As _);have HZ9:Hid (W7.heap.size=W6.heap.size+1/\W9.heap.size=W6.heap.size+3):=Lib.hid ⟨hz7,hz9⟩;clear hW9 kN hB7 hB9 hB69 hB6 hz7 hz9 k6S k6D k6P k6E
     gi_wp2_with fail
     refine Z4 rfl (by have:=hn.out;omega) (gf:=228) rfl trivial (enters_of Tryz.func228 (by kernel_rfl) rfl)
      (YM (n - 1) s hs dir w.heap.size W7.heap.size (W7.heap.size+1) ds ms W9 cS cD kSp (by have:=HZ9.out;have:=HZ6.out;omega) (by have:=HZ9.out;have:=HZ6.out;omega) (by omega))
      (fun b hb=>by have:=HZ9.out;omega) KeepC.trans (fun W l o o' hl ho hc=>by have:=HZ9.out;have:=HZ6.out;exact YK (B:=W9.heap.size) (by omega) (by omega) (by omega) W l o o' hl ho hc) (Below.refl _ _) (fun _=>rfl)
      (fun pre W=>W.heap[w.heap.size]?=some (.cells #[ds,ms] 42)/\Boxed W (w.heap.size+1+1) 9 (.string ⟨#[]⟩)/\Boxed W (w.heap.size+1+1+1) 4 (.bool false)/\(∃v,Boxed W W6.heap.size 31 v/\W.ownsRow W9.heap.size 9 1 v (Di s pre).length ((Di s pre).map Value.string))/\(0,1)∉pre/\Below w.heap.size w W)
      (fun c pre W=>c= .ret/\Boxed W (w.heap.size+1+1) 9 (.string (Lb s (pre.takeWhile fun x:A8=>decide (x≠(0,1)))))/\Boxed W (w.heap.size+1+1+1) 4 (.bool true)/\(0,1)∈pre/\Below w.heap.size w W)
      (fun s X Y h hm=>by
        obtain⟨h1,h2,h3,⟨v,h4,h5⟩,h6,h7⟩:=h;have z9:=HZ9.out;have z6:=HZ6.out
        exact⟨(hm.block _ (CC h1) (by omega) (.inr ⟨_,h1,rfl⟩)).trans h1,hm.boxed h2 (by omega),hm.boxed h3 (by omega),⟨v,hm.boxed h4 (by omega),hm.rowH h5 (fun b hb=>by omega)⟩,h6,hm.under h7 (As _) (fun b hb=>by omega) (by omega)⟩)
      (fun c s X Y h hm=>by
        obtain⟨h1,h2,h3,h6,h7⟩:=h;have z9:=HZ9.out;have z6:=HZ6.out
        exact⟨h1,hm.boxed h2 (by omega),hm.boxed h3 (by omega),h6,hm.under h7 (As _) (fun b hb=>by omega) (by omega)⟩)
      ⟨k9S,k9P,k9E,⟨_,kN9,World.ownsRow_nil _ _ _ _⟩,by simp,hBw⟩
      (fun x W=>{tmps:=#[.agg #[ds,ms], .agg #[.int .i64 dir.1, .int .i64 dir.2], .pointer (some ⟨w.heap.size,0,none⟩), .pointer (some ⟨w.heap.size+1,0,none⟩), .pointer (some ⟨w.heap.size+1+1,0,none⟩), .pointer (some ⟨w.heap.size+1+1+1,0,none⟩), .pointer (some ⟨W6.heap.size,0,none⟩), .pointer (some ⟨W.heap.size,0,none⟩),undef,undef,undef, .agg #[ds,ms],
        .agg #[.int .i64 dir.1, .int .i64 dir.2], .bool true, .bool false, .bool false, .agg #[ds,ms], .pointer (some ⟨w.heap.size+1,0,none⟩), .int .i64 dir.1, .bool true, .bool false, .bool false, .agg #[ds,ms], .agg #[.int .i64 dir.1, .int .i64 dir.2],
        .func (.func 228) #[] #[.pointer (some ⟨W7.heap.size,0,none⟩), .pointer (some ⟨W7.heap.size+1,0,none⟩)], .agg #[.int .i64 x.1, .int .i64 x.2],undef,undef,undef,undef,undef,undef,undef,undef,undef,undef,undef,undef,undef,undef,undef,undef,undef,undef,undef,undef,undef,undef],defers:=[]})
      (fun x W=>W.alloc (.cells #[.int .i64 x.1, .int .i64 x.2] 26))
      (fun x W hsz=>⟨Jz _ _,by have:=HZ9.out;have:=HZ6.out;exact Q4 (Jz _ _) (by omega) (by omega) (by omega)⟩) ?assign ?body ?done ?stop
     case assign=>
      intro l x W K hsz hK;unfold FF
      gi_wp2
      exact hK
     case body=>
      rintro l pre x W0 W ⟨c1,cP,cE,⟨v,cN,hrow⟩,hnm,hbw⟩ hpf hsz hszW hcell hlW hrl;have cX:=hcell _ _ (MV W0 (.cells #[.int .i64 x.1, .int .i64 x.2] 26)) rfl;simp only[Pn]at hszW;have HN:=Lib.hid hnm;have HZ:=Lib.hid hsz;have HPF:=Lib.hid hpf;clear hnm hsz hcell hpf k9S k9P k9E kN9 cS cD kSp;obtain⟨a1,b1⟩:=CS c1;obtain⟨aX,bX⟩:=CS cX;have aP:=cP.cell;have bP:=cP.frozen;have aE:=cE.cell;have bE:=cE.frozen;have aN:=cN.cell;have bN:=cN.frozen;obtain⟨xd,xi⟩:=x;simp only at aX cX;by_cases hx:(xd,xi)=(0,1)
      ·obtain⟨rfl,rfl⟩:=Prod.mk.inj hx
       obtain⟨A,cc,rfl⟩:∃A c,v= .slice A (Di s pre).length c:=by
        rcases hrow.2 with⟨rfl,hn⟩|⟨g,cap,cur,rfl,_⟩
        ·exact⟨none,0,by rw[hn]⟩
        exact⟨_,_,rfl⟩
       have cN':Boxed (W.alloc (.cells #[.string ⟨#[47]⟩] 9)) W6.heap.size 31 (.slice A (Di s pre).length cc):=Db cN _;have aN':=cN'.cell
       gi_wp2_with fail
       refine G4 ((CallsIn.inRound l (callsIn_wide.2 (n8 A (Di s pre).length cc _))).mono ?_);rintro e Wb ⟨rfl,hWb⟩;have z9:=HZ9.out;have z6:=HZ6.out;have zz:=HZ.out;obtain⟨g,hgl,hNI⟩:=nC hrow (g0:=w.heap.size) (by omega);have hza:(W.alloc (.cells #[.string ⟨#[47]⟩] 9)).heap.size=W.heap.size+1:=Pn _ _;rw[hza];have hBb:Below W.heap.size W Wb:=by rw[hWb];exact M1 _ _ _
       have hzb:Wb.heap.size=W.heap.size+2:=by rw[hWb];exact Xt _ _ _
       have kW:Boxed Wb W.heap.size 9 (.string ⟨#[47]⟩):=by rw[hWb];exact MW _ _ _
       have kB:Boxed Wb (W.heap.size+1) 31 (.slice A (Di s pre).length cc):=by rw[hWb];exact MX _ _ _
       have kP:Boxed Wb (w.heap.size+1+1) 9 (.string ⟨#[]⟩):=BY cP hBb (CC cP);have kE:Boxed Wb (w.heap.size+1+1+1) 4 (.bool false):=BY cE hBb (CC cE);have kG:=hNI.keep (hBb.block g hgl);have kL:∃r,Wb.heap[l]?=some (.loop r):=hrl.imp fun r hr=>BY hr hBb (CC hr);obtain⟨rl,kL⟩:=kL;have hbb:Below w.heap.size w Wb:=hbw.trans (hBb.mono hbw.size);have hkf:KeepsFrom W9.heap.size W Wb:=O0 hBb
       have hlen:(Di s pre).length<=5000:=by
        have h1:=Z8 s pre;have h2:=HPF.out.length_le;have h3:=V5 s (Bh s.files) dir;simp only[List.length_append]at h2;omega
       have hall:∀y∈Di s pre,y.size<=100:=by
        intro y hy;unfold Di at hy;obtain⟨z,_,rfl⟩:=List.mem_map.1 hy;exact HNM.out z
       have HL:=Lib.hid hlen;have HA:=Lib.hid hall;have HB:=Lib.hid hzb;have HGL:=Lib.hid hgl;clear hWb cN' aN' a1 b1 aX bX aP bP aE bE aN bN hza hlen hall hzb hgl z9 z6 zz
       gi_wp2_with fail
       refine mY (l₀:=l) (r₀:=rl) rfl kL (by have:=hn.out;omega) (gf:=291) rfl trivial (enters_of Tryz.func291 (by kernel_rfl) rfl)
        ((nA (n - 1 - 1 - 1) (Di s pre) (by have:=HL.out;omega) (W.heap.size+1) g A (Di s pre).length cc Wb kB kG (.inr (by have:=HB.out;have:=HGL.out;omega))).inRound l)
        (fun b hb=>hb.elim) (fun h k=>⟨k.1.trans h.1,k.2.trans h.2⟩) (fun X l' o o' hl' _ _=>by have:=HB.out;have:=HGL.out;exact⟨World.putObj_heap_other (by omega),World.putObj_heap_other (by omega)⟩) (Below.refl _ _) (fun _=>rfl)
        (fun pr X=>Boxed X W.heap.size 9 (.string ((pr.map (·.2)).foldl EN ⟨#[47]⟩))/\Boxed X (w.heap.size+1+1) 9 (.string ⟨#[]⟩)/\Boxed X (w.heap.size+1+1+1) 4 (.bool false)/\KeepsFrom W9.heap.size W X/\Below w.heap.size w X)
        (fun _ _ _=>False)
        (fun s' X Y h hm=>⟨hm.boxed h.1 (fun h=>h),hm.boxed h.2.1 (fun h=>h),hm.boxed h.2.2.1 (fun h=>h),⟨Nat.le_trans h.2.2.2.1.size hm.size,fun k o hk hko hc=>by
          have hX:=h.2.2.2.1.same k o hk hko hc;have:=CC hko;have:=HB.out
          exact(hm.block k (CC hX) (fun h=>h) (.inl (by omega))).trans hX⟩,hm.under h.2.2.2.2 (As _) (fun b hb=>hb.elim) (by have:=HB.out;have:=HZ.out;have:=HZ9.out;have:=HZ6.out;omega)⟩)
        (fun _ _ _ _ h _=>h)
        ⟨kW,kP,kE,hkf,hbb⟩
        (fun y=>{tmps:=#[.agg #[ds,ms], .agg #[.int .i64 dir.1, .int .i64 dir.2], .pointer (some ⟨w.heap.size,0,none⟩), .pointer (some ⟨w.heap.size+1,0,none⟩), .pointer (some ⟨w.heap.size+1+1,0,none⟩), .pointer (some ⟨w.heap.size+1+1+1,0,none⟩), .pointer (some ⟨W6.heap.size,0,none⟩), .pointer (some ⟨W0.heap.size,0,none⟩), .pointer (some ⟨W.heap.size,0,none⟩),undef, .string y.2, .agg #[ds,ms],
          .agg #[.int .i64 dir.1, .int .i64 dir.2], .bool true, .bool false, .bool false, .agg #[ds,ms], .pointer (some ⟨w.heap.size+1,0,none⟩), .int .i64 dir.1, .bool true, .bool false, .bool false, .agg #[ds,ms], .agg #[.int .i64 dir.1, .int .i64 dir.2],
          .func (.func 228) #[] #[.pointer (some ⟨W7.heap.size,0,none⟩), .pointer (some ⟨W7.heap.size+1,0,none⟩)], .agg #[.int .i64 0, .int .i64 1], .bool true, .agg #[.int .i64 0, .int .i64 1], .agg #[.int .i64 0, .int .i64 1], .bool true, .slice A (Di s pre).length cc,
          .func (.func 291) #[] #[.pointer (some ⟨W.heap.size+1,0,none⟩)], .int .i64 y.1, .string y.2,undef,undef,undef,undef,undef,undef,undef,undef,undef,undef,undef,undef,undef,undef],defers:=[]}) ?assign2 ?body2 ?done2 ?stop2
       case assign2=>
        intro l2 y X K hK
        gi_wp2
        exact hK
       case body2=>
        rintro l2 pr y X ⟨e1,e2,e3,e4,e5⟩ hpf2 hszX;have hp1:(pr.map (·.2)++[y.2])<+:(Di s pre).reverse:=by simpa using hpf2
        have hl1:=hp1.length_le;have hs1:=Z6 (pr.map (·.2)) ⟨#[47]⟩ fun z hz=>HA.out z (List.mem_reverse.1 (hp1.subset (List.mem_append_left _ hz)));have hs2:y.2.size<=100:=HA.out _ (List.mem_reverse.1 (hp1.subset (by simp)))
        have hs3:((pr.map (·.2)).foldl EN ⟨#[47]⟩).size<=1000000:=by
         have h1:(⟨#[47]⟩:ByteArray).size=1:=rfl;have:=HL.out;simp only[List.length_append,List.length_map,List.length_cons,List.length_nil,List.length_reverse]at hl1;simp only[List.length_map]at hs1;omega
        have HF:Hid (((pr++[y]).map (·.2)).foldl EN ⟨#[47]⟩=EN ((pr.map (·.2)).foldl EN ⟨#[47]⟩) y.2):=Lib.hid (by simp);clear hpf2 hp1 hl1 hs1;generalize (pr.map (·.2)).foldl EN ⟨#[47]⟩=dd at *;obtain⟨yi,yn⟩:=y;simp only at hs2 HF;have t1:=e1.cell;have t2:=e1.frozen
        gi_wp2_with fail
        refine G4 ((CallsIn.inRound l2 (CallsIn.inRound l (callsIn_wide.2 (Z5 dd yn X hs3 (by omega))))).mono ?_);rintro e X' ⟨rfl,rfl⟩
        gi_wp2
        have:=HB.out;have hgl:=HGL.out;have z9:=HZ9.out;have z6:=HZ6.out;have zz:=HZ.out;refine⟨Q2 (KeepsFrom.refl _ _) (by omega) _,⟨Below.heap_setCell _ _ _ _ (by show W.heap.size+1≠W.heap.size;omega),Below.heap_setCell _ _ _ _ (by show g≠W.heap.size;omega)⟩,by rw[HF.out];exact e1.set _,e2.other (by omega) _,e3.other (by omega) _,?_,e5.setCell (by show w.heap.size<=W.heap.size;omega) _⟩;refine⟨Nat.le_trans e4.size (by simp),fun k o hk hko hc=>?_⟩;have:=CC hko;exact(Below.heap_setCell _ _ _ _ (by show k≠W.heap.size;omega)).trans (e4.same k o hk hko hc)
       case done2=>
        rintro xs X hS ⟨e1,e2,e3,e4,e5⟩;rw[hS]at e1;change Boxed X W.heap.size 9 (.string (Lb s pre))at e1;have t1:=e1.cell;have t2:=e1.frozen;have t3:=e2.cell;have t4:=e2.frozen;have t5:=e3.cell;have t6:=e3.frozen;clear hS
        gi_wp2_with fail
        have z9:=HZ9.out;have z6:=HZ6.out;have zz:=HZ.out;refine⟨Q2 (Q2 e4 (by omega) _) (by omega) _,rfl,?_,(Boxed.other e3 (by omega) _).set _,by simp,(e5.setCell (by show w.heap.size<=w.heap.size+1+1;omega) _).setCell (by show w.heap.size<=w.heap.size+1+1+1;omega) _⟩;rw[nE HN.out];exact Boxed.other (e2.set _) (by omega) _
       case stop2=>
        intro c pr X _ hf;exact hf.elim
      by_cases hi:xi=1
      ·subst hi;have hd:xd≠0:=fun e=>hx (by rw[e])
       gi_wp2_with fail
       have z9:=HZ9.out;have z6:=HZ6.out;have zz:=HZ.out
       exact⟨O0 (Below.refl _ _),Q4 (Below.refl _ _) (by omega) (by omega) (by omega),c1,cP,cE,⟨v,cN,by rw[Z7,if_pos rfl];exact hrow⟩,by
        intro hm;rcases List.mem_append.1 hm with hm|hm
        ·exact HN.out hm
        exact hx (List.mem_singleton.1 hm).symm,hbw⟩
      gi_wp2_with fail
      have hbd:Below W.heap.size W W.drew:=(Below.refl _ _).drew;have d1:W.drew.heap[w.heap.size]?=some (.cells #[ds,ms] 42):=c1;have dX:W.drew.heap[W0.heap.size]?=some (.cells #[.int .i64 xd, .int .i64 xi] 26):=cX;have dN:Boxed W.drew W6.heap.size 31 v:=cN;have dP:Boxed W.drew (w.heap.size+1+1) 9 (.string ⟨#[]⟩):=cP;have dE:Boxed W.drew (w.heap.size+1+1+1) 4 (.bool false):=cE;have drow:W.drew.ownsRow W9.heap.size 9 1 v (Di s pre).length ((Di s pre).map Value.string):=hrow;refine nF (by kernel_rfl) 7 rfl ?_;intro ops hops;have HO:=Lib.hid hops;clear hops;have hszD:W.drew.heap.size=W.heap.size:=rfl;have hszO:=hszW;rw[<-hszD]at hszW;have hbW:=hbd;clear a1 b1 aX bX aP bP aE bE aN bN c1 cX cN cP cE hrow hszD hrl hbd;generalize W.drew=W1 at *;obtain⟨a1,b1⟩:=CS d1;obtain⟨aX,bX⟩:=CS dX;have aN:=dN.cell;have bN:=dN.frozen;have hB1:Below w.heap.size w W1:=hbw.trans (hbW.mono hbw.size)
      have hcall:∀X,Below w.heap.size w X->Calls prog 283 #[.agg #[ds,ms], .agg #[.int .i64 xd, .int .i64 xi]] X fun e w'=>e= .returned (.string (Ce s (xd,xi)))/\Below X.heap.size X w':=by
       intro X hX;have hSX:=h.below hX (As _);refine(Q3 (mX s (xd,xi) hs) (vs:=[.agg #[ds,ms], .agg #[.int .i64 xd, .int .i64 xi]]) hSX.1 (YG hSX hs (xd,xi))).mono ?_;rintro e w' ⟨u,G',rfl,hr,hb⟩;simp only[rep]at hr;exact⟨by rw[hr],hb⟩
      have tail:∀w2:World,Below W1.heap.size W1 w2->(w2.alloc (.cells #[.string (Ce s (xd,xi))] 9)).cell? ⟨W6.heap.size,0,none⟩=some v->
          wpAnyIn (Fence.wide.inRound l) (n - 1 - 1) prog .any ops (Exit.inBlock 2 (Exit.inBlock 1 (ownPostG W9.heap.size (KeepC w.heap.size W7.heap.size (W7.heap.size+1))
           (fun pre W=>W.heap[w.heap.size]?=some (.cells #[ds,ms] 42)/\Boxed W (w.heap.size+1+1) 9 (.string ⟨#[]⟩)/\Boxed W (w.heap.size+1+1+1) 4 (.bool false)/\(∃v,Boxed W W6.heap.size 31 v/\W.ownsRow W9.heap.size 9 1 v (Di s pre).length ((Di s pre).map Value.string))/\(0,1)∉pre/\Below w.heap.size w W)
           (fun c pre W=>c= .ret/\Boxed W (w.heap.size+1+1) 9 (.string (Lb s (pre.takeWhile fun x:A8=>decide (x≠(0,1)))))/\Boxed W (w.heap.size+1+1+1) 4 (.bool true)/\(0,1)∈pre/\Below w.heap.size w W)
           (pre++[(xd,xi)]) W))) 2 #[true,true,true,true,true,false,false]
           {tmps:=#[.agg #[ds,ms], .agg #[.int .i64 dir.1, .int .i64 dir.2], .pointer (some ⟨w.heap.size,0,none⟩), .pointer (some ⟨w.heap.size+1,0,none⟩), .pointer (some ⟨w.heap.size+1+1,0,none⟩), .pointer (some ⟨w.heap.size+1+1+1,0,none⟩), .pointer (some ⟨W6.heap.size,0,none⟩), .pointer (some ⟨W0.heap.size,0,none⟩),undef,undef,undef, .agg #[ds,ms], .agg #[.int .i64 dir.1, .int .i64 dir.2], .bool true, .bool false, .bool false, .agg #[ds,ms], .pointer (some ⟨w.heap.size+1,0,none⟩), .int .i64 dir.1, .bool true, .bool false, .bool false, .agg #[ds,ms], .agg #[.int .i64 dir.1, .int .i64 dir.2], .func (.func 228) #[] #[.pointer (some ⟨W7.heap.size,0,none⟩), .pointer (some ⟨W7.heap.size+1,0,none⟩)], .agg #[.int .i64 xd, .int .i64 xi], .bool false, .agg #[.int .i64 xd, .int .i64 xi], .agg #[.int .i64 0, .int .i64 1], .bool false,undef,undef,undef,undef,undef,undef,undef,undef, .bool true, .pointer (some ⟨W0.heap.size,1,none⟩), .int .i64 xi, .bool true,v, .agg #[ds,ms], .agg #[.int .i64 xd, .int .i64 xi], .string (Ce s (xd,xi)), .slice (some ⟨w2.heap.size,0,none⟩) 1 1,undef],defers:=[]} (w2.alloc (.cells #[.string (Ce s (xd,xi))] 9)):=by
       intro w2 ke hcN;have z9:=HZ9.out;have z6:=HZ6.out;have zz:=HZ.out;have hw2:=ke.size;have hw1:=hbW.size;have drow2:w2.ownsRow W9.heap.size 9 1 v (Di s pre).length ((Di s pre).map Value.string):=World.ownsRow.kept drow (Pk ke none) (by cases v.ownBlock<;>simp);have dN2:Boxed w2 W6.heap.size 31 v:=BY dN ke (CC dN)
       have hlen:(Di s pre).length+1<=100000:=by
        have h1:=Z8 s pre;have h2:=HPF.out.length_le;have h3:=V5 s (Bh s.files) dir;simp only[List.length_append]at h2;omega
       have hmx:(Di s pre).length+1<=maxLen:=by unfold maxLen;omega
       have HZ2:Hid (W9.heap.size<=w2.heap.size):=Lib.hid (by omega);have HZB:Hid (W6.heap.size<W9.heap.size):=Lib.hid (by omega);clear z9 z6 zz hw2 hw1;refine EA (rs:=[5]) (by rw[HO.out];kernel_rfl) (by simp) ?_;intro i hi';obtain rfl:=List.mem_singleton.1 hi';refine D0 HO.out rfl fun K hK=>?_;refine wpListIn_append_own _ rfl _ _ 31 rfl W9.heap.size 9 i0 (.string ⟨#[]⟩) 1 16 Tryz.underlying31 hi0 hz0 hz1 hz2 rfl (by decide) _ _ _ rfl (drow2.alloc _) ⟨w2.heap.size,0,none⟩ 1 1 [.string (Ce s (xd,xi))] rfl rfl (cell_one_new _ _ _) (by simp[Value.oneCell']) (by omega) (by omega) (by have:=HZ2.out;simp;omega) ?_;intro v' w4 hown' hgrow _;obtain⟨g',cap',rfl⟩:=ownsRow_succ hown';obtain⟨hv1,hv2,hr2,hk2,kl,hj2,ht2⟩:=nG dN2 drow2 HZ2.out HZB.out hown' hgrow;have ka:=hv1.cell;have hf1:=hv1.frozen
       gi_wp2
       refine EA (rs:=[6]) (by rw[HO.out];kernel_rfl) (by simp) ?_;intro i hi';obtain rfl:=List.mem_singleton.1 hi';refine D0 HO.out rfl fun K hK=>?_
       gi_wp2
       refine⟨by rw[HO.out];kernel_rfl,?_⟩;have z9:=HZ9.out;have z6:=HZ6.out;have zz:=HZ.out;have hw2:=ke.size;have hw1:=hbW.size;have jk:Below W.heap.size W w2:=hbW.trans (ke.mono hw1);have e1:=(hj2 w.heap.size (by omega) (by omega)).trans (BY d1 ke (CC d1));have eP:Boxed _ (w.heap.size+1+1) 9 (.string ⟨#[]⟩):=(hj2 (w.heap.size+1+1) (by omega) (by omega)).trans (BY dP ke (CC dP));have eE:Boxed _ (w.heap.size+1+1+1) 4 (.bool false):=(hj2 (w.heap.size+1+1+1) (by omega) (by omega)).trans (BY dE ke (CC dE));refine⟨(O0 jk).trans (hk2.from _),(Q4 jk (by omega) (by omega) (by omega)).trans ⟨hk2.size,hj2 _ (by omega) (by omega),hj2 _ (by omega) (by omega),fun b hb=>hj2 b (by omega) (by omega),fun b cs hb=>ht2 b cs _ (by decide) (by decide) hb⟩,e1,eP,eE,⟨_,hv2,?_⟩,?_,(hB1.trans (ke.mono hB1.size)).trans (kl.mono (by omega))⟩
       ·rw[Z7,if_neg (show¬(xd,xi).2=1 from hi),List.length_append,List.map_append];exact hr2
       intro hm;rcases List.mem_append.1 hm with hm|hm
       ·exact HN.out hm
       exact hx (List.mem_singleton.1 hm).symm
      refine EA (rs:=[0,1,2]) (by rw[HO.out];kernel_rfl) (by simp) ?_;intro i hi;simp only[List.mem_cons,List.not_mem_nil,or_false]at hi;rcases hi with rfl|rfl|rfl
      ·refine D0 HO.out rfl fun K hK=>?_
       gi_wp2
       refine EA (rs:=[1,2]) (by rw[HO.out];kernel_rfl) (by simp) ?_;intro i hi;simp only[List.mem_cons,List.not_mem_nil,or_false]at hi;rcases hi with rfl|rfl
       ·refine D0 HO.out rfl fun K hK=>?_
        gi_wp2
        refine EA (rs:=[2]) (by rw[HO.out];kernel_rfl) (by simp) ?_;intro i hi;obtain rfl:=List.mem_singleton.1 hi;refine D0 HO.out rfl fun K hK=>?_
        gi_wp2
        refine EA (rs:=[3]) (by rw[HO.out];kernel_rfl) (by simp) ?_;intro i hi;obtain rfl:=List.mem_singleton.1 hi;refine D0 HO.out rfl fun K hK=>?_
        gi_wp2_with fail
        refine G4 ((CallsIn.inRound l (callsIn_wide.2 (hcall _ hB1))).mono ?_);rintro e w2 ⟨rfl,ke⟩;have n1:=BY d1 ke (CC d1);have nX:=BY dX ke (CC dX);have nN:Boxed w2 W6.heap.size 31 v:=BY dN ke (CC dN);clear a1 b1 aX bX aN bN;obtain⟨a1,b1⟩:=CS n1;obtain⟨aX,bX⟩:=CS nX;have aN:=nN.cell;have bN:=nN.frozen
        gi_wp2
        refine EA (rs:=[4]) (by rw[HO.out];kernel_rfl) (by simp) ?_;intro i hi;obtain rfl:=List.mem_singleton.1 hi;refine D0 HO.out rfl fun K hK=>?_;have nN3:Boxed (w2.alloc (.cells #[.string (Ce s (xd,xi))] 9)) W6.heap.size 31 v:=Db nN _;have kc:(w2.alloc (.cells #[.string (Ce s (xd,xi))] 9)).cell? ⟨W6.heap.size,0,none⟩=some v:=nN3.cell
        gi_wp2
        exact tail w2 ke kc
       skip
       refine D0 HO.out rfl fun K hK=>?_
       gi_wp2
       refine EA (rs:=[1]) (by rw[HO.out];kernel_rfl) (by simp) ?_;intro i hi;obtain rfl:=List.mem_singleton.1 hi;refine D0 HO.out rfl fun K hK=>?_
       gi_wp2
       refine EA (rs:=[3]) (by rw[HO.out];kernel_rfl) (by simp) ?_;intro i hi;obtain rfl:=List.mem_singleton.1 hi;refine D0 HO.out rfl fun K hK=>?_
       gi_wp2_with fail
       refine G4 ((CallsIn.inRound l (callsIn_wide.2 (hcall _ hB1))).mono ?_);rintro e w2 ⟨rfl,ke⟩;have n1:=BY d1 ke (CC d1);have nX:=BY dX ke (CC dX);have nN:Boxed w2 W6.heap.size 31 v:=BY dN ke (CC dN);clear a1 b1 aX bX aN bN;obtain⟨a1,b1⟩:=CS n1;obtain⟨aX,bX⟩:=CS nX;have aN:=nN.cell;have bN:=nN.frozen
       gi_wp2
       refine EA (rs:=[4]) (by rw[HO.out];kernel_rfl) (by simp) ?_;intro i hi;obtain rfl:=List.mem_singleton.1 hi;refine D0 HO.out rfl fun K hK=>?_;have nN3:Boxed (w2.alloc (.cells #[.string (Ce s (xd,xi))] 9)) W6.heap.size 31 v:=Db nN _;have kc:(w2.alloc (.cells #[.string (Ce s (xd,xi))] 9)).cell? ⟨W6.heap.size,0,none⟩=some v:=nN3.cell
       gi_wp2
       exact tail w2 ke kc
      ·refine D0 HO.out rfl fun K hK=>?_
       gi_wp2
       refine EA (rs:=[0,2]) (by rw[HO.out];kernel_rfl) (by simp) ?_;intro i hi;simp only[List.mem_cons,List.not_mem_nil,or_false]at hi;rcases hi with rfl|rfl
       ·refine D0 HO.out rfl fun K hK=>?_
        gi_wp2
        refine EA (rs:=[2]) (by rw[HO.out];kernel_rfl) (by simp) ?_;intro i hi;obtain rfl:=List.mem_singleton.1 hi;refine D0 HO.out rfl fun K hK=>?_
        gi_wp2
        refine EA (rs:=[3]) (by rw[HO.out];kernel_rfl) (by simp) ?_;intro i hi;obtain rfl:=List.mem_singleton.1 hi;refine D0 HO.out rfl fun K hK=>?_
        gi_wp2_with fail
        refine G4 ((CallsIn.inRound l (callsIn_wide.2 (hcall _ hB1))).mono ?_);rintro e w2 ⟨rfl,ke⟩;have n1:=BY d1 ke (CC d1);have nX:=BY dX ke (CC dX);have nN:Boxed w2 W6.heap.size 31 v:=BY dN ke (CC dN);clear a1 b1 aX bX aN bN;obtain⟨a1,b1⟩:=CS n1;obtain⟨aX,bX⟩:=CS nX;have aN:=nN.cell;have bN:=nN.frozen
        gi_wp2
        refine EA (rs:=[4]) (by rw[HO.out];kernel_rfl) (by simp) ?_;intro i hi;obtain rfl:=List.mem_singleton.1 hi;refine D0 HO.out rfl fun K hK=>?_;have nN3:Boxed (w2.alloc (.cells #[.string (Ce s (xd,xi))] 9)) W6.heap.size 31 v:=Db nN _;have kc:(w2.alloc (.cells #[.string (Ce s (xd,xi))] 9)).cell? ⟨W6.heap.size,0,none⟩=some v:=nN3.cell
        gi_wp2
        exact tail w2 ke kc
       skip
       refine D0 HO.out rfl fun K hK=>?_
       gi_wp2
       refine EA (rs:=[0,3]) (by rw[HO.out];kernel_rfl) (by simp) ?_;intro i hi;simp only[List.mem_cons,List.not_mem_nil,or_false]at hi;rcases hi with rfl|rfl
       ·refine D0 HO.out rfl fun K hK=>?_
        gi_wp2
        refine EA (rs:=[3]) (by rw[HO.out];kernel_rfl) (by simp) ?_;intro i hi;obtain rfl:=List.mem_singleton.1 hi;refine D0 HO.out rfl fun K hK=>?_
        gi_wp2_with fail
        refine G4 ((CallsIn.inRound l (callsIn_wide.2 (hcall _ hB1))).mono ?_);rintro e w2 ⟨rfl,ke⟩;have n1:=BY d1 ke (CC d1);have nX:=BY dX ke (CC dX);have nN:Boxed w2 W6.heap.size 31 v:=BY dN ke (CC dN);clear a1 b1 aX bX aN bN;obtain⟨a1,b1⟩:=CS n1;obtain⟨aX,bX⟩:=CS nX;have aN:=nN.cell;have bN:=nN.frozen
        gi_wp2
        refine EA (rs:=[4]) (by rw[HO.out];kernel_rfl) (by simp) ?_;intro i hi;obtain rfl:=List.mem_singleton.1 hi;refine D0 HO.out rfl fun K hK=>?_;have nN3:Boxed (w2.alloc (.cells #[.string (Ce s (xd,xi))] 9)) W6.heap.size 31 v:=Db nN _;have kc:(w2.alloc (.cells #[.string (Ce s (xd,xi))] 9)).cell? ⟨W6.heap.size,0,none⟩=some v:=nN3.cell
        gi_wp2
        exact tail w2 ke kc
       skip
       refine D0 HO.out rfl fun K hK=>?_
       gi_wp2_with fail
       refine G4 ((CallsIn.inRound l (callsIn_wide.2 (hcall _ hB1))).mono ?_);rintro e w2 ⟨rfl,ke⟩;have n1:=BY d1 ke (CC d1);have nX:=BY dX ke (CC dX);have nN:Boxed w2 W6.heap.size 31 v:=BY dN ke (CC dN);clear a1 b1 aX bX aN bN;obtain⟨a1,b1⟩:=CS n1;obtain⟨aX,bX⟩:=CS nX;have aN:=nN.cell;have bN:=nN.frozen
       gi_wp2
       refine EA (rs:=[0,4]) (by rw[HO.out];kernel_rfl) (by simp) ?_;intro i hi;simp only[List.mem_cons,List.not_mem_nil,or_false]at hi;rcases hi with rfl|rfl
       ·refine D0 HO.out rfl fun K hK=>?_
        gi_wp2
        refine EA (rs:=[4]) (by rw[HO.out];kernel_rfl) (by simp) ?_;intro i hi;obtain rfl:=List.mem_singleton.1 hi;refine D0 HO.out rfl fun K hK=>?_;have nN3:Boxed (w2.alloc (.cells #[.string (Ce s (xd,xi))] 9)) W6.heap.size 31 v:=Db nN _;have kc:(w2.alloc (.cells #[.string (Ce s (xd,xi))] 9)).cell? ⟨W6.heap.size,0,none⟩=some v:=nN3.cell
        gi_wp2
        exact tail w2 ke kc
       skip
       refine D0 HO.out rfl fun K hK=>?_;have nN3:Boxed (w2.alloc (.cells #[.string (Ce s (xd,xi))] 9)) W6.heap.size 31 v:=Db nN _;have kc:(w2.alloc (.cells #[.string (Ce s (xd,xi))] 9)).cell? ⟨W6.heap.size,0,none⟩=some v:=nN3.cell
       gi_wp2
       refine EA (rs:=[0]) (by rw[HO.out];kernel_rfl) (by simp) ?_;intro i hi;obtain rfl:=List.mem_singleton.1 hi;refine D0 HO.out rfl fun K hK=>?_
       gi_wp2
       exact tail w2 ke kc
      skip
      refine D0 HO.out rfl fun K hK=>?_
      gi_wp2
      refine EA (rs:=[0,1]) (by rw[HO.out];kernel_rfl) (by simp) ?_;intro i hi;simp only[List.mem_cons,List.not_mem_nil,or_false]at hi;rcases hi with rfl|rfl
      ·refine D0 HO.out rfl fun K hK=>?_
       gi_wp2
       refine EA (rs:=[1]) (by rw[HO.out];kernel_rfl) (by simp) ?_;intro i hi;obtain rfl:=List.mem_singleton.1 hi;refine D0 HO.out rfl fun K hK=>?_
       gi_wp2
       refine EA (rs:=[3]) (by rw[HO.out];kernel_rfl) (by simp) ?_;intro i hi;obtain rfl:=List.mem_singleton.1 hi;refine D0 HO.out rfl fun K hK=>?_
       gi_wp2_with fail
       refine G4 ((CallsIn.inRound l (callsIn_wide.2 (hcall _ hB1))).mono ?_);rintro e w2 ⟨rfl,ke⟩;have n1:=BY d1 ke (CC d1);have nX:=BY dX ke (CC dX);have nN:Boxed w2 W6.heap.size 31 v:=BY dN ke (CC dN);clear a1 b1 aX bX aN bN;obtain⟨a1,b1⟩:=CS n1;obtain⟨aX,bX⟩:=CS nX;have aN:=nN.cell;have bN:=nN.frozen
       gi_wp2
       refine EA (rs:=[4]) (by rw[HO.out];kernel_rfl) (by simp) ?_;intro i hi;obtain rfl:=List.mem_singleton.1 hi;refine D0 HO.out rfl fun K hK=>?_;have nN3:Boxed (w2.alloc (.cells #[.string (Ce s (xd,xi))] 9)) W6.heap.size 31 v:=Db nN _;have kc:(w2.alloc (.cells #[.string (Ce s (xd,xi))] 9)).cell? ⟨W6.heap.size,0,none⟩=some v:=nN3.cell
       gi_wp2
       exact tail w2 ke kc
      skip
      refine D0 HO.out rfl fun K hK=>?_
      gi_wp2
      refine EA (rs:=[0,3]) (by rw[HO.out];kernel_rfl) (by simp) ?_;intro i hi;simp only[List.mem_cons,List.not_mem_nil,or_false]at hi;rcases hi with rfl|rfl
      ·refine D0 HO.out rfl fun K hK=>?_
       gi_wp2
       refine EA (rs:=[3]) (by rw[HO.out];kernel_rfl) (by simp) ?_;intro i hi;obtain rfl:=List.mem_singleton.1 hi;refine D0 HO.out rfl fun K hK=>?_
       gi_wp2_with fail
       refine G4 ((CallsIn.inRound l (callsIn_wide.2 (hcall _ hB1))).mono ?_);rintro e w2 ⟨rfl,ke⟩;have n1:=BY d1 ke (CC d1);have nX:=BY dX ke (CC dX);have nN:Boxed w2 W6.heap.size 31 v:=BY dN ke (CC dN);clear a1 b1 aX bX aN bN;obtain⟨a1,b1⟩:=CS n1;obtain⟨aX,bX⟩:=CS nX;have aN:=nN.cell;have bN:=nN.frozen
       gi_wp2
       refine EA (rs:=[4]) (by rw[HO.out];kernel_rfl) (by simp) ?_;intro i hi;obtain rfl:=List.mem_singleton.1 hi;refine D0 HO.out rfl fun K hK=>?_;have nN3:Boxed (w2.alloc (.cells #[.string (Ce s (xd,xi))] 9)) W6.heap.size 31 v:=Db nN _;have kc:(w2.alloc (.cells #[.string (Ce s (xd,xi))] 9)).cell? ⟨W6.heap.size,0,none⟩=some v:=nN3.cell
       gi_wp2
       exact tail w2 ke kc
      skip
      refine D0 HO.out rfl fun K hK=>?_
      gi_wp2_with fail
      refine G4 ((CallsIn.inRound l (callsIn_wide.2 (hcall _ hB1))).mono ?_);rintro e w2 ⟨rfl,ke⟩;have n1:=BY d1 ke (CC d1);have nX:=BY dX ke (CC dX);have nN:Boxed w2 W6.heap.size 31 v:=BY dN ke (CC dN);clear a1 b1 aX bX aN bN;obtain⟨a1,b1⟩:=CS n1;obtain⟨aX,bX⟩:=CS nX;have aN:=nN.cell;have bN:=nN.frozen
      gi_wp2
      refine EA (rs:=[0,4]) (by rw[HO.out];kernel_rfl) (by simp) ?_;intro i hi;simp only[List.mem_cons,List.not_mem_nil,or_false]at hi;rcases hi with rfl|rfl
      ·refine D0 HO.out rfl fun K hK=>?_
       gi_wp2
       refine EA (rs:=[4]) (by rw[HO.out];kernel_rfl) (by simp) ?_;intro i hi;obtain rfl:=List.mem_singleton.1 hi;refine D0 HO.out rfl fun K hK=>?_;have nN3:Boxed (w2.alloc (.cells #[.string (Ce s (xd,xi))] 9)) W6.heap.size 31 v:=Db nN _;have kc:(w2.alloc (.cells #[.string (Ce s (xd,xi))] 9)).cell? ⟨W6.heap.size,0,none⟩=some v:=nN3.cell
       gi_wp2
       exact tail w2 ke kc
      skip
      refine D0 HO.out rfl fun K hK=>?_;have nN3:Boxed (w2.alloc (.cells #[.string (Ce s (xd,xi))] 9)) W6.heap.size 31 v:=Db nN _;have kc:(w2.alloc (.cells #[.string (Ce s (xd,xi))] 9)).cell? ⟨W6.heap.size,0,none⟩=some v:=nN3.cell
      gi_wp2
      refine EA (rs:=[0]) (by rw[HO.out];kernel_rfl) (by simp) ?_;intro i hi;obtain rfl:=List.mem_singleton.1 hi;refine D0 HO.out rfl fun K hK=>?_
      gi_wp2
      exact tail w2 ke kc
     case done=>
      rintro D xs W hD hS ⟨c1,cP,cE,_,hnm,hbw⟩ hK;have HS:=Lib.hid hS;have HN:=Lib.hid hnm;clear hS hnm;have aP:=cP.cell;have bP:=cP.frozen;have aE:=cE.cell;have bE:=cE.frozen
      gi_wp2
      have z6:=HZ6.out;have z9:=HZ9.out;have cP2:=Boxed.other (cP.set (.string ⟨#[]⟩)) (show w.heap.size+1+1≠w.heap.size+1+1+1 by omega) (.bool false);have cE2:=(Boxed.other cE (show w.heap.size+1+1+1≠w.heap.size+1+1 by omega) (.string ⟨#[]⟩)).set (.bool false);have hB2:=(hbw.setCell (p:=⟨w.heap.size+1+1,0,none⟩) (by show w.heap.size<=w.heap.size+1+1;omega) (.string ⟨#[]⟩)).setCell (p:=⟨w.heap.size+1+1+1,0,none⟩) (by show w.heap.size<=w.heap.size+1+1+1;omega) (.bool false);have hK2:=(KeepsOthers.setCell _ ⟨w.heap.size+1+1+1,0,none⟩ (.bool false)).same D _ ((KeepsOthers.setCell _ ⟨w.heap.size+1+1,0,none⟩ (.string ⟨#[]⟩)).same D _ hK rfl) rfl;refine⟨by simp, .inl ⟨_,_,rfl,run_takeDeferred hK2,?_⟩⟩;have hP:=(MZ cP2 (show w.heap.size+1+1≠D by omega) (.deferred none)).cell;have hE:=(MZ cE2 (show w.heap.size+1+1+1≠D by omega) (.deferred none)).cell;refine⟨.tuple #[.string ⟨#[]⟩, .bool false],by simp[results,Tryz.f267,go_sem,hP,hE],by rw[HW.out,if_neg (by rw[<-HS.out];exact HN.out)],O1 hB2 (by omega) _⟩
     case stop=>
      rintro D c pre W hD hSp ⟨rfl,cP,cE,hnm,hbw⟩ hK;have HS:=Lib.hid hSp;have HN:=Lib.hid hnm;clear hSp hnm;have aP:=cP.cell;have aE:=cE.cell
      gi_wp2
      have z6:=HZ6.out;have z9:=HZ9.out;refine⟨by simp, .inl ⟨_,_,rfl,run_takeDeferred hK,?_⟩⟩;have hP:=(MZ cP (show w.heap.size+1+1≠D by omega) (.deferred none)).cell;have hE:=(MZ cE (show w.heap.size+1+1+1≠D by omega) (.deferred none)).cell;refine⟨.tuple #[.string (Lb s (pre.takeWhile fun x:A8=>decide (x≠(0,1)))), .bool true],by simp[results,Tryz.f267,go_sem,hP,hE],by rw[HW.out,if_pos (HS.out.subset HN.out),nD HS.out HN.out],O1 hbw (by omega) _⟩
end
section
open Go.RowKit
open Go.Shelf
attribute [local go_sem] Oper.semAt_some
def V6(s:Spc)(dir x:A8):Bool:=match CH s x with
 |none=>true
 |some d=>decide (∃y∈BS s (Bh s.files) dir,y.1=d)
def SG(s:Spc)(dir:A8):Bool:=(Bv s dir).2&&(BS s (Bh s.files) dir).all (V6 s dir)
end
section
open Go.RowKit
theorem SpcV.b{s:Spc}(h:SpcV s)(hm:s.mounts.length<=1000):SpcB s:=⟨h.files.b,hm⟩
theorem Z9{P:Program}{f:FuncId}{s:Spc}{xs:List AV}{us:List Value}{z:Value}{R:AV}(hx:∀(G:Gh) (w:World) (vs:List Value),AN G w xs vs->vs=us)(hR:∀(G:Gh) (w:World),rep G w R z)
    (h:∀(w:World) (ds ms:Value),SpcIn s w.heap.size w ds ms->Calls P f (.agg #[ds,ms]::us).toArray w fun e w'=>e= .returned z/\Below w.heap.size w w'):AFn P f (.agg (AQ s)::xs) (fun r=>r=R):=by
 intro w St bl vs hr hv;simp only[AN]at hv;obtain⟨z0,zs,rfl,h1,h2⟩:=hv;obtain rfl:=hx _ _ _ h2;simp only[rep,AQ,AN]at h1;obtain⟨ys,rfl,ds,_,rfl,h3,ms,_,rfl,h4,rfl⟩:=h1
 have hs:SpcIn s w.heap.size w ds ms:=by
  refine⟨As _,?_⟩;refine NT (St:=St) (fun b o hb=>⟨hr.stlt b o hb,rfl⟩) _ _ ?_;simp only[AQ,Bc];exact⟨_,_,rfl,h3,_,_,rfl,h4,rfl⟩
 refine(h w ds ms hs).mono ?_;rintro e w' ⟨rfl,hb⟩;obtain⟨k1,k2⟩:=hr.below hb;exact⟨_,_,_,_,⟨rfl,rfl,rfl⟩,k1,k2,hR _ _⟩
theorem nJ{G:Gh}{w:World}{a:A8}{vs:List Value}(h:AN G w [.agg (AB a)] vs):vs=[FF a]:=by
 simp only[AN,rep,AB]at h;obtain⟨_,_,rfl,⟨_,rfl,_,_,rfl,rfl,_,_,rfl,rfl,rfl⟩,rfl⟩:=h;rfl
structure SpcN(s:Spc):Prop where
 b:SpcB s
 nm:∀x,(Ce s x).size<=100
 most:Bh s.files<=5000
section
variable {s:Spc}(hs:SpcN s)
include hs
theorem V7(a:A8):AFn prog 267 [.agg (AQ s), .agg (AB a)] (fun r=>r= .tup [.v (.string (Bv s a).1), .v (.bool (Bv s a).2)]):=
 Z9 (us:=[FF a]) (z:= .tuple #[.string (Bv s a).1, .bool (Bv s a).2]) (fun _ _ _ h=>nJ h) (fun G w=>by simp only[rep,AN];exact⟨[_,_],rfl,_,_,rfl,rfl,_,_,rfl,rfl,rfl⟩)
  fun w ds ms h=>callsIn_wide.1 (nH 4 (Lib.hid (As _)) s hs.b hs.nm hs.most a ds ms w h)
end
theorem nK(s:Spc)(hs:SpcB s)(a b:A8):AFn prog 120 [.agg (AQ s), .agg (AB a), .agg (AB b)] (fun r=>r= .v (.bool (decide (a∈BS s (Bh s.files) b)))):=
 Z9 (us:=[FF a,FF b]) (z:= .bool (decide (a∈BS s (Bh s.files) b))) (fun G w vs h=>by
  simp only[AN,rep,AB]at h;obtain⟨_,_,rfl,⟨_,rfl,_,_,rfl,rfl,_,_,rfl,rfl,rfl⟩,_,_,rfl,⟨_,rfl,_,_,rfl,rfl,_,_,rfl,rfl,rfl⟩,rfl⟩:=h
  rfl) (fun G w=>by simp only[rep])
  fun w ds ms h=>callsIn_wide.1 (mW 4 (Lib.hid (by omega)) s hs a b ds ms w h)
theorem nL{f:AR}{a:A8}(h:Dl f a=true):∃d∈f,AY f a∈d.nodes:=by
 obtain⟨q,i,d,m,_,h2,h3,_,_,h6⟩:=QM h;exact⟨d,Aj h2,by rw[h6];exact Aj h3⟩
theorem nM{x:AD}(h:FC x=true):x.size<=12:=by
 rw[N6]at h;by_cases hc:x.size<1\/12<x.size
 ·rw[if_pos hc]at h;cases h
 omega
theorem V8{s:Spc}(h:FlsV s.files)(x:A8):(Ce s x).size<=12:=by
 unfold Ce
 cases hf:(JN s x).entries.find? fun e:BQ=>decide (e.2=x.2)with
 |none=>exact BG _
 |some e=>
   have hm:=List.mem_of_find?_eq_some hf;unfold JN at hm;by_cases hh:Dl s.files (x.1,(AY s.files x).parent)=true
   ·obtain⟨d,hd,hn⟩:=nL hh;exact nM ((h.vd d hd).ent _ hn e hm).1
   have:AY s.files (x.1,(AY s.files x).parent)=Nod.zero:=by
    unfold Dl at hh
    cases hq:C5 s.files (x.1,(AY s.files x).parent)with
    |none=>show(C5 s.files (x.1,(AY s.files x).parent)).getD Nod.zero=Nod.zero;rw[hq];rfl
    |some m=>rw[hq]at hh;exact absurd rfl hh
   rw[this]at hm;cases hm
theorem ZA{f:AR}(h:FlsV f):Bh f<=48:=by
 have:∀(l:AR),(∀d∈l,d.nodes.length<=16)->Bh l<=l.length * 16:=by
  intro l
  induction l with
  |nil=>intro _;simp[Bh]
  |cons d l ih=>
    intro h;have h1:=ih fun d hd=>h d (List.mem_cons_of_mem _ hd);have h2:=h d (List.mem_cons_self ..);simp only[Bh,List.map_cons,List.sum_cons,List.length_cons]at h1 ⊢;omega
 have h1:=this f fun d hd=>(h.vd d hd).len;have h2:=h.few;omega
theorem SpcV.n{s:Spc}(h:SpcV s)(hm:s.mounts.length<=1000):SpcN s:=⟨⟨h.files.b,hm⟩,fun x=>by have:=V8 h.files x;omega,by have:=ZA h.files;omega⟩
def Mc(w:World):Nat->Nat->Prop:=fun b _=>b<w.heap.size
def Opens(P:Program)(t:TypeId)(R:List AV->Prop):Prop:=
 ∀(H:Type) (enc:TypeId×Value->H) (w:World) (base:Nat) (spare:Nat->Bool) (held:Bool) (fuel:Nat) (cs:List Value) (x:DataW H×List MemPlace),DataW.trod enc P w base spare held fuel t cs=some x->
  ∃row,R row/\Bc (Mc w) w row cs/\∀u∈cs,u.oneCell'=true
section
variable {P:Program}{t:TypeId}
theorem Opens.mono{R R':List AV->Prop}(h:Opens P t R)(hR:∀r,R r->R' r):Opens P t R':=by
 intro H enc w base spare held fuel cs x hx;obtain⟨row,h1,h2⟩:=h H enc w base spare held fuel cs x hx;exact⟨row,hR _ h1,h2⟩
theorem nO{k:IntKind}(ht:P.underlying t=some (.int k)):Opens P t fun r=>∃n,r=[.v (.int k n)]/\(Lit.int k n).wf=true:=by
 intro H enc w base spare held fuel cs x hx;obtain⟨b,rfl,_,hw⟩:=DataW.trod_int ht hx;exact⟨_,⟨b,rfl,hw⟩,⟨_,_,rfl,by simp only[Ai],by simp only[Bc]⟩,by simp[Value.oneCell']⟩
theorem nP{w:World}{b o:Nat}{v:Value}(h:w.cell? ⟨b,o,none⟩=some v):b<w.heap.size:=by
 rcases Nat.lt_or_ge b w.heap.size with hlt|hge
 ·exact hlt
 simp[World.cell?,Array.getElem?_eq_none hge]at h
theorem nQ{St:Nat->Nat->Prop}{w:World}{xs:List AV}{ys:List Value}(h:Bc St w xs ys):ys.length=xs.length:=Kr (G:=⟨St,[],[]⟩) (Mp (G:=⟨St,[],[]⟩) _ _ h)
theorem nR{e:TypeId}{n:Nat}{R:List AV->Prop}(ht:P.underlying t=some (.slice e))(hc:P.cellsOf e=n)(hn:0<n)(h:Opens P e R):Opens P t fun r=>∃rows,r=[.sl n rows none]/\rows.length<=maxLen/\∀x∈rows,R x:=by
 intro H enc w base spare held fuel cs x hx;rcases DataW.trod_slice ht hx with⟨rfl,_⟩|⟨⟨b,off,spot⟩,len,cap,elems,rest,m,rfl,rfl,_,hb,hl,hm,hlen,hel,_,_⟩
 ·exact⟨_,⟨[],rfl,BG _,by simp⟩,⟨_,_,rfl,by simp only[Ai];exact⟨trivial,none,0,rfl,As _,BG _, .inl trivial⟩,by simp only[Bc]⟩,by simp[Value.oneCell']⟩
 have each:∀i,i<len->∃row cs',R row/\row.length=n/\Bc (Mc w) w row cs'/\(∀u∈cs',u.oneCell'=true)/\cs'.length=n/\∀j,j<n->w.cell? (Addr.add ⟨b,off,spot⟩ (i * n+j))=cs'[j]?:=by
  intro i hi;have h1:=hel i hi;rw[hc,B7 (by omega),Option.bind_eq_some_iff]at h1;obtain⟨cs',h2,h3⟩:=h1;obtain⟨row,r1,r2,r3⟩:=h _ _ _ _ _ _ _ _ _ h3;obtain⟨_,c1,c2⟩:=World.cells?_some h2;refine⟨row,cs',r1,by rw[<-nQ r2,c1],r2,r3,c1,fun j hj=>?_⟩;have:=c2 j hj
  rwa [Addr.add_add]at this
 have hrows:∃rows:List (List AV),rows.length=len/\(∀i,i<len->∃row cs',rows[i]?=some row/\R row/\row.length=n/\Bc (Mc w) w row cs'/\(∀u∈cs',u.oneCell'=true)/\cs'.length=n/\∀j,j<n->w.cell? (Addr.add ⟨b,off,spot⟩ (i * n+j))=cs'[j]?):=by
  clear hel
  have:∀k,k<=len->∃rows:List (List AV),rows.length=k/\(∀i,i<k->∃row cs',rows[i]?=some row/\R row/\row.length=n/\Bc (Mc w) w row cs'/\(∀u∈cs',u.oneCell'=true)/\cs'.length=n/\∀j,j<n->w.cell? (Addr.add ⟨b,off,spot⟩ (i * n+j))=cs'[j]?):=by
   intro k
   induction k with
   |zero=>intro _;exact⟨[],rfl,fun i hi=>by omega⟩
   |succ k ih=>
     intro hk;obtain⟨rows,e1,e2⟩:=ih (by omega);obtain⟨row,cs',q⟩:=each k (by omega);refine⟨rows++[row],by simp[e1],fun i hi=>?_⟩;rcases Nat.lt_or_ge i k with hlt|hge
     ·obtain⟨row',cs'',q1,q2⟩:=e2 i hlt;exact⟨row',cs'',by rw[DD (by omega)];exact q1,q2⟩
     obtain rfl:i=k:=by omega
     exact⟨row,cs',by rw[Er (by omega),e1];simp,q⟩
  exact this len (As _)
 obtain⟨rows,e1,e2⟩:=hrows;refine⟨_,⟨rows,rfl,by omega,fun x hx=>?_⟩,⟨_,_,rfl,?_,by simp only[Bc]⟩,by simp[Value.oneCell']⟩
 ·obtain⟨i,hi⟩:=List.getElem?_of_mem hx;obtain⟨row,_,q1,q2,_⟩:=e2 i (by rw[<-e1];exact(AZ.1 hi).1);rw[hi]at q1;injection q1 with q1;subst q1;exact q2
 simp only[Ai];refine⟨trivial,some ⟨b,off,spot⟩,cap,by rw[e1],by omega,hm,?_⟩;rcases Nat.eq_zero_or_pos len with h0|h0
 ·left;exact ER (by omega)
 right
 have hspot:spot=none:=by
  obtain⟨_,cs',_,_,_,_,_,c3,c4⟩:=e2 0 h0;have:=c4 0 hn;rw[B7 (by omega)]at this
  simpa[Addr.add]using World.cell?_spot this
 subst hspot;refine⟨b,off,rfl,?_⟩
 have:∀(rs:List (List AV)) (k:Nat),(∀i r,rs[i]?=some r->rows[k+i]?=some r)->froR (Mc w) w b n rs (off+k * n):=by
  intro rs
  induction rs with
  |nil=>intro k _;simp only[froR]
  |cons r rs ih=>
    intro k hk;simp only[froR];have h1:=hk 0 r rfl;rw[Nat.add_zero]at h1;obtain⟨row,cs',q1,_,q3,q4,q5,q6,q7⟩:=e2 k (by rw[<-e1];exact(AZ.1 h1).1);rw[h1]at q1;injection q1 with q1;subst q1;refine⟨⟨q3,OH fun i x hi=>?_⟩,?_⟩
    ·obtain⟨u,u1,u2⟩:=RH q4 hi;have hin:i<n:=by rw[<-q3];exact(AZ.1 hi).1
     have hc:=q7 i hin;rw[u1]at hc;have hc':w.cell? ⟨b,off+k * n+i,none⟩=some u:=by rw[Addr.add_mid]at hc;rwa [Nat.add_assoc]
     exact⟨nP hc',u,hc',q5 u (Aj u1),u2⟩
    have:=ih (k+1) (fun i r' hi=>by
     have:=hk (i+1) r' (by simpa using hi)
     rwa [show k+1+i=k+(i+1) by omega])
    rwa [show off+(k+1) * n=off+k * n+n by rw[Nat.add_mul];omega]at this
 simpa using this rows 0 (fun i r hi=>by simpa using hi)
theorem ZB{α:Type}{enc:α->List AV}{Q:α->Prop}:∀{rows:List (List AV)},(∀x∈rows,∃a,x=enc a/\Q a)->∃l:List α,rows=l.map enc/\∀a∈l,Q a
 |[],_=>⟨[],rfl,by simp⟩
 |r::rs,h=>by
   obtain⟨a,rfl,ha⟩:=h r (by simp);obtain⟨l,rfl,hl⟩:=ZB (rows:=rs) fun x hx=>h x (by simp[hx]);exact⟨a::l,rfl,by simpa using⟨ha,hl⟩⟩
theorem Opens.one{R:List AV->Prop}(h:Opens P t R){H:Type}{enc:TypeId×Value->H}{w:World}{base:Nat}{spare:Nat->Bool}{held:Bool}{v:Value}{d:DataW H}{ps:List MemPlace}(hv:v.cells=#[v])(hd:DataW.Trod enc P w base spare held t v d ps):
    ∃row,R row/\Bc (Mc w) w row [v]:=by
 obtain⟨fuel,hf⟩:=hd;rw[hv]at hf;obtain⟨row,h1,h2,_⟩:=h _ _ _ _ _ _ _ _ _ hf;exact⟨row,h1,h2⟩
end
theorem nT:Opens prog 22 (fun r=>∃l:List Int,r=[.sl 1 (l.map Cc) none]):=
 (nR (n:=1) Tryz.underlying22 (by kernel_rfl) (by omega) (nO Tryz.underlying3)).mono (by
   rintro r ⟨rows,rfl,_,hr⟩;obtain⟨l,rfl,_⟩:=ZB (enc:=Cc) (Q:=fun _=>True) (fun x hx=>by obtain⟨t,rfl,_⟩:=hr x hx;exact⟨t,rfl,trivial⟩)
   exact⟨l,rfl⟩)
theorem nU{H:Type}{enc:TypeId×Value->H}{sp:Nat->Bool}{held:Bool}{base:Nat}{w:World}{a:Option Addr}{n c:Nat}{d:DataW H}{p:List MemPlace}(h:DataW.Trod enc prog w base sp held 22 (.slice a n c) d p):
    ∃l:List Int,rep ⟨Mc w,[],[]⟩ w (.sl 1 (l.map Cc) none) (.slice a n c):=by
 obtain⟨r0,⟨l,rfl⟩,k0⟩:=nT.one rfl h;simp only[Bc]at k0;obtain⟨_,_,e0,k0,rfl⟩:=k0;injection e0 with e0;subst e0;exact⟨l,KL (G:=⟨Mc w,[],[]⟩) _ _ k0⟩
theorem nV{f:FuncId}(hf:∀l:List Int,AFn prog f [.sl 1 (l.map Cc) none] (fun x=>x= .v (.bool true))){H:Type}{enc:TypeId×Value->H}{sp:Nat->Bool}{held:Bool}{base:Nat}(a:Option Addr)(n c:Nat)(w:World){d:DataW H}{p:List MemPlace}
    (h:DataW.Trod enc prog w base sp held 22 (.slice a n c) d p):Calls prog f #[.slice a n c] w fun e w'=>e= .returned (.bool true)/\Below w.heap.size w w':=by
 obtain⟨l,k⟩:=nU h;refine fY (vs:=[.slice a n c]) (hf l) (Mc w) (fun b o h=>h) ?_;simp only[AN];exact⟨_,_,rfl,k,rfl⟩
theorem V9{s:Spc}{dev:Int}(h:CR s dev=true)(h0:dev≠0):∃m∈s.mounts,m.1=dev:=by
 unfold CR CB at h;simp only[Bool.or_eq_true,decide_eq_true_eq,h0,or_false]at h
 cases hf:s.mounts.find? fun m:E7=>decide (m.1=dev)with
 |none=>rw[hf]at h;cases h
 |some m=>exact⟨m,List.mem_of_find?_eq_some hf,by have:=List.find?_some hf;simpa using this⟩
theorem QP{s:Spc}{m:E7}(h:m∈s.mounts):CR s m.1=true:=by
 unfold CR CB;rw[Bool.or_eq_true];refine .inl ?_;rw[Option.isSome_map]
 cases hf:s.mounts.find? fun m':E7=>decide (m'.1=m.1)with
 |none=>have:=List.find?_eq_none.1 hf m h;simp at this
 |some m=>rfl
theorem ZC{f:AR}{ms ms':List E7}{dev:Int}(h:CR ⟨f,ms⟩ dev=true)(hs:∀m∈ms,m∈ms'):CR ⟨f,ms'⟩ dev=true:=by
 by_cases h0:dev=0
 ·unfold CR;simp[h0]
 obtain⟨m,hm,rfl⟩:=V9 h h0;exact QP (s:=⟨f,ms'⟩) (hs m hm)
section
theorem ZD(s:Spc):∀(k:Nat) (a:A8),(BS s k a).length<=k
 |0,_=>by simp[BS]
 |k+1,a=>by
   unfold BS;split
   ·cases h:GZ s a with
    |none=>simp
    |some b=>have:=ZD s k b;simp;omega
   simp
end
end
end Go.Proofs.YtbgnigjfkbmceaaGreatDoor
namespace Go.Proofs.YtbgnigjfkbmceaaGreatDoor
section
open Go.RowKit
variable {s:Spc}(hv:SpcV s)
include hv
theorem VA{q:Nat}{d:Dvc}{p:Nod}{x:Int}(hq:s.files[q]?=some d)(hp:p∈d.nodes)(hx:p.ino=x):C5 s.files ((q:Int),x)=some p:=
 Uy (a:=((q:Int),x)) rfl hq (hv.files.vd d (Aj hq)).asc hp hx
theorem QQ{a b:A8}(h:AU s.files a=true)(hs:E9 s a=some b):AU s.files b=true:=by
 obtain⟨q,d,m,h1,h2,h3,h4,h5,h6⟩:=O6 (f:=s.files) (a:=a) (by rw[h];simp);have hd:=hv.files.vd d (Aj h2);unfold E9 at hs;by_cases h0:a.2≠1
 ·rw[if_pos h0]at hs;injection hs with hs;subst hs;rw[h5,h1];obtain⟨p,hp,hpi,e,he,_⟩:=hd.par m h3 (by rw[h4];exact h0) h6
  have hk:p.kind=2:=by
   by_cases hk:p.kind=2
   ·exact hk
   have:=(hd.leaf p hp hk).2;rw[this]at he;cases he
  exact(O5 (VA hv h2 hp hpi)).2 hk
 rw[if_neg h0]at hs;obtain⟨m',hm',_,e⟩:=QO hs;obtain⟨i,hi⟩:=List.getElem?_of_mem hm';rw[<-e];exact(hv.mnt i m' hi).dir
theorem VB{a b:A8}(h:CR s a.1=true)(hs:E9 s a=some b):CR s b.1=true:=by
 unfold E9 at hs;by_cases h0:a.2≠1
 ·rw[if_pos h0]at hs;injection hs with hs;subst hs;exact h
 rw[if_neg h0]at hs;obtain⟨m',hm',_,e⟩:=QO hs;obtain⟨i,hi⟩:=List.getElem?_of_mem hm';rw[<-e];exact ZC (f:=s.files) (hv.mnt i m' hi).there (fun x hx=>List.mem_of_mem_take hx)
theorem VC:CB s 0=none:=by
 cases h:CB s 0 with
 |none=>rfl
 |some on=>
   obtain⟨m',hm',e,_⟩:=QO h;obtain⟨i,hi⟩:=List.getElem?_of_mem hm';have:=(hv.mnt i m' hi).dev1;omega
theorem nW{a:A8}(h:CR s a.1=true)(h0:a≠(0,1)):∃b,E9 s a=some b:=by
 have _:=hv;unfold E9;by_cases h1:a.2≠1
 ·exact⟨_,if_pos h1⟩
 rw[if_neg h1];have h2:a.1≠0:=fun e=>h0 (Prod.ext e (by simpa using h1));unfold CR at h;rw[decide_eq_false h2,Bool.or_false]at h
 cases ho:CB s a.1 with
 |none=>rw[ho]at h;cases h
 |some b=>exact⟨b,rfl⟩
theorem NJ{a:A8}(h:AU s.files a=true):BS s (Bh s.files) a=a::(match E9 s a with
    |none=>[]
    |some b=>BS s (Bh s.files) b):=by
 have hd:¬AU s.files a=false:=by rw[h];simp
 have he:=M5 hv a
 cases hm:Bh s.files with
 |zero=>rw[hm]at he;exact absurd he hd
 |succ m=>
   rw[hm]at he;rw[La hd,Oq hv hd]
   cases hs:E9 s a with
   |none=>rfl
   |some b=>
     simp only;have h1:=he.resolve_left hd b hs;have h2:=M5 hv b;rw[hm]at h2;rw[V0 hv m (m+1) b h1 h2]
theorem nY{a:A8}(h:AU s.files a=true)(hm:CR s a.1=true):(0,1)∈BS s (Bh s.files) a:=by
 have key:∀(k:Nat) (a:A8),ends s k a->AU s.files a=true->CR s a.1=true->(0,1)∈BS s (Bh s.files) a:=by
  intro k
  induction k with
  |zero=>intro a he h _;rw[show AU s.files a=false from he]at h;cases h
  |succ k ih=>
    intro a he h hm;by_cases h0:a=(0,1)
    ·rw[NJ hv h,h0];exact List.mem_cons_self ..
    obtain⟨b,hb⟩:=nW hv hm h0;rw[NJ hv h,hb];exact List.mem_cons_of_mem _ (ih b (he.resolve_left (by rw[h];simp) b hb) (QQ hv h hb) (VB hv hm hb))
 exact key _ a (M5 hv a) h hm
theorem VE{a:A8}(h:¬(AU s.files a=true/\CR s a.1=true)):Bv s a=(⟨#[]⟩,false):=by
 have _:=hv;unfold Bv;rw[if_neg fun c=>h ⟨c.1,c.2.1⟩]
theorem SH{a:A8}(h:AU s.files a=true)(hm:CR s a.1=true):Bv s a=(Lb s ((BS s (Bh s.files) a).takeWhile fun x=>decide (x≠(0,1))),true):=by
 unfold Bv;rw[if_pos ⟨h,hm,nY hv h hm⟩]
theorem nZ(h:AU s.files (0,1)=true):Bv s (0,1)=(⟨#[47]⟩,true):=by
 rw[SH hv h (by unfold CR;simp),NJ hv h,List.takeWhile_cons];simp[Lb,Di]
theorem ZE{a b:A8}(h:AU s.files a=true)(hm:CR s a.1=true)(h0:a≠(0,1))(hb:E9 s a=some b):Bv s a=(if a.2=1 then(Bv s b).1 else EN (Bv s b).1 (Ce s a),true)/\(Bv s b).2=true:=by
 rw[SH hv h hm,SH hv (QQ hv h hb) (VB hv hm hb),NJ hv h,hb,List.takeWhile_cons];simp only[h0,ne_eq,not_false_eq_true,decide_true,if_true];refine⟨?_,trivial⟩;unfold Lb Di;rw[List.filter_cons];by_cases h1:a.2=1
 ·simp[h1]
 simp[h1]
def FV(s:Spc):Nat->A8->A8
 |0,a=>a
 |k+1,a=>if AU s.files a=true then(if a.2≠1 then(a.1,(AY s.files a).parent)else match CB s a.1 with
   |some on=>FV s k on
   |none=>a)else(0,0)
omit hv in
theorem o0(dev:Int):NH s dev<=s.mounts.length:=by
 unfold NH
 cases h:s.mounts.findIdx? fun m:E7=>decide (m.1=dev)with
 |none=>simp
 |some i=>
   have:=(List.findIdx?_eq_some_iff_getElem.1 h).1;simp only;omega
theorem ZF{i j:Nat}{m m':E7}(hi:s.mounts[i]?=some m)(hj:s.mounts[j]?=some m')(h:m.1=m'.1):i=j:=by
 have key:∀{i j:Nat} {m m':E7},s.mounts[i]?=some m->s.mounts[j]?=some m'->m.1=m'.1->¬i<j:=by
  intro i j m m' hi hj h hlt;have hf:=(hv.mnt j m' hj).fresh
  have hm:m∈s.mounts.take j:=by
   refine Aj (i:=i) ?_;rw[List.getElem?_take,if_pos hlt];exact hi
  have:=QP (s:=⟨s.files,s.mounts.take j⟩) hm;rw[h,hf]at this;cases this
 have h1:=key hi hj h;have h2:=key hj hi h.symm;omega
omit hv in
theorem QR{a:A8}{d:Int}(h:CH s a=some d):∃i:Nat,s.mounts[i]?=some ((d,a):E7):=by
 unfold CH at h
 cases hf:s.mounts.find? fun m:E7=>decide (m.2=a)with
 |none=>rw[hf]at h;cases h
 |some m=>
   rw[hf]at h;injection h with h;have h2:=List.find?_some hf;simp only[decide_eq_true_eq]at h2;obtain⟨i,hi⟩:=List.getElem?_of_mem (List.mem_of_find?_eq_some hf);exact⟨i,by rw[hi,<-h,<-h2]⟩
omit hv in
theorem o8{a:A8}(h:∀(i:Nat) (m:E7),s.mounts[i]?=some m->m.2≠a):CH s a=none:=by
 cases hc:CH s a with
 |none=>rfl
 |some d=>obtain⟨i,hi⟩:=QR hc;exact absurd rfl (h i _ hi)
theorem ZG:∀(n:Nat) (a:A8),(∀(i:Nat) (m:E7),s.mounts[i]?=some m->m.2=a->s.mounts.length<=i+n)->CH s (Dh s n a)=none:=by
 intro n
 induction n with
 |zero=>
   intro a h;refine o8 fun i m hi e=>?_;have h1:=h i m hi e;have h2:=(AZ.1 hi).1;omega
 |succ n ih=>
   intro a h
   cases hc:CH s a with
   |none=>rw[Tz (by rw[hc];rfl)];exact hc
   |some d=>
     obtain⟨i,hi⟩:=QR hc;rw[Dh];refine ih _ fun j m hj e=>?_;have he:LW s a=(d,1):=by unfold LW;rw[hc]
     rw[he]at e;have h1:=h i _ hi rfl;have hth:=(hv.mnt j m hj).there;have hd1:=(hv.mnt i _ hi).dev1;rw[e]at hth;obtain⟨m'',hm'',e2⟩:=V9 hth (by simp only at hd1 ⊢;omega);obtain⟨k,hk⟩:=List.getElem?_of_mem hm''
     have hkj:k<j:=by
      have:=(AZ.1 hk).1;simp at this;omega
     rw[List.getElem?_take,if_pos hkj]at hk;have:=ZF hv hk hi e2;omega
omit hv in
theorem ZH:∀(n:Nat) (a:A8),Dh s (n+1) a=LW s (Dh s n a)
 |0,_=>rfl
 |n+1,a=>ZH n (LW s a)
theorem oA(a:A8):Dh s (s.mounts.length+1) a=Dh s s.mounts.length a:=by
 rw[ZH];refine Ty ?_;rw[ZG hv _ a (fun i m _ _=>by omega)];rfl
theorem ZJ{i:Nat}{m:E7}(hi:s.mounts[i]?=some m):CB s m.1=some m.2:=by
 have h1:CR s m.1=true:=QP (Aj hi);have hd:=(hv.mnt i m hi).dev1;unfold CR at h1;rw[decide_eq_false (by omega),Bool.or_false]at h1
 cases ho:CB s m.1 with
 |none=>rw[ho]at h1;cases h1
 |some on=>
   obtain⟨m',hm',e1,e2⟩:=QO ho;obtain⟨j,hj⟩:=List.getElem?_of_mem hm';have:=ZF hv hj hi e1;subst this;rw[hi]at hj;injection hj with hj;rw[<-e2,hj]
theorem oB{x:A8}{dev:Int}(hc:CH s x=some dev):∀(k:Nat) (y:A8),ends s k y->AU s.files y=true->y.1=dev->∃t r,BS s (Bh s.files) y=t++(dev,1)::x::r:=by
 intro k
 induction k with
 |zero=>intro y he h _;rw[show AU s.files y=false from he]at h;cases h
 |succ k ih=>
   intro y he h hy;obtain⟨i,hi⟩:=QR hc;by_cases h1:y.2=1
   ·have hs:E9 s y=some x:=by
       unfold E9;rw[if_neg (by simpa using h1),hy];exact ZJ hv hi
    obtain⟨t,ht⟩:=SF hv (QQ hv h hs);refine⟨[],t,?_⟩;rw[NJ hv h,hs];simp only[List.nil_append];rw[ht,<-hy,<-h1]
   have hs:E9 s y=some (y.1,(AY s.files y).parent):=if_pos h1;obtain⟨t,r,ht⟩:=ih _ (he.resolve_left (by rw[h];simp) _ hs) (QQ hv h hs) hy;refine⟨y::t,r,?_⟩;rw[NJ hv h,hs];simp only[List.cons_append];rw[ht]
def Kb(s:Spc)(L:List A8)(i:Nat):Bool:=match L[i]? with
 |none=>true
 |some x=>match CH s x with
   |none=>true
   |some dev=>decide (0<i)&&decide (L[i - 1]?=some (dev,1))
theorem ZK{a:A8}{i:Nat}{x:A8}(hi:(BS s (Bh s.files) a)[i]?=some x):Kb s (BS s (Bh s.files) a) i=V6 s a x:=by
 unfold Kb V6;simp only[hi]
 cases hc:CH s x with
 |none=>rfl
 |some dev=>
   simp only;rw[Bool.eq_iff_iff];simp only[Bool.and_eq_true,decide_eq_true_eq];constructor
   ·rintro⟨_,h2⟩;exact⟨_,Aj h2,rfl⟩
   rintro⟨y,hy,hyd⟩;obtain⟨t,r,ht⟩:=oB hv hc _ y (M5 hv y) (mV hv hy) hyd;obtain⟨p,hp⟩:=mU hv hy;have hL:BS s (Bh s.files) a=(p++t)++(dev,1)::x::r:=by rw[<-hp,ht,List.append_assoc]
   have hn:=Z1 hv _ a (M5 hv a)
   have hx:(BS s (Bh s.files) a)[(p++t).length+1]?=some x:=by
    rw[hL,Er (by omega)];simp
   have hx0:(BS s (Bh s.files) a)[(p++t).length]?=some (dev,1):=by
    rw[hL,Er (by omega)];simp
   have e:i=(p++t).length+1:=by
    obtain⟨h1,h2⟩:=AZ.1 hi;obtain⟨h3,h4⟩:=AZ.1 hx;exact(List.getElem_inj hn).1 (h2.trans h4.symm)
   subst e;exact⟨by omega,hx0⟩
theorem oC(a:A8):SG s a=((Bv s a).2&&(List.range (BS s (Bh s.files) a).length).all (Kb s (BS s (Bh s.files) a))):=by
 unfold SG
 congr 1
 rw[Bool.eq_iff_iff,List.all_eq_true,List.all_eq_true];constructor
 ·intro h i hi;have hl:=List.mem_range.1 hi;rw[ZK hv (B7 hl)];exact h _ (List.getElem_mem hl)
 intro h x hx;obtain⟨i,hi⟩:=List.getElem?_of_mem hx;rw[<-ZK hv hi];exact h i (List.mem_range.2 (AZ.1 hi).1)
end
section
open Go.RowKit
theorem oD(d m:AD):(EN d m).size<=d.size+1+m.size:=by
 unfold EN;split
 ·rw[ByteArray.size_append];omega
 rw[ByteArray.size_append,ByteArray.size_append];show d.size+1+m.size<=_;omega
theorem oE{s:Spc}(hv:SpcV s)(pre:List A8):(Lb s pre).size<=1+13 * pre.length:=by
 have key:∀(l:List AD) (d:AD),(∀x∈l,x.size<=12)->(l.foldl EN d).size<=d.size+13 * l.length:=by
  intro l
  induction l with
  |nil=>intro d _;simp
  |cons x l ih=>
    intro d h;have h1:=ih (EN d x) fun y hy=>h y (List.mem_cons_of_mem _ hy);have h2:=h x (List.mem_cons_self ..);have h3:=oD d x;rw[List.foldl_cons,List.length_cons];omega
 have h:=key (Di s pre).reverse ⟨#[47]⟩ (fun x hx=>by
  rw[List.mem_reverse]at hx;obtain⟨y,_,rfl⟩:=List.mem_map.1 hx
  exact V8 hv.files y)
 have h2:(Di s pre).length<=pre.length:=by unfold Di;rw[List.length_map];exact List.length_filter_le _ _
 rw[List.length_reverse]at h;have:(⟨#[47]⟩:AD).size=1:=rfl;unfold Lb;omega
theorem VF{s:Spc}(hv:SpcV s)(a:A8):(Bv s a).1.size<=1000:=by
 unfold Bv;split
 ·have h3:=ZD s (Bh s.files) a;have h4:=ZA hv.files;refine Nat.le_trans (oE hv _) ?_;refine Nat.le_trans (Nat.add_le_add_left (Nat.mul_le_mul_left 13 ((List.takeWhile_sublist _).length_le)) 1) ?_;omega
 exact BG _
theorem ZL(d:AD)(h:0<d.size):d.data.toList.getLast?=some 47↔(((d[d.size - 1]'(by omega)).toNat:Int)=47):=by
 have hl:d.data.toList.length=d.size:=by simp
 rw[List.getLast?_eq_getElem?,hl,B7 (by omega)];show some (d[d.size - 1]'(by omega))=some 47↔_;rw[Option.some.injEq];constructor
 ·intro e;rw[e];rfl
 intro e;refine UInt8.toNat_inj.1 ?_;show _=47;omega
theorem oF{d m:AD}(h:¬0<d.size):EN d m=d++⟨#[47]⟩++m:=by
 refine if_neg fun e=>?_;have hl:d.data.toList.length=d.size:=by simp
 rw[List.getLast?_eq_getElem?,List.getElem?_eq_none (by omega)]at e;cases e
section
theorem ZM(d m:AD)(hd:d.size<=1000000)(hm:m.size<=1000000):AFn prog 196 [.v (.string d), .v (.string m)] (fun r=>r= .v (.string (EN d m))):=by
 refine enter Tryz.func196 rfl rfl rfl rfl rfl 0 rfl ?_;refine GE (h:=Fx (h:=m_ (h:=?_)));refine AF true rfl rfl (fun kd ka=>?_) (fun kd ka=>?_)
 ·refine Cp (h:=n_ (h:=LQ (h:=?_)));refine Ak (MU (n:=d.size - 1) Tryz.underlying9 rfl rfl (by omega) (by omega) ?_);refine Df (h:=Bm (h:=e_ (?_)));refine A3 rfl (fun ke kc=>?_) (fun ke kc=>?_)
  ·refine Eh (h:=?_);refine A7 (Hl rfl rfl (by omega) ?_);refine FN (h:=?_);refine A4 ?_;rw[show EN d m=d++m from if_pos ((ZL d (by omega)).2 kc)];rfl
  refine Ei (h:=?_);refine A7 (Hl rfl rfl (by show d.size+1<=_;omega) ?_);refine m_ (h:=?_);refine A7 (Hl rfl rfl (by rw[ByteArray.size_append];show d.size+1+m.size<=_;omega) ?_);refine BW (h:=?_);refine A4 ?_;rw[show EN d m=d++⟨#[47]⟩++m from if_neg (fun h=>kc ((ZL d (by omega)).1 h))];rfl
 refine Jo (h:=GC (h:=Ei (h:=?_)));refine A7 (Hl rfl rfl (by show d.size+1<=_;omega) ?_);refine m_ (h:=?_);refine A7 (Hl rfl rfl (by rw[ByteArray.size_append];show d.size+1+m.size<=_;omega) ?_);refine BW (h:=?_);refine A4 ?_;rw[oF (by omega)];rfl
theorem oG(s:Spc)(a:A8)(hs:SpcB s):AFn prog 248 [.agg (Ap s.files), .agg (AB a)] (fun r=>r= .v (.string (Ce s a))):=by
 have hen:=Ph hs.files (a.1,(AY s.files a).parent);change (JN s a).entries.length<=1000 at hen;refine enter Tryz.func248 rfl rfl rfl rfl rfl 0 rfl ?_;refine Hw (h:=C9 (h:=?_));refine AK (G0 s.files a hs.files) ?_
 skip
 refine EU (h:=Ay (h:=Bw (h:=Je (h:=Bd (h:=?_)))));refine AK (G0 s.files (a.1,(AY s.files a).parent) hs.files) ?_
 skip
 refine EU (h:=Ay (h:=Cz (h:=?_)));refine BL (fun m t=>∃j:Nat,j<=(JN s a).entries.length/\m=(JN s a).entries.length - j/\(∀i y,i<j->(JN s a).entries[i]?=some y->decide (y.2=a.2)=false)/\t=⟨look [(3, .bp 1 0),(7, .bp 3 0),(9, .v (.int .i64 (j:Int)))],⟨[Ap s.files,AB a,Al (AY s.files a),Al (JN s a)],[]⟩⟩) ((JN s a).entries.length) ((wk 4 0)) (⟨0,by omega,rfl,fun i y hi=>by omega,rfl⟩) ?_;rintro m t ⟨j,hj,rfl,ha,rfl⟩;refine Hz (h:=?_);refine A3 rfl (fun kd ka=>?_) (fun kd ka=>?_)
 ·obtain⟨hlt,x,hy,ya, -⟩:=Bx D6 ka;refine AG (q_ (BF (q_ (E0 9 (h:=AA 0 (h:=A9 1 (h:=AE 2 (h:=E1 3 (h:=AA 4 (h:=A9 5 (h:=AA 6 (h:=A9 7 (h:=KS 8 (h:=z_ (h:=t_ (?_))))))))))))))));refine A3 rfl (fun ke kc=>?_) (fun ke kc=>?_)
  ·refine F8 (h:=i_ (h:=Ac (h:=BE (h:=C1 (h:=?_)))));refine A4 ?_;rw[show Ce s a=x.1 by simp only[Ce];rw[Lv hy (by simpa using kc) ha];rfl];rfl
  refine Dg (h:=?_);refine⟨_,_,?_,⟨j+1,by omega,rfl,GX hy ha (by simpa using kc),rfl⟩,(wk 4 0)⟩;omega
 have e3:=CA D6 hj ka;subst e3;refine Hv (h:=?_);refine A4 ?_;rw[show Ce s a=⟨#[]⟩ by simp only[Ce];rw[Lw ha];rfl];rfl
end
def Dy(s:AD):List AV:=[.v (.string s)]
theorem ZN{P:Program}{ev:Operand->Option AV}{h:AH}{R:AV->AH->Prop}{d:Option Tmp}{ty:TypeId}{pos:String}{af:Array Edge}{gd:Option (Nat×Bool)}{T:TypeId}{x lo hi:Operand}{s:ByteArray}{a k:Nat}{i j:Int}(hu:P.underlying T=some .string)
    (hx:ev x=some (.v (.string s))) (hl:ev lo=some (.v (.int .i64 i))) (hh:ev hi=some (.v (.int .i64 j))) (hi':i=(a:Int)) (hj:j=(k:Int)) (h1:a<=k) (h2:k<=s.size) (hR:R (.v (.string (s.extract a k))) h):AStep P ⟨d, .slice T x (some lo) (some hi) none,ty,pos,af,gd⟩ ev h R:=by
 refine De (fun _ G w ec _ he=>?_) hR;have k1:=he x (by simp[Op.operands]) _ hx;have k2:=he lo (by simp[Op.operands]) _ hl;have k3:=he hi (by simp[Op.operands]) _ hh;simp only[rep]at k1 k2 k3;subst hi' hj;refine⟨.string (s.extract a k),?_,by simp only[rep]⟩;simp[execOp,k1,k2,k3,Instr.sliceAt,Instr.slice,Instr.sliceBounds,Instr.sliceBound,asIntOf,run_underlying hu,h1,h2]
def EB(s:AD):Bool:=decide (s.data.toList.head?=some 47)
def BM(s:AD):Bool:=decide (s.data.toList.getLast?=some 47)
theorem oH{s:AD}(h:0<s.size):EB s=decide (((s[0]'h).toNat:Int)=47):=by
 unfold EB;rw[kJ s h,Bool.eq_iff_iff];simp
theorem oJ{s:AD}(h:0<s.size):BM s=decide (((s[s.size - 1]'(by omega)).toNat:Int)=47):=by
 unfold BM;rw[kK s h,Bool.eq_iff_iff];simp
theorem oK{s:AD}(h:¬0<s.size):EB s=false:=by
 have:s.data.toList=[]:=ER (by rw[<-Lib.size_eq];omega);unfold EB;rw[this];rfl
theorem oL{s:AD}(h:¬0<s.size):BM s=false:=by
 have:s.data.toList=[]:=ER (by rw[<-Lib.size_eq];omega);unfold BM;rw[this];rfl
theorem ZO{s:AD}{k:Nat}(h:k<s.size)(h47:((s[k]'h).toNat:Int)=47):s.data.toList[k]?=some 47:=by
 rw[Lib.data_getElem? s k h]
 congr 1
 refine UInt8.toNat_inj.1 ?_;show _=47;omega
theorem ZP{s:AD}{f k:Nat}{ps:List AD}(hI:GJ s.data.toList f k (Ch ps))(h:k=s.size\/s.data.toList[k]?=some 47):GJ s.data.toList (k+1) (k+1) (Ch ps++one_ ((s.data.toList.drop f).take (k - f))):=by
 rcases h with h|h
 ·rw[Lib.size_eq]at h;subst h;exact kA hI
 exact jZ hI h
theorem ZQ{s:AD}{f k:Nat}{ps:List AD}(hI:GJ s.data.toList f k (Ch ps))(hk:k<=s.size)(h:k=s.size\/s.data.toList[k]?=some 47)(hf:f<k):GJ s.data.toList (k+1) (k+1) (Ch (ps++[s.extract f k])):=kM (ZP hI h) (kF (kH s hf hk))
theorem ZR{s:AD}{f k:Nat}{ps:List AD}(hI:GJ s.data.toList f k (Ch ps))(h:k=s.size\/s.data.toList[k]?=some 47)(hf:¬f<k):GJ s.data.toList (k+1) (k+1) (Ch ps):=kO (ZP hI h) (by omega)
theorem oM{s:AD}{f k:Nat}{ps:List AD}(hI:GJ s.data.toList f k (Ch ps))(h:k<s.size)(h47:¬((s[k]'h).toNat:Int)=47):GJ s.data.toList f (k+1) (Ch ps):=jY hI (Lib.data_getElem? s k h) (fun e=>h47 (by rw[e];rfl))
theorem ZS(ps:List AD):ps.length<=(EL (Ch ps)).length:=by
 induction ps with
 |nil=>simp
 |cons p ps ih=>
   have:Ch (p::ps)=p.data.toList::Ch ps:=rfl;rw[this,L8];simp;omega
theorem VG{s:AD}{ps:List AD}(h:Ch ps=CJ s.data.toList){i:Nat}{x:AD}(hx:ps[i]?=some x):x.size<=s.size:=by
 rw[Lib.size_eq,Lib.size_eq s];refine kX ?_;rw[<-h];exact List.mem_map.2 ⟨x,Aj hx,rfl⟩
theorem oN{ps:List AD}{j:Nat}{x t:AD}(hx:ps[j]?=some x)(h:t.data.toList=EL ((Ch ps).take j)):(t++(⟨#[47]⟩++x)).data.toList=EL ((Ch ps).take (j+1)):=by
 have e:(Ch ps)[j]?=some x.data.toList:=by unfold Ch;rw[List.getElem?_map,hx];rfl
 rw[List.take_add_one,e,UV,<-h];simp[EL]
theorem QS{a b:AD}(h:a.data.toList=b.data.toList):a=b:=ByteArray.ext (Array.toList_inj.1 h)
theorem oO{s:AD}{ps:List AD}(h:Ch ps=CJ s.data.toList){i:Nat}{x:AD}(hx:ps[i]?=some x)(hn:FC x=false):FS s.data.toList=false:=by
 rw[<-UY];unfold Q1;rw[<-h];have:(Ch ps).all GH=false:=List.all_eq_false.2 ⟨x.data.toList,List.mem_map.2 ⟨x,Aj hx,rfl⟩,by rw[<-S7,hn];simp⟩;rw[this,Bool.false_and]
theorem oP{s t1:AD}{ps:List AD}(h:Ch ps=CJ s.data.toList)(ha:∀(i:Nat) (y:AD),i<ps.length->ps[i]?=some y->FC y=true)(ht:t1.data.toList=EL ((Ch ps).take ps.length))(h3:¬s=⟨#[47]⟩)(h0:0<ps.length):FS s.data.toList=decide (s=t1):=by
 have hl:(Ch ps).length=ps.length:=by simp[Ch]
 rw[List.take_of_length_le (by omega)]at ht;rw[<-UY];unfold Q1;rw[<-h,<-ht]
 have h1:(Ch ps).all GH=true:=List.all_eq_true.2 fun y hy=>by
  obtain⟨z,hz,rfl⟩:=List.mem_map.1 hy;obtain⟨i,hi⟩:=List.getElem?_of_mem hz;rw[<-S7];exact ha i z (AZ.1 hi).1 hi
 have h2:decide (s.data.toList=[47])=false:=decide_eq_false fun e=>h3 (QS e);have h4:Ch ps≠[]:=fun e=>by rw[e]at hl;simp at hl;omega
 rw[h1,h2,decide_eq_true h4];simp only[Bool.true_and,Bool.false_or];rw[Bool.eq_iff_iff,decide_eq_true_iff,decide_eq_true_iff];exact⟨fun e=>QS e,fun e=>by rw[e]⟩
theorem oQ{s:AD}{ps:List AD}(h:Ch ps=CJ s.data.toList)(h3:¬s=⟨#[47]⟩)(h0:ps.length=0):FS s.data.toList=false:=by
 have e:Ch ps=[]:=by rw[ER h0];rfl
 rw[<-UY];unfold Q1;rw[<-h,e];have h2:decide (s.data.toList=[47])=false:=decide_eq_false fun e=>h3 (QS e);rw[h2];simp
section
theorem VH(s:AD)(hs:s.size<=100000):AFn prog 191 [.v (.string s)] (fun r=>∃ps:List AD,Ch ps=CJ s.data.toList/\r= .tup [.sl 1 (ps.map Dy) none, .v (.bool (EB s)), .v (.bool (BM s))]):=by
 have hsz:=Lib.size_eq s;refine enter Tryz.func191 rfl rfl rfl rfl rfl 0 rfl ?_;refine w_ (a_ (h:=a_ (h:=Ay (h:=DZ (h:=DZ (h:=Cz (h:=?_)))))));refine NZ 5 9 1 rfl (by repeat constructor) ?_;refine BL (fun m t=>∃(f k:Nat) (ps:List AD),k<=s.size+1/\f<=k/\ps.length<=k/\m=s.size+1 - k/\GJ s.data.toList f k (Ch ps)/\t=⟨look [(0, .v (.string s)),(5, .sl 1 (ps.map Dy) (some 0)),(6, .v (.int .i64 (f:Int))),(7, .v (.int .i64 (k:Int)))],⟨[],[(9,1,ps.map Dy)]⟩⟩) (s.size+1) ((wk 0 1)) (⟨0,0,[],by omega,by omega,by simp,rfl,kC _,rfl⟩) ?_;rintro m t ⟨f,k,ps,hk,hfk,hpl,rfl,hI,rfl⟩;refine EH (h:=n_ (h:=Hq (h:=e_ (?_))));refine A3 rfl (fun kd ka=>?_) (fun kd ka=>?_)
 ·refine Bq (h:=Eh (h:=n_ (h:=Dv (h:=?_))));refine AF false rfl rfl (fun ke kc=>?_) (fun ke kc=>?_)
  ·refine CO (h:=L3 (h:=EH (h:=ET (h:=e_ (?_)))));refine A3 rfl (fun kh kf=>?_) (fun kh kf=>?_)
   ·have hnx:=ZQ hI (by omega) (.inl (by omega)) (by omega);refine BU (h:=Cp (h:=m_ (h:=?_)));refine A7 (ZN (a:=f) (k:=k) Tryz.underlying9 rfl rfl rfl rfl rfl (by omega) (by omega) ?_);refine BT (h:=?_);refine A7 (G7 rfl rfl rfl (by simp;omega) (by repeat constructor) ?_);refine Ay (h:=Nj (h:=FO (h:=?_)));refine⟨_,_,?_,⟨_,k+1,_,by omega,by omega,(by(try simp only[List.length_append,List.length_cons,List.length_nil]);omega),rfl,hnx,rfl⟩,(by(try simp only[List.map_append,List.map_cons,List.map_nil]);exact At 0 1 rfl rfl rfl rfl ((by repeat (first|exact Sub.nil|refine Aw rfl rfl ?_|refine B3 ?_|refine B4 rfl ?_|refine B5 rfl ?_))))⟩;omega
   have hnx:=ZR hI (.inl (by omega)) (by omega);refine AG (Nj (h:=FO (h:=?_)));refine⟨_,_,?_,⟨_,k+1,_,by omega,by omega,(by(try simp only[List.length_append,List.length_cons,List.length_nil]);omega),rfl,hnx,rfl⟩,(by(try simp only[List.map_append,List.map_cons,List.map_nil]);exact At 0 1 rfl rfl rfl rfl ((by repeat (first|exact Sub.nil|refine Aw rfl rfl ?_|refine B3 ?_|refine B4 rfl ?_|refine B5 rfl ?_))))⟩;omega
  refine Cp (h:=?_);refine Ak (MU (n:=k) Tryz.underlying9 rfl rfl rfl (by omega) ?_);refine Df (h:=Cq (h:=?_));refine A3 rfl (fun kl kg=>?_) (fun kl kg=>?_)
  ·refine EH (h:=ET (h:=e_ (?_)));refine A3 rfl (fun ko kk=>?_) (fun ko kk=>?_)
   ·have hnx:=ZQ hI (by omega) (.inr (ZO (by omega) kg)) (by omega);refine BU (h:=Cp (h:=m_ (h:=?_)));refine A7 (ZN (a:=f) (k:=k) Tryz.underlying9 rfl rfl rfl rfl rfl (by omega) (by omega) ?_);refine BT (h:=?_);refine A7 (G7 rfl rfl rfl (by simp;omega) (by repeat constructor) ?_);refine Ay (h:=Nj (h:=FO (h:=?_)));refine⟨_,_,?_,⟨_,k+1,_,by omega,by omega,(by(try simp only[List.length_append,List.length_cons,List.length_nil]);omega),rfl,hnx,rfl⟩,(by(try simp only[List.map_append,List.map_cons,List.map_nil]);exact At 0 1 rfl rfl rfl rfl ((by repeat (first|exact Sub.nil|refine Aw rfl rfl ?_|refine B3 ?_|refine B4 rfl ?_|refine B5 rfl ?_))))⟩;omega
   have hnx:=ZR hI (.inr (ZO (by omega) kg)) (by omega);refine AG (Nj (h:=FO (h:=?_)));refine⟨_,_,?_,⟨_,k+1,_,by omega,by omega,(by(try simp only[List.length_append,List.length_cons,List.length_nil]);omega),rfl,hnx,rfl⟩,(by(try simp only[List.map_append,List.map_cons,List.map_nil]);exact At 0 1 rfl rfl rfl rfl ((by repeat (first|exact Sub.nil|refine Aw rfl rfl ?_|refine B3 ?_|refine B4 rfl ?_|refine B5 rfl ?_))))⟩;omega
  have hnx:=oM hI (by omega) kg;refine Dg (h:=?_);refine⟨_,_,?_,⟨_,k+1,_,by omega,by omega,(by(try simp only[List.length_append,List.length_cons,List.length_nil]);omega),rfl,hnx,rfl⟩,(by(try simp only[List.map_append,List.map_cons,List.map_nil]);exact At 0 1 rfl rfl rfl rfl ((by repeat (first|exact Sub.nil|refine Aw rfl rfl ?_|refine B3 ?_|refine B4 rfl ?_|refine B5 rfl ?_))))⟩;omega
 refine Ll (H5 (H5 (Ku (t_ (q_ (E0 23 (h:=AE 0 (h:=AE 1 (h:=N1 2 (h:=Tk 3 (h:=AE 4 (h:=?_))))))))))));refine MJ (j:=4) rfl (fun kq=>?_) (fun kq=>?_)
 ·have km:=bp kq;refine AE 5 (h:=?_);refine Hm (i:=6) rfl (MU (n:=0) Tryz.underlying9 rfl rfl rfl (by omega) ⟨rfl,rfl⟩) ?_;refine KS 7 (h:=Ls 8 (h:=AE 9 (h:=N1 10 (h:=Tk 11 (h:=AE 12 (h:=?_))))));refine MJ (j:=12) rfl (fun ks=>?_) (fun ks=>?_)
  ·have kp:=bp ks;refine AE 13 (h:=AE 14 (h:=N1 15 (h:=Tj 16 (h:=?_))));refine Hm (i:=17) rfl (MU (n:=s.size - 1) Tryz.underlying9 rfl rfl (by omega) (by omega) ⟨rfl,rfl⟩) ?_;refine KS 18 (h:=Ls 19 (h:=B8 20 (h:=B8 21 (h:=B8 22 (h:=z_ (h:=t_ (BH (?_))))))));refine A4 ?_;refine⟨ps,S6 hI (by omega),?_⟩
   (rw[oH (by omega),oJ (by omega)];rfl)
  have kp:=bp ks;refine BX 13 (h:=BX 14 (h:=BX 15 (h:=BX 16 (h:=BX 17 (h:=BX 18 (h:=L0 19 (h:=B8 20 (h:=B8 21 (h:=B8 22 (h:=z_ (h:=t_ (BH (?_)))))))))))));refine A4 ?_;refine⟨ps,S6 hI (by omega),?_⟩;exfalso;omega
 have km:=bp kq;refine BX 5 (h:=BX 6 (h:=BX 7 (h:=L0 8 (h:=AE 9 (h:=N1 10 (h:=Tk 11 (h:=AE 12 (h:=?_))))))));refine MJ (j:=12) rfl (fun kt=>?_) (fun kt=>?_)
 ·have kr:=bp kt;refine AE 13 (h:=AE 14 (h:=N1 15 (h:=Tj 16 (h:=?_))));refine Hm (i:=17) rfl (MU (n:=s.size - 1) Tryz.underlying9 rfl rfl (by omega) (by omega) ⟨rfl,rfl⟩) ?_;refine KS 18 (h:=Ls 19 (h:=B8 20 (h:=B8 21 (h:=B8 22 (h:=z_ (h:=t_ (BH (?_))))))));refine A4 ?_;refine⟨ps,S6 hI (by omega),?_⟩;exfalso;omega
 have kr:=bp kt;refine BX 13 (h:=BX 14 (h:=BX 15 (h:=BX 16 (h:=BX 17 (h:=BX 18 (h:=L0 19 (h:=B8 20 (h:=B8 21 (h:=B8 22 (h:=z_ (h:=t_ (BH (?_)))))))))))));refine A4 ?_;refine⟨ps,S6 hI (by omega),?_⟩;rw[oK (by omega),oL (by omega)];rfl
theorem SJ(s:AD)(hs:s.size<=50000):AFn prog 156 [.v (.string s)] (fun r=>r= .v (.bool (FS s.data.toList))):=by
 have hsz:=Lib.size_eq s;refine enter Tryz.func156 rfl rfl rfl rfl rfl 0 rfl ?_;refine FB (h:=?_);refine A7 (AX (VH s (by omega)) ?_);rintro r ⟨ps,hps,rfl⟩;have hpl:(ps.map Dy).length=ps.length:=by simp
 have hfl:=Ua s.data.toList;rw[<-hps]at hfl;have hpm:=ZS ps;refine Ft (h:=x_ (h:=a_ (h:=a_ (h:=Ay (h:=DZ (h:=Cz (h:=?_)))))));refine BL (fun m t=>∃(j:Nat) (t1:AD),j<=ps.length/\m=ps.length - j/\(∀i y,i<j->ps[i]?=some y->FC y=true)/\t1.data.toList=EL ((Ch ps).take j)/\t=⟨look [(0, .v (.string s)),(3, .sl 1 (ps.map Dy) none),(6, .v (.string t1)),(7, .v (.int .i64 (j:Int)))],⟨[],[]⟩⟩) (ps.length) ((wk 0 0)) (⟨0,⟨#[]⟩,by omega,rfl,fun i y hi=>by omega,rfl,rfl⟩) ?_;rintro m t ⟨j,t1,hj,rfl,ha,ht1,rfl⟩;refine EH (h:=JD (h:=?_));refine A3 rfl (fun kd ka=>?_) (fun kd ka=>?_)
 ·obtain⟨hlt,x,hy,ya, -⟩:=Bx Dy ka;have ht2:t1.size<=s.size+1:=by rw[Lib.size_eq,ht1];exact Nat.le_trans (kV _ _) (by omega)
  refine Bq (h:=EH (h:=?_));refine A7 (DM (n:=j) rfl rfl rfl ya ?_);refine l_ (h:=?_);refine AK (Tq x (by have:=VG hps hy;omega)) ?_;refine CY (h:=?_);refine A3 rfl (fun ke kc=>?_) (fun ke kc=>?_)
  ·refine BC (h:=DG (h:=C1 (h:=?_)));refine A4 ?_;exact vb (oO hps hy kc).symm
  refine AG (BU (h:=Cp (h:=?_)));refine A7 (DM (n:=j) rfl rfl rfl ya ?_);refine l_ (h:=?_);refine A7 (Hl rfl rfl (by have:=VG hps hy;show 1+x.size<=_;omega) ?_);refine A7 (Hl rfl rfl (by have:=VG hps hy;rw[ByteArray.size_append];show t1.size+(1+x.size)<=_;omega) ?_);refine Ht (h:=FO (h:=?_));refine⟨_,_,?_,⟨j+1,t1++(⟨#[47]⟩++x),by omega,rfl,GX hy ha kc,oN hy ht1,rfl⟩,(wk 0 0)⟩;omega
 refine C4 (h:=Ab (h:=Dv (h:=?_)));refine AF false rfl rfl (fun kh kf=>?_) (fun kh kf=>?_)
 ·refine Jr (h:=Eg (h:=?_));refine A4 ?_;exact vb (by rw[kf];rfl)
 refine m_ (h:=Fx (h:=m_ (h:=?_)));refine AF true rfl rfl (fun kl kg=>?_) (fun kl kg=>?_)
 ·refine Cp (h:=Df (h:=Bm (h:=H9 (h:=?_))));refine A4 ?_;have e:=CA Dy hj ka;subst e;exact vb (oP hps ha ht1 kf (by omega)).symm
 refine DE (h:=H9 (h:=?_));refine A4 ?_;have e:=CA Dy hj ka;subst e;exact vb (oQ hps kf (by omega)).symm
end
end
end Go.Proofs.YtbgnigjfkbmceaaGreatDoor
