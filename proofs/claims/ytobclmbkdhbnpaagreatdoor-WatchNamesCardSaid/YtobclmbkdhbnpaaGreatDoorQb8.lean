/-
  Part 8 of the proof of WatchNamesP: what the statement's proof uses of the texts in wip/tpl.
-/
import Derived.Test.YtobclmbkdhbnpaaGreatDoorQb7
open Go.Proofs.Tryz (prog)
set_option maxRecDepth 10000
set_option maxHeartbeats 4000000
set_option linter.unusedVariables false
set_option linter.unusedSimpArgs false
namespace Go.Proofs.YtobclmbkdhbnpaaGreatDoor
open Go.RowKit
theorem Oh{f:AR}{a:A6}{q i:Nat}{d:Dvc}{n:Nod}(ha:a.1=(q:Int))(hq:f[q]?=some d)(hd:DQ d.nodes)(hn:d.nodes[i]?=some n)(hi:n.ino=a.2):ER f a=(i:Int):=by
 rw[Ns ha hq];refine Qf hn (by simpa using hi) fun j y hj hy=>?_;obtain⟨l1,e1⟩:=Ag.1 hn;obtain⟨l2,e2⟩:=Ag.1 hy;have hp:=List.pairwise_iff_getElem.1 hd j i l2 l1 hj;rw[e1,e2]at hp;have:y.ino≠a.2:=by omega
 simpa using this
theorem Rw(f:AR)(q:Nat)(d':Dvc)(n:Nod)(i:Nat)(a:A6)(name:AB)(ino:Int)(cap cap1:Nat)(hf:FlsB (f.set q d'))(hq:q<f.length)(ha:a.1=(q:Int))(hi:ER (f.set q d') a=(i:Int))(hn:d'.nodes[i]?=some n)(hcap:f.length≤cap)(hcap1:d'.nodes.length≤cap1):
    ACall prog 37 [.agg [.bs 0 0 2 f.length cap], .agg (A7 a), .v (.string name), .v (.int .i64 ino)] [DB f q d' 1 cap cap1,NB d'.nodes cap1] (fun r b t=>t=[]∧r= .tup []∧b=[DB f q d' 1 cap cap1,NB (entS d'.nodes i n name ino) cap1]):=by
 have key:=MP (f.set q d') q d' n i a name ino cap cap1 hf (by simp[hq]) ha hi hn (by simpa using hcap) hcap1;rw[List.length_set,OO]at key;exact key
def Rx(f:AR)(a:A6)(mode uid gid:Int):AR×Int:=
 if Cd f a=false then([],2)else if ES (Rk mode uid gid (AU f a))=false then([],22)else(GC f a.1.toNat fun ns=>Ck ns a.2 (Rk mode uid gid),0)
theorem X8{n:Nod}(h:ES n=true):n.target.size≤128:=by
 unfold ES at h;split at h
 ·cases h
 split at h
 ·simp[Hy]at h;omega
 have h2:=List.isEmpty_iff.1 h;rw[ByteArray.toList_eq]at h2;have:n.target.data.size=0:=by rw[←Array.length_toList,h2];rfl
 show n.target.data.size≤128;omega
theorem MZ{f:AR}(hv:FlsV f)(a:A6):(AU f a).target.size≤128:=by
 rcases H5 f a with⟨-,h⟩|⟨k,i,d,n, -,h1,h2, -, -,h⟩
 ·simp only[AU,h,Option.getD_none];exact BC _
 simp only[AU,h,Option.getD_some];exact X8 ((hv.vd d (Au h1)).plain n (Au h2))
def DU(f:AR)(dir:A6)(name:AB)(n:Nod):Df:=
 if C9 f dir name≠0 then([],[],C9 f dir name)else if ES n=false then([],[],22)else if(AK f dir name).2=0 then([],[],17)else
 match En f dir.1 with
 |none=>([],[],2)
 |some d=>if 16≤d.nodes.length∨d.next=1073741824∨GW f dir=true then([],[],28)else(f.set dir.1.toNat ⟨d.next+1,BN d.nodes dir.2 name d.next++[E0 n d.next dir.2]⟩,[(dir,name,(0,0),(dir.1,d.next))],0)
theorem Ry{f:AR}{q:Nat}{d:Dvc}{j j' cap cap1 c:Nat}(m:Nod)(hq:q<f.length):SetAt (DB f q d j cap cap1) (0+q * 2+1) [.bs j' 0 8 (d.nodes.length+1) c] (DB f q {d with nodes:=d.nodes++[m]} j' cap c):=by
 have h:=ON (d:=d) (d':={d with nodes:=d.nodes++[m]}) (j:=j) (j':=j') (cap:=cap) (cap1:=cap1) (cap1':=c) (k:=1) (cs:=[.bs j' 0 8 (d.nodes++[m]).length c]) hq (by repeat constructor) (by simp)
 rwa [List.length_append]at h
section
theorem Rz(f:AR)(dir:A6)(name:AB)(n:Nod)(hv:FlsV f)(hs:name.size≤100000)(hns:n.target.size≤100000):AFn prog 18 [.agg (Am f), .agg (A7 dir), .v (.string name), .agg (AW n)] (fun r=>r=CH (DU f dir name n)):=by
 have hf:=hv.b;obtain⟨e0,he0⟩:∃e0:Int,e0=if C9 f dir name≠0 then C9 f dir name else if ES n=false then 22 else 0:=⟨_,rfl⟩
 refine enter Tryz.func18 rfl rfl rfl rfl rfl 0 rfl ?_;refine w_ (b_ (h:=b_ (h:=b_ (h:=Ak (h:=a_ (h:=a_ (h:=e_ (w_ (l_ (h:=l_ (h:=m_ (h:=?_))))))))))));refine A8 rfl (AN (Kj f dir name hf hs) ?_);rintro r rfl;refine a_ (h:=e_ (?_));refine BR (fun t=>t=⟨look [(2, .v (.string name)),(4, .bp 0 0),(5, .bp 1 0),(7, .bp 2 0),(8, .bp 3 0),(9, .v (.slice none 0 0)),(10, .v (.int .i64 0)),(11, .v (.int .i64 e0))],⟨[Am f,A7 dir,AW n,[.v (.slice none 0 0)]],[]⟩⟩) ?_ ?_
 ·skip
  refine w_ (m_ (h:=Ah (h:=m_ (h:=?_))));refine Aw true rfl rfl (fun hb1=>?_) (fun hb1=>?_)
  ·have hc1:=bp hb1;refine l_ (h:=?_);refine Ax (AN (VP n hns) ?_);rintro r rfl;refine Bt (h:=AY (h:=e_ (?_)));refine AA rfl (fun hb2=>?_) (fun hb2=>?_)
   ·have hc2:=bp hb2;have hee:e0=22:=by rw[he0,if_neg (by omega),if_pos hc2]
    refine AX (a_ (h:=AT (?_)));refine AG ?_;refine⟨_,rfl,?_⟩;rw[hee];exact(wk 4 0)
   have hc2:=bp hb2;have hee:e0=C9 f dir name:=by rw[he0,if_neg (by omega),if_neg (by simp[hc2]),hc1]
   refine BH (?_);refine AG ?_;refine⟨_,rfl,?_⟩;rw[hee];exact(wk 4 0)
  have hc1:=bp hb1;have hee:e0=C9 f dir name:=by rw[he0,if_pos hc1]
  refine A3 (h:=A3 (h:=A3 (h:=Aj (h:=e_ (F6 (h:=BH (?_)))))));refine AG ?_;refine⟨_,rfl,?_⟩;rw[hee];exact(wk 4 0)
 rintro t rfl;refine q_ (w_ (m_ (h:=Bf (h:=e_ (?_)))));refine AA rfl (fun hb3=>?_) (fun hb3=>?_)
 ·have hc3:=bp hb3;refine w_ (Aa (h:=m_ (h:=s_ (h:=a_ (h:=a_ (h:=e_ (A4 (A9 (?_)))))))));refine BS (r:=CH (DU f dir name n)) none (h5:=?_) (h6:=⟨rfl,rfl,rfl⟩)
  rw[show DU f dir name n=([],[],e0) by
   unfold DU;by_cases h:C9 f dir name=0
   ·rw[if_neg (by omega)]at he0 ⊢;by_cases h2:ES n=false
    ·rw[if_pos h2]at he0 ⊢;rw[he0]
    rw[if_neg h2]at he0;omega
   rw[if_pos h]at he0 ⊢;rw[he0]]
  exact DR _
 have hc3:=bp hb3
 have hpl:C9 f dir name=0:=by
  by_cases h:C9 f dir name=0
  ·exact h
  rw[if_pos h]at he0;omega
 have hpn:¬ES n=false:=by
  intro h;rw[if_neg (by omega),if_pos h]at he0;omega
 refine AO (q_ (w_ (l_ (h:=l_ (h:=m_ (h:=?_))))));refine A8 rfl (AN (H7 f dir name hf) ?_);rintro r rfl;refine m_ (h:=x_ (h:=x_ (h:=Ak (h:=s_ (h:=a_ (h:=e_ (w_ (m_ (h:=Ah (h:=e_ (?_)))))))))));refine AA rfl (fun hb4=>?_) (fun hb4=>?_)
 ·have hc4:=bp hb4;refine w_ (Aa (h:=s_ (h:=a_ (h:=a_ (h:=e_ (A4 (A9 (?_))))))));refine BS (r:=CH (DU f dir name n)) none (h5:=?_) (h6:=⟨rfl,rfl,rfl⟩);rw[DU,if_neg (by omega),if_neg hpn,if_pos (by omega)];exact DR _
 have hc4:=bp hb4;obtain⟨q,i,d,n0,hdq,hq,hn0,hino,hidx,hnode,hk0,hnm⟩:=GD (name:=name) (dir:=dir) (f:=f) hpl;have hil:=(Ag.1 hn0).1;have hql:=(Ag.1 hq).1;have hvd:=hv.vd d (Au hq);have hatI:En f dir.1=some d:=by rw[hdq,Hw,hq]
 have hrow:(f.map Bp)[q]?=some (Bp d):=by rw[List.getElem?_map,hq];rfl
 have hnx1:=hvd.next2;have hnx2:=hvd.nextM;have hdl:=hvd.len;refine AO (w_ (f_ (h:=l_ (h:=f_ (h:=l_ (h:=?_))))));refine A8 rfl (DZ (n:=q) rfl rfl hdq hrow ?_);refine l_ (h:=Ak (h:=s_ (h:=e_ (q_ (w_ (f_ (h:=l_ (h:=n_ (h:=Fz (h:=m_ (h:=?_)))))))))));refine Aw false rfl rfl (fun hb5=>?_) (fun hb5=>?_)
 ·have hc5:=bp hb5;refine A3 (h:=A3 (h:=A3 (h:=AY (h:=m_ (h:=A3 (h:=A3 (h:=A3 (h:=AY (h:=e_ (CD (h:=w_ (Aa (h:=s_ (h:=a_ (h:=a_ (h:=e_ (A4 (A9 (?_)))))))))))))))))));refine BS (r:=CH (DU f dir name n)) none (h5:=?_) (h6:=⟨rfl,rfl,rfl⟩);rw[DU,if_neg (by omega),if_neg hpn,if_neg (by omega),hatI];simp only;rw[if_pos (by first|exact .inl (by simp at *;omega)|exact .inr (.inl (by omega))|exact .inr (.inr (by assumption)))];exact DR _
 have hc5:=bp hb5;refine f_ (h:=l_ (h:=Ah (h:=Aj (h:=m_ (h:=?_)))));refine Aw false rfl rfl (fun hb6=>?_) (fun hb6=>?_)
 ·have hc6:=bp hb6;refine A3 (h:=A3 (h:=A3 (h:=AY (h:=e_ (CD (h:=w_ (Aa (h:=s_ (h:=a_ (h:=a_ (h:=e_ (A4 (A9 (?_))))))))))))));refine BS (r:=CH (DU f dir name n)) none (h5:=?_) (h6:=⟨rfl,rfl,rfl⟩);rw[DU,if_neg (by omega),if_neg hpn,if_neg (by omega),hatI];simp only;rw[if_pos (by first|exact .inl (by simp at *;omega)|exact .inr (.inl (by omega))|exact .inr (.inr (by assumption)))];exact DR _
 have hc6:=bp hb6;refine l_ (h:=l_ (h:=?_));refine Ax (AN (Nt f dir hf) ?_);rintro r rfl;refine Aj (h:=e_ (?_));refine AA rfl (fun hb7=>?_) (fun hb7=>?_)
 ·have hc7:=bp hb7;refine w_ (Aa (h:=s_ (h:=a_ (h:=a_ (h:=e_ (A4 (A9 (?_))))))));refine BS (r:=CH (DU f dir name n)) none (h5:=?_) (h6:=⟨rfl,rfl,rfl⟩);rw[DU,if_neg (by omega),if_neg hpn,if_neg (by omega),hatI];simp only;rw[if_pos (by first|exact .inl (by simp at *;omega)|exact .inr (.inl (by omega))|exact .inr (.inr (by assumption)))];exact DR _
 have hc7:=bp hb7;refine AO (w_ (l_ (h:=?_)));refine A8 rfl (DN [] rfl (.cons _ _ _ _ _ rfl (AM _) .nil) (by decide) .nil (MK f q d hf hq (by omega)) ?_);rintro r bc tc ⟨rfl,cap,cap1,hcap,hcap1,rfl,rfl⟩;refine⟨rfl,_,(MV (n:=6) rfl f q d d.nodes cap cap1:Back _ [] _ [_,_,_,_,_,_,_,_]),?_⟩;have hD0:(DB f q d 7 cap cap1)[0+q * 2+1]?=some (.bs 7 0 8 d.nodes.length cap1):=Ge hql;obtain⟨mk,hmk⟩:∃mk,mk=E0 n d.next dir.2:=⟨_,rfl⟩;refine Ak (h:=s_ (h:=e_ (w_ (f_ (h:=l_ (h:=f_ (h:=l_ (h:=f_ (h:=l_ (h:=f_ (h:=l_ (h:=f_ (h:=l_ (h:=f_ (h:=l_ (h:=?_))))))))))))))));refine A8 rfl (Em (y:= .agg (AW ⟨d.next,n.kind,n.mode,n.uid,n.gid,0,n.target,[]⟩)) (D8 ⟨rfl,rfl⟩) ?_);refine Ak (h:=s_ (h:=e_ (?_)));refine BR (fun t=>t=⟨look [(2, .v (.string name)),(5, .bp 1 0),(8, .bp 3 0),(15, .bp 8 0),(16, .bp 9 0)],⟨[Am f,A7 dir,AW n,[.v (.slice none 0 0)],A7 (AK f dir name).1,Bp d,DB f q d 7 cap cap1,NB d.nodes cap1,[.bs 6 0 2 f.length cap],AW mk],[]⟩⟩) ?_ ?_
 ·skip
  refine w_ (f_ (h:=l_ (h:=Ah (h:=e_ (?_)))));refine AA rfl (fun hb8=>?_) (fun hb8=>?_)
  ·have hc8:=bp hb8;have hmk2:mk=⟨d.next,n.kind,n.mode,n.uid,n.gid,dir.2,n.target,[]⟩:=by rw[hmk];unfold E0;rw[if_pos hc8]
   refine AX (f_ (h:=l_ (h:=f_ (h:=s_ (h:=AT (?_))))));refine AG ?_;refine⟨_,rfl,?_⟩;rw[hmk2];exact BT 10 0 (by simp[Ai,Ac,Af,Bg,Bh,A7,AW,Am,Bp])
  have hc8:=bp hb8;have hmk2:mk=⟨d.next,n.kind,n.mode,n.uid,n.gid,0,n.target,[]⟩:=by rw[hmk];unfold E0;rw[if_neg hc8]
  refine BH (?_);refine AG ?_;refine⟨_,rfl,?_⟩;rw[hmk2];exact BT 10 0 (by simp[Ai,Ac,Af,Bg,Bh,A7,AW,Am,Bp])
 rintro t rfl;refine BR (fun t=>∃capx,(d.nodes++[mk]).length≤capx∧t=⟨look [(2, .v (.string name)),(5, .bp 1 0),(8, .bp 3 0),(15, .bp 8 0),(16, .bp 9 0)],⟨[Am f,A7 dir,AW n,[.v (.slice none 0 0)],A7 (AK f dir name).1,Bp d,DB f q {d with nodes:=d.nodes++[mk]} 7 cap capx,NB (d.nodes++[mk]) capx,[.bs 6 0 2 f.length cap],AW mk],[]⟩⟩) ?_ ?_
 ·skip
  refine Bo ([(0,Am f),(1,A7 dir),(2,AW n),(3,[.v (.slice none 0 0)]),(4,A7 (AK f dir name).1),(5,Bp d),(6,DB f q d 7 cap cap1),(8,[.bs 6 0 2 f.length cap]),(9,AW mk)]) 16 (h:=?_);refine DT 0 rfl (fun h0 hS=>EF rfl ⟨rfl,rfl⟩) ?_
  first|refine DT 1 rfl (fun h0 hS=>Bd (row:=DB f q d 7 cap cap1) rfl (kb hS rfl) hD0 ⟨rfl,rfl⟩) ?_|refine DT 1 rfl (fun h0 hS=>Bd rfl (kb hS rfl) rfl ⟨rfl,rfl⟩) ?_
  refine DT 2 rfl (fun h0 hS=>EF rfl ⟨rfl,rfl⟩) ?_
  first|refine DT 3 rfl (fun h0 hS=>Bd (row:=DB f q d 7 cap cap1) rfl (kb hS rfl) hD0 ⟨rfl,rfl⟩) ?_|refine DT 3 rfl (fun h0 hS=>Bd rfl (kb hS rfl) rfl ⟨rfl,rfl⟩) ?_
  refine DT 4 rfl (fun h0 hS=>EF rfl ⟨rfl,rfl⟩) ?_
  first|refine DT 5 rfl (fun h0 hS=>Bd (row:=DB f q d 7 cap cap1) rfl (kb hS rfl) hD0 ⟨rfl,rfl⟩) ?_|refine DT 5 rfl (fun h0 hS=>Bd rfl (kb hS rfl) rfl ⟨rfl,rfl⟩) ?_
  refine DT 6 rfl (fun h0 hS=>EF rfl ⟨rfl,rfl⟩) ?_
  first|refine DT 7 rfl (fun h0 hS=>Bd (row:=DB f q d 7 cap cap1) rfl (kb hS rfl) hD0 ⟨rfl,rfl⟩) ?_|refine DT 7 rfl (fun h0 hS=>Bd rfl (kb hS rfl) rfl ⟨rfl,rfl⟩) ?_
  refine DT 8 rfl (fun h0 hS=>D6 (m:=q) rfl rfl hdq hql ⟨rfl,rfl⟩) ?_;refine DT 9 rfl (fun h0 hS=>EF rfl ⟨rfl,rfl⟩) ?_
  first|refine DT 10 rfl (fun h0 hS=>Bd (row:=DB f q d 7 cap cap1) rfl (kb hS rfl) hD0 ⟨rfl,rfl⟩) ?_|refine DT 10 rfl (fun h0 hS=>Bd rfl (kb hS rfl) rfl ⟨rfl,rfl⟩) ?_
  first|refine DT 11 rfl (fun h0 hS=>Bd (row:=DB f q d 7 cap cap1) rfl (kb hS rfl) hD0 ⟨rfl,rfl⟩) ?_|refine DT 11 rfl (fun h0 hS=>Eg rfl (kb hS rfl) rfl ⟨rfl,rfl⟩) ?_
  refine DT 12 rfl (fun h0 hS=>KR (by repeat (first|exact DenseA.nil _|(apply DenseA.cons;(focus exact rfl);(focus exact rfl);(focus exact rfl);(focus exact rfl))|(apply DenseA.consE;(focus exact rfl);(focus exact rfl);(focus exact rfl)))) rfl rfl rfl rfl ⟨rfl,rfl⟩) ?_;refine c_ 13 rfl (Ka rfl rfl rfl (by rw[Ky hcap1];omega) Ha (by omega) (by omega) ?_ ?_)
  ·rintro hg row2 bx2 hs hb;obtain rfl:=RX hs hg;obtain rfl:bx2=[_,_,_,_,_,_,_,_,_,_]:=hb.one.2;have hgx:(d.nodes++[mk]).length≤cap1:=by simpa using hg
   refine o_ (h:=?_);refine DT 14 rfl (fun h0 hS=>D6 (m:=q) rfl rfl hdq hql ⟨rfl,rfl⟩) ?_;refine DT 15 rfl (fun h0 hS=>EF rfl ⟨rfl,rfl⟩) ?_;refine BA 16 rfl (B1 rfl rfl rfl rfl rfl rfl (Ry mk hql) (by repeat constructor) ?_);refine o_ (h:=z_ (h:=?_));refine AG ?_
   first|exact⟨_,⟨_,hgx,rfl⟩,E7 [0,1,2,3,4,5,6,10,8,9] (fun i hi=>absurd hi (Nat.not_lt_zero i)) (by decide) (.cons _ _ _ _ _ rfl rfl (.cons _ _ _ _ _ rfl rfl (.cons _ _ _ _ _ rfl rfl (.cons _ _ _ _ _ rfl rfl (.cons _ _ _ _ _ rfl rfl (.cons _ _ _ _ _ rfl rfl (.cons _ _ _ _ _ rfl (HQ (by rfl) _ _ _ _ _) (.cons _ _ _ _ _ rfl (Fe _ _ _) (.cons _ _ _ _ _ rfl rfl (.cons _ _ _ _ _ rfl rfl .nil)))))))))) (by repeat (first|exact SubK.nil|refine SubK.cons _ _ _ _ rfl (AM _) ?_))⟩|exact⟨_,⟨_,hgx,rfl⟩,BT 10 0 (by simp[Ai,Ac,Af,Bg,Bh,A7,AW,Am,Bp])⟩
  rintro hg cap3 k bx2 hcp3 hs;rw[show((NB d.nodes cap1).drop 0).take (d.nodes.length * 8)++CC (.agg (AW mk))++List.replicate ((cap3 - (d.nodes.length+1)) * 8) AV.any=NB (d.nodes++[mk]) cap3 from RW d.nodes mk cap1 cap3]at hs;obtain⟨rfl,rfl⟩:k=10∧bx2=[_,_,_,_,_,_,_,_,_,_,_]:=hs.eq;have hgx:(d.nodes++[mk]).length≤cap3:=by simpa using hcp3
  refine o_ (h:=?_);refine DT 14 rfl (fun h0 hS=>D6 (m:=q) rfl rfl hdq hql ⟨rfl,rfl⟩) ?_;refine DT 15 rfl (fun h0 hS=>EF rfl ⟨rfl,rfl⟩) ?_;refine BA 16 rfl (B1 rfl rfl rfl rfl rfl rfl (Ry mk hql) (by repeat constructor) ?_);refine o_ (h:=z_ (h:=?_));refine AG ?_
  first|exact⟨_,⟨_,hgx,rfl⟩,E7 [0,1,2,3,4,5,6,10,8,9] (fun i hi=>absurd hi (Nat.not_lt_zero i)) (by decide) (.cons _ _ _ _ _ rfl rfl (.cons _ _ _ _ _ rfl rfl (.cons _ _ _ _ _ rfl rfl (.cons _ _ _ _ _ rfl rfl (.cons _ _ _ _ _ rfl rfl (.cons _ _ _ _ _ rfl rfl (.cons _ _ _ _ _ rfl (HQ (by rfl) _ _ _ _ _) (.cons _ _ _ _ _ rfl (Fe _ _ _) (.cons _ _ _ _ _ rfl rfl (.cons _ _ _ _ _ rfl rfl .nil)))))))))) (by repeat (first|exact SubK.nil|refine SubK.cons _ _ _ _ rfl (AM _) ?_))⟩|exact⟨_,⟨_,hgx,rfl⟩,BT 10 0 (by simp[Ai,Ac,Af,Bg,Bh,A7,AW,Am,Bp])⟩
 rintro t ⟨capx,hcapx,rfl⟩;have hasc2:DQ (d.nodes++[mk]):=List.pairwise_append.2 ⟨hvd.asc,List.pairwise_singleton _ _,fun x hx y hy=>by obtain rfl:=List.mem_singleton.1 hy;rw[hmk];exact hvd.lt x hx⟩;have hn2:(d.nodes++[mk])[i]?=some n0:=by rw[CO hil];exact hn0
 have hidx2:ER (f.set q ⟨d.next+1,d.nodes++[mk]⟩) dir=(i:Int):=Oh hdq (d:=⟨d.next+1,d.nodes++[mk]⟩) (by simp[hql]) hasc2 hn2 hino
 have hf2:FlsB (f.set q ⟨d.next+1,d.nodes++[mk]⟩):=hf.set_ (by have:=hvd.len;simp;omega) (fun m hm=>by
  rcases List.mem_append.1 hm with h|h
  ·have:=hvd.many m h;omega
  obtain rfl:=List.mem_singleton.1 h;rw[hmk];simp[E0])
 have hmki:mk.ino=d.next:=by rw[hmk];rfl
 have hmk0:(AW mk)[0+0]?=some (.v (.int .i64 d.next)):=by rw[hmk];rfl
 refine w_ (f_ (h:=l_ (h:=f_ (h:=l_ (h:=?_)))));refine A8 rfl (D6 (m:=q) rfl rfl hdq hql ?_);refine f_ (h:=?_);refine A8 rfl (Bd rfl rfl (WM hql) ?_);refine A8 rfl (KP rfl rfl (by dsimp only;omega) ?_);refine A8 rfl (D6 (m:=q) rfl rfl hdq hql ?_);refine f_ (h:=?_);refine KX (B1 rfl rfl rfl rfl rfl rfl (ON (d':=⟨d.next+1,d.nodes++[mk]⟩) (j':=7) (cap1':=capx) (k:=0) (cs:=[.v (.int .i64 (d.next+1))]) hql (by repeat constructor) (by simp)) (by repeat constructor) ?_);refine e_ (w_ (l_ (h:=l_ (h:=m_ (h:=f_ (h:=l_ (h:=?_)))))));refine A8 rfl (DN [6,7] rfl (.cons _ _ _ _ _ rfl (AM _) (.cons _ _ _ _ _ rfl (AM _) (.cons _ _ _ _ _ rfl (AM _) (.cons _ _ _ _ _ rfl (LeA.of_eq (show AV.v (.int .i64 mk.ino)=_ by rw[hmki])) .nil)))) (by decide) (.cons _ _ _ _ _ rfl (Fd (by rfl) _ _ _ _ _) (.cons _ _ _ _ _ rfl (FS _ _ _) .nil)) (Rw f q ⟨d.next+1,d.nodes++[mk]⟩ n0 i dir name d.next cap capx hf2 hql hdq hidx2 hn2 hcap hcapx) ?_);rintro r bc tc ⟨rfl,rfl,rfl⟩;refine⟨rfl,_,(LJ (BK rfl) (BK rfl) (by decide) f q ⟨d.next+1,d.nodes++[mk]⟩ (entS (d.nodes++[mk]) i n0 name d.next) cap capx capx:Back _ [6,7] _ [_,_,_,_,_,_,_,_,_,_]),?_⟩;refine e_ (?_);refine BR (fun t=>t=⟨look [(8, .bp 3 0),(9, .sl 7 [C2 (dir,name,(0,0),(dir.1,d.next))] none),(10, .v (.int .i64 0))],⟨[Am f,A7 dir,AW n,Am (f.set q ⟨d.next+1,entS (d.nodes++[mk]) i n0 name d.next⟩)],[]⟩⟩) ?_ ?_
 ·skip
  refine Bo ([(0,Am f),(1,A7 dir),(2,AW n),(4,A7 (AK f dir name).1),(5,Bp d),(8,[.bs 6 0 2 f.length cap]),(9,AW mk)]) 13 (h:=AF 0 (h:=AF 1 (h:=AQ 2 (h:=?_))));refine B5 3 rfl (fun _ hS=>F1 (y:= .agg (A7 (0,0))) (D8 ⟨rfl,rfl⟩) (by repeat (first|exact AM _|exact LeA.nil _|exact LeL.refl _|refine LeA.agg ⟨rfl,rfl⟩|refine LeA.tup ⟨rfl,rfl⟩|exact LeL.nil|refine LeL.cons ⟨rfl,rfl⟩ ⟨rfl,rfl⟩|exact LeA.any _)) ⟨rfl,rfl⟩) ?_;refine AJ 4 (h:=AF 5 (h:=AJ 6 (h:=?_)));refine B5 7 rfl (fun _ hS=>Bd (row:=AW mk) rfl (kb hS rfl) hmk0 ⟨rfl,rfl⟩) ?_;refine Fy 8 (h:=?_);refine c_ 9 rfl (AN (Kk dir name (0,0) (dir.1,d.next)) ?_);rintro r rfl;refine o_ (h:=?_);refine BA 10 rfl (B1 rfl rfl rfl rfl rfl rfl (by repeat constructor) (by repeat constructor) ?_);refine o_ (h:=BO 11 (h:=BO 12 (h:=z_ (h:=?_))));refine AG ?_;exact⟨_,rfl,Fx 4 2 rfl (congrArg (fun x=>[Am f,A7 dir,AW n,x]) (J9 (k:=0) (i:=6) (j:=7) (d:=⟨d.next+1,d.nodes++[mk]⟩) (d':=⟨d.next+1,entS (d.nodes++[mk]) i n0 name d.next⟩) hql rfl (Fg _ _ _ _ _) hcap (by rw[Fg];exact hcapx) (BK rfl) (BK rfl) rfl rfl)) (.cons _ _ _ _ rfl (AM _) (.cons _ _ _ _ rfl (AM _) (.cons _ _ _ _ rfl (AM _) .nil)))⟩
 rintro t rfl;refine A4 (?_);refine AD ?_;rw[List.length_map]at hc5;rw[DU,if_neg (by omega),if_neg hpn,if_neg (by omega),hatI];simp only;rw[if_neg (by rw[hc7];simp;omega),hdq,Int.toNat_natCast,←hino,←MY hvd hn0,hino,←hmk,show entS d.nodes i n0 name d.next++[mk]=entS (d.nodes++[mk]) i n0 name d.next by unfold entS;rw[List.set_append_left _ _ hil],←hdq];rfl
end
theorem S4(f:AR)(hf:FlsB f):AFn prog 34 [.agg (Am f)] (fun r=>r= .agg (Am f)):=by
 intro w St bl vs hr hv;have hbl:bl=[]:=by have:=hr.bxlen;simpa using this
 subst hbl;simp only[AP]at hv;obtain⟨z,zs,rfl,hz,rfl⟩:=hv;have hz':AZ St w (.agg (Am f)) z:=by have:=Ef _ _ hz;simpa[CP,EX,Am]using this
 have hF:=RB hr.stlt hf hz';refine Calls.mono (Old.Copy_any z f w hF) ?_;rintro e w' ⟨dv,L,rfl,hD,hL,hB⟩;have hsz:=hB.size;obtain⟨d1,d2,d3,d4⟩:=hD;let St':Nat→Nat→Prop:=fun b o=>St b o∨(w.heap.size≤b∧b<w'.heap.size);let G':Gh:=⟨St',[],[]⟩;have hfresh:∀{α:Type} {sz:Nat} {cell:α→Nat→Value} {E:TypeId} {v:Value} {xs:List α},Old.OwnL sz cell E w' w.heap.size v xs→∀b,v.ownBlock=some b→∀o,St' b o:=fun h b hb o=> .inr (h.lt b hb)
 have hents:∀(y:Nod×Value),Old.OwnL 2 Old.entCell 88 w' w.heap.size y.2 y.1.entries→AZ St' w' (.sl 2 (y.1.entries.map CA) none) y.2:=by
  intro y hy;refine Ku hy (hfresh hy) (fun _ _=>rfl) fun e _ j av hj=>?_
  match j,hj with
  |0,hj=>injection hj with hj;subst hj;simp only[AZ];rfl
  |1,hj=>injection hj with hj;subst hj;simp only[AZ];rfl
 have hnod:∀(y:Nod×Value),Old.OwnL 2 Old.entCell 88 w' w.heap.size y.2 y.1.entries→∀j av,(AW y.1)[j]?=some av→AZ St' w' av (Old.nodCell y j):=by
  intro y hy j av hj
  match j,hj with
  |0,hj=>injection hj with hj;subst hj;simp only[AZ];rfl
  |1,hj=>injection hj with hj;subst hj;simp only[AZ];rfl
  |2,hj=>injection hj with hj;subst hj;simp only[AZ];rfl
  |3,hj=>injection hj with hj;subst hj;simp only[AZ];rfl
  |4,hj=>injection hj with hj;subst hj;simp only[AZ];rfl
  |5,hj=>injection hj with hj;subst hj;simp only[AZ];rfl
  |6,hj=>injection hj with hj;subst hj;simp only[AZ];rfl
  |7,hj=>injection hj with hj;subst hj;exact hents y hy
  |j+8,hj=>exact absurd hj (by simp[AW])
 have hdev:AZ St' w' (.sl 2 (L.map fun x=>Bp (Old.dvcOf x)) none) dv:=by
  refine Ku d1 (hfresh d1) (fun _ _=>rfl) fun x hx j av hj=>?_;obtain⟨f1,f2,f3⟩:=(d2 x hx).1
  match j,hj with
  |0,hj=>injection hj with hj;subst hj;simp only[AZ];rfl
  |1,hj=>
    injection hj with hj;subst hj;have key:=Ku f1 (St:=St') (hfresh f1) (enc:=fun y=>AW y.1) (fun _ _=>rfl) fun z hz j av hj=>hnod z (f2 z hz).1 j av hj;have e:((Old.dvcOf x).nodes.map AW)=x.2.2.map fun y=>AW y.1:=by simp[Old.dvcOf]
    rw[e];exact key
  |j+2,hj=>exact absurd hj (by simp[Bp])
 have hst:∀b o,St b o→b<w.heap.size:=hr.stlt;refine⟨.agg (Am f),[],[],G',⟨rfl,rfl,rfl⟩,⟨?_,?_,?_,?_,rfl,?_,?_,?_,?_,rfl,?_,?_,?_⟩,⟨?_,?_,?_⟩,?_⟩
 ·intro i b hi;simp at hi
 ·exact⟨hB.os,hB.tape,hB.output,hB.size,fun k hk _=>hB.block k hk⟩
 ·rintro b o (h|h)
  ·have:=hst b o h;omega
  exact h.2
 ·rintro b o (h|h)
  ·exact .inl h
  exact .inr h.1
 ·show([]:List Nat).Nodup;simp
 ·intro b hb;simp[G']at hb
 ·intro b hb;simp[G']at hb
 ·intro i b row hi;simp[G']at hi
 ·intro g n u T sz rows hg;simp[G']at hg
 ·intro g n u hg;simp[G']at hg
 ·intro g g' n n' u u' hg;simp[G']at hg
 ·exact fun b o h=>⟨.inl h,hB.cell (p:=⟨b,o,none⟩) (hst b o h)⟩
 ·intro i b hi;simp at hi
 ·intro g n u hg;simp at hg
 refine FK _ _ ?_;unfold Am;rw[←hL,Old.flsOf,List.map_map];simp only[AZ,BX];have hdev2:AZ St' w' (.sl 2 (L.map (Bp ∘ Old.dvcOf)) none) dv:=hdev;simp only[AZ]at hdev2;exact⟨[dv],rfl,dv,[],rfl,hdev2,rfl⟩
def LL(f:AR)(a top:A6):Bool:=G6 f top 17 a
def Er:List Int:=[2,20,22]
def FA(a b:Int):Int:=if a=2∨b=2 then 2 else if a=20∨b=20 then 20 else if a=22∨b=22 then 22 else 0
theorem S5{a b:Int}{j:Nat}{x:Int}(hx:Er[j]?=some x)(ha:∀i y,i<j→Er[i]?=some y→¬(a=y∨b=y))(h:a=x∨b=x):FA a b=x:=by
 unfold FA
 match j,hx with
 |0,hx=>injection hx with hx;subst hx;rw[if_pos h]
 |1,hx=>
   injection hx with hx;subst hx;rw[if_neg (ha 0 2 (by omega) rfl),if_pos h]
 |2,hx=>
   injection hx with hx;subst hx;rw[if_neg (ha 0 2 (by omega) rfl),if_neg (ha 1 20 (by omega) rfl),if_pos h]
 |j+3,hx=>exact absurd hx (by simp[Er])
theorem S6(f:AR)(a:A6)(name:AB):C9 f a name=0∨C9 f a name=2∨C9 f a name=20∨C9 f a name=22:=by
 unfold C9;split
 ·exact .inr (.inl rfl)
 split
 ·split
  ·exact .inl rfl
  exact .inr (.inr (.inr rfl))
 exact .inr (.inr (.inl rfl))
theorem X9{a b:Int}(ha:∀i y,i<3→Er[i]?=some y→¬(a=y∨b=y)):FA a b=0:=by
 unfold FA;rw[if_neg (ha 0 2 (by omega) rfl),if_neg (ha 1 20 (by omega) rfl),if_neg (ha 2 22 (by omega) rfl)]
theorem S7{f:AR}{x y:A6}{name name2:AB}(h:FA (C9 f x name) (C9 f y name2)=0):C9 f x name=0∧C9 f y name2=0:=by
 unfold FA at h;split at h
 ·omega
 split at h
 ·omega
 split at h
 ·omega
 rename_i h1 h2 h3;have a:=S6 f x name;have b:=S6 f y name2;omega
def DV(f:AR)(src to:A6)(a o:A6)(e:Int):Int:=
 if e=0 then(if Al f o=true∧Al f a=false then 21 else if Al f o=false∧Al f a=true then 20 else if Al f o=true∧H6 f o=false then 39 else 0)else if GW f to=true∧src≠to then 28 else 0
def Jm(ns:List Nod)(src:A6)(name:AB)(to:A6)(name2:AB)(a o:A6)(e:Int):List Nod:=
 if e=0 then C1 (BN (BN ns src.2 name 0) to.2 name2 a.2) o.2 else BN (BN ns src.2 name 0) to.2 name2 a.2
def Hc(ns:List Nod)(i:Int)(p:Int)(b:Bool):List Nod:=if b=true then Ck ns i (fun n=>{n with parent:=p})else ns
def EL(f:AR)(src:A6)(name:AB)(to:A6)(name2:AB):Df:=
 if FA (C9 f src name) (C9 f to name2)≠0 then([],[],FA (C9 f src name) (C9 f to name2))else if(AK f src name).2≠0 then([],[],(AK f src name).2)else if src.1≠to.1 then([],[],18)else
 if Al f (AK f src name).1=true∧LL f to (AK f src name).1=true then([],[],22)else if(AK f to name2).2=0∧(AK f to name2).1=(AK f src name).1 then(f,[],0)else
 if DV f src to (AK f src name).1 (AK f to name2).1 (AK f to name2).2≠0 then([],[],DV f src to (AK f src name).1 (AK f to name2).1 (AK f to name2).2)else
 (GC f to.1.toNat fun ns=>Hc (Jm ns src name to name2 (AK f src name).1 (AK f to name2).1 (AK f to name2).2) (AK f src name).1.2 to.2 (Al f (AK f src name).1),[(src,name,(AK f src name).1,(0,0)),(to,name2,(AK f to name2).1,(AK f src name).1)],0)
theorem XA(f:AR):LeA (.tup [.agg (Am f), .v (.slice none 0 0), .v (.int .i64 0)]) (CH (f,[],0)):=LeA.tup (.cons (AM _) (.cons (LeA.nil 7) (.cons (AM _) .nil)))
theorem XB{n:Nat}{bx:List (List AV)}{k i j:Nat}{f:AR}{q:Nat}{d:Dvc}{cap cap0 cap1:Nat}(hq:q<f.length)(hc:f.length≤cap)(hc1:d.nodes.length≤cap1)(hni:n≤i)(hnj:n≤j)
    (hi:bx[i]?=some (DB f q d j cap cap1)) (hj:bx[j]?=some (NB d.nodes cap1)):DO (D7 n bx (k+2)) (.agg [.bs i 0 2 f.length cap0])= .agg (Am (f.set q d)):=by
 have key:=J5 (n:=n) (bx:=bx) (k:=k) (i:=i) (j:=j) (f:=f.set q d) (K:=q) (d:=d) (cap:=cap) (cap0:=cap0) (cap1:=cap1) (by simp[hq]) (by simpa using hc) hc1 hni hnj (by rw[hi,OO]) hj;rw[List.length_set]at key;exact key
theorem XC{n:Nat}{bx:List (List AV)}{k j sz cap:Nat}{rows:List (List AV)}(hn:n≤j)(hj:bx[j]?=some (C3 sz cap rows))(hp:∀r∈rows,∀x∈r,∃v,x= .v v):D7 n bx (k+1) j=some (C3 sz cap rows):=by
 have:Nat.blt j n=false:=by rw[←Bool.not_eq_true,Nat.blt_eq];omega
 simp only[D7,this,hj,Option.map_some,Kw];rw[Kx _ rfl]
 congr 2
 conv=>rhs;rw[←List.map_id rows]
 apply List.map_congr_left;intro r hr
 conv=>rhs;rw[id,←List.map_id r]
 apply List.map_congr_left;intro x hx;obtain⟨v,rfl⟩:=hp r hr x hx;rfl
theorem XD(l:List DP):∀r∈l.map C2,∀x∈r,∃v,x= .v v:=by
 intro r hr x hx;obtain⟨c,_,rfl⟩:=List.mem_map.1 hr;simp[C2]at hx;rcases hx with h|h|h|h|h|h|h<;>exact⟨_,h⟩
theorem XE(l:List DP):∀r∈l.map C2,r.length=7:=by
 intro r hr;obtain⟨c,_,rfl⟩:=List.mem_map.1 hr;rfl
theorem XF{bx:List (List AV)}(bc:List (List AV))(h:∀r∈bc,∀x∈r,∃v,x= .v v):Back bx [] bc (bx++bc):=by
 refine⟨by simp,fun i row _ h=>?_,fun k i row h=>by simp at h,fun k row hk=>?_⟩
 ·rw[CO (Ag.1 h).1];exact h
 rw[DM (by omega),show bx.length+k - bx.length=k by omega];simp only[List.length_nil,Nat.zero_add]at hk;rw[hk,Kv]
 congr 1
 conv=>lhs;rw[←List.map_id row]
 apply List.map_congr_left;intro x hx;obtain⟨v,rfl⟩:=h row (Au hk) x hx;rfl
theorem Oi{d:Dvc}(hd:DQ d.nodes){i:Nat}{n0:Nod}(hn:d.nodes[i]?=some n0)(name:AB)(ino:Int):entS d.nodes i n0 name ino=BN d.nodes n0.ino name ino:=by
 unfold entS BN;rw[←MW hd hn];rfl
section
theorem XG(d:A6)(name:AB)(o n:A6):ACall prog 40 [.agg (A7 d), .v (.string name), .agg (A7 o), .agg (A7 n)] [] (fun r b t=>t=[]∧r= .bs 3 0 7 1 1∧b=[A7 d,A7 o,A7 n,C2 (d,name,o,n)]):=by
 refine enter Tryz.func40 rfl rfl rfl rfl rfl 4 rfl ?_;refine w_ (b_ (h:=b_ (h:=b_ (h:=a_ (h:=e_ (w_ (l_ (h:=m_ (h:=l_ (h:=l_ (h:=Aa (h:=?_))))))))))));refine A8 rfl (V9 (k:=3) rfl rfl rfl rfl (by repeat constructor) ?_);refine a_ (h:=e_ (A4 (?_)));refine BS (r:= .bs 3 0 7 1 1) none (h5:=(AM _)) (h6:=⟨rfl,rfl,rfl⟩)
end
theorem S8{n:Nat}{g:Nat→Option (List AV)}{j sz m cap0 cap:Nat}{rows:List (List AV)}(hn:n≤j)(hg:g j=some (C3 sz cap rows))(hr:∀r∈rows,r.length=sz)(hm:m=rows.length)(hc:rows.length≤cap):EH n g (.bs j 0 sz m cap0)= .sl sz rows none:=by
 have:Nat.blt j n=false:=by rw[←Bool.not_eq_true,Nat.blt_eq];omega
 simp only[EH,this];exact OK hg hr hm hc
theorem XH(a b c:A6)(x:DP):∀r∈[A7 a,A7 b,A7 c,C2 x],∀y∈r,∃v,y= .v v:=by
 intro r hr y hy;simp only[List.mem_cons,List.not_mem_nil,or_false]at hr;rcases hr with rfl|rfl|rfl|rfl
 ·simp[A7]at hy;rcases hy with h|h<;>exact⟨_,h⟩
 ·simp[A7]at hy;rcases hy with h|h<;>exact⟨_,h⟩
 ·simp[A7]at hy;rcases hy with h|h<;>exact⟨_,h⟩
 simp[C2]at hy;rcases hy with h|h|h|h|h|h|h<;>exact⟨_,h⟩
theorem S9{j:Nat}{x:Int}(hx:Er[j]?=some x):x≠0:=by
 match j,hx with
 |0,hx=>injection hx with hx;omega
 |1,hx=>injection hx with hx;omega
 |2,hx=>injection hx with hx;omega
 |j+3,hx=>exact absurd hx (by simp[Er])
theorem Oj{ns:List Nod}{i k:Nat}{n0 m:Nod}(hi:ns[i]?=some n0)(hk:ns[k]?=some m)(name:AB)(ino:Int):∃m',(entS ns i n0 name ino)[k]?=some m'∧m'.ino=m.ino∧m'.entries.length≤m.entries.length+1:=by
 unfold entS;rw[List.getElem?_set];split
 ·rename_i e;subst e;rw[hi]at hk;injection hk with hk;subst hk;exact⟨{n0 with entries:=CE n0.entries name ino},by rw[if_pos (Ag.1 hi).1],rfl,Og _ _ _⟩
 exact⟨m,hk,rfl,by omega⟩
theorem SA{ns:List Nod}{i:Nat}{n0:Nod}(hi:ns[i]?=some n0){name:AB}{ino:Int}{m':Nod}(hm:m'∈entS ns i n0 name ino):∃m∈ns,m'.ino=m.ino∧m'.entries.length≤m.entries.length+1:=by
 rcases List.mem_or_eq_of_mem_set hm with h|h
 ·exact⟨m',h,rfl,by omega⟩
 subst h;exact⟨n0,Au hi,rfl,Og _ _ _⟩
theorem SB{ns:List Nod}(h:DQ ns){i:Nat}{n0:Nod}(hn:ns[i]?=some n0)(name:AB)(ino:Int):DQ (entS ns i n0 name ino):=by
 have:=Oi (d:=⟨0,ns⟩) h hn name ino;simp only at this;rw[this];exact Jl h _ _ _
theorem XJ(f:AR)(q:Nat)(d d':Dvc)(n:Nod)(i:Nat)(a:A6)(name:AB)(ino:Int)(cap cap1:Nat)(hf:FlsB (f.set q d'))(hq:q<f.length)(ha:a.1=(q:Int))(hi:ER (f.set q d') a=(i:Int))(hn:d'.nodes[i]?=some n)(hcap:f.length≤cap)(hcap1:d'.nodes.length≤cap1)(hnx:d'.next=d.next)(hl:d'.nodes.length=d.nodes.length):
    ACall prog 37 [.agg [.bs 0 0 2 f.length cap], .agg (A7 a), .v (.string name), .v (.int .i64 ino)] [DB f q d 1 cap cap1,NB d'.nodes cap1] (fun r b t=>t=[]∧r= .tup []∧b=[DB f q ⟨d.next,entS d'.nodes i n name ino⟩ 1 cap cap1,NB (entS d'.nodes i n name ino) cap1]):=by
 have key:=Rw f q d' n i a name ino cap cap1 hf hq ha hi hn hcap hcap1;have e1:DB f q d' 1 cap cap1=DB f q d 1 cap cap1:=by unfold DB ET FR;rw[hnx,hl]
 have e2:DB f q d 1 cap cap1=DB f q ⟨d.next,entS d'.nodes i n name ino⟩ 1 cap cap1:=by unfold DB ET FR;rw[Fg,hl]
 rw[e1]at key;exact key.mono fun r b t ⟨h1,h2,h3⟩=>⟨h1,h2,by rw[h3,e2]⟩
theorem XK{f:AR}(hv:FlsV f){q:Nat}{d:Dvc}(hq:f[q]?=some d){i i2:Nat}{n1 n2:Nod}(hn1:d.nodes[i]?=some n1)(hn2:d.nodes[i2]?=some n2)(name name2:AB)(ai:Int)(ha:∃m∈d.nodes,m.ino=ai):
    ∃(X1 X2:List Nod) (m2:Nod),X1=entS d.nodes i n1 name 0∧X1[i2]?=some m2∧m2.ino=n2.ino∧X2=entS X1 i2 m2 name2 ai∧DQ X1∧DQ X2∧X1.length=d.nodes.length∧X2.length=d.nodes.length∧X2=BN (BN d.nodes n1.ino name 0) n2.ino name2 ai∧
     FlsB (f.set q ⟨d.next,X1⟩)∧FlsB (f.set q ⟨d.next,X2⟩)∧(∀m∈X2,m.entries.length≤1000)∧(∃m∈X2,m.ino=1)∧∃m∈X2,m.ino=ai:=by
 have hd:=hv.vd d (Au hq);obtain⟨m2,hm2,hi2,hl2⟩:=Oj hn1 hn2 name 0;have e1:=Oi hd.asc hn1 name 0;have a1:=SB hd.asc hn1 name 0;have e2:=Oi (d:=⟨0,entS d.nodes i n1 name 0⟩) a1 hm2 name2 ai;simp only at e2;have a2:=SB a1 hm2 name2 ai
 have hb2:∀m∈entS (entS d.nodes i n1 name 0) i2 m2 name2 ai,m.entries.length≤1000:=fun m hm=>by
  obtain⟨m',h1,_,h2⟩:=SA hm2 hm;obtain⟨m'',h3,_,h4⟩:=SA hn1 h1;have:=hd.many m'' h3;omega
 have hmem:∀x:Int,(∃m∈d.nodes,m.ino=x)→∃m∈entS (entS d.nodes i n1 name 0) i2 m2 name2 ai,m.ino=x:=by
  rintro x ⟨m,hm,rfl⟩;obtain⟨k,hk⟩:=List.getElem?_of_mem hm;obtain⟨m',h1,h2,_⟩:=Oj hn1 hk name 0;obtain⟨m'',h3,h4,_⟩:=Oj hm2 h1 name2 ai;exact⟨m'',Au h3,h4.trans h2⟩
 obtain⟨r,hr,hr1,_⟩:=hd.rootMem;refine⟨_,_,m2,rfl,hm2,hi2,rfl,a1,a2,Fg _ _ _ _ _,by rw[Fg,Fg],by rw[e2,e1,hi2],hv.entS hq hn1 name 0,hv.b.set_ ?_ hb2,hb2,hmem 1 ⟨r,hr,hr1⟩,hmem ai ha⟩;show(entS _ _ _ _ _).length≤1000;rw[Fg,Fg];have:=hd.len;omega
section
theorem XL(f:AR)(src:A6)(name:AB)(to:A6)(name2:AB)(hv:FlsV f)(hs:name.size≤100000)(hs2:name2.size≤100000):AFn prog 12 [.agg (Am f), .agg (A7 src), .v (.string name), .agg (A7 to), .v (.string name2)] (fun r=>r=CH (EL f src name to name2)):=by
 have hf:=hv.b;have P1:=Kj f src name hf hs;have P2:=Kj f to name2 hf hs2;have L1:=H7 f src name hf;have L2:=H7 f to name2 hf;obtain⟨pa,hpa⟩:∃x,C9 f src name=x:=⟨_,rfl⟩;obtain⟨pb,hpb⟩:∃x,C9 f to name2=x:=⟨_,rfl⟩;obtain⟨⟨A,e1⟩,hl1⟩:∃x,AK f src name=x:=⟨_,rfl⟩;obtain⟨⟨O,e2⟩,hl2⟩:∃x,AK f to name2=x:=⟨_,rfl⟩;rw[hpa]at P1;rw[hpb]at P2;rw[hl1]at L1;rw[hl2]at L2;simp only at L1 L2
 have hRen:EL f src name to name2=(if FA pa pb≠0 then([],[],FA pa pb)else if e1≠0 then([],[],e1)else if src.1≠to.1 then([],[],18)else
     if Al f A=true∧LL f to A=true then([],[],22)else if e2=0∧O=A then(f,[],0)else if DV f src to A O e2≠0 then([],[],DV f src to A O e2)else
     (GC f to.1.toNat fun ns=>Hc (Jm ns src name to name2 A O e2) A.2 to.2 (Al f A),[(src,name,A,(0,0)),(to,name2,O,A)],0)):=by
  unfold EL;rw[hpa,hpb,hl1,hl2]
 have hol:Er.length=3:=rfl;refine enter Tryz.func12 rfl rfl rfl rfl rfl 0 rfl ?_;refine w_ (b_ (h:=b_ (h:=b_ (h:=Ak (h:=a_ (h:=a_ (h:=e_ (q_ (Dp 10 (h:=AF 0 (h:=AF 1 (h:=AQ 2 (h:=AF 4 (h:=AF 5 (h:=AQ 6 (h:=?_))))))))))))))));refine c_ 3 rfl (AN (P1) ?_);rintro r rfl;refine o_ (h:=?_);refine c_ 7 rfl (AN (P2) ?_);rintro r rfl;refine o_ (h:=BO 8 (h:=BO 9 (h:=z_ (h:=t_ (w_ (CR (h:=a_ (h:=e_ (q_ (w_ (a_ (h:=e_ (Ap (?_))))))))))))));refine By (fun m t=>∃j:Nat,j≤Er.length∧m=Er.length - j∧(∀i y,i<j→Er[i]?=some y→¬(pa=y∨pb=y))∧t=⟨look [(2, .v (.string name)),(4, .v (.string name2)),(5, .bp 0 0),(6, .bp 1 0),(8, .bp 2 0),(10, .bp 3 0),(13, .v (.int .i64 pa)),(14, .v (.int .i64 pb)),(15, .sl 1 (Er.map CQ) none),(16, .v (.int .i64 (j:Int)))],⟨[Am f,A7 src,A7 to,[.v (.slice none 0 0)]],[]⟩⟩) (Er.length) ((wk 4 0)) (⟨0,BC _,rfl,fun i y hi=>by omega,rfl⟩) ?_;rintro m t ⟨j,hj,rfl,ha,rfl⟩;refine q_ (w_ (m_ (h:=m_ (h:=n_ (h:=BQ (h:=e_ (?_)))))));refine AA rfl (fun hb1=>?_) (fun hb1=>?_)
 ·have hc1:=bp hb1;obtain⟨hlt,x,hx,hrow, -⟩:=Cp CQ (l:=Er) hc1;refine AO (q_ (Ap (w_ (m_ (h:=m_ (h:=m_ (h:=i_ (h:=l_ (h:=Ah (h:=m_ (h:=?_)))))))))));refine Aw false rfl rfl (fun hb2=>?_) (fun hb2=>?_)
  ·have hc2:=bp hb2;refine A3 (h:=A3 (h:=A3 (h:=A3 (h:=A3 (h:=A3 (h:=AY (h:=e_ (CD (h:=q_ (?_))))))))));refine JU (fun _=>True) 8 (by kernel_rfl) ?_;refine B7 (i:=0) rfl rfl (by kernel_rfl) (by first|rfl|exact AE rfl rfl (Az ‹_›)|exact AE rfl rfl (B0 ‹_›)|exact AE rfl rfl (by simp[*])) (fun h0 hS=>D8 ⟨rfl,rfl⟩) trivial ?_;refine B7 (i:=1) rfl rfl (by kernel_rfl) (by first|rfl|exact AE rfl rfl (Az ‹_›)|exact AE rfl rfl (B0 ‹_›)|exact AE rfl rfl (by simp[*])) (fun h0 hS=>EP rfl ⟨rfl,rfl⟩) trivial ?_;refine B7 (i:=2) rfl rfl (by kernel_rfl) (by first|rfl|exact AE rfl rfl (Az ‹_›)|exact AE rfl rfl (B0 ‹_›)|exact AE rfl rfl (by simp[*])) (fun h0 hS=>EP rfl ⟨rfl,rfl⟩) trivial ?_;refine B7 (i:=3) rfl rfl (by kernel_rfl) (by first|rfl|exact AE rfl rfl (Az ‹_›)|exact AE rfl rfl (B0 ‹_›)|exact AE rfl rfl (by simp[*])) (fun h0 hS=>DZ rfl rfl rfl (by first|assumption|rfl) ⟨rfl,rfl⟩) trivial ?_;refine B7 (i:=4) rfl rfl (by kernel_rfl) (by first|rfl|exact AE rfl rfl (Az ‹_›)|exact AE rfl rfl (B0 ‹_›)|exact AE rfl rfl (by simp[*])) (fun h0 hS=>Fv rfl rfl ⟨rfl,rfl⟩) trivial ?_;refine BA 5 rfl (B1 rfl rfl rfl rfl rfl rfl (by repeat constructor) (by repeat constructor) ?_);refine⟨.inr trivial,?_⟩;refine B7 (i:=6) rfl rfl (by kernel_rfl) (by first|rfl|exact AE rfl rfl (Az ‹_›)|exact AE rfl rfl (B0 ‹_›)|exact AE rfl rfl (by simp[*])) (fun h0 hS=>Fr rfl ⟨rfl,rfl⟩) trivial ?_;refine B7 (i:=7) rfl rfl (by kernel_rfl) (by first|rfl|exact AE rfl rfl (Az ‹_›)|exact AE rfl rfl (B0 ‹_›)|exact AE rfl rfl (by simp[*])) (fun h0 hS=>Fr rfl ⟨rfl,rfl⟩) trivial ?_;refine z_ (h:=t_ (A4 (Ab (A9 (A9 (Ab (A9 (?_))))))));refine BS (r:=CH (EL f src name to name2)) none (h5:=?_) (h6:=⟨rfl,rfl,rfl⟩);rw[hRen,show FA pa pb=x from S5 hx ha (.inl hc2),if_pos (S9 hx)];exact DR _
  have hc2:=bp hb2;refine m_ (h:=m_ (h:=m_ (h:=i_ (h:=l_ (h:=Ah (h:=Aj (h:=e_ (?_))))))));refine AA rfl (fun hb3=>?_) (fun hb3=>?_)
  ·have hc3:=bp hb3;refine q_ (?_);refine JU (fun _=>True) 8 (by kernel_rfl) ?_;refine B7 (i:=0) rfl rfl (by kernel_rfl) (by first|rfl|exact AE rfl rfl (Az ‹_›)|exact AE rfl rfl (B0 ‹_›)|exact AE rfl rfl (by simp[*])) (fun h0 hS=>D8 ⟨rfl,rfl⟩) trivial ?_;refine B7 (i:=1) rfl rfl (by kernel_rfl) (by first|rfl|exact AE rfl rfl (Az ‹_›)|exact AE rfl rfl (B0 ‹_›)|exact AE rfl rfl (by simp[*])) (fun h0 hS=>EP rfl ⟨rfl,rfl⟩) trivial ?_;refine B7 (i:=2) rfl rfl (by kernel_rfl) (by first|rfl|exact AE rfl rfl (Az ‹_›)|exact AE rfl rfl (B0 ‹_›)|exact AE rfl rfl (by simp[*])) (fun h0 hS=>EP rfl ⟨rfl,rfl⟩) trivial ?_;refine B7 (i:=3) rfl rfl (by kernel_rfl) (by first|rfl|exact AE rfl rfl (Az ‹_›)|exact AE rfl rfl (B0 ‹_›)|exact AE rfl rfl (by simp[*])) (fun h0 hS=>DZ rfl rfl rfl (by first|assumption|rfl) ⟨rfl,rfl⟩) trivial ?_;refine B7 (i:=4) rfl rfl (by kernel_rfl) (by first|rfl|exact AE rfl rfl (Az ‹_›)|exact AE rfl rfl (B0 ‹_›)|exact AE rfl rfl (by simp[*])) (fun h0 hS=>Fv rfl rfl ⟨rfl,rfl⟩) trivial ?_;refine BA 5 rfl (B1 rfl rfl rfl rfl rfl rfl (by repeat constructor) (by repeat constructor) ?_);refine⟨.inr trivial,?_⟩;refine B7 (i:=6) rfl rfl (by kernel_rfl) (by first|rfl|exact AE rfl rfl (Az ‹_›)|exact AE rfl rfl (B0 ‹_›)|exact AE rfl rfl (by simp[*])) (fun h0 hS=>Fr rfl ⟨rfl,rfl⟩) trivial ?_;refine B7 (i:=7) rfl rfl (by kernel_rfl) (by first|rfl|exact AE rfl rfl (Az ‹_›)|exact AE rfl rfl (B0 ‹_›)|exact AE rfl rfl (by simp[*])) (fun h0 hS=>Fr rfl ⟨rfl,rfl⟩) trivial ?_;refine z_ (h:=t_ (A4 (Ab (A9 (A9 (Ab (A9 (?_))))))));refine BS (r:=CH (EL f src name to name2)) none (h5:=?_) (h6:=⟨rfl,rfl,rfl⟩);rw[hRen,show FA pa pb=x from S5 hx ha (.inr hc3),if_pos (S9 hx)];exact DR _
  have hc3:=bp hb3;refine BH (Ay (t_ (AX (m_ (h:=BB (h:=a_ (h:=AT (?_))))))));refine AG ?_;refine⟨_,_,?_,⟨j+1,hlt,rfl,Eb hx ha (not_or.2 ⟨hc2,hc3⟩),rfl⟩,(wk 4 0)⟩;omega
 have hc1:=bp hb1;have e3:=D0 CQ (l:=Er) hj hc1;subst e3;have hord:FA pa pb=0:=X9 ha;obtain⟨hpl1,hpl2⟩:=S7 (f:=f) (x:=src) (y:=to) (name:=name) (name2:=name2) (by rw[hpa,hpb];exact hord);refine Ba (Ao (Ao (Bb (t_ (w_ (l_ (h:=l_ (h:=m_ (h:=?_)))))))));refine A8 rfl (AN (L1) ?_);rintro r rfl;refine m_ (h:=x_ (h:=x_ (h:=Ak (h:=s_ (h:=a_ (h:=e_ (q_ (w_ (m_ (h:=Bf (h:=e_ (?_))))))))))));refine AA rfl (fun hb4=>?_) (fun hb4=>?_)
 ·have hc4:=bp hb4;refine w_ (Aa (h:=m_ (h:=s_ (h:=a_ (h:=a_ (h:=e_ (A4 (A9 (?_)))))))));refine BS (r:=CH (EL f src name to name2)) none (h5:=?_) (h6:=⟨rfl,rfl,rfl⟩);rw[hRen,if_neg (by rw[hord];simp),if_pos hc4];exact DR _
 have hc4:=bp hb4;have he1:e1=0:=by omega
 refine AO (q_ (w_ (f_ (h:=l_ (h:=f_ (h:=l_ (h:=Bf (h:=e_ (?_)))))))));refine AA rfl (fun hb5=>?_) (fun hb5=>?_)
 ·have hc5:=bp hb5;refine w_ (Aa (h:=s_ (h:=a_ (h:=a_ (h:=e_ (A4 (A9 (?_))))))));refine BS (r:=CH (EL f src name to name2)) none (h5:=?_) (h6:=⟨rfl,rfl,rfl⟩);rw[hRen,if_neg (by rw[hord];simp),if_neg (by simp[he1]),if_pos hc5];exact DR _
 have hc5:=bp hb5;refine AO (w_ (l_ (h:=l_ (h:=?_))));refine A8 rfl (AN (GX f A hf) ?_);rintro r rfl;refine a_ (h:=e_ (?_));refine BR (fun t=>(Al f A=true→LL f to A=false)∧t=⟨look [(2, .v (.string name)),(4, .v (.string name2)),(5, .bp 0 0),(6, .bp 1 0),(8, .bp 2 0),(10, .bp 3 0),(17, .bp 4 0),(19, .v (.bool (Al f A)))],⟨[Am f,A7 src,A7 to,[.v (.slice none 0 0)],A7 A],[]⟩⟩) ?_ ?_
 ·skip
  refine w_ (m_ (h:=m_ (h:=?_)));refine Aw true rfl rfl (fun hb6=>?_) (fun hb6=>?_)
  ·have hc6:=bp hb6;refine l_ (h:=l_ (h:=l_ (h:=?_)));refine Ax (AN (Vc f to A hf) ?_);rintro r rfl;refine AY (h:=e_ (?_));refine AA rfl (fun hb7=>?_) (fun hb7=>?_)
   ·have hc7:=bp hb7;refine w_ (Aa (h:=s_ (h:=a_ (h:=a_ (h:=e_ (A4 (A9 (?_))))))));refine BS (r:=CH (EL f src name to name2)) none (h5:=?_) (h6:=⟨rfl,rfl,rfl⟩);rw[hRen,if_neg (by rw[hord];simp),if_neg (by simp[he1]),if_neg (by simp[hc5]),if_pos ⟨hc6,hc7⟩];exact DR _
   have hc7:=bp hb7;have hbl:Al f A=true→LL f to A=false:=fun _=>hc7;refine BH (?_);refine AG ?_;exact⟨_,⟨hbl,rfl⟩,(wk 5 0)⟩
  have hc6:=bp hb6;have hbl:Al f A=true→LL f to A=false:=fun h=>absurd (h.symm.trans hc6) (by decide);refine A3 (h:=A3 (h:=A3 (h:=A3 (h:=Aj (h:=e_ (F6 (h:=BH (?_))))))));refine AG ?_;exact⟨_,⟨hbl,rfl⟩,(wk 5 0)⟩
 rintro t ⟨hbl,rfl⟩;refine w_ (l_ (h:=l_ (h:=m_ (h:=?_))));refine A8 rfl (AN (L2) ?_);rintro r rfl;refine m_ (h:=x_ (h:=x_ (h:=Ak (h:=s_ (h:=a_ (h:=e_ (?_)))))));refine BR (fun t=>(e2=0→O≠A)∧t=⟨look [(2, .v (.string name)),(4, .v (.string name2)),(5, .bp 0 0),(6, .bp 1 0),(8, .bp 2 0),(10, .bp 3 0),(17, .bp 4 0),(18, .v (.int .i64 e2)),(19, .v (.bool (Al f A))),(20, .bp 5 0)],⟨[Am f,A7 src,A7 to,[.v (.slice none 0 0)],A7 A,A7 O],[]⟩⟩) ?_ ?_
 ·skip
  refine w_ (m_ (h:=Ah (h:=m_ (h:=?_))));refine Aw true rfl rfl (fun hb8=>?_) (fun hb8=>?_)
  ·have hc8:=bp hb8;refine l_ (h:=l_ (h:=?_));refine Ax (EQ rfl rfl (by repeat constructor) (by repeat constructor) (fun w=>Je _ _ _ _ w) (by kernel_rfl) ?_);refine AY (h:=e_ (?_));refine AA rfl (fun hb9=>?_) (fun hb9=>?_)
   ·have hc9:=bp hb9;refine w_ (l_ (h:=?_));refine A8 rfl (AN (S4 f hf) ?_);rintro r rfl;refine s_ (h:=a_ (h:=a_ (h:=e_ (A4 (A9 (?_))))));refine BS (r:=CH (EL f src name to name2)) none (h5:=?_) (h6:=⟨rfl,rfl,rfl⟩);rw[hRen,if_neg (by rw[hord];simp),if_neg (by simp[he1]),if_neg (by simp[hc5]),if_neg (fun h=>absurd h.2 (by rw[hbl h.1];decide)),if_pos ⟨hc8,hc9⟩];exact XA _
   have hc9:=bp hb9;have hoa:e2=0→O≠A:=fun _=>hc9;refine BH (?_);refine AG ?_;exact⟨_,⟨hoa,rfl⟩,(wk 6 0)⟩
  have hc8:=bp hb8;have hoa:e2=0→O≠A:=fun h=>absurd h hc8;refine A3 (h:=A3 (h:=A3 (h:=Aj (h:=e_ (F6 (h:=BH (?_)))))));refine AG ?_;exact⟨_,⟨hoa,rfl⟩,(wk 6 0)⟩
 rintro t ⟨hoa,rfl⟩;refine BR (fun t=>DV f src to A O e2=0∧t=⟨look [(2, .v (.string name)),(4, .v (.string name2)),(5, .bp 0 0),(6, .bp 1 0),(8, .bp 2 0),(10, .bp 3 0),(17, .bp 4 0),(18, .v (.int .i64 e2)),(19, .v (.bool (Al f A))),(20, .bp 5 0)],⟨[Am f,A7 src,A7 to,[.v (.slice none 0 0)],A7 A,A7 O],[]⟩⟩) ?_ ?_
 ·skip
  refine w_ (m_ (h:=Ah (h:=e_ (?_))));refine AA rfl (fun hb10=>?_) (fun hb10=>?_)
  ·have hc10:=bp hb10;refine w_ (l_ (h:=l_ (h:=?_)));refine A8 rfl (AN (GX f O hf) ?_);rintro r rfl;refine a_ (h:=e_ (q_ (w_ (m_ (h:=m_ (h:=?_))))));refine Aw true rfl rfl (fun hb11=>?_) (fun hb11=>?_)
   ·have hc11:=bp hb11;refine m_ (h:=Bt (h:=AY (h:=e_ (?_))));refine AA rfl (fun hb12=>?_) (fun hb12=>?_)
    ·have hc12:=bp hb12;refine w_ (Aa (h:=s_ (h:=a_ (h:=a_ (h:=e_ (A4 (A9 (A9 (?_)))))))));refine BS (r:=CH (EL f src name to name2)) none (h5:=?_) (h6:=⟨rfl,rfl,rfl⟩);have h2:DV f src to A O e2=21:=by unfold DV;simp[hc10,hc11,hc12]
     rw[hRen,if_neg (by rw[hord];simp),if_neg (by simp[he1]),if_neg (by simp[hc5]),if_neg (fun h=>absurd h.2 (by rw[hbl h.1];decide)),if_neg (fun h=>hoa h.1 h.2),h2,if_pos (by decide)];exact DR _
    have hc12:=bp hb12;refine AO (q_ (w_ (m_ (h:=Bt (h:=m_ (h:=A3 (h:=Aj (h:=e_ (F6 (h:=AO (w_ (m_ (h:=m_ (h:=l_ (h:=l_ (h:=?_))))))))))))))));refine Ax (AN (VO f O hf) ?_);rintro r rfl;refine Bt (h:=AY (h:=e_ (?_)));refine AA rfl (fun hb13=>?_) (fun hb13=>?_)
    ·have hc13:=bp hb13;refine w_ (Aa (h:=s_ (h:=a_ (h:=a_ (h:=e_ (A4 (A9 (?_))))))));refine BS (r:=CH (EL f src name to name2)) none (h5:=?_) (h6:=⟨rfl,rfl,rfl⟩);have h2:DV f src to A O e2=39:=by unfold DV;simp[hc10,hc11,hc12,hc13]
     rw[hRen,if_neg (by rw[hord];simp),if_neg (by simp[he1]),if_neg (by simp[hc5]),if_neg (fun h=>absurd h.2 (by rw[hbl h.1];decide)),if_neg (fun h=>hoa h.1 h.2),h2,if_pos (by decide)];exact DR _
    have hc13:=bp hb13;have h2:DV f src to A O e2=0:=by unfold DV;simp[hc10,hc11,hc12,hc13]
    refine BH (?_);refine AG ?_;exact⟨_,⟨h2,rfl⟩,(wk 6 0)⟩
   have hc11:=bp hb11;refine A3 (h:=A3 (h:=Aj (h:=e_ (F6 (h:=AO (q_ (w_ (m_ (h:=Bt (h:=m_ (h:=m_ (h:=AY (h:=e_ (?_))))))))))))));refine AA rfl (fun hb14=>?_) (fun hb14=>?_)
   ·have hc14:=bp hb14;refine w_ (Aa (h:=s_ (h:=a_ (h:=a_ (h:=e_ (A4 (A9 (A9 (?_)))))))));refine BS (r:=CH (EL f src name to name2)) none (h5:=?_) (h6:=⟨rfl,rfl,rfl⟩);have h2:DV f src to A O e2=20:=by unfold DV;simp[hc10,hc11,hc14]
    rw[hRen,if_neg (by rw[hord];simp),if_neg (by simp[he1]),if_neg (by simp[hc5]),if_neg (fun h=>absurd h.2 (by rw[hbl h.1];decide)),if_neg (fun h=>hoa h.1 h.2),h2,if_pos (by decide)];exact DR _
   have hc14:=bp hb14;have h2:DV f src to A O e2=0:=by unfold DV;simp[hc10,hc11,hc14]
   refine AO (w_ (m_ (h:=m_ (h:=A3 (h:=A3 (h:=A3 (h:=A3 (h:=Aj (h:=e_ (F6 (h:=BH (?_))))))))))));refine AG ?_;exact⟨_,⟨h2,rfl⟩,(wk 6 0)⟩
  have hc10:=bp hb10;refine w_ (l_ (h:=l_ (h:=?_)));refine A8 rfl (AN (Nt f to hf) ?_);rintro r rfl;refine m_ (h:=?_);refine Aw true rfl rfl (fun hb15=>?_) (fun hb15=>?_)
  ·have hc15:=bp hb15;refine l_ (h:=l_ (h:=?_));refine Ax (EQ rfl rfl (by repeat constructor) (by repeat constructor) (fun w=>Nu _ _ _ _ w) (by kernel_rfl) ?_);refine AY (h:=e_ (?_));refine AA rfl (fun hb16=>?_) (fun hb16=>?_)
   ·have hc16:=bp hb16;refine w_ (Aa (h:=s_ (h:=a_ (h:=a_ (h:=e_ (A4 (A9 (?_))))))));refine BS (r:=CH (EL f src name to name2)) none (h5:=?_) (h6:=⟨rfl,rfl,rfl⟩);have h2:DV f src to A O e2=28:=by unfold DV;rw[if_neg hc10,if_pos ⟨hc15,hc16⟩]
    rw[hRen,if_neg (by rw[hord];simp),if_neg (by simp[he1]),if_neg (by simp[hc5]),if_neg (fun h=>absurd h.2 (by rw[hbl h.1];decide)),if_neg (fun h=>hoa h.1 h.2),h2,if_pos (by decide)];exact DR _
   have hc16:=bp hb16;have h2:DV f src to A O e2=0:=by unfold DV;rw[if_neg hc10,if_neg (fun h=>h.2 hc16)]
   refine BH (?_);refine AG ?_;exact⟨_,⟨h2,rfl⟩,(wk 6 0)⟩
  have hc15:=bp hb15;have h2:DV f src to A O e2=0:=by unfold DV;rw[if_neg hc10,if_neg (fun h=>absurd (h.1.symm.trans hc15) (by decide))]
  refine A3 (h:=A3 (h:=A3 (h:=Aj (h:=e_ (F6 (h:=BH (?_)))))));refine AG ?_;exact⟨_,⟨h2,rfl⟩,(wk 6 0)⟩
 rintro t ⟨h2,rfl⟩;obtain⟨q,i,d,n1,hsq,hq,hn1,hn1i,hidx,hnode,hk1,hnm1⟩:=GD hpl1;obtain⟨q',i2,d',n2,htq,hq',hn2,hn2i, -,hnode2,hk2,hnm2⟩:=GD hpl2;obtain rfl:q=q':=by omega
 obtain rfl:d=d':=Option.some.inj (hq.symm.trans hq');have hvd:=hv.vd d (Au hq);have hql:=(Ag.1 hq).1;have hil:=(Ag.1 hn1).1;obtain⟨e,he,hle⟩:=MX hnode hk1 (by rw[hl1];exact he1);have hA1:A=(src.1,e.2):=by rw[hl1]at hle;exact congrArg Prod.fst hle
 have hAm:∃m∈d.nodes,m.ino=A.2:=by rw[hA1];exact(hvd.ent n1 (Au hn1) e (GA he).1).2.2
 obtain⟨X1,X2,m2,hX1,hm2,hm2i,hX2,hasc1,hasc2,hx1l,hx2l,hX2D,hf1,hf2,hb2,⟨r,hr,hr1⟩,⟨am,ham,hami⟩⟩:=XK hv hq hn1 hn2 name name2 A.2 hAm;have hidx2:ER (f.set q ⟨d.next,X1⟩) to=(i2:Int):=Oh htq (d:=⟨d.next,X1⟩) (by simp[hql]) hasc1 hm2 (hm2i.trans hn2i)
 have hoo:e2=0→O.1=(q:Int)∧0<(Ct O.2 X2).length:=by
  intro h;obtain⟨e',he',hle'⟩:=MX hnode2 hk2 (by rw[hl2];exact h);have hO1:O=(to.1,e'.2):=by rw[hl2]at hle';exact congrArg Prod.fst hle'
  refine⟨by rw[hO1];exact htq,Rt hr ?_⟩;rw[hr1,hO1];exact(hvd.ent n2 (Au hn2) e' (GA he').1).2.1.symm
 have hO1:e2=0→O.1=A.1:=fun h=>by rw[(hoo h).1,hA1];exact hsq.symm
 obtain⟨NS,hNS⟩:∃NS,NS=(if e2=0 then C1 X2 O.2 else X2):=⟨_,rfl⟩
 have hNSf:NS=X2∨(e2=0∧NS=C1 X2 O.2):=by
  by_cases h:e2=0
  ·exact .inr ⟨h,by rw[hNS,if_pos h]⟩
  exact .inl (by rw[hNS,if_neg h])
 have hsub:NS.Sublist X2:=by
  rcases hNSf with h|⟨_,h⟩
  ·rw[h];exact List.Sublist.refl _
  rw[h];exact List.filter_sublist
 have hasc3:DQ NS:=hasc2.sublist hsub
 have hAN:am∈NS:=by
  rcases hNSf with h|⟨h0,h⟩
  ·rw[h];exact ham
  rw[h];refine List.mem_filter.2 ⟨ham,decide_eq_true (.inl fun e=>hoa h0 ?_)⟩;exact Prod.ext (hO1 h0) (by rw[←e,hami])
 obtain⟨i3,hm3⟩:=List.getElem?_of_mem hAN;have hil3:=(Ag.1 hm3).1;have hf3:FlsB (f.set q ⟨d.next,NS⟩):=hf.set_ (by have:=hsub.length_le;have:=hvd.len;show NS.length≤1000;omega) fun m hm=>hb2 m (hsub.subset hm);have hidx3:ER (f.set q ⟨d.next,NS⟩) A=(i3:Int):=Oh (by rw[hA1];exact hsq) (d:=⟨d.next,NS⟩) (by simp[hql]) hasc3 hm3 hami;obtain⟨m3,rfl⟩:∃m3,m3=am:=⟨_,rfl⟩;have hm3i:=hami;obtain⟨NS2,hNS2⟩:∃NS2,NS2=Hc NS A.2 to.2 (Al f A):=⟨_,rfl⟩;refine w_ (l_ (h:=?_));refine A8 rfl (DN [] rfl (.cons _ _ _ _ _ rfl (AM _) .nil) (by decide) .nil (MK f q d hf hq (by omega)) ?_);rintro r bc tc ⟨rfl,cap,cap1,hcap,hcap1,rfl,rfl⟩;refine⟨rfl,_,(MV (n:=6) rfl f q d d.nodes cap cap1:Back _ [] _ [_,_,_,_,_,_,_,_]),?_⟩;have hcx1:X1.length≤cap1:=by omega
 have hcx2:X2.length≤cap1:=by omega
 refine Ak (h:=s_ (h:=e_ (w_ (l_ (h:=l_ (h:=m_ (h:=?_)))))));refine A8 rfl (DN [6,7] rfl (.cons _ _ _ _ _ rfl (AM _) (.cons _ _ _ _ _ rfl (AM _) (.cons _ _ _ _ _ rfl (AM _) (.cons _ _ _ _ _ rfl (AM _) .nil)))) (by decide) (.cons _ _ _ _ _ rfl (Fd (by rfl) _ _ _ _ _) (.cons _ _ _ _ _ rfl (FS _ _ _) .nil)) (MP f q d n1 i src name 0 cap cap1 hf hq hsq hidx hn1 hcap hcap1) ?_);rintro r bc tc ⟨rfl,rfl,rfl⟩;rw[show d.nodes.set i {n1 with entries:=CE n1.entries name 0}=X1 from hX1.symm];refine⟨rfl,_,(LJ (BK rfl) (BK rfl) (by decide) f q d X1 cap cap1 cap1:Back _ [6,7] _ [_,_,_,_,_,_,_,_,_]),?_⟩;refine e_ (w_ (l_ (h:=l_ (h:=m_ (h:=f_ (h:=l_ (h:=?_)))))));refine A8 rfl (DN [6,7] rfl (.cons _ _ _ _ _ rfl (AM _) (.cons _ _ _ _ _ rfl (AM _) (.cons _ _ _ _ _ rfl (AM _) (.cons _ _ _ _ _ rfl (AM _) .nil)))) (by decide) (.cons _ _ _ _ _ rfl (Fd (by rfl) _ _ _ _ _) (.cons _ _ _ _ _ rfl (FS _ _ _) .nil)) (XJ f q d ⟨d.next,X1⟩ m2 i2 to name2 A.2 cap cap1 hf1 hql htq hidx2 hm2 hcap hcx1 rfl hx1l) ?_);rintro r bc tc ⟨rfl,rfl,rfl⟩;refine⟨rfl,?_⟩;dsimp only;rw[←hX2];refine⟨_,(LJ (BK rfl) (BK rfl) (by decide) f q ⟨d.next,X2⟩ X2 cap cap1 cap1:Back _ [6,7] _ [_,_,_,_,_,_,_,_,_]),?_⟩;refine e_ (?_);refine BR (fun t=>∃capx,NS.length≤capx∧t=⟨look [(2, .v (.string name)),(4, .v (.string name2)),(6, .bp 1 0),(8, .bp 2 0),(10, .bp 3 0),(17, .bp 4 0),(19, .v (.bool (Al f A))),(20, .bp 5 0),(22, .bp 8 0)],⟨[Am f,A7 src,A7 to,[.v (.slice none 0 0)],A7 A,A7 O,DB f q ⟨d.next,NS⟩ 7 cap capx,NB NS capx,[.bs 6 0 2 f.length cap]],[]⟩⟩) ?_ ?_
 ·skip
  refine w_ (m_ (h:=Ah (h:=e_ (?_))));refine AA rfl (fun hb17=>?_) (fun hb17=>?_)
  ·have hc17:=bp hb17;have he2:e2=0:=hc17;obtain⟨hoq,hkp⟩:=hoo he2;refine AX (l_ (h:=l_ (h:=?_)));refine A8 rfl (DN [6,7] rfl (.cons _ _ _ _ _ rfl (AM _) (.cons _ _ _ _ _ rfl (AM _) .nil)) (by decide) (.cons _ _ _ _ _ rfl (Fd (by rfl) _ _ _ _ _) (.cons _ _ _ _ _ rfl (FS _ _ _) .nil)) (Ru f q ⟨d.next,X2⟩ ⟨d.next,X2⟩ O cap cap1 hf2 hql hoq hcap hcx2 hkp rfl rfl) ?_);rintro r bc tc ⟨rfl,rfl,⟨hns,rfl⟩|⟨hns,cap2,hcap2,rfl⟩⟩
   ·refine⟨rfl,_,(Rq (n:=9) rfl (by decide) (by decide) (by decide) f q ⟨d.next,X2⟩ X2 O f.length cap cap cap1 cap1:Back _ [6,7] _ [_,_,_,_,_,_,_,_,_,_,_]),?_⟩;obtain rfl:NS=X2:=by rw[hNS,if_pos (by assumption)];exact hns
    refine AT (?_);refine AG ?_
    first|exact⟨_,⟨_,hcap2,rfl⟩,E7 [0,1,2,3,4,5,6,11,8] (fun i hi=>absurd hi (Nat.not_lt_zero i)) (by decide) (.cons _ _ _ _ _ rfl rfl (.cons _ _ _ _ _ rfl rfl (.cons _ _ _ _ _ rfl rfl (.cons _ _ _ _ _ rfl rfl (.cons _ _ _ _ _ rfl rfl (.cons _ _ _ _ _ rfl rfl (.cons _ _ _ _ _ rfl (HQ (by rfl) _ _ _ _ _) (.cons _ _ _ _ _ rfl (Fe _ _ _) (.cons _ _ _ _ _ rfl rfl .nil))))))))) (by repeat (first|exact SubK.nil|refine SubK.cons _ _ _ _ rfl (AM _) ?_))⟩|exact⟨_,⟨_,hcx2,rfl⟩,BT 9 0 (by simp[Ai,Ac,Af,Bg,Bh,A7,Am])⟩
   refine⟨rfl,_,(Rp (n:=9) rfl (by decide) (by decide) (by decide) f q ⟨d.next,Ct O.2 X2⟩ X2 (Ct O.2 X2) O f.length cap cap cap1 cap2:Back _ [6,7] _ [_,_,_,_,_,_,_,_,_,_,_,_]),?_⟩;have hNSk:NS=Ct O.2 X2:=by rw[hNS,if_pos (by assumption)];exact hns
   rw[←hNSk]at hcap2;rw[←hNSk];refine AT (?_);refine AG ?_
   first|exact⟨_,⟨_,hcap2,rfl⟩,E7 [0,1,2,3,4,5,6,11,8] (fun i hi=>absurd hi (Nat.not_lt_zero i)) (by decide) (.cons _ _ _ _ _ rfl rfl (.cons _ _ _ _ _ rfl rfl (.cons _ _ _ _ _ rfl rfl (.cons _ _ _ _ _ rfl rfl (.cons _ _ _ _ _ rfl rfl (.cons _ _ _ _ _ rfl rfl (.cons _ _ _ _ _ rfl (HQ (by rfl) _ _ _ _ _) (.cons _ _ _ _ _ rfl (Fe _ _ _) (.cons _ _ _ _ _ rfl rfl .nil))))))))) (by repeat (first|exact SubK.nil|refine SubK.cons _ _ _ _ rfl (AM _) ?_))⟩|exact⟨_,⟨_,hcx2,rfl⟩,BT 9 0 (by simp[Ai,Ac,Af,Bg,Bh,A7,Am])⟩
  have hc17:=bp hb17;have he2:¬e2=0:=hc17;obtain rfl:NS=X2:=by rw[hNS,if_neg he2]
  refine BH (?_);refine AG ?_
  first|exact⟨_,⟨_,hcap2,rfl⟩,E7 [0,1,2,3,4,5,6,11,8] (fun i hi=>absurd hi (Nat.not_lt_zero i)) (by decide) (.cons _ _ _ _ _ rfl rfl (.cons _ _ _ _ _ rfl rfl (.cons _ _ _ _ _ rfl rfl (.cons _ _ _ _ _ rfl rfl (.cons _ _ _ _ _ rfl rfl (.cons _ _ _ _ _ rfl rfl (.cons _ _ _ _ _ rfl (HQ (by rfl) _ _ _ _ _) (.cons _ _ _ _ _ rfl (Fe _ _ _) (.cons _ _ _ _ _ rfl rfl .nil))))))))) (by repeat (first|exact SubK.nil|refine SubK.cons _ _ _ _ rfl (AM _) ?_))⟩|exact⟨_,⟨_,hcx2,rfl⟩,BT 9 0 (by simp[Ai,Ac,Af,Bg,Bh,A7,Am])⟩
 rintro t ⟨capx,hcapx,rfl⟩;refine BR (fun t=>t=⟨look [(2, .v (.string name)),(4, .v (.string name2)),(6, .bp 1 0),(8, .bp 2 0),(10, .bp 3 0),(17, .bp 4 0),(20, .bp 5 0),(22, .bp 8 0)],⟨[Am f,A7 src,A7 to,[.v (.slice none 0 0)],A7 A,A7 O,DB f q ⟨d.next,NS⟩ 7 cap capx,NB NS2 capx,[.bs 6 0 2 f.length cap]],[]⟩⟩) ?_ ?_
 ·skip
  refine w_ (m_ (h:=e_ (?_)));refine AA rfl (fun hb18=>?_) (fun hb18=>?_)
  ·have hc18:=bp hb18;have e4:NS.set i3 {m3 with parent:=to.2}=NS2:=by rw[hNS2,Hc,if_pos hc18,MW hasc3 hm3 (fun n=>{n with parent:=to.2}),hm3i]
   have hset3:SetAt (NB NS capx) (0+i3 * 8+5) [.v (.int .i64 to.2)] (NB NS2 capx):=by
    rw[←e4];exact RG hm3 (by repeat constructor) (by simp)
   refine Bo ([(0,Am f),(1,A7 src),(2,A7 to),(3,[.v (.slice none 0 0)]),(4,A7 A),(5,A7 O),(6,DB f q ⟨d.next,NS⟩ 7 cap capx),(8,[.bs 6 0 2 f.length cap])]) 15 (h:=AJ 0 (h:=?_))
   first|refine AF 1 (h:=?_)|refine B5 1 rfl (fun _ hS=>Bd (row:=DB f q ⟨d.next,NS⟩ 7 cap capx) rfl (kb hS rfl) (Ge hql) ⟨rfl,rfl⟩) ?_
   refine AJ 2 (h:=?_)
   first|refine AF 3 (h:=?_)|refine B5 3 rfl (fun _ hS=>Bd (row:=DB f q ⟨d.next,NS⟩ 7 cap capx) rfl (kb hS rfl) (Ge hql) ⟨rfl,rfl⟩) ?_
   refine B5 4 rfl (fun _ hS=>D6 (m:=q) rfl rfl htq hql ⟨rfl,rfl⟩) ?_;refine AJ 5 (h:=?_)
   first|refine AF 6 (h:=?_)|refine B5 6 rfl (fun _ hS=>Bd (row:=DB f q ⟨d.next,NS⟩ 7 cap capx) rfl (kb hS rfl) (Ge hql) ⟨rfl,rfl⟩) ?_
   first|refine AF 7 (h:=?_)|refine B5 7 rfl (fun _ hS=>Bd (row:=DB f q ⟨d.next,NS⟩ 7 cap capx) rfl (kb hS rfl) (Ge hql) ⟨rfl,rfl⟩) ?_
   first|refine AF 8 (h:=?_)|refine B5 8 rfl (fun _ hS=>Bd (row:=DB f q ⟨d.next,NS⟩ 7 cap capx) rfl (kb hS rfl) (Ge hql) ⟨rfl,rfl⟩) ?_
   refine AJ 10 (h:=?_)
   first|refine AF 11 (h:=?_)|refine B5 11 rfl (fun _ hS=>Bd (row:=DB f q ⟨d.next,NS⟩ 7 cap capx) rfl (kb hS rfl) (Ge hql) ⟨rfl,rfl⟩) ?_
   refine c_ 9 rfl (EJ 2 rfl (.cons _ _ _ _ _ rfl (LeA.of_eq (XB (d:=⟨d.next,NS⟩) hql hcap hcapx (BC _) (BC _) rfl rfl)) (.cons _ _ _ _ _ rfl (AM _) .nil)) (Hz (f.set q ⟨d.next,NS⟩) A hf3) ?_);rintro r rfl;refine⟨rfl,?_⟩;refine o_ (h:=?_);refine B5 12 rfl (fun _ hS=>D6 (m:=i3) rfl rfl hidx3 hil3 ⟨rfl,rfl⟩) ?_;refine AJ 13 (h:=?_);refine BA 14 rfl (B1 rfl rfl rfl rfl rfl rfl hset3 (by repeat constructor) ?_);refine o_ (h:=z_ (h:=?_));refine AG ?_;exact⟨_,rfl,BT 9 0 (by simp[Ai,Ac,Af,Bg,Bh,A7,Am])⟩
  have hc18:=bp hb18;obtain rfl:NS2=NS:=by rw[hNS2,Hc,if_neg (by rw[hc18];decide)]
  refine BH (?_);refine AG ?_;exact⟨_,rfl,BT 9 0 (by simp[Ai,Ac,Af,Bg,Bh,A7,Am])⟩
 rintro t rfl;have hl3:NS2.length=NS.length:=by rw[hNS2];unfold Hc;split<;>simp[Ck]
 have hcapx2:NS2.length≤capx:=by omega
 refine BR (fun t=>t=⟨look [(10, .bp 3 0),(11, .sl 7 ([(src,name,A,(0,0)),(to,name2,O,A)].map C2) none),(12, .v (.int .i64 0))],⟨[Am f,A7 src,A7 to,Am (f.set q ⟨d.next,NS2⟩)],[]⟩⟩) ?_ ?_
 ·skip
  refine Bo ([(0,Am f),(1,A7 src),(2,A7 to),(4,A7 A),(5,A7 O),(6,DB f q ⟨d.next,NS⟩ 7 cap capx),(7,NB NS2 capx),(8,[.bs 6 0 2 f.length cap])]) 15 (h:=AF 0 (h:=AF 1 (h:=AQ 2 (h:=AF 3 (h:=?_)))));refine B5 4 rfl (fun _ hS=>F1 (y:= .agg (A7 (0,0))) (D8 ⟨rfl,rfl⟩) (by repeat (first|exact AM _|exact LeA.nil _|exact LeL.refl _|refine LeA.agg ⟨rfl,rfl⟩|refine LeA.tup ⟨rfl,rfl⟩|exact LeL.nil|refine LeL.cons ⟨rfl,rfl⟩ ⟨rfl,rfl⟩|exact LeA.any _)) ⟨rfl,rfl⟩) ?_;refine AF 6 (h:=AQ 7 (h:=AF 8 (h:=AF 9 (h:=?_))));refine c_ 5 rfl (DN [] rfl (.cons _ _ _ _ _ rfl (AM _) (.cons _ _ _ _ _ rfl (AM _) (.cons _ _ _ _ _ rfl (AM _) (.cons _ _ _ _ _ rfl (AM _) .nil)))) (by decide) .nil (XG src name A (0,0)) ?_);rintro r bc tc ⟨rfl,rfl,rfl⟩;refine⟨rfl,_,(XF _ (XH _ _ _ _):Back _ [] _ [_,_,_,_,_,_,_,_,_,_,_,_,_]),?_⟩;refine o_ (h:=?_);refine c_ 10 rfl (AN (Kk to name2 O A) ?_);rintro r rfl;refine o_ (h:=?_);refine c_ 11 rfl (Ka rfl rfl rfl (BK rfl) Ha (by omega) (by omega) (fun h=>absurd h (by omega)) ?_);rintro hg cap4 k bx2 hcp4 hs;obtain⟨rfl,rfl⟩:k=13∧bx2=[_,_,_,_,_,_,_,_,_,_,_,_,_,C3 7 cap4 ([(src,name,A,(0,0)),(to,name2,O,A)].map C2)]:=hs.eq;refine o_ (h:=?_);refine BA 12 rfl (B1 rfl rfl rfl rfl rfl rfl (by repeat constructor) (by repeat constructor) ?_);refine o_ (h:=BO 13 (h:=BO 14 (h:=z_ (h:=?_))));refine AG ?_;exact⟨_,rfl,Fx 4 2 rfl (congrArg (fun x=>[Am f,A7 src,A7 to,x]) (J9 (k:=0) (i:=6) (j:=7) (d:=⟨d.next,NS⟩) (d':=⟨d.next,NS2⟩) hql rfl hl3 hcap hcapx2 (BK rfl) (BK rfl) rfl rfl)) (.cons _ _ _ _ rfl (AM _) (.cons _ _ _ _ rfl (LeA.of_eq (S8 (rows:=[(src,name,A,(0,0)),(to,name2,O,A)].map C2) (BK rfl) (XC (n:=4) (k:=1) (j:=13) (BK rfl) rfl (XD _)) (XE _) rfl hcp4)) (.cons _ _ _ _ rfl (AM _) .nil)))⟩
 rintro t rfl;refine A4 (?_);refine AD ?_;rw[hRen,if_neg (by rw[hord];simp),if_neg (by simp[he1]),if_neg (by simp[hc5]),if_neg (fun h=>absurd h.2 (by rw[hbl h.1];decide)),if_neg (fun h=>hoa h.1 h.2),if_neg (by rw[h2];simp),htq,Int.toNat_natCast,JA hq,show Jm d.nodes src name to name2 A O e2=NS by rw[hNS,hX2D,hn1i,hn2i];rfl,←hNS2];rfl
end
end Go.Proofs.YtobclmbkdhbnpaaGreatDoor
namespace Go.Proofs.YtobclmbkdhbnpaaGreatDoor
theorem FlsV.set_{f:AR}(h:FlsV f){q:Nat}{d':Dvc}(hd:VD d'):FlsV (f.set q d'):=by
 refine⟨by simpa using h.few,fun d hm=>?_⟩;rcases List.mem_or_eq_of_mem_set hm with h1|h1
 ·exact h.vd d h1
 rw[h1];exact hd
theorem Ma{f:AR}{a:A6}(h:Cd f a=true):∃(q i:Nat) (d:Dvc) (m:Nod),a.1=(q:Int)∧f[q]?=some d∧d.nodes[i]?=some m∧m.ino=a.2∧Bj f a=some m∧AU f a=m:=by
 rcases H5 f a with⟨_,h2⟩|⟨q,i,d,n,h1,h2,h3,h4,h5,h6⟩
 ·simp[Cd,h2]at h
 exact⟨q,i,d,n,h1,h2,h3,h4,h6,by simp[AU,h6]⟩
theorem Ok{f:AR}{a:A6}{q:Nat}{d:Dvc}{m:Nod}(ha:a.1=(q:Int))(hq:f[q]?=some d)(hd:DQ d.nodes)(hm:m∈d.nodes)(hi:m.ino=a.2):Bj f a=some m:=by
 unfold Bj;rw[ha,Hw,hq];simp only
 cases h:d.nodes.find? (fun n=>n.ino==a.2)with
 |none=>
   have:=List.find?_eq_none.1 h m hm;simp[hi]at this
 |some n=>
   have h1:=List.mem_of_find?_eq_some h;have h2:=List.find?_some h;simp only[beq_iff_eq]at h2;rw[D2 hd h1 hm (by omega)]
theorem Mb{f:AR}{dir:A6}{name:AB}{n0:Nod}(hn:Bj f dir=some n0)(hk:n0.kind=2)(h:(AK f dir name).2≠0):Cw n0.entries name=none∧(AK f dir name).1=(0,0):=by
 unfold AK at h ⊢;rw[hn]at h ⊢;simp only[hk,if_true]at h ⊢;unfold Cw;split at h
 ·rename_i he;exact⟨he,rfl⟩
 exact absurd rfl h
theorem Ol{f:AR}{dir:A6}{n0:Nod}(hn:Bj f dir=some n0)(h:¬GW f dir=true):n0.entries.length<12:=by
 unfold GW at h;rw[hn]at h;simp at h;omega
theorem Om(f:AR)(q:Nat)(g:List Nod→List Nod):(GC f q g).length=f.length:=by simp[GC]
def JB(f:AR)(R:Df):Prop:=R.2.2=0→FlsV R.1∧R.1.length=f.length
theorem EA{f:AR}{e:Int}(h:e≠0):JB f ([],[],e):=fun h0=>absurd h0 h
theorem XM{f:AR}(hv:FlsV f)(dir:A6)(name:AB)(a:A6):JB f (DS f dir name a):=by
 unfold DS;split
 ·rename_i h;exact EA h
 rename_i hp;split
 ·exact EA (by decide)
 rename_i hh;split
 ·exact EA (by decide)
 rename_i hdev;split
 ·exact EA (by decide)
 rename_i hk;split
 ·exact EA (by decide)
 rename_i hl;split
 ·exact EA (by decide)
 rename_i hfl;intro _;obtain⟨q,i,d,n0,hdq,hq,hn0,hino,hidx,hnode,hk0,hnm⟩:=GD (name:=name) (dir:=dir) (f:=f) (by omega);obtain⟨q',i',d',m,haq,hq',hm,hmi,hnm2,hng⟩:=Ma (f:=f) (a:=a) (by simpa using hh);obtain rfl:q=q':=by omega
 obtain rfl:d=d':=Option.some.inj (hq.symm.trans hq');have hvd:=hv.vd d (Au hq);have key:=hvd.linked (Au hn0) hk0 (Au hm) (by rw[←hng];exact hk) hnm (Mb hnode hk0 hl).1 (Ol hnode hfl);rw[hino,hmi]at key;refine⟨?_,by dsimp only;exact Om _ _ _⟩;dsimp only;rw[hdq,Int.toNat_natCast,JA hq];exact hv.set_ key
theorem JC{f:AR}{a:A6}{m:Nod}(h:Bj f a=some m):Al f a=true↔m.kind=2:=by
 unfold Al;rw[h];simp
theorem XN{f:AR}{a:A6}{m:Nod}(h:Bj f a=some m):H6 f a=true↔m.entries=[]:=by
 unfold H6;rw[h];simp
theorem On{f:AR}(hv:FlsV f){dir:A6}{name:AB}{q i:Nat}{d:Dvc}{n0:Nod}(hdq:dir.1=(q:Int))(hq:f[q]?=some d)(hn0:d.nodes[i]?=some n0)(hnode:Bj f dir=some n0)(hk0:n0.kind=2)(hl:(AK f dir name).2=0):
    ∃e m,Cw n0.entries name=some e∧AK f dir name=((dir.1,e.2),0)∧m∈d.nodes∧e.2=m.ino∧e.2≠1∧Bj f (AK f dir name).1=some m:=by
 obtain⟨e,he,hle⟩:=MX hnode hk0 hl;have hvd:=hv.vd d (Au hq);obtain⟨_,h1,m,hm,h2⟩:=hvd.ent n0 (Au hn0) e (GA he).1;refine⟨e,m,he,hle,hm,h2.symm,h1,?_⟩;rw[hle];exact Ok hdq hq hvd.asc hm h2
theorem XO{f:AR}(hv:FlsV f)(dir:A6)(name:AB):JB f (EV f dir name):=by
 unfold EV;split
 ·rename_i h;exact EA h
 rename_i hp;split
 ·rename_i h;exact EA h
 rename_i hl;split
 ·exact EA (by decide)
 rename_i hk;intro _;obtain⟨q,i,d,n0,hdq,hq,hn0,hino,hidx,hnode,hk0,hnm⟩:=GD (name:=name) (dir:=dir) (f:=f) (by omega);obtain⟨e,m,he,hle,hm,h1,h2,h3⟩:=On hv hdq hq hn0 hnode hk0 (name:=name) (by omega);have hvd:=hv.vd d (Au hq);have key:=hvd.removed (Au hn0) hm (hvd.leaf m hm fun h=>hk ((JC h3).2 h)).2 he h1;refine⟨?_,by dsimp only;exact Om _ _ _⟩;dsimp only;rw[hdq,Int.toNat_natCast,JA hq,show(AK f dir name).1.2=m.ino by rw[hle];exact h1,←hino];exact hv.set_ key
theorem Oo{f:AR}(hv:FlsV f)(dir:A6)(name:AB)(n:Nod):JB f (DU f dir name n):=by
 unfold DU;split
 ·rename_i h;exact EA h
 rename_i hp;split
 ·exact EA (by decide)
 rename_i hpl;split
 ·exact EA (by decide)
 rename_i hl;obtain⟨q,i,d,n0,hdq,hq,hn0,hino,hidx,hnode,hk0,hnm⟩:=GD (name:=name) (dir:=dir) (f:=f) (by omega);have hat:En f dir.1=some d:=by rw[hdq,Hw,hq]
 rw[hat];simp only;split
 ·exact EA (by decide)
 rename_i hc;intro _;have hvd:=hv.vd d (Au hq);have hnm2:=hvd.nextM;have key:=hvd.make (Au hn0) hk0 hnm (Mb hnode hk0 hl).1 (n:=n) (by simpa using hpl) (by omega) (by omega) (Ol hnode (fun h=>hc (.inr (.inr h))));refine⟨?_,by simp⟩;dsimp only;rw[hdq,Int.toNat_natCast,←hino];exact hv.set_ key
theorem XP{ns:List Nod}{a o:Int}{g:Nod→Nod}(hi:∀n,(g n).ino=n.ino)(he:∀n,(g n).entries=n.entries):C1 (Ck ns a g) o=Ck (C1 ns o) a g:=by
 have hc:Bc o (Ck ns a g)=Bc o ns:=by
  unfold Bc
  congr 1
  unfold Ck;rw[List.flatMap_map]
  congr 1
  funext n
  split
  ·rw[he]
  rfl
 unfold C1;rw[hc];unfold Ck;rw[List.filter_map]
 congr 1
 apply List.filter_congr;intro n _;simp only[Function.comp];split
 ·rw[hi]
 rfl
theorem XQ{ns:List Nod}{a:Int}{g:Nod→Nod}(h:∀n∈ns,n.ino=a→g n=n):Ck ns a g=ns:=by
 unfold Ck
 conv=>rhs;rw[←List.map_id ns]
 apply List.map_congr_left;intro n hn;split
 ·rename_i e;rw[h n hn e];rfl
 rfl
theorem XR{ns:List Nod}{a:Int}{g g':Nod→Nod}(h:∀n∈ns,n.ino=a→g n=g' n):Ck ns a g=Ck ns a g':=by
 unfold Ck;apply List.map_congr_left;intro n hn;split
 ·rename_i e;rw[h n hn e]
 rfl
theorem SC{f:AR}{q:Nat}{d:Dvc}(hq:f[q]?=some d)(hd:DQ d.nodes){top:A6}(ht:top.1=(q:Int)):∀(k n:Nat) (a:A6),k<n→a.1=(q:Int)→LG d.nodes k a.2 top.2→G6 f top n a=true
 |_,0,_,h,_,_=>by omega
 |0,n+1,a,_,ha,hk=>by
   have e:a.2=top.2:=hk;unfold G6;rw[if_neg (by omega),if_pos (Prod.ext (by omega) e)]
 |k+1,n+1,a,h,ha,hk=>by
   obtain⟨m,hm,h1,h2,h3,h4⟩:=hk;unfold G6;rw[if_neg (by omega)];split
   ·rfl
   have hn:=Ok ha hq hd hm h1;refine SC hq hd ht k n _ (by omega) ha ?_;simp only[AU,hn,Option.getD_some];exact h4
theorem SD{f:AR}(hv:FlsV f)(src:A6)(name:AB)(to:A6)(name2:AB):JB f (EL f src name to name2):=by
 unfold EL;split
 ·rename_i h;exact EA h
 rename_i hord;obtain⟨hpl1,hpl2⟩:=S7 (f:=f) (x:=src) (y:=to) (name:=name) (name2:=name2) (by omega);split
 ·rename_i h;exact EA h
 rename_i hl1;split
 ·exact EA (by decide)
 rename_i hdev;split
 ·exact EA (by decide)
 rename_i hbel;split
 ·intro _;exact⟨hv,rfl⟩
 rename_i hsame;split
 ·rename_i h;exact EA h
 rename_i hr2;intro _;obtain⟨q,i,d,n1,hsq,hq,hn1,hn1i,hidx,hnode,hk1,hnm1⟩:=GD hpl1;obtain⟨q',i2,d',n2,htq,hq',hn2,hn2i, -,hnode2,hk2,hnm2⟩:=GD hpl2;obtain rfl:q=q':=by omega
 obtain rfl:d=d':=Option.some.inj (hq.symm.trans hq');have hvd:=hv.vd d (Au hq);obtain⟨e,m,he,hle,hm,hem,he1,hmn⟩:=On hv hsq hq hn1 hnode hk1 (name:=name) (by omega);have hA2:(AK f src name).1.2=m.ino:=by rw[hle];exact hem
 have hmoves:Al f (AK f src name).1=true↔m.kind=2:=JC hmn
 have hanc:m.kind=2→¬F9 d.nodes n2.ino m.ino:=by
  rintro hmk ⟨k,hk⟩;have hlen:=hvd.anc_len hm hk;have:=hvd.len;refine hbel ⟨hmoves.2 hmk,SC hq hvd.asc (top:=(AK f src name).1) (by rw[hle];exact hsq) k 17 to (by omega) htq ?_⟩;rw[hA2,←hn2i];exact hk
 have hdiff:n1.ino=n2.ino→name≠name2:=by
  rintro h rfl;have est:to=src:=Prod.ext (by omega) (by omega);subst est;exact hsame ⟨by omega,rfl⟩
 have ho:(Cw n2.entries name2=none∧(n2.entries.length<12∨n1.ino=n2.ino)∧(AK f to name2).1.2=0)∨(∃eo o,Cw n2.entries name2=some eo∧o∈d.nodes∧eo.2=(AK f to name2).1.2∧o.ino=(AK f to name2).1.2∧(AK f to name2).1.2≠m.ino∧o.entries=[]):=by
  have hr3:DV f src to (AK f src name).1 (AK f to name2).1 (AK f to name2).2=0:=by omega
  unfold DV at hr3;by_cases h0:(AK f to name2).2=0
  ·right;rw[if_pos h0]at hr3;obtain⟨eo,o,heo,hleo,hom,heoi,heo1,hon⟩:=On hv htq hq hn2 hnode2 hk2 (name:=name2) h0;have hO2:(AK f to name2).1.2=eo.2:=by rw[hleo]
   refine⟨eo,o,heo,hom,hO2.symm,by rw[hO2,heoi],?_,?_⟩
   ·intro h;refine hsame ⟨h0,Prod.ext ?_ (h.trans hA2.symm)⟩;rw[hleo,hle];exact htq.trans hsq.symm
   have hdo:=JC hon;by_cases hok:o.kind=2
   ·rw[if_neg (fun h=>by
       rw[if_pos h]at hr3;exact absurd hr3 (by decide))]at hr3
    rw[if_neg (fun h=>by rw[hdo.2 hok]at h;exact absurd h.1 (by decide))]at hr3;split at hr3
    ·exact absurd hr3 (by decide)
    rename_i h5;refine(XN hon).1 ?_
    cases hem2:H6 f (AK f to name2).1 with
    |true=>rfl
    |false=>exact absurd ⟨hdo.2 hok,hem2⟩ h5
   exact(hvd.leaf o hom hok).2
  left;rw[if_neg h0]at hr3;obtain⟨h1,h2⟩:=Mb hnode2 hk2 h0;refine⟨h1,?_,by rw[h2]⟩;split at hr3
  ·exact absurd hr3 (by decide)
  rename_i h3;by_cases hfl:GW f to=true
  ·right;have:src=to:=Classical.byContradiction fun h=>h3 ⟨hfl,h⟩;rw[hn1i,hn2i,this]
  left;exact Ol hnode2 hfl
 have key:=hvd.renamed (Au hn1) (Au hn2) hm hk2 he hem hnm2 hdiff hanc ho;refine⟨?_,by dsimp only;exact Om _ _ _⟩;dsimp only;rw[htq,Int.toNat_natCast,JA hq]
 have hns:Hc (Jm d.nodes src name to name2 (AK f src name).1 (AK f to name2).1 (AK f to name2).2) (AK f src name).1.2 to.2 (Al f (AK f src name).1)=C1 (DG d.nodes n1.ino n2.ino name name2 m.ino) (AK f to name2).1.2:=by
  rw[←Ro,hA2,←hn2i]
  have hY:∀y∈BN (BN d.nodes n1.ino name 0) n2.ino name2 m.ino,y.ino=m.ino→y.kind=m.kind:=by
   intro y hy hyi;obtain⟨y1,h1,w1⟩:=E9 hy;obtain⟨y2,h2,w2⟩:=E9 h1;have:y2=m:=D2 hvd.asc h2 hm (by rw[←w2.ino,←w1.ino];exact hyi);rw[w1.kind,w2.kind,this]
  have hpos:∀y∈BN (BN d.nodes n1.ino name 0) n2.ino name2 m.ino,1≤y.ino:=by
   intro y hy;obtain⟨y1,h1,w1⟩:=E9 hy;obtain⟨y2,h2,w2⟩:=E9 h1;rw[w1.ino,w2.ino];exact hvd.pos h2
  have hset:C1 (Ck (BN (BN d.nodes n1.ino name 0) n2.ino name2 m.ino) m.ino (Ff n2.ino)) (AK f to name2).1.2=Ck (C1 (BN (BN d.nodes n1.ino name 0) n2.ino name2 m.ino) (AK f to name2).1.2) m.ino (Ff n2.ino):=XP (fun n=>by unfold Ff;split<;>rfl) (fun n=>by unfold Ff;split<;>rfl);rw[hset]
  have hN:Jm d.nodes src name to name2 (AK f src name).1 (AK f to name2).1 (AK f to name2).2=C1 (BN (BN d.nodes n1.ino name 0) n2.ino name2 m.ino) (AK f to name2).1.2:=by
   unfold Jm;rw[hA2,←hn1i,←hn2i];split
   ·rfl
   rename_i h0;rw[(Mb hnode2 hk2 h0).2];unfold C1
   symm
   rw[List.filter_eq_self];intro y hy;have:=hpos y hy;exact decide_eq_true (.inl (by show y.ino≠0;omega))
  rw[hN];have hsub:∀y∈C1 (BN (BN d.nodes n1.ino name 0) n2.ino name2 m.ino) (AK f to name2).1.2,y∈BN (BN d.nodes n1.ino name 0) n2.ino name2 m.ino:=fun y hy=>(LF.1 hy).1;unfold Hc;split
  ·rename_i hmv;refine XR fun y hy hyi=>?_;unfold Ff;rw[if_pos ((hY y (hsub y hy) hyi).trans (hmoves.1 hmv))]
  rename_i hmv;refine(XQ fun y hy hyi=>?_).symm;unfold Ff;rw[if_neg (fun h=>hmv (hmoves.2 ((hY y (hsub y hy) hyi).symm.trans h)))]
 rw[hns];exact hv.set_ key
end Go.Proofs.YtobclmbkdhbnpaaGreatDoor
namespace Go.Proofs.YtobclmbkdhbnpaaGreatDoor
open Go.RowKit
def JD:Spc:=⟨[],[]⟩
def XS(s:Spc)(dev:Int)(a:A6):Spc×Int:=
 if dev<1∨(s.files.length:Int)≤dev then(JD,22)else if Cd s.files a=false then(JD,2)else if(AU s.files a).kind≠2 then(JD,20)else if Bz s a.1=false∨a.1=dev then(JD,22)else
 if Bz s dev=true∨(Bv s a).isSome=true then(JD,16)else(⟨s.files,s.mounts++[(dev,a)]⟩,0)
def XT(s:Spc)(dev:Int):Spc×Int:=
 if dev=0∨Bz s dev=false then(JD,22)else if(s.mounts.any fun m=>decide (m.2.1=dev))=true then(JD,16)else(⟨s.files,s.mounts.filter fun m=>decide (m.1≠dev)⟩,0)
theorem XU:VD Jd:=by
 refine⟨by decide,by decide,by decide,⟨ME,[],rfl,rfl,rfl,rfl⟩,List.pairwise_singleton _ _,?_,?_,?_,?_,?_,?_,?_,?_,?_,⟨fun _=>0,?_⟩⟩<;>
  (intro n hn;obtain rfl:n=ME:=by simpa[Jd]using hn)
 ·decide
 ·decide+kernel
 ·intro h;exact absurd rfl h
 ·decide
 ·exact List.Pairwise.nil
 ·intro e he;cases he
 ·intro h;exact absurd rfl h
 ·intro h;exact absurd rfl h
 ·intro h;exact absurd rfl h
 intro h;exact absurd rfl h
theorem XV{k:Int}(h1:1≤k)(h2:k≤3):FlsV (E8 k).1∧0<(E8 k).1.length:=by
 unfold E8;rw[if_neg (by omega)];refine⟨⟨?_,fun d hd=>?_⟩,?_⟩
 ·show(List.replicate _ _).length≤3;rw[List.length_replicate];omega
 ·rw[(List.mem_replicate.1 hd).2];exact XU
 show 0<(List.replicate _ _).length;rw[List.length_replicate];omega
structure MntOK(f:AR)(ms:List DE)(m:DE):Prop where
 dev1:1≤m.1
 dev2:m.1<(f.length:Int)
 fresh:Bz ⟨f,ms⟩ m.1=false
 dir:Al f m.2=true
 there:Bz ⟨f,ms⟩ m.2.1=true
 free:(Bv ⟨f,ms⟩ m.2).isSome=false
structure SpcV(s:Spc):Prop where
 files:FlsV s.files
 pos:0<s.files.length
 mnt:∀i m,s.mounts[i]?=some m→MntOK s.files (s.mounts.take i) m
end Go.Proofs.YtobclmbkdhbnpaaGreatDoor
namespace Go.Proofs.YtobclmbkdhbnpaaGreatDoor
def Ce(s:Spc)(a:A6):Option A6:=if a.2≠1 then some (a.1,(AU s.files a).parent)else Bk s a.1
def ends(s:Spc):Nat→A6→Prop
 |0,a=>Al s.files a=false
 |k+1,a=>Al s.files a=false∨∀b,Ce s a=some b→ends s k b
theorem LM{s:Spc}{dev:Int}{on:A6}(h:Bk s dev=some on):∃m∈s.mounts,m.1=dev∧m.2=on:=by
 unfold Bk at h
 cases hf:s.mounts.find? fun m:DE=>decide (m.1=dev)with
 |none=>rw[hf]at h;cases h
 |some m=>
   rw[hf]at h;injection h with h;exact⟨m,List.mem_of_find?_eq_some hf,by have:=List.find?_some hf;simpa using this,h⟩
theorem JE{f:AR}{a:A6}(h:¬Al f a=false):∃(q:Nat) (d:Dvc) (m:Nod),a.1=(q:Int)∧f[q]?=some d∧m∈d.nodes∧m.ino=a.2∧AU f a=m∧m.kind=2:=by
 rw[Bool.not_eq_false,Fb,Bool.and_eq_true,decide_eq_true_eq]at h;obtain⟨q,i,d,m,h1,h2,h3,h4,_,h6⟩:=Ma h.1;exact⟨q,d,m,h1,h2,Au h3,h4,h6,by rw[←h6];exact h.2⟩
theorem Jn{s:Spc}(hv:SpcV s){a:A6}(h:¬Al s.files a=false):Dr s a=Ce s a:=by
 obtain⟨q,d,m,_,_,_,h4,h5,_⟩:=JE h;unfold Dr Ce;rw[h5,h4];split
 ·rfl
 split
 ·rename_i h0
  cases ho:Bk s a.1 with
  |none=>rfl
  |some on=>
    obtain⟨m',hm,h1,_⟩:=LM ho;obtain⟨i,hi⟩:=List.getElem?_of_mem hm;have:=(hv.mnt i m' hi).dev1;omega
 rfl
def Hd(s:Spc)(dev:Int):Nat:=match s.mounts.findIdx? fun m:DE=>decide (m.1=dev)with
 |none=>0
 |some i=>i+1
theorem SE{s:Spc}(hv:SpcV s){dev:Int}{on:A6}(h:Bk s dev=some on):Hd s on.1<Hd s dev:=by
 unfold Bk at h
 cases hf:s.mounts.find? fun m:DE=>decide (m.1=dev)with
 |none=>rw[hf]at h;cases h
 |some m=>
   rw[hf]at h;injection h with h;subst h;rw[List.find?_eq_some_iff_getElem]at hf;obtain⟨hp,i,hi,hmi,hbefore⟩:=hf
   have e1:s.mounts.findIdx? (fun m:DE=>decide (m.1=dev))=some i:=by
    rw[List.findIdx?_eq_some_iff_getElem];exact⟨hi,by rw[hmi];exact hp,fun j hj=>by simpa using hbefore j hj⟩
   have hthere:=(hv.mnt i m (by rw[BG hi,hmi])).there;unfold Hd;rw[e1]
   cases e2:s.mounts.findIdx? (fun m':DE=>decide (m'.1=m.2.1))with
   |none=>simp
   |some j=>
     simp only;by_cases h0:m.2.1=0
     ·rw[List.findIdx?_eq_some_iff_getElem]at e2;obtain⟨hj,h1,_⟩:=e2;have:=(hv.mnt j _ (BG hj)).dev1;simp only[decide_eq_true_eq]at h1;omega
     unfold Bz Bk at hthere;simp only[Bool.or_eq_true,decide_eq_true_eq,h0,or_false,Option.isSome_map]at hthere
     cases hg:(s.mounts.take i).find? fun m':DE=>decide (m'.1=m.2.1)with
     |none=>rw[hg]at hthere;cases hthere
     |some m'=>
       rw[List.find?_eq_some_iff_getElem]at hg;obtain⟨hp',k,hk,hmk,_⟩:=hg;rw[List.findIdx?_eq_some_iff_getElem]at e2;obtain⟨hj,_,hno⟩:=e2;have hki:k<i:=by simp at hk;omega
       by_cases hjk:j≤k
       ·omega
       have:=hno k (by omega);simp only[List.getElem_take]at hmk;rw[hmk]at this;rw[hp']at this;exact absurd rfl this
theorem XW{s:Spc}(hv:SpcV s):∀(p:Nat) (a:A6),Hd s a.1<p→∃k,ends s k a:=by
 intro p
 induction p with
 |zero=>intro a h;omega
 |succ p ih=>
   intro a hp;by_cases hd:Al s.files a=false
   ·exact⟨0,hd⟩
   obtain⟨q,d,m,hq,hfd,_⟩:=JE hd;have hvd:=hv.files.vd d (Au hfd);obtain⟨rk,hrk⟩:=hvd.rank
   have key:∀(r:Nat) (ino:Int),rk ino<r→∃k,ends s k (a.1,ino):=by
    intro r
    induction r with
    |zero=>intro ino h;omega
    |succ r ihr=>
      intro ino hr;by_cases hd2:Al s.files (a.1,ino)=false
      ·exact⟨0,hd2⟩
      obtain⟨q',d',m',hq',hfd',hm',hi',hn',hk'⟩:=JE hd2;have:q'=q:=by simp only at hq';omega
      subst this;rw[hfd]at hfd';injection hfd' with hfd';subst hfd';simp only at hi';by_cases h1:ino=1
      ·cases ho:Bk s a.1 with
       |none=>exact⟨1, .inr fun b hb=>by simp[Ce,h1,ho]at hb⟩
       |some on=>
         obtain⟨k,hk⟩:=ih on (by have:=SE hv ho;omega);refine⟨k+1, .inr fun b hb=>?_⟩;simp[Ce,h1,ho]at hb;rw[←hb];exact hk
      obtain⟨k,hk⟩:=ihr m'.parent (by have:=hrk m' hm' (by omega) hk';rw[hi']at this;omega);refine⟨k+1, .inr fun b hb=>?_⟩;simp[Ce,h1,hn']at hb;rw[←hb];exact hk
   exact key (rk a.2+1) a.2 (by omega)
theorem JF{s:Spc}{a:A6}(h:Al s.files a=false):∀k,B8 s k a=[]
 |0=>rfl
 |k+1=>by unfold B8;rw[h];rfl
theorem Fh{s:Spc}{a:A6}(h:¬Al s.files a=false)(k:Nat):B8 s (k+1) a=a::(match Dr s a with
    |none=>[]
    |some b=>B8 s k b):=by
 conv=>lhs;unfold B8
 rw[if_pos (by simpa using h)];cases Dr s a<;>rfl
theorem Oq{s:Spc}(hv:SpcV s):∀(k k':Nat) (a:A6),ends s k a→ends s k' a→B8 s k a=B8 s k' a:=by
 intro k
 induction k with
 |zero=>intro k' a h _;rw[JF h,JF h]
 |succ k ih=>
   intro k' a h h';by_cases hd:Al s.files a=false
   ·rw[JF hd,JF hd]
   cases k' with
   |zero=>exact absurd h' hd
   |succ k'=>
     rw[Fh hd,Fh hd];have h1:=h.resolve_left hd;have h2:=h'.resolve_left hd;rw[←Jn hv hd]at h1 h2
     cases hs:Dr s a with
     |none=>rfl
     |some b=>simp only;rw[ih k' b (h1 b hs) (h2 b hs)]
theorem Ot{s:Spc}(hv:SpcV s):∀(k:Nat) (a x:A6),ends s k a→x∈B8 s k a→(¬Al s.files x=false)∧∃j,ends s j x∧(B8 s j x).length≤(B8 s k a).length:=by
 intro k
 induction k with
 |zero=>intro a x h hx;cases hx
 |succ k ih=>
   intro a x h hx;by_cases hd:Al s.files a=false
   ·rw[JF hd]at hx;cases hx
   have h1:=h.resolve_left hd;rw[←Jn hv hd]at h1;rw[Fh hd]at hx;rcases List.mem_cons.1 hx with rfl|hx
   ·exact⟨hd,k+1,h,Av _⟩
   rw[Fh hd]
   cases hs:Dr s a with
   |none=>rw[hs]at hx;cases hx
   |some b=>
     rw[hs]at hx;obtain⟨h2,j,h3,h4⟩:=ih b x (h1 b hs) hx;exact⟨h2,j,h3,by simp;omega⟩
theorem SF{s:Spc}(hv:SpcV s):∀(k:Nat) (a:A6),ends s k a→(B8 s k a).Nodup:=by
 intro k
 induction k with
 |zero=>intro a h;exact List.nodup_nil
 |succ k ih=>
   intro a h;by_cases hd:Al s.files a=false
   ·rw[JF hd];exact List.nodup_nil
   have h1:=h.resolve_left hd;rw[←Jn hv hd]at h1
   cases hs:Dr s a with
   |none=>rw[Fh hd,hs];simp
   |some b=>
     have e:B8 s (k+1) a=a::B8 s k b:=by rw[Fh hd,hs]
     rw[e,List.nodup_cons];refine⟨fun hm=>?_,ih b (h1 b hs)⟩;obtain⟨_,j,h3,h4⟩:=Ot hv k b a (h1 b hs) hm;rw[Oq hv j (k+1) a h3 h,e]at h4;simp at h4;omega
def Jo:Nat→AR→List A6
 |_,[]=>[]
 |q,d::ds=>d.nodes.map (fun n=>((q:Int),n.ino))++Jo (q+1) ds
theorem SG:∀(f:AR) (q:Nat),(Jo q f).length=BM f
 |[],_=>rfl
 |d::ds,q=>by
   have:=SG ds (q+1);unfold BM at this ⊢;simp only[Jo,List.length_append,List.length_map,List.map_cons,List.sum_cons];omega
theorem SH:∀(f:AR) (q i:Nat) (d:Dvc) (m:Nod),f[i]?=some d→m∈d.nodes→(((q+i:Nat):Int),m.ino)∈Jo q f
 |[],_,i,_,_,h,_=>by simp at h
 |d0::ds,q,0,d,m,h,hm=>by
   simp only[List.getElem?_cons_zero,Option.some.injEq]at h;subst h;simp only[Jo,Nat.add_zero];exact List.mem_append_left _ (List.mem_map.2 ⟨m,hm,rfl⟩)
 |d0::ds,q,i+1,d,m,h,hm=>by
   simp only[List.getElem?_cons_succ]at h;have:=SH ds (q+1) i d m h hm;simp only[Jo];refine List.mem_append_right _ ?_
   rwa [show q+(i+1)=q+1+i by omega]
theorem XX{l:List A6}(hn:l.Nodup):∀{m:List A6},(∀x∈l,x∈m)→l.length≤m.length:=by
 induction l with
 |nil=>intro m _;simp
 |cons x xs ih=>
   intro m h;rw[List.nodup_cons]at hn
   have h1:=ih hn.2 (m:=m.erase x) fun y hy=>by
    have hne:y≠x:=fun e=>hn.1 (e ▸ hy);exact(List.mem_erase_of_ne hne).2 (h y (List.mem_cons_of_mem _ hy))
   have h2:=List.length_erase_of_mem (h x (List.mem_cons_self ..));have h3:0<m.length:=List.length_pos_of_mem (h x (List.mem_cons_self ..));simp only[List.length_cons];omega
theorem XY{s:Spc}(hv:SpcV s){k:Nat}{a:A6}(h:ends s k a):(B8 s k a).length≤BM s.files:=by
 rw[←SG s.files 0];refine XX (SF hv k a h) fun x hx=>?_;obtain⟨hd,_⟩:=Ot hv k a x h hx;obtain⟨q,d,m,h1,h2,h3,h4,_⟩:=JE hd;have:=SH s.files 0 q d m h2 h3;rw[Nat.zero_add,h4,←h1]at this;exact this
theorem XZ{s:Spc}(hv:SpcV s):∀(k m:Nat) (a:A6),ends s k a→(B8 s k a).length≤m→ends s m a:=by
 intro k
 induction k with
 |zero=>
   intro m a h _
   cases m with
   |zero=>exact h
   |succ m=>exact .inl h
 |succ k ih=>
   intro m a h hl;by_cases hd:Al s.files a=false
   ·cases m with
    |zero=>exact hd
    |succ m=>exact .inl hd
   have h1:=h.resolve_left hd;rw[Fh hd]at hl
   cases m with
   |zero=>simp at hl
   |succ m=>
     refine .inr fun b hb=>?_;have hb':=hb;rw[←Jn hv hd]at hb';rw[hb']at hl;exact ih m b (h1 b hb) (by simpa using hl)
theorem GE{s:Spc}(hv:SpcV s)(a:A6):ends s (BM s.files) a:=by
 obtain⟨k,hk⟩:=XW hv (Hd s a.1+1) a (Nat.lt_succ_self _);exact XZ hv k _ a hk (XY hv hk)
end Go.Proofs.YtobclmbkdhbnpaaGreatDoor
namespace Go.Proofs.YtobclmbkdhbnpaaGreatDoor
theorem Xa{s:Spc}(hv:SpcV s):∀(k:Nat) (a x:A6),ends s k a→x∈B8 s k a→∃j,ends s j x∧B8 s j x<:+B8 s k a:=by
 intro k
 induction k with
 |zero=>intro a x h hx;cases hx
 |succ k ih=>
   intro a x h hx;by_cases hd:Al s.files a=false
   ·rw[JF hd]at hx;cases hx
   have h1:=h.resolve_left hd;rw[←Jn hv hd]at h1;rw[Fh hd]at hx;rcases List.mem_cons.1 hx with rfl|hx
   ·exact⟨k+1,h,List.suffix_refl _⟩
   rw[Fh hd]
   cases hs:Dr s a with
   |none=>rw[hs]at hx;cases hx
   |some b=>
     rw[hs]at hx;obtain⟨j,h3,h4⟩:=ih b x (h1 b hs) hx;exact⟨j,h3,h4.trans (List.suffix_cons _ _)⟩
section
variable {s:Spc}(hv:SpcV s)
include hv
theorem Xb{a b:A6}(h:a∈B8 s (BM s.files) b):B8 s (BM s.files) a<:+B8 s (BM s.files) b:=by
 obtain⟨j,h1,h2⟩:=Xa hv _ b a (GE hv b) h
 rwa [Oq hv j (BM s.files) a h1 (GE hv a)]at h2
theorem Mc{a:A6}(h:Al s.files a=true):∃t,B8 s (BM s.files) a=a::t:=by
 have hd:¬Al s.files a=false:=by rw[h];simp
 have:=GE hv a
 cases hm:BM s.files with
 |zero=>rw[hm]at this;exact absurd this hd
 |succ m=>exact⟨_,Fh hd m⟩
theorem Xc{a b:A6}(h:a∈B8 s (BM s.files) b):Al s.files a=true:=by
 have:=(Ot hv _ b a (GE hv b) h).1
 simpa using this
end
end Go.Proofs.YtobclmbkdhbnpaaGreatDoor
