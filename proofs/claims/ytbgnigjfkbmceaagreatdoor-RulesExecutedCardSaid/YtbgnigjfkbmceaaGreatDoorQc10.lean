/-
  Part 10 of the proof of RulesExecutedP: what the statement's proof uses of the texts in wip/tpl.
-/
import Derived.Test.YtbgnigjfkbmceaaGreatDoorShelf
import Derived.Maps.AppendAt
import Derived.OwnWalk
import Derived.StillTailTactics
import Derived.OpenShut
import Derived.ChangeArms
import Derived.ChangeOld
import Derived.DataReads
import Derived.DataElems
import Derived.Test.YtbgnigjfkbmceaaGreatDoorQc9
open Go.Proofs.Tryz (prog)
set_option maxRecDepth 10000
set_option maxHeartbeats 4000000
set_option linter.unusedVariables false
set_option linter.unusedSimpArgs false
namespace Go.Proofs.YtbgnigjfkbmceaaGreatDoor
theorem FlsV.set_{f:Aj}(h:FlsV f){q:Nat}{d':Dvc}(hd:VD d'):FlsV (f.set q d'):=by
 refine⟨by simpa using h.few,fun d hm=>?_⟩;rcases List.mem_or_eq_of_mem_set hm with h1|h1
 ·exact h.vd d h1
 rw[h1];exact hd
theorem O0{f:Aj}{a:AQ}(h:Dz f a=true):∃(q i:Nat) (d:Dvc) (m:Nod),a.1=(q:Int)∧f[q]?=some d∧d.nodes[i]?=some m∧m.ino=a.2∧CR f a=some m∧B5 f a=m:=by
 rcases J4 f a with⟨_,h2⟩|⟨q,i,d,n,h1,h2,h3,h4,h5,h6⟩
 ·simp[Dz,h2]at h
 exact⟨q,i,d,n,h1,h2,h3,h4,h6,by simp[B5,h6]⟩
theorem QM{f:Aj}{a:AQ}{q:Nat}{d:Dvc}{m:Nod}(ha:a.1=(q:Int))(hq:f[q]?=some d)(hd:Dn d.nodes)(hm:m∈d.nodes)(hi:m.ino=a.2):CR f a=some m:=by
 unfold CR;rw[ha,Ki,hq];simp only
 cases h:d.nodes.find? (fun n=>n.ino==a.2)with
 |none=>
   have:=List.find?_eq_none.1 h m hm;simp[hi]at this
 |some n=>
   have h1:=List.mem_of_find?_eq_some h;have h2:=List.find?_some h;simp only[beq_iff_eq]at h2;rw[DM hd h1 hm (by omega)]
theorem O1{f:Aj}{dir:AQ}{name:AT}{n0:Nod}(hn:CR f dir=some n0)(hk:n0.kind=2)(h:(AZ f dir name).2≠0):DL n0.entries name=none∧(AZ f dir name).1=(0,0):=by
 unfold AZ at h ⊢;rw[hn]at h ⊢;simp only[hk,if_true]at h ⊢;unfold DL;split at h
 ·rename_i he;exact⟨he,rfl⟩
 exact absurd rfl h
theorem QN{f:Aj}{dir:AQ}{n0:Nod}(hn:CR f dir=some n0)(h:¬J6 f dir=true):n0.entries.length<12:=by
 unfold J6 at h;rw[hn]at h;simp at h;omega
theorem MF(f:Aj)(q:Nat)(g:List Nod→List Nod):(Fq f q g).length=f.length:=by simp[Fq]
def KL(f:Aj)(R:Dm):Prop:=R.2.2=0→FlsV R.1∧R.1.length=f.length
theorem E4{f:Aj}{e:Int}(h:e≠0):KL f ([],[],e):=fun h0=>absurd h0 h
theorem Ts{f:Aj}(hv:FlsV f)(dir:AQ)(name:AT)(a:AQ):KL f (Dg f dir name a):=by
 unfold Dg;split
 ·rename_i h;exact E4 h
 rename_i hp;split
 ·exact E4 (by decide)
 rename_i hh;split
 ·exact E4 (by decide)
 rename_i hdev;split
 ·exact E4 (by decide)
 rename_i hk;split
 ·exact E4 (by decide)
 rename_i hl;split
 ·exact E4 (by decide)
 rename_i hfl;intro _;obtain⟨q,i,d,n0,hdq,hq,hn0,hino,hidx,hnode,hk0,hnm⟩:=Gj (name:=name) (dir:=dir) (f:=f) (by omega);obtain⟨q',i',d',m,haq,hq',hm,hmi,hnm2,hng⟩:=O0 (f:=f) (a:=a) (by simpa using hh);obtain rfl:q=q':=by omega
 obtain rfl:d=d':=Option.some.inj (hq.symm.trans hq');have hvd:=hv.vd d (Aw hq);have key:=hvd.linked (Aw hn0) hk0 (Aw hm) (by rw[←hng];exact hk) hnm (O1 hnode hk0 hl).1 (QN hnode hfl);rw[hino,hmi]at key;refine⟨?_,by dsimp only;exact MF _ _ _⟩;dsimp only;rw[hdq,Int.toNat_natCast,GG hq];exact hv.set_ key
theorem O2{f:Aj}{a:AQ}{m:Nod}(h:CR f a=some m):Ay f a=true↔m.kind=2:=by
 unfold Ay;rw[h];simp
theorem Tt{f:Aj}{a:AQ}{m:Nod}(h:CR f a=some m):Jc f a=true↔m.entries=[]:=by
 unfold Jc;rw[h];simp
theorem O3{f:Aj}(hv:FlsV f){dir:AQ}{name:AT}{q i:Nat}{d:Dvc}{n0:Nod}(hdq:dir.1=(q:Int))(hq:f[q]?=some d)(hn0:d.nodes[i]?=some n0)(hnode:CR f dir=some n0)(hk0:n0.kind=2)(hl:(AZ f dir name).2=0):
    ∃e m,DL n0.entries name=some e∧AZ f dir name=((dir.1,e.2),0)∧m∈d.nodes∧e.2=m.ino∧e.2≠1∧CR f (AZ f dir name).1=some m:=by
 obtain⟨e,he,hle⟩:=MC hnode hk0 hl;have hvd:=hv.vd d (Aw hq);obtain⟨_,h1,m,hm,h2⟩:=hvd.ent n0 (Aw hn0) e (H5 he).1;refine⟨e,m,he,hle,hm,h2.symm,h1,?_⟩;rw[hle];exact QM hdq hq hvd.asc hm h2
theorem Yx{f:Aj}(hv:FlsV f)(dir:AQ)(name:AT):KL f (FR f dir name):=by
 unfold FR;split
 ·rename_i h;exact E4 h
 rename_i hp;split
 ·rename_i h;exact E4 h
 rename_i hl;split
 ·exact E4 (by decide)
 rename_i hk;intro _;obtain⟨q,i,d,n0,hdq,hq,hn0,hino,hidx,hnode,hk0,hnm⟩:=Gj (name:=name) (dir:=dir) (f:=f) (by omega);obtain⟨e,m,he,hle,hm,h1,h2,h3⟩:=O3 hv hdq hq hn0 hnode hk0 (name:=name) (by omega);have hvd:=hv.vd d (Aw hq);have key:=hvd.removed (Aw hn0) hm (hvd.leaf m hm fun h=>hk ((O2 h3).2 h)).2 he h1;refine⟨?_,by dsimp only;exact MF _ _ _⟩;dsimp only;rw[hdq,Int.toNat_natCast,GG hq,show(AZ f dir name).1.2=m.ino by rw[hle];exact h1,←hino];exact hv.set_ key
theorem Yy{f:Aj}(hv:FlsV f)(dir:AQ)(name:AT):KL f (Ek f dir name):=by
 unfold Ek;split
 ·rename_i h;exact E4 h
 rename_i hp;split
 ·rename_i h;exact E4 h
 rename_i hl;split
 ·exact E4 (by decide)
 rename_i hk;split
 ·exact E4 (by decide)
 rename_i hem;intro _;obtain⟨q,i,d,n0,hdq,hq,hn0,hino,hidx,hnode,hk0,hnm⟩:=Gj (name:=name) (dir:=dir) (f:=f) (by omega);obtain⟨e,m,he,hle,hm,h1,h2,h3⟩:=O3 hv hdq hq hn0 hnode hk0 (name:=name) (by omega);have hvd:=hv.vd d (Aw hq);have key:=hvd.removed (Aw hn0) hm ((Tt h3).1 (by simpa using hem)) he h1;refine⟨?_,by dsimp only;exact MF _ _ _⟩;dsimp only;rw[hdq,Int.toNat_natCast,GG hq,show(AZ f dir name).1.2=m.ino by rw[hle];exact h1,←hino];exact hv.set_ key
theorem Yz{f:Aj}(hv:FlsV f)(a:AQ)(mode uid gid:Int):(EL f a mode uid gid).2=0→FlsV (EL f a mode uid gid).1∧(EL f a mode uid gid).1.length=f.length:=by
 unfold EL;split
 ·intro h;exact absurd h (by decide)
 rename_i hh;split
 ·intro h;exact absurd h (by decide)
 rename_i hp;intro _;obtain⟨q,i,d,m,haq,hq,hm,hmi,hnm2,hng⟩:=O0 (f:=f) (a:=a) (by simpa using hh);have hvd:=hv.vd d (Aw hq);have key:=hvd.attrs (Aw hm) mode uid gid (by rw[←hng];simpa using hp);refine⟨?_,by dsimp only;exact MF _ _ _⟩;dsimp only;rw[haq,Int.toNat_natCast,GG hq,←hmi];exact hv.set_ key
theorem Tu{f:Aj}(hv:FlsV f)(dir:AQ)(name:AT)(n:Nod):KL f (Dq f dir name n):=by
 unfold Dq;split
 ·rename_i h;exact E4 h
 rename_i hp;split
 ·exact E4 (by decide)
 rename_i hpl;split
 ·exact E4 (by decide)
 rename_i hl;obtain⟨q,i,d,n0,hdq,hq,hn0,hino,hidx,hnode,hk0,hnm⟩:=Gj (name:=name) (dir:=dir) (f:=f) (by omega);have hat:EG f dir.1=some d:=by rw[hdq,Ki,hq]
 rw[hat];simp only;split
 ·exact E4 (by decide)
 rename_i hc;intro _;have hvd:=hv.vd d (Aw hq);have hnm2:=hvd.nextM;have key:=hvd.make (Aw hn0) hk0 hnm (O1 hnode hk0 hl).1 (n:=n) (by simpa using hpl) (by omega) (by omega) (QN hnode (fun h=>hc (.inr (.inr h))));refine⟨?_,by simp⟩;dsimp only;rw[hdq,Int.toNat_natCast,←hino];exact hv.set_ key
theorem Z0{ns:List Nod}{a o:Int}{g:Nod→Nod}(hi:∀n,(g n).ino=n.ino)(he:∀n,(g n).entries=n.entries):C0 (CW ns a g) o=CW (C0 ns o) a g:=by
 have hc:Bn o (CW ns a g)=Bn o ns:=by
  unfold Bn
  congr 1
  unfold CW;rw[List.flatMap_map]
  congr 1
  funext n
  split
  ·rw[he]
  rfl
 unfold C0;rw[hc];unfold CW;rw[List.filter_map]
 congr 1
 apply List.filter_congr;intro n _;simp only[Function.comp];split
 ·rw[hi]
 rfl
theorem Z1{ns:List Nod}{a:Int}{g:Nod→Nod}(h:∀n∈ns,n.ino=a→g n=n):CW ns a g=ns:=by
 unfold CW
 conv=>rhs;rw[←List.map_id ns]
 apply List.map_congr_left;intro n hn;split
 ·rename_i e;rw[h n hn e];rfl
 rfl
theorem Z2{ns:List Nod}{a:Int}{g g':Nod→Nod}(h:∀n∈ns,n.ino=a→g n=g' n):CW ns a g=CW ns a g':=by
 unfold CW;apply List.map_congr_left;intro n hn;split
 ·rename_i e;rw[h n hn e]
 rfl
theorem Tv{f:Aj}{q:Nat}{d:Dvc}(hq:f[q]?=some d)(hd:Dn d.nodes){top:AQ}(ht:top.1=(q:Int)):∀(k n:Nat) (a:AQ),k<n→a.1=(q:Int)→M9 d.nodes k a.2 top.2→Hi f top n a=true
 |_,0,_,h,_,_=>by omega
 |0,n+1,a,_,ha,hk=>by
   have e:a.2=top.2:=hk;unfold Hi;rw[if_neg (by omega),if_pos (Prod.ext (by omega) e)]
 |k+1,n+1,a,h,ha,hk=>by
   obtain⟨m,hm,h1,h2,h3,h4⟩:=hk;unfold Hi;rw[if_neg (by omega)];split
   ·rfl
   have hn:=QM ha hq hd hm h1;refine Tv hq hd ht k n _ (by omega) ha ?_;simp only[B5,hn,Option.getD_some];exact h4
theorem Tw{f:Aj}(hv:FlsV f)(src:AQ)(name:AT)(to:AQ)(name2:AT):KL f (EM f src name to name2):=by
 unfold EM;split
 ·rename_i h;exact E4 h
 rename_i hord;obtain⟨hpl1,hpl2⟩:=QJ (f:=f) (x:=src) (y:=to) (name:=name) (name2:=name2) (by omega);split
 ·rename_i h;exact E4 h
 rename_i hl1;split
 ·exact E4 (by decide)
 rename_i hdev;split
 ·exact E4 (by decide)
 rename_i hbel;split
 ·intro _;exact⟨hv,rfl⟩
 rename_i hsame;split
 ·rename_i h;exact E4 h
 rename_i hr2;intro _;obtain⟨q,i,d,n1,hsq,hq,hn1,hn1i,hidx,hnode,hk1,hnm1⟩:=Gj hpl1;obtain⟨q',i2,d',n2,htq,hq',hn2,hn2i, -,hnode2,hk2,hnm2⟩:=Gj hpl2;obtain rfl:q=q':=by omega
 obtain rfl:d=d':=Option.some.inj (hq.symm.trans hq');have hvd:=hv.vd d (Aw hq);obtain⟨e,m,he,hle,hm,hem,he1,hmn⟩:=O3 hv hsq hq hn1 hnode hk1 (name:=name) (by omega);have hA2:(AZ f src name).1.2=m.ino:=by rw[hle];exact hem
 have hmoves:Ay f (AZ f src name).1=true↔m.kind=2:=O2 hmn
 have hanc:m.kind=2→¬GF d.nodes n2.ino m.ino:=by
  rintro hmk ⟨k,hk⟩;have hlen:=hvd.anc_len hm hk;have:=hvd.len;refine hbel ⟨hmoves.2 hmk,Tv hq hvd.asc (top:=(AZ f src name).1) (by rw[hle];exact hsq) k 17 to (by omega) htq ?_⟩;rw[hA2,←hn2i];exact hk
 have hdiff:n1.ino=n2.ino→name≠name2:=by
  rintro h rfl;have est:to=src:=Prod.ext (by omega) (by omega);subst est;exact hsame ⟨by omega,rfl⟩
 have ho:(DL n2.entries name2=none∧(n2.entries.length<12∨n1.ino=n2.ino)∧(AZ f to name2).1.2=0)∨(∃eo o,DL n2.entries name2=some eo∧o∈d.nodes∧eo.2=(AZ f to name2).1.2∧o.ino=(AZ f to name2).1.2∧(AZ f to name2).1.2≠m.ino∧o.entries=[]):=by
  have hr3:Dr f src to (AZ f src name).1 (AZ f to name2).1 (AZ f to name2).2=0:=by omega
  unfold Dr at hr3;by_cases h0:(AZ f to name2).2=0
  ·right;rw[if_pos h0]at hr3;obtain⟨eo,o,heo,hleo,hom,heoi,heo1,hon⟩:=O3 hv htq hq hn2 hnode2 hk2 (name:=name2) h0;have hO2:(AZ f to name2).1.2=eo.2:=by rw[hleo]
   refine⟨eo,o,heo,hom,hO2.symm,by rw[hO2,heoi],?_,?_⟩
   ·intro h;refine hsame ⟨h0,Prod.ext ?_ (h.trans hA2.symm)⟩;rw[hleo,hle];exact htq.trans hsq.symm
   have hdo:=O2 hon;by_cases hok:o.kind=2
   ·rw[if_neg (fun h=>by
       rw[if_pos h]at hr3;exact absurd hr3 (by decide))]at hr3
    rw[if_neg (fun h=>by rw[hdo.2 hok]at h;exact absurd h.1 (by decide))]at hr3;split at hr3
    ·exact absurd hr3 (by decide)
    rename_i h5;refine(Tt hon).1 ?_
    cases hem2:Jc f (AZ f to name2).1 with
    |true=>rfl
    |false=>exact absurd ⟨hdo.2 hok,hem2⟩ h5
   exact(hvd.leaf o hom hok).2
  left;rw[if_neg h0]at hr3;obtain⟨h1,h2⟩:=O1 hnode2 hk2 h0;refine⟨h1,?_,by rw[h2]⟩;split at hr3
  ·exact absurd hr3 (by decide)
  rename_i h3;by_cases hfl:J6 f to=true
  ·right;have:src=to:=Classical.byContradiction fun h=>h3 ⟨hfl,h⟩;rw[hn1i,hn2i,this]
  left;exact QN hnode2 hfl
 have key:=hvd.renamed (Aw hn1) (Aw hn2) hm hk2 he hem hnm2 hdiff hanc ho;refine⟨?_,by dsimp only;exact MF _ _ _⟩;dsimp only;rw[htq,Int.toNat_natCast,GG hq]
 have hns:Ho (KK d.nodes src name to name2 (AZ f src name).1 (AZ f to name2).1 (AZ f to name2).2) (AZ f src name).1.2 to.2 (Ay f (AZ f src name).1)=C0 (Df d.nodes n1.ino n2.ino name name2 m.ino) (AZ f to name2).1.2:=by
  rw[←Te,hA2,←hn2i]
  have hY:∀y∈Bi (Bi d.nodes n1.ino name 0) n2.ino name2 m.ino,y.ino=m.ino→y.kind=m.kind:=by
   intro y hy hyi;obtain⟨y1,h1,w1⟩:=Ej hy;obtain⟨y2,h2,w2⟩:=Ej h1;have:y2=m:=DM hvd.asc h2 hm (by rw[←w2.ino,←w1.ino];exact hyi);rw[w1.kind,w2.kind,this]
  have hpos:∀y∈Bi (Bi d.nodes n1.ino name 0) n2.ino name2 m.ino,1≤y.ino:=by
   intro y hy;obtain⟨y1,h1,w1⟩:=Ej hy;obtain⟨y2,h2,w2⟩:=Ej h1;rw[w1.ino,w2.ino];exact hvd.pos h2
  have hset:C0 (CW (Bi (Bi d.nodes n1.ino name 0) n2.ino name2 m.ino) m.ino (H6 n2.ino)) (AZ f to name2).1.2=CW (C0 (Bi (Bi d.nodes n1.ino name 0) n2.ino name2 m.ino) (AZ f to name2).1.2) m.ino (H6 n2.ino):=Z0 (fun n=>by unfold H6;split<;>rfl) (fun n=>by unfold H6;split<;>rfl);rw[hset]
  have hN:KK d.nodes src name to name2 (AZ f src name).1 (AZ f to name2).1 (AZ f to name2).2=C0 (Bi (Bi d.nodes n1.ino name 0) n2.ino name2 m.ino) (AZ f to name2).1.2:=by
   unfold KK;rw[hA2,←hn1i,←hn2i];split
   ·rfl
   rename_i h0;rw[(O1 hnode2 hk2 h0).2];unfold C0
   symm
   rw[List.filter_eq_self];intro y hy;have:=hpos y hy;exact decide_eq_true (.inl (by show y.ino≠0;omega))
  rw[hN];have hsub:∀y∈C0 (Bi (Bi d.nodes n1.ino name 0) n2.ino name2 m.ino) (AZ f to name2).1.2,y∈Bi (Bi d.nodes n1.ino name 0) n2.ino name2 m.ino:=fun y hy=>(M8.1 hy).1;unfold Ho;split
  ·rename_i hmv;refine Z2 fun y hy hyi=>?_;unfold H6;rw[if_pos ((hY y (hsub y hy) hyi).trans (hmoves.1 hmv))]
  rename_i hmv;refine(Z1 fun y hy hyi=>?_).symm;unfold H6;rw[if_neg (fun h=>hmv (hmoves.2 ((hY y (hsub y hy) hyi).symm.trans h)))]
 rw[hns];exact hv.set_ key
end Go.Proofs.YtbgnigjfkbmceaaGreatDoor
namespace Go.Proofs.YtbgnigjfkbmceaaGreatDoor
open Go.RowKit
def FB(R:Spc×Int):AV:= .tup [.agg (BK R.1), .v (.int .i64 R.2)]
def Jk:Spc:=⟨[],[]⟩
theorem H7(e:Int):LeA (.tup [.agg [.v (.slice none 0 0), .v (.slice none 0 0)], .v (.int .i64 e)]) (FB (Jk,e)):=(by repeat (first|exact AA _|exact LeA.nil _|exact LeL.refl _|refine LeA.agg ?_|refine LeA.tup ?_|exact LeL.nil|refine LeL.cons ?_ ?_|exact LeA.any _))
def DO(s:Spc)(dev:Int)(a:AQ):Spc×Int:=
 if dev<1∨(s.files.length:Int)≤dev then(Jk,22)else if Dz s.files a=false then(Jk,2)else if(B5 s.files a).kind≠2 then(Jk,20)else if Co s a.1=false∨a.1=dev then(Jk,22)else
 if Co s dev=true∨(D2 s a).isSome=true then(Jk,16)else(⟨s.files,s.mounts++[(dev,a)]⟩,0)
def FS(s:Spc)(dev:Int):Spc×Int:=
 if dev=0∨Co s dev=false then(Jk,22)else if(s.mounts.any fun m=>decide (m.2.1=dev))=true then(Jk,16)else(⟨s.files,s.mounts.filter fun m=>decide (m.1≠dev)⟩,0)
section
theorem Tx(s:Spc)(hs:SpcB s):N9 prog 126 [.agg (BK s)] (fun g=> .agg [.sl 2 (s.files.map Cc) none, .sl 3 (s.mounts.map Fo) g]) (185,3,s.mounts.map Fo):=by
 have hfew:=hs.few;refine enter Tryz.func126 rfl rfl rfl rfl rfl 0 rfl ?_;refine w_ (b_ (h:=Al (h:=e_ (q_ (Bf ([(0,BK s)]) 8 (h:=AO 0 (h:=?_)))))))
 first|refine AJ 1 (h:=?_)|refine BF 1 rfl (fun _ hS=>Cq (row:=BK s) rfl (kb hS rfl) (BL rfl) rfl ⟨rfl,rfl⟩) ?_
 refine AO 3 (h:=?_)
 first|refine AJ 4 (h:=?_)|refine BF 4 rfl (fun _ hS=>Cq (row:=BK s) rfl (kb hS rfl) (BL rfl) rfl ⟨rfl,rfl⟩) ?_
 refine c_ 2 rfl (AG (QH s.files hs.files) ?_);rintro r rfl;refine o_ (h:=?_)
 first|refine c_ 5 rfl (Dx rfl rfl rfl (by simp;omega) (by repeat constructor) ?_)|refine c_ 5 rfl (Dy rfl rfl (by simp;omega) (by repeat constructor) ?_)
 refine o_ (h:=Hc 6 (h:=?_));refine BH 7 rfl (BC rfl rfl rfl rfl rfl rfl (by repeat constructor) (by repeat constructor) ?_);refine o_ (h:=z_ (h:=t_ (A4 (?_))));refine Ai (some 0) (h5:=(AA _)) (h6:=⟨rfl,rfl,rfl⟩)
theorem Z3(s:Spc)(dev:Int)(a:AQ)(hs:SpcB s):AFn prog 76 [.agg (BK s), .v (.int .i64 dev), .agg (AN a)] (fun r=>r=FB (DO s dev a)):=by
 have hfew:=hs.few;refine enter Tryz.func76 rfl rfl rfl rfl rfl 0 rfl ?_;refine w_ (b_ (h:=b_ (h:=Al (h:=a_ (h:=e_ (q_ (w_ (m_ (h:=BB (h:=m_ (h:=?_)))))))))));refine AW false rfl rfl (fun hb1=>?_) (fun hb1=>?_)
 ·have hc1:=bp hb1;refine A3 (h:=A3 (h:=A3 (h:=A3 (h:=A3 (h:=A3 (h:=AF (h:=e_ (B8 (h:=w_ (Ak (h:=s_ (h:=a_ (h:=e_ (A4 (A6 (?_))))))))))))))));refine Ai (r:=FB (DO s dev a)) none (h5:=?_) (h6:=⟨rfl,rfl,rfl⟩);rw[DO,if_pos (.inl hc1)];exact H7 _
 have hc1:=bp hb1;refine m_ (h:=f_ (h:=f_ (h:=l_ (h:=n_ (h:=Cw (h:=AM (h:=e_ (?_))))))));refine A8 rfl (fun hb2=>?_) (fun hb2=>?_)
 ·have hc2:=bp hb2;refine w_ (Ak (h:=s_ (h:=a_ (h:=e_ (A4 (A6 (?_)))))));refine Ai (r:=FB (DO s dev a)) none (h5:=?_) (h6:=⟨rfl,rfl,rfl⟩);rw[DO,if_pos (.inr (by rw[List.length_map]at hc2;omega))];exact H7 _
 have hc2:=bp hb2;refine AB (w_ (f_ (h:=l_ (h:=l_ (h:=?_)))));refine A7 rfl (AG (E0 s.files a hs.files) ?_);rintro r rfl;refine m_ (h:=x_ (h:=x_ (h:=Al (h:=s_ (h:=a_ (h:=e_ (q_ (w_ (m_ (h:=B9 (h:=e_ (?_))))))))))));refine A8 rfl (fun hb3=>?_) (fun hb3=>?_)
 ·have hc3:=bp hb3;refine w_ (Ak (h:=s_ (h:=a_ (h:=e_ (A4 (A6 (?_)))))));refine Ai (r:=FB (DO s dev a)) none (h5:=?_) (h6:=⟨rfl,rfl,rfl⟩);rw[DO,if_neg (by rw[List.length_map]at hc2;omega),if_pos hc3];exact H7 _
 have hc3:=bp hb3;refine AB (q_ (w_ (f_ (h:=l_ (h:=Ap (h:=e_ (?_)))))));refine A8 rfl (fun hb4=>?_) (fun hb4=>?_)
 ·have hc4:=bp hb4;refine w_ (Ak (h:=s_ (h:=a_ (h:=e_ (A4 (A6 (?_)))))));refine Ai (r:=FB (DO s dev a)) none (h5:=?_) (h6:=⟨rfl,rfl,rfl⟩);rw[DO,if_neg (by rw[List.length_map]at hc2;omega),if_neg (by simp[hc3]),if_pos hc4];exact H7 _
 have hc4:=bp hb4;refine AB (q_ (w_ (l_ (h:=f_ (h:=l_ (h:=?_))))));refine A7 rfl (AG (Ln s a.1 hs) ?_);rintro r rfl;refine B9 (h:=m_ (h:=?_));refine AW false rfl rfl (fun hb5=>?_) (fun hb5=>?_)
 ·have hc5:=bp hb5;refine A3 (h:=A3 (h:=A3 (h:=A3 (h:=AF (h:=e_ (B8 (h:=w_ (Ak (h:=s_ (h:=a_ (h:=e_ (A4 (A6 (?_))))))))))))));refine Ai (r:=FB (DO s dev a)) none (h5:=?_) (h6:=⟨rfl,rfl,rfl⟩);rw[DO,if_neg (by rw[List.length_map]at hc2;omega),if_neg (by simp[hc3]),if_neg (by simp[hc4]),if_pos (.inl hc5)];exact H7 _
 have hc5:=bp hb5;refine f_ (h:=l_ (h:=m_ (h:=AD (h:=AM (h:=e_ (?_))))));refine A8 rfl (fun hb6=>?_) (fun hb6=>?_)
 ·have hc6:=bp hb6;refine w_ (Ak (h:=s_ (h:=a_ (h:=e_ (A4 (A6 (?_)))))));refine Ai (r:=FB (DO s dev a)) none (h5:=?_) (h6:=⟨rfl,rfl,rfl⟩);rw[DO,if_neg (by rw[List.length_map]at hc2;omega),if_neg (by simp[hc3]),if_neg (by simp[hc4]),if_pos (.inr hc6)];exact H7 _
 have hc6:=bp hb6;refine AB (q_ (w_ (l_ (h:=m_ (h:=?_)))));refine A7 rfl (AG (Ln s dev hs) ?_);rintro r rfl;refine m_ (h:=?_);refine AW false rfl rfl (fun hb7=>?_) (fun hb7=>?_)
 ·have hc7:=bp hb7;refine A3 (h:=A3 (h:=A3 (h:=AF (h:=e_ (B8 (h:=w_ (Ak (h:=s_ (h:=a_ (h:=e_ (A4 (A6 (?_)))))))))))));refine Ai (r:=FB (DO s dev a)) none (h5:=?_) (h6:=⟨rfl,rfl,rfl⟩);rw[DO,if_neg (by rw[List.length_map]at hc2;omega),if_neg (by simp[hc3]),if_neg (by simp[hc4]),if_neg (by simp[hc5,hc6]),if_pos (.inl hc7)];exact H7 _
 have hc7:=bp hb7;refine l_ (h:=l_ (h:=?_));refine B4 (AG (SX s a hs) ?_);rintro r rfl;refine AM (h:=e_ (?_));refine A8 rfl (fun hb8=>?_) (fun hb8=>?_)
 ·have hc8:=bp hb8;refine w_ (Ak (h:=s_ (h:=a_ (h:=e_ (A4 (A6 (?_)))))));refine Ai (r:=FB (DO s dev a)) none (h5:=?_) (h6:=⟨rfl,rfl,rfl⟩);rw[DO,if_neg (by rw[List.length_map]at hc2;omega),if_neg (by simp[hc3]),if_neg (by simp[hc4]),if_neg (by simp[hc5,hc6]),if_pos (.inr hc8)];exact H7 _
 have hc8:=bp hb8;refine AB (w_ (l_ (h:=?_)));refine A7 rfl (Oy rfl (by repeat (first|exact Args.nil|refine Args.cons _ _ _ _ _ rfl (Jz rfl) ?_|refine Args.cons _ _ _ _ _ rfl (Kf _) ?_|refine Args.cons _ _ _ _ _ rfl (Jy _) ?_|refine Args.cons _ _ _ _ _ rfl (Kg rfl (by repeat (first|exact AA _|exact LeA.nil _|exact LeL.refl _|refine LeA.agg ?_|refine LeA.tup ?_|exact LeL.nil|refine LeL.cons ?_ ?_|exact LeA.any _))) ?_)) (Tx s hs) (fun _=>rfl) (by repeat constructor) ?_);refine Al (h:=s_ (h:=e_ (w_ (f_ (h:=l_ (h:=m_ (h:=l_ (h:=Ak (h:=Bd (h:=?_))))))))))
 first|refine A7 rfl (Dx rfl rfl rfl (by simp;omega) (by repeat constructor) ?_)|refine A7 rfl (Dy rfl rfl (by simp;omega) (by repeat constructor) ?_)
 refine f_ (h:=s_ (h:=e_ (w_ (l_ (h:=s_ (h:=a_ (h:=e_ (A4 (?_)))))))));refine A9 ?_;rw[DO,if_neg (by rw[List.length_map]at hc2;omega),if_neg (by simp[hc3]),if_neg (by simp[hc4]),if_neg (by simp[hc5,hc6]),if_neg (by simp[hc7,hc8])];simp only[FB,BK,List.map_append];rfl
theorem Z4(s:Spc)(dev:Int)(hs:SpcB s):AFn prog 253 [.agg (BK s), .v (.int .i64 dev)] (fun r=>r=FB (FS s dev)):=by
 have hfew:=hs.few;refine enter Tryz.func253 rfl rfl rfl rfl rfl 0 rfl ?_;refine w_ (b_ (h:=Al (h:=a_ (h:=e_ (q_ (w_ (m_ (h:=AD (h:=m_ (h:=?_))))))))));refine AW false rfl rfl (fun hb1=>?_) (fun hb1=>?_)
 ·have hc1:=bp hb1;refine A3 (h:=A3 (h:=A3 (h:=A3 (h:=AF (h:=e_ (B8 (h:=w_ (Ak (h:=s_ (h:=a_ (h:=e_ (A4 (A6 (?_))))))))))))));refine Ai (r:=FB (FS s dev)) none (h5:=?_) (h6:=⟨rfl,rfl,rfl⟩);rw[FS,if_pos (.inl hc1)];exact H7 _
 have hc1:=bp hb1;refine l_ (h:=m_ (h:=?_));refine B4 (AG (Ln s dev hs) ?_);rintro r rfl;refine B9 (h:=AM (h:=e_ (?_)));refine A8 rfl (fun hb2=>?_) (fun hb2=>?_)
 ·have hc2:=bp hb2;refine w_ (Ak (h:=s_ (h:=a_ (h:=e_ (A4 (A6 (?_)))))));refine Ai (r:=FB (FS s dev)) none (h5:=?_) (h6:=⟨rfl,rfl,rfl⟩);rw[FS,if_pos (.inr hc2)];exact H7 _
 have hc2:=bp hb2;refine AB (w_ (a_ (h:=e_ (q_ (w_ (a_ (h:=e_ (Ag (?_)))))))));refine Jv 6 185 3 rfl (by repeat constructor) ?_;refine Be (fun m t=>∃(j:Nat) (acc:List D9),j≤s.mounts.length∧m=s.mounts.length - j∧(∀i y,i<j→s.mounts[i]?=some y→decide (y.2.1=dev)=false)∧(s.mounts.take j).filter (fun m=>decide (m.1≠dev))=acc∧acc.length≤j∧t=⟨look [(1, .v (.int .i64 dev)),(2, .bp 0 0),(4, .bp 1 0),(6, .sl 3 (acc.map Fo) (some 0)),(7, .v (.int .i64 (j:Int)))],⟨[BK s,[.v (.slice none 0 0), .v (.slice none 0 0)]],[(185,3,acc.map Fo)]⟩⟩) (s.mounts.length) ((wk 2 1)) (⟨0,[],by omega,rfl,fun i y hi=>by omega,rfl,BN _,rfl⟩) ?_;rintro m t ⟨j,acc,hj,rfl,ha,hacc,hal,rfl⟩;refine q_ (w_ (m_ (h:=f_ (h:=l_ (h:=n_ (h:=BB (h:=e_ (?_))))))));refine A8 rfl (fun hb3=>?_) (fun hb3=>?_)
 ·have hc3:=bp hb3;obtain⟨hlt,x,hy,hrow, -⟩:=C1 Fo hc3;refine AB (q_ (Ag (q_ (w_ (f_ (h:=l_ (h:=m_ (h:=i_ (h:=f_ (h:=f_ (h:=l_ (h:=m_ (h:=AD (h:=e_ (?_)))))))))))))));refine A8 rfl (fun hb4=>?_) (fun hb4=>?_)
  ·have hc4:=bp hb4;have hany:(s.mounts.any fun m=>decide (m.2.1=dev))=true:=KC hy (decide_eq_true hc4);refine w_ (Ak (h:=s_ (h:=a_ (h:=e_ (A4 (A6 (AK (A6 (A6 (AK (A6 (?_))))))))))));refine Ai (r:=FB (FS s dev)) none (h5:=?_) (h6:=⟨rfl,rfl,rfl⟩);rw[FS,if_neg (by simp[hc1,hc2]),if_pos hany];exact H7 _
  have hc4:=bp hb4;refine AB (w_ (f_ (h:=l_ (h:=m_ (h:=i_ (h:=f_ (h:=l_ (h:=m_ (h:=Ap (h:=e_ (?_)))))))))));refine A8 rfl (fun hb5=>?_) (fun hb5=>?_)
  ·have hc5:=bp hb5;have hk:(s.mounts.take (j+1)).filter (fun m=>decide (m.1≠dev))=acc++[x]:=by rw[List.take_add_one,hy,List.filter_append,hacc];simp[hc5]
   refine AR (m_ (h:=f_ (h:=l_ (h:=m_ (h:=i_ (h:=l_ (h:=Bd (h:=?_))))))))
   first|refine A7 rfl (Dx rfl rfl rfl (by simp;omega) (by repeat constructor) ?_)|refine A7 rfl (Dy rfl rfl (by simp;omega) (by repeat constructor) ?_)
   refine a_ (h:=AP (Ah (t_ (AR (m_ (h:=BD (h:=a_ (h:=AP (?_)))))))));refine AE ?_
   first|exact⟨s.mounts.length - (j+1),_,by omega,⟨j+1,acc++[x],by omega,rfl,F8 hy ha (decide_eq_false hc4),hk,by simp;omega,rfl⟩,(by rw[List.map_append];exact Av 2 1 rfl rfl rfl rfl ((by repeat (first|exact Sub.nil|refine Ax rfl rfl ?_|refine B1 ?_|refine B2 rfl ?_|refine B3 rfl ?_))))⟩|exact⟨s.mounts.length - (j+1),_,by omega,⟨j+1,acc,by omega,rfl,F8 hy ha (decide_eq_false hc4),hk,by omega,rfl⟩,Av 2 1 rfl rfl rfl rfl ((by repeat (first|exact Sub.nil|refine Ax rfl rfl ?_|refine B1 ?_|refine B2 rfl ?_|refine B3 rfl ?_)))⟩
  have hc5:=bp hb5;have hk:(s.mounts.take (j+1)).filter (fun m=>decide (m.1≠dev))=acc:=by rw[List.take_add_one,hy,List.filter_append,hacc];simp[hc5]
  refine Au (Ah (t_ (AR (m_ (h:=BD (h:=a_ (h:=AP (?_))))))));refine AE ?_
  first|exact⟨s.mounts.length - (j+1),_,by omega,⟨j+1,acc++[x],by omega,rfl,F8 hy ha (decide_eq_false hc4),hk,by simp;omega,rfl⟩,(by rw[List.map_append];exact Av 2 1 rfl rfl rfl rfl ((by repeat (first|exact Sub.nil|refine Ax rfl rfl ?_|refine B1 ?_|refine B2 rfl ?_|refine B3 rfl ?_))))⟩|exact⟨s.mounts.length - (j+1),_,by omega,⟨j+1,acc,by omega,rfl,F8 hy ha (decide_eq_false hc4),hk,by omega,rfl⟩,Av 2 1 rfl rfl rfl rfl ((by repeat (first|exact Sub.nil|refine Ax rfl rfl ?_|refine B1 ?_|refine B2 rfl ?_|refine B3 rfl ?_)))⟩
 have hc3:=bp hb3;have e3:=CA Fo hj hc3;subst e3;have hany:(s.mounts.any fun m=>decide (m.2.1=dev))=false:=Kn ha;rw[List.take_length]at hacc;refine BT (Ao (Ao (BU (t_ (w_ (l_ (h:=?_)))))));refine A7 rfl (Oy rfl (by repeat (first|exact Args.nil|refine Args.cons _ _ _ _ _ rfl (Jz rfl) ?_|refine Args.cons _ _ _ _ _ rfl (Kf _) ?_|refine Args.cons _ _ _ _ _ rfl (Jy _) ?_|refine Args.cons _ _ _ _ _ rfl (Kg rfl (by repeat (first|exact AA _|exact LeA.nil _|exact LeL.refl _|refine LeA.agg ?_|refine LeA.tup ?_|exact LeL.nil|refine LeL.cons ?_ ?_|exact LeA.any _))) ?_)) (Tx s hs) (fun _=>rfl) (by repeat constructor) ?_);refine Al (h:=s_ (h:=e_ (w_ (m_ (h:=f_ (h:=s_ (h:=e_ (w_ (l_ (h:=s_ (h:=a_ (h:=e_ (A4 (?_))))))))))))));refine A9 ?_;rw[FS,if_neg (by simp[hc1,hc2]),if_neg (by simp[hany]),hacc];rfl
end
theorem Ty(z:Int){n:Int}(h:1≤n): -n<z.tmod n∧z.tmod n<n:=⟨Int.lt_tmod_of_pos z (by omega),Int.tmod_lt_of_pos z (by omega)⟩
theorem Gk(a b:ByteArray):(a++b).size=a.size+b.size:=ByteArray.size_append
section
theorem Z5(l:List Int):ACall prog 12 [.sl 1 (l.map C9) none] [] (fun r b t=>r= .bp 0 0∧b=[DU l 0]∧t=[]):=by
 refine enter Tryz.func12 rfl rfl rfl rfl rfl 1 rfl ?_;refine w_ (a_ (h:=e_ (w_ (m_ (h:=Ak (h:=b_ (h:=a_ (h:=e_ (A4 (?_))))))))));refine Ai none (h5:=(AA _)) (h6:=⟨rfl,rfl,rfl⟩)
theorem Gn(l:List Int)(a:Nat)(n:Int)(ha:a≤1000000000000)(hn:n≤1000000000000):GenF prog 21 l a [.v (.int .i64 n)] 1 (fun r=>∃k:Int,r= .v (.int .i64 k)∧0≤k∧(1≤n→k<n)∧(n<1→k=0)):=by
 refine enter Tryz.func21 rfl rfl rfl rfl rfl 1 rfl ?_;refine w_ (a_ (h:=e_ (q_ (w_ (m_ (h:=BB (h:=e_ (?_))))))));refine A8 rfl (fun hb1=>?_) (fun hb1=>?_)
 ·have hc1:=bp hb1;refine w_ (a_ (h:=e_ (A4 (A6 (?_)))));refine Ai none (h5:=(AA _)) (h6:=⟨_,rfl,rfl,a,by omega,rfl,0,rfl,by omega,by omega,by omega⟩)
 have hc1:=bp hb1;refine AB (w_ (m_ (h:=k_ (h:=f_ (h:=l_ (h:=BD (h:=k_ (h:=f_ (h:=s_ (h:=e_ (w_ (m_ (h:=k_ (h:=f_ (h:=l_ (h:=Wt (h:=a_ (h:=e_ (q_ (q_ (Cp 10 (h:=AU 0 (h:=BS 1 (h:=?_))))))))))))))))))))))));refine AO 2 (h:=AJ 3 (h:=AU 4 (h:=BS 5 (h:=AO 6 (h:=AJ 7 (h:=Gz 8 (h:=Wv 9 (h:=z_ (h:=t_ (?_))))))))));refine A8 rfl (fun hb2=>?_) (fun hb2=>?_)
 ·have hc2:=bp hb2;have hlt:a<l.length:=by simp at hc2;omega
  obtain⟨z,hz⟩:∃z,(l.map C9)[a]?=some (C9 z):=⟨l[a],by simp[hlt]⟩;have tz:=Ty z (n:=n) (by omega);refine Cp 12 (h:=AU 0 (h:=BS 1 (h:=AO 2 (h:=AJ 3 (h:=AU 4 (h:=BS 5 (h:=AO 6 (h:=AJ 7 (h:=PD 8 (h:=?_))))))))));refine Eg (i:=9) rfl (Cl (n:=a) rfl rfl (by omega) hz ⟨rfl,rfl⟩) ?_;refine AJ 10 (h:=BO 11 (h:=z_ (h:=t_ (w_ (m_ (h:=m_ (h:=?_)))))));refine A7 rfl (Mq rfl rfl (by omega) ?_);refine a_ (h:=e_ (q_ (w_ (m_ (h:=BB (h:=e_ (?_)))))));refine A8 rfl (fun hb3=>?_) (fun hb3=>?_)
  ·have hc3:=bp hb3;refine AR (m_ (h:=m_ (h:=?_)));refine A7 rfl (Kb rfl rfl (by omega) ?_);refine a_ (h:=e_ (w_ (m_ (h:=a_ (h:=e_ (A4 (?_)))))));refine Ai none (h5:=(AA _)) (h6:=⟨_,rfl,rfl,a+1,by omega,rfl,_,rfl,by omega,by omega,by omega⟩)
  have hc3:=bp hb3;refine AB (w_ (m_ (h:=a_ (h:=e_ (A4 (?_))))));refine Ai none (h5:=(AA _)) (h6:=⟨_,rfl,rfl,a+1,by omega,rfl,_,rfl,by omega,by omega,by omega⟩)
 have hc2:=bp hb2;have tz:=Ty (IntKind.i64.wrap (((a:Int)+1) * 7)) (n:=n) (by omega);refine AB (w_ (m_ (h:=m_ (h:=?_))));refine A7 rfl (Mq rfl rfl (by omega) ?_);refine a_ (h:=e_ (q_ (w_ (m_ (h:=BB (h:=e_ (?_)))))));refine A8 rfl (fun hb4=>?_) (fun hb4=>?_)
 ·have hc4:=bp hb4;refine AR (m_ (h:=m_ (h:=?_)));refine A7 rfl (Kb rfl rfl (by omega) ?_);refine a_ (h:=e_ (w_ (m_ (h:=a_ (h:=e_ (A4 (?_)))))));refine Ai none (h5:=(AA _)) (h6:=⟨_,rfl,rfl,a+1,by omega,rfl,_,rfl,by omega,by omega,by omega⟩)
 have hc4:=bp hb4;refine AB (w_ (m_ (h:=a_ (h:=e_ (A4 (?_))))));refine Ai none (h5:=(AA _)) (h6:=⟨_,rfl,rfl,a+1,by omega,rfl,_,rfl,by omega,by omega,by omega⟩)
theorem DA(l:List Int)(a:Nat)(lo hi:Int)(ha:a≤1000000000000)(h1: -1000000≤lo)(h2:lo≤hi)(h3:hi≤1000000):GenF prog 47 l a [.v (.int .i64 lo), .v (.int .i64 hi)] 1 (fun r=>∃k:Int,r= .v (.int .i64 k)∧lo≤k∧k≤hi):=by
 refine enter Tryz.func47 rfl rfl rfl rfl rfl 1 rfl ?_;refine w_ (a_ (h:=e_ (w_ (m_ (h:=m_ (h:=m_ (h:=m_ (h:=Fd (h:=BD (h:=?_))))))))));refine A7 rfl (BE 0 (hc:=Gn l a (hi - lo+1) ha (by omega)) (hR:=?_));rintro r a1 ha1 ⟨k,rfl,k1,k2,k3⟩;refine⟨rfl,_,(by repeat constructor),?_⟩;refine BD (h:=a_ (h:=e_ (A4 (?_))));refine Ai none (h5:=(AA _)) (h6:=⟨_,rfl,rfl,a1,by omega,rfl,_,rfl,by omega,by omega⟩)
theorem El(l:List Int)(a:Nat)(rows:List (List AV))(p:Int→Bool)(ha:a≤1000000000000)(h0:Nat.blt 0 rows.length=true)(h1:Nat.ble rows.length 1000=true)(hp:NQ p rows=true):GenF prog 78 l a [.sl 1 rows none] 1 (fun r=>∃z:Int,r= .v (.int .i64 z)∧p z=true):=by
 have h0':0<rows.length:=BL h0;have h1':rows.length≤1000:=BL h1;refine enter Tryz.func78 rfl rfl rfl rfl rfl 1 rfl ?_;refine w_ (a_ (h:=e_ (w_ (m_ (h:=m_ (h:=m_ (h:=n_ (h:=?_))))))));refine A7 rfl (BE 0 (hc:=Gn l a rows.length ha (by omega)) (hR:=?_));rintro r a1 ha1 ⟨k,rfl,k1,k2,k3⟩;refine⟨rfl,_,(by repeat constructor),?_⟩;obtain⟨m,rfl⟩:=Int.eq_ofNat_of_zero_le k1;obtain⟨z,hz,pz⟩:=Rs hp (i:=m) (by omega);refine A7 rfl (Cl (n:=m) rfl rfl rfl hz ?_);refine l_ (h:=a_ (h:=e_ (A4 (?_))));refine Ai none (h5:=(AA _)) (h6:=⟨_,rfl,rfl,a1,by omega,rfl,z,rfl,pz⟩)
theorem Jl(l:List Int)(a:Nat)(rows:List (List AV))(p:ByteArray→Bool)(ha:a≤1000000000000)(h0:Nat.blt 0 rows.length=true)(h1:Nat.ble rows.length 1000=true)(hp:NR p rows=true):GenF prog 81 l a [.sl 1 rows none] 1 (fun r=>∃z:ByteArray,r= .v (.string z)∧p z=true):=by
 have h0':0<rows.length:=BL h0;have h1':rows.length≤1000:=BL h1;refine enter Tryz.func81 rfl rfl rfl rfl rfl 1 rfl ?_;refine w_ (a_ (h:=e_ (w_ (m_ (h:=m_ (h:=m_ (h:=n_ (h:=?_))))))));refine A7 rfl (BE 0 (hc:=Gn l a rows.length ha (by omega)) (hR:=?_));rintro r a1 ha1 ⟨k,rfl,k1,k2,k3⟩;refine⟨rfl,_,(by repeat constructor),?_⟩;obtain⟨m,rfl⟩:=Int.eq_ofNat_of_zero_le k1;obtain⟨z,hz,pz⟩:=Rt hp (i:=m) (by omega);refine A7 rfl (Cl (n:=m) rfl rfl rfl hz ?_);refine l_ (h:=a_ (h:=e_ (A4 (?_))));refine Ai none (h5:=(AA _)) (h6:=⟨_,rfl,rfl,a1,by omega,rfl,z,rfl,pz⟩)
theorem Tz(l:List Int)(a:Nat)(ha:a≤100000000000):GenF prog 127 l a [] 2 (fun r=>∃s:ByteArray,r= .v (.string s)∧s.size≤13):=by
 refine enter Tryz.func127 rfl rfl rfl rfl rfl 1 rfl ?_;refine w_ (a_ (h:=e_ (q_ (w_ (m_ (h:=?_))))));refine A7 rfl (BE 0 (hc:=Gn l _ (20) (by omega) (by omega)) (hR:=?_));rintro r a1 ha1 ⟨k1,rfl,p1,q1,o1⟩;refine⟨rfl,_,(by repeat constructor),?_⟩;refine AD (h:=e_ (?_));refine A8 rfl (fun hb1=>?_) (fun hb1=>?_)
 ·have hc1:=bp hb1;refine w_ (m_ (h:=Bd (h:=?_)));refine A7 rfl (BE 0 (hc:=Jl l _ _ (fun s=>decide (s.size≤13)) (by omega) (by rfl) (by rfl) (by rfl)) (hR:=?_));rintro r a2 ha2 ⟨k2,rfl,p2⟩;refine⟨rfl,_,(by repeat constructor),?_⟩;refine a_ (h:=e_ (A4 (A6 (?_))));refine Ai none (h5:=(AA _)) (h6:=⟨_,rfl,rfl,_,?_,rfl,_,rfl,of_decide_eq_true ‹_›⟩)<;>omega
 have hc1:=bp hb1;refine AB (w_ (m_ (h:=Bd (h:=?_))));refine A7 rfl (BE 0 (hc:=Jl l _ _ (fun s=>decide (s.size≤13)) (by omega) (by rfl) (by rfl) (by rfl)) (hR:=?_));rintro r a3 ha3 ⟨k3,rfl,p3⟩;refine⟨rfl,_,(by repeat constructor),?_⟩;refine a_ (h:=e_ (A4 (?_)));refine Ai none (h5:=(AA _)) (h6:=⟨_,rfl,rfl,_,?_,rfl,_,rfl,of_decide_eq_true ‹_›⟩)<;>omega
theorem Z6(l:List Int)(a:Nat)(ha:a≤50000000000):GenF prog 100 l a [] 20 (fun r=>∃s:ByteArray,r= .v (.string s)∧s.size≤58):=by
 have e1:(⟨#[47]⟩:ByteArray).size=1:=rfl;have e0:(⟨#[]⟩:ByteArray).size=0:=rfl;refine enter Tryz.func100 rfl rfl rfl rfl rfl 1 rfl ?_;refine w_ (a_ (h:=e_ (w_ (a_ (h:=e_ (?_))))));refine BR (fun s=>∃(b:Nat) (t:ByteArray),b≤a+1∧t.size≤1∧s=⟨look [(0, .bp 0 0),(3, .v (.string t))],⟨[DU l b],[]⟩⟩) ?_ ?_
 ·skip
  refine w_ (m_ (h:=?_));refine A7 rfl (BE 0 (hc:=Gn l _ (6) (by omega) (by omega)) (hR:=?_));rintro r a1 ha1 ⟨k1,rfl,p1,q1,o1⟩;refine⟨rfl,_,(by repeat constructor),?_⟩;refine Bl (h:=e_ (?_));refine A8 rfl (fun hb1=>?_) (fun hb1=>?_)
  ·have hc1:=bp hb1;refine AR (a_ (h:=AP (?_)));refine AE ?_;refine⟨_,⟨_,_,?_,?_,rfl⟩,(wk 1 0)⟩<;>first|omega|exact BL rfl
  have hc1:=bp hb1;refine Au (?_);refine AE ?_;refine⟨_,⟨_,_,?_,?_,rfl⟩,(wk 1 0)⟩<;>first|omega|exact BL rfl
 rintro s ⟨b,t0,hb,ht0,rfl⟩;refine w_ (m_ (h:=Bd (h:=?_)));refine A7 rfl (BE 0 (hc:=El l _ _ (fun z=>decide (0≤z∧z≤4)) (by omega) (by rfl) (by rfl) (by rfl)) (hR:=?_));rintro r a2 ha2 ⟨k2,rfl,p2⟩;refine⟨rfl,_,(by repeat constructor),?_⟩;obtain⟨hz1,hz2⟩:=of_decide_eq_true p2;obtain⟨m,rfl⟩:=Int.eq_ofNat_of_zero_le hz1;refine a_ (h:=e_ (q_ (w_ (a_ (h:=e_ (Ag (?_)))))));refine Be (fun n s=>∃(j b1:Nat) (t:ByteArray),j≤m∧n=m - j∧b1≤b+1+4 * j∧t.size≤1+14 * j∧s=⟨look [(0, .bp 0 0),(3, .v (.string t)),(4, .v (.int .i64 (m:Int))),(5, .v (.int .i64 (j:Int)))],⟨[DU l b1],[]⟩⟩) (m) ((wk 1 0)) (⟨0,_,t0,by omega,rfl,by omega,by omega,rfl⟩) ?_;rintro n s ⟨j,b1,t,hj,rfl,hb1,ht,rfl⟩;refine q_ (w_ (m_ (h:=m_ (h:=BB (h:=e_ (?_))))));refine A8 rfl (fun hb2=>?_) (fun hb2=>?_)
 ·have hc2:=bp hb2;refine AB (?_);refine BR (fun s=>∃(b3:Nat) (t1:ByteArray),b3≤b1+4∧t1.size≤1+14 * (j+1)∧s=⟨look [(0, .bp 0 0),(3, .v (.string t1)),(4, .v (.int .i64 (m:Int))),(5, .v (.int .i64 (j:Int)))],⟨[DU l b3],[]⟩⟩) ?_ ?_
  ·skip
   refine Ag (q_ (w_ (m_ (h:=Bl (h:=e_ (?_))))));refine A8 rfl (fun hb3=>?_) (fun hb3=>?_)
   ·have hc3:=bp hb3;refine AR (m_ (h:=?_));refine A7 rfl (Ey rfl rfl (by(try simp only[Gk]);omega) ?_);refine a_ (h:=e_ (w_ (m_ (h:=?_))));refine A7 rfl (BE 0 (hc:=Gn l _ (8) (by omega) (by omega)) (hR:=?_));rintro r a3 ha3 ⟨k3,rfl,p3,q3,o3⟩;refine⟨rfl,_,(by repeat constructor),?_⟩;refine AD (h:=e_ (?_));refine A8 rfl (fun hb4=>?_) (fun hb4=>?_)
    ·have hc4:=bp hb4;refine AR (m_ (h:=m_ (h:=Bd (h:=?_))));refine A7 rfl (BE 0 (hc:=Jl l _ _ (fun s=>decide (s.size≤13)) (by omega) (by rfl) (by rfl) (by rfl)) (hR:=?_));rintro r a4 ha4 ⟨k4,rfl,p4⟩;refine⟨rfl,_,(by repeat constructor),?_⟩;have hw:=of_decide_eq_true p4;refine A7 rfl (Ey rfl rfl (by(try simp only[Gk]);omega) ?_);refine a_ (h:=AP (Ah (?_)));refine AE ?_;refine⟨_,⟨_,_,?_,?_,rfl⟩,(wk 1 0)⟩<;>(try simp only[Gk])<;>omega
    have hc4:=bp hb4;refine AR (m_ (h:=m_ (h:=?_)));refine A7 rfl (BE 0 (hc:=Tz l _ (by omega)) (hR:=?_));rintro r a5 ha5 ⟨k5,rfl,hw⟩;refine⟨rfl,_,(by repeat constructor),?_⟩;refine A7 rfl (Ey rfl rfl (by(try simp only[Gk]);omega) ?_);refine a_ (h:=AP (Ah (?_)));refine AE ?_;refine⟨_,⟨_,_,?_,?_,rfl⟩,(wk 1 0)⟩<;>(try simp only[Gk])<;>omega
   have hc3:=bp hb3;refine AB (w_ (m_ (h:=?_)));refine A7 rfl (BE 0 (hc:=Gn l _ (8) (by omega) (by omega)) (hR:=?_));rintro r a6 ha6 ⟨k6,rfl,p6,q6,o6⟩;refine⟨rfl,_,(by repeat constructor),?_⟩;refine AD (h:=e_ (?_));refine A8 rfl (fun hb5=>?_) (fun hb5=>?_)
   ·have hc5:=bp hb5;refine AR (m_ (h:=m_ (h:=Bd (h:=?_))));refine A7 rfl (BE 0 (hc:=Jl l _ _ (fun s=>decide (s.size≤13)) (by omega) (by rfl) (by rfl) (by rfl)) (hR:=?_));rintro r a7 ha7 ⟨k7,rfl,p7⟩;refine⟨rfl,_,(by repeat constructor),?_⟩;have hw:=of_decide_eq_true p7;refine A7 rfl (Ey rfl rfl (by(try simp only[Gk]);omega) ?_);refine a_ (h:=AP (Ah (?_)));refine AE ?_;refine⟨_,⟨_,_,?_,?_,rfl⟩,(wk 1 0)⟩<;>(try simp only[Gk])<;>omega
   have hc5:=bp hb5;refine AR (m_ (h:=m_ (h:=?_)));refine A7 rfl (BE 0 (hc:=Tz l _ (by omega)) (hR:=?_));rintro r a8 ha8 ⟨k8,rfl,hw⟩;refine⟨rfl,_,(by repeat constructor),?_⟩;refine A7 rfl (Ey rfl rfl (by(try simp only[Gk]);omega) ?_);refine a_ (h:=AP (Ah (?_)));refine AE ?_;refine⟨_,⟨_,_,?_,?_,rfl⟩,(wk 1 0)⟩<;>(try simp only[Gk])<;>omega
  rintro s ⟨b3,t1,hb3,ht1,rfl⟩;refine AR (m_ (h:=BD (h:=a_ (h:=AP (?_)))));refine AE ?_;refine⟨_,_,?_,⟨j+1,_,_,by omega,rfl,?_,?_,rfl⟩,(wk 1 0)⟩<;>omega
 have hc2:=bp hb2;refine BT (Ao (Ao (BU (t_ (q_ (w_ (m_ (h:=?_))))))));refine A7 rfl (BE 0 (hc:=Gn l _ (8) (by omega) (by omega)) (hR:=?_));rintro r a9 ha9 ⟨k9,rfl,p9,q9,o9⟩;refine⟨rfl,_,(by repeat constructor),?_⟩;refine AD (h:=e_ (?_));refine A8 rfl (fun hb6=>?_) (fun hb6=>?_)
 ·have hc6:=bp hb6;refine AR (m_ (h:=?_));refine A7 rfl (Ey rfl rfl (by(try simp only[Gk]);omega) ?_);refine a_ (h:=e_ (w_ (m_ (h:=a_ (h:=e_ (A4 (?_)))))));refine Ai none (h5:=(AA _)) (h6:=⟨_,rfl,rfl,_,?_,rfl,_,rfl,?_⟩)<;>(try simp only[Gk])<;>omega
 have hc6:=bp hb6;refine AB (w_ (m_ (h:=a_ (h:=e_ (A4 (?_))))));refine Ai none (h5:=(AA _)) (h6:=⟨_,rfl,rfl,_,?_,rfl,_,rfl,?_⟩)<;>(try simp only[Gk])<;>omega
end
theorem Z7:VD Kk:=by
 refine⟨by decide,by decide,by decide,⟨Nb,[],rfl,rfl,rfl,rfl⟩,List.pairwise_singleton _ _,?_,?_,?_,?_,?_,?_,?_,?_,?_,⟨fun _=>0,?_⟩⟩<;>
  (intro n hn;obtain rfl:n=Nb:=by simpa[Kk]using hn)
 ·decide
 ·decide+kernel
 ·intro h;exact absurd rfl h
 ·decide
 ·exact List.Pairwise.nil
 ·intro e he;cases he
 ·intro h;exact absurd rfl h
 ·intro h;exact absurd rfl h
 ·intro h;exact absurd rfl h
 intro h;exact absurd rfl h
theorem Z8{k:Int}(h1:1≤k)(h2:k≤3):FlsV (Eh k).1∧0<(Eh k).1.length:=by
 unfold Eh;rw[if_neg (by omega)];refine⟨⟨?_,fun d hd=>?_⟩,?_⟩
 ·show(List.replicate _ _).length≤3;rw[List.length_replicate];omega
 ·rw[(List.mem_replicate.1 hd).2];exact Z7
 show 0<(List.replicate _ _).length;rw[List.length_replicate];omega
structure MntOK(f:Aj)(ms:List D9)(m:D9):Prop where
 dev1:1≤m.1
 dev2:m.1<(f.length:Int)
 fresh:Co ⟨f,ms⟩ m.1=false
 dir:Ay f m.2=true
 there:Co ⟨f,ms⟩ m.2.1=true
 free:(D2 ⟨f,ms⟩ m.2).isSome=false
structure SpcV(s:Spc):Prop where
 files:FlsV s.files
 pos:0<s.files.length
 mnt:∀i m,s.mounts[i]?=some m→MntOK s.files (s.mounts.take i) m
theorem Z9{s:Spc}(h:SpcV s)(dev:Int)(a:AQ)(h0:(DO s dev a).2=0):SpcV (DO s dev a).1∧(DO s dev a).1=⟨s.files,s.mounts++[(dev,a)]⟩:=by
 unfold DO at h0 ⊢;split at h0
 ·exact absurd h0 (by decide)
 rename_i c1;split at h0
 ·exact absurd h0 (by decide)
 rename_i c2;split at h0
 ·exact absurd h0 (by decide)
 rename_i c3;split at h0
 ·exact absurd h0 (by decide)
 rename_i c4;split at h0
 ·exact absurd h0 (by decide)
 rename_i c5;rw[if_neg c1,if_neg c2,if_neg c3,if_neg c4,if_neg c5];refine⟨⟨h.files,h.pos,fun i m hi=>?_⟩,rfl⟩;simp only at hi ⊢;rcases Nat.lt_trichotomy i s.mounts.length with hlt|heq|hgt
 ·rw[Ck hlt]at hi;rw[List.take_append_of_le_length (by omega)];exact h.mnt i m hi
 ·subst heq;simp at hi;subst hi;rw[List.take_left' rfl];exact⟨by simp only;omega,by simp only;omega,by simpa using fun h=>c5 (.inl h),by simp only;rw[Lj];simp at c2 c3;simp[c2,c3],by simpa using fun h=>c4 (.inl h),Bool.eq_false_iff.2 fun h=>c5 (.inr h)⟩
 rw[List.getElem?_eq_none (by simp;omega)]at hi;cases hi
end Go.Proofs.YtbgnigjfkbmceaaGreatDoor
namespace Go.Proofs.YtbgnigjfkbmceaaGreatDoor
def EY(s:Spc)(a:AQ):Option AQ:=if a.2≠1 then some (a.1,(B5 s.files a).parent)else Cd s a.1
def ends(s:Spc):Nat→AQ→Prop
 |0,a=>Ay s.files a=false
 |k+1,a=>Ay s.files a=false∨∀b,EY s a=some b→ends s k b
theorem O4{s:Spc}{dev:Int}{on:AQ}(h:Cd s dev=some on):∃m∈s.mounts,m.1=dev∧m.2=on:=by
 unfold Cd at h
 cases hf:s.mounts.find? fun m:D9=>decide (m.1=dev)with
 |none=>rw[hf]at h;cases h
 |some m=>
   rw[hf]at h;injection h with h;exact⟨m,List.mem_of_find?_eq_some hf,by have:=List.find?_some hf;simpa using this,h⟩
theorem MG{f:Aj}{a:AQ}(h:¬Ay f a=false):∃(q:Nat) (d:Dvc) (m:Nod),a.1=(q:Int)∧f[q]?=some d∧m∈d.nodes∧m.ino=a.2∧B5 f a=m∧m.kind=2:=by
 rw[Bool.not_eq_false,Lj,Bool.and_eq_true,decide_eq_true_eq]at h;obtain⟨q,i,d,m,h1,h2,h3,h4,_,h6⟩:=O0 h.1;exact⟨q,d,m,h1,h2,Aw h3,h4,h6,by rw[←h6];exact h.2⟩
theorem MH{s:Spc}(hv:SpcV s){a:AQ}(h:¬Ay s.files a=false):JC s a=EY s a:=by
 obtain⟨q,d,m,_,_,_,h4,h5,_⟩:=MG h;unfold JC EY;rw[h5,h4];split
 ·rfl
 split
 ·rename_i h0
  cases ho:Cd s a.1 with
  |none=>rfl
  |some on=>
    obtain⟨m',hm,h1,_⟩:=O4 ho;obtain⟨i,hi⟩:=List.getElem?_of_mem hm;have:=(hv.mnt i m' hi).dev1;omega
 rfl
def Jm(s:Spc)(dev:Int):Nat:=match s.mounts.findIdx? fun m:D9=>decide (m.1=dev)with
 |none=>0
 |some i=>i+1
theorem U0{s:Spc}(hv:SpcV s){dev:Int}{on:AQ}(h:Cd s dev=some on):Jm s on.1<Jm s dev:=by
 unfold Cd at h
 cases hf:s.mounts.find? fun m:D9=>decide (m.1=dev)with
 |none=>rw[hf]at h;cases h
 |some m=>
   rw[hf]at h;injection h with h;subst h;rw[List.find?_eq_some_iff_getElem]at hf;obtain⟨hp,i,hi,hmi,hbefore⟩:=hf
   have e1:s.mounts.findIdx? (fun m:D9=>decide (m.1=dev))=some i:=by
    rw[List.findIdx?_eq_some_iff_getElem];exact⟨hi,by rw[hmi];exact hp,fun j hj=>by simpa using hbefore j hj⟩
   have hthere:=(hv.mnt i m (by rw[BJ hi,hmi])).there;unfold Jm;rw[e1]
   cases e2:s.mounts.findIdx? (fun m':D9=>decide (m'.1=m.2.1))with
   |none=>simp
   |some j=>
     simp only;by_cases h0:m.2.1=0
     ·rw[List.findIdx?_eq_some_iff_getElem]at e2;obtain⟨hj,h1,_⟩:=e2;have:=(hv.mnt j _ (BJ hj)).dev1;simp only[decide_eq_true_eq]at h1;omega
     unfold Co Cd at hthere;simp only[Bool.or_eq_true,decide_eq_true_eq,h0,or_false,Option.isSome_map]at hthere
     cases hg:(s.mounts.take i).find? fun m':D9=>decide (m'.1=m.2.1)with
     |none=>rw[hg]at hthere;cases hthere
     |some m'=>
       rw[List.find?_eq_some_iff_getElem]at hg;obtain⟨hp',k,hk,hmk,_⟩:=hg;rw[List.findIdx?_eq_some_iff_getElem]at e2;obtain⟨hj,_,hno⟩:=e2;have hki:k<i:=by simp at hk;omega
       by_cases hjk:j≤k
       ·omega
       have:=hno k (by omega);simp only[List.getElem_take]at hmk;rw[hmk]at this;rw[hp']at this;exact absurd rfl this
theorem ZA{s:Spc}(hv:SpcV s):∀(p:Nat) (a:AQ),Jm s a.1<p→∃k,ends s k a:=by
 intro p
 induction p with
 |zero=>intro a h;omega
 |succ p ih=>
   intro a hp;by_cases hd:Ay s.files a=false
   ·exact⟨0,hd⟩
   obtain⟨q,d,m,hq,hfd,_⟩:=MG hd;have hvd:=hv.files.vd d (Aw hfd);obtain⟨rk,hrk⟩:=hvd.rank
   have key:∀(r:Nat) (ino:Int),rk ino<r→∃k,ends s k (a.1,ino):=by
    intro r
    induction r with
    |zero=>intro ino h;omega
    |succ r ihr=>
      intro ino hr;by_cases hd2:Ay s.files (a.1,ino)=false
      ·exact⟨0,hd2⟩
      obtain⟨q',d',m',hq',hfd',hm',hi',hn',hk'⟩:=MG hd2;have:q'=q:=by simp only at hq';omega
      subst this;rw[hfd]at hfd';injection hfd' with hfd';subst hfd';simp only at hi';by_cases h1:ino=1
      ·cases ho:Cd s a.1 with
       |none=>exact⟨1, .inr fun b hb=>by simp[EY,h1,ho]at hb⟩
       |some on=>
         obtain⟨k,hk⟩:=ih on (by have:=U0 hv ho;omega);refine⟨k+1, .inr fun b hb=>?_⟩;simp[EY,h1,ho]at hb;rw[←hb];exact hk
      obtain⟨k,hk⟩:=ihr m'.parent (by have:=hrk m' hm' (by omega) hk';rw[hi']at this;omega);refine⟨k+1, .inr fun b hb=>?_⟩;simp[EY,h1,hn']at hb;rw[←hb];exact hk
   exact key (rk a.2+1) a.2 (by omega)
theorem Ky{s:Spc}{a:AQ}(h:Ay s.files a=false):∀k,DS s k a=[]
 |0=>rfl
 |k+1=>by unfold DS;rw[h];rfl
theorem Jn{s:Spc}{a:AQ}(h:¬Ay s.files a=false)(k:Nat):DS s (k+1) a=a::(match JC s a with
    |none=>[]
    |some b=>DS s k b):=by
 conv=>lhs;unfold DS
 rw[if_pos (by simpa using h)];cases JC s a<;>rfl
theorem U1{s:Spc}(hv:SpcV s):∀(k k':Nat) (a:AQ),ends s k a→ends s k' a→DS s k a=DS s k' a:=by
 intro k
 induction k with
 |zero=>intro k' a h _;rw[Ky h,Ky h]
 |succ k ih=>
   intro k' a h h';by_cases hd:Ay s.files a=false
   ·rw[Ky hd,Ky hd]
   cases k' with
   |zero=>exact absurd h' hd
   |succ k'=>
     rw[Jn hd,Jn hd];have h1:=h.resolve_left hd;have h2:=h'.resolve_left hd;rw[←MH hv hd]at h1 h2
     cases hs:JC s a with
     |none=>rfl
     |some b=>simp only;rw[ih k' b (h1 b hs) (h2 b hs)]
theorem U2{s:Spc}(hv:SpcV s):∀(k:Nat) (a x:AQ),ends s k a→x∈DS s k a→(¬Ay s.files x=false)∧∃j,ends s j x∧(DS s j x).length≤(DS s k a).length:=by
 intro k
 induction k with
 |zero=>intro a x h hx;cases hx
 |succ k ih=>
   intro a x h hx;by_cases hd:Ay s.files a=false
   ·rw[Ky hd]at hx;cases hx
   have h1:=h.resolve_left hd;rw[←MH hv hd]at h1;rw[Jn hd]at hx;rcases List.mem_cons.1 hx with rfl|hx
   ·exact⟨hd,k+1,h,BN _⟩
   rw[Jn hd]
   cases hs:JC s a with
   |none=>rw[hs]at hx;cases hx
   |some b=>
     rw[hs]at hx;obtain⟨h2,j,h3,h4⟩:=ih b x (h1 b hs) hx;exact⟨h2,j,h3,by simp;omega⟩
theorem ZB{s:Spc}(hv:SpcV s):∀(k:Nat) (a:AQ),ends s k a→(DS s k a).Nodup:=by
 intro k
 induction k with
 |zero=>intro a h;exact List.nodup_nil
 |succ k ih=>
   intro a h;by_cases hd:Ay s.files a=false
   ·rw[Ky hd];exact List.nodup_nil
   have h1:=h.resolve_left hd;rw[←MH hv hd]at h1
   cases hs:JC s a with
   |none=>rw[Jn hd,hs];simp
   |some b=>
     have e:DS s (k+1) a=a::DS s k b:=by rw[Jn hd,hs]
     rw[e,List.nodup_cons];refine⟨fun hm=>?_,ih b (h1 b hs)⟩;obtain⟨_,j,h3,h4⟩:=U2 hv k b a (h1 b hs) hm;rw[U1 hv j (k+1) a h3 h,e]at h4;simp at h4;omega
def Kz:Nat→Aj→List AQ
 |_,[]=>[]
 |q,d::ds=>d.nodes.map (fun n=>((q:Int),n.ino))++Kz (q+1) ds
theorem U3:∀(f:Aj) (q:Nat),(Kz q f).length=Ei f
 |[],_=>rfl
 |d::ds,q=>by
   have:=U3 ds (q+1);unfold Ei at this ⊢;simp only[Kz,List.length_append,List.length_map,List.map_cons,List.sum_cons];omega
theorem U4:∀(f:Aj) (q i:Nat) (d:Dvc) (m:Nod),f[i]?=some d→m∈d.nodes→(((q+i:Nat):Int),m.ino)∈Kz q f
 |[],_,i,_,_,h,_=>by simp at h
 |d0::ds,q,0,d,m,h,hm=>by
   simp only[List.getElem?_cons_zero,Option.some.injEq]at h;subst h;simp only[Kz,Nat.add_zero];exact List.mem_append_left _ (List.mem_map.2 ⟨m,hm,rfl⟩)
 |d0::ds,q,i+1,d,m,h,hm=>by
   simp only[List.getElem?_cons_succ]at h;have:=U4 ds (q+1) i d m h hm;simp only[Kz];refine List.mem_append_right _ ?_
   rwa [show q+(i+1)=q+1+i by omega]
theorem ZC{l:List AQ}(hn:l.Nodup):∀{m:List AQ},(∀x∈l,x∈m)→l.length≤m.length:=by
 induction l with
 |nil=>intro m _;simp
 |cons x xs ih=>
   intro m h;rw[List.nodup_cons]at hn
   have h1:=ih hn.2 (m:=m.erase x) fun y hy=>by
    have hne:y≠x:=fun e=>hn.1 (e ▸ hy);exact(List.mem_erase_of_ne hne).2 (h y (List.mem_cons_of_mem _ hy))
   have h2:=List.length_erase_of_mem (h x (List.mem_cons_self ..));have h3:0<m.length:=List.length_pos_of_mem (h x (List.mem_cons_self ..));simp only[List.length_cons];omega
theorem ZD{s:Spc}(hv:SpcV s){k:Nat}{a:AQ}(h:ends s k a):(DS s k a).length≤Ei s.files:=by
 rw[←U3 s.files 0];refine ZC (ZB hv k a h) fun x hx=>?_;obtain⟨hd,_⟩:=U2 hv k a x h hx;obtain⟨q,d,m,h1,h2,h3,h4,_⟩:=MG hd;have:=U4 s.files 0 q d m h2 h3;rw[Nat.zero_add,h4,←h1]at this;exact this
theorem ZE{s:Spc}(hv:SpcV s):∀(k m:Nat) (a:AQ),ends s k a→(DS s k a).length≤m→ends s m a:=by
 intro k
 induction k with
 |zero=>
   intro m a h _
   cases m with
   |zero=>exact h
   |succ m=>exact .inl h
 |succ k ih=>
   intro m a h hl;by_cases hd:Ay s.files a=false
   ·cases m with
    |zero=>exact hd
    |succ m=>exact .inl hd
   have h1:=h.resolve_left hd;rw[Jn hd]at hl
   cases m with
   |zero=>simp at hl
   |succ m=>
     refine .inr fun b hb=>?_;have hb':=hb;rw[←MH hv hd]at hb';rw[hb']at hl;exact ih m b (h1 b hb) (by simpa using hl)
theorem O5{s:Spc}(hv:SpcV s)(a:AQ):ends s (Ei s.files) a:=by
 obtain⟨k,hk⟩:=ZA hv (Jm s a.1+1) a (Nat.lt_succ_self _);exact ZE hv k _ a hk (ZD hv hk)
end Go.Proofs.YtbgnigjfkbmceaaGreatDoor
namespace Go.Proofs.YtbgnigjfkbmceaaGreatDoor
open Go.RowKit Go.Shelf
section
variable {F:Fence}{n:Nat}{P:Program}
end
attribute [local go_sem] Oper.semAt_some
end Go.Proofs.YtbgnigjfkbmceaaGreatDoor
namespace Go.Proofs.YtbgnigjfkbmceaaGreatDoor
open Go.RowKit Go.Shelf
attribute [local go_sem] Oper.semAt_some
end Go.Proofs.YtbgnigjfkbmceaaGreatDoor
namespace Go.Proofs.YtbgnigjfkbmceaaGreatDoor
open Go.RowKit
def JF(s:Spc)(a:AQ):Nod:=B5 s.files (a.1,(B5 s.files a).parent)
def H8(s:Spc)(a:AQ):AT:=(((JF s a).entries.find? fun e:Bc=>decide (e.2=a.2)).map (·.1)).getD ⟨#[]⟩
end Go.Proofs.YtbgnigjfkbmceaaGreatDoor
namespace Go.Proofs.YtbgnigjfkbmceaaGreatDoor
open Go.RowKit Go.Shelf
section
variable {F:Fence}{n:Nat}{P:Program}
end
def Gl(d m:AT):AT:=if d.data.toList.getLast?=some 47 then d++m else d++⟨#[47]⟩++m
end Go.Proofs.YtbgnigjfkbmceaaGreatDoor
namespace Go.Proofs.YtbgnigjfkbmceaaGreatDoor
open Go.RowKit Go.Shelf
attribute [local go_sem] Oper.semAt_some
end Go.Proofs.YtbgnigjfkbmceaaGreatDoor
namespace Go.Proofs.YtbgnigjfkbmceaaGreatDoor
open Go.RowKit Go.Shelf
attribute [local go_sem] Oper.semAt_some
def L0(s:Spc)(pre:List AQ):List AT:=(pre.filter fun x:AQ=>decide (x.2≠1)).map (H8 s)
def L3(s:Spc)(pre:List AQ):AT:=(L0 s pre).reverse.foldl Gl ⟨#[47]⟩
def DT(s:Spc)(dir:AQ):AT×Bool:=
 if Ay s.files dir=true∧Co s dir.1=true∧(0,1)∈DS s (Ei s.files) dir then(L3 s ((DS s (Ei s.files) dir).takeWhile fun x=>decide (x≠(0,1))),true)else(⟨#[]⟩,false)
end Go.Proofs.YtbgnigjfkbmceaaGreatDoor
namespace Go.Proofs.YtbgnigjfkbmceaaGreatDoor
open Go.RowKit Go.Shelf
attribute [local go_sem] Oper.semAt_some
end Go.Proofs.YtbgnigjfkbmceaaGreatDoor
namespace Go.Proofs.YtbgnigjfkbmceaaGreatDoor
open Go.RowKit
theorem SpcV.b{s:Spc}(h:SpcV s)(hm:s.mounts.length≤1000):SpcB s:=⟨h.files.b,hm⟩
structure SpcN(s:Spc):Prop where
 b:SpcB s
 nm:∀x,(H8 s x).size≤100
 most:Ei s.files≤5000
theorem ZF{f:Aj}{a:AQ}(h:Dz f a=true):∃d∈f,B5 f a∈d.nodes:=by
 obtain⟨q,i,d,m,_,h2,h3,_,_,h6⟩:=O0 h;exact⟨d,Aw h2,by rw[h6];exact Aw h3⟩
theorem ZG{x:AT}(h:FM x=true):x.size≤12:=by
 rw[Je]at h;by_cases hc:x.size<1∨12<x.size
 ·rw[if_pos hc]at h;cases h
 omega
theorem QO{s:Spc}(h:FlsV s.files)(x:AQ):(H8 s x).size≤12:=by
 unfold H8
 cases hf:(JF s x).entries.find? fun e:Bc=>decide (e.2=x.2)with
 |none=>exact BV _
 |some e=>
   have hm:=List.mem_of_find?_eq_some hf;unfold JF at hm;by_cases hh:Dz s.files (x.1,(B5 s.files x).parent)=true
   ·obtain⟨d,hd,hn⟩:=ZF hh;exact ZG ((h.vd d hd).ent _ hn e hm).1
   have:B5 s.files (x.1,(B5 s.files x).parent)=Nod.zero:=by
    unfold Dz at hh
    cases hq:CR s.files (x.1,(B5 s.files x).parent)with
    |none=>show(CR s.files (x.1,(B5 s.files x).parent)).getD Nod.zero=Nod.zero;rw[hq];rfl
    |some m=>rw[hq]at hh;exact absurd rfl hh
   rw[this]at hm;cases hm
theorem U5{f:Aj}(h:FlsV f):Ei f≤48:=by
 have:∀(l:Aj),(∀d∈l,d.nodes.length≤16)→Ei l≤l.length * 16:=by
  intro l
  induction l with
  |nil=>intro _;simp[Ei]
  |cons d l ih=>
    intro h;have h1:=ih fun d hd=>h d (List.mem_cons_of_mem _ hd);have h2:=h d (List.mem_cons_self ..);simp only[Ei,List.map_cons,List.sum_cons,List.length_cons]at h1 ⊢;omega
 have h1:=this f fun d hd=>(h.vd d hd).len;have h2:=h.few;omega
theorem SpcV.n{s:Spc}(h:SpcV s)(hm:s.mounts.length≤1000):SpcN s:=⟨⟨h.files.b,hm⟩,fun x=>by have:=QO h.files x;omega,by have:=U5 h.files;omega⟩
def JG(w:World):Nat→Nat→Prop:=fun b _=>b<w.heap.size
def Opens(P:Program)(t:TypeId)(R:List AV→Prop):Prop:=
 ∀(H:Type) (enc:TypeId×Value→H) (w:World) (base:Nat) (spare:Nat→Bool) (held:Bool) (fuel:Nat) (cs:List Value) (x:DataW H×List MemPlace),DataW.trod enc P w base spare held fuel t cs=some x→
  ∃row,R row∧Br (JG w) w row cs∧∀u∈cs,u.oneCell'=true
section
variable {P:Program}{t:TypeId}
theorem Opens.mono{R R':List AV→Prop}(h:Opens P t R)(hR:∀r,R r→R' r):Opens P t R':=by
 intro H enc w base spare held fuel cs x hx;obtain⟨row,h1,h2⟩:=h H enc w base spare held fuel cs x hx;exact⟨row,hR _ h1,h2⟩
theorem ZH{k:IntKind}(ht:P.underlying t=some (.int k)):Opens P t fun r=>∃n,r=[.v (.int k n)]∧(Lit.int k n).wf=true:=by
 intro H enc w base spare held fuel cs x hx;obtain⟨b,rfl,_,hw⟩:=DataW.trod_int ht hx;exact⟨_,⟨b,rfl,hw⟩,⟨_,_,rfl,by simp only[B6],by simp only[Br]⟩,by simp[Value.oneCell']⟩
theorem ZJ{w:World}{b o:Nat}{v:Value}(h:w.cell? ⟨b,o,none⟩=some v):b<w.heap.size:=by
 rcases Nat.lt_or_ge b w.heap.size with hlt|hge
 ·exact hlt
 simp[World.cell?,Array.getElem?_eq_none hge]at h
theorem ZK{St:Nat→Nat→Prop}{w:World}{xs:List AV}{ys:List Value}(h:Br St w xs ys):ys.length=xs.length:=GS (G:=⟨St,[],[]⟩) (Ju (G:=⟨St,[],[]⟩) _ _ h)
theorem ZL{e:TypeId}{n:Nat}{R:List AV→Prop}(ht:P.underlying t=some (.slice e))(hc:P.cellsOf e=n)(hn:0<n)(h:Opens P e R):Opens P t fun r=>∃rows,r=[.sl n rows none]∧rows.length≤maxLen∧∀x∈rows,R x:=by
 intro H enc w base spare held fuel cs x hx;rcases DataW.trod_slice ht hx with⟨rfl,_⟩|⟨⟨b,off,spot⟩,len,cap,elems,rest,m,rfl,rfl,_,hb,hl,hm,hlen,hel,_,_⟩
 ·exact⟨_,⟨[],rfl,BV _,by simp⟩,⟨_,_,rfl,by simp only[B6];exact⟨trivial,none,0,rfl,BN _,BV _, .inl trivial⟩,by simp only[Br]⟩,by simp[Value.oneCell']⟩
 have each:∀i,i<len→∃row cs',R row∧row.length=n∧Br (JG w) w row cs'∧(∀u∈cs',u.oneCell'=true)∧cs'.length=n∧∀j,j<n→w.cell? (Addr.add ⟨b,off,spot⟩ (i * n+j))=cs'[j]?:=by
  intro i hi;have h1:=hel i hi;rw[hc,BJ (by omega),Option.bind_eq_some_iff]at h1;obtain⟨cs',h2,h3⟩:=h1;obtain⟨row,r1,r2,r3⟩:=h _ _ _ _ _ _ _ _ _ h3;obtain⟨_,c1,c2⟩:=World.cells?_some h2;refine⟨row,cs',r1,by rw[←ZK r2,c1],r2,r3,c1,fun j hj=>?_⟩;have:=c2 j hj
  rwa [Addr.add_add]at this
 have hrows:∃rows:List (List AV),rows.length=len∧(∀i,i<len→∃row cs',rows[i]?=some row∧R row∧row.length=n∧Br (JG w) w row cs'∧(∀u∈cs',u.oneCell'=true)∧cs'.length=n∧∀j,j<n→w.cell? (Addr.add ⟨b,off,spot⟩ (i * n+j))=cs'[j]?):=by
  clear hel
  have:∀k,k≤len→∃rows:List (List AV),rows.length=k∧(∀i,i<k→∃row cs',rows[i]?=some row∧R row∧row.length=n∧Br (JG w) w row cs'∧(∀u∈cs',u.oneCell'=true)∧cs'.length=n∧∀j,j<n→w.cell? (Addr.add ⟨b,off,spot⟩ (i * n+j))=cs'[j]?):=by
   intro k
   induction k with
   |zero=>intro _;exact⟨[],rfl,fun i hi=>by omega⟩
   |succ k ih=>
     intro hk;obtain⟨rows,e1,e2⟩:=ih (by omega);obtain⟨row,cs',q⟩:=each k (by omega);refine⟨rows++[row],by simp[e1],fun i hi=>?_⟩;rcases Nat.lt_or_ge i k with hlt|hge
     ·obtain⟨row',cs'',q1,q2⟩:=e2 i hlt;exact⟨row',cs'',by rw[Ck (by omega)];exact q1,q2⟩
     obtain rfl:i=k:=by omega
     exact⟨row,cs',by rw[Dj (by omega),e1];simp,q⟩
  exact this len (BN _)
 obtain⟨rows,e1,e2⟩:=hrows;refine⟨_,⟨rows,rfl,by omega,fun x hx=>?_⟩,⟨_,_,rfl,?_,by simp only[Br]⟩,by simp[Value.oneCell']⟩
 ·obtain⟨i,hi⟩:=List.getElem?_of_mem hx;obtain⟨row,_,q1,q2,_⟩:=e2 i (by rw[←e1];exact(At.1 hi).1);rw[hi]at q1;injection q1 with q1;subst q1;exact q2
 simp only[B6];refine⟨trivial,some ⟨b,off,spot⟩,cap,by rw[e1],by omega,hm,?_⟩;rcases Nat.eq_zero_or_pos len with h0|h0
 ·left;exact ER (by omega)
 right
 have hspot:spot=none:=by
  obtain⟨_,cs',_,_,_,_,_,c3,c4⟩:=e2 0 h0;have:=c4 0 hn;rw[BJ (by omega)]at this
  simpa[Addr.add]using World.cell?_spot this
 subst hspot;refine⟨b,off,rfl,?_⟩
 have:∀(rs:List (List AV)) (k:Nat),(∀i r,rs[i]?=some r→rows[k+i]?=some r)→froR (JG w) w b n rs (off+k * n):=by
  intro rs
  induction rs with
  |nil=>intro k _;simp only[froR]
  |cons r rs ih=>
    intro k hk;simp only[froR];have h1:=hk 0 r rfl;rw[Nat.add_zero]at h1;obtain⟨row,cs',q1,_,q3,q4,q5,q6,q7⟩:=e2 k (by rw[←e1];exact(At.1 h1).1);rw[h1]at q1;injection q1 with q1;subst q1;refine⟨⟨q3,LO fun i x hi=>?_⟩,?_⟩
    ·obtain⟨u,u1,u2⟩:=N5 q4 hi;have hin:i<n:=by rw[←q3];exact(At.1 hi).1
     have hc:=q7 i hin;rw[u1]at hc;have hc':w.cell? ⟨b,off+k * n+i,none⟩=some u:=by rw[Addr.add_mid]at hc;rwa [Nat.add_assoc]
     exact⟨ZJ hc',u,hc',q5 u (Aw u1),u2⟩
    have:=ih (k+1) (fun i r' hi=>by
     have:=hk (i+1) r' (by simpa using hi)
     rwa [show k+1+i=k+(i+1) by omega])
    rwa [show off+(k+1) * n=off+k * n+n by rw[Nat.add_mul];omega]at this
 simpa using this rows 0 (fun i r hi=>by simpa using hi)
theorem U6{α:Type}{enc:α→List AV}{Q:α→Prop}:∀{rows:List (List AV)},(∀x∈rows,∃a,x=enc a∧Q a)→∃l:List α,rows=l.map enc∧∀a∈l,Q a
 |[],_=>⟨[],rfl,by simp⟩
 |r::rs,h=>by
   obtain⟨a,rfl,ha⟩:=h r (by simp);obtain⟨l,rfl,hl⟩:=U6 (rows:=rs) fun x hx=>h x (by simp[hx]);exact⟨a::l,rfl,by simpa using⟨ha,hl⟩⟩
theorem Opens.one{R:List AV→Prop}(h:Opens P t R){H:Type}{enc:TypeId×Value→H}{w:World}{base:Nat}{spare:Nat→Bool}{held:Bool}{v:Value}{d:DataW H}{ps:List MemPlace}(hv:v.cells=#[v])(hd:DataW.Trod enc P w base spare held t v d ps):
    ∃row,R row∧Br (JG w) w row [v]:=by
 obtain⟨fuel,hf⟩:=hd;rw[hv]at hf;obtain⟨row,h1,h2,_⟩:=h _ _ _ _ _ _ _ _ _ hf;exact⟨row,h1,h2⟩
end
theorem ZM:Opens prog 22 (fun r=>∃l:List Int,r=[.sl 1 (l.map C9) none]):=
 (ZL (n:=1) Tryz.underlying22 (by kernel_rfl) (by omega) (ZH Tryz.underlying3)).mono (by
   rintro r ⟨rows,rfl,_,hr⟩;obtain⟨l,rfl,_⟩:=U6 (enc:=C9) (Q:=fun _=>True) (fun x hx=>by obtain⟨t,rfl,_⟩:=hr x hx;exact⟨t,rfl,trivial⟩)
   exact⟨l,rfl⟩)
theorem ZN{H:Type}{enc:TypeId×Value→H}{sp:Nat→Bool}{held:Bool}{base:Nat}{w:World}{a:Option Addr}{n c:Nat}{d:DataW H}{p:List MemPlace}(h:DataW.Trod enc prog w base sp held 22 (.slice a n c) d p):
    ∃l:List Int,rep ⟨JG w,[],[]⟩ w (.sl 1 (l.map C9) none) (.slice a n c):=by
 obtain⟨r0,⟨l,rfl⟩,k0⟩:=ZM.one rfl h;simp only[Br]at k0;obtain⟨_,_,e0,k0,rfl⟩:=k0;injection e0 with e0;subst e0;exact⟨l,Gw (G:=⟨JG w,[],[]⟩) _ _ k0⟩
theorem ZO{f:FuncId}(us:List Value)(hf:∀l:List Int,AFn prog f (.sl 1 (l.map C9) none::us.map AV.v) (fun x=>x= .v (.bool true))){H:Type}{enc:TypeId×Value→H}{sp:Nat→Bool}{held:Bool}{base:Nat}(a:Option Addr)(n c:Nat)(w:World){d:DataW H}{p:List MemPlace}
    (h:DataW.Trod enc prog w base sp held 22 (.slice a n c) d p):Calls prog f (.slice a n c::us).toArray w fun e w'=>e= .returned (.bool true)∧Below w.heap.size w w':=by
 obtain⟨l,k⟩:=ZN h;refine Wj (vs:= .slice a n c::us) (hf l) (JG w) (fun b o h=>h) ?_;simp only[Ab];exact⟨_,_,rfl,k,Rq us⟩
theorem QP{s:Spc}{dev:Int}(h:Co s dev=true)(h0:dev≠0):∃m∈s.mounts,m.1=dev:=by
 unfold Co Cd at h;simp only[Bool.or_eq_true,decide_eq_true_eq,h0,or_false]at h
 cases hf:s.mounts.find? fun m:D9=>decide (m.1=dev)with
 |none=>rw[hf]at h;cases h
 |some m=>exact⟨m,List.mem_of_find?_eq_some hf,by have:=List.find?_some hf;simpa using this⟩
theorem QQ{s:Spc}{m:D9}(h:m∈s.mounts):Co s m.1=true:=by
 unfold Co Cd;rw[Bool.or_eq_true];refine .inl ?_;rw[Option.isSome_map]
 cases hf:s.mounts.find? fun m':D9=>decide (m'.1=m.1)with
 |none=>have:=List.find?_eq_none.1 hf m h;simp at this
 |some m=>rfl
theorem U7{f:Aj}{ms ms':List D9}{dev:Int}(h:Co ⟨f,ms⟩ dev=true)(hs:∀m∈ms,m∈ms'):Co ⟨f,ms'⟩ dev=true:=by
 by_cases h0:dev=0
 ·unfold Co;simp[h0]
 obtain⟨m,hm,rfl⟩:=QP h h0;exact QQ (s:=⟨f,ms'⟩) (hs m hm)
section
theorem U8(s:Spc):∀(k:Nat) (a:AQ),(DS s k a).length≤k
 |0,_=>by simp[DS]
 |k+1,a=>by
   unfold DS;split
   ·cases h:JC s a with
    |none=>simp
    |some b=>have:=U8 s k b;simp;omega
   simp
end
end Go.Proofs.YtbgnigjfkbmceaaGreatDoor
namespace Go.Proofs.YtbgnigjfkbmceaaGreatDoor
section
variable {s:Spc}(hv:SpcV s)
include hv
theorem ZP{q:Nat}{d:Dvc}{p:Nod}{x:Int}(hq:s.files[q]?=some d)(hp:p∈d.nodes)(hx:p.ino=x):CR s.files ((q:Int),x)=some p:=
 QM (a:=((q:Int),x)) rfl hq (hv.files.vd d (Aw hq)).asc hp hx
theorem U9{a b:AQ}(h:Ay s.files a=true)(hs:EY s a=some b):Ay s.files b=true:=by
 obtain⟨q,d,m,h1,h2,h3,h4,h5,h6⟩:=MG (f:=s.files) (a:=a) (by rw[h];simp);have hd:=hv.files.vd d (Aw h2);unfold EY at hs;by_cases h0:a.2≠1
 ·rw[if_pos h0]at hs;injection hs with hs;subst hs;rw[h5,h1];obtain⟨p,hp,hpi,e,he,_⟩:=hd.par m h3 (by rw[h4];exact h0) h6
  have hk:p.kind=2:=by
   by_cases hk:p.kind=2
   ·exact hk
   have:=(hd.leaf p hp hk).2;rw[this]at he;cases he
  exact(O2 (ZP hv h2 hp hpi)).2 hk
 rw[if_neg h0]at hs;obtain⟨m',hm',_,e⟩:=O4 hs;obtain⟨i,hi⟩:=List.getElem?_of_mem hm';rw[←e];exact(hv.mnt i m' hi).dir
theorem UA{a b:AQ}(h:Co s a.1=true)(hs:EY s a=some b):Co s b.1=true:=by
 unfold EY at hs;by_cases h0:a.2≠1
 ·rw[if_pos h0]at hs;injection hs with hs;subst hs;exact h
 rw[if_neg h0]at hs;obtain⟨m',hm',_,e⟩:=O4 hs;obtain⟨i,hi⟩:=List.getElem?_of_mem hm';rw[←e];exact U7 (f:=s.files) (hv.mnt i m' hi).there (fun x hx=>List.mem_of_mem_take hx)
theorem ZQ:Cd s 0=none:=by
 cases h:Cd s 0 with
 |none=>rfl
 |some on=>
   obtain⟨m',hm',e,_⟩:=O4 h;obtain⟨i,hi⟩:=List.getElem?_of_mem hm';have:=(hv.mnt i m' hi).dev1;omega
theorem ZR{a:AQ}(h:Co s a.1=true)(h0:a≠(0,1)):∃b,EY s a=some b:=by
 have _:=hv;unfold EY;by_cases h1:a.2≠1
 ·exact⟨_,if_pos h1⟩
 rw[if_neg h1];have h2:a.1≠0:=fun e=>h0 (Prod.ext e (by simpa using h1));unfold Co at h;rw[decide_eq_false h2,Bool.or_false]at h
 cases ho:Cd s a.1 with
 |none=>rw[ho]at h;cases h
 |some b=>exact⟨b,rfl⟩
theorem O6{a:AQ}(h:Ay s.files a=true):DS s (Ei s.files) a=a::(match EY s a with
    |none=>[]
    |some b=>DS s (Ei s.files) b):=by
 have hd:¬Ay s.files a=false:=by rw[h];simp
 have he:=O5 hv a
 cases hm:Ei s.files with
 |zero=>rw[hm]at he;exact absurd he hd
 |succ m=>
   rw[hm]at he;rw[Jn hd,MH hv hd]
   cases hs:EY s a with
   |none=>rfl
   |some b=>
     simp only;have h1:=he.resolve_left hd b hs;have h2:=O5 hv b;rw[hm]at h2;rw[U1 hv m (m+1) b h1 h2]
theorem ZS{a:AQ}(h:Ay s.files a=true)(hm:Co s a.1=true):(0,1)∈DS s (Ei s.files) a:=by
 have key:∀(k:Nat) (a:AQ),ends s k a→Ay s.files a=true→Co s a.1=true→(0,1)∈DS s (Ei s.files) a:=by
  intro k
  induction k with
  |zero=>intro a he h _;rw[show Ay s.files a=false from he]at h;cases h
  |succ k ih=>
    intro a he h hm;by_cases h0:a=(0,1)
    ·rw[O6 hv h,h0];exact List.mem_cons_self ..
    obtain⟨b,hb⟩:=ZR hv hm h0;rw[O6 hv h,hb];exact List.mem_cons_of_mem _ (ih b (he.resolve_left (by rw[h];simp) b hb) (U9 hv h hb) (UA hv hm hb))
 exact key _ a (O5 hv a) h hm
theorem MJ{a:AQ}(h:¬(Ay s.files a=true∧Co s a.1=true)):DT s a=(⟨#[]⟩,false):=by
 have _:=hv;unfold DT;rw[if_neg fun c=>h ⟨c.1,c.2.1⟩]
theorem QR{a:AQ}(h:Ay s.files a=true)(hm:Co s a.1=true):DT s a=(L3 s ((DS s (Ei s.files) a).takeWhile fun x=>decide (x≠(0,1))),true):=by
 unfold DT;rw[if_pos ⟨h,hm,ZS hv h hm⟩]
theorem MK(h:Ay s.files (0,1)=true):DT s (0,1)=(⟨#[47]⟩,true):=by
 rw[QR hv h (by unfold Co;simp),O6 hv h,List.takeWhile_cons];simp[L3,L0]
theorem UB{a b:AQ}(h:Ay s.files a=true)(hm:Co s a.1=true)(h0:a≠(0,1))(hb:EY s a=some b):DT s a=(if a.2=1 then(DT s b).1 else Gl (DT s b).1 (H8 s a),true)∧(DT s b).2=true:=by
 rw[QR hv h hm,QR hv (U9 hv h hb) (UA hv hm hb),O6 hv h,hb,List.takeWhile_cons];simp only[h0,ne_eq,not_false_eq_true,decide_true,if_true];refine⟨?_,trivial⟩;unfold L3 L0;rw[List.filter_cons];by_cases h1:a.2=1
 ·simp[h1]
 simp[h1]
def Em(s:Spc):Nat→AQ→AQ
 |0,a=>a
 |k+1,a=>if Ay s.files a=true then(if a.2≠1 then(a.1,(B5 s.files a).parent)else match Cd s a.1 with
   |some on=>Em s k on
   |none=>a)else(0,0)
omit hv in
theorem ZT(dev:Int):Jm s dev≤s.mounts.length:=by
 unfold Jm
 cases h:s.mounts.findIdx? fun m:D9=>decide (m.1=dev)with
 |none=>simp
 |some i=>
   have:=(List.findIdx?_eq_some_iff_getElem.1 h).1;simp only;omega
theorem ZU{i j:Nat}{m m':D9}(hi:s.mounts[i]?=some m)(hj:s.mounts[j]?=some m')(h:m.1=m'.1):i=j:=by
 have key:∀{i j:Nat} {m m':D9},s.mounts[i]?=some m→s.mounts[j]?=some m'→m.1=m'.1→¬i<j:=by
  intro i j m m' hi hj h hlt;have hf:=(hv.mnt j m' hj).fresh
  have hm:m∈s.mounts.take j:=by
   refine Aw (i:=i) ?_;rw[List.getElem?_take,if_pos hlt];exact hi
  have:=QQ (s:=⟨s.files,s.mounts.take j⟩) hm;rw[h,hf]at this;cases this
 have h1:=key hi hj h;have h2:=key hj hi h.symm;omega
omit hv in
theorem QS{a:AQ}{d:Int}(h:D2 s a=some d):∃i:Nat,s.mounts[i]?=some ((d,a):D9):=by
 unfold D2 at h
 cases hf:s.mounts.find? fun m:D9=>decide (m.2=a)with
 |none=>rw[hf]at h;cases h
 |some m=>
   rw[hf]at h;injection h with h;have h2:=List.find?_some hf;simp only[decide_eq_true_eq]at h2;obtain⟨i,hi⟩:=List.getElem?_of_mem (List.mem_of_find?_eq_some hf);exact⟨i,by rw[hi,←h,←h2]⟩
omit hv in
theorem ZV{a:AQ}(h:∀(i:Nat) (m:D9),s.mounts[i]?=some m→m.2≠a):D2 s a=none:=by
 cases hc:D2 s a with
 |none=>rfl
 |some d=>obtain⟨i,hi⟩:=QS hc;exact absurd rfl (h i _ hi)
theorem ZW:∀(n:Nat) (a:AQ),(∀(i:Nat) (m:D9),s.mounts[i]?=some m→m.2=a→s.mounts.length≤i+n)→D2 s (E3 s n a)=none:=by
 intro n
 induction n with
 |zero=>
   intro a h;refine ZV fun i m hi e=>?_;have h1:=h i m hi e;have h2:=(At.1 hi).1;omega
 |succ n ih=>
   intro a h
   cases hc:D2 s a with
   |none=>rw[Sl (by rw[hc];rfl)];exact hc
   |some d=>
     obtain⟨i,hi⟩:=QS hc;rw[E3];refine ih _ fun j m hj e=>?_;have he:J9 s a=(d,1):=by unfold J9;rw[hc]
     rw[he]at e;have h1:=h i _ hi rfl;have hth:=(hv.mnt j m hj).there;have hd1:=(hv.mnt i _ hi).dev1;rw[e]at hth;obtain⟨m'',hm'',e2⟩:=QP hth (by simp only at hd1 ⊢;omega);obtain⟨k,hk⟩:=List.getElem?_of_mem hm''
     have hkj:k<j:=by
      have:=(At.1 hk).1;simp at this;omega
     rw[List.getElem?_take,if_pos hkj]at hk;have:=ZU hv hk hi e2;omega
omit hv in
theorem UC:∀(n:Nat) (a:AQ),E3 s (n+1) a=J9 s (E3 s n a)
 |0,_=>rfl
 |n+1,a=>UC n (J9 s a)
theorem ZX(a:AQ):E3 s (s.mounts.length+1) a=E3 s s.mounts.length a:=by
 rw[UC];refine PT ?_;rw[ZW hv _ a (fun i m _ _=>by omega)];rfl
end
end Go.Proofs.YtbgnigjfkbmceaaGreatDoor
namespace Go.Proofs.YtbgnigjfkbmceaaGreatDoor
open Go.RowKit
theorem ZY(d m:AT):(Gl d m).size≤d.size+1+m.size:=by
 unfold Gl;split
 ·rw[ByteArray.size_append];omega
 rw[ByteArray.size_append,ByteArray.size_append];show d.size+1+m.size≤_;omega
theorem ZZ{s:Spc}(hv:SpcV s)(pre:List AQ):(L3 s pre).size≤1+13 * pre.length:=by
 have key:∀(l:List AT) (d:AT),(∀x∈l,x.size≤12)→(l.foldl Gl d).size≤d.size+13 * l.length:=by
  intro l
  induction l with
  |nil=>intro d _;simp
  |cons x l ih=>
    intro d h;have h1:=ih (Gl d x) fun y hy=>h y (List.mem_cons_of_mem _ hy);have h2:=h x (List.mem_cons_self ..);have h3:=ZY d x;rw[List.foldl_cons,List.length_cons];omega
 have h:=key (L0 s pre).reverse ⟨#[47]⟩ (fun x hx=>by
  rw[List.mem_reverse]at hx;obtain⟨y,_,rfl⟩:=List.mem_map.1 hx
  exact QO hv.files y)
 have h2:(L0 s pre).length≤pre.length:=by unfold L0;rw[List.length_map];exact List.length_filter_le _ _
 rw[List.length_reverse]at h;have:(⟨#[47]⟩:AT).size=1:=rfl;unfold L3;omega
theorem UD{s:Spc}(hv:SpcV s)(a:AQ):(DT s a).1.size≤1000:=by
 unfold DT;split
 ·have h3:=U8 s (Ei s.files) a;have h4:=U5 hv.files;refine Nat.le_trans (ZZ hv _) ?_;refine Nat.le_trans (Nat.add_le_add_left (Nat.mul_le_mul_left 13 ((List.takeWhile_sublist _).length_le)) 1) ?_;omega
 exact BV _
theorem UE(d:AT)(h:0<d.size):d.data.toList.getLast?=some 47↔(((d[d.size - 1]'(by omega)).toNat:Int)=47):=by
 have hl:d.data.toList.length=d.size:=by simp
 rw[List.getLast?_eq_getElem?,hl,BJ (by omega)];show some (d[d.size - 1]'(by omega))=some 47↔_;rw[Option.some.injEq];constructor
 ·intro e;rw[e];rfl
 intro e;refine UInt8.toNat_inj.1 ?_;show _=47;omega
theorem Za{d m:AT}(h:¬0<d.size):Gl d m=d++⟨#[47]⟩++m:=by
 refine if_neg fun e=>?_;have hl:d.data.toList.length=d.size:=by simp
 rw[List.getLast?_eq_getElem?,List.getElem?_eq_none (by omega)]at e;cases e
section
theorem UF(d m:AT)(hd:d.size≤1000000)(hm:m.size≤1000000):AFn prog 196 [.v (.string d), .v (.string m)] (fun r=>r= .v (.string (Gl d m))):=by
 refine enter Tryz.func196 rfl rfl rfl rfl rfl 0 rfl ?_;refine w_ (a_ (h:=e_ (q_ (w_ (m_ (h:=n_ (h:=Bl (h:=m_ (h:=?_)))))))));refine AW true rfl rfl (fun hb1=>?_) (fun hb1=>?_)
 ·have hc1:=bp hb1;refine m_ (h:=m_ (h:=n_ (h:=Fd (h:=?_))));refine B4 (J8 (n:=d.size - 1) Tryz.underlying9 rfl rfl (by omega) (by omega) ?_);refine AD (h:=AF (h:=e_ (?_)));refine A8 rfl (fun hb2=>?_) (fun hb2=>?_)
  ·have hc2:=bp hb2;refine w_ (m_ (h:=m_ (h:=?_)));refine A7 rfl (Ey rfl rfl (by omega) ?_);refine a_ (h:=e_ (A4 (A6 (?_))));refine A9 ?_;rw[show Gl d m=d++m from if_pos ((UE d (by omega)).2 hc2)];rfl
  have hc2:=bp hb2;refine AB (w_ (m_ (h:=?_)));refine A7 rfl (Ey rfl rfl (by show d.size+1≤_;omega) ?_);refine m_ (h:=?_);refine A7 rfl (Ey rfl rfl (by rw[ByteArray.size_append];show d.size+1+m.size≤_;omega) ?_);refine a_ (h:=e_ (A4 (?_)));refine A9 ?_;rw[show Gl d m=d++⟨#[47]⟩++m from if_neg (fun h=>hc2 ((UE d (by omega)).1 h))];rfl
 have hc1:=bp hb1;refine A3 (h:=A3 (h:=A3 (h:=A3 (h:=A3 (h:=A3 (h:=AM (h:=e_ (Bp (h:=AB (w_ (m_ (h:=?_))))))))))));refine A7 rfl (Ey rfl rfl (by show d.size+1≤_;omega) ?_);refine m_ (h:=?_);refine A7 rfl (Ey rfl rfl (by rw[ByteArray.size_append];show d.size+1+m.size≤_;omega) ?_);refine a_ (h:=e_ (A4 (?_)));refine A9 ?_;rw[Za (by omega)];rfl
theorem Zb(s:Spc)(a:AQ)(hs:SpcB s):AFn prog 248 [.agg (B0 s.files), .agg (AN a)] (fun r=>r= .v (.string (H8 s a))):=by
 have hen:=SA hs.files (a.1,(B5 s.files a).parent);change (JF s a).entries.length≤1000 at hen;refine enter Tryz.func248 rfl rfl rfl rfl rfl 0 rfl ?_;refine w_ (b_ (h:=b_ (h:=a_ (h:=e_ (w_ (l_ (h:=l_ (h:=?_))))))));refine A7 rfl (AG (E0 s.files a hs.files) ?_);rintro r rfl
 skip
 refine m_ (h:=x_ (h:=x_ (h:=Al (h:=s_ (h:=a_ (h:=e_ (w_ (l_ (h:=f_ (h:=l_ (h:=f_ (h:=l_ (h:=Ak (h:=?_))))))))))))));refine A7 rfl (AG (E0 s.files (a.1,(B5 s.files a).parent) hs.files) ?_);rintro r rfl
 skip
 refine m_ (h:=x_ (h:=x_ (h:=Al (h:=s_ (h:=a_ (h:=e_ (q_ (w_ (a_ (h:=e_ (Ag (?_))))))))))));refine Be (fun m t=>∃j:Nat,j≤(JF s a).entries.length∧m=(JF s a).entries.length - j∧(∀i y,i<j→(JF s a).entries[i]?=some y→decide (y.2=a.2)=false)∧t=⟨look [(3, .bp 1 0),(7, .bp 3 0),(9, .v (.int .i64 (j:Int)))],⟨[B0 s.files,AN a,Am (B5 s.files a),Am (JF s a)],[]⟩⟩) ((JF s a).entries.length) ((wk 4 0)) (⟨0,by omega,rfl,fun i y hi=>by omega,rfl⟩) ?_;rintro m t ⟨j,hj,rfl,ha,rfl⟩;refine q_ (w_ (m_ (h:=f_ (h:=l_ (h:=n_ (h:=BB (h:=e_ (?_))))))));refine A8 rfl (fun hb1=>?_) (fun hb1=>?_)
 ·have hc1:=bp hb1;obtain⟨hlt,x,hy,hrow, -⟩:=C1 FA hc1;refine AB (q_ (Ag (q_ (Cp 9 (h:=AO 0 (h:=AJ 1 (h:=AU 2 (h:=Cg 3 (h:=AO 4 (h:=AJ 5 (h:=AO 6 (h:=AJ 7 (h:=H3 8 (h:=z_ (h:=t_ (?_))))))))))))))));refine A8 rfl (fun hb2=>?_) (fun hb2=>?_)
  ·have hc2:=bp hb2;refine w_ (f_ (h:=l_ (h:=m_ (h:=i_ (h:=f_ (h:=l_ (h:=a_ (h:=e_ (A4 (AK (A6 (A6 (AK (A6 (?_)))))))))))))));refine A9 ?_;rw[show H8 s a=x.1 by simp only[H8];rw[Ll hy (by simpa using hc2) ha];rfl];rfl
  have hc2:=bp hb2;refine Au (Ah (t_ (AR (m_ (h:=BD (h:=a_ (h:=AP (?_))))))));refine AE ?_;refine⟨_,_,?_,⟨j+1,by omega,rfl,F8 hy ha (by simpa using hc2),rfl⟩,(wk 4 0)⟩;omega
 have hc1:=bp hb1;have e3:=CA FA hj hc1;subst e3;refine BT (Ao (Ao (BU (t_ (w_ (a_ (h:=e_ (A4 (?_)))))))));refine A9 ?_;rw[show H8 s a=⟨#[]⟩ by simp only[H8];rw[Lm ha];rfl];rfl
end
def FT(s:AT):List AV:=[.v (.string s)]
theorem UG{P:Program}{ev:Operand→Option AV}{h:AH}{R:AV→AH→Prop}{d:Option Tmp}{ty:TypeId}{pos:String}{af:Array Edge}{gd:Option (Nat×Bool)}{T:TypeId}{x lo hi:Operand}{s:ByteArray}{a k:Nat}{i j:Int}(hu:P.underlying T=some .string)
    (hx:ev x=some (.v (.string s))) (hl:ev lo=some (.v (.int .i64 i))) (hh:ev hi=some (.v (.int .i64 j))) (hi':i=(a:Int)) (hj:j=(k:Int)) (h1:a≤k) (h2:k≤s.size) (hR:R (.v (.string (s.extract a k))) h):AStep P ⟨d, .slice T x (some lo) (some hi) none,ty,pos,af,gd⟩ ev h R:=by
 refine D1 (fun _ G w ec _ he=>?_) hR;have k1:=he x (by simp[Op.operands]) _ hx;have k2:=he lo (by simp[Op.operands]) _ hl;have k3:=he hi (by simp[Op.operands]) _ hh;simp only[rep]at k1 k2 k3;subst hi' hj;refine⟨.string (s.extract a k),?_,by simp only[rep]⟩;simp[execOp,k1,k2,k3,Instr.sliceAt,Instr.slice,Instr.sliceBounds,Instr.sliceBound,asIntOf,run_underlying hu,h1,h2]
def FU(s:AT):Bool:=decide (s.data.toList.head?=some 47)
def Bj(s:AT):Bool:=decide (s.data.toList.getLast?=some 47)
theorem O7{s:AT}(h:0<s.size):FU s=decide (((s[0]'h).toNat:Int)=47):=by
 unfold FU;rw[YC s h,Bool.eq_iff_iff];simp
theorem O8{s:AT}(h:0<s.size):Bj s=decide (((s[s.size - 1]'(by omega)).toNat:Int)=47):=by
 unfold Bj;rw[YD s h,Bool.eq_iff_iff];simp
theorem O9{s:AT}(h:¬0<s.size):FU s=false:=by
 have:s.data.toList=[]:=ER (by rw[←Lib.size_eq];omega);unfold FU;rw[this];rfl
theorem OA{s:AT}(h:¬0<s.size):Bj s=false:=by
 have:s.data.toList=[]:=ER (by rw[←Lib.size_eq];omega);unfold Bj;rw[this];rfl
theorem UH{s:AT}{k:Nat}(h:k<s.size)(h47:((s[k]'h).toNat:Int)=47):s.data.toList[k]?=some 47:=by
 rw[Lib.data_getElem? s k h]
 congr 1
 refine UInt8.toNat_inj.1 ?_;show _=47;omega
theorem UJ{s:AT}{f k:Nat}{ps:List AT}(hI:EA s.data.toList f k (CB ps))(h:k=s.size∨s.data.toList[k]?=some 47):EA s.data.toList (k+1) (k+1) (CB ps++one_ ((s.data.toList.drop f).take (k - f))):=by
 rcases h with h|h
 ·rw[Lib.size_eq]at h;subst h;exact Y8 hI
 exact Y7 hI h
theorem UK{s:AT}{f k:Nat}{ps:List AT}(hI:EA s.data.toList f k (CB ps))(hk:k≤s.size)(h:k=s.size∨s.data.toList[k]?=some 47)(hf:f<k):EA s.data.toList (k+1) (k+1) (CB (ps++[s.extract f k])):=YE (UJ hI h) (YA (YB s hf hk))
theorem UL{s:AT}{f k:Nat}{ps:List AT}(hI:EA s.data.toList f k (CB ps))(h:k=s.size∨s.data.toList[k]?=some 47)(hf:¬f<k):EA s.data.toList (k+1) (k+1) (CB ps):=YF (UJ hI h) (by omega)
theorem Zc{s:AT}{f k:Nat}{ps:List AT}(hI:EA s.data.toList f k (CB ps))(h:k<s.size)(h47:¬((s[k]'h).toNat:Int)=47):EA s.data.toList f (k+1) (CB ps):=Y6 hI (Lib.data_getElem? s k h) (fun e=>h47 (by rw[e];rfl))
theorem UM(ps:List AT):ps.length≤(DG (CB ps)).length:=by
 induction ps with
 |nil=>simp
 |cons p ps ih=>
   have:CB (p::ps)=p.data.toList::CB ps:=rfl;rw[this,Hl];simp;omega
theorem QT{s:AT}{ps:List AT}(h:CB ps=Cr s.data.toList){i:Nat}{x:AT}(hx:ps[i]?=some x):x.size≤s.size:=by
 rw[Lib.size_eq,Lib.size_eq s];refine YL ?_;rw[←h];exact List.mem_map.2 ⟨x,Aw hx,rfl⟩
theorem Zd{ps:List AT}{j:Nat}{x t:AT}(hx:ps[j]?=some x)(h:t.data.toList=DG ((CB ps).take j)):(t++(⟨#[47]⟩++x)).data.toList=DG ((CB ps).take (j+1)):=by
 have e:(CB ps)[j]?=some x.data.toList:=by unfold CB;rw[List.getElem?_map,hx];rfl
 rw[List.take_add_one,e,Pt,←h];simp[DG]
theorem OB{a b:AT}(h:a.data.toList=b.data.toList):a=b:=ByteArray.ext (Array.toList_inj.1 h)
theorem Ze{s:AT}{ps:List AT}(h:CB ps=Cr s.data.toList){i:Nat}{x:AT}(hx:ps[i]?=some x)(hn:FM x=false):FP s.data.toList=false:=by
 rw[←Pv];unfold Lz;rw[←h];have:(CB ps).all E9=false:=List.all_eq_false.2 ⟨x.data.toList,List.mem_map.2 ⟨x,Aw hx,rfl⟩,by rw[←TJ,hn];simp⟩;rw[this,Bool.false_and]
theorem Zf{s t1:AT}{ps:List AT}(h:CB ps=Cr s.data.toList)(ha:∀(i:Nat) (y:AT),i<ps.length→ps[i]?=some y→FM y=true)(ht:t1.data.toList=DG ((CB ps).take ps.length))(h3:¬s=⟨#[47]⟩)(h0:0<ps.length):FP s.data.toList=decide (s=t1):=by
 have hl:(CB ps).length=ps.length:=by simp[CB]
 rw[List.take_of_length_le (by omega)]at ht;rw[←Pv];unfold Lz;rw[←h,←ht]
 have h1:(CB ps).all E9=true:=List.all_eq_true.2 fun y hy=>by
  obtain⟨z,hz,rfl⟩:=List.mem_map.1 hy;obtain⟨i,hi⟩:=List.getElem?_of_mem hz;rw[←TJ];exact ha i z (At.1 hi).1 hi
 have h2:decide (s.data.toList=[47])=false:=decide_eq_false fun e=>h3 (OB e);have h4:CB ps≠[]:=fun e=>by rw[e]at hl;simp at hl;omega
 rw[h1,h2,decide_eq_true h4];simp only[Bool.true_and,Bool.false_or];rw[Bool.eq_iff_iff,decide_eq_true_iff,decide_eq_true_iff];exact⟨fun e=>OB e,fun e=>by rw[e]⟩
theorem Zg{s:AT}{ps:List AT}(h:CB ps=Cr s.data.toList)(h3:¬s=⟨#[47]⟩)(h0:ps.length=0):FP s.data.toList=false:=by
 have e:CB ps=[]:=by rw[ER h0];rfl
 rw[←Pv];unfold Lz;rw[←h,e];have h2:decide (s.data.toList=[47])=false:=decide_eq_false fun e=>h3 (OB e);rw[h2];simp
section
theorem QU(s:AT)(hs:s.size≤100000):AFn prog 191 [.v (.string s)] (fun r=>∃ps:List AT,CB ps=Cr s.data.toList∧r= .tup [.sl 1 (ps.map FT) none, .v (.bool (FU s)), .v (.bool (Bj s))]):=by
 have hsz:=Lib.size_eq s;refine enter Tryz.func191 rfl rfl rfl rfl rfl 0 rfl ?_;refine w_ (a_ (h:=a_ (h:=a_ (h:=e_ (w_ (a_ (h:=e_ (w_ (a_ (h:=e_ (q_ (w_ (a_ (h:=e_ (Ag (?_))))))))))))))));refine Jv 5 9 1 rfl (by repeat constructor) ?_;refine Be (fun m t=>∃(f k:Nat) (ps:List AT),k≤s.size+1∧f≤k∧ps.length≤k∧m=s.size+1 - k∧EA s.data.toList f k (CB ps)∧t=⟨look [(0, .v (.string s)),(5, .sl 1 (ps.map FT) (some 0)),(6, .v (.int .i64 (f:Int))),(7, .v (.int .i64 (k:Int)))],⟨[],[(9,1,ps.map FT)]⟩⟩) (s.size+1) ((wk 0 1)) (⟨0,0,[],by omega,by omega,by simp,rfl,Y9 _,rfl⟩) ?_;rintro m t ⟨f,k,ps,hk,hfk,hpl,rfl,hI,rfl⟩;refine q_ (w_ (m_ (h:=m_ (h:=n_ (h:=E6 (h:=e_ (?_)))))));refine A8 rfl (fun hb1=>?_) (fun hb1=>?_)
 ·have hc1:=bp hb1;refine AB (q_ (Ag (w_ (m_ (h:=m_ (h:=n_ (h:=AD (h:=m_ (h:=?_)))))))));refine AW false rfl rfl (fun hb2=>?_) (fun hb2=>?_)
  ·have hc2:=bp hb2;refine A3 (h:=A3 (h:=A3 (h:=A3 (h:=AF (h:=e_ (B8 (h:=q_ (w_ (m_ (h:=m_ (h:=Bl (h:=e_ (?_)))))))))))));refine A8 rfl (fun hb3=>?_) (fun hb3=>?_)
   ·have hc3:=bp hb3;have hnx:=UK hI (by omega) (.inl (by omega)) (by omega);refine AR (m_ (h:=m_ (h:=m_ (h:=m_ (h:=?_)))));refine A7 rfl (UG (a:=f) (k:=k) Tryz.underlying9 rfl rfl rfl rfl rfl (by omega) (by omega) ?_);refine Bd (h:=?_)
    first|refine A7 rfl (Dx rfl rfl rfl (by simp;omega) (by repeat constructor) ?_)|refine A7 rfl (Dy rfl rfl (by simp;omega) (by repeat constructor) ?_)
    refine a_ (h:=e_ (AR (m_ (h:=BD (h:=a_ (h:=AP (Ah (t_ (AR (m_ (h:=BD (h:=a_ (h:=AP (?_))))))))))))));refine AE ?_;refine⟨_,_,?_,⟨_,k+1,_,by omega,by omega,(by(try simp only[List.length_append,List.length_cons,List.length_nil]);omega),rfl,hnx,rfl⟩,(by(try simp only[List.map_append,List.map_cons,List.map_nil]);exact Av 0 1 rfl rfl rfl rfl ((by repeat (first|exact Sub.nil|refine Ax rfl rfl ?_|refine B1 ?_|refine B2 rfl ?_|refine B3 rfl ?_))))⟩;omega
   have hc3:=bp hb3;have hnx:=UL hI (.inl (by omega)) (by omega);refine AB (AR (m_ (h:=BD (h:=a_ (h:=AP (Ah (t_ (AR (m_ (h:=BD (h:=a_ (h:=AP (?_)))))))))))));refine AE ?_;refine⟨_,_,?_,⟨_,k+1,_,by omega,by omega,(by(try simp only[List.length_append,List.length_cons,List.length_nil]);omega),rfl,hnx,rfl⟩,(by(try simp only[List.map_append,List.map_cons,List.map_nil]);exact Av 0 1 rfl rfl rfl rfl ((by repeat (first|exact Sub.nil|refine Ax rfl rfl ?_|refine B1 ?_|refine B2 rfl ?_|refine B3 rfl ?_))))⟩;omega
  have hc2:=bp hb2;refine m_ (h:=m_ (h:=?_));refine B4 (J8 (n:=k) Tryz.underlying9 rfl rfl rfl (by omega) ?_);refine AD (h:=AM (h:=e_ (?_)));refine A8 rfl (fun hb4=>?_) (fun hb4=>?_)
  ·have hc4:=bp hb4;refine q_ (w_ (m_ (h:=m_ (h:=Bl (h:=e_ (?_))))));refine A8 rfl (fun hb5=>?_) (fun hb5=>?_)
   ·have hc5:=bp hb5;have hnx:=UK hI (by omega) (.inr (UH (by omega) hc4)) (by omega);refine AR (m_ (h:=m_ (h:=m_ (h:=m_ (h:=?_)))));refine A7 rfl (UG (a:=f) (k:=k) Tryz.underlying9 rfl rfl rfl rfl rfl (by omega) (by omega) ?_);refine Bd (h:=?_)
    first|refine A7 rfl (Dx rfl rfl rfl (by simp;omega) (by repeat constructor) ?_)|refine A7 rfl (Dy rfl rfl (by simp;omega) (by repeat constructor) ?_)
    refine a_ (h:=e_ (AR (m_ (h:=BD (h:=a_ (h:=AP (Ah (t_ (AR (m_ (h:=BD (h:=a_ (h:=AP (?_))))))))))))));refine AE ?_;refine⟨_,_,?_,⟨_,k+1,_,by omega,by omega,(by(try simp only[List.length_append,List.length_cons,List.length_nil]);omega),rfl,hnx,rfl⟩,(by(try simp only[List.map_append,List.map_cons,List.map_nil]);exact Av 0 1 rfl rfl rfl rfl ((by repeat (first|exact Sub.nil|refine Ax rfl rfl ?_|refine B1 ?_|refine B2 rfl ?_|refine B3 rfl ?_))))⟩;omega
   have hc5:=bp hb5;have hnx:=UL hI (.inr (UH (by omega) hc4)) (by omega);refine AB (AR (m_ (h:=BD (h:=a_ (h:=AP (Ah (t_ (AR (m_ (h:=BD (h:=a_ (h:=AP (?_)))))))))))));refine AE ?_;refine⟨_,_,?_,⟨_,k+1,_,by omega,by omega,(by(try simp only[List.length_append,List.length_cons,List.length_nil]);omega),rfl,hnx,rfl⟩,(by(try simp only[List.map_append,List.map_cons,List.map_nil]);exact Av 0 1 rfl rfl rfl rfl ((by repeat (first|exact Sub.nil|refine Ax rfl rfl ?_|refine B1 ?_|refine B2 rfl ?_|refine B3 rfl ?_))))⟩;omega
  have hc4:=bp hb4;have hnx:=Zc hI (by omega) hc4;refine Au (Ah (t_ (AR (m_ (h:=BD (h:=a_ (h:=AP (?_))))))));refine AE ?_;refine⟨_,_,?_,⟨_,k+1,_,by omega,by omega,(by(try simp only[List.length_append,List.length_cons,List.length_nil]);omega),rfl,hnx,rfl⟩,(by(try simp only[List.map_append,List.map_cons,List.map_nil]);exact Av 0 1 rfl rfl rfl rfl ((by repeat (first|exact Sub.nil|refine Ax rfl rfl ?_|refine B1 ?_|refine B2 rfl ?_|refine B3 rfl ?_))))⟩;omega
 have hc1:=bp hb1;refine BT (Ao (Ao (BU (t_ (q_ (Cp 23 (h:=AU 0 (h:=AU 1 (h:=Gz 2 (h:=PF 3 (h:=AU 4 (h:=?_))))))))))));refine G5 (j:=4) rfl (fun hb6=>?_) (fun hb6=>?_)
 ·have hc6:=bp hb6;refine AU 5 (h:=?_);refine Eg (i:=6) rfl (J8 (n:=0) Tryz.underlying9 rfl rfl rfl (by omega) ⟨rfl,rfl⟩) ?_;refine H3 7 (h:=Fb 8 (h:=AU 9 (h:=Gz 10 (h:=PF 11 (h:=AU 12 (h:=?_))))));refine G5 (j:=12) rfl (fun hb7=>?_) (fun hb7=>?_)
  ·have hc7:=bp hb7;refine AU 13 (h:=AU 14 (h:=Gz 15 (h:=PD 16 (h:=?_))));refine Eg (i:=17) rfl (J8 (n:=s.size - 1) Tryz.underlying9 rfl rfl (by omega) (by omega) ⟨rfl,rfl⟩) ?_;refine H3 18 (h:=Fb 19 (h:=BO 20 (h:=BO 21 (h:=BO 22 (h:=z_ (h:=t_ (A4 (?_))))))));refine A9 ?_;refine⟨ps,Nt hI (by omega),?_⟩
   first|(rw[O7 (by omega),O8 (by omega)];rfl)|(rw[O9 (by omega),OA (by omega)];rfl)|(exfalso;omega)
  have hc7:=bp hb7;refine BG 13 (h:=BG 14 (h:=BG 15 (h:=BG 16 (h:=BG 17 (h:=BG 18 (h:=Fc 19 (h:=BO 20 (h:=BO 21 (h:=BO 22 (h:=z_ (h:=t_ (A4 (?_)))))))))))));refine A9 ?_;refine⟨ps,Nt hI (by omega),?_⟩
  first|(rw[O7 (by omega),O8 (by omega)];rfl)|(rw[O9 (by omega),OA (by omega)];rfl)|(exfalso;omega)
 have hc6:=bp hb6;refine BG 5 (h:=BG 6 (h:=BG 7 (h:=Fc 8 (h:=AU 9 (h:=Gz 10 (h:=PF 11 (h:=AU 12 (h:=?_))))))));refine G5 (j:=12) rfl (fun hb8=>?_) (fun hb8=>?_)
 ·have hc8:=bp hb8;refine AU 13 (h:=AU 14 (h:=Gz 15 (h:=PD 16 (h:=?_))));refine Eg (i:=17) rfl (J8 (n:=s.size - 1) Tryz.underlying9 rfl rfl (by omega) (by omega) ⟨rfl,rfl⟩) ?_;refine H3 18 (h:=Fb 19 (h:=BO 20 (h:=BO 21 (h:=BO 22 (h:=z_ (h:=t_ (A4 (?_))))))));refine A9 ?_;refine⟨ps,Nt hI (by omega),?_⟩
  first|(rw[O7 (by omega),O8 (by omega)];rfl)|(rw[O9 (by omega),OA (by omega)];rfl)|(exfalso;omega)
 have hc8:=bp hb8;refine BG 13 (h:=BG 14 (h:=BG 15 (h:=BG 16 (h:=BG 17 (h:=BG 18 (h:=Fc 19 (h:=BO 20 (h:=BO 21 (h:=BO 22 (h:=z_ (h:=t_ (A4 (?_)))))))))))));refine A9 ?_;refine⟨ps,Nt hI (by omega),?_⟩
 first|(rw[O7 (by omega),O8 (by omega)];rfl)|(rw[O9 (by omega),OA (by omega)];rfl)|(exfalso;omega)
theorem UN(s:AT)(hs:s.size≤50000):AFn prog 156 [.v (.string s)] (fun r=>r= .v (.bool (FP s.data.toList))):=by
 have hsz:=Lib.size_eq s;refine enter Tryz.func156 rfl rfl rfl rfl rfl 0 rfl ?_;refine w_ (a_ (h:=e_ (w_ (m_ (h:=?_)))));refine A7 rfl (AG (QU s (by omega)) ?_);rintro r ⟨ps,hps,rfl⟩;have hpl:(ps.map FT).length=ps.length:=by simp
 have hfl:=Px s.data.toList;rw[←hps]at hfl;have hpm:=UM ps;refine m_ (h:=x_ (h:=x_ (h:=x_ (h:=a_ (h:=a_ (h:=a_ (h:=e_ (w_ (a_ (h:=e_ (q_ (w_ (a_ (h:=e_ (Ag (?_))))))))))))))));refine Be (fun m t=>∃(j:Nat) (t1:AT),j≤ps.length∧m=ps.length - j∧(∀i y,i<j→ps[i]?=some y→FM y=true)∧t1.data.toList=DG ((CB ps).take j)∧t=⟨look [(0, .v (.string s)),(3, .sl 1 (ps.map FT) none),(6, .v (.string t1)),(7, .v (.int .i64 (j:Int)))],⟨[],[]⟩⟩) (ps.length) ((wk 0 0)) (⟨0,⟨#[]⟩,by omega,rfl,fun i y hi=>by omega,rfl,rfl⟩) ?_;rintro m t ⟨j,t1,hj,rfl,ha,ht1,rfl⟩;refine q_ (w_ (m_ (h:=m_ (h:=n_ (h:=BB (h:=e_ (?_)))))));refine A8 rfl (fun hb1=>?_) (fun hb1=>?_)
 ·have hc1:=bp hb1;obtain⟨hlt,x,hy,hrow, -⟩:=C1 FT hc1;have ht2:t1.size≤s.size+1:=by rw[Lib.size_eq,ht1];exact Nat.le_trans (YK _ _) (by omega)
  refine AB (q_ (Ag (q_ (w_ (m_ (h:=m_ (h:=?_)))))));refine A7 rfl (Cl (n:=j) rfl rfl rfl hrow ?_);refine l_ (h:=?_);refine A7 rfl (AG (PL x (by have:=QT hps hy;omega)) ?_);rintro r rfl;refine B9 (h:=e_ (?_));refine A8 rfl (fun hb2=>?_) (fun hb2=>?_)
  ·have hc2:=bp hb2;refine w_ (a_ (h:=e_ (A4 (A6 (AK (A6 (A6 (AK (A6 (?_))))))))));refine A9 ?_;exact vb (Ze hps hy hc2).symm
  have hc2:=bp hb2;refine AB (AR (m_ (h:=m_ (h:=m_ (h:=?_)))));refine A7 rfl (Cl (n:=j) rfl rfl rfl hrow ?_);refine l_ (h:=?_);refine A7 rfl (Ey rfl rfl (by have:=QT hps hy;show 1+x.size≤_;omega) ?_);refine A7 rfl (Ey rfl rfl (by have:=QT hps hy;rw[ByteArray.size_append];show t1.size+(1+x.size)≤_;omega) ?_);refine a_ (h:=AP (Ah (t_ (AR (m_ (h:=BD (h:=a_ (h:=AP (?_)))))))));refine AE ?_;refine⟨_,_,?_,⟨j+1,t1++(⟨#[47]⟩++x),by omega,rfl,F8 hy ha hc2,Zd hy ht1,rfl⟩,(wk 0 0)⟩;omega
 have hc1:=bp hb1;refine BT (Ao (Ao (BU (t_ (w_ (m_ (h:=AD (h:=m_ (h:=?_)))))))));refine AW false rfl rfl (fun hb3=>?_) (fun hb3=>?_)
 ·have hc3:=bp hb3;refine A3 (h:=A3 (h:=A3 (h:=A3 (h:=AX (h:=AX (h:=AX (h:=A3 (h:=AF (h:=a_ (h:=e_ (A4 (?_))))))))))));refine A9 ?_;exact vb (by rw[hc3];rfl)
 have hc3:=bp hb3;refine m_ (h:=n_ (h:=Bl (h:=m_ (h:=?_))));refine AW true rfl rfl (fun hb4=>?_) (fun hb4=>?_)
 ·have hc4:=bp hb4;refine m_ (h:=m_ (h:=AD (h:=AF (h:=AM (h:=a_ (h:=e_ (A4 (?_))))))));refine A9 ?_;have e:=CA FT hj hc1;subst e;exact vb (Zf hps ha ht1 hc3 (by omega)).symm
 have hc4:=bp hb4;refine A3 (h:=A3 (h:=A3 (h:=AM (h:=AM (h:=a_ (h:=e_ (A4 (?_))))))));refine A9 ?_;have e:=CA FT hj hc1;subst e;exact vb (Zg hps hc3 (by omega)).symm
end
end Go.Proofs.YtbgnigjfkbmceaaGreatDoor
