/-
  Part 10 of the proof of FilterSilentP: what the statement's proof uses of the texts in wip/tpl.
-/
import Derived.Test.YtbgnigjfkbmceaaGreatDoorShelf
import Derived.Maps.AppendAt
import Derived.OwnWalk
import Derived.StillTailTactics
import Derived.OpenShut
import Derived.ChangeArms
import Derived.ChangeOld
import Derived.DataReads
import Derived.DataElems
import Derived.Test.YtbgnigjfkbmceaaGreatDoorQe9
open Go.Proofs.Tryz (prog)
set_option maxRecDepth 10000
set_option maxHeartbeats 4000000
set_option linter.unusedVariables false
set_option linter.unusedSimpArgs false
namespace Go.Proofs.YtbgnigjfkbmceaaGreatDoor
theorem FlsV.set_{f:AR}(h:FlsV f){q:Nat}{d':Dvc}(hd:VD d'):FlsV (f.set q d'):=by
 refine⟨by simpa using h.few,fun d hm=>?_⟩;rcases List.mem_or_eq_of_mem_set hm with h1|h1
 ·exact h.vd d h1
 rw[h1];exact hd
theorem RA{f:AR}{a:AB}(h:Du f a=true):∃(q i:Nat) (d:Dvc) (m:Nod),a.1=(q:Int)∧f[q]?=some d∧d.nodes[i]?=some m∧m.ino=a.2∧CE f a=some m∧Ac f a=m:=by
 rcases Ld f a with⟨_,h2⟩|⟨q,i,d,n,h1,h2,h3,h4,h5,h6⟩
 ·simp[Du,h2]at h
 exact⟨q,i,d,n,h1,h2,h3,h4,h6,by simp[Ac,h6]⟩
theorem Te{f:AR}{a:AB}{q:Nat}{d:Dvc}{m:Nod}(ha:a.1=(q:Int))(hq:f[q]?=some d)(hd:Ey d.nodes)(hm:m∈d.nodes)(hi:m.ino=a.2):CE f a=some m:=by
 unfold CE;rw[ha,Mv,hq];simp only
 cases h:d.nodes.find? (fun n=>n.ino==a.2)with
 |none=>
   have:=List.find?_eq_none.1 h m hm;simp[hi]at this
 |some n=>
   have h1:=List.mem_of_find?_eq_some h;have h2:=List.find?_some h;simp only[beq_iff_eq]at h2;rw[EL hd h1 hm (by omega)]
theorem RB{f:AR}{dir:AB}{name:AE}{n0:Nod}(hn:CE f dir=some n0)(hk:n0.kind=2)(h:(AK f dir name).2≠0):EK n0.entries name=none∧(AK f dir name).1=(0,0):=by
 unfold AK at h ⊢;rw[hn]at h ⊢;simp only[hk,if_true]at h ⊢;unfold EK;split at h
 ·rename_i he;exact⟨he,rfl⟩
 exact absurd rfl h
theorem Tf{f:AR}{dir:AB}{n0:Nod}(hn:CE f dir=some n0)(h:¬Lf f dir=true):n0.entries.length<12:=by
 unfold Lf at h;rw[hn]at h;simp at h;omega
theorem PG(f:AR)(q:Nat)(g:List Nod→List Nod):(JR f q g).length=f.length:=by simp[JR]
def ND(f:AR)(R:Ex):Prop:=R.2.2=0→FlsV R.1∧R.1.length=f.length
theorem FL{f:AR}{e:Int}(h:e≠0):ND f ([],[],e):=fun h0=>absurd h0 h
theorem X9{f:AR}(hv:FlsV f)(dir:AB)(name:AE)(a:AB):ND f (El f dir name a):=by
 unfold El;split
 ·rename_i h;exact FL h
 rename_i hp;split
 ·exact FL (by decide)
 rename_i hh;split
 ·exact FL (by decide)
 rename_i hdev;split
 ·exact FL (by decide)
 rename_i hk;split
 ·exact FL (by decide)
 rename_i hl;split
 ·exact FL (by decide)
 rename_i hfl;intro _;obtain⟨q,i,d,n0,hdq,hq,hn0,hino,hidx,hnode,hk0,hnm⟩:=KN (name:=name) (dir:=dir) (f:=f) (by omega);obtain⟨q',i',d',m,haq,hq',hm,hmi,hnm2,hng⟩:=RA (f:=f) (a:=a) (by simpa using hh);obtain rfl:q=q':=by omega
 obtain rfl:d=d':=Option.some.inj (hq.symm.trans hq');have hvd:=hv.vd d (Aj hq);have key:=hvd.linked (Aj hn0) hk0 (Aj hm) (by rw[←hng];exact hk) hnm (RB hnode hk0 hl).1 (Tf hnode hfl);rw[hino,hmi]at key;refine⟨?_,by dsimp only;exact PG _ _ _⟩;dsimp only;rw[hdq,Int.toNat_natCast,Ju hq];exact hv.set_ key
theorem RC{f:AR}{a:AB}{m:Nod}(h:CE f a=some m):Af f a=true↔m.kind=2:=by
 unfold Af;rw[h];simp
theorem XA{f:AR}{a:AB}{m:Nod}(h:CE f a=some m):MJ f a=true↔m.entries=[]:=by
 unfold MJ;rw[h];simp
theorem RD{f:AR}(hv:FlsV f){dir:AB}{name:AE}{q i:Nat}{d:Dvc}{n0:Nod}(hdq:dir.1=(q:Int))(hq:f[q]?=some d)(hn0:d.nodes[i]?=some n0)(hnode:CE f dir=some n0)(hk0:n0.kind=2)(hl:(AK f dir name).2=0):
    ∃e m,EK n0.entries name=some e∧AK f dir name=((dir.1,e.2),0)∧m∈d.nodes∧e.2=m.ino∧e.2≠1∧CE f (AK f dir name).1=some m:=by
 obtain⟨e,he,hle⟩:=PC hnode hk0 hl;have hvd:=hv.vd d (Aj hq);obtain⟨_,h1,m,hm,h2⟩:=hvd.ent n0 (Aj hn0) e (Km he).1;refine⟨e,m,he,hle,hm,h2.symm,h1,?_⟩;rw[hle];exact Te hdq hq hvd.asc hm h2
theorem gP{f:AR}(hv:FlsV f)(dir:AB)(name:AE):ND f (Hh f dir name):=by
 unfold Hh;split
 ·rename_i h;exact FL h
 rename_i hp;split
 ·rename_i h;exact FL h
 rename_i hl;split
 ·exact FL (by decide)
 rename_i hk;intro _;obtain⟨q,i,d,n0,hdq,hq,hn0,hino,hidx,hnode,hk0,hnm⟩:=KN (name:=name) (dir:=dir) (f:=f) (by omega);obtain⟨e,m,he,hle,hm,h1,h2,h3⟩:=RD hv hdq hq hn0 hnode hk0 (name:=name) (by omega);have hvd:=hv.vd d (Aj hq);have key:=hvd.removed (Aj hn0) hm (hvd.leaf m hm fun h=>hk ((RC h3).2 h)).2 he h1;refine⟨?_,by dsimp only;exact PG _ _ _⟩;dsimp only;rw[hdq,Int.toNat_natCast,Ju hq,show(AK f dir name).1.2=m.ino by rw[hle];exact h1,←hino];exact hv.set_ key
theorem gQ{f:AR}(hv:FlsV f)(dir:AB)(name:AE):ND f (GP f dir name):=by
 unfold GP;split
 ·rename_i h;exact FL h
 rename_i hp;split
 ·rename_i h;exact FL h
 rename_i hl;split
 ·exact FL (by decide)
 rename_i hk;split
 ·exact FL (by decide)
 rename_i hem;intro _;obtain⟨q,i,d,n0,hdq,hq,hn0,hino,hidx,hnode,hk0,hnm⟩:=KN (name:=name) (dir:=dir) (f:=f) (by omega);obtain⟨e,m,he,hle,hm,h1,h2,h3⟩:=RD hv hdq hq hn0 hnode hk0 (name:=name) (by omega);have hvd:=hv.vd d (Aj hq);have key:=hvd.removed (Aj hn0) hm ((XA h3).1 (by simpa using hem)) he h1;refine⟨?_,by dsimp only;exact PG _ _ _⟩;dsimp only;rw[hdq,Int.toNat_natCast,Ju hq,show(AK f dir name).1.2=m.ino by rw[hle];exact h1,←hino];exact hv.set_ key
theorem gR{f:AR}(hv:FlsV f)(a:AB)(mode uid gid:Int):(Fm f a mode uid gid).2=0→FlsV (Fm f a mode uid gid).1∧(Fm f a mode uid gid).1.length=f.length:=by
 unfold Fm;split
 ·intro h;exact absurd h (by decide)
 rename_i hh;split
 ·intro h;exact absurd h (by decide)
 rename_i hp;intro _;obtain⟨q,i,d,m,haq,hq,hm,hmi,hnm2,hng⟩:=RA (f:=f) (a:=a) (by simpa using hh);have hvd:=hv.vd d (Aj hq);have key:=hvd.attrs (Aj hm) mode uid gid (by rw[←hng];simpa using hp);refine⟨?_,by dsimp only;exact PG _ _ _⟩;dsimp only;rw[haq,Int.toNat_natCast,Ju hq,←hmi];exact hv.set_ key
theorem XB{f:AR}(hv:FlsV f)(dir:AB)(name:AE)(n:Nod):ND f (Ez f dir name n):=by
 unfold Ez;split
 ·rename_i h;exact FL h
 rename_i hp;split
 ·exact FL (by decide)
 rename_i hpl;split
 ·exact FL (by decide)
 rename_i hl;obtain⟨q,i,d,n0,hdq,hq,hn0,hino,hidx,hnode,hk0,hnm⟩:=KN (name:=name) (dir:=dir) (f:=f) (by omega);have hat:Fj f dir.1=some d:=by rw[hdq,Mv,hq]
 rw[hat];simp only;split
 ·exact FL (by decide)
 rename_i hc;intro _;have hvd:=hv.vd d (Aj hq);have hnm2:=hvd.nextM;have key:=hvd.make (Aj hn0) hk0 hnm (RB hnode hk0 hl).1 (n:=n) (by simpa using hpl) (by omega) (by omega) (Tf hnode (fun h=>hc (.inr (.inr h))));refine⟨?_,by simp⟩;dsimp only;rw[hdq,Int.toNat_natCast,←hino];exact hv.set_ key
theorem gS{ns:List Nod}{a o:Int}{g:Nod→Nod}(hi:∀n,(g n).ino=n.ino)(he:∀n,(g n).entries=n.entries):C3 (Cv ns a g) o=Cv (C3 ns o) a g:=by
 have hc:Bj o (Cv ns a g)=Bj o ns:=by
  unfold Bj
  congr 1
  unfold Cv;rw[List.flatMap_map]
  congr 1
  funext n
  split
  ·rw[he]
  rfl
 unfold C3;rw[hc];unfold Cv;rw[List.filter_map]
 congr 1
 apply List.filter_congr;intro n _;simp only[Function.comp];split
 ·rw[hi]
 rfl
theorem gT{ns:List Nod}{a:Int}{g:Nod→Nod}(h:∀n∈ns,n.ino=a→g n=n):Cv ns a g=ns:=by
 unfold Cv
 conv=>rhs;rw[←List.map_id ns]
 apply List.map_congr_left;intro n hn;split
 ·rename_i e;rw[h n hn e];rfl
 rfl
theorem gU{ns:List Nod}{a:Int}{g g':Nod→Nod}(h:∀n∈ns,n.ino=a→g n=g' n):Cv ns a g=Cv ns a g':=by
 unfold Cv;apply List.map_congr_left;intro n hn;split
 ·rename_i e;rw[h n hn e]
 rfl
theorem XC{f:AR}{q:Nat}{d:Dvc}(hq:f[q]?=some d)(hd:Ey d.nodes){top:AB}(ht:top.1=(q:Int)):∀(k n:Nat) (a:AB),k<n→a.1=(q:Int)→P9 d.nodes k a.2 top.2→LA f top n a=true
 |_,0,_,h,_,_=>by omega
 |0,n+1,a,_,ha,hk=>by
   have e:a.2=top.2:=hk;unfold LA;rw[if_neg (by omega),if_pos (Prod.ext (by omega) e)]
 |k+1,n+1,a,h,ha,hk=>by
   obtain⟨m,hm,h1,h2,h3,h4⟩:=hk;unfold LA;rw[if_neg (by omega)];split
   ·rfl
   have hn:=Te ha hq hd hm h1;refine XC hq hd ht k n _ (by omega) ha ?_;simp only[Ac,hn,Option.getD_some];exact h4
theorem XD{f:AR}(hv:FlsV f)(src:AB)(name:AE)(to:AB)(name2:AE):ND f (Fn f src name to name2):=by
 unfold Fn;split
 ·rename_i h;exact FL h
 rename_i hord;obtain⟨hpl1,hpl2⟩:=Ta (f:=f) (x:=src) (y:=to) (name:=name) (name2:=name2) (by omega);split
 ·rename_i h;exact FL h
 rename_i hl1;split
 ·exact FL (by decide)
 rename_i hdev;split
 ·exact FL (by decide)
 rename_i hbel;split
 ·intro _;exact⟨hv,rfl⟩
 rename_i hsame;split
 ·rename_i h;exact FL h
 rename_i hr2;intro _;obtain⟨q,i,d,n1,hsq,hq,hn1,hn1i,hidx,hnode,hk1,hnm1⟩:=KN hpl1;obtain⟨q',i2,d',n2,htq,hq',hn2,hn2i, -,hnode2,hk2,hnm2⟩:=KN hpl2;obtain rfl:q=q':=by omega
 obtain rfl:d=d':=Option.some.inj (hq.symm.trans hq');have hvd:=hv.vd d (Aj hq);obtain⟨e,m,he,hle,hm,hem,he1,hmn⟩:=RD hv hsq hq hn1 hnode hk1 (name:=name) (by omega);have hA2:(AK f src name).1.2=m.ino:=by rw[hle];exact hem
 have hmoves:Af f (AK f src name).1=true↔m.kind=2:=RC hmn
 have hanc:m.kind=2→¬Jt d.nodes n2.ino m.ino:=by
  rintro hmk ⟨k,hk⟩;have hlen:=hvd.anc_len hm hk;have:=hvd.len;refine hbel ⟨hmoves.2 hmk,XC hq hvd.asc (top:=(AK f src name).1) (by rw[hle];exact hsq) k 17 to (by omega) htq ?_⟩;rw[hA2,←hn2i];exact hk
 have hdiff:n1.ino=n2.ino→name≠name2:=by
  rintro h rfl;have est:to=src:=Prod.ext (by omega) (by omega);subst est;exact hsame ⟨by omega,rfl⟩
 have ho:(EK n2.entries name2=none∧(n2.entries.length<12∨n1.ino=n2.ino)∧(AK f to name2).1.2=0)∨(∃eo o,EK n2.entries name2=some eo∧o∈d.nodes∧eo.2=(AK f to name2).1.2∧o.ino=(AK f to name2).1.2∧(AK f to name2).1.2≠m.ino∧o.entries=[]):=by
  have hr3:F1 f src to (AK f src name).1 (AK f to name2).1 (AK f to name2).2=0:=by omega
  unfold F1 at hr3;by_cases h0:(AK f to name2).2=0
  ·right;rw[if_pos h0]at hr3;obtain⟨eo,o,heo,hleo,hom,heoi,heo1,hon⟩:=RD hv htq hq hn2 hnode2 hk2 (name:=name2) h0;have hO2:(AK f to name2).1.2=eo.2:=by rw[hleo]
   refine⟨eo,o,heo,hom,hO2.symm,by rw[hO2,heoi],?_,?_⟩
   ·intro h;refine hsame ⟨h0,Prod.ext ?_ (h.trans hA2.symm)⟩;rw[hleo,hle];exact htq.trans hsq.symm
   have hdo:=RC hon;by_cases hok:o.kind=2
   ·rw[if_neg (fun h=>by
       rw[if_pos h]at hr3;exact absurd hr3 (by decide))]at hr3
    rw[if_neg (fun h=>by rw[hdo.2 hok]at h;exact absurd h.1 (by decide))]at hr3;split at hr3
    ·exact absurd hr3 (by decide)
    rename_i h5;refine(XA hon).1 ?_
    cases hem2:MJ f (AK f to name2).1 with
    |true=>rfl
    |false=>exact absurd ⟨hdo.2 hok,hem2⟩ h5
   exact(hvd.leaf o hom hok).2
  left;rw[if_neg h0]at hr3;obtain⟨h1,h2⟩:=RB hnode2 hk2 h0;refine⟨h1,?_,by rw[h2]⟩;split at hr3
  ·exact absurd hr3 (by decide)
  rename_i h3;by_cases hfl:Lf f to=true
  ·right;have:src=to:=Classical.byContradiction fun h=>h3 ⟨hfl,h⟩;rw[hn1i,hn2i,this]
  left;exact Tf hnode2 hfl
 have key:=hvd.renamed (Aj hn1) (Aj hn2) hm hk2 he hem hnm2 hdiff hanc ho;refine⟨?_,by dsimp only;exact PG _ _ _⟩;dsimp only;rw[htq,Int.toNat_natCast,Ju hq]
 have hns:LH (NC d.nodes src name to name2 (AK f src name).1 (AK f to name2).1 (AK f to name2).2) (AK f src name).1.2 to.2 (Af f (AK f src name).1)=C3 (Ek d.nodes n1.ino n2.ino name name2 m.ino) (AK f to name2).1.2:=by
  rw[←Wt,hA2,←hn2i]
  have hY:∀y∈Bc (Bc d.nodes n1.ino name 0) n2.ino name2 m.ino,y.ino=m.ino→y.kind=m.kind:=by
   intro y hy hyi;obtain⟨y1,h1,w1⟩:=GO hy;obtain⟨y2,h2,w2⟩:=GO h1;have:y2=m:=EL hvd.asc h2 hm (by rw[←w2.ino,←w1.ino];exact hyi);rw[w1.kind,w2.kind,this]
  have hpos:∀y∈Bc (Bc d.nodes n1.ino name 0) n2.ino name2 m.ino,1≤y.ino:=by
   intro y hy;obtain⟨y1,h1,w1⟩:=GO hy;obtain⟨y2,h2,w2⟩:=GO h1;rw[w1.ino,w2.ino];exact hvd.pos h2
  have hset:C3 (Cv (Bc (Bc d.nodes n1.ino name 0) n2.ino name2 m.ino) m.ino (Kn n2.ino)) (AK f to name2).1.2=Cv (C3 (Bc (Bc d.nodes n1.ino name 0) n2.ino name2 m.ino) (AK f to name2).1.2) m.ino (Kn n2.ino):=gS (fun n=>by unfold Kn;split<;>rfl) (fun n=>by unfold Kn;split<;>rfl);rw[hset]
  have hN:NC d.nodes src name to name2 (AK f src name).1 (AK f to name2).1 (AK f to name2).2=C3 (Bc (Bc d.nodes n1.ino name 0) n2.ino name2 m.ino) (AK f to name2).1.2:=by
   unfold NC;rw[hA2,←hn1i,←hn2i];split
   ·rfl
   rename_i h0;rw[(RB hnode2 hk2 h0).2];unfold C3
   symm
   rw[List.filter_eq_self];intro y hy;have:=hpos y hy;exact decide_eq_true (.inl (by show y.ino≠0;omega))
  rw[hN];have hsub:∀y∈C3 (Bc (Bc d.nodes n1.ino name 0) n2.ino name2 m.ino) (AK f to name2).1.2,y∈Bc (Bc d.nodes n1.ino name 0) n2.ino name2 m.ino:=fun y hy=>(P8.1 hy).1;unfold LH;split
  ·rename_i hmv;refine gU fun y hy hyi=>?_;unfold Kn;rw[if_pos ((hY y (hsub y hy) hyi).trans (hmoves.1 hmv))]
  rename_i hmv;refine(gT fun y hy hyi=>?_).symm;unfold Kn;rw[if_neg (fun h=>hmv (hmoves.2 ((hY y (hsub y hy) hyi).symm.trans h)))]
 rw[hns];exact hv.set_ key
end Go.Proofs.YtbgnigjfkbmceaaGreatDoor
namespace Go.Proofs.YtbgnigjfkbmceaaGreatDoor
open Go.RowKit
def H3(R:Spc×Int):AV:= .tup [.agg (AY R.1), .v (.int .i64 R.2)]
def MV:Spc:=⟨[],[]⟩
theorem Ko(e:Int):LeA (.tup [.agg [.v (.slice none 0 0), .v (.slice none 0 0)], .v (.int .i64 e)]) (H3 (MV,e)):=(by repeat (first|exact A7 _|exact LeA.nil _|exact LeL.refl _|refine LeA.agg ?_|refine LeA.tup ?_|exact LeL.nil|refine LeL.cons ?_ ?_|exact LeA.any _))
def EN(s:Spc)(dev:Int)(a:AB):Spc×Int:=
 if dev<1∨(s.files.length:Int)≤dev then(MV,22)else if Du s.files a=false then(MV,2)else if(Ac s.files a).kind≠2 then(MV,20)else if DL s a.1=false∨a.1=dev then(MV,22)else
 if DL s dev=true∨(Di s a).isSome=true then(MV,16)else(⟨s.files,s.mounts++[(dev,a)]⟩,0)
def Hi(s:Spc)(dev:Int):Spc×Int:=
 if dev=0∨DL s dev=false then(MV,22)else if(s.mounts.any fun m=>decide (m.2.1=dev))=true then(MV,16)else(⟨s.files,s.mounts.filter fun m=>decide (m.1≠dev)⟩,0)
section
theorem XE(s:Spc)(hs:SpcB s):QK prog 126 [.agg (AY s)] (fun g=> .agg [.sl 2 (s.files.map Cc) none, .sl 3 (s.mounts.map GM) g]) (185,3,s.mounts.map GM):=by
 have hfew:=hs.few;refine enter Tryz.func126 rfl rfl rfl rfl rfl 0 rfl ?_;refine w_ (b_ (h:=CY (h:=e_ (q_ (BO ([(0,AY s)]) 8 (h:=AD 0 (h:=?_)))))));refine A9 1 (h:=?_);refine AD 3 (h:=?_);refine A9 4 (h:=?_);refine c_ 2 rfl (A8 (TZ s.files hs.files) ?_);rintro r rfl;refine o_ (h:=?_)
 first|refine c_ 5 rfl (EF rfl rfl rfl (by simp;omega) (by repeat constructor) ?_)|refine c_ 5 rfl (Ht rfl rfl (by simp;omega) (by repeat constructor) ?_)
 refine o_ (h:=JE 6 (h:=?_));refine B6 7 (h:=z_ (h:=t_ (B5 (?_))));refine AU (some 0) (h5:=(A7 _)) (h6:=⟨rfl,rfl,rfl⟩)
theorem gV(s:Spc)(dev:Int)(a:AB)(hs:SpcB s):AFn prog 76 [.agg (AY s), .v (.int .i64 dev), .agg (AA a)] (fun r=>r=H3 (EN s dev a)):=by
 have hfew:=hs.few;refine enter Tryz.func76 rfl rfl rfl rfl rfl 0 rfl ?_;refine Ff (h:=Bn (h:=DZ (h:=?_)));refine AJ false rfl rfl (fun hb1 hc1=>?_) (fun hb1 hc1=>?_)
 ·refine BT (h:=B7 (h:=DY (h:=CX (h:=Bq (h:=?_)))));refine AU (r:=H3 (EN s dev a)) none (h5:=?_) (h6:=⟨rfl,rfl,rfl⟩);rw[EN,if_pos (.inl hc1)];exact Ko _
 refine m_ (h:=Dp (h:=n_ (h:=E7 (h:=CH (h:=?_)))));refine A4 rfl (fun hb2 hc2=>?_) (fun hb2 hc2=>?_)
 ·refine Bq (h:=?_);refine AU (r:=H3 (EN s dev a)) none (h5:=?_) (h6:=⟨rfl,rfl,rfl⟩);rw[EN,if_pos (.inr (by rw[List.length_map]at hc2;omega))];exact Ko _
 refine AF (B0 (h:=l_ (h:=?_)));refine A3 rfl (A8 (FF s.files a hs.files) ?_);rintro r rfl;refine Gr (h:=?_);refine A4 rfl (fun hb3 hc3=>?_) (fun hb3 hc3=>?_)
 ·refine Bq (h:=?_);refine AU (r:=H3 (EN s dev a)) none (h5:=?_) (h6:=⟨rfl,rfl,rfl⟩);rw[EN,if_neg (by rw[List.length_map]at hc2;omega),if_pos hc3];exact Ko _
 refine DQ (h:=Bo (h:=?_));refine A4 rfl (fun hb4 hc4=>?_) (fun hb4 hc4=>?_)
 ·refine Bq (h:=?_);refine AU (r:=H3 (EN s dev a)) none (h5:=?_) (h6:=⟨rfl,rfl,rfl⟩);rw[EN,if_neg (by rw[List.length_map]at hc2;omega),if_neg (by simp[hc3]),if_pos hc4];exact Ko _
 refine FD (h:=C5 (h:=Aa (h:=?_)));refine A3 rfl (A8 (Og s a.1 hs) ?_);rintro r rfl;refine Eh (h:=?_);refine AJ false rfl rfl (fun hb5 hc5=>?_) (fun hb5 hc5=>?_)
 ·refine BT (h:=DY (h:=CX (h:=Bq (h:=?_))));refine AU (r:=H3 (EN s dev a)) none (h5:=?_) (h6:=⟨rfl,rfl,rfl⟩);rw[EN,if_neg (by rw[List.length_map]at hc2;omega),if_neg (by simp[hc3]),if_neg (by simp[hc4]),if_pos (.inl hc5)];exact Ko _
 refine Aa (h:=D9 (h:=CH (h:=?_)));refine A4 rfl (fun hb6 hc6=>?_) (fun hb6 hc6=>?_)
 ·refine Bq (h:=?_);refine AU (r:=H3 (EN s dev a)) none (h5:=?_) (h6:=⟨rfl,rfl,rfl⟩);rw[EN,if_neg (by rw[List.length_map]at hc2;omega),if_neg (by simp[hc3]),if_neg (by simp[hc4]),if_pos (.inr hc6)];exact Ko _
 refine FD (h:=FR (h:=?_));refine A3 rfl (A8 (Og s dev hs) ?_);rintro r rfl;refine m_ (h:=?_);refine AJ false rfl rfl (fun hb7 hc7=>?_) (fun hb7 hc7=>?_)
 ·refine ER (h:=CX (h:=Bq (h:=?_)));refine AU (r:=H3 (EN s dev a)) none (h5:=?_) (h6:=⟨rfl,rfl,rfl⟩);rw[EN,if_neg (by rw[List.length_map]at hc2;omega),if_neg (by simp[hc3]),if_neg (by simp[hc4]),if_neg (by simp[hc5,hc6]),if_pos (.inl hc7)];exact Ko _
 refine Hz (h:=?_);refine Aq (A8 (Vh s a hs) ?_);rintro r rfl;refine CH (h:=?_);refine A4 rfl (fun hb8 hc8=>?_) (fun hb8 hc8=>?_)
 ·refine Bq (h:=?_);refine AU (r:=H3 (EN s dev a)) none (h5:=?_) (h6:=⟨rfl,rfl,rfl⟩);rw[EN,if_neg (by rw[List.length_map]at hc2;omega),if_neg (by simp[hc3]),if_neg (by simp[hc4]),if_neg (by simp[hc5,hc6]),if_pos (.inr hc8)];exact Ko _
 refine AF (C5 (h:=?_));refine A3 rfl (SA rfl (by repeat (first|exact Args.nil|refine Args.cons _ _ _ _ _ rfl (L5 rfl) ?_|refine Args.cons _ _ _ _ _ rfl (MB _) ?_|refine Args.cons _ _ _ _ _ rfl (LX _) ?_|refine Args.cons _ _ _ _ _ rfl (MF rfl (by repeat (first|exact A7 _|exact LeA.nil _|exact LeL.refl _|refine LeA.agg ?_|refine LeA.tup ?_|exact LeL.nil|refine LeL.cons ?_ ?_|exact LeA.any _))) ?_)) (XE s hs) (fun _=>rfl) (by repeat constructor) ?_);refine Dz (h:=B0 (h:=m_ (h:=l_ (h:=Bi (h:=BY (h:=?_))))));refine A3 rfl (EF rfl rfl rfl (by simp;omega) (by repeat constructor) ?_);refine Ct (h:=Dr (h:=B8 (h:=?_)));refine A6 ?_;rw[EN,if_neg (by rw[List.length_map]at hc2;omega),if_neg (by simp[hc3]),if_neg (by simp[hc4]),if_neg (by simp[hc5,hc6]),if_neg (by simp[hc7,hc8])];simp only[H3,AY,List.map_append];rfl
theorem gW(s:Spc)(dev:Int)(hs:SpcB s):AFn prog 253 [.agg (AY s), .v (.int .i64 dev)] (fun r=>r=H3 (Hi s dev)):=by
 have hfew:=hs.few;refine enter Tryz.func253 rfl rfl rfl rfl rfl 0 rfl ?_;refine EH (h:=Bn (h:=Dy (h:=?_)));refine AJ false rfl rfl (fun hb1 hc1=>?_) (fun hb1 hc1=>?_)
 ·refine BT (h:=DY (h:=CX (h:=Bq (h:=?_))));refine AU (r:=H3 (Hi s dev)) none (h5:=?_) (h6:=⟨rfl,rfl,rfl⟩);rw[Hi,if_pos (.inl hc1)];exact Ko _
 refine Gv (h:=?_);refine Aq (A8 (Og s dev hs) ?_);rintro r rfl;refine DP (h:=CH (h:=?_));refine A4 rfl (fun hb2 hc2=>?_) (fun hb2 hc2=>?_)
 ·refine Bq (h:=?_);refine AU (r:=H3 (Hi s dev)) none (h5:=?_) (h6:=⟨rfl,rfl,rfl⟩);rw[Hi,if_pos (.inr hc2)];exact Ko _
 refine AF (DG (h:=Ca (h:=?_)));refine NW 6 185 3 rfl (by repeat constructor) ?_;refine BU (fun m t=>∃(j:Nat) (acc:List E0),j≤s.mounts.length∧m=s.mounts.length - j∧(∀i y,i<j→s.mounts[i]?=some y→decide (y.2.1=dev)=false)∧(s.mounts.take j).filter (fun m=>decide (m.1≠dev))=acc∧acc.length≤j∧t=⟨look [(1, .v (.int .i64 dev)),(2, .bp 0 0),(4, .bp 1 0),(6, .sl 3 (acc.map GM) (some 0)),(7, .v (.int .i64 (j:Int)))],⟨[AY s,[.v (.slice none 0 0), .v (.slice none 0 0)]],[(185,3,acc.map GM)]⟩⟩) (s.mounts.length) ((wk 2 1)) (⟨0,[],by omega,rfl,fun i y hi=>by omega,rfl,B3 _,rfl⟩) ?_;rintro m t ⟨j,acc,hj,rfl,ha,hacc,hal,rfl⟩;refine Gs (h:=?_);refine A4 rfl (fun hb3 hc3=>?_) (fun hb3 hc3=>?_)
 ·obtain⟨hlt,x,hy,hrow, -⟩:=C1 GM hc3;refine C0 (h:=Fe (h:=Fw (h:=Dp (h:=m_ (h:=BN (h:=?_))))));refine A4 rfl (fun hb4 hc4=>?_) (fun hb4 hc4=>?_)
  ·have hany:(s.mounts.any fun m=>decide (m.2.1=dev))=true:=N1 hy (decide_eq_true hc4);refine Bq (h:=D1 (h:=CT (h:=?_)));refine AU (r:=H3 (Hi s dev)) none (h5:=?_) (h6:=⟨rfl,rfl,rfl⟩);rw[Hi,if_neg (by simp[hc1,hc2]),if_pos hany];exact Ko _
  refine AF (Gt (h:=Fx (h:=Bo (h:=?_))));refine A4 rfl (fun hb5 hc5=>?_) (fun hb5 hc5=>?_)
  ·have hk:(s.mounts.take (j+1)).filter (fun m=>decide (m.1≠dev))=acc++[x]:=by rw[List.take_add_one,hy,List.filter_append,hacc];simp[hc5]
   refine Bt (h:=Aa (h:=Fw (h:=l_ (h:=BY (h:=?_)))));refine A3 rfl (EF rfl rfl rfl (by simp;omega) (by repeat constructor) ?_);refine Gk (h:=Eg (h:=?_));exact⟨s.mounts.length - (j+1),_,by omega,⟨j+1,acc++[x],by omega,rfl,GL hy ha (decide_eq_false hc4),hk,by simp;omega,rfl⟩,(by rw[List.map_append];exact Ao 2 1 rfl rfl rfl rfl ((by repeat (first|exact Sub.nil|refine Ap rfl rfl ?_|refine At ?_|refine Au rfl ?_|refine Av rfl ?_))))⟩
  have hk:(s.mounts.take (j+1)).filter (fun m=>decide (m.1≠dev))=acc:=by rw[List.take_add_one,hy,List.filter_append,hacc];simp[hc5]
  refine DH (h:=?_)
  first|exact⟨s.mounts.length - (j+1),_,by omega,⟨j+1,acc++[x],by omega,rfl,GL hy ha (decide_eq_false hc4),hk,by simp;omega,rfl⟩,(by rw[List.map_append];exact Ao 2 1 rfl rfl rfl rfl ((by repeat (first|exact Sub.nil|refine Ap rfl rfl ?_|refine At ?_|refine Au rfl ?_|refine Av rfl ?_))))⟩|exact⟨s.mounts.length - (j+1),_,by omega,⟨j+1,acc,by omega,rfl,GL hy ha (decide_eq_false hc4),hk,by omega,rfl⟩,Ao 2 1 rfl rfl rfl rfl ((by repeat (first|exact Sub.nil|refine Ap rfl rfl ?_|refine At ?_|refine Au rfl ?_|refine Av rfl ?_)))⟩
 have e3:=CF GM hj hc3;subst e3;have hany:(s.mounts.any fun m=>decide (m.2.1=dev))=false:=Nl ha;rw[List.take_length]at hacc;refine CJ (h:=C5 (h:=?_));refine A3 rfl (SA rfl (by repeat (first|exact Args.nil|refine Args.cons _ _ _ _ _ rfl (L5 rfl) ?_|refine Args.cons _ _ _ _ _ rfl (MB _) ?_|refine Args.cons _ _ _ _ _ rfl (LX _) ?_|refine Args.cons _ _ _ _ _ rfl (MF rfl (by repeat (first|exact A7 _|exact LeA.nil _|exact LeL.refl _|refine LeA.agg ?_|refine LeA.tup ?_|exact LeL.nil|refine LeL.cons ?_ ?_|exact LeA.any _))) ?_)) (XE s hs) (fun _=>rfl) (by repeat constructor) ?_);refine Dz (h:=AX (h:=Ct (h:=Dr (h:=B8 (h:=?_)))));refine A6 ?_;rw[Hi,if_neg (by simp[hc1,hc2]),if_neg (by simp[hany]),hacc];rfl
end
theorem XF(z:Int){n:Int}(h:1≤n): -n<z.tmod n∧z.tmod n<n:=⟨Int.lt_tmod_of_pos z (by omega),Int.tmod_lt_of_pos z (by omega)⟩
theorem KO(a b:ByteArray):(a++b).size=a.size+b.size:=ByteArray.size_append
section
theorem gX(l:List Int):ACall prog 12 [.sl 1 (l.map C7) none] [] (fun r b t=>r= .bp 0 0∧b=[E4 l 0]∧t=[]):=by
 refine enter Tryz.func12 rfl rfl rfl rfl rfl 1 rfl ?_;refine EX (h:=Bi (h:=b_ (h:=B8 (h:=?_))));refine AU none (h5:=(A7 _)) (h6:=⟨rfl,rfl,rfl⟩)
theorem Gn(l:List Int)(a:Nat)(n:Int)(ha:a≤1000000000000)(hn:n≤1000000000000):GenF prog 21 l a [.v (.int .i64 n)] 1 (fun r=>∃k:Int,r= .v (.int .i64 k)∧0≤k∧(1≤n→k<n)∧(n<1→k=0)):=by
 refine enter Tryz.func21 rfl rfl rfl rfl rfl 1 rfl ?_;refine w_ (Bn (h:=D2 (h:=?_)));refine A4 rfl (fun hb1 hc1=>?_) (fun hb1 hc1=>?_)
 ·refine BL (h:=?_);refine AU none (h5:=(A7 _)) (h6:=⟨_,rfl,rfl,a,by omega,rfl,0,rfl,by omega,by omega,by omega⟩)
 refine AF (w_ (m_ (h:=k_ (h:=f_ (h:=l_ (h:=Fc (h:=k_ (h:=f_ (h:=s_ (h:=e_ (w_ (m_ (h:=k_ (h:=f_ (h:=l_ (h:=b6 (h:=a_ (h:=e_ (q_ (q_ (Dd 10 (h:=AG 0 (h:=BJ 1 (h:=?_))))))))))))))))))))))));refine AD 2 (h:=A9 3 (h:=AG 4 (h:=BJ 5 (h:=AD 6 (h:=A9 7 (h:=MH 8 (h:=b8 9 (h:=z_ (h:=t_ (?_))))))))));refine A4 rfl (fun hb2 hc2=>?_) (fun hb2 hc2=>?_)
 ·have hlt:a<l.length:=by simp at hc2;omega
  obtain⟨z,hz⟩:∃z,(l.map C7)[a]?=some (C7 z):=⟨l[a],by simp[hlt]⟩;have tz:=XF z (n:=n) (by omega);refine Dd 12 (h:=AG 0 (h:=BJ 1 (h:=AD 2 (h:=A9 3 (h:=AG 4 (h:=BJ 5 (h:=AD 6 (h:=A9 7 (h:=SP 8 (h:=?_))))))))));refine FO (i:=9) rfl (D7 (n:=a) rfl rfl (by omega) hz ⟨rfl,rfl⟩) ?_;refine A9 10 (h:=BB 11 (h:=z_ (h:=t_ (w_ (m_ (h:=m_ (h:=?_)))))));refine A3 rfl (Uf rfl rfl (by omega) ?_);refine Bn (h:=D2 (h:=?_));refine A4 rfl (fun hb3 hc3=>?_) (fun hb3 hc3=>?_)
  ·refine EQ (h:=?_);refine A3 rfl (NT rfl rfl (by omega) ?_);refine Bu (h:=B8 (h:=?_));refine AU none (h5:=(A7 _)) (h6:=⟨_,rfl,rfl,a+1,by omega,rfl,_,rfl,by omega,by omega,by omega⟩)
  refine AF (EA (h:=?_));refine AU none (h5:=(A7 _)) (h6:=⟨_,rfl,rfl,a+1,by omega,rfl,_,rfl,by omega,by omega,by omega⟩)
 have tz:=XF (IntKind.i64.wrap (((a:Int)+1) * 7)) (n:=n) (by omega);refine AF (E9 (h:=?_));refine A3 rfl (Uf rfl rfl (by omega) ?_);refine Bn (h:=D2 (h:=?_));refine A4 rfl (fun hb4 hc4=>?_) (fun hb4 hc4=>?_)
 ·refine EQ (h:=?_);refine A3 rfl (NT rfl rfl (by omega) ?_);refine Bu (h:=B8 (h:=?_));refine AU none (h5:=(A7 _)) (h6:=⟨_,rfl,rfl,a+1,by omega,rfl,_,rfl,by omega,by omega,by omega⟩)
 refine AF (EA (h:=?_));refine AU none (h5:=(A7 _)) (h6:=⟨_,rfl,rfl,a+1,by omega,rfl,_,rfl,by omega,by omega,by omega⟩)
theorem E1(l:List Int)(a:Nat)(lo hi:Int)(ha:a≤1000000000000)(h1: -1000000≤lo)(h2:lo≤hi)(h3:hi≤1000000):GenF prog 47 l a [.v (.int .i64 lo), .v (.int .i64 hi)] 1 (fun r=>∃k:Int,r= .v (.int .i64 k)∧lo≤k∧k≤hi):=by
 refine enter Tryz.func47 rfl rfl rfl rfl rfl 1 rfl ?_;refine EX (h:=m_ (h:=m_ (h:=m_ (h:=Kf (h:=Fc (h:=?_))))));refine A3 rfl (Ax 0 (hc:=Gn l a (hi - lo+1) ha (by omega)) (hR:=?_));rintro r a1 ha1 ⟨k,rfl,k1,k2,k3⟩;refine Ay ?_;refine Fc (h:=B8 (h:=?_));refine AU none (h5:=(A7 _)) (h6:=⟨_,rfl,rfl,a1,by omega,rfl,_,rfl,by omega,by omega⟩)
theorem GQ(l:List Int)(a:Nat)(rows:List (List AV))(p:Int→Bool)(ha:a≤1000000000000)(h0:Nat.blt 0 rows.length=true)(h1:Nat.ble rows.length 1000=true)(hp:QY p rows=true):GenF prog 78 l a [.sl 1 rows none] 1 (fun r=>∃z:Int,r= .v (.int .i64 z)∧p z=true):=by
 have h0':0<rows.length:=BW h0;have h1':rows.length≤1000:=BW h1;refine enter Tryz.func78 rfl rfl rfl rfl rfl 1 rfl ?_;refine EX (h:=m_ (h:=m_ (h:=n_ (h:=?_))));refine A3 rfl (Ax 0 (hc:=Gn l a rows.length ha (by omega)) (hR:=?_));rintro r a1 ha1 ⟨k,rfl,k1,k2,k3⟩;refine Ay ?_;obtain⟨m,rfl⟩:=Int.eq_ofNat_of_zero_le k1;obtain⟨z,hz,pz⟩:=VB hp (i:=m) (by omega);refine A3 rfl (D7 (n:=m) rfl rfl rfl hz ?_);refine l_ (h:=B8 (h:=?_));refine AU none (h5:=(A7 _)) (h6:=⟨_,rfl,rfl,a1,by omega,rfl,z,rfl,pz⟩)
theorem MW(l:List Int)(a:Nat)(rows:List (List AV))(p:ByteArray→Bool)(ha:a≤1000000000000)(h0:Nat.blt 0 rows.length=true)(h1:Nat.ble rows.length 1000=true)(hp:QZ p rows=true):GenF prog 81 l a [.sl 1 rows none] 1 (fun r=>∃z:ByteArray,r= .v (.string z)∧p z=true):=by
 have h0':0<rows.length:=BW h0;have h1':rows.length≤1000:=BW h1;refine enter Tryz.func81 rfl rfl rfl rfl rfl 1 rfl ?_;refine EX (h:=m_ (h:=m_ (h:=n_ (h:=?_))));refine A3 rfl (Ax 0 (hc:=Gn l a rows.length ha (by omega)) (hR:=?_));rintro r a1 ha1 ⟨k,rfl,k1,k2,k3⟩;refine Ay ?_;obtain⟨m,rfl⟩:=Int.eq_ofNat_of_zero_le k1;obtain⟨z,hz,pz⟩:=VC hp (i:=m) (by omega);refine A3 rfl (D7 (n:=m) rfl rfl rfl hz ?_);refine l_ (h:=B8 (h:=?_));refine AU none (h5:=(A7 _)) (h6:=⟨_,rfl,rfl,a1,by omega,rfl,z,rfl,pz⟩)
theorem XG(l:List Int)(a:Nat)(ha:a≤100000000000):GenF prog 127 l a [] 2 (fun r=>∃s:ByteArray,r= .v (.string s)∧s.size≤13):=by
 refine enter Tryz.func127 rfl rfl rfl rfl rfl 1 rfl ?_;refine w_ (Bn (h:=?_));refine A3 rfl (Ax 0 (hc:=Gn l _ (20) (by omega) (by omega)) (hR:=?_));rintro r a1 ha1 ⟨k1,rfl,p1,q1,o1⟩;refine Ay ?_;refine BN (h:=?_);refine A4 rfl (fun hb1 hc1=>?_) (fun hb1 hc1=>?_)
 ·refine AX (h:=BY (h:=?_));refine A3 rfl (Ax 0 (hc:=MW l _ _ (fun s=>decide (s.size≤13)) (by omega) (by rfl) (by rfl) (by rfl)) (hR:=?_));rintro r a2 ha2 ⟨k2,rfl,p2⟩;refine Ay ?_;refine E8 (h:=?_);refine AU none (h5:=(A7 _)) (h6:=⟨_,rfl,rfl,_,?_,rfl,_,rfl,of_decide_eq_true ‹_›⟩)<;>omega
 refine AF (AX (h:=BY (h:=?_)));refine A3 rfl (Ax 0 (hc:=MW l _ _ (fun s=>decide (s.size≤13)) (by omega) (by rfl) (by rfl) (by rfl)) (hR:=?_));rintro r a3 ha3 ⟨k3,rfl,p3⟩;refine Ay ?_;refine B8 (h:=?_);refine AU none (h5:=(A7 _)) (h6:=⟨_,rfl,rfl,_,?_,rfl,_,rfl,of_decide_eq_true ‹_›⟩)<;>omega
theorem gY(l:List Int)(a:Nat)(ha:a≤50000000000):GenF prog 100 l a [] 20 (fun r=>∃s:ByteArray,r= .v (.string s)∧s.size≤58):=by
 have e1:(⟨#[47]⟩:ByteArray).size=1:=rfl;have e0:(⟨#[]⟩:ByteArray).size=0:=rfl;refine enter Tryz.func100 rfl rfl rfl rfl rfl 1 rfl ?_;refine DG (h:=DG (h:=?_));refine B9 (fun s=>∃(b:Nat) (t:ByteArray),b≤a+1∧t.size≤1∧s=⟨look [(0, .bp 0 0),(3, .v (.string t))],⟨[E4 l b],[]⟩⟩) ?_ ?_
 ·skip
  refine AX (h:=?_);refine A3 rfl (Ax 0 (hc:=Gn l _ (6) (by omega) (by omega)) (hR:=?_));rintro r a1 ha1 ⟨k1,rfl,p1,q1,o1⟩;refine Ay ?_;refine E6 (h:=e_ (?_));refine A4 rfl (fun hb1 hc1=>?_) (fun hb1 hc1=>?_)
  ·refine Aw (Ch (h:=?_));refine⟨_,⟨_,_,?_,?_,rfl⟩,(wk 1 0)⟩<;>first|omega|exact BW rfl
  refine BD (AT (?_));refine⟨_,⟨_,_,?_,?_,rfl⟩,(wk 1 0)⟩<;>first|omega|exact BW rfl
 rintro s ⟨b,t0,hb,ht0,rfl⟩;refine AX (h:=BY (h:=?_));refine A3 rfl (Ax 0 (hc:=GQ l _ _ (fun z=>decide (0≤z∧z≤4)) (by omega) (by rfl) (by rfl) (by rfl)) (hR:=?_));rintro r a2 ha2 ⟨k2,rfl,p2⟩;refine Ay ?_;obtain⟨hz1,hz2⟩:=of_decide_eq_true p2;obtain⟨m,rfl⟩:=Int.eq_ofNat_of_zero_le hz1;refine B4 (h:=Ca (h:=?_));refine BU (fun n s=>∃(j b1:Nat) (t:ByteArray),j≤m∧n=m - j∧b1≤b+1+4 * j∧t.size≤1+14 * j∧s=⟨look [(0, .bp 0 0),(3, .v (.string t)),(4, .v (.int .i64 (m:Int))),(5, .v (.int .i64 (j:Int)))],⟨[E4 l b1],[]⟩⟩) (m) ((wk 1 0)) (⟨0,_,t0,by omega,rfl,by omega,by omega,rfl⟩) ?_;rintro n s ⟨j,b1,t,hj,rfl,hb1,ht,rfl⟩;refine Dq (h:=D2 (h:=?_));refine A4 rfl (fun hb2 hc2=>?_) (fun hb2 hc2=>?_)
 ·refine AF (?_);refine B9 (fun s=>∃(b3:Nat) (t1:ByteArray),b3≤b1+4∧t1.size≤1+14 * (j+1)∧s=⟨look [(0, .bp 0 0),(3, .v (.string t1)),(4, .v (.int .i64 (m:Int))),(5, .v (.int .i64 (j:Int)))],⟨[E4 l b3],[]⟩⟩) ?_ ?_
  ·skip
   refine BK (Bk (h:=E6 (h:=e_ (?_))));refine A4 rfl (fun hb3 hc3=>?_) (fun hb3 hc3=>?_)
   ·refine Bt (h:=?_);refine A3 rfl (Gd rfl rfl (by(try simp only[KO]);omega) ?_);refine Bu (h:=?_);refine A3 rfl (Ax 0 (hc:=Gn l _ (8) (by omega) (by omega)) (hR:=?_));rintro r a3 ha3 ⟨k3,rfl,p3,q3,o3⟩;refine Ay ?_;refine BN (h:=?_);refine A4 rfl (fun hb4 hc4=>?_) (fun hb4 hc4=>?_)
    ·refine EQ (h:=BY (h:=?_));refine A3 rfl (Ax 0 (hc:=MW l _ _ (fun s=>decide (s.size≤13)) (by omega) (by rfl) (by rfl) (by rfl)) (hR:=?_));rintro r a4 ha4 ⟨k4,rfl,p4⟩;refine Ay ?_;have hw:=of_decide_eq_true p4;refine A3 rfl (Gd rfl rfl (by(try simp only[KO]);omega) ?_);refine Gk (h:=BE (AT (?_)));refine⟨_,⟨_,_,?_,?_,rfl⟩,(wk 1 0)⟩<;>(try simp only[KO])<;>omega
    refine EQ (h:=?_);refine A3 rfl (Ax 0 (hc:=XG l _ (by omega)) (hR:=?_));rintro r a5 ha5 ⟨k5,rfl,hw⟩;refine Ay ?_;refine A3 rfl (Gd rfl rfl (by(try simp only[KO]);omega) ?_);refine Gk (h:=BE (AT (?_)));refine⟨_,⟨_,_,?_,?_,rfl⟩,(wk 1 0)⟩<;>(try simp only[KO])<;>omega
   refine AF (AX (h:=?_));refine A3 rfl (Ax 0 (hc:=Gn l _ (8) (by omega) (by omega)) (hR:=?_));rintro r a6 ha6 ⟨k6,rfl,p6,q6,o6⟩;refine Ay ?_;refine BN (h:=?_);refine A4 rfl (fun hb5 hc5=>?_) (fun hb5 hc5=>?_)
   ·refine EQ (h:=BY (h:=?_));refine A3 rfl (Ax 0 (hc:=MW l _ _ (fun s=>decide (s.size≤13)) (by omega) (by rfl) (by rfl) (by rfl)) (hR:=?_));rintro r a7 ha7 ⟨k7,rfl,p7⟩;refine Ay ?_;have hw:=of_decide_eq_true p7;refine A3 rfl (Gd rfl rfl (by(try simp only[KO]);omega) ?_);refine Gk (h:=BE (AT (?_)));refine⟨_,⟨_,_,?_,?_,rfl⟩,(wk 1 0)⟩<;>(try simp only[KO])<;>omega
   refine EQ (h:=?_);refine A3 rfl (Ax 0 (hc:=XG l _ (by omega)) (hR:=?_));rintro r a8 ha8 ⟨k8,rfl,hw⟩;refine Ay ?_;refine A3 rfl (Gd rfl rfl (by(try simp only[KO]);omega) ?_);refine Gk (h:=BE (AT (?_)));refine⟨_,⟨_,_,?_,?_,rfl⟩,(wk 1 0)⟩<;>(try simp only[KO])<;>omega
  rintro s ⟨b3,t1,hb3,ht1,rfl⟩;refine Qi (h:=?_);refine⟨_,_,?_,⟨j+1,_,_,by omega,rfl,?_,?_,rfl⟩,(wk 1 0)⟩<;>omega
 refine CJ (h:=Bk (h:=?_));refine A3 rfl (Ax 0 (hc:=Gn l _ (8) (by omega) (by omega)) (hR:=?_));rintro r a9 ha9 ⟨k9,rfl,p9,q9,o9⟩;refine Ay ?_;refine BN (h:=?_);refine A4 rfl (fun hb6 hc6=>?_) (fun hb6 hc6=>?_)
 ·refine Bt (h:=?_);refine A3 rfl (Gd rfl rfl (by(try simp only[KO]);omega) ?_);refine Bu (h:=B8 (h:=?_));refine AU none (h5:=(A7 _)) (h6:=⟨_,rfl,rfl,_,?_,rfl,_,rfl,?_⟩)<;>(try simp only[KO])<;>omega
 refine AF (EA (h:=?_));refine AU none (h5:=(A7 _)) (h6:=⟨_,rfl,rfl,_,?_,rfl,_,rfl,?_⟩)<;>(try simp only[KO])<;>omega
end
theorem gZ:VD Nf:=by
 refine⟨by decide,by decide,by decide,⟨Ql,[],rfl,rfl,rfl,rfl⟩,List.pairwise_singleton _ _,?_,?_,?_,?_,?_,?_,?_,?_,?_,⟨fun _=>0,?_⟩⟩<;>
  (intro n hn;obtain rfl:n=Ql:=by simpa[Nf]using hn)
 ·decide
 ·decide+kernel
 ·intro h;exact absurd rfl h
 ·decide
 ·exact List.Pairwise.nil
 ·intro e he;cases he
 ·intro h;exact absurd rfl h
 ·intro h;exact absurd rfl h
 ·intro h;exact absurd rfl h
 intro h;exact absurd rfl h
theorem XH{k:Int}(h1:1≤k)(h2:k≤3):FlsV (G0 k).1∧0<(G0 k).1.length:=by
 unfold G0;rw[if_neg (by omega)];refine⟨⟨?_,fun d hd=>?_⟩,?_⟩
 ·show(List.replicate _ _).length≤3;rw[List.length_replicate];omega
 ·rw[(List.mem_replicate.1 hd).2];exact gZ
 show 0<(List.replicate _ _).length;rw[List.length_replicate];omega
structure MntOK(f:AR)(ms:List E0)(m:E0):Prop where
 dev1:1≤m.1
 dev2:m.1<(f.length:Int)
 fresh:DL ⟨f,ms⟩ m.1=false
 dir:Af f m.2=true
 there:DL ⟨f,ms⟩ m.2.1=true
 free:(Di ⟨f,ms⟩ m.2).isSome=false
structure SpcV(s:Spc):Prop where
 files:FlsV s.files
 pos:0<s.files.length
 mnt:∀i m,s.mounts[i]?=some m→MntOK s.files (s.mounts.take i) m
theorem hC{s:Spc}(h:SpcV s)(dev:Int)(a:AB)(h0:(EN s dev a).2=0):SpcV (EN s dev a).1∧(EN s dev a).1=⟨s.files,s.mounts++[(dev,a)]⟩:=by
 unfold EN at h0 ⊢;split at h0
 ·exact absurd h0 (by decide)
 rename_i c1;split at h0
 ·exact absurd h0 (by decide)
 rename_i c2;split at h0
 ·exact absurd h0 (by decide)
 rename_i c3;split at h0
 ·exact absurd h0 (by decide)
 rename_i c4;split at h0
 ·exact absurd h0 (by decide)
 rename_i c5;rw[if_neg c1,if_neg c2,if_neg c3,if_neg c4,if_neg c5];refine⟨⟨h.files,h.pos,fun i m hi=>?_⟩,rfl⟩;simp only at hi ⊢;rcases Nat.lt_trichotomy i s.mounts.length with hlt|heq|hgt
 ·rw[DF hlt]at hi;rw[List.take_append_of_le_length (by omega)];exact h.mnt i m hi
 ·subst heq;simp at hi;subst hi;rw[List.take_left' rfl];exact⟨by simp only;omega,by simp only;omega,by simpa using fun h=>c5 (.inl h),by simp only;rw[MK];simp at c2 c3;simp[c2,c3],by simpa using fun h=>c4 (.inl h),Bool.eq_false_iff.2 fun h=>c5 (.inr h)⟩
 rw[List.getElem?_eq_none (by simp;omega)]at hi;cases hi
end Go.Proofs.YtbgnigjfkbmceaaGreatDoor
namespace Go.Proofs.YtbgnigjfkbmceaaGreatDoor
def G6(s:Spc)(a:AB):Option AB:=if a.2≠1 then some (a.1,(Ac s.files a).parent)else C8 s a.1
def ends(s:Spc):Nat→AB→Prop
 |0,a=>Af s.files a=false
 |k+1,a=>Af s.files a=false∨∀b,G6 s a=some b→ends s k b
theorem RE{s:Spc}{dev:Int}{on:AB}(h:C8 s dev=some on):∃m∈s.mounts,m.1=dev∧m.2=on:=by
 unfold C8 at h
 cases hf:s.mounts.find? fun m:E0=>decide (m.1=dev)with
 |none=>rw[hf]at h;cases h
 |some m=>
   rw[hf]at h;injection h with h;exact⟨m,List.mem_of_find?_eq_some hf,by have:=List.find?_some hf;simpa using this,h⟩
theorem PH{f:AR}{a:AB}(h:¬Af f a=false):∃(q:Nat) (d:Dvc) (m:Nod),a.1=(q:Int)∧f[q]?=some d∧m∈d.nodes∧m.ino=a.2∧Ac f a=m∧m.kind=2:=by
 rw[Bool.not_eq_false,MK,Bool.and_eq_true,decide_eq_true_eq]at h;obtain⟨q,i,d,m,h1,h2,h3,h4,_,h6⟩:=RA h.1;exact⟨q,d,m,h1,h2,Aj h3,h4,h6,by rw[←h6];exact h.2⟩
theorem PJ{s:Spc}(hv:SpcV s){a:AB}(h:¬Af s.files a=false):GN s a=G6 s a:=by
 obtain⟨q,d,m,_,_,_,h4,h5,_⟩:=PH h;unfold GN G6;rw[h5,h4];split
 ·rfl
 split
 ·rename_i h0
  cases ho:C8 s a.1 with
  |none=>rfl
  |some on=>
    obtain⟨m',hm,h1,_⟩:=RE ho;obtain⟨i,hi⟩:=List.getElem?_of_mem hm;have:=(hv.mnt i m' hi).dev1;omega
 rfl
def MX(s:Spc)(dev:Int):Nat:=match s.mounts.findIdx? fun m:E0=>decide (m.1=dev)with
 |none=>0
 |some i=>i+1
theorem XJ{s:Spc}(hv:SpcV s){dev:Int}{on:AB}(h:C8 s dev=some on):MX s on.1<MX s dev:=by
 unfold C8 at h
 cases hf:s.mounts.find? fun m:E0=>decide (m.1=dev)with
 |none=>rw[hf]at h;cases h
 |some m=>
   rw[hf]at h;injection h with h;subst h;rw[List.find?_eq_some_iff_getElem]at hf;obtain⟨hp,i,hi,hmi,hbefore⟩:=hf
   have e1:s.mounts.findIdx? (fun m:E0=>decide (m.1=dev))=some i:=by
    rw[List.findIdx?_eq_some_iff_getElem];exact⟨hi,by rw[hmi];exact hp,fun j hj=>by simpa using hbefore j hj⟩
   have hthere:=(hv.mnt i m (by rw[B2 hi,hmi])).there;unfold MX;rw[e1]
   cases e2:s.mounts.findIdx? (fun m':E0=>decide (m'.1=m.2.1))with
   |none=>simp
   |some j=>
     simp only;by_cases h0:m.2.1=0
     ·rw[List.findIdx?_eq_some_iff_getElem]at e2;obtain⟨hj,h1,_⟩:=e2;have:=(hv.mnt j _ (B2 hj)).dev1;simp only[decide_eq_true_eq]at h1;omega
     unfold DL C8 at hthere;simp only[Bool.or_eq_true,decide_eq_true_eq,h0,or_false,Option.isSome_map]at hthere
     cases hg:(s.mounts.take i).find? fun m':E0=>decide (m'.1=m.2.1)with
     |none=>rw[hg]at hthere;cases hthere
     |some m'=>
       rw[List.find?_eq_some_iff_getElem]at hg;obtain⟨hp',k,hk,hmk,_⟩:=hg;rw[List.findIdx?_eq_some_iff_getElem]at e2;obtain⟨hj,_,hno⟩:=e2;have hki:k<i:=by simp at hk;omega
       by_cases hjk:j≤k
       ·omega
       have:=hno k (by omega);simp only[List.getElem_take]at hmk;rw[hmk]at this;rw[hp']at this;exact absurd rfl this
theorem hG{s:Spc}(hv:SpcV s):∀(p:Nat) (a:AB),MX s a.1<p→∃k,ends s k a:=by
 intro p
 induction p with
 |zero=>intro a h;omega
 |succ p ih=>
   intro a hp;by_cases hd:Af s.files a=false
   ·exact⟨0,hd⟩
   obtain⟨q,d,m,hq,hfd,_⟩:=PH hd;have hvd:=hv.files.vd d (Aj hfd);obtain⟨rk,hrk⟩:=hvd.rank
   have key:∀(r:Nat) (ino:Int),rk ino<r→∃k,ends s k (a.1,ino):=by
    intro r
    induction r with
    |zero=>intro ino h;omega
    |succ r ihr=>
      intro ino hr;by_cases hd2:Af s.files (a.1,ino)=false
      ·exact⟨0,hd2⟩
      obtain⟨q',d',m',hq',hfd',hm',hi',hn',hk'⟩:=PH hd2;have:q'=q:=by simp only at hq';omega
      subst this;rw[hfd]at hfd';injection hfd' with hfd';subst hfd';simp only at hi';by_cases h1:ino=1
      ·cases ho:C8 s a.1 with
       |none=>exact⟨1, .inr fun b hb=>by simp[G6,h1,ho]at hb⟩
       |some on=>
         obtain⟨k,hk⟩:=ih on (by have:=XJ hv ho;omega);refine⟨k+1, .inr fun b hb=>?_⟩;simp[G6,h1,ho]at hb;rw[←hb];exact hk
      obtain⟨k,hk⟩:=ihr m'.parent (by have:=hrk m' hm' (by omega) hk';rw[hi']at this;omega);refine⟨k+1, .inr fun b hb=>?_⟩;simp[G6,h1,hn']at hb;rw[←hb];exact hk
   exact key (rk a.2+1) a.2 (by omega)
theorem Nz{s:Spc}{a:AB}(h:Af s.files a=false):∀k,CC s k a=[]
 |0=>rfl
 |k+1=>by unfold CC;rw[h];rfl
theorem MY{s:Spc}{a:AB}(h:¬Af s.files a=false)(k:Nat):CC s (k+1) a=a::(match GN s a with
    |none=>[]
    |some b=>CC s k b):=by
 conv=>lhs;unfold CC
 rw[if_pos (by simpa using h)];cases GN s a<;>rfl
theorem XK{s:Spc}(hv:SpcV s):∀(k k':Nat) (a:AB),ends s k a→ends s k' a→CC s k a=CC s k' a:=by
 intro k
 induction k with
 |zero=>intro k' a h _;rw[Nz h,Nz h]
 |succ k ih=>
   intro k' a h h';by_cases hd:Af s.files a=false
   ·rw[Nz hd,Nz hd]
   cases k' with
   |zero=>exact absurd h' hd
   |succ k'=>
     rw[MY hd,MY hd];have h1:=h.resolve_left hd;have h2:=h'.resolve_left hd;rw[←PJ hv hd]at h1 h2
     cases hs:GN s a with
     |none=>rfl
     |some b=>simp only;rw[ih k' b (h1 b hs) (h2 b hs)]
theorem XL{s:Spc}(hv:SpcV s):∀(k:Nat) (a x:AB),ends s k a→x∈CC s k a→(¬Af s.files x=false)∧∃j,ends s j x∧(CC s j x).length≤(CC s k a).length:=by
 intro k
 induction k with
 |zero=>intro a x h hx;cases hx
 |succ k ih=>
   intro a x h hx;by_cases hd:Af s.files a=false
   ·rw[Nz hd]at hx;cases hx
   have h1:=h.resolve_left hd;rw[←PJ hv hd]at h1;rw[MY hd]at hx;rcases List.mem_cons.1 hx with rfl|hx
   ·exact⟨hd,k+1,h,B3 _⟩
   rw[MY hd]
   cases hs:GN s a with
   |none=>rw[hs]at hx;cases hx
   |some b=>
     rw[hs]at hx;obtain⟨h2,j,h3,h4⟩:=ih b x (h1 b hs) hx;exact⟨h2,j,h3,by simp;omega⟩
theorem hH{s:Spc}(hv:SpcV s):∀(k:Nat) (a:AB),ends s k a→(CC s k a).Nodup:=by
 intro k
 induction k with
 |zero=>intro a h;exact List.nodup_nil
 |succ k ih=>
   intro a h;by_cases hd:Af s.files a=false
   ·rw[Nz hd];exact List.nodup_nil
   have h1:=h.resolve_left hd;rw[←PJ hv hd]at h1
   cases hs:GN s a with
   |none=>rw[MY hd,hs];simp
   |some b=>
     have e:CC s (k+1) a=a::CC s k b:=by rw[MY hd,hs]
     rw[e,List.nodup_cons];refine⟨fun hm=>?_,ih b (h1 b hs)⟩;obtain⟨_,j,h3,h4⟩:=XL hv k b a (h1 b hs) hm;rw[XK hv j (k+1) a h3 h,e]at h4;simp at h4;omega
def O0:Nat→AR→List AB
 |_,[]=>[]
 |q,d::ds=>d.nodes.map (fun n=>((q:Int),n.ino))++O0 (q+1) ds
theorem XM:∀(f:AR) (q:Nat),(O0 q f).length=Cq f
 |[],_=>rfl
 |d::ds,q=>by
   have:=XM ds (q+1);unfold Cq at this ⊢;simp only[O0,List.length_append,List.length_map,List.map_cons,List.sum_cons];omega
theorem XN:∀(f:AR) (q i:Nat) (d:Dvc) (m:Nod),f[i]?=some d→m∈d.nodes→(((q+i:Nat):Int),m.ino)∈O0 q f
 |[],_,i,_,_,h,_=>by simp at h
 |d0::ds,q,0,d,m,h,hm=>by
   simp only[List.getElem?_cons_zero,Option.some.injEq]at h;subst h;simp only[O0,Nat.add_zero];exact List.mem_append_left _ (List.mem_map.2 ⟨m,hm,rfl⟩)
 |d0::ds,q,i+1,d,m,h,hm=>by
   simp only[List.getElem?_cons_succ]at h;have:=XN ds (q+1) i d m h hm;simp only[O0];refine List.mem_append_right _ ?_
   rwa [show q+(i+1)=q+1+i by omega]
theorem hU{l:List AB}(hn:l.Nodup):∀{m:List AB},(∀x∈l,x∈m)→l.length≤m.length:=by
 induction l with
 |nil=>intro m _;simp
 |cons x xs ih=>
   intro m h;rw[List.nodup_cons]at hn
   have h1:=ih hn.2 (m:=m.erase x) fun y hy=>by
    have hne:y≠x:=fun e=>hn.1 (e ▸ hy);exact(List.mem_erase_of_ne hne).2 (h y (List.mem_cons_of_mem _ hy))
   have h2:=List.length_erase_of_mem (h x (List.mem_cons_self ..));have h3:0<m.length:=List.length_pos_of_mem (h x (List.mem_cons_self ..));simp only[List.length_cons];omega
theorem hZ{s:Spc}(hv:SpcV s){k:Nat}{a:AB}(h:ends s k a):(CC s k a).length≤Cq s.files:=by
 rw[←XM s.files 0];refine hU (hH hv k a h) fun x hx=>?_;obtain⟨hd,_⟩:=XL hv k a x h hx;obtain⟨q,d,m,h1,h2,h3,h4,_⟩:=PH hd;have:=XN s.files 0 q d m h2 h3;rw[Nat.zero_add,h4,←h1]at this;exact this
theorem i4{s:Spc}(hv:SpcV s):∀(k m:Nat) (a:AB),ends s k a→(CC s k a).length≤m→ends s m a:=by
 intro k
 induction k with
 |zero=>
   intro m a h _
   cases m with
   |zero=>exact h
   |succ m=>exact .inl h
 |succ k ih=>
   intro m a h hl;by_cases hd:Af s.files a=false
   ·cases m with
    |zero=>exact hd
    |succ m=>exact .inl hd
   have h1:=h.resolve_left hd;rw[MY hd]at hl
   cases m with
   |zero=>simp at hl
   |succ m=>
     refine .inr fun b hb=>?_;have hb':=hb;rw[←PJ hv hd]at hb';rw[hb']at hl;exact ih m b (h1 b hb) (by simpa using hl)
theorem RF{s:Spc}(hv:SpcV s)(a:AB):ends s (Cq s.files) a:=by
 obtain⟨k,hk⟩:=hG hv (MX s a.1+1) a (Nat.lt_succ_self _);exact i4 hv k _ a hk (hZ hv hk)
end Go.Proofs.YtbgnigjfkbmceaaGreatDoor
namespace Go.Proofs.YtbgnigjfkbmceaaGreatDoor
open Go.RowKit Go.Shelf
section
variable {F:Fence}{n:Nat}{P:Program}
theorem i5{α:Type}{g:Operand}{ps:Array Tmp}{assign body:Code}{Q:Exit→Act→World→Prop}{a:Act}{w:World}
    (hro:F.round=none) (h1:1≤n) {gf:Nat} {lb:Array Value} (hg:a.eval g= .func (.func gf) #[] lb) (hFg:F.fn gf) (eg:∀args w,(callFunc gf args).run P w= .ok (.enter gf args) w)
    {encs:α→Array Value} {own:Nat→Prop} {Kp:World→World→Prop} {Pf:List α→Prop} {S Sp:List α→Prop} {w0:World} (hseq:R3 F (n - 1) P gf lb encs own Kp Pf S Sp w0)
    (hown:∀b,own b→b<w.heap.size) (hKt:∀{A B C:World},Kp A B→Kp B C→Kp A C) (hKb:∀(W:World) (l:Nat) (o o':Obj),w.heap.size≤l→W.heap[l]?=some o→o.isCells=false→Kp W (W.putObj l o'))
    (hb0:Below w0.heap.size w0 w) (hps:∀x,(encs x).size=ps.size)
    (I:List α→World→Prop) (Ix:Code→List α→World→Prop) (hI:∀s X Y,I s X→Moves own w.heap.size X Y→I s Y) (hIx:∀c s X Y,Ix c s X→Moves own w.heap.size X Y→Ix c s Y) (h0:I [] w) (a₁:α→World→Act) (w₁:α→World→World) (hw1:∀x W,w.heap.size+2≤W.heap.size→Below W.heap.size W (w₁ x W)∧Kp W (w₁ x W))
    (hassign:∀(l:Nat) (x:α) (W:World) (K:Act→World→Prop),w.heap.size+2≤W.heap.size→K (a₁ x W) (w₁ x W)→
      assign.wpIn (F.inRound l) (n - 1 - 1) P (Exit.then K (fun _ _ _=>False)) {tmps:=(ps.zip (encs x)).foldl (fun t (p,v)=>t.setIfInBounds p v) a.tmps,defers:=[]} W)
    (hbody:∀(l:Nat) (pre:List α) (x:α) (W0 W:World),I pre W→Pf (pre++[x])→w.heap.size+2≤W0.heap.size→(w₁ x W0).heap.size≤W.heap.size→(∀(k:Nat) (o:Obj),(w₁ x W0).heap[k]?=some o→o.isCells=true→W.heap[k]?=some o)→w.heap.size≤l→(∃r,W.heap[l]?=some (.loop r))→
      body.wpIn (F.inRound l) (n - 1 - 1) P (ownPostG w.heap.size Kp I Ix (pre++[x]) W) (a₁ x W0) W)
    (hdone:∀(D:Nat) (xs:List α) (W:World),w.heap.size≤D→S xs→I xs W→W.heap[D]?=some (.deferred (some []))→Q .normal {a with defers:={target:= .collected D,args:=#[]}::a.defers} W)
    (hstop:∀(D:Nat) (c:Code) (pre:List α) (W:World),w.heap.size≤D→Sp pre→Ix c pre W→W.heap[D]?=some (.deferred (some []))→c.wpIn F n P Q {a with defers:={target:= .collected D,args:=#[]}::a.defers} W):
    (Code.rangeFunc g ps assign body).wpIn F n P Q a w:=by
 refine wpIn_rangeFunc ?_;intro fn hfn;rw[hro];obtain⟨rec,hrec⟩:∃rec:LoopState→Option Code→Loop,rec=fun st pe=>{state:=st,pending:=pe,fn,tmps:=a.tmps,params:=ps,assign,body,defers:=w.heap.size}:=⟨_,rfl⟩;obtain⟨W1,hW1⟩:∃W1,(w.alloc (.deferred (some []))).alloc (.loop (rec .ready none))=W1:=⟨_,rfl⟩;have hbw:Below w.heap.size w W1:=by rw[←hW1];exact N4 w _ _
 have hsz:W1.heap.size=w.heap.size+2:=by rw[←hW1];simp
 have hL1:W1.heap[w.heap.size+1]?=some (.loop (rec .ready none)):=by rw[←hW1];exact Nq _ _ _
 have hK1:W1.heap[w.heap.size]?=some (.deferred (some [])):=by rw[←hW1];exact Np _ _ _
 have hn0:¬own w.heap.size:=fun h=>by have:=hown _ h;omega
 have hn1:¬own (w.heap.size+1):=fun h=>by have:=hown _ h;omega
 refine⟨w.heap.size+1,[{target:= .collected w.heap.size,args:=#[]}],W1,{target:= .fn (.func gf) lb,args:=#[.func (.yield (w.heap.size+1)) #[] #[]]},W1,gf,
  #[.func (.yield (w.heap.size+1)) #[] #[]]++lb,W1,?_,?_,?_,?_,fun _=>h1,?_⟩
 ·rw[←hW1,hrec];exact run_enterLoop_outer _ _ _ _ _
 ·simp only[resolve,hg];simp[go_sem]
 ·intro f' hf';simp[Target.leads]at hf';subst hf';exact hFg
 ·simp[invoke,go_sem,eg]
 have lt_of:∀{W:World} {k:Nat} {o:Obj},W.heap[k]?=some o→k<W.heap.size:=fun h=>(Array.getElem?_eq_some_iff.1 h).1;have keep:∀{X Y:World} {k:Nat} {o:Obj},Moves own W1.heap.size X Y→X.heap[k]?=some o→k<W1.heap.size→¬own k→Y.heap[k]?=some o:=fun hm hx hk hn=>(hm.block _ (lt_of hx) hn (.inl hk)).trans hx
 refine(hseq (w.heap.size+1)
  (fun pre W=>I pre W∧W.heap[w.heap.size+1]?=some (.loop (rec .ready none))∧W.heap[w.heap.size]?=some (.deferred (some [])))
  (fun pre W=>∃c,Ix c pre W∧W.heap[w.heap.size+1]?=some (.loop (rec .done (some c)))∧W.heap[w.heap.size]?=some (.deferred (some [])))
  W1 (hb0.trans (hbw.mono hb0.size))
  (fun s X Y hs hm=>⟨hI s X Y hs.1 (hm.mono (by omega)),keep hm hs.2.1 (by omega) hn1,keep hm hs.2.2 (by omega) hn0⟩)
  (fun s X Y hs hm=>by
    obtain⟨c,hc,hl,hk⟩:=hs
    exact⟨c,hIx c s X Y hc (hm.mono (by omega)),keep hm hl (by omega) hn1,keep hm hk (by omega) hn0⟩)
  ?_ ⟨hI _ _ _ h0 (.below hbw),hL1,hK1⟩).mono ?_
 ·rintro pre x W0 ⟨hi0,hl0,hk0⟩ hpf;have hlt0:w.heap.size+1<W0.heap.size:=lt_of hl0;obtain⟨hbV,hkV⟩:=hw1 x W0 hlt0;obtain⟨W,hWe⟩:∃W,w₁ x W0=W:=⟨_,rfl⟩;rw[hWe]at hbV hkV;have hi:I pre W:=hI _ _ _ hi0 (.below hbV);have hl:=(hbV.block _ (by omega)).trans hl0;have hk:=(hbV.block _ (by omega)).trans hk0;have hlt:w.heap.size+1<W.heap.size:=lt_of hl;have hy:=run_yield (P:=P) (args:=encs x) hl0 (by rw[hrec];exact hps x);rw[hrec]at hy;refine⟨fn,_,assign,body,hy,roundIn_of_wpIn hfn (hassign _ x W0 _ hlt0 ⟨_,run_beginRound (by rw[hWe];exact hl) (by rw[hrec]),?_⟩)⟩;rw[hWe];have hl2:(W.putObj (w.heap.size+1) (.loop {rec .ready none with state:= .busy})).heap[w.heap.size+1]?=some (.loop {rec .ready none with state:= .busy}):=World.putObj_heap_same hlt;have hk2:(W.putObj (w.heap.size+1) (.loop {rec .ready none with state:= .busy})).heap[w.heap.size]?=some (.deferred (some [])):=(World.putObj_heap_other (by omega)).trans hk;have hw2:Kp W0 (W.putObj (w.heap.size+1) (.loop {rec .ready none with state:= .busy})):=hKt hkV (hKb _ _ _ _ (by omega) hl rfl)
  refine wpIn_mono (hbody _ pre x W0 _ (hI _ _ _ hi (.put_ _ hl rfl (by omega))) hpf hlt0 (by rw[hWe];exact(grownBy_putObj' W (w.heap.size+1) _).size) (fun k o hko hoc=>by
   rw[hWe]at hko;refine(World.putObj_heap_other fun e=>?_).trans hko;subst e;rw[hl]at hko;injection hko with hko;subst hko
   cases hoc) (by omega) ⟨_,hl2⟩) ?_
  have fin:∀(jump:Option Code) (W3:World),KeepsFrom w.heap.size (W.putObj (w.heap.size+1) (.loop {rec .ready none with state:= .busy})) W3→
      (Instr.endRound (w.heap.size+1) jump).run P W3= .ok (.bool jump.isNone) (W3.putObj (w.heap.size+1) (.loop (rec (if jump.isNone then .ready else .done) jump)))∧
      W3.heap[w.heap.size+1]?=some (.loop {rec .ready none with state:= .busy})∧
      (W3.putObj (w.heap.size+1) (.loop (rec (if jump.isNone then .ready else .done) jump))).heap[w.heap.size+1]?=some (.loop (rec (if jump.isNone then .ready else .done) jump))∧
      (W3.putObj (w.heap.size+1) (.loop (rec (if jump.isNone then .ready else .done) jump))).heap[w.heap.size]?=some (.deferred (some [])):=fun jump W3 hk3=>by
   have hl3:=hk3.same _ _ (by omega) hl2 rfl;have:=run_endRound (P:=P) jump hl3;rw[hrec]at this ⊢;exact⟨this,by rw[hrec]at hl3;exact hl3,World.putObj_heap_same (lt_of hl3),(World.putObj_heap_other (by omega)).trans (hk3.same _ _ (B3 _) hk2 rfl)⟩
  rintro e a3 W3 hp
  cases e with
  |normal=>
    obtain⟨hk3,hkp3,hi3⟩:=hp;obtain⟨hr,hl3,hl4,hk4⟩:=fin none W3 hk3;exact⟨_,_,hr, .inl ⟨rfl,⟨hI _ _ _ hi3 (.put_ _ hl3 rfl (by omega)),hl4,hk4⟩,hKt (hKt hw2 hkp3) (hKb _ _ _ _ (by omega) hl3 rfl)⟩⟩
  |ret=>
    obtain⟨hk3,hi3⟩:=hp;obtain⟨hr,hl3,hl4,hk4⟩:=fin (some .ret) W3 hk3;exact⟨_,_,hr, .inr ⟨rfl, .ret,hIx _ _ _ _ hi3 (.put_ _ hl3 rfl (by omega)),hl4,hk4⟩⟩
  |exit id=>
    obtain⟨hk3,hi3⟩:=hp;obtain⟨hr,hl3,hl4,hk4⟩:=fin (some (.exit id)) W3 hk3;exact⟨_,_,hr, .inr ⟨rfl, .exit id,hIx _ _ _ _ hi3 (.put_ _ hl3 rfl (by omega)),hl4,hk4⟩⟩
  |goto t=>
    obtain⟨hk3,hi3⟩:=hp;obtain⟨hr,hl3,hl4,hk4⟩:=fin (some (.goto t)) W3 hk3;exact⟨_,_,hr, .inr ⟨rfl, .goto t,hIx _ _ _ _ hi3 (.put_ _ hl3 rfl (by omega)),hl4,hk4⟩⟩
  |panic ch=>exact hp.elim
  |outgrown=>exact hp.elim
 rintro e W2 ⟨⟨v,rfl⟩,(⟨xs,hS,hi,hl,hk⟩|⟨pre,hSp,c,hi,hl,hk⟩)⟩
 ·exact⟨none,_,by have:=run_endLoop (P:=P) hl (by rw[hrec];simp);rw[hrec]at this;exact this,hdone _ xs _ (B3 _) hS (hI _ _ _ hi (.put_ _ hl rfl (by omega))) ((World.putObj_heap_other (by omega)).trans hk)⟩
 exact⟨some c,_,by have:=run_endLoop (P:=P) hl (by rw[hrec];simp);rw[hrec]at this;exact this,hstop _ c pre _ (B3 _) hSp (hIx _ _ _ _ hi (.put_ _ hl rfl (by omega))) ((World.putObj_heap_other (by omega)).trans hk)⟩
end
theorem i6{W:World}{k:Nat}{o:Obj}(h:W.heap[k]?=some o):k<W.heap.size:=(Array.getElem?_eq_some_iff.1 h).1
attribute [local go_sem] Oper.semAt_some
set_option maxRecDepth 100000 in
set_option maxHeartbeats 2000000 in
theorem i7(n:Nat)(hn:Hid (1≤n))(s:Spc)(hs:SpcB s)(root dir:AB)(ds ms:Value)(w:World)(h:SpcIn s w.heap.size w ds ms):
    CallsIn Fence.wide n prog 120 #[.agg #[ds,ms],He root,He dir] w fun e w'=>e= .returned (.bool (decide (root∈CC s (Cq s.files) dir)))∧Below w.heap.size w w':=by
 obtain⟨rd,ri⟩:=root;obtain⟨dd,di⟩:=dir;unfold He;refine callsIn_of_wp_marks Tryz.func120 rfl trivial ?_ rfl;simp only[Tryz.ntmps120,List.size_toArray,List.length_cons,List.length_nil,Nat.reduceAdd,Nat.reduceSub,Array.replicate_succ,Array.replicate_zero,List.push_toArray,List.append_toArray,List.nil_append,List.cons_append]
 gi_wp2_with fail
 obtain⟨W4,hW4⟩:∃W4,(((w.alloc (.cells #[ds,ms] 42)).alloc (.cells #[.int .i64 rd, .int .i64 ri] 26)).alloc (.cells #[.int .i64 dd, .int .i64 di] 26)).alloc (.cells #[.bool false] 4)=W4:=⟨_,rfl⟩;have hz4:W4.heap.size=w.heap.size+4:=by rw[←hW4];simp
 have hB4:Below w.heap.size w W4:=by rw[←hW4];exact W7 _ _ _ _ _
 have kR:W4.heap[w.heap.size+1]?=some (.cells #[.int .i64 rd, .int .i64 ri] 26):=by rw[←hW4];exact W8 _ _ _ _ _
 have kE:Boxed W4 (w.heap.size+1+1+1) 4 (.bool false):=by rw[←hW4];exact W9 _ _ _ _ _
 rw[hW4];have HZ4:=Lib.hid hz4;clear hW4;refine N9 ((callsIn_wide.2 (fC ds ms (dd,di) W4)).mono ?_);rintro e W6 ⟨rfl,hW6⟩;have hB6:Below W4.heap.size W4 W6:=by rw[hW6];exact N4 _ _ _
 have hz6:W6.heap.size=w.heap.size+6:=by rw[hW6];simp[hz4]
 have kS:W6.heap[W4.heap.size]?=some (.cells #[ds,ms] 42):=by rw[hW6];exact Np _ _ _
 have kD:W6.heap[W4.heap.size+1]?=some (.cells #[.int .i64 dd, .int .i64 di] 26):=by rw[hW6];exact Nq _ _ _
 have kR6:=FH kR hB6 (by omega);have kE6:Boxed W6 (w.heap.size+1+1+1) 4 (.bool false):=FH kE hB6 (by omega);have hBw:Below w.heap.size w W6:=hB4.trans (hB6.mono (by omega));have kSp:=h.below hBw (B3 _);have HZ6:=Lib.hid hz6;clear hW6 kR kE hB4 hB6 hz6 hz4
 gi_wp2_with fail
 refine i5 rfl hn.out (gf:=228) rfl trivial (enters_of Tryz.func228 (by kernel_rfl) rfl)
  (fG (n - 1) s hs (dd,di) w.heap.size W4.heap.size (W4.heap.size+1) ds ms W6 kS kD kSp (by have:=HZ4.out;omega) (by have:=HZ4.out;omega) (by omega))
  (fun b hb=>by have:=HZ4.out;have:=HZ6.out;omega) KeepC.trans (fun W l o o' hl ho hc=>by have:=HZ4.out;have:=HZ6.out;exact fE (B:=W6.heap.size) (by omega) (by omega) (by omega) W l o o' hl ho hc) (Below.refl _ _) (fun _=>rfl)
  (fun pre W=>W.heap[w.heap.size+1]?=some (.cells #[.int .i64 rd, .int .i64 ri] 26)∧Boxed W (w.heap.size+1+1+1) 4 (.bool false)∧(rd,ri)∉pre∧Below w.heap.size w W)
  (fun c pre W=>c= .ret∧Boxed W (w.heap.size+1+1+1) 4 (.bool true)∧(rd,ri)∈pre∧Below w.heap.size w W)
  (fun s X Y h hm=>⟨(hm.block _ (i6 h.1) (by have:=HZ4.out;omega) (.inr ⟨_,h.1,rfl⟩)).trans h.1,hm.boxed h.2.1 (by have:=HZ4.out;omega),h.2.2.1,hm.under h.2.2.2 (B3 _) (fun b hb=>by have:=HZ4.out;omega) (by have:=HZ6.out;omega)⟩)
  (fun c s X Y h hm=>⟨h.1,hm.boxed h.2.1 (by have:=HZ4.out;omega),h.2.2.1,hm.under h.2.2.2 (B3 _) (fun b hb=>by have:=HZ4.out;omega) (by have:=HZ6.out;omega)⟩)
  ⟨kR6,kE6,by simp,hBw⟩
  (fun x W=>{tmps:=#[.agg #[ds,ms], .agg #[.int .i64 rd, .int .i64 ri], .agg #[.int .i64 dd, .int .i64 di], .pointer (some ⟨w.heap.size,0,none⟩), .pointer (some ⟨w.heap.size+1,0,none⟩), .pointer (some ⟨w.heap.size+1+1,0,none⟩), .pointer (some ⟨w.heap.size+1+1+1,0,none⟩), .pointer (some ⟨W.heap.size,0,none⟩), .agg #[ds,ms], .agg #[.int .i64 dd, .int .i64 di],
    .func (.func 228) #[] #[.pointer (some ⟨W4.heap.size,0,none⟩), .pointer (some ⟨W4.heap.size+1,0,none⟩)], .agg #[.int .i64 x.1, .int .i64 x.2],undef,undef,undef],defers:=[]})
  (fun x W=>W.alloc (.cells #[.int .i64 x.1, .int .i64 x.2] 26))
  (fun x W hsz=>⟨LC _ _,by have:=HZ4.out;have:=HZ6.out;exact Wc (LC _ _) (by omega) (by omega) (by omega)⟩) ?assign ?body ?done ?stop
 case assign=>
  intro l x W K hsz hK;unfold He
  gi_wp2
  exact hK
 case body=>
  rintro l pre x W0 W ⟨c1,cE,hnm,hbw⟩ _ hsz hszW hcell _ _;have cX:=hcell _ _ (Nn W0 (.cells #[.int .i64 x.1, .int .i64 x.2] 26)) rfl;have HN:=Lib.hid hnm;have HZ:=Lib.hid hsz;clear hnm hsz hcell;obtain⟨c1',f1'⟩:=G3 c1;obtain⟨cX',fX'⟩:=G3 cX;have cE':=cE.cell;have fE':=cE.frozen;have h4:=HZ4.out;have h6:=HZ6.out;simp only[Sm]at hszW
  gi_wp2_with fail
  ·exact⟨Wa (Qx (Below.refl _ _)) (by omega) _,rfl,cE.set _,List.mem_append_right _ (by simp;exact Prod.ext (by simp[*]) (by simp[*])),hbw.setCell (by show w.heap.size≤w.heap.size+1+1+1;omega) _⟩
  all_goals
   have hz:=HZ.out
   exact⟨Qx (Below.refl _ _),Wc (Below.refl _ _) (by omega) (by omega) (by omega),c1,cE,by
    intro hm;rcases List.mem_append.1 hm with hm|hm
    ·exact HN.out hm
    simp only[List.mem_singleton]at hm;subst hm
    simp_all,hbw⟩
 case done=>
  rintro D xs W hD hS ⟨_,hc,hnm,hbw⟩ hK;have HS:=Lib.hid hS;have HN:=Lib.hid hnm;clear hS hnm;have hcell:=hc.cell;have hfz:=hc.frozen
  gi_wp2
  have h4:=HZ4.out;have h6:=HZ6.out;refine⟨by simp, .inl ⟨_,_,rfl,run_takeDeferred ((KeepsOthers.setCell _ _ _).same D _ hK rfl),?_⟩⟩;have hcb:=(Qy (hc.set (.bool false)) (show w.heap.size+1+1+1≠D by omega) (.deferred none)).cell;refine⟨.bool false,by simp[results,Tryz.f120,go_sem,hcb],by rw[decide_eq_false (by rw[←HS.out];exact HN.out)],Qz (hbw.setCell (p:=⟨w.heap.size+1+1+1,0,none⟩) (by show w.heap.size≤w.heap.size+1+1+1;omega) _) (by omega) _⟩
 case stop=>
  rintro D c pre W hD hSp ⟨rfl,hc,hnm,hbw⟩ hK;have HS:=Lib.hid hSp;have HN:=Lib.hid hnm;clear hSp hnm;have hcell:=hc.cell
  gi_wp2
  have h4:=HZ4.out;have h6:=HZ6.out;refine⟨by simp, .inl ⟨_,_,rfl,run_takeDeferred hK,?_⟩⟩;have hcb:=(Qy hc (show w.heap.size+1+1+1≠D by omega) (.deferred none)).cell;refine⟨.bool true,by simp[results,Tryz.f120,go_sem,hcb],by rw[decide_eq_true (HS.out.subset HN.out)],Qz hbw (by omega) _⟩
end Go.Proofs.YtbgnigjfkbmceaaGreatDoor
namespace Go.Proofs.YtbgnigjfkbmceaaGreatDoor
open Go.RowKit Go.Shelf
attribute [local go_sem] Oper.semAt_some
end Go.Proofs.YtbgnigjfkbmceaaGreatDoor
namespace Go.Proofs.YtbgnigjfkbmceaaGreatDoor
open Go.RowKit
def Ln(s:Spc)(a:AB):Nod:=Ac s.files (a.1,(Ac s.files a).parent)
def Kq(s:Spc)(a:AB):AE:=(((Ln s a).entries.find? fun e:BQ=>decide (e.2=a.2)).map (·.1)).getD ⟨#[]⟩
end Go.Proofs.YtbgnigjfkbmceaaGreatDoor
namespace Go.Proofs.YtbgnigjfkbmceaaGreatDoor
open Go.RowKit Go.Shelf
section
variable {F:Fence}{n:Nat}{P:Program}
end
def KP(d m:AE):AE:=if d.data.toList.getLast?=some 47 then d++m else d++⟨#[47]⟩++m
end Go.Proofs.YtbgnigjfkbmceaaGreatDoor
namespace Go.Proofs.YtbgnigjfkbmceaaGreatDoor
open Go.RowKit Go.Shelf
attribute [local go_sem] Oper.semAt_some
end Go.Proofs.YtbgnigjfkbmceaaGreatDoor
namespace Go.Proofs.YtbgnigjfkbmceaaGreatDoor
open Go.RowKit Go.Shelf
attribute [local go_sem] Oper.semAt_some
def O1(s:Spc)(pre:List AB):List AE:=(pre.filter fun x:AB=>decide (x.2≠1)).map (Kq s)
def O2(s:Spc)(pre:List AB):AE:=(O1 s pre).reverse.foldl KP ⟨#[47]⟩
def ES(s:Spc)(dir:AB):AE×Bool:=
 if Af s.files dir=true∧DL s dir.1=true∧(0,1)∈CC s (Cq s.files) dir then(O2 s ((CC s (Cq s.files) dir).takeWhile fun x=>decide (x≠(0,1))),true)else(⟨#[]⟩,false)
end Go.Proofs.YtbgnigjfkbmceaaGreatDoor
namespace Go.Proofs.YtbgnigjfkbmceaaGreatDoor
open Go.RowKit Go.Shelf
attribute [local go_sem] Oper.semAt_some
end Go.Proofs.YtbgnigjfkbmceaaGreatDoor
namespace Go.Proofs.YtbgnigjfkbmceaaGreatDoor
open Go.RowKit
theorem SpcV.b{s:Spc}(h:SpcV s)(hm:s.mounts.length≤1000):SpcB s:=⟨h.files.b,hm⟩
theorem i8{P:Program}{f:FuncId}{s:Spc}{xs:List AV}{us:List Value}{z:Value}{R:AV}(hx:∀(G:Gh) (w:World) (vs:List Value),AM G w xs vs→vs=us)(hR:∀(G:Gh) (w:World),rep G w R z)
    (h:∀(w:World) (ds ms:Value),SpcIn s w.heap.size w ds ms→Calls P f (.agg #[ds,ms]::us).toArray w fun e w'=>e= .returned z∧Below w.heap.size w w'):AFn P f (.agg (AY s)::xs) (fun r=>r=R):=by
 intro w St bl vs hr hv;simp only[AM]at hv;obtain⟨z0,zs,rfl,h1,h2⟩:=hv;obtain rfl:=hx _ _ _ h2;simp only[rep,AY,AM]at h1;obtain⟨ys,rfl,ds,_,rfl,h3,ms,_,rfl,h4,rfl⟩:=h1
 have hs:SpcIn s w.heap.size w ds ms:=by
  refine⟨B3 _,?_⟩;refine Mf (St:=St) (fun b o hb=>⟨hr.stlt b o hb,rfl⟩) _ _ ?_;simp only[AY,Bb];exact⟨_,_,rfl,h3,_,_,rfl,h4,rfl⟩
 refine(h w ds ms hs).mono ?_;rintro e w' ⟨rfl,hb⟩;obtain⟨k1,k2⟩:=hr.below hb;exact⟨_,_,_,_,⟨rfl,rfl,rfl⟩,k1,k2,hR _ _⟩
structure SpcN(s:Spc):Prop where
 b:SpcB s
 nm:∀x,(Kq s x).size≤100
 most:Cq s.files≤5000
theorem i9(s:Spc)(hs:SpcB s)(a b:AB):AFn prog 120 [.agg (AY s), .agg (AA a), .agg (AA b)] (fun r=>r= .v (.bool (decide (a∈CC s (Cq s.files) b)))):=
 i8 (us:=[He a,He b]) (z:= .bool (decide (a∈CC s (Cq s.files) b))) (fun G w vs h=>by
  simp only[AM,rep,AA]at h;obtain⟨_,_,rfl,⟨_,rfl,_,_,rfl,rfl,_,_,rfl,rfl,rfl⟩,_,_,rfl,⟨_,rfl,_,_,rfl,rfl,_,_,rfl,rfl,rfl⟩,rfl⟩:=h
  rfl) (fun G w=>by simp only[rep])
  fun w ds ms h=>callsIn_wide.1 (i7 4 (Lib.hid (by omega)) s hs a b ds ms w h)
theorem iA{f:AR}{a:AB}(h:Du f a=true):∃d∈f,Ac f a∈d.nodes:=by
 obtain⟨q,i,d,m,_,h2,h3,_,_,h6⟩:=RA h;exact⟨d,Aj h2,by rw[h6];exact Aj h3⟩
theorem iB{x:AE}(h:Hc x=true):x.size≤12:=by
 rw[MO]at h;by_cases hc:x.size<1∨12<x.size
 ·rw[if_pos hc]at h;cases h
 omega
theorem Tg{s:Spc}(h:FlsV s.files)(x:AB):(Kq s x).size≤12:=by
 unfold Kq
 cases hf:(Ln s x).entries.find? fun e:BQ=>decide (e.2=x.2)with
 |none=>exact BH _
 |some e=>
   have hm:=List.mem_of_find?_eq_some hf;unfold Ln at hm;by_cases hh:Du s.files (x.1,(Ac s.files x).parent)=true
   ·obtain⟨d,hd,hn⟩:=iA hh;exact iB ((h.vd d hd).ent _ hn e hm).1
   have:Ac s.files (x.1,(Ac s.files x).parent)=Nod.zero:=by
    unfold Du at hh
    cases hq:CE s.files (x.1,(Ac s.files x).parent)with
    |none=>show(CE s.files (x.1,(Ac s.files x).parent)).getD Nod.zero=Nod.zero;rw[hq];rfl
    |some m=>rw[hq]at hh;exact absurd rfl hh
   rw[this]at hm;cases hm
theorem XO{f:AR}(h:FlsV f):Cq f≤48:=by
 have:∀(l:AR),(∀d∈l,d.nodes.length≤16)→Cq l≤l.length * 16:=by
  intro l
  induction l with
  |nil=>intro _;simp[Cq]
  |cons d l ih=>
    intro h;have h1:=ih fun d hd=>h d (List.mem_cons_of_mem _ hd);have h2:=h d (List.mem_cons_self ..);simp only[Cq,List.map_cons,List.sum_cons,List.length_cons]at h1 ⊢;omega
 have h1:=this f fun d hd=>(h.vd d hd).len;have h2:=h.few;omega
theorem SpcV.n{s:Spc}(h:SpcV s)(hm:s.mounts.length≤1000):SpcN s:=⟨⟨h.files.b,hm⟩,fun x=>by have:=Tg h.files x;omega,by have:=XO h.files;omega⟩
def Lo(w:World):Nat→Nat→Prop:=fun b _=>b<w.heap.size
def Opens(P:Program)(t:TypeId)(R:List AV→Prop):Prop:=
 ∀(H:Type) (enc:TypeId×Value→H) (w:World) (base:Nat) (spare:Nat→Bool) (held:Bool) (fuel:Nat) (cs:List Value) (x:DataW H×List MemPlace),DataW.trod enc P w base spare held fuel t cs=some x→
  ∃row,R row∧Bb (Lo w) w row cs∧∀u∈cs,u.oneCell'=true
section
variable {P:Program}{t:TypeId}
theorem Opens.mono{R R':List AV→Prop}(h:Opens P t R)(hR:∀r,R r→R' r):Opens P t R':=by
 intro H enc w base spare held fuel cs x hx;obtain⟨row,h1,h2⟩:=h H enc w base spare held fuel cs x hx;exact⟨row,hR _ h1,h2⟩
theorem iC{k:IntKind}(ht:P.underlying t=some (.int k)):Opens P t fun r=>∃n,r=[.v (.int k n)]∧(Lit.int k n).wf=true:=by
 intro H enc w base spare held fuel cs x hx;obtain⟨b,rfl,_,hw⟩:=DataW.trod_int ht hx;exact⟨_,⟨b,rfl,hw⟩,⟨_,_,rfl,by simp only[Ak],by simp only[Bb]⟩,by simp[Value.oneCell']⟩
theorem iD{w:World}{b o:Nat}{v:Value}(h:w.cell? ⟨b,o,none⟩=some v):b<w.heap.size:=by
 rcases Nat.lt_or_ge b w.heap.size with hlt|hge
 ·exact hlt
 simp[World.cell?,Array.getElem?_eq_none hge]at h
theorem iE{St:Nat→Nat→Prop}{w:World}{xs:List AV}{ys:List Value}(h:Bb St w xs ys):ys.length=xs.length:=K9 (G:=⟨St,[],[]⟩) (M2 (G:=⟨St,[],[]⟩) _ _ h)
theorem iF{e:TypeId}{n:Nat}{R:List AV→Prop}(ht:P.underlying t=some (.slice e))(hc:P.cellsOf e=n)(hn:0<n)(h:Opens P e R):Opens P t fun r=>∃rows,r=[.sl n rows none]∧rows.length≤maxLen∧∀x∈rows,R x:=by
 intro H enc w base spare held fuel cs x hx;rcases DataW.trod_slice ht hx with⟨rfl,_⟩|⟨⟨b,off,spot⟩,len,cap,elems,rest,m,rfl,rfl,_,hb,hl,hm,hlen,hel,_,_⟩
 ·exact⟨_,⟨[],rfl,BH _,by simp⟩,⟨_,_,rfl,by simp only[Ak];exact⟨trivial,none,0,rfl,B3 _,BH _, .inl trivial⟩,by simp only[Bb]⟩,by simp[Value.oneCell']⟩
 have each:∀i,i<len→∃row cs',R row∧row.length=n∧Bb (Lo w) w row cs'∧(∀u∈cs',u.oneCell'=true)∧cs'.length=n∧∀j,j<n→w.cell? (Addr.add ⟨b,off,spot⟩ (i * n+j))=cs'[j]?:=by
  intro i hi;have h1:=hel i hi;rw[hc,B2 (by omega),Option.bind_eq_some_iff]at h1;obtain⟨cs',h2,h3⟩:=h1;obtain⟨row,r1,r2,r3⟩:=h _ _ _ _ _ _ _ _ _ h3;obtain⟨_,c1,c2⟩:=World.cells?_some h2;refine⟨row,cs',r1,by rw[←iE r2,c1],r2,r3,c1,fun j hj=>?_⟩;have:=c2 j hj
  rwa [Addr.add_add]at this
 have hrows:∃rows:List (List AV),rows.length=len∧(∀i,i<len→∃row cs',rows[i]?=some row∧R row∧row.length=n∧Bb (Lo w) w row cs'∧(∀u∈cs',u.oneCell'=true)∧cs'.length=n∧∀j,j<n→w.cell? (Addr.add ⟨b,off,spot⟩ (i * n+j))=cs'[j]?):=by
  clear hel
  have:∀k,k≤len→∃rows:List (List AV),rows.length=k∧(∀i,i<k→∃row cs',rows[i]?=some row∧R row∧row.length=n∧Bb (Lo w) w row cs'∧(∀u∈cs',u.oneCell'=true)∧cs'.length=n∧∀j,j<n→w.cell? (Addr.add ⟨b,off,spot⟩ (i * n+j))=cs'[j]?):=by
   intro k
   induction k with
   |zero=>intro _;exact⟨[],rfl,fun i hi=>by omega⟩
   |succ k ih=>
     intro hk;obtain⟨rows,e1,e2⟩:=ih (by omega);obtain⟨row,cs',q⟩:=each k (by omega);refine⟨rows++[row],by simp[e1],fun i hi=>?_⟩;rcases Nat.lt_or_ge i k with hlt|hge
     ·obtain⟨row',cs'',q1,q2⟩:=e2 i hlt;exact⟨row',cs'',by rw[DF (by omega)];exact q1,q2⟩
     obtain rfl:i=k:=by omega
     exact⟨row,cs',by rw[Ep (by omega),e1];simp,q⟩
  exact this len (B3 _)
 obtain⟨rows,e1,e2⟩:=hrows;refine⟨_,⟨rows,rfl,by omega,fun x hx=>?_⟩,⟨_,_,rfl,?_,by simp only[Bb]⟩,by simp[Value.oneCell']⟩
 ·obtain⟨i,hi⟩:=List.getElem?_of_mem hx;obtain⟨row,_,q1,q2,_⟩:=e2 i (by rw[←e1];exact(Ab.1 hi).1);rw[hi]at q1;injection q1 with q1;subst q1;exact q2
 simp only[Ak];refine⟨trivial,some ⟨b,off,spot⟩,cap,by rw[e1],by omega,hm,?_⟩;rcases Nat.eq_zero_or_pos len with h0|h0
 ·left;exact FN (by omega)
 right
 have hspot:spot=none:=by
  obtain⟨_,cs',_,_,_,_,_,c3,c4⟩:=e2 0 h0;have:=c4 0 hn;rw[B2 (by omega)]at this
  simpa[Addr.add]using World.cell?_spot this
 subst hspot;refine⟨b,off,rfl,?_⟩
 have:∀(rs:List (List AV)) (k:Nat),(∀i r,rs[i]?=some r→rows[k+i]?=some r)→froR (Lo w) w b n rs (off+k * n):=by
  intro rs
  induction rs with
  |nil=>intro k _;simp only[froR]
  |cons r rs ih=>
    intro k hk;simp only[froR];have h1:=hk 0 r rfl;rw[Nat.add_zero]at h1;obtain⟨row,cs',q1,_,q3,q4,q5,q6,q7⟩:=e2 k (by rw[←e1];exact(Ab.1 h1).1);rw[h1]at q1;injection q1 with q1;subst q1;refine⟨⟨q3,OO fun i x hi=>?_⟩,?_⟩
    ·obtain⟨u,u1,u2⟩:=QE q4 hi;have hin:i<n:=by rw[←q3];exact(Ab.1 hi).1
     have hc:=q7 i hin;rw[u1]at hc;have hc':w.cell? ⟨b,off+k * n+i,none⟩=some u:=by rw[Addr.add_mid]at hc;rwa [Nat.add_assoc]
     exact⟨iD hc',u,hc',q5 u (Aj u1),u2⟩
    have:=ih (k+1) (fun i r' hi=>by
     have:=hk (i+1) r' (by simpa using hi)
     rwa [show k+1+i=k+(i+1) by omega])
    rwa [show off+(k+1) * n=off+k * n+n by rw[Nat.add_mul];omega]at this
 simpa using this rows 0 (fun i r hi=>by simpa using hi)
theorem XP{α:Type}{enc:α→List AV}{Q:α→Prop}:∀{rows:List (List AV)},(∀x∈rows,∃a,x=enc a∧Q a)→∃l:List α,rows=l.map enc∧∀a∈l,Q a
 |[],_=>⟨[],rfl,by simp⟩
 |r::rs,h=>by
   obtain⟨a,rfl,ha⟩:=h r (by simp);obtain⟨l,rfl,hl⟩:=XP (rows:=rs) fun x hx=>h x (by simp[hx]);exact⟨a::l,rfl,by simpa using⟨ha,hl⟩⟩
theorem Opens.one{R:List AV→Prop}(h:Opens P t R){H:Type}{enc:TypeId×Value→H}{w:World}{base:Nat}{spare:Nat→Bool}{held:Bool}{v:Value}{d:DataW H}{ps:List MemPlace}(hv:v.cells=#[v])(hd:DataW.Trod enc P w base spare held t v d ps):
    ∃row,R row∧Bb (Lo w) w row [v]:=by
 obtain⟨fuel,hf⟩:=hd;rw[hv]at hf;obtain⟨row,h1,h2,_⟩:=h _ _ _ _ _ _ _ _ _ hf;exact⟨row,h1,h2⟩
end
theorem iG:Opens prog 22 (fun r=>∃l:List Int,r=[.sl 1 (l.map C7) none]):=
 (iF (n:=1) Tryz.underlying22 (by kernel_rfl) (by omega) (iC Tryz.underlying3)).mono (by
   rintro r ⟨rows,rfl,_,hr⟩;obtain⟨l,rfl,_⟩:=XP (enc:=C7) (Q:=fun _=>True) (fun x hx=>by obtain⟨t,rfl,_⟩:=hr x hx;exact⟨t,rfl,trivial⟩)
   exact⟨l,rfl⟩)
theorem iH{H:Type}{enc:TypeId×Value→H}{sp:Nat→Bool}{held:Bool}{base:Nat}{w:World}{a:Option Addr}{n c:Nat}{d:DataW H}{p:List MemPlace}(h:DataW.Trod enc prog w base sp held 22 (.slice a n c) d p):
    ∃l:List Int,rep ⟨Lo w,[],[]⟩ w (.sl 1 (l.map C7) none) (.slice a n c):=by
 obtain⟨r0,⟨l,rfl⟩,k0⟩:=iG.one rfl h;simp only[Bb]at k0;obtain⟨_,_,e0,k0,rfl⟩:=k0;injection e0 with e0;subst e0;exact⟨l,Ka (G:=⟨Lo w,[],[]⟩) _ _ k0⟩
theorem iJ{f:FuncId}(hf:∀l:List Int,AFn prog f [.sl 1 (l.map C7) none] (fun x=>x= .v (.bool true))){H:Type}{enc:TypeId×Value→H}{sp:Nat→Bool}{held:Bool}{base:Nat}(a:Option Addr)(n c:Nat)(w:World){d:DataW H}{p:List MemPlace}
    (h:DataW.Trod enc prog w base sp held 22 (.slice a n c) d p):Calls prog f #[.slice a n c] w fun e w'=>e= .returned (.bool true)∧Below w.heap.size w w':=by
 obtain⟨l,k⟩:=iH h;refine aP (vs:=[.slice a n c]) (hf l) (Lo w) (fun b o h=>h) ?_;simp only[AM];exact⟨_,_,rfl,k,rfl⟩
theorem Th{s:Spc}{dev:Int}(h:DL s dev=true)(h0:dev≠0):∃m∈s.mounts,m.1=dev:=by
 unfold DL C8 at h;simp only[Bool.or_eq_true,decide_eq_true_eq,h0,or_false]at h
 cases hf:s.mounts.find? fun m:E0=>decide (m.1=dev)with
 |none=>rw[hf]at h;cases h
 |some m=>exact⟨m,List.mem_of_find?_eq_some hf,by have:=List.find?_some hf;simpa using this⟩
theorem Ti{s:Spc}{m:E0}(h:m∈s.mounts):DL s m.1=true:=by
 unfold DL C8;rw[Bool.or_eq_true];refine .inl ?_;rw[Option.isSome_map]
 cases hf:s.mounts.find? fun m':E0=>decide (m'.1=m.1)with
 |none=>have:=List.find?_eq_none.1 hf m h;simp at this
 |some m=>rfl
theorem XQ{f:AR}{ms ms':List E0}{dev:Int}(h:DL ⟨f,ms⟩ dev=true)(hs:∀m∈ms,m∈ms'):DL ⟨f,ms'⟩ dev=true:=by
 by_cases h0:dev=0
 ·unfold DL;simp[h0]
 obtain⟨m,hm,rfl⟩:=Th h h0;exact Ti (s:=⟨f,ms'⟩) (hs m hm)
section
theorem XR(s:Spc):∀(k:Nat) (a:AB),(CC s k a).length≤k
 |0,_=>by simp[CC]
 |k+1,a=>by
   unfold CC;split
   ·cases h:GN s a with
    |none=>simp
    |some b=>have:=XR s k b;simp;omega
   simp
end
end Go.Proofs.YtbgnigjfkbmceaaGreatDoor
namespace Go.Proofs.YtbgnigjfkbmceaaGreatDoor
section
variable {s:Spc}(hv:SpcV s)
include hv
theorem iK{q:Nat}{d:Dvc}{p:Nod}{x:Int}(hq:s.files[q]?=some d)(hp:p∈d.nodes)(hx:p.ino=x):CE s.files ((q:Int),x)=some p:=
 Te (a:=((q:Int),x)) rfl hq (hv.files.vd d (Aj hq)).asc hp hx
theorem XS{a b:AB}(h:Af s.files a=true)(hs:G6 s a=some b):Af s.files b=true:=by
 obtain⟨q,d,m,h1,h2,h3,h4,h5,h6⟩:=PH (f:=s.files) (a:=a) (by rw[h];simp);have hd:=hv.files.vd d (Aj h2);unfold G6 at hs;by_cases h0:a.2≠1
 ·rw[if_pos h0]at hs;injection hs with hs;subst hs;rw[h5,h1];obtain⟨p,hp,hpi,e,he,_⟩:=hd.par m h3 (by rw[h4];exact h0) h6
  have hk:p.kind=2:=by
   by_cases hk:p.kind=2
   ·exact hk
   have:=(hd.leaf p hp hk).2;rw[this]at he;cases he
  exact(RC (iK hv h2 hp hpi)).2 hk
 rw[if_neg h0]at hs;obtain⟨m',hm',_,e⟩:=RE hs;obtain⟨i,hi⟩:=List.getElem?_of_mem hm';rw[←e];exact(hv.mnt i m' hi).dir
theorem XT{a b:AB}(h:DL s a.1=true)(hs:G6 s a=some b):DL s b.1=true:=by
 unfold G6 at hs;by_cases h0:a.2≠1
 ·rw[if_pos h0]at hs;injection hs with hs;subst hs;exact h
 rw[if_neg h0]at hs;obtain⟨m',hm',_,e⟩:=RE hs;obtain⟨i,hi⟩:=List.getElem?_of_mem hm';rw[←e];exact XQ (f:=s.files) (hv.mnt i m' hi).there (fun x hx=>List.mem_of_mem_take hx)
theorem iL:C8 s 0=none:=by
 cases h:C8 s 0 with
 |none=>rfl
 |some on=>
   obtain⟨m',hm',e,_⟩:=RE h;obtain⟨i,hi⟩:=List.getElem?_of_mem hm';have:=(hv.mnt i m' hi).dev1;omega
theorem iM{a:AB}(h:DL s a.1=true)(h0:a≠(0,1)):∃b,G6 s a=some b:=by
 have _:=hv;unfold G6;by_cases h1:a.2≠1
 ·exact⟨_,if_pos h1⟩
 rw[if_neg h1];have h2:a.1≠0:=fun e=>h0 (Prod.ext e (by simpa using h1));unfold DL at h;rw[decide_eq_false h2,Bool.or_false]at h
 cases ho:C8 s a.1 with
 |none=>rw[ho]at h;cases h
 |some b=>exact⟨b,rfl⟩
theorem RG{a:AB}(h:Af s.files a=true):CC s (Cq s.files) a=a::(match G6 s a with
    |none=>[]
    |some b=>CC s (Cq s.files) b):=by
 have hd:¬Af s.files a=false:=by rw[h];simp
 have he:=RF hv a
 cases hm:Cq s.files with
 |zero=>rw[hm]at he;exact absurd he hd
 |succ m=>
   rw[hm]at he;rw[MY hd,PJ hv hd]
   cases hs:G6 s a with
   |none=>rfl
   |some b=>
     simp only;have h1:=he.resolve_left hd b hs;have h2:=RF hv b;rw[hm]at h2;rw[XK hv m (m+1) b h1 h2]
theorem iN{a:AB}(h:Af s.files a=true)(hm:DL s a.1=true):(0,1)∈CC s (Cq s.files) a:=by
 have key:∀(k:Nat) (a:AB),ends s k a→Af s.files a=true→DL s a.1=true→(0,1)∈CC s (Cq s.files) a:=by
  intro k
  induction k with
  |zero=>intro a he h _;rw[show Af s.files a=false from he]at h;cases h
  |succ k ih=>
    intro a he h hm;by_cases h0:a=(0,1)
    ·rw[RG hv h,h0];exact List.mem_cons_self ..
    obtain⟨b,hb⟩:=iM hv hm h0;rw[RG hv h,hb];exact List.mem_cons_of_mem _ (ih b (he.resolve_left (by rw[h];simp) b hb) (XS hv h hb) (XT hv hm hb))
 exact key _ a (RF hv a) h hm
theorem PK{a:AB}(h:¬(Af s.files a=true∧DL s a.1=true)):ES s a=(⟨#[]⟩,false):=by
 have _:=hv;unfold ES;rw[if_neg fun c=>h ⟨c.1,c.2.1⟩]
theorem Tj{a:AB}(h:Af s.files a=true)(hm:DL s a.1=true):ES s a=(O2 s ((CC s (Cq s.files) a).takeWhile fun x=>decide (x≠(0,1))),true):=by
 unfold ES;rw[if_pos ⟨h,hm,iN hv h hm⟩]
theorem iO(h:Af s.files (0,1)=true):ES s (0,1)=(⟨#[47]⟩,true):=by
 rw[Tj hv h (by unfold DL;simp),RG hv h,List.takeWhile_cons];simp[O2,O1]
theorem XU{a b:AB}(h:Af s.files a=true)(hm:DL s a.1=true)(h0:a≠(0,1))(hb:G6 s a=some b):ES s a=(if a.2=1 then(ES s b).1 else KP (ES s b).1 (Kq s a),true)∧(ES s b).2=true:=by
 rw[Tj hv h hm,Tj hv (XS hv h hb) (XT hv hm hb),RG hv h,hb,List.takeWhile_cons];simp only[h0,ne_eq,not_false_eq_true,decide_true,if_true];refine⟨?_,trivial⟩;unfold O2 O1;rw[List.filter_cons];by_cases h1:a.2=1
 ·simp[h1]
 simp[h1]
def GR(s:Spc):Nat→AB→AB
 |0,a=>a
 |k+1,a=>if Af s.files a=true then(if a.2≠1 then(a.1,(Ac s.files a).parent)else match C8 s a.1 with
   |some on=>GR s k on
   |none=>a)else(0,0)
omit hv in
theorem iP(dev:Int):MX s dev≤s.mounts.length:=by
 unfold MX
 cases h:s.mounts.findIdx? fun m:E0=>decide (m.1=dev)with
 |none=>simp
 |some i=>
   have:=(List.findIdx?_eq_some_iff_getElem.1 h).1;simp only;omega
theorem iQ{i j:Nat}{m m':E0}(hi:s.mounts[i]?=some m)(hj:s.mounts[j]?=some m')(h:m.1=m'.1):i=j:=by
 have key:∀{i j:Nat} {m m':E0},s.mounts[i]?=some m→s.mounts[j]?=some m'→m.1=m'.1→¬i<j:=by
  intro i j m m' hi hj h hlt;have hf:=(hv.mnt j m' hj).fresh
  have hm:m∈s.mounts.take j:=by
   refine Aj (i:=i) ?_;rw[List.getElem?_take,if_pos hlt];exact hi
  have:=Ti (s:=⟨s.files,s.mounts.take j⟩) hm;rw[h,hf]at this;cases this
 have h1:=key hi hj h;have h2:=key hj hi h.symm;omega
omit hv in
theorem Tk{a:AB}{d:Int}(h:Di s a=some d):∃i:Nat,s.mounts[i]?=some ((d,a):E0):=by
 unfold Di at h
 cases hf:s.mounts.find? fun m:E0=>decide (m.2=a)with
 |none=>rw[hf]at h;cases h
 |some m=>
   rw[hf]at h;injection h with h;have h2:=List.find?_some hf;simp only[decide_eq_true_eq]at h2;obtain⟨i,hi⟩:=List.getElem?_of_mem (List.mem_of_find?_eq_some hf);exact⟨i,by rw[hi,←h,←h2]⟩
omit hv in
theorem iR{a:AB}(h:∀(i:Nat) (m:E0),s.mounts[i]?=some m→m.2≠a):Di s a=none:=by
 cases hc:Di s a with
 |none=>rfl
 |some d=>obtain⟨i,hi⟩:=Tk hc;exact absurd rfl (h i _ hi)
theorem iS:∀(n:Nat) (a:AB),(∀(i:Nat) (m:E0),s.mounts[i]?=some m→m.2=a→s.mounts.length≤i+n)→Di s (FG s n a)=none:=by
 intro n
 induction n with
 |zero=>
   intro a h;refine iR fun i m hi e=>?_;have h1:=h i m hi e;have h2:=(Ab.1 hi).1;omega
 |succ n ih=>
   intro a h
   cases hc:Di s a with
   |none=>rw[Vq (by rw[hc];rfl)];exact hc
   |some d=>
     obtain⟨i,hi⟩:=Tk hc;rw[FG];refine ih _ fun j m hj e=>?_;have he:Lh s a=(d,1):=by unfold Lh;rw[hc]
     rw[he]at e;have h1:=h i _ hi rfl;have hth:=(hv.mnt j m hj).there;have hd1:=(hv.mnt i _ hi).dev1;rw[e]at hth;obtain⟨m'',hm'',e2⟩:=Th hth (by simp only at hd1 ⊢;omega);obtain⟨k,hk⟩:=List.getElem?_of_mem hm''
     have hkj:k<j:=by
      have:=(Ab.1 hk).1;simp at this;omega
     rw[List.getElem?_take,if_pos hkj]at hk;have:=iQ hv hk hi e2;omega
omit hv in
theorem XV:∀(n:Nat) (a:AB),FG s (n+1) a=Lh s (FG s n a)
 |0,_=>rfl
 |n+1,a=>XV n (Lh s a)
theorem iT(a:AB):FG s (s.mounts.length+1) a=FG s s.mounts.length a:=by
 rw[XV];refine Sg ?_;rw[iS hv _ a (fun i m _ _=>by omega)];rfl
end
end Go.Proofs.YtbgnigjfkbmceaaGreatDoor
namespace Go.Proofs.YtbgnigjfkbmceaaGreatDoor
open Go.RowKit
theorem iU(d m:AE):(KP d m).size≤d.size+1+m.size:=by
 unfold KP;split
 ·rw[ByteArray.size_append];omega
 rw[ByteArray.size_append,ByteArray.size_append];show d.size+1+m.size≤_;omega
theorem iV{s:Spc}(hv:SpcV s)(pre:List AB):(O2 s pre).size≤1+13 * pre.length:=by
 have key:∀(l:List AE) (d:AE),(∀x∈l,x.size≤12)→(l.foldl KP d).size≤d.size+13 * l.length:=by
  intro l
  induction l with
  |nil=>intro d _;simp
  |cons x l ih=>
    intro d h;have h1:=ih (KP d x) fun y hy=>h y (List.mem_cons_of_mem _ hy);have h2:=h x (List.mem_cons_self ..);have h3:=iU d x;rw[List.foldl_cons,List.length_cons];omega
 have h:=key (O1 s pre).reverse ⟨#[47]⟩ (fun x hx=>by
  rw[List.mem_reverse]at hx;obtain⟨y,_,rfl⟩:=List.mem_map.1 hx
  exact Tg hv.files y)
 have h2:(O1 s pre).length≤pre.length:=by unfold O1;rw[List.length_map];exact List.length_filter_le _ _
 rw[List.length_reverse]at h;have:(⟨#[47]⟩:AE).size=1:=rfl;unfold O2;omega
theorem XW{s:Spc}(hv:SpcV s)(a:AB):(ES s a).1.size≤1000:=by
 unfold ES;split
 ·have h3:=XR s (Cq s.files) a;have h4:=XO hv.files;refine Nat.le_trans (iV hv _) ?_;refine Nat.le_trans (Nat.add_le_add_left (Nat.mul_le_mul_left 13 ((List.takeWhile_sublist _).length_le)) 1) ?_;omega
 exact BH _
theorem XX(d:AE)(h:0<d.size):d.data.toList.getLast?=some 47↔(((d[d.size - 1]'(by omega)).toNat:Int)=47):=by
 have hl:d.data.toList.length=d.size:=by simp
 rw[List.getLast?_eq_getElem?,hl,B2 (by omega)];show some (d[d.size - 1]'(by omega))=some 47↔_;rw[Option.some.injEq];constructor
 ·intro e;rw[e];rfl
 intro e;refine UInt8.toNat_inj.1 ?_;show _=47;omega
theorem iW{d m:AE}(h:¬0<d.size):KP d m=d++⟨#[47]⟩++m:=by
 refine if_neg fun e=>?_;have hl:d.data.toList.length=d.size:=by simp
 rw[List.getLast?_eq_getElem?,List.getElem?_eq_none (by omega)]at e;cases e
section
theorem XY(d m:AE)(hd:d.size≤1000000)(hm:m.size≤1000000):AFn prog 196 [.v (.string d), .v (.string m)] (fun r=>r= .v (.string (KP d m))):=by
 refine enter Tryz.func196 rfl rfl rfl rfl rfl 0 rfl ?_;refine w_ (Bn (h:=Gu (h:=m_ (h:=?_))));refine AJ true rfl rfl (fun hb1 hc1=>?_) (fun hb1 hc1=>?_)
 ·refine m_ (h:=m_ (h:=n_ (h:=Kf (h:=?_))));refine Aq (Lg (n:=d.size - 1) Tryz.underlying9 rfl rfl (by omega) (by omega) ?_);refine EG (h:=DY (h:=?_));refine A4 rfl (fun hb2 hc2=>?_) (fun hb2 hc2=>?_)
  ·refine E9 (h:=?_);refine A3 rfl (Gd rfl rfl (by omega) ?_);refine E8 (h:=?_);refine A6 ?_;rw[show KP d m=d++m from if_pos ((XX d (by omega)).2 hc2)];rfl
  refine AF (AX (h:=?_));refine A3 rfl (Gd rfl rfl (by show d.size+1≤_;omega) ?_);refine m_ (h:=?_);refine A3 rfl (Gd rfl rfl (by rw[ByteArray.size_append];show d.size+1+m.size≤_;omega) ?_);refine B8 (h:=?_);refine A6 ?_;rw[show KP d m=d++⟨#[47]⟩++m from if_neg (fun h=>hc2 ((XX d (by omega)).1 h))];rfl
 refine BT (h:=B7 (h:=FQ (h:=AF (AX (h:=?_)))));refine A3 rfl (Gd rfl rfl (by show d.size+1≤_;omega) ?_);refine m_ (h:=?_);refine A3 rfl (Gd rfl rfl (by rw[ByteArray.size_append];show d.size+1+m.size≤_;omega) ?_);refine B8 (h:=?_);refine A6 ?_;rw[iW (by omega)];rfl
theorem iX(s:Spc)(a:AB)(hs:SpcB s):AFn prog 248 [.agg (Al s.files), .agg (AA a)] (fun r=>r= .v (.string (Kq s a))):=by
 have hen:=SZ hs.files (a.1,(Ac s.files a).parent);change (Ln s a).entries.length≤1000 at hen;refine enter Tryz.func248 rfl rfl rfl rfl rfl 0 rfl ?_;refine Gl (h:=CN (h:=?_));refine A3 rfl (A8 (FF s.files a hs.files) ?_);rintro r rfl
 skip
 refine FC (h:=B4 (h:=C5 (h:=JM (h:=Bi (h:=?_)))));refine A3 rfl (A8 (FF s.files (a.1,(Ac s.files a).parent) hs.files) ?_);rintro r rfl
 skip
 refine FC (h:=B4 (h:=Ca (h:=?_)));refine BU (fun m t=>∃j:Nat,j≤(Ln s a).entries.length∧m=(Ln s a).entries.length - j∧(∀i y,i<j→(Ln s a).entries[i]?=some y→decide (y.2=a.2)=false)∧t=⟨look [(3, .bp 1 0),(7, .bp 3 0),(9, .v (.int .i64 (j:Int)))],⟨[Al s.files,AA a,AZ (Ac s.files a),AZ (Ln s a)],[]⟩⟩) ((Ln s a).entries.length) ((wk 4 0)) (⟨0,by omega,rfl,fun i y hi=>by omega,rfl⟩) ?_;rintro m t ⟨j,hj,rfl,ha,rfl⟩;refine Gs (h:=?_);refine A4 rfl (fun hb1 hc1=>?_) (fun hb1 hc1=>?_)
 ·obtain⟨hlt,x,hy,hrow, -⟩:=C1 Dt hc1;refine AF (q_ (BK (q_ (Dd 9 (h:=AD 0 (h:=A9 1 (h:=AG 2 (h:=De 3 (h:=AD 4 (h:=A9 5 (h:=AD 6 (h:=A9 7 (h:=Jm 8 (h:=z_ (h:=t_ (?_))))))))))))))));refine A4 rfl (fun hb2 hc2=>?_) (fun hb2 hc2=>?_)
  ·refine Gt (h:=Aa (h:=BA (h:=CT (h:=?_))));refine A6 ?_;rw[show Kq s a=x.1 by simp only[Kq];rw[Mw hy (by simpa using hc2) ha];rfl];rfl
  refine DH (h:=?_);refine⟨_,_,?_,⟨j+1,by omega,rfl,GL hy ha (by simpa using hc2),rfl⟩,(wk 4 0)⟩;omega
 have e3:=CF Dt hj hc1;subst e3;refine HQ (h:=?_);refine A6 ?_;rw[show Kq s a=⟨#[]⟩ by simp only[Kq];rw[Mx ha];rfl];rfl
end
end Go.Proofs.YtbgnigjfkbmceaaGreatDoor
