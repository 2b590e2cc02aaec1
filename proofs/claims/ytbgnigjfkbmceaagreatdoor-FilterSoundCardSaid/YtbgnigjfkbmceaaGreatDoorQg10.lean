/-
  Part 10 of the proof of FilterSoundP: what the statement's proof uses of the texts in wip/tpl.
-/
import Derived.Test.YtbgnigjfkbmceaaGreatDoorShelf
import Derived.Maps.AppendAt
import Derived.OwnWalk
import Derived.StillTailTactics
import Derived.Test.YtbgnigjfkbmceaaGreatDoorQg9
open Go.Proofs.Tryz (prog)
set_option maxRecDepth 10000
set_option maxHeartbeats 4000000
set_option linter.unusedVariables false
set_option linter.unusedSimpArgs false
namespace Go.Proofs.YtbgnigjfkbmceaaGreatDoor
theorem FlsV.set_{f:AM}(h:FlsV f){q:Nat}{d':Dvc}(hd:VD d'):FlsV (f.set q d'):=by
 refine⟨by simpa using h.few,fun d hm=>?_⟩;rcases List.mem_or_eq_of_mem_set hm with h1|h1
 ·exact h.vd d h1
 rw[h1];exact hd
theorem OZ{f:AM}{a:A7}(h:Cm f a=true):∃(q i:Nat) (d:Dvc) (m:Nod),a.1=(q:Int)∧f[q]?=some d∧d.nodes[i]?=some m∧m.ino=a.2∧Ba f a=some m∧Ai f a=m:=by
 rcases JK f a with⟨_,h2⟩|⟨q,i,d,n,h1,h2,h3,h4,h5,h6⟩
 ·simp[Cm,h2]at h
 exact⟨q,i,d,n,h1,h2,h3,h4,h6,by simp[Ai,h6]⟩
theorem Qx{f:AM}{a:A7}{q:Nat}{d:Dvc}{m:Nod}(ha:a.1=(q:Int))(hq:f[q]?=some d)(hd:Dm d.nodes)(hm:m∈d.nodes)(hi:m.ino=a.2):Ba f a=some m:=by
 unfold Ba;rw[ha,KV,hq];simp only
 cases h:d.nodes.find? (fun n=>n.ino==a.2)with
 |none=>
   have:=List.find?_eq_none.1 h m hm;simp[hi]at this
 |some n=>
   have h1:=List.mem_of_find?_eq_some h;have h2:=List.find?_some h;simp only[beq_iff_eq]at h2;rw[DA hd h1 hm (by omega)]
theorem Oa{f:AM}{dir:A7}{name:AB}{n0:Nod}(hn:Ba f dir=some n0)(hk:n0.kind=2)(h:(AG f dir name).2≠0):D9 n0.entries name=none∧(AG f dir name).1=(0,0):=by
 unfold AG at h ⊢;rw[hn]at h ⊢;simp only[hk,if_true]at h ⊢;unfold D9;split at h
 ·rename_i he;exact⟨he,rfl⟩
 exact absurd rfl h
theorem Qy{f:AM}{dir:A7}{n0:Nod}(hn:Ba f dir=some n0)(h:¬JM f dir=true):n0.entries.length<12:=by
 unfold JM at h;rw[hn]at h;simp at h;omega
theorem Mk(f:AM)(q:Nat)(g:List Nod→List Nod):(J5 f q g).length=f.length:=by simp[J5]
def La(f:AM)(R:KW):Prop:=R.2.2=0→FlsV R.1∧R.1.length=f.length
theorem E0{f:AM}{e:Int}(h:e≠0):La f ([],[],e):=fun h0=>absurd h0 h
theorem Lb{f:AM}(hv:FlsV f)(dir:A7)(name:AB)(a:A7):La f (FY f dir name a):=by
 unfold FY;split
 ·rename_i h;exact E0 h
 rename_i hp;split
 ·exact E0 (by decide)
 rename_i hh;split
 ·exact E0 (by decide)
 rename_i hdev;split
 ·exact E0 (by decide)
 rename_i hk;split
 ·exact E0 (by decide)
 rename_i hl;split
 ·exact E0 (by decide)
 rename_i hfl;intro _;obtain⟨q,i,d,n0,hdq,hq,hn0,hino,hidx,hnode,hk0,hnm⟩:=Gy (name:=name) (dir:=dir) (f:=f) (by omega);obtain⟨q',i',d',m,haq,hq',hm,hmi,hnm2,hng⟩:=OZ (f:=f) (a:=a) (by simpa using hh);obtain rfl:q=q':=by omega
 obtain rfl:d=d':=Option.some.inj (hq.symm.trans hq');have hvd:=hv.vd d (AT hq);have key:=hvd.linked (AT hn0) hk0 (AT hm) (by rw[←hng];exact hk) hnm (Oa hnode hk0 hl).1 (Qy hnode hfl);rw[hino,hmi]at key;refine⟨?_,by dsimp only;exact Mk _ _ _⟩;dsimp only;rw[hdq,Int.toNat_natCast,Gx hq];exact hv.set_ key
theorem Kl{f:AM}{a:A7}{m:Nod}(h:Ba f a=some m):AZ f a=true↔m.kind=2:=by
 unfold AZ;rw[h];simp
theorem US{f:AM}{a:A7}{m:Nod}(h:Ba f a=some m):Jn f a=true↔m.entries=[]:=by
 unfold Jn;rw[h];simp
theorem Ob{f:AM}(hv:FlsV f){dir:A7}{name:AB}{q i:Nat}{d:Dvc}{n0:Nod}(hdq:dir.1=(q:Int))(hq:f[q]?=some d)(hn0:d.nodes[i]?=some n0)(hnode:Ba f dir=some n0)(hk0:n0.kind=2)(hl:(AG f dir name).2=0):
    ∃e m,D9 n0.entries name=some e∧AG f dir name=((dir.1,e.2),0)∧m∈d.nodes∧e.2=m.ino∧e.2≠1∧Ba f (AG f dir name).1=some m:=by
 obtain⟨e,he,hle⟩:=Mi hnode hk0 hl;have hvd:=hv.vd d (AT hq);obtain⟨_,h1,m,hm,h2⟩:=hvd.ent n0 (AT hn0) e (HU he).1;refine⟨e,m,he,hle,hm,h2.symm,h1,?_⟩;rw[hle];exact Qx hdq hq hvd.asc hm h2
theorem Lc{f:AM}(hv:FlsV f)(dir:A7)(name:AB):La f (Hb f dir name):=by
 unfold Hb;split
 ·rename_i h;exact E0 h
 rename_i hp;split
 ·rename_i h;exact E0 h
 rename_i hl;split
 ·exact E0 (by decide)
 rename_i hk;intro _;obtain⟨q,i,d,n0,hdq,hq,hn0,hino,hidx,hnode,hk0,hnm⟩:=Gy (name:=name) (dir:=dir) (f:=f) (by omega);obtain⟨e,m,he,hle,hm,h1,h2,h3⟩:=Ob hv hdq hq hn0 hnode hk0 (name:=name) (by omega);have hvd:=hv.vd d (AT hq);have key:=hvd.removed (AT hn0) hm (hvd.leaf m hm fun h=>hk ((Kl h3).2 h)).2 he h1;refine⟨?_,by dsimp only;exact Mk _ _ _⟩;dsimp only;rw[hdq,Int.toNat_natCast,Gx hq,show(AG f dir name).1.2=m.ino by rw[hle];exact h1,←hino];exact hv.set_ key
theorem Ld{f:AM}(hv:FlsV f)(dir:A7)(name:AB):La f (GW f dir name):=by
 unfold GW;split
 ·rename_i h;exact E0 h
 rename_i hp;split
 ·rename_i h;exact E0 h
 rename_i hl;split
 ·exact E0 (by decide)
 rename_i hk;split
 ·exact E0 (by decide)
 rename_i hem;intro _;obtain⟨q,i,d,n0,hdq,hq,hn0,hino,hidx,hnode,hk0,hnm⟩:=Gy (name:=name) (dir:=dir) (f:=f) (by omega);obtain⟨e,m,he,hle,hm,h1,h2,h3⟩:=Ob hv hdq hq hn0 hnode hk0 (name:=name) (by omega);have hvd:=hv.vd d (AT hq);have key:=hvd.removed (AT hn0) hm ((US h3).1 (by simpa using hem)) he h1;refine⟨?_,by dsimp only;exact Mk _ _ _⟩;dsimp only;rw[hdq,Int.toNat_natCast,Gx hq,show(AG f dir name).1.2=m.ino by rw[hle];exact h1,←hino];exact hv.set_ key
theorem Le{f:AM}(hv:FlsV f)(a:A7)(mode uid gid:Int):(J6 f a mode uid gid).2=0→FlsV (J6 f a mode uid gid).1∧(J6 f a mode uid gid).1.length=f.length:=by
 unfold J6;split
 ·intro h;exact absurd h (by decide)
 rename_i hh;split
 ·intro h;exact absurd h (by decide)
 rename_i hp;intro _;obtain⟨q,i,d,m,haq,hq,hm,hmi,hnm2,hng⟩:=OZ (f:=f) (a:=a) (by simpa using hh);have hvd:=hv.vd d (AT hq);have key:=hvd.attrs (AT hm) mode uid gid (by rw[←hng];simpa using hp);refine⟨?_,by dsimp only;exact Mk _ _ _⟩;dsimp only;rw[haq,Int.toNat_natCast,Gx hq,←hmi];exact hv.set_ key
theorem Lf{f:AM}(hv:FlsV f)(dir:A7)(name:AB)(n:Nod):La f (Fo f dir name n):=by
 unfold Fo;split
 ·rename_i h;exact E0 h
 rename_i hp;split
 ·exact E0 (by decide)
 rename_i hpl;split
 ·exact E0 (by decide)
 rename_i hl;obtain⟨q,i,d,n0,hdq,hq,hn0,hino,hidx,hnode,hk0,hnm⟩:=Gy (name:=name) (dir:=dir) (f:=f) (by omega);have hat:GP f dir.1=some d:=by rw[hdq,KV,hq]
 rw[hat];simp only;split
 ·exact E0 (by decide)
 rename_i hc;intro _;have hvd:=hv.vd d (AT hq);have hnm2:=hvd.nextM;have key:=hvd.make (AT hn0) hk0 hnm (Oa hnode hk0 hl).1 (n:=n) (by simpa using hpl) (by omega) (by omega) (Qy hnode (fun h=>hc (.inr (.inr h))));refine⟨?_,by simp⟩;dsimp only;rw[hdq,Int.toNat_natCast,←hino];exact hv.set_ key
theorem Zi{ns:List Nod}{a o:Int}{g:Nod→Nod}(hi:∀n,(g n).ino=n.ino)(he:∀n,(g n).entries=n.entries):Bf (CL ns a g) o=CL (Bf ns o) a g:=by
 have hc:BN o (CL ns a g)=BN o ns:=by
  unfold BN
  congr 1
  unfold CL;rw[List.flatMap_map]
  congr 1
  funext n
  split
  ·rw[he]
  rfl
 unfold Bf;rw[hc];unfold CL;rw[List.filter_map]
 congr 1
 apply List.filter_congr;intro n _;simp only[Function.comp];split
 ·rw[hi]
 rfl
theorem Zj{ns:List Nod}{a:Int}{g:Nod→Nod}(h:∀n∈ns,n.ino=a→g n=n):CL ns a g=ns:=by
 unfold CL
 conv=>rhs;rw[←List.map_id ns]
 apply List.map_congr_left;intro n hn;split
 ·rename_i e;rw[h n hn e];rfl
 rfl
theorem Zk{ns:List Nod}{a:Int}{g g':Nod→Nod}(h:∀n∈ns,n.ino=a→g n=g' n):CL ns a g=CL ns a g':=by
 unfold CL;apply List.map_congr_left;intro n hn;split
 ·rename_i e;rw[h n hn e]
 rfl
theorem UT{f:AM}{q:Nat}{d:Dvc}(hq:f[q]?=some d)(hd:Dm d.nodes){top:A7}(ht:top.1=(q:Int)):∀(k n:Nat) (a:A7),k<n→a.1=(q:Int)→Mf d.nodes k a.2 top.2→Hy f top n a=true
 |_,0,_,h,_,_=>by omega
 |0,n+1,a,_,ha,hk=>by
   have e:a.2=top.2:=hk;unfold Hy;rw[if_neg (by omega),if_pos (Prod.ext (by omega) e)]
 |k+1,n+1,a,h,ha,hk=>by
   obtain⟨m,hm,h1,h2,h3,h4⟩:=hk;unfold Hy;rw[if_neg (by omega)];split
   ·rfl
   have hn:=Qx ha hq hd hm h1;refine UT hq hd ht k n _ (by omega) ha ?_;simp only[Ai,hn,Option.getD_some];exact h4
theorem Lg{f:AM}(hv:FlsV f)(src:A7)(name:AB)(to:A7)(name2:AB):La f (Fp f src name to name2):=by
 unfold Fp;split
 ·rename_i h;exact E0 h
 rename_i hord;obtain⟨hpl1,hpl2⟩:=UN (f:=f) (x:=src) (y:=to) (name:=name) (name2:=name2) (by omega);split
 ·rename_i h;exact E0 h
 rename_i hl1;split
 ·exact E0 (by decide)
 rename_i hdev;split
 ·exact E0 (by decide)
 rename_i hbel;split
 ·intro _;exact⟨hv,rfl⟩
 rename_i hsame;split
 ·rename_i h;exact E0 h
 rename_i hr2;intro _;obtain⟨q,i,d,n1,hsq,hq,hn1,hn1i,hidx,hnode,hk1,hnm1⟩:=Gy hpl1;obtain⟨q',i2,d',n2,htq,hq',hn2,hn2i, -,hnode2,hk2,hnm2⟩:=Gy hpl2;obtain rfl:q=q':=by omega
 obtain rfl:d=d':=Option.some.inj (hq.symm.trans hq');have hvd:=hv.vd d (AT hq);obtain⟨e,m,he,hle,hm,hem,he1,hmn⟩:=Ob hv hsq hq hn1 hnode hk1 (name:=name) (by omega);have hA2:(AG f src name).1.2=m.ino:=by rw[hle];exact hem
 have hmoves:AZ f (AG f src name).1=true↔m.kind=2:=Kl hmn
 have hanc:m.kind=2→¬GU d.nodes n2.ino m.ino:=by
  rintro hmk ⟨k,hk⟩;have hlen:=hvd.anc_len hm hk;have:=hvd.len;refine hbel ⟨hmoves.2 hmk,UT hq hvd.asc (top:=(AG f src name).1) (by rw[hle];exact hsq) k 17 to (by omega) htq ?_⟩;rw[hA2,←hn2i];exact hk
 have hdiff:n1.ino=n2.ino→name≠name2:=by
  rintro h rfl;have est:to=src:=Prod.ext (by omega) (by omega);subst est;exact hsame ⟨by omega,rfl⟩
 have ho:(D9 n2.entries name2=none∧(n2.entries.length<12∨n1.ino=n2.ino)∧(AG f to name2).1.2=0)∨(∃eo o,D9 n2.entries name2=some eo∧o∈d.nodes∧eo.2=(AG f to name2).1.2∧o.ino=(AG f to name2).1.2∧(AG f to name2).1.2≠m.ino∧o.entries=[]):=by
  have hr3:Dn f src to (AG f src name).1 (AG f to name2).1 (AG f to name2).2=0:=by omega
  unfold Dn at hr3;by_cases h0:(AG f to name2).2=0
  ·right;rw[if_pos h0]at hr3;obtain⟨eo,o,heo,hleo,hom,heoi,heo1,hon⟩:=Ob hv htq hq hn2 hnode2 hk2 (name:=name2) h0;have hO2:(AG f to name2).1.2=eo.2:=by rw[hleo]
   refine⟨eo,o,heo,hom,hO2.symm,by rw[hO2,heoi],?_,?_⟩
   ·intro h;refine hsame ⟨h0,Prod.ext ?_ (h.trans hA2.symm)⟩;rw[hleo,hle];exact htq.trans hsq.symm
   have hdo:=Kl hon;by_cases hok:o.kind=2
   ·rw[if_neg (fun h=>by
       rw[if_pos h]at hr3;exact absurd hr3 (by decide))]at hr3
    rw[if_neg (fun h=>by rw[hdo.2 hok]at h;exact absurd h.1 (by decide))]at hr3;split at hr3
    ·exact absurd hr3 (by decide)
    rename_i h5;refine(US hon).1 ?_
    cases hem2:Jn f (AG f to name2).1 with
    |true=>rfl
    |false=>exact absurd ⟨hdo.2 hok,hem2⟩ h5
   exact(hvd.leaf o hom hok).2
  left;rw[if_neg h0]at hr3;obtain⟨h1,h2⟩:=Oa hnode2 hk2 h0;refine⟨h1,?_,by rw[h2]⟩;split at hr3
  ·exact absurd hr3 (by decide)
  rename_i h3;by_cases hfl:JM f to=true
  ·right;have:src=to:=Classical.byContradiction fun h=>h3 ⟨hfl,h⟩;rw[hn1i,hn2i,this]
  left;exact Qy hnode2 hfl
 have key:=hvd.renamed (AT hn1) (AT hn2) hm hk2 he hem hnm2 hdiff hanc ho;refine⟨?_,by dsimp only;exact Mk _ _ _⟩;dsimp only;rw[htq,Int.toNat_natCast,Gx hq]
 have hns:K1 (LZ d.nodes src name to name2 (AG f src name).1 (AG f to name2).1 (AG f to name2).2) (AG f src name).1.2 to.2 (AZ f (AG f src name).1)=Bf (DX d.nodes n1.ino n2.ino name name2 m.ino) (AG f to name2).1.2:=by
  rw[←UB,hA2,←hn2i]
  have hY:∀y∈BE (BE d.nodes n1.ino name 0) n2.ino name2 m.ino,y.ino=m.ino→y.kind=m.kind:=by
   intro y hy hyi;obtain⟨y1,h1,w1⟩:=Eu hy;obtain⟨y2,h2,w2⟩:=Eu h1;have:y2=m:=DA hvd.asc h2 hm (by rw[←w2.ino,←w1.ino];exact hyi);rw[w1.kind,w2.kind,this]
  have hpos:∀y∈BE (BE d.nodes n1.ino name 0) n2.ino name2 m.ino,1≤y.ino:=by
   intro y hy;obtain⟨y1,h1,w1⟩:=Eu hy;obtain⟨y2,h2,w2⟩:=Eu h1;rw[w1.ino,w2.ino];exact hvd.pos h2
  have hset:Bf (CL (BE (BE d.nodes n1.ino name 0) n2.ino name2 m.ino) m.ino (Ha n2.ino)) (AG f to name2).1.2=CL (Bf (BE (BE d.nodes n1.ino name 0) n2.ino name2 m.ino) (AG f to name2).1.2) m.ino (Ha n2.ino):=Zi (fun n=>by unfold Ha;split<;>rfl) (fun n=>by unfold Ha;split<;>rfl);rw[hset]
  have hN:LZ d.nodes src name to name2 (AG f src name).1 (AG f to name2).1 (AG f to name2).2=Bf (BE (BE d.nodes n1.ino name 0) n2.ino name2 m.ino) (AG f to name2).1.2:=by
   unfold LZ;rw[hA2,←hn1i,←hn2i];split
   ·rfl
   rename_i h0;rw[(Oa hnode2 hk2 h0).2];unfold Bf
   symm
   rw[List.filter_eq_self];intro y hy;have:=hpos y hy;exact decide_eq_true (.inl (by show y.ino≠0;omega))
  rw[hN];have hsub:∀y∈Bf (BE (BE d.nodes n1.ino name 0) n2.ino name2 m.ino) (AG f to name2).1.2,y∈BE (BE d.nodes n1.ino name 0) n2.ino name2 m.ino:=fun y hy=>(Me.1 hy).1;unfold K1;split
  ·rename_i hmv;refine Zk fun y hy hyi=>?_;unfold Ha;rw[if_pos ((hY y (hsub y hy) hyi).trans (hmoves.1 hmv))]
  rename_i hmv;refine(Zj fun y hy hyi=>?_).symm;unfold Ha;rw[if_neg (fun h=>hmv (hmoves.2 ((hY y (hsub y hy) hyi).symm.trans h)))]
 rw[hns];exact hv.set_ key
end Go.Proofs.YtbgnigjfkbmceaaGreatDoor
namespace Go.Proofs.YtbgnigjfkbmceaaGreatDoor
open Go.RowKit
def Hc(R:Spc×Int):AV:= .tup [.agg (AQ R.1), .v (.int .i64 R.2)]
def Lh:Spc:=⟨[],[]⟩
theorem K2(e:Int):LeA (.tup [.agg [.v (.slice none 0 0), .v (.slice none 0 0)], .v (.int .i64 e)]) (Hc (Lh,e)):=(by repeat (first|exact A9 _|exact LeA.nil _|exact LeL.refl _|refine LeA.agg ?_|refine LeA.tup ?_|exact LeL.nil|refine LeL.cons ?_ ?_|exact LeA.any _))
def DD(s:Spc)(dev:Int)(a:A7):Spc×Int:=
 if dev<1∨(s.files.length:Int)≤dev then(Lh,22)else if Cm s.files a=false then(Lh,2)else if(Ai s.files a).kind≠2 then(Lh,20)else if C9 s a.1=false∨a.1=dev then(Lh,22)else
 if C9 s dev=true∨(CJ s a).isSome=true then(Lh,16)else(⟨s.files,s.mounts++[(dev,a)]⟩,0)
section
theorem Zl(s:Spc)(hs:SpcB s):Nd prog 126 [.agg (AQ s)] (fun g=> .agg [.sl 2 (s.files.map Bn) none, .sl 3 (s.mounts.map GR) g]) (185,3,s.mounts.map GR):=by
 have hfew:=hs.few;refine enter Tryz.func126 rfl rfl rfl rfl rfl 0 rfl ?_;refine w_ (b_ (h:=D4 (h:=e_ (q_ (Bz ([(0,AQ s)]) 8 (h:=Ar 0 (h:=?_)))))));refine AD 1 (h:=?_);refine Ar 3 (h:=?_);refine AD 4 (h:=?_);refine c_ 2 rfl (AA (UK s.files hs.files) ?_);rintro r rfl;refine o_ (h:=?_)
 first|refine c_ 5 rfl (FJ rfl rfl rfl (by simp;omega) (by repeat constructor) ?_)|refine c_ 5 rfl (GJ rfl rfl (by simp;omega) (by repeat constructor) ?_)
 refine o_ (h:=Hq 6 (h:=?_));refine CG 7 (h:=z_ (h:=t_ (Ax (?_))));refine Ag (some 0) (h5:=(A9 _)) (h6:=⟨rfl,rfl,rfl⟩)
theorem Oc(s:Spc)(dev:Int)(a:A7)(hs:SpcB s):AFn prog 76 [.agg (AQ s), .v (.int .i64 dev), .agg (A8 a)] (fun r=>r=Hc (DD s dev a)):=by
 have hfew:=hs.few;refine enter Tryz.func76 rfl rfl rfl rfl rfl 0 rfl ?_;refine FM (h:=Bi (h:=DS (h:=?_)));refine AF false rfl rfl (fun hb1 hc1=>?_) (fun hb1 hc1=>?_)
 ·refine BF (h:=B1 (h:=Cl (h:=Cz (h:=Cf (h:=?_)))));refine Ag (r:=Hc (DD s dev a)) none (h5:=?_) (h6:=⟨rfl,rfl,rfl⟩);rw[DD,if_pos (.inl hc1)];exact K2 _
 refine m_ (h:=f_ (h:=Ct (h:=E5 (h:=C1 (h:=?_)))));refine A6 rfl (fun hb2 hc2=>?_) (fun hb2 hc2=>?_)
 ·refine Cf (h:=?_);refine Ag (r:=Hc (DD s dev a)) none (h5:=?_) (h6:=⟨rfl,rfl,rfl⟩);rw[DD,if_pos (.inr (by rw[List.length_map]at hc2;omega))];exact K2 _
 refine AK (Ah (h:=l_ (h:=?_)));refine A3 rfl (AA (G7 s.files a hs.files) ?_);rintro r rfl;refine Ea (h:=Dj (h:=?_));refine A6 rfl (fun hb3 hc3=>?_) (fun hb3 hc3=>?_)
 ·refine Cf (h:=?_);refine Ag (r:=Hc (DD s dev a)) none (h5:=?_) (h6:=⟨rfl,rfl,rfl⟩);rw[DD,if_neg (by rw[List.length_map]at hc2;omega),if_pos hc3];exact K2 _
 refine D0 (h:=C6 (h:=?_));refine A6 rfl (fun hb4 hc4=>?_) (fun hb4 hc4=>?_)
 ·refine Cf (h:=?_);refine Ag (r:=Hc (DD s dev a)) none (h5:=?_) (h6:=⟨rfl,rfl,rfl⟩);rw[DD,if_neg (by rw[List.length_map]at hc2;omega),if_neg (by simp[hc3]),if_pos hc4];exact K2 _
 refine FR (h:=Be (h:=AN (h:=?_)));refine A3 rfl (AA (OA s a.1 hs) ?_);rintro r rfl;refine Dw (h:=?_);refine AF false rfl rfl (fun hb5 hc5=>?_) (fun hb5 hc5=>?_)
 ·refine BF (h:=Cl (h:=Cz (h:=Cf (h:=?_))));refine Ag (r:=Hc (DD s dev a)) none (h5:=?_) (h6:=⟨rfl,rfl,rfl⟩);rw[DD,if_neg (by rw[List.length_map]at hc2;omega),if_neg (by simp[hc3]),if_neg (by simp[hc4]),if_pos (.inl hc5)];exact K2 _
 refine AN (h:=CX (h:=C1 (h:=?_)));refine A6 rfl (fun hb6 hc6=>?_) (fun hb6 hc6=>?_)
 ·refine Cf (h:=?_);refine Ag (r:=Hc (DD s dev a)) none (h5:=?_) (h6:=⟨rfl,rfl,rfl⟩);rw[DD,if_neg (by rw[List.length_map]at hc2;omega),if_neg (by simp[hc3]),if_neg (by simp[hc4]),if_pos (.inr hc6)];exact K2 _
 refine FR (h:=Be (h:=m_ (h:=?_)));refine A3 rfl (AA (OA s dev hs) ?_);rintro r rfl;refine m_ (h:=?_);refine AF false rfl rfl (fun hb7 hc7=>?_) (fun hb7 hc7=>?_)
 ·refine Ce (h:=e_ (Cz (h:=Cf (h:=?_))));refine Ag (r:=Hc (DD s dev a)) none (h5:=?_) (h6:=⟨rfl,rfl,rfl⟩);rw[DD,if_neg (by rw[List.length_map]at hc2;omega),if_neg (by simp[hc3]),if_neg (by simp[hc4]),if_neg (by simp[hc5,hc6]),if_pos (.inl hc7)];exact K2 _
 refine Em (h:=?_);refine Af (AA (Xh s a hs) ?_);rintro r rfl;refine C1 (h:=?_);refine A6 rfl (fun hb8 hc8=>?_) (fun hb8 hc8=>?_)
 ·refine Cf (h:=?_);refine Ag (r:=Hc (DD s dev a)) none (h5:=?_) (h6:=⟨rfl,rfl,rfl⟩);rw[DD,if_neg (by rw[List.length_map]at hc2;omega),if_neg (by simp[hc3]),if_neg (by simp[hc4]),if_neg (by simp[hc5,hc6]),if_pos (.inr hc8)];exact K2 _
 refine AK (Be (h:=?_));refine A3 rfl (SJ rfl (by repeat (first|exact Args.nil|refine Args.cons _ _ _ _ _ rfl (JE rfl) ?_|refine Args.cons _ _ _ _ _ rfl (KF _) ?_|refine Args.cons _ _ _ _ _ rfl (Jh _) ?_|refine Args.cons _ _ _ _ _ rfl (KK rfl (by repeat (first|exact A9 _|exact LeA.nil _|exact LeL.refl _|refine LeA.agg ?_|refine LeA.tup ?_|exact LeL.nil|refine LeL.cons ?_ ?_|exact LeA.any _))) ?_)) (Zl s hs) (fun _=>rfl) (by repeat constructor) ?_);refine CY (h:=G3 (h:=l_ (h:=Ck (h:=Cd (h:=?_)))));refine A3 rfl (FJ rfl rfl rfl (by simp;omega) (by repeat constructor) ?_);refine Bm (h:=e_ (D6 (h:=At (h:=?_))));refine A4 ?_;rw[DD,if_neg (by rw[List.length_map]at hc2;omega),if_neg (by simp[hc3]),if_neg (by simp[hc4]),if_neg (by simp[hc5,hc6]),if_neg (by simp[hc7,hc8])];simp only[Hc,AQ,List.map_append];rfl
end
theorem UU(z:Int){n:Int}(h:1≤n): -n<z.tmod n∧z.tmod n<n:=⟨Int.lt_tmod_of_pos z (by omega),Int.tmod_lt_of_pos z (by omega)⟩
theorem Gz(a b:ByteArray):(a++b).size=a.size+b.size:=ByteArray.size_append
section
theorem Zm(l:List Int):ACall prog 12 [.sl 1 (l.map Gq) none] [] (fun r b t=>r= .bp 0 0∧b=[Cq l 0]∧t=[]):=by
 refine enter Tryz.func12 rfl rfl rfl rfl rfl 1 rfl ?_;refine w_ (BJ (h:=Ck (h:=b_ (h:=At (h:=?_)))));refine Ag none (h5:=(A9 _)) (h6:=⟨rfl,rfl,rfl⟩)
theorem Gn(l:List Int)(a:Nat)(n:Int)(ha:a≤1000000000000)(hn:n≤1000000000000):Ej prog 21 l a [.v (.int .i64 n)] 1 (fun r=>∃k:Int,r= .v (.int .i64 k)∧0≤k∧(1≤n→k<n)∧(n<1→k=0)):=by
 refine enter Tryz.func21 rfl rfl rfl rfl rfl 1 rfl ?_;refine w_ (Bi (h:=BZ (h:=?_)));refine A6 rfl (fun hb1 hc1=>?_) (fun hb1 hc1=>?_)
 ·refine Bd (h:=?_);refine Ag none (h5:=(A9 _)) (h6:=⟨_,rfl,rfl,a,by omega,rfl,0,rfl,by omega,by omega,by omega⟩)
 refine AK (w_ (m_ (h:=k_ (h:=f_ (h:=l_ (h:=HA (h:=k_ (h:=f_ (h:=s_ (h:=e_ (w_ (m_ (h:=k_ (h:=f_ (h:=l_ (h:=XL (h:=a_ (h:=e_ (q_ (q_ (E4 10 (h:=Ac 0 (h:=O0 1 (h:=?_))))))))))))))))))))))));refine Ar 2 (h:=AD 3 (h:=Ac 4 (h:=O0 5 (h:=Ar 6 (h:=AD 7 (h:=KR 8 (h:=XN 9 (h:=z_ (h:=t_ (?_))))))))));refine A6 rfl (fun hb2 hc2=>?_) (fun hb2 hc2=>?_)
 ·have hlt:a<l.length:=by simp at hc2;omega
  obtain⟨z,hz⟩:∃z,(l.map Gq)[a]?=some (Gq z):=⟨l[a],by simp[hlt]⟩;have tz:=UU z (n:=n) (by omega);refine E4 12 (h:=Ac 0 (h:=O0 1 (h:=Ar 2 (h:=AD 3 (h:=Ac 4 (h:=O0 5 (h:=Ar 6 (h:=AD 7 (h:=Ps 8 (h:=?_))))))))));refine Ft (i:=9) rfl (EF (n:=a) rfl rfl (by omega) hz ⟨rfl,rfl⟩) ?_;refine AD 10 (h:=BM 11 (h:=z_ (h:=t_ (w_ (m_ (h:=m_ (h:=?_)))))));refine A3 rfl (Ru rfl rfl (by omega) ?_);refine Bi (h:=BZ (h:=?_));refine A6 rfl (fun hb3 hc3=>?_) (fun hb3 hc3=>?_)
  ·refine BV (h:=m_ (h:=?_));refine A3 rfl (Kz rfl rfl (by omega) ?_);refine BJ (h:=At (h:=?_));refine Ag none (h5:=(A9 _)) (h6:=⟨_,rfl,rfl,a+1,by omega,rfl,_,rfl,by omega,by omega,by omega⟩)
  refine AK (Aa (h:=At (h:=?_)));refine Ag none (h5:=(A9 _)) (h6:=⟨_,rfl,rfl,a+1,by omega,rfl,_,rfl,by omega,by omega,by omega⟩)
 have tz:=UU (IntKind.i64.wrap (((a:Int)+1) * 7)) (n:=n) (by omega);refine AK (EJ (h:=?_));refine A3 rfl (Ru rfl rfl (by omega) ?_);refine Bi (h:=BZ (h:=?_));refine A6 rfl (fun hb4 hc4=>?_) (fun hb4 hc4=>?_)
 ·refine BV (h:=m_ (h:=?_));refine A3 rfl (Kz rfl rfl (by omega) ?_);refine BJ (h:=At (h:=?_));refine Ag none (h5:=(A9 _)) (h6:=⟨_,rfl,rfl,a+1,by omega,rfl,_,rfl,by omega,by omega,by omega⟩)
 refine AK (Aa (h:=At (h:=?_)));refine Ag none (h5:=(A9 _)) (h6:=⟨_,rfl,rfl,a+1,by omega,rfl,_,rfl,by omega,by omega,by omega⟩)
theorem Ci(l:List Int)(a:Nat)(lo hi:Int)(ha:a≤1000000000000)(h1: -1000000≤lo)(h2:lo≤hi)(h3:hi≤1000000):Ej prog 47 l a [.v (.int .i64 lo), .v (.int .i64 hi)] 1 (fun r=>∃k:Int,r= .v (.int .i64 k)∧lo≤k∧k≤hi):=by
 refine enter Tryz.func47 rfl rfl rfl rfl rfl 1 rfl ?_;refine w_ (BJ (h:=DF (h:=m_ (h:=Hr (h:=HA (h:=?_))))));refine A3 rfl (AX 0 (hc:=Gn l a (hi - lo+1) ha (by omega)) (hR:=?_));rintro r a1 ha1 ⟨k,rfl,k1,k2,k3⟩;refine AY ?_;refine HA (h:=At (h:=?_));refine Ag none (h5:=(A9 _)) (h6:=⟨_,rfl,rfl,a1,by omega,rfl,_,rfl,by omega,by omega⟩)
theorem FE(l:List Int)(a:Nat)(rows:List (List AV))(p:Int→Bool)(ha:a≤1000000000000)(h0:Nat.blt 0 rows.length=true)(h1:Nat.ble rows.length 1000=true)(hp:Nu p rows=true):Ej prog 78 l a [.sl 1 rows none] 1 (fun r=>∃z:Int,r= .v (.int .i64 z)∧p z=true):=by
 have h0':0<rows.length:=B7 h0;have h1':rows.length≤1000:=B7 h1;refine enter Tryz.func78 rfl rfl rfl rfl rfl 1 rfl ?_;refine w_ (BJ (h:=DF (h:=n_ (h:=?_))));refine A3 rfl (AX 0 (hc:=Gn l a rows.length ha (by omega)) (hR:=?_));rintro r a1 ha1 ⟨k,rfl,k1,k2,k3⟩;refine AY ?_;obtain⟨m,rfl⟩:=Int.eq_ofNat_of_zero_le k1;obtain⟨z,hz,pz⟩:=SX hp (i:=m) (by omega);refine A3 rfl (EF (n:=m) rfl rfl rfl hz ?_);refine l_ (h:=At (h:=?_));refine Ag none (h5:=(A9 _)) (h6:=⟨_,rfl,rfl,a1,by omega,rfl,z,rfl,pz⟩)
theorem Km(l:List Int)(a:Nat)(rows:List (List AV))(p:ByteArray→Bool)(ha:a≤1000000000000)(h0:Nat.blt 0 rows.length=true)(h1:Nat.ble rows.length 1000=true)(hp:Nv p rows=true):Ej prog 81 l a [.sl 1 rows none] 1 (fun r=>∃z:ByteArray,r= .v (.string z)∧p z=true):=by
 have h0':0<rows.length:=B7 h0;have h1':rows.length≤1000:=B7 h1;refine enter Tryz.func81 rfl rfl rfl rfl rfl 1 rfl ?_;refine w_ (BJ (h:=DF (h:=n_ (h:=?_))));refine A3 rfl (AX 0 (hc:=Gn l a rows.length ha (by omega)) (hR:=?_));rintro r a1 ha1 ⟨k,rfl,k1,k2,k3⟩;refine AY ?_;obtain⟨m,rfl⟩:=Int.eq_ofNat_of_zero_le k1;obtain⟨z,hz,pz⟩:=SY hp (i:=m) (by omega);refine A3 rfl (EF (n:=m) rfl rfl rfl hz ?_);refine l_ (h:=At (h:=?_));refine Ag none (h5:=(A9 _)) (h6:=⟨_,rfl,rfl,a1,by omega,rfl,z,rfl,pz⟩)
theorem Od(l:List Int)(a:Nat)(ha:a≤100000000000):Ej prog 127 l a [] 2 (fun r=>∃s:ByteArray,r= .v (.string s)∧s.size≤13):=by
 refine enter Tryz.func127 rfl rfl rfl rfl rfl 1 rfl ?_;refine w_ (Bi (h:=?_));refine A3 rfl (AX 0 (hc:=Gn l _ (20) (by omega) (by omega)) (hR:=?_));rintro r a1 ha1 ⟨k1,rfl,p1,q1,o1⟩;refine AY ?_;refine C2 (h:=?_);refine A6 rfl (fun hb1 hc1=>?_) (fun hb1 hc1=>?_)
 ·refine Aa (h:=Cd (h:=?_));refine A3 rfl (AX 0 (hc:=Km l _ _ (fun s=>decide (s.size≤13)) (by omega) (by rfl) (by rfl) (by rfl)) (hR:=?_));rintro r a2 ha2 ⟨k2,rfl,p2⟩;refine AY ?_;refine At (h:=BS (?_));refine Ag none (h5:=(A9 _)) (h6:=⟨_,rfl,rfl,_,?_,rfl,_,rfl,of_decide_eq_true ‹_›⟩)<;>omega
 refine AK (Aa (h:=Cd (h:=?_)));refine A3 rfl (AX 0 (hc:=Km l _ _ (fun s=>decide (s.size≤13)) (by omega) (by rfl) (by rfl) (by rfl)) (hR:=?_));rintro r a3 ha3 ⟨k3,rfl,p3⟩;refine AY ?_;refine At (h:=?_);refine Ag none (h5:=(A9 _)) (h6:=⟨_,rfl,rfl,_,?_,rfl,_,rfl,of_decide_eq_true ‹_›⟩)<;>omega
theorem UV(l:List Int)(a:Nat)(ha:a≤50000000000):Ej prog 100 l a [] 20 (fun r=>∃s:ByteArray,r= .v (.string s)∧s.size≤58):=by
 have e1:(⟨#[47]⟩:ByteArray).size=1:=rfl;have e0:(⟨#[]⟩:ByteArray).size=0:=rfl;refine enter Tryz.func100 rfl rfl rfl rfl rfl 1 rfl ?_;refine Df (h:=Df (h:=?_));refine C5 (fun s=>∃(b:Nat) (t:ByteArray),b≤a+1∧t.size≤1∧s=⟨look [(0, .bp 0 0),(3, .v (.string t))],⟨[Cq l b],[]⟩⟩) ?_ ?_
 ·skip
  refine Aa (h:=?_);refine A3 rfl (AX 0 (hc:=Gn l _ (6) (by omega) (by omega)) (hR:=?_));rintro r a1 ha1 ⟨k1,rfl,p1,q1,o1⟩;refine AY ?_;refine Dk (h:=?_);refine A6 rfl (fun hb1 hc1=>?_) (fun hb1 hc1=>?_)
  ·refine B2 (E8 (h:=?_));refine⟨_,⟨_,_,?_,?_,rfl⟩,(wk 1 0)⟩<;>first|omega|exact B7 rfl
  refine As (Ab (?_));refine⟨_,⟨_,_,?_,?_,rfl⟩,(wk 1 0)⟩<;>first|omega|exact B7 rfl
 rintro s ⟨b,t0,hb,ht0,rfl⟩;refine Aa (h:=Cd (h:=?_));refine A3 rfl (AX 0 (hc:=FE l _ _ (fun z=>decide (0≤z∧z≤4)) (by omega) (by rfl) (by rfl) (by rfl)) (hR:=?_));rintro r a2 ha2 ⟨k2,rfl,p2⟩;refine AY ?_;obtain⟨hz1,hz2⟩:=of_decide_eq_true p2;obtain⟨m,rfl⟩:=Int.eq_ofNat_of_zero_le hz1;refine B5 (h:=D8 (h:=?_));refine BX (fun n s=>∃(j b1:Nat) (t:ByteArray),j≤m∧n=m - j∧b1≤b+1+4 * j∧t.size≤1+14 * j∧s=⟨look [(0, .bp 0 0),(3, .v (.string t)),(4, .v (.int .i64 (m:Int))),(5, .v (.int .i64 (j:Int)))],⟨[Cq l b1],[]⟩⟩) (m) ((wk 1 0)) (⟨0,_,t0,by omega,rfl,by omega,by omega,rfl⟩) ?_;rintro n s ⟨j,b1,t,hj,rfl,hb1,ht,rfl⟩;refine Dv (h:=BZ (h:=?_));refine A6 rfl (fun hb2 hc2=>?_) (fun hb2 hc2=>?_)
 ·refine AK (?_);refine C5 (fun s=>∃(b3:Nat) (t1:ByteArray),b3≤b1+4∧t1.size≤1+14 * (j+1)∧s=⟨look [(0, .bp 0 0),(3, .v (.string t1)),(4, .v (.int .i64 (m:Int))),(5, .v (.int .i64 (j:Int)))],⟨[Cq l b3],[]⟩⟩) ?_ ?_
  ·skip
   refine BL (BD (h:=Dk (h:=?_)));refine A6 rfl (fun hb3 hc3=>?_) (fun hb3 hc3=>?_)
   ·refine BV (h:=?_);refine A3 rfl (F0 rfl rfl (by(try simp only[Gz]);omega) ?_);refine BJ (h:=?_);refine A3 rfl (AX 0 (hc:=Gn l _ (8) (by omega) (by omega)) (hR:=?_));rintro r a3 ha3 ⟨k3,rfl,p3,q3,o3⟩;refine AY ?_;refine C2 (h:=?_);refine A6 rfl (fun hb4 hc4=>?_) (fun hb4 hc4=>?_)
    ·refine BV (h:=FQ (h:=?_));refine A3 rfl (AX 0 (hc:=Km l _ _ (fun s=>decide (s.size≤13)) (by omega) (by rfl) (by rfl) (by rfl)) (hR:=?_));rintro r a4 ha4 ⟨k4,rfl,p4⟩;refine AY ?_;have hw:=of_decide_eq_true p4;refine A3 rfl (F0 rfl rfl (by(try simp only[Gz]);omega) ?_);refine EG (h:=Am (Ab (?_)));refine⟨_,⟨_,_,?_,?_,rfl⟩,(wk 1 0)⟩<;>(try simp only[Gz])<;>omega
    refine BV (h:=m_ (h:=?_));refine A3 rfl (AX 0 (hc:=Od l _ (by omega)) (hR:=?_));rintro r a5 ha5 ⟨k5,rfl,hw⟩;refine AY ?_;refine A3 rfl (F0 rfl rfl (by(try simp only[Gz]);omega) ?_);refine EG (h:=Am (Ab (?_)));refine⟨_,⟨_,_,?_,?_,rfl⟩,(wk 1 0)⟩<;>(try simp only[Gz])<;>omega
   refine AK (Aa (h:=?_));refine A3 rfl (AX 0 (hc:=Gn l _ (8) (by omega) (by omega)) (hR:=?_));rintro r a6 ha6 ⟨k6,rfl,p6,q6,o6⟩;refine AY ?_;refine C2 (h:=?_);refine A6 rfl (fun hb5 hc5=>?_) (fun hb5 hc5=>?_)
   ·refine BV (h:=FQ (h:=?_));refine A3 rfl (AX 0 (hc:=Km l _ _ (fun s=>decide (s.size≤13)) (by omega) (by rfl) (by rfl) (by rfl)) (hR:=?_));rintro r a7 ha7 ⟨k7,rfl,p7⟩;refine AY ?_;have hw:=of_decide_eq_true p7;refine A3 rfl (F0 rfl rfl (by(try simp only[Gz]);omega) ?_);refine EG (h:=Am (Ab (?_)));refine⟨_,⟨_,_,?_,?_,rfl⟩,(wk 1 0)⟩<;>(try simp only[Gz])<;>omega
   refine BV (h:=m_ (h:=?_));refine A3 rfl (AX 0 (hc:=Od l _ (by omega)) (hR:=?_));rintro r a8 ha8 ⟨k8,rfl,hw⟩;refine AY ?_;refine A3 rfl (F0 rfl rfl (by(try simp only[Gz]);omega) ?_);refine EG (h:=Am (Ab (?_)));refine⟨_,⟨_,_,?_,?_,rfl⟩,(wk 1 0)⟩<;>(try simp only[Gz])<;>omega
  rintro s ⟨b3,t1,hb3,ht1,rfl⟩;refine Sh (h:=?_);refine⟨_,_,?_,⟨j+1,_,_,by omega,rfl,?_,?_,rfl⟩,(wk 1 0)⟩<;>omega
 refine Cg (h:=BD (h:=?_));refine A3 rfl (AX 0 (hc:=Gn l _ (8) (by omega) (by omega)) (hR:=?_));rintro r a9 ha9 ⟨k9,rfl,p9,q9,o9⟩;refine AY ?_;refine C2 (h:=?_);refine A6 rfl (fun hb6 hc6=>?_) (fun hb6 hc6=>?_)
 ·refine BV (h:=?_);refine A3 rfl (F0 rfl rfl (by(try simp only[Gz]);omega) ?_);refine BJ (h:=At (h:=?_));refine Ag none (h5:=(A9 _)) (h6:=⟨_,rfl,rfl,_,?_,rfl,_,rfl,?_⟩)<;>(try simp only[Gz])<;>omega
 refine AK (Aa (h:=At (h:=?_)));refine Ag none (h5:=(A9 _)) (h6:=⟨_,rfl,rfl,_,?_,rfl,_,rfl,?_⟩)<;>(try simp only[Gz])<;>omega
end
section
theorem K3(l:List Int)(a:Nat)(f:AM)(ha:a≤100000000000)(hf:FlsB f)(hne:∀d∈f,0<d.nodes.length):Ej prog 46 l a [.agg (AW f)] 4 (fun r=>∃x:A7,r= .agg (A8 x)):=by
 have hfew:=hf.few;have hml:(f.map Bn).length=f.length:=by simp
 refine enter Tryz.func46 rfl rfl rfl rfl rfl 1 rfl ?_;refine w_ (EL (h:=e_ (Aa (h:=Ct (h:=?_)))));refine A3 rfl (AX 0 (hc:=Gn l _ ((f.map Bn).length:Int) (by omega) (by omega)) (hR:=?_));rintro r a1 ha1 ⟨k1,rfl,p1,q1,o1⟩;refine AY ?_;obtain⟨m,rfl⟩:=Int.eq_ofNat_of_zero_le p1;refine G2 (h:=n_ (h:=DT (h:=?_)));refine AF false rfl rfl (fun hb1 hc1=>?_) (fun hb1 hc1=>?_)
 ·refine Ce (h:=e_ (Cz (h:=Aa (h:=?_))));refine A3 rfl (AX 0 (hc:=Ci l _ (-1) (3) (by omega) (by omega) (by omega) (by omega)) (hR:=?_));rintro r a2 ha2 ⟨k2,rfl,p2,q2⟩;refine AY ?_;refine m_ (h:=?_);refine A3 rfl (AX 0 (hc:=Ci l _ (-1) (9) (by omega) (by omega) (by omega) (by omega)) (hR:=?_));rintro r a3 ha3 ⟨k3,rfl,p3,q3⟩;refine AY ?_;refine De (h:=e_ (Ax (BS (?_))));refine Ag none (h5:=(A9 _)) (h6:=⟨_,rfl,rfl,_,?_,rfl,(_,_),rfl⟩)<;>omega
 refine m_ (h:=?_);refine Af (AX 0 (hc:=Gn l _ (24) (by omega) (by omega)) (hR:=?_));rintro r a4 ha4 ⟨k4,rfl,p4,q4,o4⟩;refine AY ?_;refine ET (h:=C1 (h:=?_));refine A6 rfl (fun hb2 hc2=>?_) (fun hb2 hc2=>?_)
 ·refine Aa (h:=?_);refine A3 rfl (AX 0 (hc:=Ci l _ (-1) (3) (by omega) (by omega) (by omega) (by omega)) (hR:=?_));rintro r a5 ha5 ⟨k5,rfl,p5,q5⟩;refine AY ?_;refine m_ (h:=?_);refine A3 rfl (AX 0 (hc:=Ci l _ (-1) (9) (by omega) (by omega) (by omega) (by omega)) (hR:=?_));rintro r a6 ha6 ⟨k6,rfl,p6,q6⟩;refine AY ?_;refine De (h:=e_ (Ax (BS (?_))));refine Ag none (h5:=(A9 _)) (h6:=⟨_,rfl,rfl,_,?_,rfl,(_,_),rfl⟩)<;>omega
 obtain⟨-,d,hd,hrow, -⟩:=Bw Bn (l:=f) (k:=m) (by omega);have hdn:=hf.nodes d (AT hd);have hpos:=hne d (AT hd);have hdl:(d.nodes.map AU).length=d.nodes.length:=by simp
 refine AK (G3 (h:=?_));refine A3 rfl (EF (n:=m) rfl rfl rfl hrow ?_);refine AN (h:=BJ (h:=DF (h:=m_ (h:=n_ (h:=?_)))));refine A3 rfl (AX 0 (hc:=Gn l _ ((d.nodes.map AU).length:Int) (by omega) (by omega)) (hR:=?_));rintro r a7 ha7 ⟨k7,rfl,p7,q7,o7⟩;refine AY ?_;obtain⟨i,rfl⟩:=Int.eq_ofNat_of_zero_le p7;obtain⟨-,n,hn,hrow2, -⟩:=Bw AU (l:=d.nodes) (k:=i) (by omega);refine A3 rfl (EF (n:=i) rfl rfl rfl hrow2 ?_);refine AN (h:=De (h:=e_ (Ax (?_))));refine Ag none (h5:=(A9 _)) (h6:=⟨_,rfl,rfl,_,?_,rfl,(_,_),rfl⟩)<;>omega
end
section
theorem Zn(l:List Int)(a:Nat)(ha:a≤10000000000):Ej prog 178 l a [] 60 (fun r=>∃n:Nod,n.target.size≤100∧n.entries=[]∧r= .agg (AU n)):=by
 refine enter Tryz.func178 rfl rfl rfl rfl rfl 1 rfl ?_;refine w_ (D4 (h:=e_ (Aa (h:=Cd (h:=?_)))));refine A3 rfl (AX 0 (hc:=FE l _ _ (fun _=>true) (by omega) (by rfl) (by rfl) (by rfl)) (hR:=?_));rintro r a1 ha1 ⟨k1,rfl,p1⟩;refine AY ?_;refine FQ (h:=?_);refine A3 rfl (AX 0 (hc:=FE l _ _ (fun _=>true) (by omega) (by rfl) (by rfl) (by rfl)) (hR:=?_));rintro r a2 ha2 ⟨k2,rfl,p2⟩;refine AY ?_;refine FQ (h:=?_);refine A3 rfl (AX 0 (hc:=FE l _ _ (fun _=>true) (by omega) (by rfl) (by rfl) (by rfl)) (hR:=?_));rintro r a3 ha3 ⟨k3,rfl,p3⟩;refine AY ?_;refine FQ (h:=?_);refine A3 rfl (AX 0 (hc:=FE l _ _ (fun _=>true) (by omega) (by rfl) (by rfl) (by rfl)) (hR:=?_));rintro r a4 ha4 ⟨k4,rfl,p4⟩;refine AY ?_;refine Ck (h:=CY (h:=?_));refine C5 (fun s=>∃(b:Nat) (ki mo ui gi:Int) (ta:ByteArray),b≤a+24∧ta.size≤100∧s=⟨look [(0, .bp 0 0),(2, .bp 1 0),(3, .bp 2 0)],⟨[Cq l b,[.v (.int .i64 0), .v (.int .i64 0), .v (.int .i64 0), .v (.int .i64 0), .v (.int .i64 0), .v (.int .i64 0), .v (.string ⟨#[]⟩), .v (.slice none 0 0)],[.v (.int .i64 0), .v (.int .i64 ki), .v (.int .i64 mo), .v (.int .i64 ui), .v (.int .i64 gi), .v (.int .i64 0), .v (.string ta), .v (.slice none 0 0)]],[]⟩⟩) ?_ ?_
 ·skip
  refine Ah (h:=C2 (h:=?_));refine A6 rfl (fun hb1 hc1=>?_) (fun hb1 hc1=>?_)
  ·refine BV (h:=?_);refine A3 rfl (AX 0 (hc:=UV l _ (by omega)) (hR:=?_));rintro r a5 ha5 ⟨k5,rfl,p5⟩;refine AY ?_;refine Bm (h:=Bq (h:=?_));refine⟨_,⟨_,_,_,_,_,_,?_,?_,rfl⟩,(wk 3 0)⟩<;>first|omega|assumption|exact BO _
  refine As (Ab (?_));refine⟨_,⟨_,_,_,_,_,_,?_,?_,rfl⟩,(wk 3 0)⟩<;>first|omega|assumption|exact BO _
 rintro s ⟨b,ki,mo,ui,gi,ta,hb,hta,rfl⟩;refine C5 (fun s=>∃(b2:Nat) (mo2:Int) (ta2:ByteArray),b2≤a+50∧ta2.size≤100∧s=⟨look [(2, .bp 1 0),(3, .bp 2 0)],⟨[Cq l b2,[.v (.int .i64 0), .v (.int .i64 0), .v (.int .i64 0), .v (.int .i64 0), .v (.int .i64 0), .v (.int .i64 0), .v (.string ⟨#[]⟩), .v (.slice none 0 0)],[.v (.int .i64 0), .v (.int .i64 ki), .v (.int .i64 mo2), .v (.int .i64 ui), .v (.int .i64 gi), .v (.int .i64 0), .v (.string ta2), .v (.slice none 0 0)]],[]⟩⟩) ?_ ?_
 ·skip
  refine Aa (h:=?_);refine A3 rfl (AX 0 (hc:=Gn l _ (20) (by omega) (by omega)) (hR:=?_));rintro r a6 ha6 ⟨k6,rfl,p6,q6,o6⟩;refine AY ?_;refine C2 (h:=?_);refine A6 rfl (fun hb2 hc2=>?_) (fun hb2 hc2=>?_)
  ·refine BV (h:=Cd (h:=?_));refine A3 rfl (AX 0 (hc:=FE l _ _ (fun _=>true) (by omega) (by rfl) (by rfl) (by rfl)) (hR:=?_));rintro r a7 ha7 ⟨k7,rfl,p7⟩;refine AY ?_;refine m_ (h:=?_);refine A3 rfl (AX 0 (hc:=UV l _ (by omega)) (hR:=?_));rintro r a8 ha8 ⟨k8,rfl,p8⟩;refine AY ?_;refine Bm (h:=Bm (h:=Bq (h:=?_)));refine⟨_,⟨_,_,_,?_,?_,rfl⟩,(wk 3 0)⟩<;>first|omega|assumption
  refine As (Ab (?_));refine⟨_,⟨_,_,_,?_,?_,rfl⟩,(wk 3 0)⟩<;>first|omega|assumption
 rintro s ⟨b2,mo2,ta2,hb2,hta2,rfl⟩;refine D6 (h:=e_ (Ax (?_)));refine Ag (r:= .agg (AU ⟨0,ki,mo2,ui,gi,0,ta2,[]⟩)) none (h5:=(by repeat (first|exact A9 _|exact LeA.nil _|exact LeL.refl _|refine LeA.agg ?_|refine LeA.tup ?_|exact LeL.nil|refine LeL.cons ?_ ?_|exact LeA.any _))) (h6:=⟨_,rfl,rfl,b2,by omega,rfl,⟨0,ki,mo2,ui,gi,0,ta2,[]⟩,hta2,rfl,rfl⟩)
end
theorem FlsV.ne{f:AM}(h:FlsV f):∀d∈f,0<d.nodes.length:=fun d hd=>by
 obtain⟨r,rest,hr,_⟩:=(h.vd d hd).root;rw[hr];simp
theorem Zo:VD LF:=by
 refine⟨by decide,by decide,by decide,⟨O6,[],rfl,rfl,rfl,rfl⟩,List.pairwise_singleton _ _,?_,?_,?_,?_,?_,?_,?_,?_,?_,⟨fun _=>0,?_⟩⟩<;>
  (intro n hn;obtain rfl:n=O6:=by simpa[LF]using hn)
 ·decide
 ·decide+kernel
 ·intro h;exact absurd rfl h
 ·decide
 ·exact List.Pairwise.nil
 ·intro e he;cases he
 ·intro h;exact absurd rfl h
 ·intro h;exact absurd rfl h
 ·intro h;exact absurd rfl h
 intro h;exact absurd rfl h
theorem UW{k:Int}(h1:1≤k)(h2:k≤3):FlsV (Et k).1∧0<(Et k).1.length:=by
 unfold Et;rw[if_neg (by omega)];refine⟨⟨?_,fun d hd=>?_⟩,?_⟩
 ·show(List.replicate _ _).length≤3;rw[List.length_replicate];omega
 ·rw[(List.mem_replicate.1 hd).2];exact Zo
 show 0<(List.replicate _ _).length;rw[List.length_replicate];omega
structure MntOK(f:AM)(ms:List DU)(m:DU):Prop where
 dev1:1≤m.1
 dev2:m.1<(f.length:Int)
 fresh:C9 ⟨f,ms⟩ m.1=false
 dir:AZ f m.2=true
 there:C9 ⟨f,ms⟩ m.2.1=true
 free:(CJ ⟨f,ms⟩ m.2).isSome=false
structure SpcV(s:Spc):Prop where
 files:FlsV s.files
 pos:0<s.files.length
 mnt:∀i m,s.mounts[i]?=some m→MntOK s.files (s.mounts.take i) m
theorem Zp{s:Spc}(h:SpcV s)(dev:Int)(a:A7)(h0:(DD s dev a).2=0):SpcV (DD s dev a).1∧(DD s dev a).1=⟨s.files,s.mounts++[(dev,a)]⟩:=by
 unfold DD at h0 ⊢;split at h0
 ·exact absurd h0 (by decide)
 rename_i c1;split at h0
 ·exact absurd h0 (by decide)
 rename_i c2;split at h0
 ·exact absurd h0 (by decide)
 rename_i c3;split at h0
 ·exact absurd h0 (by decide)
 rename_i c4;split at h0
 ·exact absurd h0 (by decide)
 rename_i c5;rw[if_neg c1,if_neg c2,if_neg c3,if_neg c4,if_neg c5];refine⟨⟨h.files,h.pos,fun i m hi=>?_⟩,rfl⟩;simp only at hi ⊢;rcases Nat.lt_trichotomy i s.mounts.length with hlt|heq|hgt
 ·rw[CO hlt]at hi;rw[List.take_append_of_le_length (by omega)];exact h.mnt i m hi
 ·subst heq;simp at hi;subst hi;rw[List.take_left' rfl];exact⟨by simp only;omega,by simp only;omega,by simpa using fun h=>c5 (.inl h),by simp only;rw[Jo];simp at c2 c3;simp[c2,c3],by simpa using fun h=>c4 (.inl h),Bool.eq_false_iff.2 fun h=>c5 (.inr h)⟩
 rw[List.getElem?_eq_none (by simp;omega)]at hi;cases hi
section
theorem Zq(l:List Int)(a:Nat)(f:AM)(ha:a≤1000000000)(hv:FlsV f):Ej prog 122 l a [.agg (AW f)] 80 (fun r=>∃f',r= .agg (AW f')∧FlsV f'∧f'.length=f.length):=by
 have hf:=hv.b;have hne:=hv.ne;refine enter Tryz.func122 rfl rfl rfl rfl rfl 1 rfl ?_;refine w_ (EL (h:=e_ (Aa (h:=l_ (h:=?_)))));refine A3 rfl (AX 0 (hc:=K3 l _ f (by omega) hf hne) (hR:=?_));rintro r a1 ha1 ⟨x1,rfl⟩;refine AY ?_;refine m_ (h:=?_);refine A3 rfl (AX 0 (hc:=Od l _ (by omega)) (hR:=?_));rintro r a2 ha2 ⟨k2,rfl,p2⟩;refine AY ?_;refine LA (h:=B5 (h:=Be (h:=LA (h:=B5 (h:=?_)))));refine C5 (fun t=>∃(R1:AM) (e:Int) (b:Nat),b≤a+80∧(e=0→FlsV R1∧R1.length=f.length)∧t=⟨look [(3, .bp 1 0),(4, .bp 2 0),(7, .bp 4 0),(8, .v (.int .i64 e))],⟨[Cq l b,AW f,[.v (.slice none 0 0)],A8 x1,AW R1],[]⟩⟩) ?_ ?_
 ·skip
  refine Aa (h:=?_);refine A3 rfl (AX 0 (hc:=Gn l _ (8) (by omega) (by omega)) (hR:=?_));rintro r a3 ha3 ⟨k3,rfl,p3,q3,o3⟩;refine AY ?_;refine e_ (BL (B6 (h:=?_)));refine A6 rfl (fun hb1 hc1=>?_) (fun hb1 hc1=>?_)
  ·refine Bz ([(1,AW f),(2,[.v (.slice none 0 0)]),(3,A8 x1)]) 13 (h:=AD 0 (h:=AD 1 (h:=Ac 2 (h:=Ac 3 (h:=AD 4 (h:=?_))))));refine c_ 5 rfl (AX 0 (hc:=K3 l _ f (by omega) hf hne) (hR:=?_));rintro r a4 ha4 ⟨x4,rfl⟩;refine AY ?_;refine o_ (h:=?_);refine c_ 6 rfl (AA (ZO f x1 k2 x4 hv (by omega)) ?_);rintro r rfl;refine o_ (h:=Ac 7 (h:=D5 8 (h:=D5 9 (h:=D5 10 (h:=?_)))));refine CG 11 (h:=BM 12 (h:=z_ (h:=Am (Ab (?_)))));refine⟨_,⟨_,_,_,?_,?_,rfl⟩,(wk 5 0)⟩
   ·omega
   first|exact Lb hv _ _ _|exact Lc hv _ _|exact Ld hv _ _|exact Lg hv _ _ _ _|exact Le hv _ _ _ _|exact Lf hv _ _ _
  refine B6 (h:=?_);refine A6 rfl (fun hb2 hc2=>?_) (fun hb2 hc2=>?_)
  ·refine B2 (Em (h:=m_ (h:=?_)));refine A3 rfl (AA (ZQ f x1 k2 hv (by omega)) ?_);rintro r rfl;refine Fx (h:=x_ (h:=s_ (h:=EG (h:=Am (Ab (?_))))));refine⟨_,⟨_,_,_,?_,?_,rfl⟩,(wk 5 0)⟩
   ·omega
   first|exact Lb hv _ _ _|exact Lc hv _ _|exact Ld hv _ _|exact Lg hv _ _ _ _|exact Le hv _ _ _ _|exact Lf hv _ _ _
  refine B6 (h:=?_);refine A6 rfl (fun hb3 hc3=>?_) (fun hb3 hc3=>?_)
  ·refine B2 (Em (h:=m_ (h:=?_)));refine A3 rfl (AA (ZR f x1 k2 hv (by omega)) ?_);rintro r rfl;refine Fx (h:=x_ (h:=s_ (h:=EG (h:=Am (Ab (?_))))));refine⟨_,⟨_,_,_,?_,?_,rfl⟩,(wk 5 0)⟩
   ·omega
   first|exact Lb hv _ _ _|exact Lc hv _ _|exact Ld hv _ _|exact Lg hv _ _ _ _|exact Le hv _ _ _ _|exact Lf hv _ _ _
  refine B6 (h:=?_);refine A6 rfl (fun hb4 hc4=>?_) (fun hb4 hc4=>?_)
  ·refine Bz ([(1,AW f),(2,[.v (.slice none 0 0)]),(3,A8 x1)]) 15 (h:=AD 0 (h:=AD 1 (h:=Ac 2 (h:=Ac 3 (h:=AD 4 (h:=Ac 6 (h:=?_)))))));refine c_ 5 rfl (AX 0 (hc:=K3 l _ f (by omega) hf hne) (hR:=?_));rintro r a5 ha5 ⟨x5,rfl⟩;refine AY ?_;refine o_ (h:=?_);refine c_ 7 rfl (AX 0 (hc:=Od l _ (by omega)) (hR:=?_));rintro r a6 ha6 ⟨k6,rfl,p6⟩;refine AY ?_;refine o_ (h:=?_);refine c_ 8 rfl (AA (Zh f x1 k2 x5 k6 hv (by omega) (by omega)) ?_);rintro r rfl;refine o_ (h:=Ac 9 (h:=D5 10 (h:=D5 11 (h:=D5 12 (h:=?_)))));refine CG 13 (h:=BM 14 (h:=z_ (h:=Am (Ab (?_)))));refine⟨_,⟨_,_,_,?_,?_,rfl⟩,(wk 5 0)⟩
   ·omega
   first|exact Lb hv _ _ _|exact Lc hv _ _|exact Ld hv _ _|exact Lg hv _ _ _ _|exact Le hv _ _ _ _|exact Lf hv _ _ _
  refine B6 (h:=?_);refine A6 rfl (fun hb5 hc5=>?_) (fun hb5 hc5=>?_)
  ·refine Bz ([(1,AW f),(2,[.v (.slice none 0 0)]),(3,A8 x1)]) 12 (h:=AD 0 (h:=AD 1 (h:=Ac 2 (h:=Ac 4 (h:=?_)))));refine c_ 3 rfl (AX 0 (hc:=Gn l _ (9) (by omega) (by omega)) (hR:=?_));rintro r a7 ha7 ⟨k7,rfl,p7,q7,o7⟩;refine AY ?_;refine o_ (h:=?_);refine c_ 5 rfl (AX 0 (hc:=Gn l _ (9) (by omega) (by omega)) (hR:=?_));rintro r a8 ha8 ⟨k8,rfl,p8,q8,o8⟩;refine AY ?_;refine o_ (h:=?_);refine c_ 6 rfl (AA (ZU f x1 511 k7 k8 hv) ?_);rintro r rfl;refine o_ (h:=Ac 7 (h:=D5 8 (h:=D5 9 (h:=?_))));refine CG 10 (h:=BM 11 (h:=z_ (h:=Am (Ab (?_)))));refine⟨_,⟨_,_,_,?_,?_,rfl⟩,(wk 5 0)⟩
   ·omega
   first|exact Lb hv _ _ _|exact Lc hv _ _|exact Ld hv _ _|exact Lg hv _ _ _ _|exact Le hv _ _ _ _|exact Lf hv _ _ _
  refine Bz ([(1,AW f),(2,[.v (.slice none 0 0)]),(3,A8 x1)]) 12 (h:=AD 0 (h:=AD 1 (h:=Ac 2 (h:=Ac 3 (h:=?_)))));refine c_ 4 rfl (AX 0 (hc:=Zn l _ (by omega)) (hR:=?_));rintro r a9 ha9 ⟨n9,ht9,he9,rfl⟩;refine AY ?_;refine o_ (h:=?_);refine c_ 5 rfl (AA (ZV f x1 k2 n9 hv (by omega) (by omega)) ?_);rintro r rfl;refine o_ (h:=Ac 6 (h:=D5 7 (h:=D5 8 (h:=D5 9 (h:=?_)))));refine CG 10 (h:=BM 11 (h:=z_ (h:=Am (Ab (?_)))));refine⟨_,⟨_,_,_,?_,?_,rfl⟩,(wk 5 0)⟩
  ·omega
  first|exact Lb hv _ _ _|exact Lc hv _ _|exact Ld hv _ _|exact Lg hv _ _ _ _|exact Le hv _ _ _ _|exact Lf hv _ _ _
 rintro t ⟨R1,e,b,hb,hok,rfl⟩;refine BD (h:=C6 (h:=?_));refine A6 rfl (fun hb6 hc6=>?_) (fun hb6 hc6=>?_)
 ·refine D6 (h:=e_ (Ax (BS (?_))));refine Ag none (h5:=(A9 _)) (h6:=⟨_,rfl,rfl,b,hb,rfl,f,rfl,hv,rfl⟩)
 refine AK (D6 (h:=e_ (Ax (?_))));refine Ag none (h5:=(A9 _)) (h6:=⟨_,rfl,rfl,b,hb,rfl,R1,rfl,hok (by omega)⟩)
theorem Zr(l:List Int)(a:Nat)(ha:a≤100000000):Ej prog 75 l a [] 1000 (fun r=>∃f,r= .agg (AW f)∧FlsV f∧0<f.length):=by
 refine enter Tryz.func75 rfl rfl rfl rfl rfl 1 rfl ?_;refine w_ (D4 (h:=e_ (Aa (h:=?_))));refine A3 rfl (AX 0 (hc:=Ci l _ (1) (3) (by omega) (by omega) (by omega) (by omega)) (hR:=?_));rintro r a1 ha1 ⟨k1,rfl,p1,q1⟩;refine AY ?_;refine A3 rfl (AA (TM k1) ?_);rintro r rfl;refine Ea (h:=?_);refine A3 rfl (AX 0 (hc:=Ci l _ (2) (12) (by omega) (by omega) (by omega) (by omega)) (hR:=?_));rintro r a2 ha2 ⟨k2,rfl,p2,q2⟩;refine AY ?_;refine B5 (h:=BL (?_));obtain⟨hv0,hp0⟩:=UW p1 q1;obtain⟨M,rfl⟩:=Int.eq_ofNat_of_zero_le (show 0≤k2 by omega);refine BX (fun n s=>∃(j b:Nat) (f:AM),j≤M∧n=j∧b+80 * j≤a+2+80 * M∧FlsV f∧0<f.length∧s=⟨look [(0, .bp 0 0),(2, .bp 1 0),(3, .bp 2 0),(5, .v (.int .i64 (j:Int)))],⟨[Cq l b,[.v (.slice none 0 0)],AW f],[]⟩⟩) (M) ((wk 3 0)) (⟨M,_,_,Al _,rfl,by omega,hv0,hp0,rfl⟩) ?_;rintro n s ⟨j,b,f,hj,rfl,hb,hv,hp,rfl⟩;refine BD (h:=Dk (h:=?_));refine A6 rfl (fun hb1 hc1=>?_) (fun hb1 hc1=>?_)
 ·refine Bk (h:=BV (h:=l_ (h:=?_)));refine A3 rfl (AX 0 (hc:=Zq l _ f (by omega) hv) (hR:=?_));rintro r a3 ha3 ⟨f3,rfl,hv3,hl3⟩;refine AY ?_;refine s_ (h:=CP (Am (t_ (BV (h:=?_)))));refine A3 rfl (KD rfl rfl (by omega) ?_);refine E8 (h:=?_);refine⟨n - 1,_,by omega,⟨n - 1,_,f3,by omega,rfl,?_,hv3,by omega,rfl⟩,(by rw[show((n - 1:Nat):Int)=(n:Int) - 1 by omega];exact Aj 3 0 rfl rfl rfl rfl ((by repeat (first|exact Sub.nil|refine Ak rfl rfl ?_|refine Ao ?_|refine Ap rfl ?_|refine Aq rfl ?_))))⟩;omega
 refine Cg (h:=D6 (h:=e_ (Ax (?_))));refine Ag none (h5:=(A9 _)) (h6:=⟨_,rfl,rfl,b,by omega,rfl,f,rfl,hv,hp⟩)
end
end Go.Proofs.YtbgnigjfkbmceaaGreatDoor
namespace Go.Proofs.YtbgnigjfkbmceaaGreatDoor
def Ca(s:Spc)(a:A7):Option A7:=if a.2≠1 then some (a.1,(Ai s.files a).parent)else Bb s a.1
def FF(s:Spc):Nat→A7→Prop
 |0,a=>AZ s.files a=false
 |k+1,a=>AZ s.files a=false∨∀b,Ca s a=some b→FF s k b
theorem Ml{s:Spc}{dev:Int}{on:A7}(h:Bb s dev=some on):∃m∈s.mounts,m.1=dev∧m.2=on:=by
 unfold Bb at h
 cases hf:s.mounts.find? fun m:DU=>decide (m.1=dev)with
 |none=>rw[hf]at h;cases h
 |some m=>
   rw[hf]at h;injection h with h;exact⟨m,List.mem_of_find?_eq_some hf,by have:=List.find?_some hf;simpa using this,h⟩
theorem Kn{f:AM}{a:A7}(h:¬AZ f a=false):∃(q:Nat) (d:Dvc) (m:Nod),a.1=(q:Int)∧f[q]?=some d∧m∈d.nodes∧m.ino=a.2∧Ai f a=m∧m.kind=2:=by
 rw[Bool.not_eq_false,Jo,Bool.and_eq_true,decide_eq_true_eq]at h;obtain⟨q,i,d,m,h1,h2,h3,h4,_,h6⟩:=OZ h.1;exact⟨q,d,m,h1,h2,AT h3,h4,h6,by rw[←h6];exact h.2⟩
theorem Li{s:Spc}(hv:SpcV s){a:A7}(h:¬AZ s.files a=false):Ee s a=Ca s a:=by
 obtain⟨q,d,m,_,_,_,h4,h5,_⟩:=Kn h;unfold Ee Ca;rw[h5,h4];split
 ·rfl
 split
 ·rename_i h0
  cases ho:Bb s a.1 with
  |none=>rfl
  |some on=>
    obtain⟨m',hm,h1,_⟩:=Ml ho;obtain⟨i,hi⟩:=List.getElem?_of_mem hm;have:=(hv.mnt i m' hi).dev1;omega
 rfl
def K4(s:Spc)(dev:Int):Nat:=match s.mounts.findIdx? fun m:DU=>decide (m.1=dev)with
 |none=>0
 |some i=>i+1
theorem UX{s:Spc}(hv:SpcV s){dev:Int}{on:A7}(h:Bb s dev=some on):K4 s on.1<K4 s dev:=by
 unfold Bb at h
 cases hf:s.mounts.find? fun m:DU=>decide (m.1=dev)with
 |none=>rw[hf]at h;cases h
 |some m=>
   rw[hf]at h;injection h with h;subst h;rw[List.find?_eq_some_iff_getElem]at hf;obtain⟨hp,i,hi,hmi,hbefore⟩:=hf
   have e1:s.mounts.findIdx? (fun m:DU=>decide (m.1=dev))=some i:=by
    rw[List.findIdx?_eq_some_iff_getElem];exact⟨hi,by rw[hmi];exact hp,fun j hj=>by simpa using hbefore j hj⟩
   have hthere:=(hv.mnt i m (by rw[BA hi,hmi])).there;unfold K4;rw[e1]
   cases e2:s.mounts.findIdx? (fun m':DU=>decide (m'.1=m.2.1))with
   |none=>simp
   |some j=>
     simp only;by_cases h0:m.2.1=0
     ·rw[List.findIdx?_eq_some_iff_getElem]at e2;obtain⟨hj,h1,_⟩:=e2;have:=(hv.mnt j _ (BA hj)).dev1;simp only[decide_eq_true_eq]at h1;omega
     unfold C9 Bb at hthere;simp only[Bool.or_eq_true,decide_eq_true_eq,h0,or_false,Option.isSome_map]at hthere
     cases hg:(s.mounts.take i).find? fun m':DU=>decide (m'.1=m.2.1)with
     |none=>rw[hg]at hthere;cases hthere
     |some m'=>
       rw[List.find?_eq_some_iff_getElem]at hg;obtain⟨hp',k,hk,hmk,_⟩:=hg;rw[List.findIdx?_eq_some_iff_getElem]at e2;obtain⟨hj,_,hno⟩:=e2;have hki:k<i:=by simp at hk;omega
       by_cases hjk:j≤k
       ·omega
       have:=hno k (by omega);simp only[List.getElem_take]at hmk;rw[hmk]at this;rw[hp']at this;exact absurd rfl this
theorem Zs{s:Spc}(hv:SpcV s):∀(p:Nat) (a:A7),K4 s a.1<p→∃k,FF s k a:=by
 intro p
 induction p with
 |zero=>intro a h;omega
 |succ p ih=>
   intro a hp;by_cases hd:AZ s.files a=false
   ·exact⟨0,hd⟩
   obtain⟨q,d,m,hq,hfd,_⟩:=Kn hd;have hvd:=hv.files.vd d (AT hfd);obtain⟨rk,hrk⟩:=hvd.rank
   have key:∀(r:Nat) (ino:Int),rk ino<r→∃k,FF s k (a.1,ino):=by
    intro r
    induction r with
    |zero=>intro ino h;omega
    |succ r ihr=>
      intro ino hr;by_cases hd2:AZ s.files (a.1,ino)=false
      ·exact⟨0,hd2⟩
      obtain⟨q',d',m',hq',hfd',hm',hi',hn',hk'⟩:=Kn hd2;have:q'=q:=by simp only at hq';omega
      subst this;rw[hfd]at hfd';injection hfd' with hfd';subst hfd';simp only at hi';by_cases h1:ino=1
      ·cases ho:Bb s a.1 with
       |none=>exact⟨1, .inr fun b hb=>by simp[Ca,h1,ho]at hb⟩
       |some on=>
         obtain⟨k,hk⟩:=ih on (by have:=UX hv ho;omega);refine⟨k+1, .inr fun b hb=>?_⟩;simp[Ca,h1,ho]at hb;rw[←hb];exact hk
      obtain⟨k,hk⟩:=ihr m'.parent (by have:=hrk m' hm' (by omega) hk';rw[hi']at this;omega);refine⟨k+1, .inr fun b hb=>?_⟩;simp[Ca,h1,hn']at hb;rw[←hb];exact hk
   exact key (rk a.2+1) a.2 (by omega)
theorem Ko{s:Spc}{a:A7}(h:AZ s.files a=false):∀k,B8 s k a=[]
 |0=>rfl
 |k+1=>by unfold B8;rw[h];rfl
theorem Hd{s:Spc}{a:A7}(h:¬AZ s.files a=false)(k:Nat):B8 s (k+1) a=a::(match Ee s a with
    |none=>[]
    |some b=>B8 s k b):=by
 conv=>lhs;unfold B8
 rw[if_pos (by simpa using h)];cases Ee s a<;>rfl
theorem Qz{s:Spc}(hv:SpcV s):∀(k k':Nat) (a:A7),FF s k a→FF s k' a→B8 s k a=B8 s k' a:=by
 intro k
 induction k with
 |zero=>intro k' a h _;rw[Ko h,Ko h]
 |succ k ih=>
   intro k' a h h';by_cases hd:AZ s.files a=false
   ·rw[Ko hd,Ko hd]
   cases k' with
   |zero=>exact absurd h' hd
   |succ k'=>
     rw[Hd hd,Hd hd];have h1:=h.resolve_left hd;have h2:=h'.resolve_left hd;rw[←Li hv hd]at h1 h2
     cases hs:Ee s a with
     |none=>rfl
     |some b=>simp only;rw[ih k' b (h1 b hs) (h2 b hs)]
theorem R2{s:Spc}(hv:SpcV s):∀(k:Nat) (a x:A7),FF s k a→x∈B8 s k a→(¬AZ s.files x=false)∧∃j,FF s j x∧(B8 s j x).length≤(B8 s k a).length:=by
 intro k
 induction k with
 |zero=>intro a x h hx;cases hx
 |succ k ih=>
   intro a x h hx;by_cases hd:AZ s.files a=false
   ·rw[Ko hd]at hx;cases hx
   have h1:=h.resolve_left hd;rw[←Li hv hd]at h1;rw[Hd hd]at hx;rcases List.mem_cons.1 hx with rfl|hx
   ·exact⟨hd,k+1,h,Al _⟩
   rw[Hd hd]
   cases hs:Ee s a with
   |none=>rw[hs]at hx;cases hx
   |some b=>
     rw[hs]at hx;obtain⟨h2,j,h3,h4⟩:=ih b x (h1 b hs) hx;exact⟨h2,j,h3,by simp;omega⟩
theorem UY{s:Spc}(hv:SpcV s):∀(k:Nat) (a:A7),FF s k a→(B8 s k a).Nodup:=by
 intro k
 induction k with
 |zero=>intro a h;exact List.nodup_nil
 |succ k ih=>
   intro a h;by_cases hd:AZ s.files a=false
   ·rw[Ko hd];exact List.nodup_nil
   have h1:=h.resolve_left hd;rw[←Li hv hd]at h1
   cases hs:Ee s a with
   |none=>rw[Hd hd,hs];simp
   |some b=>
     have e:B8 s (k+1) a=a::B8 s k b:=by rw[Hd hd,hs]
     rw[e,List.nodup_cons];refine⟨fun hm=>?_,ih b (h1 b hs)⟩;obtain⟨_,j,h3,h4⟩:=R2 hv k b a (h1 b hs) hm;rw[Qz hv j (k+1) a h3 h,e]at h4;simp at h4;omega
def Lj:Nat→AM→List A7
 |_,[]=>[]
 |q,d::ds=>d.nodes.map (fun n=>((q:Int),n.ino))++Lj (q+1) ds
theorem UZ:∀(f:AM) (q:Nat),(Lj q f).length=BG f
 |[],_=>rfl
 |d::ds,q=>by
   have:=UZ ds (q+1);unfold BG at this ⊢;simp only[Lj,List.length_append,List.length_map,List.map_cons,List.sum_cons];omega
theorem Ua:∀(f:AM) (q i:Nat) (d:Dvc) (m:Nod),f[i]?=some d→m∈d.nodes→(((q+i:Nat):Int),m.ino)∈Lj q f
 |[],_,i,_,_,h,_=>by simp at h
 |d0::ds,q,0,d,m,h,hm=>by
   simp only[List.getElem?_cons_zero,Option.some.injEq]at h;subst h;simp only[Lj,Nat.add_zero];exact List.mem_append_left _ (List.mem_map.2 ⟨m,hm,rfl⟩)
 |d0::ds,q,i+1,d,m,h,hm=>by
   simp only[List.getElem?_cons_succ]at h;have:=Ua ds (q+1) i d m h hm;simp only[Lj];refine List.mem_append_right _ ?_
   rwa [show q+(i+1)=q+1+i by omega]
theorem Zt{l:List A7}(hn:l.Nodup):∀{m:List A7},(∀x∈l,x∈m)→l.length≤m.length:=by
 induction l with
 |nil=>intro m _;simp
 |cons x xs ih=>
   intro m h;rw[List.nodup_cons]at hn
   have h1:=ih hn.2 (m:=m.erase x) fun y hy=>by
    have hne:y≠x:=fun e=>hn.1 (e ▸ hy);exact(List.mem_erase_of_ne hne).2 (h y (List.mem_cons_of_mem _ hy))
   have h2:=List.length_erase_of_mem (h x (List.mem_cons_self ..));have h3:0<m.length:=List.length_pos_of_mem (h x (List.mem_cons_self ..));simp only[List.length_cons];omega
theorem Zu{s:Spc}(hv:SpcV s){k:Nat}{a:A7}(h:FF s k a):(B8 s k a).length≤BG s.files:=by
 rw[←UZ s.files 0];refine Zt (UY hv k a h) fun x hx=>?_;obtain⟨hd,_⟩:=R2 hv k a x h hx;obtain⟨q,d,m,h1,h2,h3,h4,_⟩:=Kn hd;have:=Ua s.files 0 q d m h2 h3;rw[Nat.zero_add,h4,←h1]at this;exact this
theorem Zv{s:Spc}(hv:SpcV s):∀(k m:Nat) (a:A7),FF s k a→(B8 s k a).length≤m→FF s m a:=by
 intro k
 induction k with
 |zero=>
   intro m a h _
   cases m with
   |zero=>exact h
   |succ m=>exact .inl h
 |succ k ih=>
   intro m a h hl;by_cases hd:AZ s.files a=false
   ·cases m with
    |zero=>exact hd
    |succ m=>exact .inl hd
   have h1:=h.resolve_left hd;rw[Hd hd]at hl
   cases m with
   |zero=>simp at hl
   |succ m=>
     refine .inr fun b hb=>?_;have hb':=hb;rw[←Li hv hd]at hb';rw[hb']at hl;exact ih m b (h1 b hb) (by simpa using hl)
theorem J7{s:Spc}(hv:SpcV s)(a:A7):FF s (BG s.files) a:=by
 obtain⟨k,hk⟩:=Zs hv (K4 s a.1+1) a (Nat.lt_succ_self _);exact Zv hv k _ a hk (Zu hv hk)
end Go.Proofs.YtbgnigjfkbmceaaGreatDoor
namespace Go.Proofs.YtbgnigjfkbmceaaGreatDoor
theorem Zw{s:Spc}(hv:SpcV s):∀(k:Nat) (a x:A7),FF s k a→x∈B8 s k a→∃j,FF s j x∧B8 s j x<:+B8 s k a:=by
 intro k
 induction k with
 |zero=>intro a x h hx;cases hx
 |succ k ih=>
   intro a x h hx;by_cases hd:AZ s.files a=false
   ·rw[Ko hd]at hx;cases hx
   have h1:=h.resolve_left hd;rw[←Li hv hd]at h1;rw[Hd hd]at hx;rcases List.mem_cons.1 hx with rfl|hx
   ·exact⟨k+1,h,List.suffix_refl _⟩
   rw[Hd hd]
   cases hs:Ee s a with
   |none=>rw[hs]at hx;cases hx
   |some b=>
     rw[hs]at hx;obtain⟨j,h3,h4⟩:=ih b x (h1 b hs) hx;exact⟨j,h3,h4.trans (List.suffix_cons _ _)⟩
section
variable {s:Spc}(hv:SpcV s)
include hv
theorem Zx{a b:A7}(h:a∈B8 s (BG s.files) b):B8 s (BG s.files) a<:+B8 s (BG s.files) b:=by
 obtain⟨j,h1,h2⟩:=Zw hv _ b a (J7 hv b) h
 rwa [Qz hv j (BG s.files) a h1 (J7 hv a)]at h2
theorem Oe{a:A7}(h:AZ s.files a=true):∃t,B8 s (BG s.files) a=a::t:=by
 have hd:¬AZ s.files a=false:=by rw[h];simp
 have:=J7 hv a
 cases hm:BG s.files with
 |zero=>rw[hm]at this;exact absurd this hd
 |succ m=>exact⟨_,Hd hd m⟩
theorem Zy{a b:A7}(h:a∈B8 s (BG s.files) b):AZ s.files a=true:=by
 have:=(R2 hv _ b a (J7 hv b) h).1
 simpa using this
end
end Go.Proofs.YtbgnigjfkbmceaaGreatDoor
namespace Go.Proofs.YtbgnigjfkbmceaaGreatDoor
open Go.RowKit Go.Shelf
section
variable {F:Fence}{n:Nat}{P:Program}
theorem Zz{α:Type}{g:Operand}{ps:Array Tmp}{assign body:Code}{Q:Exit→Act→World→Prop}{a:Act}{w:World}
    (hro:F.round=none) (h1:1≤n) {gf:Nat} {lb:Array Value} (hg:a.eval g= .func (.func gf) #[] lb) (hFg:F.fn gf) (eg:∀args w,(callFunc gf args).run P w= .ok (.enter gf args) w)
    {encs:α→Array Value} {own:Nat→Prop} {Kp:World→World→Prop} {Pf:List α→Prop} {S Sp:List α→Prop} {w0:World} (hseq:OS F (n - 1) P gf lb encs own Kp Pf S Sp w0)
    (hown:∀b,own b→b<w.heap.size) (hKt:∀{A B C:World},Kp A B→Kp B C→Kp A C) (hKb:∀(W:World) (l:Nat) (o o':Obj),w.heap.size≤l→W.heap[l]?=some o→o.isCells=false→Kp W (W.putObj l o'))
    (hb0:Below w0.heap.size w0 w) (hps:∀x,(encs x).size=ps.size)
    (I:List α→World→Prop) (Ix:Code→List α→World→Prop) (hI:∀s X Y,I s X→Moves own w.heap.size X Y→I s Y) (hIx:∀c s X Y,Ix c s X→Moves own w.heap.size X Y→Ix c s Y) (h0:I [] w) (a₁:α→World→Act) (w₁:α→World→World) (hw1:∀x W,w.heap.size+2≤W.heap.size→Below W.heap.size W (w₁ x W)∧Kp W (w₁ x W))
    (hassign:∀(l:Nat) (x:α) (W:World) (K:Act→World→Prop),w.heap.size+2≤W.heap.size→K (a₁ x W) (w₁ x W)→
      assign.wpIn (F.inRound l) (n - 1 - 1) P (Exit.then K (fun _ _ _=>False)) {tmps:=(ps.zip (encs x)).foldl (fun t (p,v)=>t.setIfInBounds p v) a.tmps,defers:=[]} W)
    (hbody:∀(l:Nat) (pre:List α) (x:α) (W0 W:World),I pre W→Pf (pre++[x])→w.heap.size+2≤W0.heap.size→(w₁ x W0).heap.size≤W.heap.size→(∀(k:Nat) (o:Obj),(w₁ x W0).heap[k]?=some o→o.isCells=true→W.heap[k]?=some o)→w.heap.size≤l→(∃r,W.heap[l]?=some (.loop r))→
      body.wpIn (F.inRound l) (n - 1 - 1) P (ownPostG w.heap.size Kp I Ix (pre++[x]) W) (a₁ x W0) W)
    (hdone:∀(D:Nat) (xs:List α) (W:World),w.heap.size≤D→S xs→I xs W→W.heap[D]?=some (.deferred (some []))→Q .normal {a with defers:={target:= .collected D,args:=#[]}::a.defers} W)
    (hstop:∀(D:Nat) (c:Code) (pre:List α) (W:World),w.heap.size≤D→Sp pre→Ix c pre W→W.heap[D]?=some (.deferred (some []))→c.wpIn F n P Q {a with defers:={target:= .collected D,args:=#[]}::a.defers} W):
    (Code.rangeFunc g ps assign body).wpIn F n P Q a w:=by
 refine wpIn_rangeFunc ?_;intro fn hfn;rw[hro];obtain⟨rec,hrec⟩:∃rec:LoopState→Option Code→Loop,rec=fun st pe=>{state:=st,pending:=pe,fn,tmps:=a.tmps,params:=ps,assign,body,defers:=w.heap.size}:=⟨_,rfl⟩;obtain⟨W1,hW1⟩:∃W1,(w.alloc (.deferred (some []))).alloc (.loop (rec .ready none))=W1:=⟨_,rfl⟩;have hbw:Below w.heap.size w W1:=by rw[←hW1];exact Ke w _ _
 have hsz:W1.heap.size=w.heap.size+2:=by rw[←hW1];simp
 have hL1:W1.heap[w.heap.size+1]?=some (.loop (rec .ready none)):=by rw[←hW1];exact LQ _ _ _
 have hK1:W1.heap[w.heap.size]?=some (.deferred (some [])):=by rw[←hW1];exact LP _ _ _
 have hn0:¬own w.heap.size:=fun h=>by have:=hown _ h;omega
 have hn1:¬own (w.heap.size+1):=fun h=>by have:=hown _ h;omega
 refine⟨w.heap.size+1,[{target:= .collected w.heap.size,args:=#[]}],W1,{target:= .fn (.func gf) lb,args:=#[.func (.yield (w.heap.size+1)) #[] #[]]},W1,gf,
  #[.func (.yield (w.heap.size+1)) #[] #[]]++lb,W1,?_,?_,?_,?_,fun _=>h1,?_⟩
 ·rw[←hW1,hrec];exact run_enterLoop_outer _ _ _ _ _
 ·simp only[resolve,hg];simp[go_sem]
 ·intro f' hf';simp[Target.leads]at hf';subst hf';exact hFg
 ·simp[invoke,go_sem,eg]
 have lt_of:∀{W:World} {k:Nat} {o:Obj},W.heap[k]?=some o→k<W.heap.size:=fun h=>(Array.getElem?_eq_some_iff.1 h).1;have keep:∀{X Y:World} {k:Nat} {o:Obj},Moves own W1.heap.size X Y→X.heap[k]?=some o→k<W1.heap.size→¬own k→Y.heap[k]?=some o:=fun hm hx hk hn=>(hm.block _ (lt_of hx) hn (.inl hk)).trans hx
 refine(hseq (w.heap.size+1)
  (fun pre W=>I pre W∧W.heap[w.heap.size+1]?=some (.loop (rec .ready none))∧W.heap[w.heap.size]?=some (.deferred (some [])))
  (fun pre W=>∃c,Ix c pre W∧W.heap[w.heap.size+1]?=some (.loop (rec .done (some c)))∧W.heap[w.heap.size]?=some (.deferred (some [])))
  W1 (hb0.trans (hbw.mono hb0.size))
  (fun s X Y hs hm=>⟨hI s X Y hs.1 (hm.mono (by omega)),keep hm hs.2.1 (by omega) hn1,keep hm hs.2.2 (by omega) hn0⟩)
  (fun s X Y hs hm=>by
    obtain⟨c,hc,hl,hk⟩:=hs
    exact⟨c,hIx c s X Y hc (hm.mono (by omega)),keep hm hl (by omega) hn1,keep hm hk (by omega) hn0⟩)
  ?_ ⟨hI _ _ _ h0 (.below hbw),hL1,hK1⟩).mono ?_
 ·rintro pre x W0 ⟨hi0,hl0,hk0⟩ hpf;have hlt0:w.heap.size+1<W0.heap.size:=lt_of hl0;obtain⟨hbV,hkV⟩:=hw1 x W0 hlt0;obtain⟨W,hWe⟩:∃W,w₁ x W0=W:=⟨_,rfl⟩;rw[hWe]at hbV hkV;have hi:I pre W:=hI _ _ _ hi0 (.below hbV);have hl:=(hbV.block _ (by omega)).trans hl0;have hk:=(hbV.block _ (by omega)).trans hk0;have hlt:w.heap.size+1<W.heap.size:=lt_of hl;have hy:=run_yield (P:=P) (args:=encs x) hl0 (by rw[hrec];exact hps x);rw[hrec]at hy;refine⟨fn,_,assign,body,hy,roundIn_of_wpIn hfn (hassign _ x W0 _ hlt0 ⟨_,run_beginRound (by rw[hWe];exact hl) (by rw[hrec]),?_⟩)⟩;rw[hWe];have hl2:(W.putObj (w.heap.size+1) (.loop {rec .ready none with state:= .busy})).heap[w.heap.size+1]?=some (.loop {rec .ready none with state:= .busy}):=World.putObj_heap_same hlt;have hk2:(W.putObj (w.heap.size+1) (.loop {rec .ready none with state:= .busy})).heap[w.heap.size]?=some (.deferred (some [])):=(World.putObj_heap_other (by omega)).trans hk;have hw2:Kp W0 (W.putObj (w.heap.size+1) (.loop {rec .ready none with state:= .busy})):=hKt hkV (hKb _ _ _ _ (by omega) hl rfl)
  refine wpIn_mono (hbody _ pre x W0 _ (hI _ _ _ hi (.put_ _ hl rfl (by omega))) hpf hlt0 (by rw[hWe];exact(grownBy_putObj' W (w.heap.size+1) _).size) (fun k o hko hoc=>by
   rw[hWe]at hko;refine(World.putObj_heap_other fun e=>?_).trans hko;subst e;rw[hl]at hko;injection hko with hko;subst hko
   cases hoc) (by omega) ⟨_,hl2⟩) ?_
  have fin:∀(jump:Option Code) (W3:World),KeepsFrom w.heap.size (W.putObj (w.heap.size+1) (.loop {rec .ready none with state:= .busy})) W3→
      (Instr.endRound (w.heap.size+1) jump).run P W3= .ok (.bool jump.isNone) (W3.putObj (w.heap.size+1) (.loop (rec (if jump.isNone then .ready else .done) jump)))∧
      W3.heap[w.heap.size+1]?=some (.loop {rec .ready none with state:= .busy})∧
      (W3.putObj (w.heap.size+1) (.loop (rec (if jump.isNone then .ready else .done) jump))).heap[w.heap.size+1]?=some (.loop (rec (if jump.isNone then .ready else .done) jump))∧
      (W3.putObj (w.heap.size+1) (.loop (rec (if jump.isNone then .ready else .done) jump))).heap[w.heap.size]?=some (.deferred (some [])):=fun jump W3 hk3=>by
   have hl3:=hk3.same _ _ (by omega) hl2 rfl;have:=run_endRound (P:=P) jump hl3;rw[hrec]at this ⊢;exact⟨this,by rw[hrec]at hl3;exact hl3,World.putObj_heap_same (lt_of hl3),(World.putObj_heap_other (by omega)).trans (hk3.same _ _ (Al _) hk2 rfl)⟩
  rintro e a3 W3 hp
  cases e with
  |normal=>
    obtain⟨hk3,hkp3,hi3⟩:=hp;obtain⟨hr,hl3,hl4,hk4⟩:=fin none W3 hk3;exact⟨_,_,hr, .inl ⟨rfl,⟨hI _ _ _ hi3 (.put_ _ hl3 rfl (by omega)),hl4,hk4⟩,hKt (hKt hw2 hkp3) (hKb _ _ _ _ (by omega) hl3 rfl)⟩⟩
  |ret=>
    obtain⟨hk3,hi3⟩:=hp;obtain⟨hr,hl3,hl4,hk4⟩:=fin (some .ret) W3 hk3;exact⟨_,_,hr, .inr ⟨rfl, .ret,hIx _ _ _ _ hi3 (.put_ _ hl3 rfl (by omega)),hl4,hk4⟩⟩
  |exit id=>
    obtain⟨hk3,hi3⟩:=hp;obtain⟨hr,hl3,hl4,hk4⟩:=fin (some (.exit id)) W3 hk3;exact⟨_,_,hr, .inr ⟨rfl, .exit id,hIx _ _ _ _ hi3 (.put_ _ hl3 rfl (by omega)),hl4,hk4⟩⟩
  |goto t=>
    obtain⟨hk3,hi3⟩:=hp;obtain⟨hr,hl3,hl4,hk4⟩:=fin (some (.goto t)) W3 hk3;exact⟨_,_,hr, .inr ⟨rfl, .goto t,hIx _ _ _ _ hi3 (.put_ _ hl3 rfl (by omega)),hl4,hk4⟩⟩
  |panic ch=>exact hp.elim
  |outgrown=>exact hp.elim
 rintro e W2 ⟨⟨v,rfl⟩,(⟨xs,hS,hi,hl,hk⟩|⟨pre,hSp,c,hi,hl,hk⟩)⟩
 ·exact⟨none,_,by have:=run_endLoop (P:=P) hl (by rw[hrec];simp);rw[hrec]at this;exact this,hdone _ xs _ (Al _) hS (hI _ _ _ hi (.put_ _ hl rfl (by omega))) ((World.putObj_heap_other (by omega)).trans hk)⟩
 exact⟨some c,_,by have:=run_endLoop (P:=P) hl (by rw[hrec];simp);rw[hrec]at this;exact this,hstop _ c pre _ (Al _) hSp (hIx _ _ _ _ hi (.put_ _ hl rfl (by omega))) ((World.putObj_heap_other (by omega)).trans hk)⟩
end
theorem aA{W:World}{k:Nat}{o:Obj}(h:W.heap[k]?=some o):k<W.heap.size:=(Array.getElem?_eq_some_iff.1 h).1
attribute [local go_sem] Oper.semAt_some
set_option maxRecDepth 100000 in
set_option maxHeartbeats 2000000 in
theorem aB(n:Nat)(hn:Hid (1≤n))(s:Spc)(hs:SpcB s)(root dir:A7)(ds ms:Value)(w:World)(h:SpcIn s w.heap.size w ds ms):
    CallsIn Fence.wide n prog 120 #[.agg #[ds,ms],FV root,FV dir] w fun e w'=>e= .returned (.bool (decide (root∈B8 s (BG s.files) dir)))∧Below w.heap.size w w':=by
 obtain⟨rd,ri⟩:=root;obtain⟨dd,di⟩:=dir;unfold FV;refine callsIn_of_wp_marks Tryz.func120 rfl trivial ?_ rfl;simp only[Tryz.ntmps120,List.size_toArray,List.length_cons,List.length_nil,Nat.reduceAdd,Nat.reduceSub,Array.replicate_succ,Array.replicate_zero,List.push_toArray,List.append_toArray,List.nil_append,List.cons_append]
 gi_wp2_with fail
 obtain⟨W4,hW4⟩:∃W4,(((w.alloc (.cells #[ds,ms] 42)).alloc (.cells #[.int .i64 rd, .int .i64 ri] 26)).alloc (.cells #[.int .i64 dd, .int .i64 di] 26)).alloc (.cells #[.bool false] 4)=W4:=⟨_,rfl⟩;have hz4:W4.heap.size=w.heap.size+4:=by rw[←hW4];simp
 have hB4:Below w.heap.size w W4:=by rw[←hW4];exact TQ _ _ _ _ _
 have kR:W4.heap[w.heap.size+1]?=some (.cells #[.int .i64 rd, .int .i64 ri] 26):=by rw[←hW4];exact TR _ _ _ _ _
 have kE:Boxed W4 (w.heap.size+1+1+1) 4 (.bool false):=by rw[←hW4];exact TS _ _ _ _ _
 rw[hW4];have HZ4:=Lib.hid hz4;clear hW4;refine Kj ((callsIn_wide.2 (Z5 ds ms (dd,di) W4)).mono ?_);rintro e W6 ⟨rfl,hW6⟩;have hB6:Below W4.heap.size W4 W6:=by rw[hW6];exact Ke _ _ _
 have hz6:W6.heap.size=w.heap.size+6:=by rw[hW6];simp[hz4]
 have kS:W6.heap[W4.heap.size]?=some (.cells #[ds,ms] 42):=by rw[hW6];exact LP _ _ _
 have kD:W6.heap[W4.heap.size+1]?=some (.cells #[.int .i64 dd, .int .i64 di] 26):=by rw[hW6];exact LQ _ _ _
 have kR6:=Dx kR hB6 (by omega);have kE6:Boxed W6 (w.heap.size+1+1+1) 4 (.bool false):=Dx kE hB6 (by omega);have hBw:Below w.heap.size w W6:=hB4.trans (hB6.mono (by omega));have kSp:=h.below hBw (Al _);have HZ6:=Lib.hid hz6;clear hW6 kR kE hB4 hB6 hz6 hz4
 gi_wp2_with fail
 refine Zz rfl hn.out (gf:=228) rfl trivial (enters_of Tryz.func228 (by kernel_rfl) rfl)
  (Z9 (n - 1) s hs (dd,di) w.heap.size W4.heap.size (W4.heap.size+1) ds ms W6 kS kD kSp (by have:=HZ4.out;omega) (by have:=HZ4.out;omega) (by omega))
  (fun b hb=>by have:=HZ4.out;have:=HZ6.out;omega) KeepC.trans (fun W l o o' hl ho hc=>by have:=HZ4.out;have:=HZ6.out;exact Z7 (B:=W6.heap.size) (by omega) (by omega) (by omega) W l o o' hl ho hc) (Below.refl _ _) (fun _=>rfl)
  (fun pre W=>W.heap[w.heap.size+1]?=some (.cells #[.int .i64 rd, .int .i64 ri] 26)∧Boxed W (w.heap.size+1+1+1) 4 (.bool false)∧(rd,ri)∉pre∧Below w.heap.size w W)
  (fun c pre W=>c= .ret∧Boxed W (w.heap.size+1+1+1) 4 (.bool true)∧(rd,ri)∈pre∧Below w.heap.size w W)
  (fun s X Y h hm=>⟨(hm.block _ (aA h.1) (by have:=HZ4.out;omega) (.inr ⟨_,h.1,rfl⟩)).trans h.1,hm.boxed h.2.1 (by have:=HZ4.out;omega),h.2.2.1,hm.under h.2.2.2 (Al _) (fun b hb=>by have:=HZ4.out;omega) (by have:=HZ6.out;omega)⟩)
  (fun c s X Y h hm=>⟨h.1,hm.boxed h.2.1 (by have:=HZ4.out;omega),h.2.2.1,hm.under h.2.2.2 (Al _) (fun b hb=>by have:=HZ4.out;omega) (by have:=HZ6.out;omega)⟩)
  ⟨kR6,kE6,by simp,hBw⟩
  (fun x W=>{tmps:=#[.agg #[ds,ms], .agg #[.int .i64 rd, .int .i64 ri], .agg #[.int .i64 dd, .int .i64 di], .pointer (some ⟨w.heap.size,0,none⟩), .pointer (some ⟨w.heap.size+1,0,none⟩), .pointer (some ⟨w.heap.size+1+1,0,none⟩), .pointer (some ⟨w.heap.size+1+1+1,0,none⟩), .pointer (some ⟨W.heap.size,0,none⟩), .agg #[ds,ms], .agg #[.int .i64 dd, .int .i64 di],
    .func (.func 228) #[] #[.pointer (some ⟨W4.heap.size,0,none⟩), .pointer (some ⟨W4.heap.size+1,0,none⟩)], .agg #[.int .i64 x.1, .int .i64 x.2],undef,undef,undef],defers:=[]})
  (fun x W=>W.alloc (.cells #[.int .i64 x.1, .int .i64 x.2] 26))
  (fun x W hsz=>⟨Hz _ _,by have:=HZ4.out;have:=HZ6.out;exact Ts (Hz _ _) (by omega) (by omega) (by omega)⟩) ?assign ?body ?done ?stop
 case assign=>
  intro l x W K hsz hK;unfold FV
  gi_wp2
  exact hK
 case body=>
  rintro l pre x W0 W ⟨c1,cE,hnm,hbw⟩ _ hsz hszW hcell _ _;have cX:=hcell _ _ (LO W0 (.cells #[.int .i64 x.1, .int .i64 x.2] 26)) rfl;have HN:=Lib.hid hnm;have HZ:=Lib.hid hsz;clear hnm hsz hcell;obtain⟨c1',f1'⟩:=Ed c1;obtain⟨cX',fX'⟩:=Ed cX;have cE':=cE.cell;have fE':=cE.frozen;have h4:=HZ4.out;have h6:=HZ6.out;simp only[QD]at hszW
  gi_wp2_with fail
  ·exact⟨Tq (OP (Below.refl _ _)) (by omega) _,rfl,cE.set _,List.mem_append_right _ (by simp;exact Prod.ext (by simp[*]) (by simp[*])),hbw.setCell (by show w.heap.size≤w.heap.size+1+1+1;omega) _⟩
  all_goals
   have hz:=HZ.out
   exact⟨OP (Below.refl _ _),Ts (Below.refl _ _) (by omega) (by omega) (by omega),c1,cE,by
    intro hm;rcases List.mem_append.1 hm with hm|hm
    ·exact HN.out hm
    simp only[List.mem_singleton]at hm;subst hm
    simp_all,hbw⟩
 case done=>
  rintro D xs W hD hS ⟨_,hc,hnm,hbw⟩ hK;have HS:=Lib.hid hS;have HN:=Lib.hid hnm;clear hS hnm;have hcell:=hc.cell;have hfz:=hc.frozen
  gi_wp2
  have h4:=HZ4.out;have h6:=HZ6.out;refine⟨by simp, .inl ⟨_,_,rfl,run_takeDeferred ((KeepsOthers.setCell _ _ _).same D _ hK rfl),?_⟩⟩;have hcb:=(OQ (hc.set (.bool false)) (show w.heap.size+1+1+1≠D by omega) (.deferred none)).cell;refine⟨.bool false,by simp[results,Tryz.f120,go_sem,hcb],by rw[decide_eq_false (by rw[←HS.out];exact HN.out)],OR (hbw.setCell (p:=⟨w.heap.size+1+1+1,0,none⟩) (by show w.heap.size≤w.heap.size+1+1+1;omega) _) (by omega) _⟩
 case stop=>
  rintro D c pre W hD hSp ⟨rfl,hc,hnm,hbw⟩ hK;have HS:=Lib.hid hSp;have HN:=Lib.hid hnm;clear hSp hnm;have hcell:=hc.cell
  gi_wp2
  have h4:=HZ4.out;have h6:=HZ6.out;refine⟨by simp, .inl ⟨_,_,rfl,run_takeDeferred hK,?_⟩⟩;have hcb:=(OQ hc (show w.heap.size+1+1+1≠D by omega) (.deferred none)).cell;refine⟨.bool true,by simp[results,Tryz.f120,go_sem,hcb],by rw[decide_eq_true (HS.out.subset HN.out)],OR hbw (by omega) _⟩
end Go.Proofs.YtbgnigjfkbmceaaGreatDoor
namespace Go.Proofs.YtbgnigjfkbmceaaGreatDoor
open Go.RowKit Go.Shelf
attribute [local go_sem] Oper.semAt_some
end Go.Proofs.YtbgnigjfkbmceaaGreatDoor
namespace Go.Proofs.YtbgnigjfkbmceaaGreatDoor
open Go.RowKit
def JS(s:Spc)(a:A7):Nod:=Ai s.files (a.1,(Ai s.files a).parent)
def He(s:Spc)(a:A7):AB:=(((JS s a).entries.find? fun e:B0=>decide (e.2=a.2)).map (·.1)).getD ⟨#[]⟩
end Go.Proofs.YtbgnigjfkbmceaaGreatDoor
namespace Go.Proofs.YtbgnigjfkbmceaaGreatDoor
open Go.RowKit Go.Shelf
section
variable {F:Fence}{n:Nat}{P:Program}
end
def H0(d m:AB):AB:=if d.data.toList.getLast?=some 47 then d++m else d++⟨#[47]⟩++m
end Go.Proofs.YtbgnigjfkbmceaaGreatDoor
namespace Go.Proofs.YtbgnigjfkbmceaaGreatDoor
open Go.RowKit Go.Shelf
attribute [local go_sem] Oper.semAt_some
end Go.Proofs.YtbgnigjfkbmceaaGreatDoor
namespace Go.Proofs.YtbgnigjfkbmceaaGreatDoor
open Go.RowKit Go.Shelf
attribute [local go_sem] Oper.semAt_some
def Ll(s:Spc)(pre:List A7):List AB:=(pre.filter fun x:A7=>decide (x.2≠1)).map (He s)
def Lm(s:Spc)(pre:List A7):AB:=(Ll s pre).reverse.foldl H0 ⟨#[47]⟩
def Cj(s:Spc)(dir:A7):AB×Bool:=
 if AZ s.files dir=true∧C9 s dir.1=true∧(0,1)∈B8 s (BG s.files) dir then(Lm s ((B8 s (BG s.files) dir).takeWhile fun x=>decide (x≠(0,1))),true)else(⟨#[]⟩,false)
end Go.Proofs.YtbgnigjfkbmceaaGreatDoor
namespace Go.Proofs.YtbgnigjfkbmceaaGreatDoor
open Go.RowKit Go.Shelf
attribute [local go_sem] Oper.semAt_some
def R3(s:Spc)(dir x:A7):Bool:=match CJ s x with
 |none=>true
 |some d=>decide (∃y∈B8 s (BG s.files) dir,y.1=d)
def EO(s:Spc)(dir:A7):Bool:=(Cj s dir).2&&(B8 s (BG s.files) dir).all (R3 s dir)
end Go.Proofs.YtbgnigjfkbmceaaGreatDoor
namespace Go.Proofs.YtbgnigjfkbmceaaGreatDoor
open Go.RowKit
theorem SpcV.b{s:Spc}(h:SpcV s)(hm:s.mounts.length≤1000):SpcB s:=⟨h.files.b,hm⟩
section
theorem R4(l:List Int)(a:Nat)(ha:a≤10000000):Ej prog 35 l a [] 1100 (fun r=>∃s,r= .agg (AQ s)∧SpcV s∧s.mounts.length≤3):=by
 refine enter Tryz.func35 rfl rfl rfl rfl rfl 1 rfl ?_;refine w_ (D4 (h:=e_ (Aa (h:=?_))));refine A3 rfl (AX 0 (hc:=Zr l _ (by omega)) (hR:=?_));rintro r a1 ha1 ⟨f1,rfl,hv1,hp1⟩;refine AY ?_;refine A3 rfl (Jl (y:= .agg (AQ ⟨f1,[]⟩)) (F5 ⟨rfl,rfl⟩) ?_);refine CY (h:=BD (h:=?_));refine A3 rfl (AX 0 (hc:=Gn l _ (4) (by omega) (by omega)) (hR:=?_));rintro r a2 ha2 ⟨k2,rfl,p2,q2,o2⟩;refine AY ?_;refine B5 (h:=BL (?_));obtain⟨M,rfl⟩:=Int.eq_ofNat_of_zero_le p2;have hM:M≤3:=by omega
 refine BX (fun n t=>∃(j b:Nat) (s:Spc),j≤M∧n=j∧b+10 * j≤a+1001+10 * M∧SpcV s∧s.mounts.length+j≤M∧t=⟨look [(0, .bp 0 0),(2, .bp 1 0),(3, .bp 2 0),(4, .v (.int .i64 (j:Int)))],⟨[Cq l b,[.v (.slice none 0 0), .v (.slice none 0 0)],AQ s],[]⟩⟩) (M) ((wk 3 0)) (⟨M,_,⟨f1,[]⟩,Al _,rfl,by omega,⟨hv1,hp1,fun i m hi=>by simp at hi⟩,by simp,rfl⟩) ?_;rintro n t ⟨j,b,s,hj,rfl,hb,hv,hm,rfl⟩;have hsb:=hv.b (by omega);refine BD (h:=Dk (h:=?_));refine A6 rfl (fun hb1 hc1=>?_) (fun hb1 hc1=>?_)
 ·refine Bk (h:=?_);refine C5 (fun t=>∃(dev:Int) (x:A7) (b2:Nat),b2≤b+10∧t=⟨look [(0, .bp 0 0),(2, .bp 1 0),(3, .bp 2 0),(4, .v (.int .i64 (n:Int))),(5, .bp 3 0),(6, .v (.int .i64 (DD s dev x).2))],⟨[Cq l b2,[.v (.slice none 0 0), .v (.slice none 0 0)],AQ s,AQ (DD s dev x).1],[]⟩⟩) ?_ ?_
  ·skip
   refine Bz ([(2,AQ s)]) 14 (h:=?_);refine AD 0 (h:=?_);refine Ac 1 (h:=Ac 3 (h:=Ar 4 (h:=?_)));refine AD 5 (h:=?_);refine KQ 2 11 rfl rfl ?_ ?_
   ·refine AX 0 (hc:=Ci l _ (1) (2) (by omega) (by omega) (by omega) (by omega)) (hR:=?_);rintro r a3 ha3 ⟨k3,rfl,p3,q3⟩;refine AY ?_;refine o_ (h:=?_);refine KQ 6 11 rfl rfl ?_ ?_
    ·refine AX 0 (hc:=K3 l _ s.files (by omega) hv.files.b hv.files.ne) (hR:=?_);rintro r a4 ha4 ⟨x4,rfl⟩;refine AY ?_;refine o_ (h:=?_);refine KQ 7 11 rfl rfl ?_ ?_
     ·refine AA (Oc s _ _ hsb) ?_;rintro r rfl;refine o_ (h:=?_);refine Ac 8 (h:=D5 9 (h:=D5 10 (h:=?_)));refine c_ 11 rfl (Gm (by repeat constructor) ?_);refine o_ (h:=?_);refine CG 12 (h:=BM 13 (h:=z_ (h:=?_)));refine Ab ?_;refine⟨_,⟨_,_,_,?_,rfl⟩,(wk 4 0)⟩;omega
     refine Gm (by repeat constructor) ?_;refine o_ (h:=?_);refine c_ 7 rfl (AA (Oc s _ _ hsb) ?_);rintro r rfl;refine o_ (h:=Ac 8 (h:=D5 9 (h:=D5 10 (h:=?_))));refine CG 12 (h:=BM 13 (h:=z_ (h:=?_)));refine Ab ?_;refine⟨_,⟨_,_,_,?_,rfl⟩,(wk 4 0)⟩;omega
    refine Gm (by repeat constructor) ?_;refine o_ (h:=?_);refine c_ 6 rfl (AX 0 (hc:=K3 l _ s.files (by omega) hv.files.b hv.files.ne) (hR:=?_));rintro r a5 ha5 ⟨x5,rfl⟩;refine AY ?_;refine o_ (h:=?_);refine c_ 7 rfl (AA (Oc s _ _ hsb) ?_);rintro r rfl;refine o_ (h:=Ac 8 (h:=D5 9 (h:=D5 10 (h:=?_))));refine CG 12 (h:=BM 13 (h:=z_ (h:=?_)));refine Ab ?_;refine⟨_,⟨_,_,_,?_,rfl⟩,(wk 4 0)⟩;omega
   refine Gm (by repeat constructor) ?_;refine o_ (h:=?_);refine c_ 2 rfl (AX 0 (hc:=Ci l _ (1) (2) (by omega) (by omega) (by omega) (by omega)) (hR:=?_));rintro r a6 ha6 ⟨k6,rfl,p6,q6⟩;refine AY ?_;refine o_ (h:=?_);refine c_ 6 rfl (AX 0 (hc:=K3 l _ s.files (by omega) hv.files.b hv.files.ne) (hR:=?_));rintro r a7 ha7 ⟨x7,rfl⟩;refine AY ?_;refine o_ (h:=?_);refine c_ 7 rfl (AA (Oc s _ _ hsb) ?_);rintro r rfl;refine o_ (h:=Ac 8 (h:=D5 9 (h:=D5 10 (h:=?_))));refine CG 12 (h:=BM 13 (h:=z_ (h:=?_)));refine Ab ?_;refine⟨_,⟨_,_,_,?_,rfl⟩,(wk 4 0)⟩;omega
  rintro t ⟨dev,x,b2,hb2,rfl⟩;refine Aa (h:=C2 (h:=?_));refine A6 rfl (fun hb2 hc2=>?_) (fun hb2 hc2=>?_)
  ·obtain⟨hv2,he2⟩:=Zp hv dev x (by omega);have hm2:(DD s dev x).1.mounts.length=s.mounts.length+1:=by rw[he2];simp
   refine B2 (l_ (h:=s_ (h:=CP (Am (t_ (BV (h:=?_)))))));refine A3 rfl (KD rfl rfl (by omega) ?_);refine E8 (h:=?_);refine⟨n - 1,_,by omega,⟨n - 1,_,(DD s dev x).1,by omega,rfl,?_,hv2,?_,rfl⟩,(by rw[show((n - 1:Nat):Int)=(n:Int) - 1 by omega];exact Aj 3 0 rfl rfl rfl rfl ((by repeat (first|exact Sub.nil|refine Ak rfl rfl ?_|refine Ao ?_|refine Ap rfl ?_|refine Aq rfl ?_))))⟩
   ·omega
   omega
  refine As (Am (t_ (BV (h:=?_))));refine A3 rfl (KD rfl rfl (by omega) ?_);refine E8 (h:=?_)
  first|refine⟨n - 1,_,by omega,⟨n - 1,_,(DD s dev x).1,by omega,rfl,?_,hv2,?_,rfl⟩,(by rw[show((n - 1:Nat):Int)=(n:Int) - 1 by omega];exact Aj 3 0 rfl rfl rfl rfl ((by repeat (first|exact Sub.nil|refine Ak rfl rfl ?_|refine Ao ?_|refine Ap rfl ?_|refine Aq rfl ?_))))⟩|refine⟨n - 1,_,by omega,⟨n - 1,_,s,by omega,rfl,?_,hv,?_,rfl⟩,(by rw[show((n - 1:Nat):Int)=(n:Int) - 1 by omega];exact Aj 3 0 rfl rfl rfl rfl ((by repeat (first|exact Sub.nil|refine Ak rfl rfl ?_|refine Ao ?_|refine Ap rfl ?_|refine Aq rfl ?_))))⟩
  ·omega
  omega
 refine Cg (h:=D6 (h:=e_ (Ax (?_))));refine Ag none (h5:=(A9 _)) (h6:=⟨_,rfl,rfl,b,by omega,rfl,s,rfl,hv,by omega⟩)
end
theorem aC{P:Program}{f:FuncId}{s:Spc}{xs:List AV}{us:List Value}{z:Value}{R:AV}(hx:∀(G:Gh) (w:World) (vs:List Value),AE G w xs vs→vs=us)(hR:∀(G:Gh) (w:World),rep G w R z)
    (h:∀(w:World) (ds ms:Value),SpcIn s w.heap.size w ds ms→Calls P f (.agg #[ds,ms]::us).toArray w fun e w'=>e= .returned z∧Below w.heap.size w w'):AFn P f (.agg (AQ s)::xs) (fun r=>r=R):=by
 intro w St bl vs hr hv;simp only[AE]at hv;obtain⟨z0,zs,rfl,h1,h2⟩:=hv;obtain rfl:=hx _ _ _ h2;simp only[rep,AQ,AE]at h1;obtain⟨ys,rfl,ds,_,rfl,h3,ms,_,rfl,h4,rfl⟩:=h1
 have hs:SpcIn s w.heap.size w ds ms:=by
  refine⟨Al _,?_⟩;refine K8 (St:=St) (fun b o hb=>⟨hr.stlt b o hb,rfl⟩) _ _ ?_;simp only[AQ,BC];exact⟨_,_,rfl,h3,_,_,rfl,h4,rfl⟩
 refine(h w ds ms hs).mono ?_;rintro e w' ⟨rfl,hb⟩;obtain⟨k1,k2⟩:=hr.below hb;exact⟨_,_,_,_,⟨rfl,rfl,rfl⟩,k1,k2,hR _ _⟩
structure SpcN(s:Spc):Prop where
 b:SpcB s
 nm:∀x,(He s x).size≤100
 most:BG s.files≤5000
theorem aD(s:Spc)(hs:SpcB s)(a b:A7):AFn prog 120 [.agg (AQ s), .agg (A8 a), .agg (A8 b)] (fun r=>r= .v (.bool (decide (a∈B8 s (BG s.files) b)))):=
 aC (us:=[FV a,FV b]) (z:= .bool (decide (a∈B8 s (BG s.files) b))) (fun G w vs h=>by
  simp only[AE,rep,A8]at h;obtain⟨_,_,rfl,⟨_,rfl,_,_,rfl,rfl,_,_,rfl,rfl,rfl⟩,_,_,rfl,⟨_,rfl,_,_,rfl,rfl,_,_,rfl,rfl,rfl⟩,rfl⟩:=h
  rfl) (fun G w=>by simp only[rep])
  fun w ds ms h=>callsIn_wide.1 (aB 4 (Lib.hid (by omega)) s hs a b ds ms w h)
theorem aE{f:AM}{a:A7}(h:Cm f a=true):∃d∈f,Ai f a∈d.nodes:=by
 obtain⟨q,i,d,m,_,h2,h3,_,_,h6⟩:=OZ h;exact⟨d,AT h2,by rw[h6];exact AT h3⟩
theorem aF{x:AB}(h:Dl x=true):x.size≤12:=by
 rw[Jt]at h;by_cases hc:x.size<1∨12<x.size
 ·rw[if_pos hc]at h;cases h
 omega
theorem R5{s:Spc}(h:FlsV s.files)(x:A7):(He s x).size≤12:=by
 unfold He
 cases hf:(JS s x).entries.find? fun e:B0=>decide (e.2=x.2)with
 |none=>exact BO _
 |some e=>
   have hm:=List.mem_of_find?_eq_some hf;unfold JS at hm;by_cases hh:Cm s.files (x.1,(Ai s.files x).parent)=true
   ·obtain⟨d,hd,hn⟩:=aE hh;exact aF ((h.vd d hd).ent _ hn e hm).1
   have:Ai s.files (x.1,(Ai s.files x).parent)=Nod.zero:=by
    unfold Cm at hh
    cases hq:Ba s.files (x.1,(Ai s.files x).parent)with
    |none=>show(Ba s.files (x.1,(Ai s.files x).parent)).getD Nod.zero=Nod.zero;rw[hq];rfl
    |some m=>rw[hq]at hh;exact absurd rfl hh
   rw[this]at hm;cases hm
theorem Ub{f:AM}(h:FlsV f):BG f≤48:=by
 have:∀(l:AM),(∀d∈l,d.nodes.length≤16)→BG l≤l.length * 16:=by
  intro l
  induction l with
  |nil=>intro _;simp[BG]
  |cons d l ih=>
    intro h;have h1:=ih fun d hd=>h d (List.mem_cons_of_mem _ hd);have h2:=h d (List.mem_cons_self ..);simp only[BG,List.map_cons,List.sum_cons,List.length_cons]at h1 ⊢;omega
 have h1:=this f fun d hd=>(h.vd d hd).len;have h2:=h.few;omega
theorem SpcV.n{s:Spc}(h:SpcV s)(hm:s.mounts.length≤1000):SpcN s:=⟨⟨h.files.b,hm⟩,fun x=>by have:=R5 h.files x;omega,by have:=Ub h.files;omega⟩
end Go.Proofs.YtbgnigjfkbmceaaGreatDoor
