/-
  Part 10 of the proof of FilterDecidesP: what the statement's proof uses of the texts in wip/tpl.
-/
import Derived.Test.YtbgnigjfkbmceaaGreatDoorShelf
import Derived.Maps.AppendAt
import Derived.OwnWalk
import Derived.StillTailTactics
import Derived.OpenShut
import Derived.ChangeArms
import Derived.ChangeOld
import Derived.DataReads
import Derived.DataElems
import Derived.Test.YtbgnigjfkbmceaaGreatDoorQh9
open Go.Proofs.Tryz (prog)
set_option maxRecDepth 10000
set_option maxHeartbeats 4000000
set_option linter.unusedVariables false
set_option linter.unusedSimpArgs false
namespace Go.Proofs.YtbgnigjfkbmceaaGreatDoor
theorem FlsV.set_{f:AU}(h:FlsV f){q:Nat}{d':Dvc}(hd:VD d'):FlsV (f.set q d'):=by
 refine⟨by simpa using h.few,fun d hm=>?_⟩;rcases List.mem_or_eq_of_mem_set hm with h1|h1
 ·exact h.vd d h1
 rw[h1];exact hd
theorem RW{f:AU}{a:AD}(h:Dy f a=true):∃(q i:Nat) (d:Dvc) (m:Nod),a.1=(q:Int)∧f[q]?=some d∧d.nodes[i]?=some m∧m.ino=a.2∧CQ f a=some m∧Ag f a=m:=by
 rcases Ly f a with⟨_,h2⟩|⟨q,i,d,n,h1,h2,h3,h4,h5,h6⟩
 ·simp[Dy,h2]at h
 exact⟨q,i,d,n,h1,h2,h3,h4,h6,by simp[Ag,h6]⟩
theorem U0{f:AU}{a:AD}{q:Nat}{d:Dvc}{m:Nod}(ha:a.1=(q:Int))(hq:f[q]?=some d)(hd:FM d.nodes)(hm:m∈d.nodes)(hi:m.ino=a.2):CQ f a=some m:=by
 unfold CQ;rw[ha,NL,hq];simp only
 cases h:d.nodes.find? (fun n=>n.ino==a.2)with
 |none=>
   have:=List.find?_eq_none.1 h m hm;simp[hi]at this
 |some n=>
   have h1:=List.mem_of_find?_eq_some h;have h2:=List.find?_some h;simp only[beq_iff_eq]at h2;rw[EP hd h1 hm (by omega)]
theorem RX{f:AU}{dir:AD}{name:AF}{n0:Nod}(hn:CQ f dir=some n0)(hk:n0.kind=2)(h:(AM f dir name).2≠0):EO n0.entries name=none∧(AM f dir name).1=(0,0):=by
 unfold AM at h ⊢;rw[hn]at h ⊢;simp only[hk,if_true]at h ⊢;unfold EO;split at h
 ·rename_i he;exact⟨he,rfl⟩
 exact absurd rfl h
theorem U1{f:AU}{dir:AD}{n0:Nod}(hn:CQ f dir=some n0)(h:¬M0 f dir=true):n0.entries.length<12:=by
 unfold M0 at h;rw[hn]at h;simp at h;omega
theorem Pb(f:AU)(q:Nat)(g:List Nod→List Nod):(Jj f q g).length=f.length:=by simp[Jj]
def Nc(f:AU)(R:FH):Prop:=R.2.2=0→FlsV R.1∧R.1.length=f.length
theorem Fd{f:AU}{e:Int}(h:e≠0):Nc f ([],[],e):=fun h0=>absurd h0 h
theorem Xi{f:AU}(hv:FlsV f)(dir:AD)(name:AF)(a:AD):Nc f (Ex f dir name a):=by
 unfold Ex;split
 ·rename_i h;exact Fd h
 rename_i hp;split
 ·exact Fd (by decide)
 rename_i hh;split
 ·exact Fd (by decide)
 rename_i hdev;split
 ·exact Fd (by decide)
 rename_i hk;split
 ·exact Fd (by decide)
 rename_i hl;split
 ·exact Fd (by decide)
 rename_i hfl;intro _;obtain⟨q,i,d,n0,hdq,hq,hn0,hino,hidx,hnode,hk0,hnm⟩:=Kh (name:=name) (dir:=dir) (f:=f) (by omega);obtain⟨q',i',d',m,haq,hq',hm,hmi,hnm2,hng⟩:=RW (f:=f) (a:=a) (by simpa using hh);obtain rfl:q=q':=by omega
 obtain rfl:d=d':=Option.some.inj (hq.symm.trans hq');have hvd:=hv.vd d (Am hq);have key:=hvd.linked (Am hn0) hk0 (Am hm) (by rw[←hng];exact hk) hnm (RX hnode hk0 hl).1 (U1 hnode hfl);rw[hino,hmi]at key;refine⟨?_,by dsimp only;exact Pb _ _ _⟩;dsimp only;rw[hdq,Int.toNat_natCast,KD hq];exact hv.set_ key
theorem RY{f:AU}{a:AD}{m:Nod}(h:CQ f a=some m):Ac f a=true↔m.kind=2:=by
 unfold Ac;rw[h];simp
theorem Xj{f:AU}{a:AD}{m:Nod}(h:CQ f a=some m):Mh f a=true↔m.entries=[]:=by
 unfold Mh;rw[h];simp
theorem RZ{f:AU}(hv:FlsV f){dir:AD}{name:AF}{q i:Nat}{d:Dvc}{n0:Nod}(hdq:dir.1=(q:Int))(hq:f[q]?=some d)(hn0:d.nodes[i]?=some n0)(hnode:CQ f dir=some n0)(hk0:n0.kind=2)(hl:(AM f dir name).2=0):
    ∃e m,EO n0.entries name=some e∧AM f dir name=((dir.1,e.2),0)∧m∈d.nodes∧e.2=m.ino∧e.2≠1∧CQ f (AM f dir name).1=some m:=by
 obtain⟨e,he,hle⟩:=PY hnode hk0 hl;have hvd:=hv.vd d (Am hq);obtain⟨_,h1,m,hm,h2⟩:=hvd.ent n0 (Am hn0) e (L5 he).1;refine⟨e,m,he,hle,hm,h2.symm,h1,?_⟩;rw[hle];exact U0 hdq hq hvd.asc hm h2
theorem iF{f:AU}(hv:FlsV f)(dir:AD)(name:AF):Nc f (Hy f dir name):=by
 unfold Hy;split
 ·rename_i h;exact Fd h
 rename_i hp;split
 ·rename_i h;exact Fd h
 rename_i hl;split
 ·exact Fd (by decide)
 rename_i hk;intro _;obtain⟨q,i,d,n0,hdq,hq,hn0,hino,hidx,hnode,hk0,hnm⟩:=Kh (name:=name) (dir:=dir) (f:=f) (by omega);obtain⟨e,m,he,hle,hm,h1,h2,h3⟩:=RZ hv hdq hq hn0 hnode hk0 (name:=name) (by omega);have hvd:=hv.vd d (Am hq);have key:=hvd.removed (Am hn0) hm (hvd.leaf m hm fun h=>hk ((RY h3).2 h)).2 he h1;refine⟨?_,by dsimp only;exact Pb _ _ _⟩;dsimp only;rw[hdq,Int.toNat_natCast,KD hq,show(AM f dir name).1.2=m.ino by rw[hle];exact h1,←hino];exact hv.set_ key
theorem iG{f:AU}(hv:FlsV f)(dir:AD)(name:AF):Nc f (Gk f dir name):=by
 unfold Gk;split
 ·rename_i h;exact Fd h
 rename_i hp;split
 ·rename_i h;exact Fd h
 rename_i hl;split
 ·exact Fd (by decide)
 rename_i hk;split
 ·exact Fd (by decide)
 rename_i hem;intro _;obtain⟨q,i,d,n0,hdq,hq,hn0,hino,hidx,hnode,hk0,hnm⟩:=Kh (name:=name) (dir:=dir) (f:=f) (by omega);obtain⟨e,m,he,hle,hm,h1,h2,h3⟩:=RZ hv hdq hq hn0 hnode hk0 (name:=name) (by omega);have hvd:=hv.vd d (Am hq);have key:=hvd.removed (Am hn0) hm ((Xj h3).1 (by simpa using hem)) he h1;refine⟨?_,by dsimp only;exact Pb _ _ _⟩;dsimp only;rw[hdq,Int.toNat_natCast,KD hq,show(AM f dir name).1.2=m.ino by rw[hle];exact h1,←hino];exact hv.set_ key
theorem iH{f:AU}(hv:FlsV f)(a:AD)(mode uid gid:Int):(G5 f a mode uid gid).2=0→FlsV (G5 f a mode uid gid).1∧(G5 f a mode uid gid).1.length=f.length:=by
 unfold G5;split
 ·intro h;exact absurd h (by decide)
 rename_i hh;split
 ·intro h;exact absurd h (by decide)
 rename_i hp;intro _;obtain⟨q,i,d,m,haq,hq,hm,hmi,hnm2,hng⟩:=RW (f:=f) (a:=a) (by simpa using hh);have hvd:=hv.vd d (Am hq);have key:=hvd.attrs (Am hm) mode uid gid (by rw[←hng];simpa using hp);refine⟨?_,by dsimp only;exact Pb _ _ _⟩;dsimp only;rw[haq,Int.toNat_natCast,KD hq,←hmi];exact hv.set_ key
theorem Xk{f:AU}(hv:FlsV f)(dir:AD)(name:AF)(n:Nod):Nc f (FN f dir name n):=by
 unfold FN;split
 ·rename_i h;exact Fd h
 rename_i hp;split
 ·exact Fd (by decide)
 rename_i hpl;split
 ·exact Fd (by decide)
 rename_i hl;obtain⟨q,i,d,n0,hdq,hq,hn0,hino,hidx,hnode,hk0,hnm⟩:=Kh (name:=name) (dir:=dir) (f:=f) (by omega);have hat:G0 f dir.1=some d:=by rw[hdq,NL,hq]
 rw[hat];simp only;split
 ·exact Fd (by decide)
 rename_i hc;intro _;have hvd:=hv.vd d (Am hq);have hnm2:=hvd.nextM;have key:=hvd.make (Am hn0) hk0 hnm (RX hnode hk0 hl).1 (n:=n) (by simpa using hpl) (by omega) (by omega) (U1 hnode (fun h=>hc (.inr (.inr h))));refine⟨?_,by simp⟩;dsimp only;rw[hdq,Int.toNat_natCast,←hino];exact hv.set_ key
theorem iJ{ns:List Nod}{a o:Int}{g:Nod→Nod}(hi:∀n,(g n).ino=n.ino)(he:∀n,(g n).entries=n.entries):CC (D3 ns a g) o=D3 (CC ns o) a g:=by
 have hc:Bm o (D3 ns a g)=Bm o ns:=by
  unfold Bm
  congr 1
  unfold D3;rw[List.flatMap_map]
  congr 1
  funext n
  split
  ·rw[he]
  rfl
 unfold CC;rw[hc];unfold D3;rw[List.filter_map]
 congr 1
 apply List.filter_congr;intro n _;simp only[Function.comp];split
 ·rw[hi]
 rfl
theorem iK{ns:List Nod}{a:Int}{g:Nod→Nod}(h:∀n∈ns,n.ino=a→g n=n):D3 ns a g=ns:=by
 unfold D3
 conv=>rhs;rw[←List.map_id ns]
 apply List.map_congr_left;intro n hn;split
 ·rename_i e;rw[h n hn e];rfl
 rfl
theorem iL{ns:List Nod}{a:Int}{g g':Nod→Nod}(h:∀n∈ns,n.ino=a→g n=g' n):D3 ns a g=D3 ns a g':=by
 unfold D3;apply List.map_congr_left;intro n hn;split
 ·rename_i e;rw[h n hn e]
 rfl
theorem Xl{f:AU}{q:Nat}{d:Dvc}(hq:f[q]?=some d)(hd:FM d.nodes){top:AD}(ht:top.1=(q:Int)):∀(k n:Nat) (a:AD),k<n→a.1=(q:Int)→PV d.nodes k a.2 top.2→LV f top n a=true
 |_,0,_,h,_,_=>by omega
 |0,n+1,a,_,ha,hk=>by
   have e:a.2=top.2:=hk;unfold LV;rw[if_neg (by omega),if_pos (Prod.ext (by omega) e)]
 |k+1,n+1,a,h,ha,hk=>by
   obtain⟨m,hm,h1,h2,h3,h4⟩:=hk;unfold LV;rw[if_neg (by omega)];split
   ·rfl
   have hn:=U0 ha hq hd hm h1;refine Xl hq hd ht k n _ (by omega) ha ?_;simp only[Ag,hn,Option.getD_some];exact h4
theorem Xm{f:AU}(hv:FlsV f)(src:AD)(name:AF)(to:AD)(name2:AF):Nc f (G6 f src name to name2):=by
 unfold G6;split
 ·rename_i h;exact Fd h
 rename_i hord;obtain⟨hpl1,hpl2⟩:=Tx (f:=f) (x:=src) (y:=to) (name:=name) (name2:=name2) (by omega);split
 ·rename_i h;exact Fd h
 rename_i hl1;split
 ·exact Fd (by decide)
 rename_i hdev;split
 ·exact Fd (by decide)
 rename_i hbel;split
 ·intro _;exact⟨hv,rfl⟩
 rename_i hsame;split
 ·rename_i h;exact Fd h
 rename_i hr2;intro _;obtain⟨q,i,d,n1,hsq,hq,hn1,hn1i,hidx,hnode,hk1,hnm1⟩:=Kh hpl1;obtain⟨q',i2,d',n2,htq,hq',hn2,hn2i, -,hnode2,hk2,hnm2⟩:=Kh hpl2;obtain rfl:q=q':=by omega
 obtain rfl:d=d':=Option.some.inj (hq.symm.trans hq');have hvd:=hv.vd d (Am hq);obtain⟨e,m,he,hle,hm,hem,he1,hmn⟩:=RZ hv hsq hq hn1 hnode hk1 (name:=name) (by omega);have hA2:(AM f src name).1.2=m.ino:=by rw[hle];exact hem
 have hmoves:Ac f (AM f src name).1=true↔m.kind=2:=RY hmn
 have hanc:m.kind=2→¬KC d.nodes n2.ino m.ino:=by
  rintro hmk ⟨k,hk⟩;have hlen:=hvd.anc_len hm hk;have:=hvd.len;refine hbel ⟨hmoves.2 hmk,Xl hq hvd.asc (top:=(AM f src name).1) (by rw[hle];exact hsq) k 17 to (by omega) htq ?_⟩;rw[hA2,←hn2i];exact hk
 have hdiff:n1.ino=n2.ino→name≠name2:=by
  rintro h rfl;have est:to=src:=Prod.ext (by omega) (by omega);subst est;exact hsame ⟨by omega,rfl⟩
 have ho:(EO n2.entries name2=none∧(n2.entries.length<12∨n1.ino=n2.ino)∧(AM f to name2).1.2=0)∨(∃eo o,EO n2.entries name2=some eo∧o∈d.nodes∧eo.2=(AM f to name2).1.2∧o.ino=(AM f to name2).1.2∧(AM f to name2).1.2≠m.ino∧o.entries=[]):=by
  have hr3:FO f src to (AM f src name).1 (AM f to name2).1 (AM f to name2).2=0:=by omega
  unfold FO at hr3;by_cases h0:(AM f to name2).2=0
  ·right;rw[if_pos h0]at hr3;obtain⟨eo,o,heo,hleo,hom,heoi,heo1,hon⟩:=RZ hv htq hq hn2 hnode2 hk2 (name:=name2) h0;have hO2:(AM f to name2).1.2=eo.2:=by rw[hleo]
   refine⟨eo,o,heo,hom,hO2.symm,by rw[hO2,heoi],?_,?_⟩
   ·intro h;refine hsame ⟨h0,Prod.ext ?_ (h.trans hA2.symm)⟩;rw[hleo,hle];exact htq.trans hsq.symm
   have hdo:=RY hon;by_cases hok:o.kind=2
   ·rw[if_neg (fun h=>by
       rw[if_pos h]at hr3;exact absurd hr3 (by decide))]at hr3
    rw[if_neg (fun h=>by rw[hdo.2 hok]at h;exact absurd h.1 (by decide))]at hr3;split at hr3
    ·exact absurd hr3 (by decide)
    rename_i h5;refine(Xj hon).1 ?_
    cases hem2:Mh f (AM f to name2).1 with
    |true=>rfl
    |false=>exact absurd ⟨hdo.2 hok,hem2⟩ h5
   exact(hvd.leaf o hom hok).2
  left;rw[if_neg h0]at hr3;obtain⟨h1,h2⟩:=RX hnode2 hk2 h0;refine⟨h1,?_,by rw[h2]⟩;split at hr3
  ·exact absurd hr3 (by decide)
  rename_i h3;by_cases hfl:M0 f to=true
  ·right;have:src=to:=Classical.byContradiction fun h=>h3 ⟨hfl,h⟩;rw[hn1i,hn2i,this]
  left;exact U1 hnode2 hfl
 have key:=hvd.renamed (Am hn1) (Am hn2) hm hk2 he hem hnm2 hdiff hanc ho;refine⟨?_,by dsimp only;exact Pb _ _ _⟩;dsimp only;rw[htq,Int.toNat_natCast,KD hq]
 have hns:Lb (Nb d.nodes src name to name2 (AM f src name).1 (AM f to name2).1 (AM f to name2).2) (AM f src name).1.2 to.2 (Ac f (AM f src name).1)=CC (Ew d.nodes n1.ino n2.ino name name2 m.ino) (AM f to name2).1.2:=by
  rw[←XU,hA2,←hn2i]
  have hY:∀y∈Bb (Bb d.nodes n1.ino name 0) n2.ino name2 m.ino,y.ino=m.ino→y.kind=m.kind:=by
   intro y hy hyi;obtain⟨y1,h1,w1⟩:=Gj hy;obtain⟨y2,h2,w2⟩:=Gj h1;have:y2=m:=EP hvd.asc h2 hm (by rw[←w2.ino,←w1.ino];exact hyi);rw[w1.kind,w2.kind,this]
  have hpos:∀y∈Bb (Bb d.nodes n1.ino name 0) n2.ino name2 m.ino,1≤y.ino:=by
   intro y hy;obtain⟨y1,h1,w1⟩:=Gj hy;obtain⟨y2,h2,w2⟩:=Gj h1;rw[w1.ino,w2.ino];exact hvd.pos h2
  have hset:CC (D3 (Bb (Bb d.nodes n1.ino name 0) n2.ino name2 m.ino) m.ino (L6 n2.ino)) (AM f to name2).1.2=D3 (CC (Bb (Bb d.nodes n1.ino name 0) n2.ino name2 m.ino) (AM f to name2).1.2) m.ino (L6 n2.ino):=iJ (fun n=>by unfold L6;split<;>rfl) (fun n=>by unfold L6;split<;>rfl);rw[hset]
  have hN:Nb d.nodes src name to name2 (AM f src name).1 (AM f to name2).1 (AM f to name2).2=CC (Bb (Bb d.nodes n1.ino name 0) n2.ino name2 m.ino) (AM f to name2).1.2:=by
   unfold Nb;rw[hA2,←hn1i,←hn2i];split
   ·rfl
   rename_i h0;rw[(RX hnode2 hk2 h0).2];unfold CC
   symm
   rw[List.filter_eq_self];intro y hy;have:=hpos y hy;exact decide_eq_true (.inl (by show y.ino≠0;omega))
  rw[hN];have hsub:∀y∈CC (Bb (Bb d.nodes n1.ino name 0) n2.ino name2 m.ino) (AM f to name2).1.2,y∈Bb (Bb d.nodes n1.ino name 0) n2.ino name2 m.ino:=fun y hy=>(PU.1 hy).1;unfold Lb;split
  ·rename_i hmv;refine iL fun y hy hyi=>?_;unfold L6;rw[if_pos ((hY y (hsub y hy) hyi).trans (hmoves.1 hmv))]
  rename_i hmv;refine(iK fun y hy hyi=>?_).symm;unfold L6;rw[if_neg (fun h=>hmv (hmoves.2 ((hY y (hsub y hy) hyi).symm.trans h)))]
 rw[hns];exact hv.set_ key
end Go.Proofs.YtbgnigjfkbmceaaGreatDoor
namespace Go.Proofs.YtbgnigjfkbmceaaGreatDoor
open Go.RowKit
def Hc(R:Spc×Int):AV:= .tup [.agg (AW R.1), .v (.int .i64 R.2)]
def Mq:Spc:=⟨[],[]⟩
theorem L7(e:Int):LeA (.tup [.agg [.v (.slice none 0 0), .v (.slice none 0 0)], .v (.int .i64 e)]) (Hc (Mq,e)):=(by repeat (first|exact A7 _|exact LeA.nil _|exact LeL.refl _|refine LeA.agg ?_|refine LeA.tup ?_|exact LeL.nil|refine LeL.cons ?_ ?_|exact LeA.any _))
def ER(s:Spc)(dev:Int)(a:AD):Spc×Int:=
 if dev<1∨(s.files.length:Int)≤dev then(Mq,22)else if Dy s.files a=false then(Mq,2)else if(Ag s.files a).kind≠2 then(Mq,20)else if DN s a.1=false∨a.1=dev then(Mq,22)else
 if DN s dev=true∨(Dm s a).isSome=true then(Mq,16)else(⟨s.files,s.mounts++[(dev,a)]⟩,0)
def Hz(s:Spc)(dev:Int):Spc×Int:=
 if dev=0∨DN s dev=false then(Mq,22)else if(s.mounts.any fun m=>decide (m.2.1=dev))=true then(Mq,16)else(⟨s.files,s.mounts.filter fun m=>decide (m.1≠dev)⟩,0)
section
theorem Xn(s:Spc)(hs:SpcB s):QZ prog 126 [.agg (AW s)] (fun g=> .agg [.sl 2 (s.files.map Cg) none, .sl 3 (s.mounts.map Gg) g]) (185,3,s.mounts.map Gg):=by
 have hfew:=hs.few;refine enter Tryz.func126 rfl rfl rfl rfl rfl 0 rfl ?_;refine w_ (b_ (h:=CU (h:=e_ (q_ (BR ([(0,AW s)]) 8 (h:=AA 0 (h:=?_)))))));refine A9 1 (h:=?_);refine AA 3 (h:=?_);refine A9 4 (h:=?_);refine c_ 2 rfl (A8 (Tw s.files hs.files) ?_);rintro r rfl;refine o_ (h:=?_)
 first|refine c_ 5 rfl (EF rfl rfl rfl (by simp;omega) (by repeat constructor) ?_)|refine c_ 5 rfl (JC rfl rfl (by simp;omega) (by repeat constructor) ?_)
 refine o_ (h:=KZ 6 (h:=?_));refine B8 7 (h:=z_ (h:=t_ (B3 (?_))));refine AX (some 0) (h5:=(A7 _)) (h6:=⟨rfl,rfl,rfl⟩)
theorem iM(s:Spc)(dev:Int)(a:AD)(hs:SpcB s):AFn prog 76 [.agg (AW s), .v (.int .i64 dev), .agg (AB a)] (fun r=>r=Hc (ER s dev a)):=by
 have hfew:=hs.few;refine enter Tryz.func76 rfl rfl rfl rfl rfl 0 rfl ?_;refine FU (h:=Bo (h:=DK (h:=?_)));refine AJ false rfl rfl (fun hb1 hc1=>?_) (fun hb1 hc1=>?_)
 ·refine Ja (h:=DS (h:=E3 (h:=Bx (h:=?_))));refine AX (r:=Hc (ER s dev a)) none (h5:=?_) (h6:=⟨rfl,rfl,rfl⟩);rw[ER,if_pos (.inl hc1)];exact L7 _
 refine m_ (h:=Hn (h:=n_ (h:=DR (h:=CO (h:=?_)))));refine A4 rfl (fun hb2 hc2=>?_) (fun hb2 hc2=>?_)
 ·refine Bx (h:=?_);refine AX (r:=Hc (ER s dev a)) none (h5:=?_) (h6:=⟨rfl,rfl,rfl⟩);rw[ER,if_pos (.inr (by rw[List.length_map]at hc2;omega))];exact L7 _
 refine FY (h:=l_ (h:=?_));refine A3 rfl (A8 (FJ s.files a hs.files) ?_);rintro r rfl;refine H8 (h:=?_);refine A4 rfl (fun hb3 hc3=>?_) (fun hb3 hc3=>?_)
 ·refine Bx (h:=?_);refine AX (r:=Hc (ER s dev a)) none (h5:=?_) (h6:=⟨rfl,rfl,rfl⟩);rw[ER,if_neg (by rw[List.length_map]at hc2;omega),if_pos hc3];exact L7 _
 refine DU (h:=Bl (h:=?_));refine A4 rfl (fun hb4 hc4=>?_) (fun hb4 hc4=>?_)
 ·refine Bx (h:=?_);refine AX (r:=Hc (ER s dev a)) none (h5:=?_) (h6:=⟨rfl,rfl,rfl⟩);rw[ER,if_neg (by rw[List.length_map]at hc2;omega),if_neg (by simp[hc3]),if_pos hc4];exact L7 _
 refine Eh (h:=C4 (h:=AO (h:=?_)));refine A3 rfl (A8 (P6 s a.1 hs) ?_);rintro r rfl;refine EH (h:=?_);refine AJ false rfl rfl (fun hb5 hc5=>?_) (fun hb5 hc5=>?_)
 ·refine BB (h:=DS (h:=E3 (h:=Bx (h:=?_))));refine AX (r:=Hc (ER s dev a)) none (h5:=?_) (h6:=⟨rfl,rfl,rfl⟩);rw[ER,if_neg (by rw[List.length_map]at hc2;omega),if_neg (by simp[hc3]),if_neg (by simp[hc4]),if_pos (.inl hc5)];exact L7 _
 refine AO (h:=CE (h:=CO (h:=?_)));refine A4 rfl (fun hb6 hc6=>?_) (fun hb6 hc6=>?_)
 ·refine Bx (h:=?_);refine AX (r:=Hc (ER s dev a)) none (h5:=?_) (h6:=⟨rfl,rfl,rfl⟩);rw[ER,if_neg (by rw[List.length_map]at hc2;omega),if_neg (by simp[hc3]),if_neg (by simp[hc4]),if_pos (.inr hc6)];exact L7 _
 refine Eh (h:=L0 (h:=?_));refine A3 rfl (A8 (P6 s dev hs) ?_);rintro r rfl;refine m_ (h:=?_);refine AJ false rfl rfl (fun hb7 hc7=>?_) (fun hb7 hc7=>?_)
 ·refine EM (h:=E3 (h:=Bx (h:=?_)));refine AX (r:=Hc (ER s dev a)) none (h5:=?_) (h6:=⟨rfl,rfl,rfl⟩);rw[ER,if_neg (by rw[List.length_map]at hc2;omega),if_neg (by simp[hc3]),if_neg (by simp[hc4]),if_neg (by simp[hc5,hc6]),if_pos (.inl hc7)];exact L7 _
 refine H7 (h:=?_);refine As (A8 (WJ s a hs) ?_);rintro r rfl;refine CO (h:=?_);refine A4 rfl (fun hb8 hc8=>?_) (fun hb8 hc8=>?_)
 ·refine Bx (h:=?_);refine AX (r:=Hc (ER s dev a)) none (h5:=?_) (h6:=⟨rfl,rfl,rfl⟩);rw[ER,if_neg (by rw[List.length_map]at hc2;omega),if_neg (by simp[hc3]),if_neg (by simp[hc4]),if_neg (by simp[hc5,hc6]),if_pos (.inr hc8)];exact L7 _
 refine AG (C4 (h:=?_));refine A3 rfl (SW rfl (by repeat (first|exact Args.nil|refine Args.cons _ _ _ _ _ rfl (LP rfl) ?_|refine Args.cons _ _ _ _ _ rfl (MZ _) ?_|refine Args.cons _ _ _ _ _ rfl (Lq _) ?_|refine Args.cons _ _ _ _ _ rfl (Md rfl (by repeat (first|exact A7 _|exact LeA.nil _|exact LeL.refl _|refine LeA.agg ?_|refine LeA.tup ?_|exact LeL.nil|refine LeL.cons ?_ ?_|exact LeA.any _))) ?_)) (Xn s hs) (fun _=>rfl) (by repeat constructor) ?_);refine Dw (h:=Ay (h:=m_ (h:=l_ (h:=Bk (h:=BX (h:=?_))))));refine A3 rfl (EF rfl rfl rfl (by simp;omega) (by repeat constructor) ?_);refine DF (h:=Di (h:=Az (h:=?_)));refine A6 ?_;rw[ER,if_neg (by rw[List.length_map]at hc2;omega),if_neg (by simp[hc3]),if_neg (by simp[hc4]),if_neg (by simp[hc5,hc6]),if_neg (by simp[hc7,hc8])];simp only[Hc,AW,List.map_append];rfl
theorem iN(s:Spc)(dev:Int)(hs:SpcB s):AFn prog 253 [.agg (AW s), .v (.int .i64 dev)] (fun r=>r=Hc (Hz s dev)):=by
 have hfew:=hs.few;refine enter Tryz.func253 rfl rfl rfl rfl rfl 0 rfl ?_;refine E5 (h:=Bo (h:=E4 (h:=?_)));refine AJ false rfl rfl (fun hb1 hc1=>?_) (fun hb1 hc1=>?_)
 ·refine BB (h:=DS (h:=E3 (h:=Bx (h:=?_))));refine AX (r:=Hc (Hz s dev)) none (h5:=?_) (h6:=⟨rfl,rfl,rfl⟩);rw[Hz,if_pos (.inl hc1)];exact L7 _
 refine HA (h:=?_);refine As (A8 (P6 s dev hs) ?_);rintro r rfl;refine Ck (h:=CO (h:=?_));refine A4 rfl (fun hb2 hc2=>?_) (fun hb2 hc2=>?_)
 ·refine Bx (h:=?_);refine AX (r:=Hc (Hz s dev)) none (h5:=?_) (h6:=⟨rfl,rfl,rfl⟩);rw[Hz,if_pos (.inr hc2)];exact L7 _
 refine AG (D7 (h:=DT (h:=?_)));refine N6 6 185 3 rfl (by repeat constructor) ?_;refine BM (fun m t=>∃(j:Nat) (acc:List E6),j≤s.mounts.length∧m=s.mounts.length - j∧(∀i y,i<j→s.mounts[i]?=some y→decide (y.2.1=dev)=false)∧(s.mounts.take j).filter (fun m=>decide (m.1≠dev))=acc∧acc.length≤j∧t=⟨look [(1, .v (.int .i64 dev)),(2, .bp 0 0),(4, .bp 1 0),(6, .sl 3 (acc.map Gg) (some 0)),(7, .v (.int .i64 (j:Int)))],⟨[AW s,[.v (.slice none 0 0), .v (.slice none 0 0)]],[(185,3,acc.map Gg)]⟩⟩) (s.mounts.length) ((wk 2 1)) (⟨0,[],by omega,rfl,fun i y hi=>by omega,rfl,B7 _,rfl⟩) ?_;rintro m t ⟨j,acc,hj,rfl,ha,hacc,hal,rfl⟩;refine Fz (h:=?_);refine A4 rfl (fun hb3 hc3=>?_) (fun hb3 hc3=>?_)
 ·obtain⟨hlt,x,hy,hrow, -⟩:=Br Gg hc3;refine By (h:=Fh (h:=GG (h:=Hn (h:=CE (h:=e_ (?_))))));refine A4 rfl (fun hb4 hc4=>?_) (fun hb4 hc4=>?_)
  ·have hany:(s.mounts.any fun m=>decide (m.2.1=dev))=true:=NQ hy (decide_eq_true hc4);refine Bx (h:=D8 (h:=Dk (h:=?_)));refine AX (r:=Hc (Hz s dev)) none (h5:=?_) (h6:=⟨rfl,rfl,rfl⟩);rw[Hz,if_neg (by simp[hc1,hc2]),if_pos hany];exact L7 _
  refine AG (H9 (h:=AO (h:=m_ (h:=Bl (h:=?_)))));refine A4 rfl (fun hb5 hc5=>?_) (fun hb5 hc5=>?_)
  ·have hk:(s.mounts.take (j+1)).filter (fun m=>decide (m.1≠dev))=acc++[x]:=by rw[List.take_add_one,hy,List.filter_append,hacc];simp[hc5]
   refine C2 (h:=AO (h:=GG (h:=l_ (h:=BX (h:=?_)))));refine A3 rfl (EF rfl rfl rfl (by simp;omega) (by repeat constructor) ?_);refine H6 (h:=Ef (h:=?_));exact⟨s.mounts.length - (j+1),_,by omega,⟨j+1,acc++[x],by omega,rfl,GN hy ha (decide_eq_false hc4),hk,by simp;omega,rfl⟩,(by rw[List.map_append];exact Ah 2 1 rfl rfl rfl rfl ((by repeat (first|exact Sub.nil|refine Ai rfl rfl ?_|refine Ap ?_|refine Aq rfl ?_|refine Ar rfl ?_))))⟩
  have hk:(s.mounts.take (j+1)).filter (fun m=>decide (m.1≠dev))=acc:=by rw[List.take_add_one,hy,List.filter_append,hacc];simp[hc5]
  refine Cm (h:=?_)
  first|exact⟨s.mounts.length - (j+1),_,by omega,⟨j+1,acc++[x],by omega,rfl,GN hy ha (decide_eq_false hc4),hk,by simp;omega,rfl⟩,(by rw[List.map_append];exact Ah 2 1 rfl rfl rfl rfl ((by repeat (first|exact Sub.nil|refine Ai rfl rfl ?_|refine Ap ?_|refine Aq rfl ?_|refine Ar rfl ?_))))⟩|exact⟨s.mounts.length - (j+1),_,by omega,⟨j+1,acc,by omega,rfl,GN hy ha (decide_eq_false hc4),hk,by omega,rfl⟩,Ah 2 1 rfl rfl rfl rfl ((by repeat (first|exact Sub.nil|refine Ai rfl rfl ?_|refine Ap ?_|refine Aq rfl ?_|refine Ar rfl ?_)))⟩
 have e3:=C6 Gg hj hc3;subst e3;have hany:(s.mounts.any fun m=>decide (m.2.1=dev))=false:=O7 ha;rw[List.take_length]at hacc;refine CP (h:=C4 (h:=?_));refine A3 rfl (SW rfl (by repeat (first|exact Args.nil|refine Args.cons _ _ _ _ _ rfl (LP rfl) ?_|refine Args.cons _ _ _ _ _ rfl (MZ _) ?_|refine Args.cons _ _ _ _ _ rfl (Lq _) ?_|refine Args.cons _ _ _ _ _ rfl (Md rfl (by repeat (first|exact A7 _|exact LeA.nil _|exact LeL.refl _|refine LeA.agg ?_|refine LeA.tup ?_|exact LeL.nil|refine LeL.cons ?_ ?_|exact LeA.any _))) ?_)) (Xn s hs) (fun _=>rfl) (by repeat constructor) ?_);refine Dw (h:=Aa (h:=DF (h:=Di (h:=Az (h:=?_)))));refine A6 ?_;rw[Hz,if_neg (by simp[hc1,hc2]),if_neg (by simp[hany]),hacc];rfl
end
theorem Xo(z:Int){n:Int}(h:1≤n): -n<z.tmod n∧z.tmod n<n:=⟨Int.lt_tmod_of_pos z (by omega),Int.tmod_lt_of_pos z (by omega)⟩
theorem Ki(a b:ByteArray):(a++b).size=a.size+b.size:=ByteArray.size_append
section
theorem iO(l:List Int):ACall prog 12 [.sl 1 (l.map CT) none] [] (fun r b t=>r= .bp 0 0∧b=[Dr l 0]∧t=[]):=by
 refine enter Tryz.func12 rfl rfl rfl rfl rfl 1 rfl ?_;refine EL (h:=Bk (h:=b_ (h:=Az (h:=?_))));refine AX none (h5:=(A7 _)) (h6:=⟨rfl,rfl,rfl⟩)
theorem Gn(l:List Int)(a:Nat)(n:Int)(ha:a≤1000000000000)(hn:n≤1000000000000):GenF prog 21 l a [.v (.int .i64 n)] 1 (fun r=>∃k:Int,r= .v (.int .i64 k)∧0≤k∧(1≤n→k<n)∧(n<1→k=0)):=by
 refine enter Tryz.func21 rfl rfl rfl rfl rfl 1 rfl ?_;refine w_ (Bo (h:=Cv (h:=?_)));refine A4 rfl (fun hb1 hc1=>?_) (fun hb1 hc1=>?_)
 ·refine BK (h:=?_);refine AX none (h5:=(A7 _)) (h6:=⟨_,rfl,rfl,a,by omega,rfl,0,rfl,by omega,by omega,by omega⟩)
 refine AG (w_ (m_ (h:=k_ (h:=f_ (h:=l_ (h:=Ec (h:=k_ (h:=f_ (h:=s_ (h:=e_ (w_ (m_ (h:=k_ (h:=f_ (h:=l_ (h:=cG (h:=a_ (h:=e_ (q_ (q_ (Ct 10 (h:=AE 0 (h:=BL 1 (h:=?_))))))))))))))))))))))));refine AA 2 (h:=A9 3 (h:=AE 4 (h:=BL 5 (h:=AA 6 (h:=A9 7 (h:=Lu 8 (h:=cH 9 (h:=z_ (h:=t_ (?_))))))))));refine A4 rfl (fun hb2 hc2=>?_) (fun hb2 hc2=>?_)
 ·have hlt:a<l.length:=by simp at hc2;omega
  obtain⟨z,hz⟩:∃z,(l.map CT)[a]?=some (CT z):=⟨l[a],by simp[hlt]⟩;have tz:=Xo z (n:=n) (by omega);refine Ct 12 (h:=AE 0 (h:=BL 1 (h:=AA 2 (h:=A9 3 (h:=AE 4 (h:=BL 5 (h:=AA 6 (h:=A9 7 (h:=Sk 8 (h:=?_))))))))));refine F9 (i:=9) rfl (DE (n:=a) rfl rfl (by omega) hz ⟨rfl,rfl⟩) ?_;refine A9 10 (h:=B9 11 (h:=z_ (h:=t_ (w_ (m_ (h:=m_ (h:=?_)))))));refine A3 rfl (V5 rfl rfl (by omega) ?_);refine Bo (h:=Cv (h:=?_));refine A4 rfl (fun hb3 hc3=>?_) (fun hb3 hc3=>?_)
  ·refine EK (h:=?_);refine A3 rfl (Nw rfl rfl (by omega) ?_);refine Bt (h:=Az (h:=?_));refine AX none (h5:=(A7 _)) (h6:=⟨_,rfl,rfl,a+1,by omega,rfl,_,rfl,by omega,by omega,by omega⟩)
  refine AG (Dv (h:=?_));refine AX none (h5:=(A7 _)) (h6:=⟨_,rfl,rfl,a+1,by omega,rfl,_,rfl,by omega,by omega,by omega⟩)
 have tz:=Xo (IntKind.i64.wrap (((a:Int)+1) * 7)) (n:=n) (by omega);refine AG (DA (h:=?_));refine A3 rfl (V5 rfl rfl (by omega) ?_);refine Bo (h:=Cv (h:=?_));refine A4 rfl (fun hb4 hc4=>?_) (fun hb4 hc4=>?_)
 ·refine EK (h:=?_);refine A3 rfl (Nw rfl rfl (by omega) ?_);refine Bt (h:=Az (h:=?_));refine AX none (h5:=(A7 _)) (h6:=⟨_,rfl,rfl,a+1,by omega,rfl,_,rfl,by omega,by omega,by omega⟩)
 refine AG (Dv (h:=?_));refine AX none (h5:=(A7 _)) (h6:=⟨_,rfl,rfl,a+1,by omega,rfl,_,rfl,by omega,by omega,by omega⟩)
theorem E7(l:List Int)(a:Nat)(lo hi:Int)(ha:a≤1000000000000)(h1: -1000000≤lo)(h2:lo≤hi)(h3:hi≤1000000):GenF prog 47 l a [.v (.int .i64 lo), .v (.int .i64 hi)] 1 (fun r=>∃k:Int,r= .v (.int .i64 k)∧lo≤k∧k≤hi):=by
 refine enter Tryz.func47 rfl rfl rfl rfl rfl 1 rfl ?_;refine EL (h:=Jd (h:=m_ (h:=JE (h:=Ec (h:=?_)))));refine A3 rfl (B1 0 (hc:=Gn l a (hi - lo+1) ha (by omega)) (hR:=?_));rintro r a1 ha1 ⟨k,rfl,k1,k2,k3⟩;refine B2 ?_;refine Ec (h:=Az (h:=?_));refine AX none (h5:=(A7 _)) (h6:=⟨_,rfl,rfl,a1,by omega,rfl,_,rfl,by omega,by omega⟩)
theorem Gl(l:List Int)(a:Nat)(rows:List (List AV))(p:Int→Bool)(ha:a≤1000000000000)(h0:Nat.blt 0 rows.length=true)(h1:Nat.ble rows.length 1000=true)(hp:Qo p rows=true):GenF prog 78 l a [.sl 1 rows none] 1 (fun r=>∃z:Int,r= .v (.int .i64 z)∧p z=true):=by
 have h0':0<rows.length:=BV h0;have h1':rows.length≤1000:=BV h1;refine enter Tryz.func78 rfl rfl rfl rfl rfl 1 rfl ?_;refine EL (h:=Jd (h:=n_ (h:=?_)));refine A3 rfl (B1 0 (hc:=Gn l a rows.length ha (by omega)) (hR:=?_));rintro r a1 ha1 ⟨k,rfl,k1,k2,k3⟩;refine B2 ?_;obtain⟨m,rfl⟩:=Int.eq_ofNat_of_zero_le k1;obtain⟨z,hz,pz⟩:=Vb hp (i:=m) (by omega);refine A3 rfl (DE (n:=m) rfl rfl rfl hz ?_);refine l_ (h:=Az (h:=?_));refine AX none (h5:=(A7 _)) (h6:=⟨_,rfl,rfl,a1,by omega,rfl,z,rfl,pz⟩)
theorem Mr(l:List Int)(a:Nat)(rows:List (List AV))(p:ByteArray→Bool)(ha:a≤1000000000000)(h0:Nat.blt 0 rows.length=true)(h1:Nat.ble rows.length 1000=true)(hp:Qp p rows=true):GenF prog 81 l a [.sl 1 rows none] 1 (fun r=>∃z:ByteArray,r= .v (.string z)∧p z=true):=by
 have h0':0<rows.length:=BV h0;have h1':rows.length≤1000:=BV h1;refine enter Tryz.func81 rfl rfl rfl rfl rfl 1 rfl ?_;refine EL (h:=Jd (h:=n_ (h:=?_)));refine A3 rfl (B1 0 (hc:=Gn l a rows.length ha (by omega)) (hR:=?_));rintro r a1 ha1 ⟨k,rfl,k1,k2,k3⟩;refine B2 ?_;obtain⟨m,rfl⟩:=Int.eq_ofNat_of_zero_le k1;obtain⟨z,hz,pz⟩:=Vc hp (i:=m) (by omega);refine A3 rfl (DE (n:=m) rfl rfl rfl hz ?_);refine l_ (h:=Az (h:=?_));refine AX none (h5:=(A7 _)) (h6:=⟨_,rfl,rfl,a1,by omega,rfl,z,rfl,pz⟩)
theorem Xp(l:List Int)(a:Nat)(ha:a≤100000000000):GenF prog 127 l a [] 2 (fun r=>∃s:ByteArray,r= .v (.string s)∧s.size≤13):=by
 refine enter Tryz.func127 rfl rfl rfl rfl rfl 1 rfl ?_;refine w_ (Bo (h:=?_));refine A3 rfl (B1 0 (hc:=Gn l _ (20) (by omega) (by omega)) (hR:=?_));rintro r a1 ha1 ⟨k1,rfl,p1,q1,o1⟩;refine B2 ?_;refine Bd (h:=?_);refine A4 rfl (fun hb1 hc1=>?_) (fun hb1 hc1=>?_)
 ·refine Aa (h:=BX (h:=?_));refine A3 rfl (B1 0 (hc:=Mr l _ _ (fun s=>decide (s.size≤13)) (by omega) (by rfl) (by rfl) (by rfl)) (hR:=?_));rintro r a2 ha2 ⟨k2,rfl,p2⟩;refine B2 ?_;refine Dd (h:=?_);refine AX none (h5:=(A7 _)) (h6:=⟨_,rfl,rfl,_,?_,rfl,_,rfl,of_decide_eq_true ‹_›⟩)<;>omega
 refine AG (Aa (h:=BX (h:=?_)));refine A3 rfl (B1 0 (hc:=Mr l _ _ (fun s=>decide (s.size≤13)) (by omega) (by rfl) (by rfl) (by rfl)) (hR:=?_));rintro r a3 ha3 ⟨k3,rfl,p3⟩;refine B2 ?_;refine Az (h:=?_);refine AX none (h5:=(A7 _)) (h6:=⟨_,rfl,rfl,_,?_,rfl,_,rfl,of_decide_eq_true ‹_›⟩)<;>omega
theorem iP(l:List Int)(a:Nat)(ha:a≤50000000000):GenF prog 100 l a [] 20 (fun r=>∃s:ByteArray,r= .v (.string s)∧s.size≤58):=by
 have e1:(⟨#[47]⟩:ByteArray).size=1:=rfl;have e0:(⟨#[]⟩:ByteArray).size=0:=rfl;refine enter Tryz.func100 rfl rfl rfl rfl rfl 1 rfl ?_;refine D7 (h:=D7 (h:=?_));refine BC (fun s=>∃(b:Nat) (t:ByteArray),b≤a+1∧t.size≤1∧s=⟨look [(0, .bp 0 0),(3, .v (.string t))],⟨[Dr l b],[]⟩⟩) ?_ ?_
 ·skip
  refine Aa (h:=?_);refine A3 rfl (B1 0 (hc:=Gn l _ (6) (by omega) (by omega)) (hR:=?_));rintro r a1 ha1 ⟨k1,rfl,p1,q1,o1⟩;refine B2 ?_;refine Ed (h:=e_ (?_));refine A4 rfl (fun hb1 hc1=>?_) (fun hb1 hc1=>?_)
  ·refine Aw (Cw (h:=?_));refine⟨_,⟨_,_,?_,?_,rfl⟩,(wk 1 0)⟩<;>first|omega|exact BV rfl
  refine BG (AR (?_));refine⟨_,⟨_,_,?_,?_,rfl⟩,(wk 1 0)⟩<;>first|omega|exact BV rfl
 rintro s ⟨b,t0,hb,ht0,rfl⟩;refine Aa (h:=BX (h:=?_));refine A3 rfl (B1 0 (hc:=Gl l _ _ (fun z=>decide (0≤z∧z≤4)) (by omega) (by rfl) (by rfl) (by rfl)) (hR:=?_));rintro r a2 ha2 ⟨k2,rfl,p2⟩;refine B2 ?_;obtain⟨hz1,hz2⟩:=of_decide_eq_true p2;obtain⟨m,rfl⟩:=Int.eq_ofNat_of_zero_le hz1;refine JK (h:=?_);refine BM (fun n s=>∃(j b1:Nat) (t:ByteArray),j≤m∧n=m - j∧b1≤b+1+4 * j∧t.size≤1+14 * j∧s=⟨look [(0, .bp 0 0),(3, .v (.string t)),(4, .v (.int .i64 (m:Int))),(5, .v (.int .i64 (j:Int)))],⟨[Dr l b1],[]⟩⟩) (m) ((wk 1 0)) (⟨0,_,t0,by omega,rfl,by omega,by omega,rfl⟩) ?_;rintro n s ⟨j,b1,t,hj,rfl,hb1,ht,rfl⟩;refine De (h:=Cv (h:=?_));refine A4 rfl (fun hb2 hc2=>?_) (fun hb2 hc2=>?_)
 ·refine AG (?_);refine BC (fun s=>∃(b3:Nat) (t1:ByteArray),b3≤b1+4∧t1.size≤1+14 * (j+1)∧s=⟨look [(0, .bp 0 0),(3, .v (.string t1)),(4, .v (.int .i64 (m:Int))),(5, .v (.int .i64 (j:Int)))],⟨[Dr l b3],[]⟩⟩) ?_ ?_
  ·skip
   refine BF (Bf (h:=Ed (h:=e_ (?_))));refine A4 rfl (fun hb3 hc3=>?_) (fun hb3 hc3=>?_)
   ·refine C2 (h:=?_);refine A3 rfl (H0 rfl rfl (by(try simp only[Ki]);omega) ?_);refine Bt (h:=?_);refine A3 rfl (B1 0 (hc:=Gn l _ (8) (by omega) (by omega)) (hR:=?_));rintro r a3 ha3 ⟨k3,rfl,p3,q3,o3⟩;refine B2 ?_;refine Bd (h:=?_);refine A4 rfl (fun hb4 hc4=>?_) (fun hb4 hc4=>?_)
    ·refine EK (h:=BX (h:=?_));refine A3 rfl (B1 0 (hc:=Mr l _ _ (fun s=>decide (s.size≤13)) (by omega) (by rfl) (by rfl) (by rfl)) (hR:=?_));rintro r a4 ha4 ⟨k4,rfl,p4⟩;refine B2 ?_;have hw:=of_decide_eq_true p4;refine A3 rfl (H0 rfl rfl (by(try simp only[Ki]);omega) ?_);refine H6 (h:=BA (AR (?_)));refine⟨_,⟨_,_,?_,?_,rfl⟩,(wk 1 0)⟩<;>(try simp only[Ki])<;>omega
    refine EK (h:=?_);refine A3 rfl (B1 0 (hc:=Xp l _ (by omega)) (hR:=?_));rintro r a5 ha5 ⟨k5,rfl,hw⟩;refine B2 ?_;refine A3 rfl (H0 rfl rfl (by(try simp only[Ki]);omega) ?_);refine H6 (h:=BA (AR (?_)));refine⟨_,⟨_,_,?_,?_,rfl⟩,(wk 1 0)⟩<;>(try simp only[Ki])<;>omega
   refine AG (Aa (h:=?_));refine A3 rfl (B1 0 (hc:=Gn l _ (8) (by omega) (by omega)) (hR:=?_));rintro r a6 ha6 ⟨k6,rfl,p6,q6,o6⟩;refine B2 ?_;refine Bd (h:=?_);refine A4 rfl (fun hb5 hc5=>?_) (fun hb5 hc5=>?_)
   ·refine EK (h:=BX (h:=?_));refine A3 rfl (B1 0 (hc:=Mr l _ _ (fun s=>decide (s.size≤13)) (by omega) (by rfl) (by rfl) (by rfl)) (hR:=?_));rintro r a7 ha7 ⟨k7,rfl,p7⟩;refine B2 ?_;have hw:=of_decide_eq_true p7;refine A3 rfl (H0 rfl rfl (by(try simp only[Ki]);omega) ?_);refine H6 (h:=BA (AR (?_)));refine⟨_,⟨_,_,?_,?_,rfl⟩,(wk 1 0)⟩<;>(try simp only[Ki])<;>omega
   refine EK (h:=?_);refine A3 rfl (B1 0 (hc:=Xp l _ (by omega)) (hR:=?_));rintro r a8 ha8 ⟨k8,rfl,hw⟩;refine B2 ?_;refine A3 rfl (H0 rfl rfl (by(try simp only[Ki]);omega) ?_);refine H6 (h:=BA (AR (?_)));refine⟨_,⟨_,_,?_,?_,rfl⟩,(wk 1 0)⟩<;>(try simp only[Ki])<;>omega
  rintro s ⟨b3,t1,hb3,ht1,rfl⟩;refine Qx (h:=?_);refine⟨_,_,?_,⟨j+1,_,_,by omega,rfl,?_,?_,rfl⟩,(wk 1 0)⟩<;>omega
 refine CP (h:=Bf (h:=?_));refine A3 rfl (B1 0 (hc:=Gn l _ (8) (by omega) (by omega)) (hR:=?_));rintro r a9 ha9 ⟨k9,rfl,p9,q9,o9⟩;refine B2 ?_;refine Bd (h:=?_);refine A4 rfl (fun hb6 hc6=>?_) (fun hb6 hc6=>?_)
 ·refine C2 (h:=?_);refine A3 rfl (H0 rfl rfl (by(try simp only[Ki]);omega) ?_);refine Bt (h:=Az (h:=?_));refine AX none (h5:=(A7 _)) (h6:=⟨_,rfl,rfl,_,?_,rfl,_,rfl,?_⟩)<;>(try simp only[Ki])<;>omega
 refine AG (Dv (h:=?_));refine AX none (h5:=(A7 _)) (h6:=⟨_,rfl,rfl,_,?_,rfl,_,rfl,?_⟩)<;>(try simp only[Ki])<;>omega
end
theorem iQ:VD O4:=by
 refine⟨by decide,by decide,by decide,⟨R3,[],rfl,rfl,rfl,rfl⟩,List.pairwise_singleton _ _,?_,?_,?_,?_,?_,?_,?_,?_,?_,⟨fun _=>0,?_⟩⟩<;>
  (intro n hn;obtain rfl:n=R3:=by simpa[O4]using hn)
 ·decide
 ·decide+kernel
 ·intro h;exact absurd rfl h
 ·decide
 ·exact List.Pairwise.nil
 ·intro e he;cases he
 ·intro h;exact absurd rfl h
 ·intro h;exact absurd rfl h
 ·intro h;exact absurd rfl h
 intro h;exact absurd rfl h
theorem Xq{k:Int}(h1:1≤k)(h2:k≤3):FlsV (GO k).1∧0<(GO k).1.length:=by
 unfold GO;rw[if_neg (by omega)];refine⟨⟨?_,fun d hd=>?_⟩,?_⟩
 ·show(List.replicate _ _).length≤3;rw[List.length_replicate];omega
 ·rw[(List.mem_replicate.1 hd).2];exact iQ
 show 0<(List.replicate _ _).length;rw[List.length_replicate];omega
structure MntOK(f:AU)(ms:List E6)(m:E6):Prop where
 dev1:1≤m.1
 dev2:m.1<(f.length:Int)
 fresh:DN ⟨f,ms⟩ m.1=false
 dir:Ac f m.2=true
 there:DN ⟨f,ms⟩ m.2.1=true
 free:(Dm ⟨f,ms⟩ m.2).isSome=false
structure SpcV(s:Spc):Prop where
 files:FlsV s.files
 pos:0<s.files.length
 mnt:∀i m,s.mounts[i]?=some m→MntOK s.files (s.mounts.take i) m
theorem iR{s:Spc}(h:SpcV s)(dev:Int)(a:AD)(h0:(ER s dev a).2=0):SpcV (ER s dev a).1∧(ER s dev a).1=⟨s.files,s.mounts++[(dev,a)]⟩:=by
 unfold ER at h0 ⊢;split at h0
 ·exact absurd h0 (by decide)
 rename_i c1;split at h0
 ·exact absurd h0 (by decide)
 rename_i c2;split at h0
 ·exact absurd h0 (by decide)
 rename_i c3;split at h0
 ·exact absurd h0 (by decide)
 rename_i c4;split at h0
 ·exact absurd h0 (by decide)
 rename_i c5;rw[if_neg c1,if_neg c2,if_neg c3,if_neg c4,if_neg c5];refine⟨⟨h.files,h.pos,fun i m hi=>?_⟩,rfl⟩;simp only at hi ⊢;rcases Nat.lt_trichotomy i s.mounts.length with hlt|heq|hgt
 ·rw[DJ hlt]at hi;rw[List.take_append_of_le_length (by omega)];exact h.mnt i m hi
 ·subst heq;simp at hi;subst hi;rw[List.take_left' rfl];exact⟨by simp only;omega,by simp only;omega,by simpa using fun h=>c5 (.inl h),by simp only;rw[M1];simp at c2 c3;simp[c2,c3],by simpa using fun h=>c4 (.inl h),Bool.eq_false_iff.2 fun h=>c5 (.inr h)⟩
 rw[List.getElem?_eq_none (by simp;omega)]at hi;cases hi
end Go.Proofs.YtbgnigjfkbmceaaGreatDoor
namespace Go.Proofs.YtbgnigjfkbmceaaGreatDoor
def El(s:Spc)(a:AD):Option AD:=if a.2≠1 then some (a.1,(Ag s.files a).parent)else C1 s a.1
def ends(s:Spc):Nat→AD→Prop
 |0,a=>Ac s.files a=false
 |k+1,a=>Ac s.files a=false∨∀b,El s a=some b→ends s k b
theorem Ra{s:Spc}{dev:Int}{on:AD}(h:C1 s dev=some on):∃m∈s.mounts,m.1=dev∧m.2=on:=by
 unfold C1 at h
 cases hf:s.mounts.find? fun m:E6=>decide (m.1=dev)with
 |none=>rw[hf]at h;cases h
 |some m=>
   rw[hf]at h;injection h with h;exact⟨m,List.mem_of_find?_eq_some hf,by have:=List.find?_some hf;simpa using this,h⟩
theorem OL{f:AU}{a:AD}(h:¬Ac f a=false):∃(q:Nat) (d:Dvc) (m:Nod),a.1=(q:Int)∧f[q]?=some d∧m∈d.nodes∧m.ino=a.2∧Ag f a=m∧m.kind=2:=by
 rw[Bool.not_eq_false,M1,Bool.and_eq_true,decide_eq_true_eq]at h;obtain⟨q,i,d,m,h1,h2,h3,h4,_,h6⟩:=RW h.1;exact⟨q,d,m,h1,h2,Am h3,h4,h6,by rw[←h6];exact h.2⟩
theorem OM{s:Spc}(hv:SpcV s){a:AD}(h:¬Ac s.files a=false):Gi s a=El s a:=by
 obtain⟨q,d,m,_,_,_,h4,h5,_⟩:=OL h;unfold Gi El;rw[h5,h4];split
 ·rfl
 split
 ·rename_i h0
  cases ho:C1 s a.1 with
  |none=>rfl
  |some on=>
    obtain⟨m',hm,h1,_⟩:=Ra ho;obtain⟨i,hi⟩:=List.getElem?_of_mem hm;have:=(hv.mnt i m' hi).dev1;omega
 rfl
def Ms(s:Spc)(dev:Int):Nat:=match s.mounts.findIdx? fun m:E6=>decide (m.1=dev)with
 |none=>0
 |some i=>i+1
theorem Xr{s:Spc}(hv:SpcV s){dev:Int}{on:AD}(h:C1 s dev=some on):Ms s on.1<Ms s dev:=by
 unfold C1 at h
 cases hf:s.mounts.find? fun m:E6=>decide (m.1=dev)with
 |none=>rw[hf]at h;cases h
 |some m=>
   rw[hf]at h;injection h with h;subst h;rw[List.find?_eq_some_iff_getElem]at hf;obtain⟨hp,i,hi,hmi,hbefore⟩:=hf
   have e1:s.mounts.findIdx? (fun m:E6=>decide (m.1=dev))=some i:=by
    rw[List.findIdx?_eq_some_iff_getElem];exact⟨hi,by rw[hmi];exact hp,fun j hj=>by simpa using hbefore j hj⟩
   have hthere:=(hv.mnt i m (by rw[B6 hi,hmi])).there;unfold Ms;rw[e1]
   cases e2:s.mounts.findIdx? (fun m':E6=>decide (m'.1=m.2.1))with
   |none=>simp
   |some j=>
     simp only;by_cases h0:m.2.1=0
     ·rw[List.findIdx?_eq_some_iff_getElem]at e2;obtain⟨hj,h1,_⟩:=e2;have:=(hv.mnt j _ (B6 hj)).dev1;simp only[decide_eq_true_eq]at h1;omega
     unfold DN C1 at hthere;simp only[Bool.or_eq_true,decide_eq_true_eq,h0,or_false,Option.isSome_map]at hthere
     cases hg:(s.mounts.take i).find? fun m':E6=>decide (m'.1=m.2.1)with
     |none=>rw[hg]at hthere;cases hthere
     |some m'=>
       rw[List.find?_eq_some_iff_getElem]at hg;obtain⟨hp',k,hk,hmk,_⟩:=hg;rw[List.findIdx?_eq_some_iff_getElem]at e2;obtain⟨hj,_,hno⟩:=e2;have hki:k<i:=by simp at hk;omega
       by_cases hjk:j≤k
       ·omega
       have:=hno k (by omega);simp only[List.getElem_take]at hmk;rw[hmk]at this;rw[hp']at this;exact absurd rfl this
theorem iS{s:Spc}(hv:SpcV s):∀(p:Nat) (a:AD),Ms s a.1<p→∃k,ends s k a:=by
 intro p
 induction p with
 |zero=>intro a h;omega
 |succ p ih=>
   intro a hp;by_cases hd:Ac s.files a=false
   ·exact⟨0,hd⟩
   obtain⟨q,d,m,hq,hfd,_⟩:=OL hd;have hvd:=hv.files.vd d (Am hfd);obtain⟨rk,hrk⟩:=hvd.rank
   have key:∀(r:Nat) (ino:Int),rk ino<r→∃k,ends s k (a.1,ino):=by
    intro r
    induction r with
    |zero=>intro ino h;omega
    |succ r ihr=>
      intro ino hr;by_cases hd2:Ac s.files (a.1,ino)=false
      ·exact⟨0,hd2⟩
      obtain⟨q',d',m',hq',hfd',hm',hi',hn',hk'⟩:=OL hd2;have:q'=q:=by simp only at hq';omega
      subst this;rw[hfd]at hfd';injection hfd' with hfd';subst hfd';simp only at hi';by_cases h1:ino=1
      ·cases ho:C1 s a.1 with
       |none=>exact⟨1, .inr fun b hb=>by simp[El,h1,ho]at hb⟩
       |some on=>
         obtain⟨k,hk⟩:=ih on (by have:=Xr hv ho;omega);refine⟨k+1, .inr fun b hb=>?_⟩;simp[El,h1,ho]at hb;rw[←hb];exact hk
      obtain⟨k,hk⟩:=ihr m'.parent (by have:=hrk m' hm' (by omega) hk';rw[hi']at this;omega);refine⟨k+1, .inr fun b hb=>?_⟩;simp[El,h1,hn']at hb;rw[←hb];exact hk
   exact key (rk a.2+1) a.2 (by omega)
theorem Nd{s:Spc}{a:AD}(h:Ac s.files a=false):∀k,C8 s k a=[]
 |0=>rfl
 |k+1=>by unfold C8;rw[h];rfl
theorem M9{s:Spc}{a:AD}(h:¬Ac s.files a=false)(k:Nat):C8 s (k+1) a=a::(match Gi s a with
    |none=>[]
    |some b=>C8 s k b):=by
 conv=>lhs;unfold C8
 rw[if_pos (by simpa using h)];cases Gi s a<;>rfl
theorem Xs{s:Spc}(hv:SpcV s):∀(k k':Nat) (a:AD),ends s k a→ends s k' a→C8 s k a=C8 s k' a:=by
 intro k
 induction k with
 |zero=>intro k' a h _;rw[Nd h,Nd h]
 |succ k ih=>
   intro k' a h h';by_cases hd:Ac s.files a=false
   ·rw[Nd hd,Nd hd]
   cases k' with
   |zero=>exact absurd h' hd
   |succ k'=>
     rw[M9 hd,M9 hd];have h1:=h.resolve_left hd;have h2:=h'.resolve_left hd;rw[←OM hv hd]at h1 h2
     cases hs:Gi s a with
     |none=>rfl
     |some b=>simp only;rw[ih k' b (h1 b hs) (h2 b hs)]
theorem Xt{s:Spc}(hv:SpcV s):∀(k:Nat) (a x:AD),ends s k a→x∈C8 s k a→(¬Ac s.files x=false)∧∃j,ends s j x∧(C8 s j x).length≤(C8 s k a).length:=by
 intro k
 induction k with
 |zero=>intro a x h hx;cases hx
 |succ k ih=>
   intro a x h hx;by_cases hd:Ac s.files a=false
   ·rw[Nd hd]at hx;cases hx
   have h1:=h.resolve_left hd;rw[←OM hv hd]at h1;rw[M9 hd]at hx;rcases List.mem_cons.1 hx with rfl|hx
   ·exact⟨hd,k+1,h,B7 _⟩
   rw[M9 hd]
   cases hs:Gi s a with
   |none=>rw[hs]at hx;cases hx
   |some b=>
     rw[hs]at hx;obtain⟨h2,j,h3,h4⟩:=ih b x (h1 b hs) hx;exact⟨h2,j,h3,by simp;omega⟩
theorem iT{s:Spc}(hv:SpcV s):∀(k:Nat) (a:AD),ends s k a→(C8 s k a).Nodup:=by
 intro k
 induction k with
 |zero=>intro a h;exact List.nodup_nil
 |succ k ih=>
   intro a h;by_cases hd:Ac s.files a=false
   ·rw[Nd hd];exact List.nodup_nil
   have h1:=h.resolve_left hd;rw[←OM hv hd]at h1
   cases hs:Gi s a with
   |none=>rw[M9 hd,hs];simp
   |some b=>
     have e:C8 s (k+1) a=a::C8 s k b:=by rw[M9 hd,hs]
     rw[e,List.nodup_cons];refine⟨fun hm=>?_,ih b (h1 b hs)⟩;obtain⟨_,j,h3,h4⟩:=Xt hv k b a (h1 b hs) hm;rw[Xs hv j (k+1) a h3 h,e]at h4;simp at h4;omega
def ON:Nat→AU→List AD
 |_,[]=>[]
 |q,d::ds=>d.nodes.map (fun n=>((q:Int),n.ino))++ON (q+1) ds
theorem Xu:∀(f:AU) (q:Nat),(ON q f).length=CR f
 |[],_=>rfl
 |d::ds,q=>by
   have:=Xu ds (q+1);unfold CR at this ⊢;simp only[ON,List.length_append,List.length_map,List.map_cons,List.sum_cons];omega
theorem Xv:∀(f:AU) (q i:Nat) (d:Dvc) (m:Nod),f[i]?=some d→m∈d.nodes→(((q+i:Nat):Int),m.ino)∈ON q f
 |[],_,i,_,_,h,_=>by simp at h
 |d0::ds,q,0,d,m,h,hm=>by
   simp only[List.getElem?_cons_zero,Option.some.injEq]at h;subst h;simp only[ON,Nat.add_zero];exact List.mem_append_left _ (List.mem_map.2 ⟨m,hm,rfl⟩)
 |d0::ds,q,i+1,d,m,h,hm=>by
   simp only[List.getElem?_cons_succ]at h;have:=Xv ds (q+1) i d m h hm;simp only[ON];refine List.mem_append_right _ ?_
   rwa [show q+(i+1)=q+1+i by omega]
theorem iU{l:List AD}(hn:l.Nodup):∀{m:List AD},(∀x∈l,x∈m)→l.length≤m.length:=by
 induction l with
 |nil=>intro m _;simp
 |cons x xs ih=>
   intro m h;rw[List.nodup_cons]at hn
   have h1:=ih hn.2 (m:=m.erase x) fun y hy=>by
    have hne:y≠x:=fun e=>hn.1 (e ▸ hy);exact(List.mem_erase_of_ne hne).2 (h y (List.mem_cons_of_mem _ hy))
   have h2:=List.length_erase_of_mem (h x (List.mem_cons_self ..));have h3:0<m.length:=List.length_pos_of_mem (h x (List.mem_cons_self ..));simp only[List.length_cons];omega
theorem iV{s:Spc}(hv:SpcV s){k:Nat}{a:AD}(h:ends s k a):(C8 s k a).length≤CR s.files:=by
 rw[←Xu s.files 0];refine iU (iT hv k a h) fun x hx=>?_;obtain⟨hd,_⟩:=Xt hv k a x h hx;obtain⟨q,d,m,h1,h2,h3,h4,_⟩:=OL hd;have:=Xv s.files 0 q d m h2 h3;rw[Nat.zero_add,h4,←h1]at this;exact this
theorem iW{s:Spc}(hv:SpcV s):∀(k m:Nat) (a:AD),ends s k a→(C8 s k a).length≤m→ends s m a:=by
 intro k
 induction k with
 |zero=>
   intro m a h _
   cases m with
   |zero=>exact h
   |succ m=>exact .inl h
 |succ k ih=>
   intro m a h hl;by_cases hd:Ac s.files a=false
   ·cases m with
    |zero=>exact hd
    |succ m=>exact .inl hd
   have h1:=h.resolve_left hd;rw[M9 hd]at hl
   cases m with
   |zero=>simp at hl
   |succ m=>
     refine .inr fun b hb=>?_;have hb':=hb;rw[←OM hv hd]at hb';rw[hb']at hl;exact ih m b (h1 b hb) (by simpa using hl)
theorem Pc{s:Spc}(hv:SpcV s)(a:AD):ends s (CR s.files) a:=by
 obtain⟨k,hk⟩:=iS hv (Ms s a.1+1) a (Nat.lt_succ_self _);exact iW hv k _ a hk (iV hv hk)
end Go.Proofs.YtbgnigjfkbmceaaGreatDoor
namespace Go.Proofs.YtbgnigjfkbmceaaGreatDoor
open Go.RowKit Go.Shelf
section
variable {F:Fence}{n:Nat}{P:Program}
theorem iX{α:Type}{g:Operand}{ps:Array Tmp}{assign body:Code}{Q:Exit→Act→World→Prop}{a:Act}{w:World}
    (hro:F.round=none) (h1:1≤n) {gf:Nat} {lb:Array Value} (hg:a.eval g= .func (.func gf) #[] lb) (hFg:F.fn gf) (eg:∀args w,(callFunc gf args).run P w= .ok (.enter gf args) w)
    {encs:α→Array Value} {own:Nat→Prop} {Kp:World→World→Prop} {Pf:List α→Prop} {S Sp:List α→Prop} {w0:World} (hseq:RP F (n - 1) P gf lb encs own Kp Pf S Sp w0)
    (hown:∀b,own b→b<w.heap.size) (hKt:∀{A B C:World},Kp A B→Kp B C→Kp A C) (hKb:∀(W:World) (l:Nat) (o o':Obj),w.heap.size≤l→W.heap[l]?=some o→o.isCells=false→Kp W (W.putObj l o'))
    (hb0:Below w0.heap.size w0 w) (hps:∀x,(encs x).size=ps.size)
    (I:List α→World→Prop) (Ix:Code→List α→World→Prop) (hI:∀s X Y,I s X→Moves own w.heap.size X Y→I s Y) (hIx:∀c s X Y,Ix c s X→Moves own w.heap.size X Y→Ix c s Y) (h0:I [] w) (a₁:α→World→Act) (w₁:α→World→World) (hw1:∀x W,w.heap.size+2≤W.heap.size→Below W.heap.size W (w₁ x W)∧Kp W (w₁ x W))
    (hassign:∀(l:Nat) (x:α) (W:World) (K:Act→World→Prop),w.heap.size+2≤W.heap.size→K (a₁ x W) (w₁ x W)→
      assign.wpIn (F.inRound l) (n - 1 - 1) P (Exit.then K (fun _ _ _=>False)) {tmps:=(ps.zip (encs x)).foldl (fun t (p,v)=>t.setIfInBounds p v) a.tmps,defers:=[]} W)
    (hbody:∀(l:Nat) (pre:List α) (x:α) (W0 W:World),I pre W→Pf (pre++[x])→w.heap.size+2≤W0.heap.size→(w₁ x W0).heap.size≤W.heap.size→(∀(k:Nat) (o:Obj),(w₁ x W0).heap[k]?=some o→o.isCells=true→W.heap[k]?=some o)→w.heap.size≤l→(∃r,W.heap[l]?=some (.loop r))→
      body.wpIn (F.inRound l) (n - 1 - 1) P (ownPostG w.heap.size Kp I Ix (pre++[x]) W) (a₁ x W0) W)
    (hdone:∀(D:Nat) (xs:List α) (W:World),w.heap.size≤D→S xs→I xs W→W.heap[D]?=some (.deferred (some []))→Q .normal {a with defers:={target:= .collected D,args:=#[]}::a.defers} W)
    (hstop:∀(D:Nat) (c:Code) (pre:List α) (W:World),w.heap.size≤D→Sp pre→Ix c pre W→W.heap[D]?=some (.deferred (some []))→c.wpIn F n P Q {a with defers:={target:= .collected D,args:=#[]}::a.defers} W):
    (Code.rangeFunc g ps assign body).wpIn F n P Q a w:=by
 refine wpIn_rangeFunc ?_;intro fn hfn;rw[hro];obtain⟨rec,hrec⟩:∃rec:LoopState→Option Code→Loop,rec=fun st pe=>{state:=st,pending:=pe,fn,tmps:=a.tmps,params:=ps,assign,body,defers:=w.heap.size}:=⟨_,rfl⟩;obtain⟨W1,hW1⟩:∃W1,(w.alloc (.deferred (some []))).alloc (.loop (rec .ready none))=W1:=⟨_,rfl⟩;have hbw:Below w.heap.size w W1:=by rw[←hW1];exact NU w _ _
 have hsz:W1.heap.size=w.heap.size+2:=by rw[←hW1];simp
 have hL1:W1.heap[w.heap.size+1]?=some (.loop (rec .ready none)):=by rw[←hW1];exact OB _ _ _
 have hK1:W1.heap[w.heap.size]?=some (.deferred (some [])):=by rw[←hW1];exact OA _ _ _
 have hn0:¬own w.heap.size:=fun h=>by have:=hown _ h;omega
 have hn1:¬own (w.heap.size+1):=fun h=>by have:=hown _ h;omega
 refine⟨w.heap.size+1,[{target:= .collected w.heap.size,args:=#[]}],W1,{target:= .fn (.func gf) lb,args:=#[.func (.yield (w.heap.size+1)) #[] #[]]},W1,gf,
  #[.func (.yield (w.heap.size+1)) #[] #[]]++lb,W1,?_,?_,?_,?_,fun _=>h1,?_⟩
 ·rw[←hW1,hrec];exact run_enterLoop_outer _ _ _ _ _
 ·simp only[resolve,hg];simp[go_sem]
 ·intro f' hf';simp[Target.leads]at hf';subst hf';exact hFg
 ·simp[invoke,go_sem,eg]
 have lt_of:∀{W:World} {k:Nat} {o:Obj},W.heap[k]?=some o→k<W.heap.size:=fun h=>(Array.getElem?_eq_some_iff.1 h).1;have keep:∀{X Y:World} {k:Nat} {o:Obj},Moves own W1.heap.size X Y→X.heap[k]?=some o→k<W1.heap.size→¬own k→Y.heap[k]?=some o:=fun hm hx hk hn=>(hm.block _ (lt_of hx) hn (.inl hk)).trans hx
 refine(hseq (w.heap.size+1)
  (fun pre W=>I pre W∧W.heap[w.heap.size+1]?=some (.loop (rec .ready none))∧W.heap[w.heap.size]?=some (.deferred (some [])))
  (fun pre W=>∃c,Ix c pre W∧W.heap[w.heap.size+1]?=some (.loop (rec .done (some c)))∧W.heap[w.heap.size]?=some (.deferred (some [])))
  W1 (hb0.trans (hbw.mono hb0.size))
  (fun s X Y hs hm=>⟨hI s X Y hs.1 (hm.mono (by omega)),keep hm hs.2.1 (by omega) hn1,keep hm hs.2.2 (by omega) hn0⟩)
  (fun s X Y hs hm=>by
    obtain⟨c,hc,hl,hk⟩:=hs
    exact⟨c,hIx c s X Y hc (hm.mono (by omega)),keep hm hl (by omega) hn1,keep hm hk (by omega) hn0⟩)
  ?_ ⟨hI _ _ _ h0 (.below hbw),hL1,hK1⟩).mono ?_
 ·rintro pre x W0 ⟨hi0,hl0,hk0⟩ hpf;have hlt0:w.heap.size+1<W0.heap.size:=lt_of hl0;obtain⟨hbV,hkV⟩:=hw1 x W0 hlt0;obtain⟨W,hWe⟩:∃W,w₁ x W0=W:=⟨_,rfl⟩;rw[hWe]at hbV hkV;have hi:I pre W:=hI _ _ _ hi0 (.below hbV);have hl:=(hbV.block _ (by omega)).trans hl0;have hk:=(hbV.block _ (by omega)).trans hk0;have hlt:w.heap.size+1<W.heap.size:=lt_of hl;have hy:=run_yield (P:=P) (args:=encs x) hl0 (by rw[hrec];exact hps x);rw[hrec]at hy;refine⟨fn,_,assign,body,hy,roundIn_of_wpIn hfn (hassign _ x W0 _ hlt0 ⟨_,run_beginRound (by rw[hWe];exact hl) (by rw[hrec]),?_⟩)⟩;rw[hWe];have hl2:(W.putObj (w.heap.size+1) (.loop {rec .ready none with state:= .busy})).heap[w.heap.size+1]?=some (.loop {rec .ready none with state:= .busy}):=World.putObj_heap_same hlt;have hk2:(W.putObj (w.heap.size+1) (.loop {rec .ready none with state:= .busy})).heap[w.heap.size]?=some (.deferred (some [])):=(World.putObj_heap_other (by omega)).trans hk;have hw2:Kp W0 (W.putObj (w.heap.size+1) (.loop {rec .ready none with state:= .busy})):=hKt hkV (hKb _ _ _ _ (by omega) hl rfl)
  refine wpIn_mono (hbody _ pre x W0 _ (hI _ _ _ hi (.put_ _ hl rfl (by omega))) hpf hlt0 (by rw[hWe];exact(grownBy_putObj' W (w.heap.size+1) _).size) (fun k o hko hoc=>by
   rw[hWe]at hko;refine(World.putObj_heap_other fun e=>?_).trans hko;subst e;rw[hl]at hko;injection hko with hko;subst hko
   cases hoc) (by omega) ⟨_,hl2⟩) ?_
  have fin:∀(jump:Option Code) (W3:World),KeepsFrom w.heap.size (W.putObj (w.heap.size+1) (.loop {rec .ready none with state:= .busy})) W3→
      (Instr.endRound (w.heap.size+1) jump).run P W3= .ok (.bool jump.isNone) (W3.putObj (w.heap.size+1) (.loop (rec (if jump.isNone then .ready else .done) jump)))∧
      W3.heap[w.heap.size+1]?=some (.loop {rec .ready none with state:= .busy})∧
      (W3.putObj (w.heap.size+1) (.loop (rec (if jump.isNone then .ready else .done) jump))).heap[w.heap.size+1]?=some (.loop (rec (if jump.isNone then .ready else .done) jump))∧
      (W3.putObj (w.heap.size+1) (.loop (rec (if jump.isNone then .ready else .done) jump))).heap[w.heap.size]?=some (.deferred (some [])):=fun jump W3 hk3=>by
   have hl3:=hk3.same _ _ (by omega) hl2 rfl;have:=run_endRound (P:=P) jump hl3;rw[hrec]at this ⊢;exact⟨this,by rw[hrec]at hl3;exact hl3,World.putObj_heap_same (lt_of hl3),(World.putObj_heap_other (by omega)).trans (hk3.same _ _ (B7 _) hk2 rfl)⟩
  rintro e a3 W3 hp
  cases e with
  |normal=>
    obtain⟨hk3,hkp3,hi3⟩:=hp;obtain⟨hr,hl3,hl4,hk4⟩:=fin none W3 hk3;exact⟨_,_,hr, .inl ⟨rfl,⟨hI _ _ _ hi3 (.put_ _ hl3 rfl (by omega)),hl4,hk4⟩,hKt (hKt hw2 hkp3) (hKb _ _ _ _ (by omega) hl3 rfl)⟩⟩
  |ret=>
    obtain⟨hk3,hi3⟩:=hp;obtain⟨hr,hl3,hl4,hk4⟩:=fin (some .ret) W3 hk3;exact⟨_,_,hr, .inr ⟨rfl, .ret,hIx _ _ _ _ hi3 (.put_ _ hl3 rfl (by omega)),hl4,hk4⟩⟩
  |exit id=>
    obtain⟨hk3,hi3⟩:=hp;obtain⟨hr,hl3,hl4,hk4⟩:=fin (some (.exit id)) W3 hk3;exact⟨_,_,hr, .inr ⟨rfl, .exit id,hIx _ _ _ _ hi3 (.put_ _ hl3 rfl (by omega)),hl4,hk4⟩⟩
  |goto t=>
    obtain⟨hk3,hi3⟩:=hp;obtain⟨hr,hl3,hl4,hk4⟩:=fin (some (.goto t)) W3 hk3;exact⟨_,_,hr, .inr ⟨rfl, .goto t,hIx _ _ _ _ hi3 (.put_ _ hl3 rfl (by omega)),hl4,hk4⟩⟩
  |panic ch=>exact hp.elim
  |outgrown=>exact hp.elim
 rintro e W2 ⟨⟨v,rfl⟩,(⟨xs,hS,hi,hl,hk⟩|⟨pre,hSp,c,hi,hl,hk⟩)⟩
 ·exact⟨none,_,by have:=run_endLoop (P:=P) hl (by rw[hrec];simp);rw[hrec]at this;exact this,hdone _ xs _ (B7 _) hS (hI _ _ _ hi (.put_ _ hl rfl (by omega))) ((World.putObj_heap_other (by omega)).trans hk)⟩
 exact⟨some c,_,by have:=run_endLoop (P:=P) hl (by rw[hrec];simp);rw[hrec]at this;exact this,hstop _ c pre _ (B7 _) hSp (hIx _ _ _ _ hi (.put_ _ hl rfl (by omega))) ((World.putObj_heap_other (by omega)).trans hk)⟩
end
theorem iY{W:World}{k:Nat}{o:Obj}(h:W.heap[k]?=some o):k<W.heap.size:=(Array.getElem?_eq_some_iff.1 h).1
attribute [local go_sem] Oper.semAt_some
set_option maxRecDepth 100000 in
set_option maxHeartbeats 2000000 in
theorem iZ(n:Nat)(hn:Hid (1≤n))(s:Spc)(hs:SpcB s)(root dir:AD)(ds ms:Value)(w:World)(h:SpcIn s w.heap.size w ds ms):
    CallsIn Fence.wide n prog 120 #[.agg #[ds,ms],Hu root,Hu dir] w fun e w'=>e= .returned (.bool (decide (root∈C8 s (CR s.files) dir)))∧Below w.heap.size w w':=by
 obtain⟨rd,ri⟩:=root;obtain⟨dd,di⟩:=dir;unfold Hu;refine callsIn_of_wp_marks Tryz.func120 rfl trivial ?_ rfl;simp only[Tryz.ntmps120,List.size_toArray,List.length_cons,List.length_nil,Nat.reduceAdd,Nat.reduceSub,Array.replicate_succ,Array.replicate_zero,List.push_toArray,List.append_toArray,List.nil_append,List.cons_append]
 gi_wp2_with fail
 obtain⟨W4,hW4⟩:∃W4,(((w.alloc (.cells #[ds,ms] 42)).alloc (.cells #[.int .i64 rd, .int .i64 ri] 26)).alloc (.cells #[.int .i64 dd, .int .i64 di] 26)).alloc (.cells #[.bool false] 4)=W4:=⟨_,rfl⟩;have hz4:W4.heap.size=w.heap.size+4:=by rw[←hW4];simp
 have hB4:Below w.heap.size w W4:=by rw[←hW4];exact Wj _ _ _ _ _
 have kR:W4.heap[w.heap.size+1]?=some (.cells #[.int .i64 rd, .int .i64 ri] 26):=by rw[←hW4];exact Wk _ _ _ _ _
 have kE:Boxed W4 (w.heap.size+1+1+1) 4 (.bool false):=by rw[←hW4];exact Wl _ _ _ _ _
 rw[hW4];have HZ4:=Lib.hid hz4;clear hW4;refine NZ ((callsIn_wide.2 (gA ds ms (dd,di) W4)).mono ?_);rintro e W6 ⟨rfl,hW6⟩;have hB6:Below W4.heap.size W4 W6:=by rw[hW6];exact NU _ _ _
 have hz6:W6.heap.size=w.heap.size+6:=by rw[hW6];simp[hz4]
 have kS:W6.heap[W4.heap.size]?=some (.cells #[ds,ms] 42):=by rw[hW6];exact OA _ _ _
 have kD:W6.heap[W4.heap.size+1]?=some (.cells #[.int .i64 dd, .int .i64 di] 26):=by rw[hW6];exact OB _ _ _
 have kR6:=Fb kR hB6 (by omega);have kE6:Boxed W6 (w.heap.size+1+1+1) 4 (.bool false):=Fb kE hB6 (by omega);have hBw:Below w.heap.size w W6:=hB4.trans (hB6.mono (by omega));have kSp:=h.below hBw (B7 _);have HZ6:=Lib.hid hz6;clear hW6 kR kE hB4 hB6 hz6 hz4
 gi_wp2_with fail
 refine iX rfl hn.out (gf:=228) rfl trivial (enters_of Tryz.func228 (by kernel_rfl) rfl)
  (gE (n - 1) s hs (dd,di) w.heap.size W4.heap.size (W4.heap.size+1) ds ms W6 kS kD kSp (by have:=HZ4.out;omega) (by have:=HZ4.out;omega) (by omega))
  (fun b hb=>by have:=HZ4.out;have:=HZ6.out;omega) KeepC.trans (fun W l o o' hl ho hc=>by have:=HZ4.out;have:=HZ6.out;exact gC (B:=W6.heap.size) (by omega) (by omega) (by omega) W l o o' hl ho hc) (Below.refl _ _) (fun _=>rfl)
  (fun pre W=>W.heap[w.heap.size+1]?=some (.cells #[.int .i64 rd, .int .i64 ri] 26)∧Boxed W (w.heap.size+1+1+1) 4 (.bool false)∧(rd,ri)∉pre∧Below w.heap.size w W)
  (fun c pre W=>c= .ret∧Boxed W (w.heap.size+1+1+1) 4 (.bool true)∧(rd,ri)∈pre∧Below w.heap.size w W)
  (fun s X Y h hm=>⟨(hm.block _ (iY h.1) (by have:=HZ4.out;omega) (.inr ⟨_,h.1,rfl⟩)).trans h.1,hm.boxed h.2.1 (by have:=HZ4.out;omega),h.2.2.1,hm.under h.2.2.2 (B7 _) (fun b hb=>by have:=HZ4.out;omega) (by have:=HZ6.out;omega)⟩)
  (fun c s X Y h hm=>⟨h.1,hm.boxed h.2.1 (by have:=HZ4.out;omega),h.2.2.1,hm.under h.2.2.2 (B7 _) (fun b hb=>by have:=HZ4.out;omega) (by have:=HZ6.out;omega)⟩)
  ⟨kR6,kE6,by simp,hBw⟩
  (fun x W=>{tmps:=#[.agg #[ds,ms], .agg #[.int .i64 rd, .int .i64 ri], .agg #[.int .i64 dd, .int .i64 di], .pointer (some ⟨w.heap.size,0,none⟩), .pointer (some ⟨w.heap.size+1,0,none⟩), .pointer (some ⟨w.heap.size+1+1,0,none⟩), .pointer (some ⟨w.heap.size+1+1+1,0,none⟩), .pointer (some ⟨W.heap.size,0,none⟩), .agg #[ds,ms], .agg #[.int .i64 dd, .int .i64 di],
    .func (.func 228) #[] #[.pointer (some ⟨W4.heap.size,0,none⟩), .pointer (some ⟨W4.heap.size+1,0,none⟩)], .agg #[.int .i64 x.1, .int .i64 x.2],undef,undef,undef],defers:=[]})
  (fun x W=>W.alloc (.cells #[.int .i64 x.1, .int .i64 x.2] 26))
  (fun x W hsz=>⟨LW _ _,by have:=HZ4.out;have:=HZ6.out;exact XC (LW _ _) (by omega) (by omega) (by omega)⟩) ?assign ?body ?done ?stop
 case assign=>
  intro l x W K hsz hK;unfold Hu
  gi_wp2
  exact hK
 case body=>
  rintro l pre x W0 W ⟨c1,cE,hnm,hbw⟩ _ hsz hszW hcell _ _;have cX:=hcell _ _ (O9 W0 (.cells #[.int .i64 x.1, .int .i64 x.2] 26)) rfl;have HN:=Lib.hid hnm;have HZ:=Lib.hid hsz;clear hnm hsz hcell;obtain⟨c1',f1'⟩:=GQ c1;obtain⟨cX',fX'⟩:=GQ cX;have cE':=cE.cell;have fE':=cE.frozen;have h4:=HZ4.out;have h6:=HZ6.out;simp only[TE]at hszW
  gi_wp2_with fail
  ·exact⟨XA (RM (Below.refl _ _)) (by omega) _,rfl,cE.set _,List.mem_append_right _ (by simp;exact Prod.ext (by simp[*]) (by simp[*])),hbw.setCell (by show w.heap.size≤w.heap.size+1+1+1;omega) _⟩
  all_goals
   have hz:=HZ.out
   exact⟨RM (Below.refl _ _),XC (Below.refl _ _) (by omega) (by omega) (by omega),c1,cE,by
    intro hm;rcases List.mem_append.1 hm with hm|hm
    ·exact HN.out hm
    simp only[List.mem_singleton]at hm;subst hm
    simp_all,hbw⟩
 case done=>
  rintro D xs W hD hS ⟨_,hc,hnm,hbw⟩ hK;have HS:=Lib.hid hS;have HN:=Lib.hid hnm;clear hS hnm;have hcell:=hc.cell;have hfz:=hc.frozen
  gi_wp2
  have h4:=HZ4.out;have h6:=HZ6.out;refine⟨by simp, .inl ⟨_,_,rfl,run_takeDeferred ((KeepsOthers.setCell _ _ _).same D _ hK rfl),?_⟩⟩;have hcb:=(RN (hc.set (.bool false)) (show w.heap.size+1+1+1≠D by omega) (.deferred none)).cell;refine⟨.bool false,by simp[results,Tryz.f120,go_sem,hcb],by rw[decide_eq_false (by rw[←HS.out];exact HN.out)],RO (hbw.setCell (p:=⟨w.heap.size+1+1+1,0,none⟩) (by show w.heap.size≤w.heap.size+1+1+1;omega) _) (by omega) _⟩
 case stop=>
  rintro D c pre W hD hSp ⟨rfl,hc,hnm,hbw⟩ hK;have HS:=Lib.hid hSp;have HN:=Lib.hid hnm;clear hSp hnm;have hcell:=hc.cell
  gi_wp2
  have h4:=HZ4.out;have h6:=HZ6.out;refine⟨by simp, .inl ⟨_,_,rfl,run_takeDeferred hK,?_⟩⟩;have hcb:=(RN hc (show w.heap.size+1+1+1≠D by omega) (.deferred none)).cell;refine⟨.bool true,by simp[results,Tryz.f120,go_sem,hcb],by rw[decide_eq_true (HS.out.subset HN.out)],RO hbw (by omega) _⟩
end Go.Proofs.YtbgnigjfkbmceaaGreatDoor
namespace Go.Proofs.YtbgnigjfkbmceaaGreatDoor
open Go.RowKit Go.Shelf
attribute [local go_sem] Oper.semAt_some
end Go.Proofs.YtbgnigjfkbmceaaGreatDoor
namespace Go.Proofs.YtbgnigjfkbmceaaGreatDoor
open Go.RowKit
def MA(s:Spc)(a:AD):Nod:=Ag s.files (a.1,(Ag s.files a).parent)
def L8(s:Spc)(a:AD):AF:=(((MA s a).entries.find? fun e:BS=>decide (e.2=a.2)).map (·.1)).getD ⟨#[]⟩
end Go.Proofs.YtbgnigjfkbmceaaGreatDoor
namespace Go.Proofs.YtbgnigjfkbmceaaGreatDoor
open Go.RowKit Go.Shelf
section
variable {F:Fence}{n:Nat}{P:Program}
end
def Kj(d m:AF):AF:=if d.data.toList.getLast?=some 47 then d++m else d++⟨#[47]⟩++m
end Go.Proofs.YtbgnigjfkbmceaaGreatDoor
namespace Go.Proofs.YtbgnigjfkbmceaaGreatDoor
open Go.RowKit Go.Shelf
attribute [local go_sem] Oper.semAt_some
end Go.Proofs.YtbgnigjfkbmceaaGreatDoor
namespace Go.Proofs.YtbgnigjfkbmceaaGreatDoor
open Go.RowKit Go.Shelf
attribute [local go_sem] Oper.semAt_some
def OO(s:Spc)(pre:List AD):List AF:=(pre.filter fun x:AD=>decide (x.2≠1)).map (L8 s)
def OP(s:Spc)(pre:List AD):AF:=(OO s pre).reverse.foldl Kj ⟨#[47]⟩
def EY(s:Spc)(dir:AD):AF×Bool:=
 if Ac s.files dir=true∧DN s dir.1=true∧(0,1)∈C8 s (CR s.files) dir then(OP s ((C8 s (CR s.files) dir).takeWhile fun x=>decide (x≠(0,1))),true)else(⟨#[]⟩,false)
end Go.Proofs.YtbgnigjfkbmceaaGreatDoor
namespace Go.Proofs.YtbgnigjfkbmceaaGreatDoor
open Go.RowKit Go.Shelf
attribute [local go_sem] Oper.semAt_some
end Go.Proofs.YtbgnigjfkbmceaaGreatDoor
namespace Go.Proofs.YtbgnigjfkbmceaaGreatDoor
open Go.RowKit
theorem SpcV.b{s:Spc}(h:SpcV s)(hm:s.mounts.length≤1000):SpcB s:=⟨h.files.b,hm⟩
theorem j0{P:Program}{f:FuncId}{s:Spc}{xs:List AV}{us:List Value}{z:Value}{R:AV}(hx:∀(G:Gh) (w:World) (vs:List Value),AN G w xs vs→vs=us)(hR:∀(G:Gh) (w:World),rep G w R z)
    (h:∀(w:World) (ds ms:Value),SpcIn s w.heap.size w ds ms→Calls P f (.agg #[ds,ms]::us).toArray w fun e w'=>e= .returned z∧Below w.heap.size w w'):AFn P f (.agg (AW s)::xs) (fun r=>r=R):=by
 intro w St bl vs hr hv;simp only[AN]at hv;obtain⟨z0,zs,rfl,h1,h2⟩:=hv;obtain rfl:=hx _ _ _ h2;simp only[rep,AW,AN]at h1;obtain⟨ys,rfl,ds,_,rfl,h3,ms,_,rfl,h4,rfl⟩:=h1
 have hs:SpcIn s w.heap.size w ds ms:=by
  refine⟨B7 _,?_⟩;refine N2 (St:=St) (fun b o hb=>⟨hr.stlt b o hb,rfl⟩) _ _ ?_;simp only[AW,Ba];exact⟨_,_,rfl,h3,_,_,rfl,h4,rfl⟩
 refine(h w ds ms hs).mono ?_;rintro e w' ⟨rfl,hb⟩;obtain⟨k1,k2⟩:=hr.below hb;exact⟨_,_,_,_,⟨rfl,rfl,rfl⟩,k1,k2,hR _ _⟩
structure SpcN(s:Spc):Prop where
 b:SpcB s
 nm:∀x,(L8 s x).size≤100
 most:CR s.files≤5000
theorem j1(s:Spc)(hs:SpcB s)(a b:AD):AFn prog 120 [.agg (AW s), .agg (AB a), .agg (AB b)] (fun r=>r= .v (.bool (decide (a∈C8 s (CR s.files) b)))):=
 j0 (us:=[Hu a,Hu b]) (z:= .bool (decide (a∈C8 s (CR s.files) b))) (fun G w vs h=>by
  simp only[AN,rep,AB]at h;obtain⟨_,_,rfl,⟨_,rfl,_,_,rfl,rfl,_,_,rfl,rfl,rfl⟩,_,_,rfl,⟨_,rfl,_,_,rfl,rfl,_,_,rfl,rfl,rfl⟩,rfl⟩:=h
  rfl) (fun G w=>by simp only[rep])
  fun w ds ms h=>callsIn_wide.1 (iZ 4 (Lib.hid (by omega)) s hs a b ds ms w h)
theorem j2{f:AU}{a:AD}(h:Dy f a=true):∃d∈f,Ag f a∈d.nodes:=by
 obtain⟨q,i,d,m,_,h2,h3,_,_,h6⟩:=RW h;exact⟨d,Am h2,by rw[h6];exact Am h3⟩
theorem j4{x:AF}(h:Hs x=true):x.size≤12:=by
 rw[Mj]at h;by_cases hc:x.size<1∨12<x.size
 ·rw[if_pos hc]at h;cases h
 omega
theorem U2{s:Spc}(h:FlsV s.files)(x:AD):(L8 s x).size≤12:=by
 unfold L8
 cases hf:(MA s x).entries.find? fun e:BS=>decide (e.2=x.2)with
 |none=>exact BE _
 |some e=>
   have hm:=List.mem_of_find?_eq_some hf;unfold MA at hm;by_cases hh:Dy s.files (x.1,(Ag s.files x).parent)=true
   ·obtain⟨d,hd,hn⟩:=j2 hh;exact j4 ((h.vd d hd).ent _ hn e hm).1
   have:Ag s.files (x.1,(Ag s.files x).parent)=Nod.zero:=by
    unfold Dy at hh
    cases hq:CQ s.files (x.1,(Ag s.files x).parent)with
    |none=>show(CQ s.files (x.1,(Ag s.files x).parent)).getD Nod.zero=Nod.zero;rw[hq];rfl
    |some m=>rw[hq]at hh;exact absurd rfl hh
   rw[this]at hm;cases hm
theorem U3{f:AU}(h:FlsV f):CR f≤48:=by
 have:∀(l:AU),(∀d∈l,d.nodes.length≤16)→CR l≤l.length * 16:=by
  intro l
  induction l with
  |nil=>intro _;simp[CR]
  |cons d l ih=>
    intro h;have h1:=ih fun d hd=>h d (List.mem_cons_of_mem _ hd);have h2:=h d (List.mem_cons_self ..);simp only[CR,List.map_cons,List.sum_cons,List.length_cons]at h1 ⊢;omega
 have h1:=this f fun d hd=>(h.vd d hd).len;have h2:=h.few;omega
theorem SpcV.n{s:Spc}(h:SpcV s)(hm:s.mounts.length≤1000):SpcN s:=⟨⟨h.files.b,hm⟩,fun x=>by have:=U2 h.files x;omega,by have:=U3 h.files;omega⟩
def MB(w:World):Nat→Nat→Prop:=fun b _=>b<w.heap.size
def Opens(P:Program)(t:TypeId)(R:List AV→Prop):Prop:=
 ∀(H:Type) (enc:TypeId×Value→H) (w:World) (base:Nat) (spare:Nat→Bool) (held:Bool) (fuel:Nat) (cs:List Value) (x:DataW H×List MemPlace),DataW.trod enc P w base spare held fuel t cs=some x→
  ∃row,R row∧Ba (MB w) w row cs∧∀u∈cs,u.oneCell'=true
section
variable {P:Program}{t:TypeId}
theorem Opens.mono{R R':List AV→Prop}(h:Opens P t R)(hR:∀r,R r→R' r):Opens P t R':=by
 intro H enc w base spare held fuel cs x hx;obtain⟨row,h1,h2⟩:=h H enc w base spare held fuel cs x hx;exact⟨row,hR _ h1,h2⟩
theorem j5{k:IntKind}(ht:P.underlying t=some (.int k)):Opens P t fun r=>∃n,r=[.v (.int k n)]∧(Lit.int k n).wf=true:=by
 intro H enc w base spare held fuel cs x hx;obtain⟨b,rfl,_,hw⟩:=DataW.trod_int ht hx;exact⟨_,⟨b,rfl,hw⟩,⟨_,_,rfl,by simp only[At],by simp only[Ba]⟩,by simp[Value.oneCell']⟩
theorem j6{w:World}{b o:Nat}{v:Value}(h:w.cell? ⟨b,o,none⟩=some v):b<w.heap.size:=by
 rcases Nat.lt_or_ge b w.heap.size with hlt|hge
 ·exact hlt
 simp[World.cell?,Array.getElem?_eq_none hge]at h
theorem j7{St:Nat→Nat→Prop}{w:World}{xs:List AV}{ys:List Value}(h:Ba St w xs ys):ys.length=xs.length:=KR (G:=⟨St,[],[]⟩) (MP (G:=⟨St,[],[]⟩) _ _ h)
theorem j8{e:TypeId}{n:Nat}{R:List AV→Prop}(ht:P.underlying t=some (.slice e))(hc:P.cellsOf e=n)(hn:0<n)(h:Opens P e R):Opens P t fun r=>∃rows,r=[.sl n rows none]∧rows.length≤maxLen∧∀x∈rows,R x:=by
 intro H enc w base spare held fuel cs x hx;rcases DataW.trod_slice ht hx with⟨rfl,_⟩|⟨⟨b,off,spot⟩,len,cap,elems,rest,m,rfl,rfl,_,hb,hl,hm,hlen,hel,_,_⟩
 ·exact⟨_,⟨[],rfl,BE _,by simp⟩,⟨_,_,rfl,by simp only[At];exact⟨trivial,none,0,rfl,B7 _,BE _, .inl trivial⟩,by simp only[Ba]⟩,by simp[Value.oneCell']⟩
 have each:∀i,i<len→∃row cs',R row∧row.length=n∧Ba (MB w) w row cs'∧(∀u∈cs',u.oneCell'=true)∧cs'.length=n∧∀j,j<n→w.cell? (Addr.add ⟨b,off,spot⟩ (i * n+j))=cs'[j]?:=by
  intro i hi;have h1:=hel i hi;rw[hc,B6 (by omega),Option.bind_eq_some_iff]at h1;obtain⟨cs',h2,h3⟩:=h1;obtain⟨row,r1,r2,r3⟩:=h _ _ _ _ _ _ _ _ _ h3;obtain⟨_,c1,c2⟩:=World.cells?_some h2;refine⟨row,cs',r1,by rw[←j7 r2,c1],r2,r3,c1,fun j hj=>?_⟩;have:=c2 j hj
  rwa [Addr.add_add]at this
 have hrows:∃rows:List (List AV),rows.length=len∧(∀i,i<len→∃row cs',rows[i]?=some row∧R row∧row.length=n∧Ba (MB w) w row cs'∧(∀u∈cs',u.oneCell'=true)∧cs'.length=n∧∀j,j<n→w.cell? (Addr.add ⟨b,off,spot⟩ (i * n+j))=cs'[j]?):=by
  clear hel
  have:∀k,k≤len→∃rows:List (List AV),rows.length=k∧(∀i,i<k→∃row cs',rows[i]?=some row∧R row∧row.length=n∧Ba (MB w) w row cs'∧(∀u∈cs',u.oneCell'=true)∧cs'.length=n∧∀j,j<n→w.cell? (Addr.add ⟨b,off,spot⟩ (i * n+j))=cs'[j]?):=by
   intro k
   induction k with
   |zero=>intro _;exact⟨[],rfl,fun i hi=>by omega⟩
   |succ k ih=>
     intro hk;obtain⟨rows,e1,e2⟩:=ih (by omega);obtain⟨row,cs',q⟩:=each k (by omega);refine⟨rows++[row],by simp[e1],fun i hi=>?_⟩;rcases Nat.lt_or_ge i k with hlt|hge
     ·obtain⟨row',cs'',q1,q2⟩:=e2 i hlt;exact⟨row',cs'',by rw[DJ (by omega)];exact q1,q2⟩
     obtain rfl:i=k:=by omega
     exact⟨row,cs',by rw[F1 (by omega),e1];simp,q⟩
  exact this len (B7 _)
 obtain⟨rows,e1,e2⟩:=hrows;refine⟨_,⟨rows,rfl,by omega,fun x hx=>?_⟩,⟨_,_,rfl,?_,by simp only[Ba]⟩,by simp[Value.oneCell']⟩
 ·obtain⟨i,hi⟩:=List.getElem?_of_mem hx;obtain⟨row,_,q1,q2,_⟩:=e2 i (by rw[←e1];exact(Af.1 hi).1);rw[hi]at q1;injection q1 with q1;subst q1;exact q2
 simp only[At];refine⟨trivial,some ⟨b,off,spot⟩,cap,by rw[e1],by omega,hm,?_⟩;rcases Nat.eq_zero_or_pos len with h0|h0
 ·left;exact Ff (by omega)
 right
 have hspot:spot=none:=by
  obtain⟨_,cs',_,_,_,_,_,c3,c4⟩:=e2 0 h0;have:=c4 0 hn;rw[B6 (by omega)]at this
  simpa[Addr.add]using World.cell?_spot this
 subst hspot;refine⟨b,off,rfl,?_⟩
 have:∀(rs:List (List AV)) (k:Nat),(∀i r,rs[i]?=some r→rows[k+i]?=some r)→froR (MB w) w b n rs (off+k * n):=by
  intro rs
  induction rs with
  |nil=>intro k _;simp only[froR]
  |cons r rs ih=>
    intro k hk;simp only[froR];have h1:=hk 0 r rfl;rw[Nat.add_zero]at h1;obtain⟨row,cs',q1,_,q3,q4,q5,q6,q7⟩:=e2 k (by rw[←e1];exact(Af.1 h1).1);rw[h1]at q1;injection q1 with q1;subst q1;refine⟨⟨q3,Ok fun i x hi=>?_⟩,?_⟩
    ·obtain⟨u,u1,u2⟩:=QU q4 hi;have hin:i<n:=by rw[←q3];exact(Af.1 hi).1
     have hc:=q7 i hin;rw[u1]at hc;have hc':w.cell? ⟨b,off+k * n+i,none⟩=some u:=by rw[Addr.add_mid]at hc;rwa [Nat.add_assoc]
     exact⟨j6 hc',u,hc',q5 u (Am u1),u2⟩
    have:=ih (k+1) (fun i r' hi=>by
     have:=hk (i+1) r' (by simpa using hi)
     rwa [show k+1+i=k+(i+1) by omega])
    rwa [show off+(k+1) * n=off+k * n+n by rw[Nat.add_mul];omega]at this
 simpa using this rows 0 (fun i r hi=>by simpa using hi)
theorem Xw{α:Type}{enc:α→List AV}{Q:α→Prop}:∀{rows:List (List AV)},(∀x∈rows,∃a,x=enc a∧Q a)→∃l:List α,rows=l.map enc∧∀a∈l,Q a
 |[],_=>⟨[],rfl,by simp⟩
 |r::rs,h=>by
   obtain⟨a,rfl,ha⟩:=h r (by simp);obtain⟨l,rfl,hl⟩:=Xw (rows:=rs) fun x hx=>h x (by simp[hx]);exact⟨a::l,rfl,by simpa using⟨ha,hl⟩⟩
theorem Opens.one{R:List AV→Prop}(h:Opens P t R){H:Type}{enc:TypeId×Value→H}{w:World}{base:Nat}{spare:Nat→Bool}{held:Bool}{v:Value}{d:DataW H}{ps:List MemPlace}(hv:v.cells=#[v])(hd:DataW.Trod enc P w base spare held t v d ps):
    ∃row,R row∧Ba (MB w) w row [v]:=by
 obtain⟨fuel,hf⟩:=hd;rw[hv]at hf;obtain⟨row,h1,h2,_⟩:=h _ _ _ _ _ _ _ _ _ hf;exact⟨row,h1,h2⟩
end
theorem j9:Opens prog 22 (fun r=>∃l:List Int,r=[.sl 1 (l.map CT) none]):=
 (j8 (n:=1) Tryz.underlying22 (by kernel_rfl) (by omega) (j5 Tryz.underlying3)).mono (by
   rintro r ⟨rows,rfl,_,hr⟩;obtain⟨l,rfl,_⟩:=Xw (enc:=CT) (Q:=fun _=>True) (fun x hx=>by obtain⟨t,rfl,_⟩:=hr x hx;exact⟨t,rfl,trivial⟩)
   exact⟨l,rfl⟩)
theorem jA{H:Type}{enc:TypeId×Value→H}{sp:Nat→Bool}{held:Bool}{base:Nat}{w:World}{a:Option Addr}{n c:Nat}{d:DataW H}{p:List MemPlace}(h:DataW.Trod enc prog w base sp held 22 (.slice a n c) d p):
    ∃l:List Int,rep ⟨MB w,[],[]⟩ w (.sl 1 (l.map CT) none) (.slice a n c):=by
 obtain⟨r0,⟨l,rfl⟩,k0⟩:=j9.one rfl h;simp only[Ba]at k0;obtain⟨_,_,e0,k0,rfl⟩:=k0;injection e0 with e0;subst e0;exact⟨l,Kv (G:=⟨MB w,[],[]⟩) _ _ k0⟩
theorem jB{f:FuncId}(hf:∀l:List Int,AFn prog f [.sl 1 (l.map CT) none] (fun x=>x= .v (.bool true))){H:Type}{enc:TypeId×Value→H}{sp:Nat→Bool}{held:Bool}{base:Nat}(a:Option Addr)(n c:Nat)(w:World){d:DataW H}{p:List MemPlace}
    (h:DataW.Trod enc prog w base sp held 22 (.slice a n c) d p):Calls prog f #[.slice a n c] w fun e w'=>e= .returned (.bool true)∧Below w.heap.size w w':=by
 obtain⟨l,k⟩:=jA h;refine bW (vs:=[.slice a n c]) (hf l) (MB w) (fun b o h=>h) ?_;simp only[AN];exact⟨_,_,rfl,k,rfl⟩
theorem U4{s:Spc}{dev:Int}(h:DN s dev=true)(h0:dev≠0):∃m∈s.mounts,m.1=dev:=by
 unfold DN C1 at h;simp only[Bool.or_eq_true,decide_eq_true_eq,h0,or_false]at h
 cases hf:s.mounts.find? fun m:E6=>decide (m.1=dev)with
 |none=>rw[hf]at h;cases h
 |some m=>exact⟨m,List.mem_of_find?_eq_some hf,by have:=List.find?_some hf;simpa using this⟩
theorem U5{s:Spc}{m:E6}(h:m∈s.mounts):DN s m.1=true:=by
 unfold DN C1;rw[Bool.or_eq_true];refine .inl ?_;rw[Option.isSome_map]
 cases hf:s.mounts.find? fun m':E6=>decide (m'.1=m.1)with
 |none=>have:=List.find?_eq_none.1 hf m h;simp at this
 |some m=>rfl
theorem Xx{f:AU}{ms ms':List E6}{dev:Int}(h:DN ⟨f,ms⟩ dev=true)(hs:∀m∈ms,m∈ms'):DN ⟨f,ms'⟩ dev=true:=by
 by_cases h0:dev=0
 ·unfold DN;simp[h0]
 obtain⟨m,hm,rfl⟩:=U4 h h0;exact U5 (s:=⟨f,ms'⟩) (hs m hm)
def Lc(s:Spc)(C:AD→List AD)(a:AD):List AD:=match El s a with
 |none=>[]
 |some b=>C b
section
theorem Xy(s:Spc)(a:AD)(hs:SpcB s)(C:AD→List AD)(hC:∀b,(C b).length≤900000)(hid:Ac s.files a=true→(Ag s.files a).ino=a.2)
    (hrec:Ac s.files a=true→∀b,El s a=some b→AFn prog 171 [.agg (AW s), .agg (AB b)] (fun r=>r= .sl 2 ((C b).map AB) none)):
    AFn prog 171 [.agg (AW s), .agg (AB a)] (fun r=>r= .sl 2 ((if Ac s.files a=true then a::Lc s C a else[]).map AB) none):=by
 have hde:=M1 s.files a;refine enter Tryz.func171 rfl rfl rfl rfl rfl 0 rfl ?_;refine FC (h:=Ay (h:=l_ (h:=?_)));refine A3 rfl (A8 (FJ s.files a hs.files) ?_);rintro r rfl;refine JJ (h:=EH (h:=?_));refine AJ false rfl rfl (fun hb1 hc1=>?_) (fun hb1 hc1=>?_)
 ·refine EM (h:=K6 (h:=BN (?_)));refine AX (r:= .sl 2 ((if Ac s.files a=true then a::Lc s C a else[]).map AB) none) none (h5:=?_) (h6:=⟨rfl,rfl,rfl⟩);rw[if_neg (by rw[hde];simp_all)];exact LeA.nil _
 refine Ce (h:=CO (h:=?_));refine A4 rfl (fun hb2 hc2=>?_) (fun hb2 hc2=>?_)
 ·refine BK (h:=?_);refine AX (r:= .sl 2 ((if Ac s.files a=true then a::Lc s C a else[]).map AB) none) none (h5:=?_) (h6:=⟨rfl,rfl,rfl⟩);rw[if_neg (by rw[hde];simp_all)];exact LeA.nil _
 refine AG (C4 (h:=?_));refine A3 rfl (SU (by repeat (first|exact DenseA.nil _|(apply DenseA.cons;(focus exact rfl);(focus exact rfl);(focus exact rfl);(focus exact rfl))|(apply DenseA.consE;(focus exact rfl);(focus exact rfl);(focus exact rfl)))) rfl rfl rfl rfl (by repeat constructor) ?_);refine Fy (h:=Bl (h:=?_));refine A4 rfl (fun hb3 hc3=>?_) (fun hb3 hc3=>?_)
 ·have hdd:Ac s.files a=true:=by rw[hde,hc1,decide_eq_true hc2];rfl
  have hst:El s a=some (a.1,(Ag s.files a).parent):=if_pos hc3;have hCl:=hC (a.1,(Ag s.files a).parent);refine Aa (h:=l_ (h:=Eg (h:=Bk (h:=?_))));refine A3 rfl (A8 (hrec hdd (a.1,(Ag s.files a).parent) hst) ?_);rintro r rfl
  skip
  refine Gb (h:=a_ (h:=e_ (B3 (BN (?_)))));refine A6 ?_;rw[if_pos hdd,show Lc s C a=C _ by unfold Lc;rw[hst]];rfl
 have hdd:Ac s.files a=true:=by rw[hde,hc1,decide_eq_true hc2];rfl
 have hsr:El s a=C1 s a.1:=if_neg (fun h=>h hc3);refine Eh (h:=C4 (h:=AO (h:=?_)));refine A3 rfl (A8 (R4 s a.1 hs) ?_);rintro r rfl;refine Ee (h:=Bt (h:=e_ (?_)));refine A4 rfl (fun hb4 hc4=>?_) (fun hb4 hc4=>?_)
 ·have hst:El s a=some ((C1 s a.1).getD (0,0)):=by rw[hsr];cases ho:C1 s a.1 with
   |none=>simp_all
   |some o=>rfl
  have hCl:=hC ((C1 s a.1).getD (0,0));refine Aa (h:=H7 (h:=?_));refine A3 rfl (A8 (hrec hdd ((C1 s a.1).getD (0,0)) hst) ?_);rintro r rfl
  skip
  refine Gb (h:=a_ (h:=e_ (B3 (BN (?_)))));refine A6 ?_;rw[if_pos hdd,show Lc s C a=C _ by unfold Lc;rw[hst]];rfl
 refine AG (Dv (h:=?_));refine A6 ?_
 rw[if_pos hdd,show Lc s C a=[] by unfold Lc;rw[hsr];cases ho:C1 s a.1 with
  |none=>rfl
  |some o=>simp_all]
 rfl
theorem Rb(s:Spc):∀(k:Nat) (a:AD),(C8 s k a).length≤k
 |0,_=>by simp[C8]
 |k+1,a=>by
   unfold C8;split
   ·cases h:Gi s a with
    |none=>simp
    |some b=>have:=Rb s k b;simp;omega
   simp
theorem jC{s:Spc}(hs:SpcB s)(hv:SpcV s):∀(k:Nat) (a:AD),k≤900000→ends s k a→AFn prog 171 [.agg (AW s), .agg (AB a)] (fun r=>r= .sl 2 ((C8 s k a).map AB) none):=by
 have hid:∀a,Ac s.files a=true→(Ag s.files a).ino=a.2:=by
  intro a h;obtain⟨q,d,m,_,_,_,h4,h5,_⟩:=OL (f:=s.files) (a:=a) (by rw[h];simp);rw[h5,h4]
 intro k
 induction k with
 |zero=>
   intro a _ h;refine(Xy s a hs (fun _=>[]) (fun _=>BE _) (hid a) (fun hd=>by rw[show Ac s.files a=false from h]at hd;cases hd)).mono fun r hr=>?_;rw[hr,if_neg (by rw[show Ac s.files a=false from h];simp)];rfl
 |succ k ih=>
   intro a hk h;refine(Xy s a hs (C8 s k) (fun b=>by have:=Rb s k b;omega) (hid a) (fun hd b hb=>ih b (by omega) ((h.resolve_left (by rw[hd];simp)) b hb))).mono fun r hr=>?_;rw[hr];by_cases hd:Ac s.files a=false
   ·rw[Nd hd,if_neg (by rw[hd];simp)]
   rw[M9 hd,if_pos (by simpa using hd),OM hv hd];unfold Lc;cases El s a<;>rfl
theorem Xz{s:Spc}(hs:SpcB s)(hv:SpcV s)(hm:CR s.files≤5000)(root dir:AD):AFn prog 121 [.agg (AW s), .agg (AB root), .agg (AB dir)] (fun r=>r= .v (.bool (decide (root∈C8 s (CR s.files) dir)))):=by
 have hch:=jC hs hv (CR s.files) dir (by omega) (Pc hv dir);have hlen:=Rb s (CR s.files) dir;generalize C8 s (CR s.files) dir=L at *;have hml:(L.map AB).length=L.length:=by simp
 refine enter Tryz.func121 rfl rfl rfl rfl rfl 0 rfl ?_;refine JN (h:=BO (h:=CA (h:=?_)));refine A3 rfl (A8 (hch) ?_);rintro r rfl;refine JK (h:=?_);refine BM (fun m t=>∃j:Nat,j≤L.length∧m=L.length - j∧(∀i y,i<j→L[i]?=some y→decide (y=root)=false)∧t=⟨look [(4, .bp 1 0),(7, .sl 2 (L.map AB) none),(8, .v (.int .i64 (j:Int)))],⟨[AW s,AB root,AB dir],[]⟩⟩) (L.length) ((wk 3 0)) (⟨0,by omega,rfl,fun i y hi=>by omega,rfl⟩) ?_;rintro m t ⟨j,hj,rfl,ha,rfl⟩;refine De (h:=Fi (h:=?_));refine A4 rfl (fun hb1 hc1=>?_) (fun hb1 hc1=>?_)
 ·obtain⟨hlt,x,hy,hrow, -⟩:=Br AB hc1;refine AG (q_ (BF (q_ (Ct 6 (h:=AE 0 (h:=AE 1 (h:=CL 2 (h:=A9 3 (h:=A9 4 (h:=?_))))))))));refine F9 (i:=5) rfl (GF rfl rfl (by repeat constructor) (by repeat constructor) (fun w=>O6 _ _ _ _ w) (by kernel_rfl) ⟨rfl,rfl⟩) ?_;refine z_ (h:=t_ (?_));refine A4 rfl (fun hb2 hc2=>?_) (fun hb2 hc2=>?_)
  ·refine Hp (h:=?_);refine A6 ?_;exact vb (by rw[decide_eq_true];rw[←show x=root from hc2];exact Am hy)
  refine Cm (h:=?_);refine⟨_,_,?_,⟨j+1,by omega,rfl,GN hy ha (decide_eq_false hc2),rfl⟩,(wk 3 0)⟩;omega
 have e3:=C6 AB hj hc1;subst e3;refine Fk (h:=?_);refine A6 ?_;exact vb (by rw[decide_eq_false];intro hmem;obtain⟨i,hi⟩:=List.getElem?_of_mem hmem;have:=ha i root (Af.1 hi).1 hi;simp at this)
end
end Go.Proofs.YtbgnigjfkbmceaaGreatDoor
namespace Go.Proofs.YtbgnigjfkbmceaaGreatDoor
section
variable {s:Spc}(hv:SpcV s)
include hv
theorem jD{q:Nat}{d:Dvc}{p:Nod}{x:Int}(hq:s.files[q]?=some d)(hp:p∈d.nodes)(hx:p.ino=x):CQ s.files ((q:Int),x)=some p:=
 U0 (a:=((q:Int),x)) rfl hq (hv.files.vd d (Am hq)).asc hp hx
theorem Y0{a b:AD}(h:Ac s.files a=true)(hs:El s a=some b):Ac s.files b=true:=by
 obtain⟨q,d,m,h1,h2,h3,h4,h5,h6⟩:=OL (f:=s.files) (a:=a) (by rw[h];simp);have hd:=hv.files.vd d (Am h2);unfold El at hs;by_cases h0:a.2≠1
 ·rw[if_pos h0]at hs;injection hs with hs;subst hs;rw[h5,h1];obtain⟨p,hp,hpi,e,he,_⟩:=hd.par m h3 (by rw[h4];exact h0) h6
  have hk:p.kind=2:=by
   by_cases hk:p.kind=2
   ·exact hk
   have:=(hd.leaf p hp hk).2;rw[this]at he;cases he
  exact(RY (jD hv h2 hp hpi)).2 hk
 rw[if_neg h0]at hs;obtain⟨m',hm',_,e⟩:=Ra hs;obtain⟨i,hi⟩:=List.getElem?_of_mem hm';rw[←e];exact(hv.mnt i m' hi).dir
theorem Y1{a b:AD}(h:DN s a.1=true)(hs:El s a=some b):DN s b.1=true:=by
 unfold El at hs;by_cases h0:a.2≠1
 ·rw[if_pos h0]at hs;injection hs with hs;subst hs;exact h
 rw[if_neg h0]at hs;obtain⟨m',hm',_,e⟩:=Ra hs;obtain⟨i,hi⟩:=List.getElem?_of_mem hm';rw[←e];exact Xx (f:=s.files) (hv.mnt i m' hi).there (fun x hx=>List.mem_of_mem_take hx)
theorem jE:C1 s 0=none:=by
 cases h:C1 s 0 with
 |none=>rfl
 |some on=>
   obtain⟨m',hm',e,_⟩:=Ra h;obtain⟨i,hi⟩:=List.getElem?_of_mem hm';have:=(hv.mnt i m' hi).dev1;omega
theorem jF{a:AD}(h:DN s a.1=true)(h0:a≠(0,1)):∃b,El s a=some b:=by
 have _:=hv;unfold El;by_cases h1:a.2≠1
 ·exact⟨_,if_pos h1⟩
 rw[if_neg h1];have h2:a.1≠0:=fun e=>h0 (Prod.ext e (by simpa using h1));unfold DN at h;rw[decide_eq_false h2,Bool.or_false]at h
 cases ho:C1 s a.1 with
 |none=>rw[ho]at h;cases h
 |some b=>exact⟨b,rfl⟩
theorem Rc{a:AD}(h:Ac s.files a=true):C8 s (CR s.files) a=a::(match El s a with
    |none=>[]
    |some b=>C8 s (CR s.files) b):=by
 have hd:¬Ac s.files a=false:=by rw[h];simp
 have he:=Pc hv a
 cases hm:CR s.files with
 |zero=>rw[hm]at he;exact absurd he hd
 |succ m=>
   rw[hm]at he;rw[M9 hd,OM hv hd]
   cases hs:El s a with
   |none=>rfl
   |some b=>
     simp only;have h1:=he.resolve_left hd b hs;have h2:=Pc hv b;rw[hm]at h2;rw[Xs hv m (m+1) b h1 h2]
theorem jG{a:AD}(h:Ac s.files a=true)(hm:DN s a.1=true):(0,1)∈C8 s (CR s.files) a:=by
 have key:∀(k:Nat) (a:AD),ends s k a→Ac s.files a=true→DN s a.1=true→(0,1)∈C8 s (CR s.files) a:=by
  intro k
  induction k with
  |zero=>intro a he h _;rw[show Ac s.files a=false from he]at h;cases h
  |succ k ih=>
    intro a he h hm;by_cases h0:a=(0,1)
    ·rw[Rc hv h,h0];exact List.mem_cons_self ..
    obtain⟨b,hb⟩:=jF hv hm h0;rw[Rc hv h,hb];exact List.mem_cons_of_mem _ (ih b (he.resolve_left (by rw[h];simp) b hb) (Y0 hv h hb) (Y1 hv hm hb))
 exact key _ a (Pc hv a) h hm
theorem Pd{a:AD}(h:¬(Ac s.files a=true∧DN s a.1=true)):EY s a=(⟨#[]⟩,false):=by
 have _:=hv;unfold EY;rw[if_neg fun c=>h ⟨c.1,c.2.1⟩]
theorem U6{a:AD}(h:Ac s.files a=true)(hm:DN s a.1=true):EY s a=(OP s ((C8 s (CR s.files) a).takeWhile fun x=>decide (x≠(0,1))),true):=by
 unfold EY;rw[if_pos ⟨h,hm,jG hv h hm⟩]
theorem jH(h:Ac s.files (0,1)=true):EY s (0,1)=(⟨#[47]⟩,true):=by
 rw[U6 hv h (by unfold DN;simp),Rc hv h,List.takeWhile_cons];simp[OP,OO]
theorem Y2{a b:AD}(h:Ac s.files a=true)(hm:DN s a.1=true)(h0:a≠(0,1))(hb:El s a=some b):EY s a=(if a.2=1 then(EY s b).1 else Kj (EY s b).1 (L8 s a),true)∧(EY s b).2=true:=by
 rw[U6 hv h hm,U6 hv (Y0 hv h hb) (Y1 hv hm hb),Rc hv h,hb,List.takeWhile_cons];simp only[h0,ne_eq,not_false_eq_true,decide_true,if_true];refine⟨?_,trivial⟩;unfold OP OO;rw[List.filter_cons];by_cases h1:a.2=1
 ·simp[h1]
 simp[h1]
def Gm(s:Spc):Nat→AD→AD
 |0,a=>a
 |k+1,a=>if Ac s.files a=true then(if a.2≠1 then(a.1,(Ag s.files a).parent)else match C1 s a.1 with
   |some on=>Gm s k on
   |none=>a)else(0,0)
omit hv in
theorem jJ(dev:Int):Ms s dev≤s.mounts.length:=by
 unfold Ms
 cases h:s.mounts.findIdx? fun m:E6=>decide (m.1=dev)with
 |none=>simp
 |some i=>
   have:=(List.findIdx?_eq_some_iff_getElem.1 h).1;simp only;omega
theorem jK{i j:Nat}{m m':E6}(hi:s.mounts[i]?=some m)(hj:s.mounts[j]?=some m')(h:m.1=m'.1):i=j:=by
 have key:∀{i j:Nat} {m m':E6},s.mounts[i]?=some m→s.mounts[j]?=some m'→m.1=m'.1→¬i<j:=by
  intro i j m m' hi hj h hlt;have hf:=(hv.mnt j m' hj).fresh
  have hm:m∈s.mounts.take j:=by
   refine Am (i:=i) ?_;rw[List.getElem?_take,if_pos hlt];exact hi
  have:=U5 (s:=⟨s.files,s.mounts.take j⟩) hm;rw[h,hf]at this;cases this
 have h1:=key hi hj h;have h2:=key hj hi h.symm;omega
omit hv in
theorem U7{a:AD}{d:Int}(h:Dm s a=some d):∃i:Nat,s.mounts[i]?=some ((d,a):E6):=by
 unfold Dm at h
 cases hf:s.mounts.find? fun m:E6=>decide (m.2=a)with
 |none=>rw[hf]at h;cases h
 |some m=>
   rw[hf]at h;injection h with h;have h2:=List.find?_some hf;simp only[decide_eq_true_eq]at h2;obtain⟨i,hi⟩:=List.getElem?_of_mem (List.mem_of_find?_eq_some hf);exact⟨i,by rw[hi,←h,←h2]⟩
omit hv in
theorem jL{a:AD}(h:∀(i:Nat) (m:E6),s.mounts[i]?=some m→m.2≠a):Dm s a=none:=by
 cases hc:Dm s a with
 |none=>rfl
 |some d=>obtain⟨i,hi⟩:=U7 hc;exact absurd rfl (h i _ hi)
theorem jM:∀(n:Nat) (a:AD),(∀(i:Nat) (m:E6),s.mounts[i]?=some m→m.2=a→s.mounts.length≤i+n)→Dm s (Fa s n a)=none:=by
 intro n
 induction n with
 |zero=>
   intro a h;refine jL fun i m hi e=>?_;have h1:=h i m hi e;have h2:=(Af.1 hi).1;omega
 |succ n ih=>
   intro a h
   cases hc:Dm s a with
   |none=>rw[WZ (by rw[hc];rfl)];exact hc
   |some d=>
     obtain⟨i,hi⟩:=U7 hc;rw[Fa];refine ih _ fun j m hj e=>?_;have he:M4 s a=(d,1):=by unfold M4;rw[hc]
     rw[he]at e;have h1:=h i _ hi rfl;have hth:=(hv.mnt j m hj).there;have hd1:=(hv.mnt i _ hi).dev1;rw[e]at hth;obtain⟨m'',hm'',e2⟩:=U4 hth (by simp only at hd1 ⊢;omega);obtain⟨k,hk⟩:=List.getElem?_of_mem hm''
     have hkj:k<j:=by
      have:=(Af.1 hk).1;simp at this;omega
     rw[List.getElem?_take,if_pos hkj]at hk;have:=jK hv hk hi e2;omega
omit hv in
theorem Y3:∀(n:Nat) (a:AD),Fa s (n+1) a=M4 s (Fa s n a)
 |0,_=>rfl
 |n+1,a=>Y3 n (M4 s a)
theorem jN(a:AD):Fa s (s.mounts.length+1) a=Fa s s.mounts.length a:=by
 rw[Y3];refine T7 ?_;rw[jM hv _ a (fun i m _ _=>by omega)];rfl
end
end Go.Proofs.YtbgnigjfkbmceaaGreatDoor
