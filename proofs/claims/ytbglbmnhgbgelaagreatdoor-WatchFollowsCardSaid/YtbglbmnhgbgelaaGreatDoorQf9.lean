/-
  Part 9 of the proof of WatchFollowsP: what the statement's proof uses of the texts in wip/tpl.
-/
import Derived.Test.YtbglbmnhgbgelaaGreatDoorShelf
import Derived.Test.YtbglbmnhgbgelaaGreatDoorQf8
open Go.Proofs.Tryz (prog)
set_option maxRecDepth 10000
set_option maxHeartbeats 4000000
set_option linter.unusedVariables false
set_option linter.unusedSimpArgs false
namespace Go.Proofs.YtbglbmnhgbgelaaGreatDoor
theorem FlsV.set_{f:AU}(h:FlsV f){q:Nat}{d':Dvc}(hd:VD d'):FlsV (f.set q d'):=by
 refine⟨by simpa using h.few,fun d hm=>?_⟩;rcases List.mem_or_eq_of_mem_set hm with h1|h1
 ·exact h.vd d h1
 rw[h1];exact hd
theorem K5{f:AU}{a:AA}(h:D1 f a=true):∃(q i:Nat) (d:Dvc) (m:Nod),a.1=(q:Int)∧f[q]?=some d∧d.nodes[i]?=some m∧m.ino=a.2∧Bo f a=some m∧Ah f a=m:=by
 rcases JO f a with⟨_,h2⟩|⟨q,i,d,n,h1,h2,h3,h4,h5,h6⟩
 ·simp[D1,h2]at h
 exact⟨q,i,d,n,h1,h2,h3,h4,h6,by simp[Ah,h6]⟩
theorem Ld{f:AU}{a:AA}{q:Nat}{d:Dvc}{m:Nod}(ha:a.1=(q:Int))(hq:f[q]?=some d)(hd:E6 d.nodes)(hm:m∈d.nodes)(hi:m.ino=a.2):Bo f a=some m:=by
 unfold Bo;rw[ha,JN,hq];simp only
 cases h:d.nodes.find? (fun n=>n.ino==a.2)with
 |none=>
   have:=List.find?_eq_none.1 h m hm;simp[hi]at this
 |some n=>
   have h1:=List.mem_of_find?_eq_some h;have h2:=List.find?_some h;simp only[beq_iff_eq]at h2;rw[DO hd h1 hm (by omega)]
theorem Kj{f:AU}{dir:AA}{name:AD}{n0:Nod}(hn:Bo f dir=some n0)(hk:n0.kind=2)(h:(AB f dir name).2≠0):DV n0.entries name=none∧(AB f dir name).1=(0,0):=by
 unfold AB at h ⊢;rw[hn]at h ⊢;simp only[hk,if_true]at h ⊢;unfold DV;split at h
 ·rename_i he;exact⟨he,rfl⟩
 exact absurd rfl h
theorem RH{f:AU}{dir:AA}{n0:Nod}(hn:Bo f dir=some n0)(h:¬JQ f dir=true):n0.entries.length<12:=by
 unfold JQ at h;rw[hn]at h;simp at h;omega
theorem ND(f:AU)(q:Nat)(g:List Nod→List Nod):(Ez f q g).length=f.length:=by simp[Ez]
def J2(f:AU)(R:Cp):Prop:=R.2.2=0→FlsV R.1∧R.1.length=f.length
theorem EJ{f:AU}{e:Int}(h:e≠0):J2 f ([],[],e):=fun h0=>absurd h0 h
theorem RJ{f:AU}(hv:FlsV f)(dir:AA)(name:AD)(a:AA):J2 f (DP f dir name a):=by
 unfold DP;split
 ·rename_i h;exact EJ h
 rename_i hp;split
 ·exact EJ (by decide)
 rename_i hh;split
 ·exact EJ (by decide)
 rename_i hdev;split
 ·exact EJ (by decide)
 rename_i hk;split
 ·exact EJ (by decide)
 rename_i hl;split
 ·exact EJ (by decide)
 rename_i hfl;intro _;obtain⟨q,i,d,n0,hdq,hq,hn0,hino,hidx,hnode,hk0,hnm⟩:=F1 (name:=name) (dir:=dir) (f:=f) (by omega);obtain⟨q',i',d',m,haq,hq',hm,hmi,hnm2,hng⟩:=K5 (f:=f) (a:=a) (by simpa using hh);obtain rfl:q=q':=by omega
 obtain rfl:d=d':=Option.some.inj (hq.symm.trans hq');have hvd:=hv.vd d (Al hq);have key:=hvd.linked (Al hn0) hk0 (Al hm) (by rw[←hng];exact hk) hnm (Kj hnode hk0 hl).1 (RH hnode hfl);rw[hino,hmi]at key;refine⟨?_,by dsimp only;exact ND _ _ _⟩;dsimp only;rw[hdq,Int.toNat_natCast,FN hq];exact hv.set_ key
theorem J3{f:AU}{a:AA}{m:Nod}(h:Bo f a=some m):AT f a=true↔m.kind=2:=by
 unfold AT;rw[h];simp
theorem Ot{f:AU}{a:AA}{m:Nod}(h:Bo f a=some m):JR f a=true↔m.entries=[]:=by
 unfold JR;rw[h];simp
theorem Kk{f:AU}(hv:FlsV f){dir:AA}{name:AD}{q i:Nat}{d:Dvc}{n0:Nod}(hdq:dir.1=(q:Int))(hq:f[q]?=some d)(hn0:d.nodes[i]?=some n0)(hnode:Bo f dir=some n0)(hk0:n0.kind=2)(hl:(AB f dir name).2=0):
    ∃e m,DV n0.entries name=some e∧AB f dir name=((dir.1,e.2),0)∧m∈d.nodes∧e.2=m.ino∧e.2≠1∧Bo f (AB f dir name).1=some m:=by
 obtain⟨e,he,hle⟩:=N7 hnode hk0 hl;have hvd:=hv.vd d (Al hq);obtain⟨_,h1,m,hm,h2⟩:=hvd.ent n0 (Al hn0) e (FY he).1;refine⟨e,m,he,hle,hm,h2.symm,h1,?_⟩;rw[hle];exact Ld hdq hq hvd.asc hm h2
theorem Us{f:AU}(hv:FlsV f)(dir:AA)(name:AD):J2 f (EG f dir name):=by
 unfold EG;split
 ·rename_i h;exact EJ h
 rename_i hp;split
 ·rename_i h;exact EJ h
 rename_i hl;split
 ·exact EJ (by decide)
 rename_i hk;intro _;obtain⟨q,i,d,n0,hdq,hq,hn0,hino,hidx,hnode,hk0,hnm⟩:=F1 (name:=name) (dir:=dir) (f:=f) (by omega);obtain⟨e,m,he,hle,hm,h1,h2,h3⟩:=Kk hv hdq hq hn0 hnode hk0 (name:=name) (by omega);have hvd:=hv.vd d (Al hq);have key:=hvd.removed (Al hn0) hm (hvd.leaf m hm fun h=>hk ((J3 h3).2 h)).2 he h1;refine⟨?_,by dsimp only;exact ND _ _ _⟩;dsimp only;rw[hdq,Int.toNat_natCast,FN hq,show(AB f dir name).1.2=m.ino by rw[hle];exact h1,←hino];exact hv.set_ key
theorem Ut{f:AU}(hv:FlsV f)(dir:AA)(name:AD):J2 f (Dw f dir name):=by
 unfold Dw;split
 ·rename_i h;exact EJ h
 rename_i hp;split
 ·rename_i h;exact EJ h
 rename_i hl;split
 ·exact EJ (by decide)
 rename_i hk;split
 ·exact EJ (by decide)
 rename_i hem;intro _;obtain⟨q,i,d,n0,hdq,hq,hn0,hino,hidx,hnode,hk0,hnm⟩:=F1 (name:=name) (dir:=dir) (f:=f) (by omega);obtain⟨e,m,he,hle,hm,h1,h2,h3⟩:=Kk hv hdq hq hn0 hnode hk0 (name:=name) (by omega);have hvd:=hv.vd d (Al hq);have key:=hvd.removed (Al hn0) hm ((Ot h3).1 (by simpa using hem)) he h1;refine⟨?_,by dsimp only;exact ND _ _ _⟩;dsimp only;rw[hdq,Int.toNat_natCast,FN hq,show(AB f dir name).1.2=m.ino by rw[hle];exact h1,←hino];exact hv.set_ key
theorem RK{f:AU}(hv:FlsV f)(a:AA)(mode uid gid:Int):(DE f a mode uid gid).2=0→FlsV (DE f a mode uid gid).1∧(DE f a mode uid gid).1.length=f.length:=by
 unfold DE;split
 ·intro h;exact absurd h (by decide)
 rename_i hh;split
 ·intro h;exact absurd h (by decide)
 rename_i hp;intro _;obtain⟨q,i,d,m,haq,hq,hm,hmi,hnm2,hng⟩:=K5 (f:=f) (a:=a) (by simpa using hh);have hvd:=hv.vd d (Al hq);have key:=hvd.attrs (Al hm) mode uid gid (by rw[←hng];simpa using hp);refine⟨?_,by dsimp only;exact ND _ _ _⟩;dsimp only;rw[haq,Int.toNat_natCast,FN hq,←hmi];exact hv.set_ key
theorem Ou{f:AU}(hv:FlsV f)(dir:AA)(name:AD)(n:Nod):J2 f (DW f dir name n):=by
 unfold DW;split
 ·rename_i h;exact EJ h
 rename_i hp;split
 ·exact EJ (by decide)
 rename_i hpl;split
 ·exact EJ (by decide)
 rename_i hl;obtain⟨q,i,d,n0,hdq,hq,hn0,hino,hidx,hnode,hk0,hnm⟩:=F1 (name:=name) (dir:=dir) (f:=f) (by omega);have hat:Ec f dir.1=some d:=by rw[hdq,JN,hq]
 rw[hat];simp only;split
 ·exact EJ (by decide)
 rename_i hc;intro _;have hvd:=hv.vd d (Al hq);have hnm2:=hvd.nextM;have key:=hvd.make (Al hn0) hk0 hnm (Kj hnode hk0 hl).1 (n:=n) (by simpa using hpl) (by omega) (by omega) (RH hnode (fun h=>hc (.inr (.inr h))));refine⟨?_,by simp⟩;dsimp only;rw[hdq,Int.toNat_natCast,←hino];exact hv.set_ key
theorem bY{ns:List Nod}{a o:Int}{g:Nod→Nod}(hi:∀n,(g n).ino=n.ino)(he:∀n,(g n).entries=n.entries):Bu (CU ns a g) o=CU (Bu ns o) a g:=by
 have hc:Bg o (CU ns a g)=Bg o ns:=by
  unfold Bg
  congr 1
  unfold CU;rw[List.flatMap_map]
  congr 1
  funext n
  split
  ·rw[he]
  rfl
 unfold Bu;rw[hc];unfold CU;rw[List.filter_map]
 congr 1
 apply List.filter_congr;intro n _;simp only[Function.comp];split
 ·rw[hi]
 rfl
theorem bZ{ns:List Nod}{a:Int}{g:Nod→Nod}(h:∀n∈ns,n.ino=a→g n=n):CU ns a g=ns:=by
 unfold CU
 conv=>rhs;rw[←List.map_id ns]
 apply List.map_congr_left;intro n hn;split
 ·rename_i e;rw[h n hn e];rfl
 rfl
theorem cA{ns:List Nod}{a:Int}{g g':Nod→Nod}(h:∀n∈ns,n.ino=a→g n=g' n):CU ns a g=CU ns a g':=by
 unfold CU;apply List.map_congr_left;intro n hn;split
 ·rename_i e;rw[h n hn e]
 rfl
theorem Uu{f:AU}{q:Nat}{d:Dvc}(hq:f[q]?=some d)(hd:E6 d.nodes){top:AA}(ht:top.1=(q:Int)):∀(k n:Nat) (a:AA),k<n→a.1=(q:Int)→N4 d.nodes k a.2 top.2→Hy f top n a=true
 |_,0,_,h,_,_=>by omega
 |0,n+1,a,_,ha,hk=>by
   have e:a.2=top.2:=hk;unfold Hy;rw[if_neg (by omega),if_pos (Prod.ext (by omega) e)]
 |k+1,n+1,a,h,ha,hk=>by
   obtain⟨m,hm,h1,h2,h3,h4⟩:=hk;unfold Hy;rw[if_neg (by omega)];split
   ·rfl
   have hn:=Ld ha hq hd hm h1;refine Uu hq hd ht k n _ (by omega) ha ?_;simp only[Ah,hn,Option.getD_some];exact h4
theorem Ov{f:AU}(hv:FlsV f)(src:AA)(name:AD)(to:AA)(name2:AD):J2 f (Dg f src name to name2):=by
 unfold Dg;split
 ·rename_i h;exact EJ h
 rename_i hord;obtain⟨hpl1,hpl2⟩:=NC (f:=f) (x:=src) (y:=to) (name:=name) (name2:=name2) (by omega);split
 ·rename_i h;exact EJ h
 rename_i hl1;split
 ·exact EJ (by decide)
 rename_i hdev;split
 ·exact EJ (by decide)
 rename_i hbel;split
 ·intro _;exact⟨hv,rfl⟩
 rename_i hsame;split
 ·rename_i h;exact EJ h
 rename_i hr2;intro _;obtain⟨q,i,d,n1,hsq,hq,hn1,hn1i,hidx,hnode,hk1,hnm1⟩:=F1 hpl1;obtain⟨q',i2,d',n2,htq,hq',hn2,hn2i, -,hnode2,hk2,hnm2⟩:=F1 hpl2;obtain rfl:q=q':=by omega
 obtain rfl:d=d':=Option.some.inj (hq.symm.trans hq');have hvd:=hv.vd d (Al hq);obtain⟨e,m,he,hle,hm,hem,he1,hmn⟩:=Kk hv hsq hq hn1 hnode hk1 (name:=name) (by omega);have hA2:(AB f src name).1.2=m.ino:=by rw[hle];exact hem
 have hmoves:AT f (AB f src name).1=true↔m.kind=2:=J3 hmn
 have hanc:m.kind=2→¬GP d.nodes n2.ino m.ino:=by
  rintro hmk ⟨k,hk⟩;have hlen:=hvd.anc_len hm hk;have:=hvd.len;refine hbel ⟨hmoves.2 hmk,Uu hq hvd.asc (top:=(AB f src name).1) (by rw[hle];exact hsq) k 17 to (by omega) htq ?_⟩;rw[hA2,←hn2i];exact hk
 have hdiff:n1.ino=n2.ino→name≠name2:=by
  rintro h rfl;have est:to=src:=Prod.ext (by omega) (by omega);subst est;exact hsame ⟨by omega,rfl⟩
 have ho:(DV n2.entries name2=none∧(n2.entries.length<12∨n1.ino=n2.ino)∧(AB f to name2).1.2=0)∨(∃eo o,DV n2.entries name2=some eo∧o∈d.nodes∧eo.2=(AB f to name2).1.2∧o.ino=(AB f to name2).1.2∧(AB f to name2).1.2≠m.ino∧o.entries=[]):=by
  have hr3:Dp f src to (AB f src name).1 (AB f to name2).1 (AB f to name2).2=0:=by omega
  unfold Dp at hr3;by_cases h0:(AB f to name2).2=0
  ·right;rw[if_pos h0]at hr3;obtain⟨eo,o,heo,hleo,hom,heoi,heo1,hon⟩:=Kk hv htq hq hn2 hnode2 hk2 (name:=name2) h0;have hO2:(AB f to name2).1.2=eo.2:=by rw[hleo]
   refine⟨eo,o,heo,hom,hO2.symm,by rw[hO2,heoi],?_,?_⟩
   ·intro h;refine hsame ⟨h0,Prod.ext ?_ (h.trans hA2.symm)⟩;rw[hleo,hle];exact htq.trans hsq.symm
   have hdo:=J3 hon;by_cases hok:o.kind=2
   ·rw[if_neg (fun h=>by
       rw[if_pos h]at hr3;exact absurd hr3 (by decide))]at hr3
    rw[if_neg (fun h=>by rw[hdo.2 hok]at h;exact absurd h.1 (by decide))]at hr3;split at hr3
    ·exact absurd hr3 (by decide)
    rename_i h5;refine(Ot hon).1 ?_
    cases hem2:JR f (AB f to name2).1 with
    |true=>rfl
    |false=>exact absurd ⟨hdo.2 hok,hem2⟩ h5
   exact(hvd.leaf o hom hok).2
  left;rw[if_neg h0]at hr3;obtain⟨h1,h2⟩:=Kj hnode2 hk2 h0;refine⟨h1,?_,by rw[h2]⟩;split at hr3
  ·exact absurd hr3 (by decide)
  rename_i h3;by_cases hfl:JQ f to=true
  ·right;have:src=to:=Classical.byContradiction fun h=>h3 ⟨hfl,h⟩;rw[hn1i,hn2i,this]
  left;exact RH hnode2 hfl
 have key:=hvd.renamed (Al hn1) (Al hn2) hm hk2 he hem hnm2 hdiff hanc ho;refine⟨?_,by dsimp only;exact ND _ _ _⟩;dsimp only;rw[htq,Int.toNat_natCast,FN hq]
 have hns:FZ (Gs d.nodes src name to name2 (AB f src name).1 (AB f to name2).1 (AB f to name2).2) (AB f src name).1.2 to.2 (AT f (AB f src name).1)=Bu (Dv d.nodes n1.ino n2.ino name name2 m.ino) (AB f to name2).1.2:=by
  rw[←Ue,hA2,←hn2i]
  have hY:∀y∈BR (BR d.nodes n1.ino name 0) n2.ino name2 m.ino,y.ino=m.ino→y.kind=m.kind:=by
   intro y hy hyi;obtain⟨y1,h1,w1⟩:=EF hy;obtain⟨y2,h2,w2⟩:=EF h1;have:y2=m:=DO hvd.asc h2 hm (by rw[←w2.ino,←w1.ino];exact hyi);rw[w1.kind,w2.kind,this]
  have hpos:∀y∈BR (BR d.nodes n1.ino name 0) n2.ino name2 m.ino,1≤y.ino:=by
   intro y hy;obtain⟨y1,h1,w1⟩:=EF hy;obtain⟨y2,h2,w2⟩:=EF h1;rw[w1.ino,w2.ino];exact hvd.pos h2
  have hset:Bu (CU (BR (BR d.nodes n1.ino name 0) n2.ino name2 m.ino) m.ino (He n2.ino)) (AB f to name2).1.2=CU (Bu (BR (BR d.nodes n1.ino name 0) n2.ino name2 m.ino) (AB f to name2).1.2) m.ino (He n2.ino):=bY (fun n=>by unfold He;split<;>rfl) (fun n=>by unfold He;split<;>rfl);rw[hset]
  have hN:Gs d.nodes src name to name2 (AB f src name).1 (AB f to name2).1 (AB f to name2).2=Bu (BR (BR d.nodes n1.ino name 0) n2.ino name2 m.ino) (AB f to name2).1.2:=by
   unfold Gs;rw[hA2,←hn1i,←hn2i];split
   ·rfl
   rename_i h0;rw[(Kj hnode2 hk2 h0).2];unfold Bu
   symm
   rw[List.filter_eq_self];intro y hy;have:=hpos y hy;exact decide_eq_true (.inl (by show y.ino≠0;omega))
  rw[hN];have hsub:∀y∈Bu (BR (BR d.nodes n1.ino name 0) n2.ino name2 m.ino) (AB f to name2).1.2,y∈BR (BR d.nodes n1.ino name 0) n2.ino name2 m.ino:=fun y hy=>(Ki.1 hy).1;unfold FZ;split
  ·rename_i hmv;refine cA fun y hy hyi=>?_;unfold He;rw[if_pos ((hY y (hsub y hy) hyi).trans (hmoves.1 hmv))]
  rename_i hmv;refine(bZ fun y hy hyi=>?_).symm;unfold He;rw[if_neg (fun h=>hmv (hmoves.2 ((hY y (hsub y hy) hyi).symm.trans h)))]
 rw[hns];exact hv.set_ key
end Go.Proofs.YtbglbmnhgbgelaaGreatDoor
namespace Go.Proofs.YtbglbmnhgbgelaaGreatDoor
open Go.RowKit
def FO(R:Spc×Int):AV:= .tup [.agg (Ao R.1), .v (.int .i64 R.2)]
def K6:Spc:=⟨[],[]⟩
theorem Hf(e:Int):LeA (.tup [.agg [.v (.slice none 0 0), .v (.slice none 0 0)], .v (.int .i64 e)]) (FO (K6,e)):=(by repeat (first|exact A9 _|exact LeA.nil _|exact LeL.refl _|refine LeA.agg ?_|refine LeA.tup ?_|exact LeL.nil|refine LeL.cons ?_ ?_|exact LeA.any _))
def DQ(s:Spc)(dev:Int)(a:AA):Spc×Int:=
 if dev<1∨(s.files.length:Int)≤dev then(K6,22)else if D1 s.files a=false then(K6,2)else if(Ah s.files a).kind≠2 then(K6,20)else if Bm s a.1=false∨a.1=dev then(K6,22)else
 if Bm s dev=true∨(Bx s a).isSome=true then(K6,16)else(⟨s.files,s.mounts++[(dev,a)]⟩,0)
def Ef(s:Spc)(dev:Int):Spc×Int:=
 if dev=0∨Bm s dev=false then(K6,22)else if(s.mounts.any fun m=>decide (m.2.1=dev))=true then(K6,16)else(⟨s.files,s.mounts.filter fun m=>decide (m.1≠dev)⟩,0)
section
theorem Uv(s:Spc)(hs:SpcB s):Q3 prog 88 [.agg (Ao s)] (fun g=> .agg [.sl 2 (s.files.map C7) none, .sl 3 (s.mounts.map D2) g]) (149,3,s.mounts.map D2):=by
 have hfew:=hs.few;refine enter Tryz.func88 rfl rfl rfl rfl rfl 0 rfl ?_;refine w_ (b_ (h:=AZ (h:=e_ (q_ (BO ([(0,Ao s)]) 8 (h:=AG 0 (h:=?_)))))));refine AM 1 (h:=?_);refine AG 3 (h:=?_);refine AM 4 (h:=?_);refine c_ 2 rfl (AK (RE s.files hs.files) ?_);rintro r rfl;refine o_ (h:=?_)
 first|refine c_ 5 rfl (EO rfl rfl rfl (by simp;omega) (by repeat constructor) ?_)|refine c_ 5 rfl (JF rfl rfl (by simp;omega) (by repeat constructor) ?_)
 refine o_ (h:=Hb 6 (h:=?_));refine Aj 7 rfl (Af rfl rfl rfl rfl rfl rfl (by repeat constructor) (by repeat constructor) ?_);refine o_ (h:=z_ (h:=t_ (A4 (?_))));refine Am (some 0) (h5:=(A9 _)) (h6:=⟨rfl,rfl,rfl⟩)
theorem cB(s:Spc)(dev:Int)(a:AA)(hs:SpcB s):AFn prog 49 [.agg (Ao s), .v (.int .i64 dev), .agg (AE a)] (fun r=>r=FO (DQ s dev a)):=by
 have hfew:=hs.few;refine enter Tryz.func49 rfl rfl rfl rfl rfl 0 rfl ?_;refine w_ (b_ (h:=b_ (h:=AZ (h:=a_ (h:=e_ (q_ (w_ (m_ (h:=BS (h:=m_ (h:=?_)))))))))));refine B5 false rfl rfl (fun hb1=>?_) (fun hb1=>?_)
 ·have hc1:=bp hb1;refine A3 (h:=A3 (h:=A3 (h:=A3 (h:=A3 (h:=A3 (h:=Ag (h:=e_ (C2 (h:=w_ (AX (h:=s_ (h:=a_ (h:=e_ (A4 (A7 (?_))))))))))))))));refine Am (r:=FO (DQ s dev a)) none (h5:=?_) (h6:=⟨rfl,rfl,rfl⟩);rw[DQ,if_pos (.inl hc1)];exact Hf _
 have hc1:=bp hb1;refine m_ (h:=f_ (h:=f_ (h:=l_ (h:=n_ (h:=GL (h:=Ar (h:=e_ (?_))))))));refine A8 rfl (fun hb2=>?_) (fun hb2=>?_)
 ·have hc2:=bp hb2;refine w_ (AX (h:=s_ (h:=a_ (h:=e_ (A4 (A7 (?_)))))));refine Am (r:=FO (DQ s dev a)) none (h5:=?_) (h6:=⟨rfl,rfl,rfl⟩);rw[DQ,if_pos (.inr (by rw[List.length_map]at hc2;omega))];exact Hf _
 have hc2:=bp hb2;refine AN (w_ (f_ (h:=l_ (h:=l_ (h:=?_)))));refine A6 rfl (AK (ED s.files a hs.files) ?_);rintro r rfl;refine m_ (h:=x_ (h:=x_ (h:=AZ (h:=s_ (h:=a_ (h:=e_ (q_ (w_ (m_ (h:=BG (h:=e_ (?_))))))))))));refine A8 rfl (fun hb3=>?_) (fun hb3=>?_)
 ·have hc3:=bp hb3;refine w_ (AX (h:=s_ (h:=a_ (h:=e_ (A4 (A7 (?_)))))));refine Am (r:=FO (DQ s dev a)) none (h5:=?_) (h6:=⟨rfl,rfl,rfl⟩);rw[DQ,if_neg (by rw[List.length_map]at hc2;omega),if_pos hc3];exact Hf _
 have hc3:=bp hb3;refine AN (q_ (w_ (f_ (h:=l_ (h:=BV (h:=e_ (?_)))))));refine A8 rfl (fun hb4=>?_) (fun hb4=>?_)
 ·have hc4:=bp hb4;refine w_ (AX (h:=s_ (h:=a_ (h:=e_ (A4 (A7 (?_)))))));refine Am (r:=FO (DQ s dev a)) none (h5:=?_) (h6:=⟨rfl,rfl,rfl⟩);rw[DQ,if_neg (by rw[List.length_map]at hc2;omega),if_neg (by simp[hc3]),if_pos hc4];exact Hf _
 have hc4:=bp hb4;refine AN (q_ (w_ (l_ (h:=f_ (h:=l_ (h:=?_))))));refine A6 rfl (AK (LO s a.1 hs) ?_);rintro r rfl;refine BG (h:=m_ (h:=?_));refine B5 false rfl rfl (fun hb5=>?_) (fun hb5=>?_)
 ·have hc5:=bp hb5;refine A3 (h:=A3 (h:=A3 (h:=A3 (h:=Ag (h:=e_ (C2 (h:=w_ (AX (h:=s_ (h:=a_ (h:=e_ (A4 (A7 (?_))))))))))))));refine Am (r:=FO (DQ s dev a)) none (h5:=?_) (h6:=⟨rfl,rfl,rfl⟩);rw[DQ,if_neg (by rw[List.length_map]at hc2;omega),if_neg (by simp[hc3]),if_neg (by simp[hc4]),if_pos (.inl hc5)];exact Hf _
 have hc5:=bp hb5;refine f_ (h:=l_ (h:=m_ (h:=AR (h:=Ar (h:=e_ (?_))))));refine A8 rfl (fun hb6=>?_) (fun hb6=>?_)
 ·have hc6:=bp hb6;refine w_ (AX (h:=s_ (h:=a_ (h:=e_ (A4 (A7 (?_)))))));refine Am (r:=FO (DQ s dev a)) none (h5:=?_) (h6:=⟨rfl,rfl,rfl⟩);rw[DQ,if_neg (by rw[List.length_map]at hc2;omega),if_neg (by simp[hc3]),if_neg (by simp[hc4]),if_pos (.inr hc6)];exact Hf _
 have hc6:=bp hb6;refine AN (q_ (w_ (l_ (h:=m_ (h:=?_)))));refine A6 rfl (AK (LO s dev hs) ?_);rintro r rfl;refine m_ (h:=?_);refine B5 false rfl rfl (fun hb7=>?_) (fun hb7=>?_)
 ·have hc7:=bp hb7;refine A3 (h:=A3 (h:=A3 (h:=Ag (h:=e_ (C2 (h:=w_ (AX (h:=s_ (h:=a_ (h:=e_ (A4 (A7 (?_)))))))))))));refine Am (r:=FO (DQ s dev a)) none (h5:=?_) (h6:=⟨rfl,rfl,rfl⟩);rw[DQ,if_neg (by rw[List.length_map]at hc2;omega),if_neg (by simp[hc3]),if_neg (by simp[hc4]),if_neg (by simp[hc5,hc6]),if_pos (.inl hc7)];exact Hf _
 have hc7:=bp hb7;refine l_ (h:=l_ (h:=?_));refine BB (AK (Tk s a hs) ?_);rintro r rfl;refine Ar (h:=e_ (?_));refine A8 rfl (fun hb8=>?_) (fun hb8=>?_)
 ·have hc8:=bp hb8;refine w_ (AX (h:=s_ (h:=a_ (h:=e_ (A4 (A7 (?_)))))));refine Am (r:=FO (DQ s dev a)) none (h5:=?_) (h6:=⟨rfl,rfl,rfl⟩);rw[DQ,if_neg (by rw[List.length_map]at hc2;omega),if_neg (by simp[hc3]),if_neg (by simp[hc4]),if_neg (by simp[hc5,hc6]),if_pos (.inr hc8)];exact Hf _
 have hc8:=bp hb8;refine AN (w_ (l_ (h:=?_)));refine A6 rfl (TC rfl (by repeat (first|exact Args.nil|refine Args.cons _ _ _ _ _ rfl (LF rfl) ?_|refine Args.cons _ _ _ _ _ rfl (MP _) ?_|refine Args.cons _ _ _ _ _ rfl (LE _) ?_|refine Args.cons _ _ _ _ _ rfl (MS rfl (by repeat (first|exact A9 _|exact LeA.nil _|exact LeL.refl _|refine LeA.agg ?_|refine LeA.tup ?_|exact LeL.nil|refine LeL.cons ?_ ?_|exact LeA.any _))) ?_)) (Uv s hs) (fun _=>rfl) (by repeat constructor) ?_);refine AZ (h:=s_ (h:=e_ (w_ (f_ (h:=l_ (h:=m_ (h:=l_ (h:=AX (h:=Bw (h:=?_))))))))));refine A6 rfl (EO rfl rfl rfl (by simp;omega) (by repeat constructor) ?_);refine f_ (h:=s_ (h:=e_ (w_ (l_ (h:=s_ (h:=a_ (h:=e_ (A4 (?_)))))))));refine AJ ?_;rw[DQ,if_neg (by rw[List.length_map]at hc2;omega),if_neg (by simp[hc3]),if_neg (by simp[hc4]),if_neg (by simp[hc5,hc6]),if_neg (by simp[hc7,hc8])];simp only[FO,Ao,List.map_append];rfl
theorem cC(s:Spc)(dev:Int)(hs:SpcB s):AFn prog 191 [.agg (Ao s), .v (.int .i64 dev)] (fun r=>r=FO (Ef s dev)):=by
 have hfew:=hs.few;refine enter Tryz.func191 rfl rfl rfl rfl rfl 0 rfl ?_;refine w_ (b_ (h:=AZ (h:=a_ (h:=e_ (q_ (w_ (m_ (h:=AR (h:=m_ (h:=?_))))))))));refine B5 false rfl rfl (fun hb1=>?_) (fun hb1=>?_)
 ·have hc1:=bp hb1;refine A3 (h:=A3 (h:=A3 (h:=A3 (h:=Ag (h:=e_ (C2 (h:=w_ (AX (h:=s_ (h:=a_ (h:=e_ (A4 (A7 (?_))))))))))))));refine Am (r:=FO (Ef s dev)) none (h5:=?_) (h6:=⟨rfl,rfl,rfl⟩);rw[Ef,if_pos (.inl hc1)];exact Hf _
 have hc1:=bp hb1;refine l_ (h:=m_ (h:=?_));refine BB (AK (LO s dev hs) ?_);rintro r rfl;refine BG (h:=Ar (h:=e_ (?_)));refine A8 rfl (fun hb2=>?_) (fun hb2=>?_)
 ·have hc2:=bp hb2;refine w_ (AX (h:=s_ (h:=a_ (h:=e_ (A4 (A7 (?_)))))));refine Am (r:=FO (Ef s dev)) none (h5:=?_) (h6:=⟨rfl,rfl,rfl⟩);rw[Ef,if_pos (.inr hc2)];exact Hf _
 have hc2:=bp hb2;refine AN (w_ (a_ (h:=e_ (q_ (w_ (a_ (h:=e_ (Av (?_)))))))));refine O7 6 149 3 rfl (by repeat constructor) ?_;refine Bq (fun m t=>∃(j:Nat) (acc:List Cs),j≤s.mounts.length∧m=s.mounts.length - j∧(∀i y,i<j→s.mounts[i]?=some y→decide (y.2.1=dev)=false)∧(s.mounts.take j).filter (fun m=>decide (m.1≠dev))=acc∧acc.length≤j∧t=⟨look [(1, .v (.int .i64 dev)),(2, .bp 0 0),(4, .bp 1 0),(6, .sl 3 (acc.map D2) (some 0)),(7, .v (.int .i64 (j:Int)))],⟨[Ao s,[.v (.slice none 0 0), .v (.slice none 0 0)]],[(149,3,acc.map D2)]⟩⟩) (s.mounts.length) ((wk 2 1)) (⟨0,[],by omega,rfl,fun i y hi=>by omega,rfl,BA _,rfl⟩) ?_;rintro m t ⟨j,acc,hj,rfl,ha,hacc,hal,rfl⟩;refine q_ (w_ (m_ (h:=f_ (h:=l_ (h:=n_ (h:=BS (h:=e_ (?_))))))));refine A8 rfl (fun hb3=>?_) (fun hb3=>?_)
 ·have hc3:=bp hb3;obtain⟨hlt,x,hy,hrow, -⟩:=Cu D2 hc3;refine AN (q_ (Av (q_ (w_ (f_ (h:=l_ (h:=m_ (h:=i_ (h:=f_ (h:=f_ (h:=l_ (h:=m_ (h:=AR (h:=e_ (?_)))))))))))))));refine A8 rfl (fun hb4=>?_) (fun hb4=>?_)
  ·have hc4:=bp hb4;have hany:(s.mounts.any fun m=>decide (m.2.1=dev))=true:=KZ hy (decide_eq_true hc4);refine w_ (AX (h:=s_ (h:=a_ (h:=e_ (A4 (A7 (AY (A7 (A7 (AY (A7 (?_))))))))))));refine Am (r:=FO (Ef s dev)) none (h5:=?_) (h6:=⟨rfl,rfl,rfl⟩);rw[Ef,if_neg (by simp[hc1,hc2]),if_pos hany];exact Hf _
  have hc4:=bp hb4;refine AN (w_ (f_ (h:=l_ (h:=m_ (h:=i_ (h:=f_ (h:=l_ (h:=m_ (h:=BV (h:=e_ (?_)))))))))));refine A8 rfl (fun hb5=>?_) (fun hb5=>?_)
  ·have hc5:=bp hb5;have hk:(s.mounts.take (j+1)).filter (fun m=>decide (m.1≠dev))=acc++[x]:=by rw[List.take_add_one,hy,List.filter_append,hacc];simp[hc5]
   refine AQ (m_ (h:=f_ (h:=l_ (h:=m_ (h:=i_ (h:=l_ (h:=Bw (h:=?_))))))));refine A6 rfl (EO rfl rfl rfl (by simp;omega) (by repeat constructor) ?_);refine a_ (h:=AP (B8 (t_ (AQ (m_ (h:=BH (h:=a_ (h:=AP (?_)))))))));refine AF ?_;exact⟨s.mounts.length - (j+1),_,by omega,⟨j+1,acc++[x],by omega,rfl,EP hy ha (decide_eq_false hc4),hk,by simp;omega,rfl⟩,(by rw[List.map_append];exact Az 2 1 rfl rfl rfl rfl ((by repeat (first|exact Sub.nil|refine B0 rfl rfl ?_|refine B2 ?_|refine B3 rfl ?_|refine B4 rfl ?_))))⟩
  have hc5:=bp hb5;have hk:(s.mounts.take (j+1)).filter (fun m=>decide (m.1≠dev))=acc:=by rw[List.take_add_one,hy,List.filter_append,hacc];simp[hc5]
  refine BM (B8 (t_ (AQ (m_ (h:=BH (h:=a_ (h:=AP (?_))))))));refine AF ?_
  first|exact⟨s.mounts.length - (j+1),_,by omega,⟨j+1,acc++[x],by omega,rfl,EP hy ha (decide_eq_false hc4),hk,by simp;omega,rfl⟩,(by rw[List.map_append];exact Az 2 1 rfl rfl rfl rfl ((by repeat (first|exact Sub.nil|refine B0 rfl rfl ?_|refine B2 ?_|refine B3 rfl ?_|refine B4 rfl ?_))))⟩|exact⟨s.mounts.length - (j+1),_,by omega,⟨j+1,acc,by omega,rfl,EP hy ha (decide_eq_false hc4),hk,by omega,rfl⟩,Az 2 1 rfl rfl rfl rfl ((by repeat (first|exact Sub.nil|refine B0 rfl rfl ?_|refine B2 ?_|refine B3 rfl ?_|refine B4 rfl ?_)))⟩
 have hc3:=bp hb3;have e3:=D0 D2 hj hc3;subst e3;have hany:(s.mounts.any fun m=>decide (m.2.1=dev))=false:=LQ ha;rw[List.take_length]at hacc;refine BX (Aw (Aw (BY (t_ (w_ (l_ (h:=?_)))))));refine A6 rfl (TC rfl (by repeat (first|exact Args.nil|refine Args.cons _ _ _ _ _ rfl (LF rfl) ?_|refine Args.cons _ _ _ _ _ rfl (MP _) ?_|refine Args.cons _ _ _ _ _ rfl (LE _) ?_|refine Args.cons _ _ _ _ _ rfl (MS rfl (by repeat (first|exact A9 _|exact LeA.nil _|exact LeL.refl _|refine LeA.agg ?_|refine LeA.tup ?_|exact LeL.nil|refine LeL.cons ?_ ?_|exact LeA.any _))) ?_)) (Uv s hs) (fun _=>rfl) (by repeat constructor) ?_);refine AZ (h:=s_ (h:=e_ (w_ (m_ (h:=f_ (h:=s_ (h:=e_ (w_ (l_ (h:=s_ (h:=a_ (h:=e_ (A4 (?_))))))))))))));refine AJ ?_;rw[Ef,if_neg (by simp[hc1,hc2]),if_neg (by simp[hany]),hacc];rfl
end
theorem Uw(z:Int){n:Int}(h:1≤n): -n<z.tmod n∧z.tmod n<n:=⟨Int.lt_tmod_of_pos z (by omega),Int.tmod_lt_of_pos z (by omega)⟩
theorem Gt(a b:ByteArray):(a++b).size=a.size+b.size:=ByteArray.size_append
section
theorem cF(l:List Int):ACall prog 12 [.sl 1 (l.map CF) none] [] (fun r b t=>r= .bp 0 0∧b=[E1 l 0]∧t=[]):=by
 refine enter Tryz.func12 rfl rfl rfl rfl rfl 1 rfl ?_;refine w_ (a_ (h:=e_ (w_ (m_ (h:=AX (h:=b_ (h:=a_ (h:=e_ (A4 (?_))))))))));refine Am none (h5:=(A9 _)) (h6:=⟨rfl,rfl,rfl⟩)
theorem Gn(l:List Int)(a:Nat)(n:Int)(ha:a≤1000000000000)(hn:n≤1000000000000):Gg prog 21 l a [.v (.int .i64 n)] 1 (fun r=>∃k:Int,r= .v (.int .i64 k)∧0≤k∧(1≤n→k<n)∧(n<1→k=0)):=by
 refine enter Tryz.func21 rfl rfl rfl rfl rfl 1 rfl ?_;refine w_ (a_ (h:=e_ (q_ (w_ (m_ (h:=BS (h:=e_ (?_))))))));refine A8 rfl (fun hb1=>?_) (fun hb1=>?_)
 ·have hc1:=bp hb1;refine w_ (a_ (h:=e_ (A4 (A7 (?_)))));refine Am none (h5:=(A9 _)) (h6:=⟨_,rfl,rfl,a,by omega,rfl,0,rfl,by omega,by omega,by omega⟩)
 have hc1:=bp hb1;refine AN (w_ (m_ (h:=k_ (h:=f_ (h:=l_ (h:=BH (h:=k_ (h:=f_ (h:=s_ (h:=e_ (w_ (m_ (h:=k_ (h:=f_ (h:=l_ (h:=Ym (h:=a_ (h:=e_ (q_ (q_ (E4 10 (h:=AO 0 (h:=BC 1 (h:=?_))))))))))))))))))))))));refine AG 2 (h:=AM 3 (h:=AO 4 (h:=BC 5 (h:=AG 6 (h:=AM 7 (h:=KV 8 (h:=Yn 9 (h:=z_ (h:=t_ (?_))))))))));refine A8 rfl (fun hb2=>?_) (fun hb2=>?_)
 ·have hc2:=bp hb2;have hlt:a<l.length:=by simp at hc2;omega
  obtain⟨z,hz⟩:∃z,(l.map CF)[a]?=some (CF z):=⟨l[a],by simp[hlt]⟩;have tz:=Uw z (n:=n) (by omega);refine E4 12 (h:=AO 0 (h:=BC 1 (h:=AG 2 (h:=AM 3 (h:=AO 4 (h:=BC 5 (h:=AG 6 (h:=AM 7 (h:=QH 8 (h:=?_))))))))));refine GG (i:=9) rfl (Ci (n:=a) rfl rfl (by omega) hz ⟨rfl,rfl⟩) ?_;refine AM 10 (h:=BK 11 (h:=z_ (h:=t_ (w_ (m_ (h:=m_ (h:=?_)))))));refine A6 rfl (Sq rfl rfl (by omega) ?_);refine a_ (h:=e_ (q_ (w_ (m_ (h:=BS (h:=e_ (?_)))))));refine A8 rfl (fun hb3=>?_) (fun hb3=>?_)
  ·have hc3:=bp hb3;refine AQ (m_ (h:=m_ (h:=?_)));refine A6 rfl (KL rfl rfl (by omega) ?_);refine a_ (h:=e_ (w_ (m_ (h:=a_ (h:=e_ (A4 (?_)))))));refine Am none (h5:=(A9 _)) (h6:=⟨_,rfl,rfl,a+1,by omega,rfl,_,rfl,by omega,by omega,by omega⟩)
  have hc3:=bp hb3;refine AN (w_ (m_ (h:=a_ (h:=e_ (A4 (?_))))));refine Am none (h5:=(A9 _)) (h6:=⟨_,rfl,rfl,a+1,by omega,rfl,_,rfl,by omega,by omega,by omega⟩)
 have hc2:=bp hb2;have tz:=Uw (IntKind.i64.wrap (((a:Int)+1) * 7)) (n:=n) (by omega);refine AN (w_ (m_ (h:=m_ (h:=?_))));refine A6 rfl (Sq rfl rfl (by omega) ?_);refine a_ (h:=e_ (q_ (w_ (m_ (h:=BS (h:=e_ (?_)))))));refine A8 rfl (fun hb4=>?_) (fun hb4=>?_)
 ·have hc4:=bp hb4;refine AQ (m_ (h:=m_ (h:=?_)));refine A6 rfl (KL rfl rfl (by omega) ?_);refine a_ (h:=e_ (w_ (m_ (h:=a_ (h:=e_ (A4 (?_)))))));refine Am none (h5:=(A9 _)) (h6:=⟨_,rfl,rfl,a+1,by omega,rfl,_,rfl,by omega,by omega,by omega⟩)
 have hc4:=bp hb4;refine AN (w_ (m_ (h:=a_ (h:=e_ (A4 (?_))))));refine Am none (h5:=(A9 _)) (h6:=⟨_,rfl,rfl,a+1,by omega,rfl,_,rfl,by omega,by omega,by omega⟩)
theorem K7(l:List Int)(a:Nat)(lo hi:Int)(ha:a≤1000000000000)(h1: -1000000≤lo)(h2:lo≤hi)(h3:hi≤1000000):Gg prog 14 l a [.v (.int .i64 lo), .v (.int .i64 hi)] 1 (fun r=>∃k:Int,r= .v (.int .i64 k)∧lo≤k∧k≤hi):=by
 refine enter Tryz.func14 rfl rfl rfl rfl rfl 1 rfl ?_;refine w_ (a_ (h:=e_ (w_ (m_ (h:=m_ (h:=m_ (h:=m_ (h:=OR (h:=BH (h:=?_))))))))));refine A6 rfl (BZ 0 (hc:=Gn l a (hi - lo+1) ha (by omega)) (hR:=?_));rintro r a1 ha1 ⟨k,rfl,k1,k2,k3⟩;refine⟨rfl,_,(by repeat constructor),?_⟩;refine BH (h:=a_ (h:=e_ (A4 (?_))));refine Am none (h5:=(A9 _)) (h6:=⟨_,rfl,rfl,a1,by omega,rfl,_,rfl,by omega,by omega⟩)
theorem K8(l:List Int)(a:Nat)(rows:List (List AV))(p:Int→Bool)(ha:a≤1000000000000)(h0:Nat.blt 0 rows.length=true)(h1:Nat.ble rows.length 1000=true)(hp:OK p rows=true):Gg prog 32 l a [.sl 1 rows none] 1 (fun r=>∃z:Int,r= .v (.int .i64 z)∧p z=true):=by
 have h0':0<rows.length:=Be h0;have h1':rows.length≤1000:=Be h1;refine enter Tryz.func32 rfl rfl rfl rfl rfl 1 rfl ?_;refine w_ (a_ (h:=e_ (w_ (m_ (h:=m_ (h:=m_ (h:=n_ (h:=?_))))))));refine A6 rfl (BZ 0 (hc:=Gn l a rows.length ha (by omega)) (hR:=?_));rintro r a1 ha1 ⟨k,rfl,k1,k2,k3⟩;refine⟨rfl,_,(by repeat constructor),?_⟩;obtain⟨m,rfl⟩:=Int.eq_ofNat_of_zero_le k1;obtain⟨z,hz,pz⟩:=TP hp (i:=m) (by omega);refine A6 rfl (Ci (n:=m) rfl rfl rfl hz ?_);refine l_ (h:=a_ (h:=e_ (A4 (?_))));refine Am none (h5:=(A9 _)) (h6:=⟨_,rfl,rfl,a1,by omega,rfl,z,rfl,pz⟩)
theorem Le(l:List Int)(a:Nat)(rows:List (List AV))(p:ByteArray→Bool)(ha:a≤1000000000000)(h0:Nat.blt 0 rows.length=true)(h1:Nat.ble rows.length 1000=true)(hp:OL p rows=true):Gg prog 50 l a [.sl 1 rows none] 1 (fun r=>∃z:ByteArray,r= .v (.string z)∧p z=true):=by
 have h0':0<rows.length:=Be h0;have h1':rows.length≤1000:=Be h1;refine enter Tryz.func50 rfl rfl rfl rfl rfl 1 rfl ?_;refine w_ (a_ (h:=e_ (w_ (m_ (h:=m_ (h:=m_ (h:=n_ (h:=?_))))))));refine A6 rfl (BZ 0 (hc:=Gn l a rows.length ha (by omega)) (hR:=?_));rintro r a1 ha1 ⟨k,rfl,k1,k2,k3⟩;refine⟨rfl,_,(by repeat constructor),?_⟩;obtain⟨m,rfl⟩:=Int.eq_ofNat_of_zero_le k1;obtain⟨z,hz,pz⟩:=TQ hp (i:=m) (by omega);refine A6 rfl (Ci (n:=m) rfl rfl rfl hz ?_);refine l_ (h:=a_ (h:=e_ (A4 (?_))));refine Am none (h5:=(A9 _)) (h6:=⟨_,rfl,rfl,a1,by omega,rfl,z,rfl,pz⟩)
theorem Ux(l:List Int)(a:Nat)(ha:a≤100000000000):Gg prog 23 l a [] 2 (fun r=>∃s:ByteArray,r= .v (.string s)∧s.size≤13):=by
 refine enter Tryz.func23 rfl rfl rfl rfl rfl 1 rfl ?_;refine w_ (a_ (h:=e_ (q_ (w_ (m_ (h:=?_))))));refine A6 rfl (BZ 0 (hc:=Gn l _ (20) (by omega) (by omega)) (hR:=?_));rintro r a1 ha1 ⟨k1,rfl,p1,q1,o1⟩;refine⟨rfl,_,(by repeat constructor),?_⟩;refine AR (h:=e_ (?_));refine A8 rfl (fun hb1=>?_) (fun hb1=>?_)
 ·have hc1:=bp hb1;refine w_ (m_ (h:=Bw (h:=?_)));refine A6 rfl (BZ 0 (hc:=Le l _ _ (fun s=>decide (s.size≤13)) (by omega) (by rfl) (by rfl) (by rfl)) (hR:=?_));rintro r a2 ha2 ⟨k2,rfl,p2⟩;refine⟨rfl,_,(by repeat constructor),?_⟩;refine a_ (h:=e_ (A4 (A7 (?_))));refine Am none (h5:=(A9 _)) (h6:=⟨_,rfl,rfl,_,?_,rfl,_,rfl,of_decide_eq_true ‹_›⟩)<;>omega
 have hc1:=bp hb1;refine AN (w_ (m_ (h:=Bw (h:=?_))));refine A6 rfl (BZ 0 (hc:=Le l _ _ (fun s=>decide (s.size≤13)) (by omega) (by rfl) (by rfl) (by rfl)) (hR:=?_));rintro r a3 ha3 ⟨k3,rfl,p3⟩;refine⟨rfl,_,(by repeat constructor),?_⟩;refine a_ (h:=e_ (A4 (?_)));refine Am none (h5:=(A9 _)) (h6:=⟨_,rfl,rfl,_,?_,rfl,_,rfl,of_decide_eq_true ‹_›⟩)<;>omega
theorem cG(l:List Int)(a:Nat)(ha:a≤50000000000):Gg prog 16 l a [] 20 (fun r=>∃s:ByteArray,r= .v (.string s)∧s.size≤58):=by
 have e1:(⟨#[47]⟩:ByteArray).size=1:=rfl;have e0:(⟨#[]⟩:ByteArray).size=0:=rfl;refine enter Tryz.func16 rfl rfl rfl rfl rfl 1 rfl ?_;refine w_ (a_ (h:=e_ (w_ (a_ (h:=e_ (?_))))));refine BE (fun s=>∃(b:Nat) (t:ByteArray),b≤a+1∧t.size≤1∧s=⟨look [(0, .bp 0 0),(3, .v (.string t))],⟨[E1 l b],[]⟩⟩) ?_ ?_
 ·skip
  refine w_ (m_ (h:=?_));refine A6 rfl (BZ 0 (hc:=Gn l _ (6) (by omega) (by omega)) (hR:=?_));rintro r a1 ha1 ⟨k1,rfl,p1,q1,o1⟩;refine⟨rfl,_,(by repeat constructor),?_⟩;refine Ck (h:=e_ (?_));refine A8 rfl (fun hb1=>?_) (fun hb1=>?_)
  ·have hc1:=bp hb1;refine AQ (a_ (h:=AP (?_)));refine AF ?_;refine⟨_,⟨_,_,?_,?_,rfl⟩,(wk 1 0)⟩<;>first|omega|exact Be rfl
  have hc1:=bp hb1;refine BM (?_);refine AF ?_;refine⟨_,⟨_,_,?_,?_,rfl⟩,(wk 1 0)⟩<;>first|omega|exact Be rfl
 rintro s ⟨b,t0,hb,ht0,rfl⟩;refine w_ (m_ (h:=Bw (h:=?_)));refine A6 rfl (BZ 0 (hc:=K8 l _ _ (fun z=>decide (0≤z∧z≤4)) (by omega) (by rfl) (by rfl) (by rfl)) (hR:=?_));rintro r a2 ha2 ⟨k2,rfl,p2⟩;refine⟨rfl,_,(by repeat constructor),?_⟩;obtain⟨hz1,hz2⟩:=of_decide_eq_true p2;obtain⟨m,rfl⟩:=Int.eq_ofNat_of_zero_le hz1;refine a_ (h:=e_ (q_ (w_ (a_ (h:=e_ (Av (?_)))))));refine Bq (fun n s=>∃(j b1:Nat) (t:ByteArray),j≤m∧n=m - j∧b1≤b+1+4 * j∧t.size≤1+14 * j∧s=⟨look [(0, .bp 0 0),(3, .v (.string t)),(4, .v (.int .i64 (m:Int))),(5, .v (.int .i64 (j:Int)))],⟨[E1 l b1],[]⟩⟩) (m) ((wk 1 0)) (⟨0,_,t0,by omega,rfl,by omega,by omega,rfl⟩) ?_;rintro n s ⟨j,b1,t,hj,rfl,hb1,ht,rfl⟩;refine q_ (w_ (m_ (h:=m_ (h:=BS (h:=e_ (?_))))));refine A8 rfl (fun hb2=>?_) (fun hb2=>?_)
 ·have hc2:=bp hb2;refine AN (?_);refine BE (fun s=>∃(b3:Nat) (t1:ByteArray),b3≤b1+4∧t1.size≤1+14 * (j+1)∧s=⟨look [(0, .bp 0 0),(3, .v (.string t1)),(4, .v (.int .i64 (m:Int))),(5, .v (.int .i64 (j:Int)))],⟨[E1 l b3],[]⟩⟩) ?_ ?_
  ·skip
   refine Av (q_ (w_ (m_ (h:=Ck (h:=e_ (?_))))));refine A8 rfl (fun hb3=>?_) (fun hb3=>?_)
   ·have hc3:=bp hb3;refine AQ (m_ (h:=?_));refine A6 rfl (FE rfl rfl (by(try simp only[Gt]);omega) ?_);refine a_ (h:=e_ (w_ (m_ (h:=?_))));refine A6 rfl (BZ 0 (hc:=Gn l _ (8) (by omega) (by omega)) (hR:=?_));rintro r a3 ha3 ⟨k3,rfl,p3,q3,o3⟩;refine⟨rfl,_,(by repeat constructor),?_⟩;refine AR (h:=e_ (?_));refine A8 rfl (fun hb4=>?_) (fun hb4=>?_)
    ·have hc4:=bp hb4;refine AQ (m_ (h:=m_ (h:=Bw (h:=?_))));refine A6 rfl (BZ 0 (hc:=Le l _ _ (fun s=>decide (s.size≤13)) (by omega) (by rfl) (by rfl) (by rfl)) (hR:=?_));rintro r a4 ha4 ⟨k4,rfl,p4⟩;refine⟨rfl,_,(by repeat constructor),?_⟩;have hw:=of_decide_eq_true p4;refine A6 rfl (FE rfl rfl (by(try simp only[Gt]);omega) ?_);refine a_ (h:=AP (B8 (?_)));refine AF ?_;refine⟨_,⟨_,_,?_,?_,rfl⟩,(wk 1 0)⟩<;>(try simp only[Gt])<;>omega
    have hc4:=bp hb4;refine AQ (m_ (h:=m_ (h:=?_)));refine A6 rfl (BZ 0 (hc:=Ux l _ (by omega)) (hR:=?_));rintro r a5 ha5 ⟨k5,rfl,hw⟩;refine⟨rfl,_,(by repeat constructor),?_⟩;refine A6 rfl (FE rfl rfl (by(try simp only[Gt]);omega) ?_);refine a_ (h:=AP (B8 (?_)));refine AF ?_;refine⟨_,⟨_,_,?_,?_,rfl⟩,(wk 1 0)⟩<;>(try simp only[Gt])<;>omega
   have hc3:=bp hb3;refine AN (w_ (m_ (h:=?_)));refine A6 rfl (BZ 0 (hc:=Gn l _ (8) (by omega) (by omega)) (hR:=?_));rintro r a6 ha6 ⟨k6,rfl,p6,q6,o6⟩;refine⟨rfl,_,(by repeat constructor),?_⟩;refine AR (h:=e_ (?_));refine A8 rfl (fun hb5=>?_) (fun hb5=>?_)
   ·have hc5:=bp hb5;refine AQ (m_ (h:=m_ (h:=Bw (h:=?_))));refine A6 rfl (BZ 0 (hc:=Le l _ _ (fun s=>decide (s.size≤13)) (by omega) (by rfl) (by rfl) (by rfl)) (hR:=?_));rintro r a7 ha7 ⟨k7,rfl,p7⟩;refine⟨rfl,_,(by repeat constructor),?_⟩;have hw:=of_decide_eq_true p7;refine A6 rfl (FE rfl rfl (by(try simp only[Gt]);omega) ?_);refine a_ (h:=AP (B8 (?_)));refine AF ?_;refine⟨_,⟨_,_,?_,?_,rfl⟩,(wk 1 0)⟩<;>(try simp only[Gt])<;>omega
   have hc5:=bp hb5;refine AQ (m_ (h:=m_ (h:=?_)));refine A6 rfl (BZ 0 (hc:=Ux l _ (by omega)) (hR:=?_));rintro r a8 ha8 ⟨k8,rfl,hw⟩;refine⟨rfl,_,(by repeat constructor),?_⟩;refine A6 rfl (FE rfl rfl (by(try simp only[Gt]);omega) ?_);refine a_ (h:=AP (B8 (?_)));refine AF ?_;refine⟨_,⟨_,_,?_,?_,rfl⟩,(wk 1 0)⟩<;>(try simp only[Gt])<;>omega
  rintro s ⟨b3,t1,hb3,ht1,rfl⟩;refine AQ (m_ (h:=BH (h:=a_ (h:=AP (?_)))));refine AF ?_;refine⟨_,_,?_,⟨j+1,_,_,by omega,rfl,?_,?_,rfl⟩,(wk 1 0)⟩<;>omega
 have hc2:=bp hb2;refine BX (Aw (Aw (BY (t_ (q_ (w_ (m_ (h:=?_))))))));refine A6 rfl (BZ 0 (hc:=Gn l _ (8) (by omega) (by omega)) (hR:=?_));rintro r a9 ha9 ⟨k9,rfl,p9,q9,o9⟩;refine⟨rfl,_,(by repeat constructor),?_⟩;refine AR (h:=e_ (?_));refine A8 rfl (fun hb6=>?_) (fun hb6=>?_)
 ·have hc6:=bp hb6;refine AQ (m_ (h:=?_));refine A6 rfl (FE rfl rfl (by(try simp only[Gt]);omega) ?_);refine a_ (h:=e_ (w_ (m_ (h:=a_ (h:=e_ (A4 (?_)))))));refine Am none (h5:=(A9 _)) (h6:=⟨_,rfl,rfl,_,?_,rfl,_,rfl,?_⟩)<;>(try simp only[Gt])<;>omega
 have hc6:=bp hb6;refine AN (w_ (m_ (h:=a_ (h:=e_ (A4 (?_))))));refine Am none (h5:=(A9 _)) (h6:=⟨_,rfl,rfl,_,?_,rfl,_,rfl,?_⟩)<;>(try simp only[Gt])<;>omega
end
theorem cH:VD LL:=by
 refine⟨by decide,by decide,by decide,⟨OU,[],rfl,rfl,rfl,rfl⟩,List.pairwise_singleton _ _,?_,?_,?_,?_,?_,?_,?_,?_,?_,⟨fun _=>0,?_⟩⟩<;>
  (intro n hn;obtain rfl:n=OU:=by simpa[LL]using hn)
 ·decide
 ·decide+kernel
 ·intro h;exact absurd rfl h
 ·decide
 ·exact List.Pairwise.nil
 ·intro e he;cases he
 ·intro h;exact absurd rfl h
 ·intro h;exact absurd rfl h
 ·intro h;exact absurd rfl h
 intro h;exact absurd rfl h
theorem Uy{k:Int}(h1:1≤k)(h2:k≤3):FlsV (En k).1∧0<(En k).1.length:=by
 unfold En;rw[if_neg (by omega)];refine⟨⟨?_,fun d hd=>?_⟩,?_⟩
 ·show(List.replicate _ _).length≤3;rw[List.length_replicate];omega
 ·rw[(List.mem_replicate.1 hd).2];exact cH
 show 0<(List.replicate _ _).length;rw[List.length_replicate];omega
structure MntOK(f:AU)(ms:List Cs)(m:Cs):Prop where
 dev1:1≤m.1
 dev2:m.1<(f.length:Int)
 fresh:Bm ⟨f,ms⟩ m.1=false
 dir:AT f m.2=true
 there:Bm ⟨f,ms⟩ m.2.1=true
 free:(Bx ⟨f,ms⟩ m.2).isSome=false
structure SpcV(s:Spc):Prop where
 files:FlsV s.files
 pos:0<s.files.length
 mnt:∀i m,s.mounts[i]?=some m→MntOK s.files (s.mounts.take i) m
theorem Uz{s:Spc}(h:SpcV s)(dev:Int)(a:AA)(h0:(DQ s dev a).2=0):SpcV (DQ s dev a).1∧(DQ s dev a).1=⟨s.files,s.mounts++[(dev,a)]⟩:=by
 unfold DQ at h0 ⊢;split at h0
 ·exact absurd h0 (by decide)
 rename_i c1;split at h0
 ·exact absurd h0 (by decide)
 rename_i c2;split at h0
 ·exact absurd h0 (by decide)
 rename_i c3;split at h0
 ·exact absurd h0 (by decide)
 rename_i c4;split at h0
 ·exact absurd h0 (by decide)
 rename_i c5;rw[if_neg c1,if_neg c2,if_neg c3,if_neg c4,if_neg c5];refine⟨⟨h.files,h.pos,fun i m hi=>?_⟩,rfl⟩;simp only at hi ⊢;rcases Nat.lt_trichotomy i s.mounts.length with hlt|heq|hgt
 ·rw[Cm hlt]at hi;rw[List.take_append_of_le_length (by omega)];exact h.mnt i m hi
 ·subst heq;simp at hi;subst hi;rw[List.take_left' rfl];exact⟨by simp only;omega,by simp only;omega,by simpa using fun h=>c5 (.inl h),by simp only;rw[Gk];simp at c2 c3;simp[c2,c3],by simpa using fun h=>c4 (.inl h),Bool.eq_false_iff.2 fun h=>c5 (.inr h)⟩
 rw[List.getElem?_eq_none (by simp;omega)]at hi;cases hi
end Go.Proofs.YtbglbmnhgbgelaaGreatDoor
namespace Go.Proofs.YtbglbmnhgbgelaaGreatDoor
def D3(s:Spc)(a:AA):Option AA:=if a.2≠1 then some (a.1,(Ah s.files a).parent)else Bt s a.1
def ends(s:Spc):Nat→AA→Prop
 |0,a=>AT s.files a=false
 |k+1,a=>AT s.files a=false∨∀b,D3 s a=some b→ends s k b
theorem NE{s:Spc}{dev:Int}{on:AA}(h:Bt s dev=some on):∃m∈s.mounts,m.1=dev∧m.2=on:=by
 unfold Bt at h
 cases hf:s.mounts.find? fun m:Cs=>decide (m.1=dev)with
 |none=>rw[hf]at h;cases h
 |some m=>
   rw[hf]at h;injection h with h;exact⟨m,List.mem_of_find?_eq_some hf,by have:=List.find?_some hf;simpa using this,h⟩
theorem Gu{f:AU}{a:AA}(h:¬AT f a=false):∃(q:Nat) (d:Dvc) (m:Nod),a.1=(q:Int)∧f[q]?=some d∧m∈d.nodes∧m.ino=a.2∧Ah f a=m∧m.kind=2:=by
 rw[Bool.not_eq_false,Gk,Bool.and_eq_true,decide_eq_true_eq]at h;obtain⟨q,i,d,m,h1,h2,h3,h4,_,h6⟩:=K5 h.1;exact⟨q,d,m,h1,h2,Al h3,h4,h6,by rw[←h6];exact h.2⟩
theorem Lf{s:Spc}(hv:SpcV s){a:AA}(h:¬AT s.files a=false):Ee s a=D3 s a:=by
 obtain⟨q,d,m,_,_,_,h4,h5,_⟩:=Gu h;unfold Ee D3;rw[h5,h4];split
 ·rfl
 split
 ·rename_i h0
  cases ho:Bt s a.1 with
  |none=>rfl
  |some on=>
    obtain⟨m',hm,h1,_⟩:=NE ho;obtain⟨i,hi⟩:=List.getElem?_of_mem hm;have:=(hv.mnt i m' hi).dev1;omega
 rfl
def K9(s:Spc)(dev:Int):Nat:=match s.mounts.findIdx? fun m:Cs=>decide (m.1=dev)with
 |none=>0
 |some i=>i+1
theorem V0{s:Spc}(hv:SpcV s){dev:Int}{on:AA}(h:Bt s dev=some on):K9 s on.1<K9 s dev:=by
 unfold Bt at h
 cases hf:s.mounts.find? fun m:Cs=>decide (m.1=dev)with
 |none=>rw[hf]at h;cases h
 |some m=>
   rw[hf]at h;injection h with h;subst h;rw[List.find?_eq_some_iff_getElem]at hf;obtain⟨hp,i,hi,hmi,hbefore⟩:=hf
   have e1:s.mounts.findIdx? (fun m:Cs=>decide (m.1=dev))=some i:=by
    rw[List.findIdx?_eq_some_iff_getElem];exact⟨hi,by rw[hmi];exact hp,fun j hj=>by simpa using hbefore j hj⟩
   have hthere:=(hv.mnt i m (by rw[B9 hi,hmi])).there;unfold K9;rw[e1]
   cases e2:s.mounts.findIdx? (fun m':Cs=>decide (m'.1=m.2.1))with
   |none=>simp
   |some j=>
     simp only;by_cases h0:m.2.1=0
     ·rw[List.findIdx?_eq_some_iff_getElem]at e2;obtain⟨hj,h1,_⟩:=e2;have:=(hv.mnt j _ (B9 hj)).dev1;simp only[decide_eq_true_eq]at h1;omega
     unfold Bm Bt at hthere;simp only[Bool.or_eq_true,decide_eq_true_eq,h0,or_false,Option.isSome_map]at hthere
     cases hg:(s.mounts.take i).find? fun m':Cs=>decide (m'.1=m.2.1)with
     |none=>rw[hg]at hthere;cases hthere
     |some m'=>
       rw[List.find?_eq_some_iff_getElem]at hg;obtain⟨hp',k,hk,hmk,_⟩:=hg;rw[List.findIdx?_eq_some_iff_getElem]at e2;obtain⟨hj,_,hno⟩:=e2;have hki:k<i:=by simp at hk;omega
       by_cases hjk:j≤k
       ·omega
       have:=hno k (by omega);simp only[List.getElem_take]at hmk;rw[hmk]at this;rw[hp']at this;exact absurd rfl this
theorem cJ{s:Spc}(hv:SpcV s):∀(p:Nat) (a:AA),K9 s a.1<p→∃k,ends s k a:=by
 intro p
 induction p with
 |zero=>intro a h;omega
 |succ p ih=>
   intro a hp;by_cases hd:AT s.files a=false
   ·exact⟨0,hd⟩
   obtain⟨q,d,m,hq,hfd,_⟩:=Gu hd;have hvd:=hv.files.vd d (Al hfd);obtain⟨rk,hrk⟩:=hvd.rank
   have key:∀(r:Nat) (ino:Int),rk ino<r→∃k,ends s k (a.1,ino):=by
    intro r
    induction r with
    |zero=>intro ino h;omega
    |succ r ihr=>
      intro ino hr;by_cases hd2:AT s.files (a.1,ino)=false
      ·exact⟨0,hd2⟩
      obtain⟨q',d',m',hq',hfd',hm',hi',hn',hk'⟩:=Gu hd2;have:q'=q:=by simp only at hq';omega
      subst this;rw[hfd]at hfd';injection hfd' with hfd';subst hfd';simp only at hi';by_cases h1:ino=1
      ·cases ho:Bt s a.1 with
       |none=>exact⟨1, .inr fun b hb=>by simp[D3,h1,ho]at hb⟩
       |some on=>
         obtain⟨k,hk⟩:=ih on (by have:=V0 hv ho;omega);refine⟨k+1, .inr fun b hb=>?_⟩;simp[D3,h1,ho]at hb;rw[←hb];exact hk
      obtain⟨k,hk⟩:=ihr m'.parent (by have:=hrk m' hm' (by omega) hk';rw[hi']at this;omega);refine⟨k+1, .inr fun b hb=>?_⟩;simp[D3,h1,hn']at hb;rw[←hb];exact hk
   exact key (rk a.2+1) a.2 (by omega)
theorem Kl{s:Spc}{a:AA}(h:AT s.files a=false):∀k,Bb s k a=[]
 |0=>rfl
 |k+1=>by unfold Bb;rw[h];rfl
theorem Hg{s:Spc}{a:AA}(h:¬AT s.files a=false)(k:Nat):Bb s (k+1) a=a::(match Ee s a with
    |none=>[]
    |some b=>Bb s k b):=by
 conv=>lhs;unfold Bb
 rw[if_pos (by simpa using h)];cases Ee s a<;>rfl
theorem RL{s:Spc}(hv:SpcV s):∀(k k':Nat) (a:AA),ends s k a→ends s k' a→Bb s k a=Bb s k' a:=by
 intro k
 induction k with
 |zero=>intro k' a h _;rw[Kl h,Kl h]
 |succ k ih=>
   intro k' a h h';by_cases hd:AT s.files a=false
   ·rw[Kl hd,Kl hd]
   cases k' with
   |zero=>exact absurd h' hd
   |succ k'=>
     rw[Hg hd,Hg hd];have h1:=h.resolve_left hd;have h2:=h'.resolve_left hd;rw[←Lf hv hd]at h1 h2
     cases hs:Ee s a with
     |none=>rfl
     |some b=>simp only;rw[ih k' b (h1 b hs) (h2 b hs)]
theorem RM{s:Spc}(hv:SpcV s):∀(k:Nat) (a x:AA),ends s k a→x∈Bb s k a→(¬AT s.files x=false)∧∃j,ends s j x∧(Bb s j x).length≤(Bb s k a).length:=by
 intro k
 induction k with
 |zero=>intro a x h hx;cases hx
 |succ k ih=>
   intro a x h hx;by_cases hd:AT s.files a=false
   ·rw[Kl hd]at hx;cases hx
   have h1:=h.resolve_left hd;rw[←Lf hv hd]at h1;rw[Hg hd]at hx;rcases List.mem_cons.1 hx with rfl|hx
   ·exact⟨hd,k+1,h,BA _⟩
   rw[Hg hd]
   cases hs:Ee s a with
   |none=>rw[hs]at hx;cases hx
   |some b=>
     rw[hs]at hx;obtain⟨h2,j,h3,h4⟩:=ih b x (h1 b hs) hx;exact⟨h2,j,h3,by simp;omega⟩
theorem V1{s:Spc}(hv:SpcV s):∀(k:Nat) (a:AA),ends s k a→(Bb s k a).Nodup:=by
 intro k
 induction k with
 |zero=>intro a h;exact List.nodup_nil
 |succ k ih=>
   intro a h;by_cases hd:AT s.files a=false
   ·rw[Kl hd];exact List.nodup_nil
   have h1:=h.resolve_left hd;rw[←Lf hv hd]at h1
   cases hs:Ee s a with
   |none=>rw[Hg hd,hs];simp
   |some b=>
     have e:Bb s (k+1) a=a::Bb s k b:=by rw[Hg hd,hs]
     rw[e,List.nodup_cons];refine⟨fun hm=>?_,ih b (h1 b hs)⟩;obtain⟨_,j,h3,h4⟩:=RM hv k b a (h1 b hs) hm;rw[RL hv j (k+1) a h3 h,e]at h4;simp at h4;omega
def Lg:Nat→AU→List AA
 |_,[]=>[]
 |q,d::ds=>d.nodes.map (fun n=>((q:Int),n.ino))++Lg (q+1) ds
theorem V2:∀(f:AU) (q:Nat),(Lg q f).length=Bk f
 |[],_=>rfl
 |d::ds,q=>by
   have:=V2 ds (q+1);unfold Bk at this ⊢;simp only[Lg,List.length_append,List.length_map,List.map_cons,List.sum_cons];omega
theorem V3:∀(f:AU) (q i:Nat) (d:Dvc) (m:Nod),f[i]?=some d→m∈d.nodes→(((q+i:Nat):Int),m.ino)∈Lg q f
 |[],_,i,_,_,h,_=>by simp at h
 |d0::ds,q,0,d,m,h,hm=>by
   simp only[List.getElem?_cons_zero,Option.some.injEq]at h;subst h;simp only[Lg,Nat.add_zero];exact List.mem_append_left _ (List.mem_map.2 ⟨m,hm,rfl⟩)
 |d0::ds,q,i+1,d,m,h,hm=>by
   simp only[List.getElem?_cons_succ]at h;have:=V3 ds (q+1) i d m h hm;simp only[Lg];refine List.mem_append_right _ ?_
   rwa [show q+(i+1)=q+1+i by omega]
theorem cK{l:List AA}(hn:l.Nodup):∀{m:List AA},(∀x∈l,x∈m)→l.length≤m.length:=by
 induction l with
 |nil=>intro m _;simp
 |cons x xs ih=>
   intro m h;rw[List.nodup_cons]at hn
   have h1:=ih hn.2 (m:=m.erase x) fun y hy=>by
    have hne:y≠x:=fun e=>hn.1 (e ▸ hy);exact(List.mem_erase_of_ne hne).2 (h y (List.mem_cons_of_mem _ hy))
   have h2:=List.length_erase_of_mem (h x (List.mem_cons_self ..));have h3:0<m.length:=List.length_pos_of_mem (h x (List.mem_cons_self ..));simp only[List.length_cons];omega
theorem cL{s:Spc}(hv:SpcV s){k:Nat}{a:AA}(h:ends s k a):(Bb s k a).length≤Bk s.files:=by
 rw[←V2 s.files 0];refine cK (V1 hv k a h) fun x hx=>?_;obtain⟨hd,_⟩:=RM hv k a x h hx;obtain⟨q,d,m,h1,h2,h3,h4,_⟩:=Gu hd;have:=V3 s.files 0 q d m h2 h3;rw[Nat.zero_add,h4,←h1]at this;exact this
theorem cM{s:Spc}(hv:SpcV s):∀(k m:Nat) (a:AA),ends s k a→(Bb s k a).length≤m→ends s m a:=by
 intro k
 induction k with
 |zero=>
   intro m a h _
   cases m with
   |zero=>exact h
   |succ m=>exact .inl h
 |succ k ih=>
   intro m a h hl;by_cases hd:AT s.files a=false
   ·cases m with
    |zero=>exact hd
    |succ m=>exact .inl hd
   have h1:=h.resolve_left hd;rw[Hg hd]at hl
   cases m with
   |zero=>simp at hl
   |succ m=>
     refine .inr fun b hb=>?_;have hb':=hb;rw[←Lf hv hd]at hb';rw[hb']at hl;exact ih m b (h1 b hb) (by simpa using hl)
theorem J4{s:Spc}(hv:SpcV s)(a:AA):ends s (Bk s.files) a:=by
 obtain⟨k,hk⟩:=cJ hv (K9 s a.1+1) a (Nat.lt_succ_self _);exact cM hv k _ a hk (cL hv hk)
end Go.Proofs.YtbglbmnhgbgelaaGreatDoor
namespace Go.Proofs.YtbglbmnhgbgelaaGreatDoor
theorem cO{s:Spc}(hv:SpcV s):∀(k:Nat) (a x:AA),ends s k a→x∈Bb s k a→∃j,ends s j x∧Bb s j x<:+Bb s k a:=by
 intro k
 induction k with
 |zero=>intro a x h hx;cases hx
 |succ k ih=>
   intro a x h hx;by_cases hd:AT s.files a=false
   ·rw[Kl hd]at hx;cases hx
   have h1:=h.resolve_left hd;rw[←Lf hv hd]at h1;rw[Hg hd]at hx;rcases List.mem_cons.1 hx with rfl|hx
   ·exact⟨k+1,h,List.suffix_refl _⟩
   rw[Hg hd]
   cases hs:Ee s a with
   |none=>rw[hs]at hx;cases hx
   |some b=>
     rw[hs]at hx;obtain⟨j,h3,h4⟩:=ih b x (h1 b hs) hx;exact⟨j,h3,h4.trans (List.suffix_cons _ _)⟩
section
variable {s:Spc}(hv:SpcV s)
include hv
theorem cQ{a b:AA}(h:a∈Bb s (Bk s.files) b):Bb s (Bk s.files) a<:+Bb s (Bk s.files) b:=by
 obtain⟨j,h1,h2⟩:=cO hv _ b a (J4 hv b) h
 rwa [RL hv j (Bk s.files) a h1 (J4 hv a)]at h2
theorem Ow{a:AA}(h:AT s.files a=true):∃t,Bb s (Bk s.files) a=a::t:=by
 have hd:¬AT s.files a=false:=by rw[h];simp
 have:=J4 hv a
 cases hm:Bk s.files with
 |zero=>rw[hm]at this;exact absurd this hd
 |succ m=>exact⟨_,Hg hd m⟩
theorem cR{a b:AA}(h:a∈Bb s (Bk s.files) b):AT s.files a=true:=by
 have:=(RM hv _ b a (J4 hv b) h).1
 simpa using this
end
end Go.Proofs.YtbglbmnhgbgelaaGreatDoor
namespace Go.Proofs.YtbglbmnhgbgelaaGreatDoor
open Go.RowKit Go.Shelf
section
variable {F:Fence}{n:Nat}{P:Program}
theorem cT{α:Type}{g:Operand}{ps:Array Tmp}{assign body:Code}{Q:Exit→Act→World→Prop}{a:Act}{w:World}
    (hro:F.round=none) (h1:1≤n) {gf:Nat} {lb:Array Value} (hg:a.eval g= .func (.func gf) #[] lb) (hFg:F.fn gf) (eg:∀args w,(callFunc gf args).run P w= .ok (.enter gf args) w)
    {encs:α→Array Value} {own:Nat→Prop} {Kp:World→World→Prop} {Pf:List α→Prop} {S Sp:List α→Prop} {w0:World} (hseq:SeqW F (n - 1) P gf lb encs own Kp Pf S Sp w0)
    (hown:∀b,own b→b<w.heap.size) (hKt:∀{A B C:World},Kp A B→Kp B C→Kp A C) (hKb:∀(W:World) (l:Nat) (o o':Obj),w.heap.size≤l→W.heap[l]?=some o→o.isCells=false→Kp W (W.putObj l o'))
    (hb0:Below w0.heap.size w0 w) (hps:∀x,(encs x).size=ps.size)
    (I:List α→World→Prop) (Ix:Code→List α→World→Prop) (hI:∀s X Y,I s X→Moves own w.heap.size X Y→I s Y) (hIx:∀c s X Y,Ix c s X→Moves own w.heap.size X Y→Ix c s Y) (h0:I [] w) (a₁:α→World→Act) (w₁:α→World→World) (hw1:∀x W,w.heap.size+2≤W.heap.size→Below W.heap.size W (w₁ x W)∧Kp W (w₁ x W))
    (hassign:∀(l:Nat) (x:α) (W:World) (K:Act→World→Prop),w.heap.size+2≤W.heap.size→K (a₁ x W) (w₁ x W)→
      assign.wpIn (F.inRound l) (n - 1 - 1) P (Exit.then K (fun _ _ _=>False)) {tmps:=(ps.zip (encs x)).foldl (fun t (p,v)=>t.setIfInBounds p v) a.tmps,defers:=[]} W)
    (hbody:∀(l:Nat) (pre:List α) (x:α) (W0 W:World),I pre W→Pf (pre++[x])→w.heap.size+2≤W0.heap.size→(w₁ x W0).heap.size≤W.heap.size→(∀(k:Nat) (o:Obj),(w₁ x W0).heap[k]?=some o→o.isCells=true→W.heap[k]?=some o)→w.heap.size≤l→(∃r,W.heap[l]?=some (.loop r))→
      body.wpIn (F.inRound l) (n - 1 - 1) P (ownPostG w.heap.size Kp I Ix (pre++[x]) W) (a₁ x W0) W)
    (hdone:∀(D:Nat) (xs:List α) (W:World),w.heap.size≤D→S xs→I xs W→W.heap[D]?=some (.deferred (some []))→Q .normal {a with defers:={target:= .collected D,args:=#[]}::a.defers} W)
    (hstop:∀(D:Nat) (c:Code) (pre:List α) (W:World),w.heap.size≤D→Sp pre→Ix c pre W→W.heap[D]?=some (.deferred (some []))→c.wpIn F n P Q {a with defers:={target:= .collected D,args:=#[]}::a.defers} W):
    (Code.rangeFunc g ps assign body).wpIn F n P Q a w:=by
 refine wpIn_rangeFunc ?_;intro fn hfn;rw[hro];obtain⟨rec,hrec⟩:∃rec:LoopState→Option Code→Loop,rec=fun st pe=>{state:=st,pending:=pe,fn,tmps:=a.tmps,params:=ps,assign,body,defers:=w.heap.size}:=⟨_,rfl⟩;obtain⟨W1,hW1⟩:∃W1,(w.alloc (.deferred (some []))).alloc (.loop (rec .ready none))=W1:=⟨_,rfl⟩;have hbw:Below w.heap.size w W1:=by rw[←hW1];exact JT w _ _
 have hsz:W1.heap.size=w.heap.size+2:=by rw[←hW1];simp
 have hL1:W1.heap[w.heap.size+1]?=some (.loop (rec .ready none)):=by rw[←hW1];exact Jz _ _ _
 have hK1:W1.heap[w.heap.size]?=some (.deferred (some [])):=by rw[←hW1];exact Jy _ _ _
 have hn0:¬own w.heap.size:=fun h=>by have:=hown _ h;omega
 have hn1:¬own (w.heap.size+1):=fun h=>by have:=hown _ h;omega
 refine⟨w.heap.size+1,[{target:= .collected w.heap.size,args:=#[]}],W1,{target:= .fn (.func gf) lb,args:=#[.func (.yield (w.heap.size+1)) #[] #[]]},W1,gf,
  #[.func (.yield (w.heap.size+1)) #[] #[]]++lb,W1,?_,?_,?_,?_,fun _=>h1,?_⟩
 ·rw[←hW1,hrec];exact run_enterLoop_outer _ _ _ _ _
 ·simp only[resolve,hg];simp[go_sem]
 ·intro f' hf';simp[Target.leads]at hf';subst hf';exact hFg
 ·simp[invoke,go_sem,eg]
 have lt_of:∀{W:World} {k:Nat} {o:Obj},W.heap[k]?=some o→k<W.heap.size:=fun h=>(Array.getElem?_eq_some_iff.1 h).1;have keep:∀{X Y:World} {k:Nat} {o:Obj},Moves own W1.heap.size X Y→X.heap[k]?=some o→k<W1.heap.size→¬own k→Y.heap[k]?=some o:=fun hm hx hk hn=>(hm.block _ (lt_of hx) hn (.inl hk)).trans hx
 refine(hseq (w.heap.size+1)
  (fun pre W=>I pre W∧W.heap[w.heap.size+1]?=some (.loop (rec .ready none))∧W.heap[w.heap.size]?=some (.deferred (some [])))
  (fun pre W=>∃c,Ix c pre W∧W.heap[w.heap.size+1]?=some (.loop (rec .done (some c)))∧W.heap[w.heap.size]?=some (.deferred (some [])))
  W1 (hb0.trans (hbw.mono hb0.size))
  (fun s X Y hs hm=>⟨hI s X Y hs.1 (hm.mono (by omega)),keep hm hs.2.1 (by omega) hn1,keep hm hs.2.2 (by omega) hn0⟩)
  (fun s X Y hs hm=>by
    obtain⟨c,hc,hl,hk⟩:=hs
    exact⟨c,hIx c s X Y hc (hm.mono (by omega)),keep hm hl (by omega) hn1,keep hm hk (by omega) hn0⟩)
  ?_ ⟨hI _ _ _ h0 (.below hbw),hL1,hK1⟩).mono ?_
 ·rintro pre x W0 ⟨hi0,hl0,hk0⟩ hpf;have hlt0:w.heap.size+1<W0.heap.size:=lt_of hl0;obtain⟨hbV,hkV⟩:=hw1 x W0 hlt0;obtain⟨W,hWe⟩:∃W,w₁ x W0=W:=⟨_,rfl⟩;rw[hWe]at hbV hkV;have hi:I pre W:=hI _ _ _ hi0 (.below hbV);have hl:=(hbV.block _ (by omega)).trans hl0;have hk:=(hbV.block _ (by omega)).trans hk0;have hlt:w.heap.size+1<W.heap.size:=lt_of hl;have hy:=run_yield (P:=P) (args:=encs x) hl0 (by rw[hrec];exact hps x);rw[hrec]at hy;refine⟨fn,_,assign,body,hy,roundIn_of_wpIn hfn (hassign _ x W0 _ hlt0 ⟨_,run_beginRound (by rw[hWe];exact hl) (by rw[hrec]),?_⟩)⟩;rw[hWe];have hl2:(W.putObj (w.heap.size+1) (.loop {rec .ready none with state:= .busy})).heap[w.heap.size+1]?=some (.loop {rec .ready none with state:= .busy}):=World.putObj_heap_same hlt;have hk2:(W.putObj (w.heap.size+1) (.loop {rec .ready none with state:= .busy})).heap[w.heap.size]?=some (.deferred (some [])):=(World.putObj_heap_other (by omega)).trans hk;have hw2:Kp W0 (W.putObj (w.heap.size+1) (.loop {rec .ready none with state:= .busy})):=hKt hkV (hKb _ _ _ _ (by omega) hl rfl)
  refine wpIn_mono (hbody _ pre x W0 _ (hI _ _ _ hi (.put_ _ hl rfl (by omega))) hpf hlt0 (by rw[hWe];exact(grownBy_putObj' W (w.heap.size+1) _).size) (fun k o hko hoc=>by
   rw[hWe]at hko;refine(World.putObj_heap_other fun e=>?_).trans hko;subst e;rw[hl]at hko;injection hko with hko;subst hko
   cases hoc) (by omega) ⟨_,hl2⟩) ?_
  have fin:∀(jump:Option Code) (W3:World),KeepsFrom w.heap.size (W.putObj (w.heap.size+1) (.loop {rec .ready none with state:= .busy})) W3→
      (Instr.endRound (w.heap.size+1) jump).run P W3= .ok (.bool jump.isNone) (W3.putObj (w.heap.size+1) (.loop (rec (if jump.isNone then .ready else .done) jump)))∧
      W3.heap[w.heap.size+1]?=some (.loop {rec .ready none with state:= .busy})∧
      (W3.putObj (w.heap.size+1) (.loop (rec (if jump.isNone then .ready else .done) jump))).heap[w.heap.size+1]?=some (.loop (rec (if jump.isNone then .ready else .done) jump))∧
      (W3.putObj (w.heap.size+1) (.loop (rec (if jump.isNone then .ready else .done) jump))).heap[w.heap.size]?=some (.deferred (some [])):=fun jump W3 hk3=>by
   have hl3:=hk3.same _ _ (by omega) hl2 rfl;have:=run_endRound (P:=P) jump hl3;rw[hrec]at this ⊢;exact⟨this,by rw[hrec]at hl3;exact hl3,World.putObj_heap_same (lt_of hl3),(World.putObj_heap_other (by omega)).trans (hk3.same _ _ (BA _) hk2 rfl)⟩
  rintro e a3 W3 hp
  cases e with
  |normal=>
    obtain⟨hk3,hkp3,hi3⟩:=hp;obtain⟨hr,hl3,hl4,hk4⟩:=fin none W3 hk3;exact⟨_,_,hr, .inl ⟨rfl,⟨hI _ _ _ hi3 (.put_ _ hl3 rfl (by omega)),hl4,hk4⟩,hKt (hKt hw2 hkp3) (hKb _ _ _ _ (by omega) hl3 rfl)⟩⟩
  |ret=>
    obtain⟨hk3,hi3⟩:=hp;obtain⟨hr,hl3,hl4,hk4⟩:=fin (some .ret) W3 hk3;exact⟨_,_,hr, .inr ⟨rfl, .ret,hIx _ _ _ _ hi3 (.put_ _ hl3 rfl (by omega)),hl4,hk4⟩⟩
  |exit id=>
    obtain⟨hk3,hi3⟩:=hp;obtain⟨hr,hl3,hl4,hk4⟩:=fin (some (.exit id)) W3 hk3;exact⟨_,_,hr, .inr ⟨rfl, .exit id,hIx _ _ _ _ hi3 (.put_ _ hl3 rfl (by omega)),hl4,hk4⟩⟩
  |goto t=>
    obtain⟨hk3,hi3⟩:=hp;obtain⟨hr,hl3,hl4,hk4⟩:=fin (some (.goto t)) W3 hk3;exact⟨_,_,hr, .inr ⟨rfl, .goto t,hIx _ _ _ _ hi3 (.put_ _ hl3 rfl (by omega)),hl4,hk4⟩⟩
  |panic ch=>exact hp.elim
  |outgrown=>exact hp.elim
 rintro e W2 ⟨⟨v,rfl⟩,(⟨xs,hS,hi,hl,hk⟩|⟨pre,hSp,c,hi,hl,hk⟩)⟩
 ·exact⟨none,_,by have:=run_endLoop (P:=P) hl (by rw[hrec];simp);rw[hrec]at this;exact this,hdone _ xs _ (BA _) hS (hI _ _ _ hi (.put_ _ hl rfl (by omega))) ((World.putObj_heap_other (by omega)).trans hk)⟩
 exact⟨some c,_,by have:=run_endLoop (P:=P) hl (by rw[hrec];simp);rw[hrec]at this;exact this,hstop _ c pre _ (BA _) hSp (hIx _ _ _ _ hi (.put_ _ hl rfl (by omega))) ((World.putObj_heap_other (by omega)).trans hk)⟩
end
theorem C4{W:World}{k:Nat}{o:Obj}(h:W.heap[k]?=some o):k<W.heap.size:=(Array.getElem?_eq_some_iff.1 h).1
attribute [local go_sem] Oper.semAt_some
end Go.Proofs.YtbglbmnhgbgelaaGreatDoor
namespace Go.Proofs.YtbglbmnhgbgelaaGreatDoor
open Go.RowKit Go.Shelf
attribute [local go_sem] Oper.semAt_some
end Go.Proofs.YtbglbmnhgbgelaaGreatDoor
namespace Go.Proofs.YtbglbmnhgbgelaaGreatDoor
open Go.RowKit
def Fa(s:Spc)(a:AA):Nod:=Ah s.files (a.1,(Ah s.files a).parent)
def CH(s:Spc)(a:AA):AD:=(((Fa s a).entries.find? fun e:BF=>decide (e.2=a.2)).map (·.1)).getD ⟨#[]⟩
section
theorem cU(s:Spc)(a:AA)(hs:SpcB s):AFn prog 180 [.agg (Ao s), .agg (AE a)] (fun r=>r= .v (.string (CH s a))):=by
 have hen:=Mb hs.files (a.1,(Ah s.files a).parent);change (Fa s a).entries.length≤1000 at hen;refine enter Tryz.func180 rfl rfl rfl rfl rfl 0 rfl ?_;refine w_ (b_ (h:=b_ (h:=a_ (h:=e_ (w_ (f_ (h:=l_ (h:=l_ (h:=?_)))))))));refine A6 rfl (AK (Hw s.files a hs.files) ?_);rintro r rfl
 skip
 refine m_ (h:=x_ (h:=x_ (h:=AZ (h:=s_ (h:=a_ (h:=e_ (w_ (f_ (h:=l_ (h:=f_ (h:=l_ (h:=f_ (h:=l_ (h:=AX (h:=?_)))))))))))))));refine A6 rfl (AK (Hw s.files (a.1,(Ah s.files a).parent) hs.files) ?_);rintro r rfl
 skip
 refine m_ (h:=x_ (h:=x_ (h:=AZ (h:=s_ (h:=a_ (h:=e_ (q_ (w_ (f_ (h:=l_ (h:=n_ (h:=m_ (h:=e_ (Av (?_)))))))))))))));refine Bq (fun m t=>∃j:Nat,j≤(Fa s a).entries.length∧m=(Fa s a).entries.length - j∧(∀i y,i<j→(Fa s a).entries[i]?=some y→decide (y.2=a.2)=false)∧t=⟨look [(3, .bp 1 0),(30, .sl 2 ((Fa s a).entries.map Cf) none),(31, .v (.int .i64 (((Fa s a).entries.map Cf).length:Int))),(32, .v (.int .i64 (j:Int)))],⟨[Ao s,AE a],[]⟩⟩) ((Fa s a).entries.length) ((wk 2 0)) (⟨0,by omega,rfl,fun i y hi=>by omega,rfl⟩) ?_;rintro m t ⟨j,hj,rfl,ha,rfl⟩;refine w_ (BS (h:=e_ (q_ (?_))));refine A8 rfl (fun hb1=>?_) (fun hb1=>?_)
 ·have hc1:=bp hb1;obtain⟨hlt,x,hy,hrow, -⟩:=Cu Cf hc1;refine AN (q_ (Av (w_ (i_ (h:=l_ (h:=AZ (h:=s_ (h:=e_ (w_ (f_ (h:=l_ (h:=f_ (h:=l_ (h:=AR (h:=e_ (?_))))))))))))))));refine A8 rfl (fun hb2=>?_) (fun hb2=>?_)
  ·have hc2:=bp hb2;refine w_ (f_ (h:=l_ (h:=a_ (h:=e_ (A4 (AY (A7 (A7 (AY (A7 (?_)))))))))));refine AJ ?_;rw[show CH s a=x.1 by simp only[CH];rw[Hu hy (by simpa using hc2) ha];rfl];rfl
  have hc2:=bp hb2;refine BM (B8 (t_ (AQ (BH (h:=m_ (h:=AP (?_)))))));refine AF ?_;refine⟨_,_,?_,⟨j+1,by omega,rfl,EP hy ha (by simpa using hc2),rfl⟩,(wk 2 0)⟩;omega
 have hc1:=bp hb1;have e3:=D0 Cf hj hc1;subst e3;refine BX (Aw (Aw (BY (t_ (w_ (a_ (h:=e_ (A4 (?_)))))))));refine AJ ?_;rw[show CH s a=⟨#[]⟩ by simp only[CH];rw[Hv ha];rfl];rfl
end
end Go.Proofs.YtbglbmnhgbgelaaGreatDoor
namespace Go.Proofs.YtbglbmnhgbgelaaGreatDoor
open Go.RowKit Go.Shelf
section
variable {F:Fence}{n:Nat}{P:Program}
theorem cV{α:Type}{g:Operand}{ps:Array Tmp}{assign body:Code}{Q:Exit→Act→World→Prop}{a:Act}{w:World}
    {l₀:Nat} {r₀:Loop} (hro:F.round=some l₀) (hl₀:w.heap[l₀]?=some (.loop r₀)) (h1:1≤n) {gf:Nat} {lb:Array Value} (hg:a.eval g= .func (.func gf) #[] lb) (hFg:F.fn gf) (eg:∀args w,(callFunc gf args).run P w= .ok (.enter gf args) w)
    {encs:α→Array Value} {own:Nat→Prop} {Kp:World→World→Prop} {Pf:List α→Prop} {S Sp:List α→Prop} {w0:World} (hseq:SeqW F (n - 1) P gf lb encs own Kp Pf S Sp w0)
    (hown:∀b,own b→b<w.heap.size) (hKt:∀{A B C:World},Kp A B→Kp B C→Kp A C) (hKb:∀(W:World) (l:Nat) (o o':Obj),w.heap.size≤l→W.heap[l]?=some o→o.isCells=false→Kp W (W.putObj l o'))
    (hb0:Below w0.heap.size w0 w) (hps:∀x,(encs x).size=ps.size)
    (I:List α→World→Prop) (Ix:Code→List α→World→Prop) (hI:∀s X Y,I s X→Moves own w.heap.size X Y→I s Y) (hIx:∀c s X Y,Ix c s X→Moves own w.heap.size X Y→Ix c s Y) (h0:I [] w) (a₁:α→Act)
    (hassign:∀(l:Nat) (x:α) (W:World) (K:Act→World→Prop),K (a₁ x) W→
      assign.wpIn (F.inRound l) (n - 1 - 1) P (Exit.then K (fun _ _ _=>False)) {tmps:=(ps.zip (encs x)).foldl (fun t (p,v)=>t.setIfInBounds p v) a.tmps,defers:=[]} W)
    (hbody:∀(l:Nat) (pre:List α) (x:α) (W:World),I pre W→Pf (pre++[x])→w.heap.size+1≤W.heap.size→body.wpIn (F.inRound l) (n - 1 - 1) P (ownPostG w.heap.size Kp I Ix (pre++[x]) W) (a₁ x) W)
    (hdone:∀(xs:List α) (W:World),S xs→I xs W→Q .normal a W)
    (hstop:∀(c:Code) (pre:List α) (W:World),Sp pre→Ix c pre W→c.wpIn F n P Q a W):
    (Code.rangeFunc g ps assign body).wpIn F n P Q a w:=by
 refine wpIn_rangeFunc ?_;intro fn hfn;rw[hro];obtain⟨rec,hrec⟩:∃rec:LoopState→Option Code→Loop,rec=fun st pe=>{state:=st,pending:=pe,fn,tmps:=a.tmps,params:=ps,assign,body,defers:=r₀.defers}:=⟨_,rfl⟩;obtain⟨W1,hW1⟩:∃W1,w.alloc (.loop (rec .ready none))=W1:=⟨_,rfl⟩;have hbw:Below w.heap.size w W1:=by rw[←hW1];exact Gq w _
 have hsz:W1.heap.size=w.heap.size+1:=by rw[←hW1];simp
 have hL1:W1.heap[w.heap.size]?=some (.loop (rec .ready none)):=by rw[←hW1];exact Jw _ _
 have hn1:¬own w.heap.size:=fun h=>by have:=hown _ h;omega
 refine⟨w.heap.size,[],W1,{target:= .fn (.func gf) lb,args:=#[.func (.yield w.heap.size) #[] #[]]},W1,gf,
  #[.func (.yield w.heap.size) #[] #[]]++lb,W1,?_,?_,?_,?_,fun _=>h1,?_⟩
 ·rw[←hW1,hrec];exact run_enterLoop_inner hl₀ _ _ _ _ _
 ·simp only[resolve,hg];simp[go_sem]
 ·intro f' hf';simp[Target.leads]at hf';subst hf';exact hFg
 ·simp[invoke,go_sem,eg]
 have lt_of:∀{W:World} {k:Nat} {o:Obj},W.heap[k]?=some o→k<W.heap.size:=fun h=>(Array.getElem?_eq_some_iff.1 h).1;have keep:∀{X Y:World} {k:Nat} {o:Obj},Moves own W1.heap.size X Y→X.heap[k]?=some o→k<W1.heap.size→¬own k→Y.heap[k]?=some o:=fun hm hx hk hn=>(hm.block _ (lt_of hx) hn (.inl hk)).trans hx
 refine(hseq w.heap.size
  (fun pre W=>I pre W∧W.heap[w.heap.size]?=some (.loop (rec .ready none)))
  (fun pre W=>∃c,Ix c pre W∧W.heap[w.heap.size]?=some (.loop (rec .done (some c))))
  W1 (hb0.trans (hbw.mono hb0.size))
  (fun s X Y hs hm=>⟨hI s X Y hs.1 (hm.mono (by omega)),keep hm hs.2 (by omega) hn1⟩)
  (fun s X Y hs hm=>by
    obtain⟨c,hc,hl⟩:=hs
    exact⟨c,hIx c s X Y hc (hm.mono (by omega)),keep hm hl (by omega) hn1⟩)
  ?_ ⟨hI _ _ _ h0 (.below hbw),hL1⟩).mono ?_
 ·rintro pre x W ⟨hi,hl⟩ hpf;have hlt:w.heap.size<W.heap.size:=lt_of hl;have hy:=run_yield (P:=P) (args:=encs x) hl (by rw[hrec];exact hps x);rw[hrec]at hy;refine⟨fn,_,assign,body,hy,roundIn_of_wpIn hfn (hassign _ x W _ ⟨_,run_beginRound hl (by rw[hrec]),?_⟩)⟩;have hl2:(W.putObj w.heap.size (.loop {rec .ready none with state:= .busy})).heap[w.heap.size]?=some (.loop {rec .ready none with state:= .busy}):=World.putObj_heap_same hlt;have hw2:Kp W (W.putObj w.heap.size (.loop {rec .ready none with state:= .busy})):=hKb _ _ _ _ (by omega) hl rfl;refine wpIn_mono (hbody _ pre x _ (hI _ _ _ hi (.put_ _ hl rfl (by omega))) hpf (lt_of hl2)) ?_
  have fin:∀(jump:Option Code) (W3:World),KeepsFrom w.heap.size (W.putObj w.heap.size (.loop {rec .ready none with state:= .busy})) W3→
      (Instr.endRound w.heap.size jump).run P W3= .ok (.bool jump.isNone) (W3.putObj w.heap.size (.loop (rec (if jump.isNone then .ready else .done) jump)))∧
      W3.heap[w.heap.size]?=some (.loop {rec .ready none with state:= .busy})∧
      (W3.putObj w.heap.size (.loop (rec (if jump.isNone then .ready else .done) jump))).heap[w.heap.size]?=some (.loop (rec (if jump.isNone then .ready else .done) jump)):=fun jump W3 hk3=>by
   have hl3:=hk3.same _ _ (by omega) hl2 rfl;have:=run_endRound (P:=P) jump hl3;rw[hrec]at this ⊢;exact⟨this,by rw[hrec]at hl3;exact hl3,World.putObj_heap_same (lt_of hl3)⟩
  rintro e a3 W3 hp
  cases e with
  |normal=>
    obtain⟨hk3,hkp3,hi3⟩:=hp;obtain⟨hr,hl3,hl4⟩:=fin none W3 hk3;exact⟨_,_,hr, .inl ⟨rfl,⟨hI _ _ _ hi3 (.put_ _ hl3 rfl (by omega)),hl4⟩,hKt (hKt hw2 hkp3) (hKb _ _ _ _ (by omega) hl3 rfl)⟩⟩
  |ret=>
    obtain⟨hk3,hi3⟩:=hp;obtain⟨hr,hl3,hl4⟩:=fin (some .ret) W3 hk3;exact⟨_,_,hr, .inr ⟨rfl, .ret,hIx _ _ _ _ hi3 (.put_ _ hl3 rfl (by omega)),hl4⟩⟩
  |exit id=>
    obtain⟨hk3,hi3⟩:=hp;obtain⟨hr,hl3,hl4⟩:=fin (some (.exit id)) W3 hk3;exact⟨_,_,hr, .inr ⟨rfl, .exit id,hIx _ _ _ _ hi3 (.put_ _ hl3 rfl (by omega)),hl4⟩⟩
  |goto t=>
    obtain⟨hk3,hi3⟩:=hp;obtain⟨hr,hl3,hl4⟩:=fin (some (.goto t)) W3 hk3;exact⟨_,_,hr, .inr ⟨rfl, .goto t,hIx _ _ _ _ hi3 (.put_ _ hl3 rfl (by omega)),hl4⟩⟩
  |panic ch=>exact hp.elim
  |outgrown=>exact hp.elim
 rintro e W2 ⟨⟨v,rfl⟩,(⟨xs,hS,hi,hl⟩|⟨pre,hSp,c,hi,hl⟩)⟩
 ·exact⟨none,_,by have:=run_endLoop (P:=P) hl (by rw[hrec];simp);rw[hrec]at this;exact this,hdone xs _ hS (hI _ _ _ hi (.put_ _ hl rfl (by omega)))⟩
 exact⟨some c,_,by have:=run_endLoop (P:=P) hl (by rw[hrec];simp);rw[hrec]at this;exact this,hstop c pre _ hSp (hIx _ _ _ _ hi (.put_ _ hl rfl (by omega)))⟩
end
theorem cW(l:Bs):Lib.hasSuffix l [47]=decide (l.getLast?=some 47):=by
 unfold Lib.hasSuffix;rw[Bool.eq_iff_iff,List.isSuffixOf_iff_suffix,decide_eq_true_iff];rcases List.eq_nil_or_concat l with rfl|⟨a,x,rfl⟩
 ·simp
 simp only[List.concat_eq_append,List.getLast?_concat,Option.some.injEq];constructor
 ·rintro⟨t,ht⟩;have:=congrArg List.getLast? ht
  simpa[eq_comm]using this
 rintro rfl;exact⟨a,rfl⟩
def DX(d m:AD):AD:=if d.data.toList.getLast?=some 47 then d++m else d++⟨#[47]⟩++m
set_option maxHeartbeats 400000 in
theorem V4(d m:AD)(w:World)(hd:d.size≤1000000)(hm:m.size≤1000000):
    Calls prog 138 #[.string d, .string m] w fun e w'=>e= .returned (.string (DX d m))∧w'=w:=by
 have HL:=Lib.hid (cW d.data.toList);by_cases h:d.data.toList.getLast?=some 47
 ·have HJ:Hid (DX d m=d++m):=Lib.hid (if_pos h);have HD:Hid (decide (d.data.toList.getLast?=some 47)=true):=Lib.hid (decide_eq_true h);clear h
  go_enter Tryz.func138,Tryz.ntmps138
  go_wp2_with fail
  refine(Tryz.strings_HasSuffix _ _ _ (by omega)).mono ?_;rintro e w' ⟨rfl,rfl⟩;rw[show({data:=#[47]}:ByteArray).data.toList=[47] from rfl,HL.out,HD.out]
  go_wp2
  go_ret
  exact⟨by rw[HJ.out];rfl,rfl⟩
 have HJ:Hid (DX d m=d++⟨#[47]⟩++m):=Lib.hid (if_neg h);have HD:Hid (decide (d.data.toList.getLast?=some 47)=false):=Lib.hid (decide_eq_false h);clear h
 go_enter Tryz.func138,Tryz.ntmps138
 go_wp2_with fail
 refine(Tryz.strings_HasSuffix _ _ _ (by omega)).mono ?_;rintro e w' ⟨rfl,rfl⟩;rw[show({data:=#[47]}:ByteArray).data.toList=[47] from rfl,HL.out,HD.out]
 go_wp2
 go_ret
 exact⟨by rw[HJ.out];rfl,rfl⟩
end Go.Proofs.YtbglbmnhgbgelaaGreatDoor
namespace Go.Proofs.YtbglbmnhgbgelaaGreatDoor
open Go.RowKit Go.Shelf
attribute [local go_sem] Oper.semAt_some
theorem SeqW.inRound{α:Type}{F:Fence}{n:Nat}{P:Program}{g:Nat}{lb:Array Value}{encs:α→Array Value}{own:Nat→Prop}{Kp:World→World→Prop}{Pf:List α→Prop}{S Sp:List α→Prop}{w:World}(l:Nat)(h:SeqW F n P g lb encs own Kp Pf S Sp w):SeqW (F.inRound l) n P g lb encs own Kp Pf S Sp w:=h
theorem cY(A:Option Addr)(m c:Nat)(w:World):
    Calls prog 179 #[.slice A m c] w fun e w'=>
     e= .returned (.func (.func 196) #[] #[.pointer (some ⟨w.heap.size,0,none⟩)])∧w'=w.alloc (.cells #[.slice A m c] 63):=by
 go_enter Tryz.func179,Tryz.ntmps179
 go_wp2
 go_ret
 exact⟨rfl,rfl⟩
def NamesIn(w:World)(A:Option Addr)(m c:Nat)(ns:List AD)(g:Nat):Prop:=
 ns.length=m∧m≤c∧(ns=[]∨A=some ⟨g,0,none⟩∧∀i x,ns[i]?=some x→w.cell? ⟨g,i,none⟩=some (.string x))
theorem NamesIn.keep{w w':World}{A:Option Addr}{m c:Nat}{ns:List AD}{g:Nat}(h:NamesIn w A m c ns g)(hg:w'.heap[g]?=w.heap[g]?):NamesIn w' A m c ns g:=
 ⟨h.1,h.2.1,h.2.2.imp id fun h=>⟨h.1,fun i x hx=>(World.cell?_of_block (w:=w) (w':=w') (a:=⟨g,i,none⟩) hg).trans (h.2 i x hx)⟩⟩
def cZ(b0 g:Nat)(X Y:World):Prop:=Y.heap[b0]?=X.heap[b0]?∧Y.heap[g]?=X.heap[g]?
set_option maxRecDepth 100000 in
set_option maxHeartbeats 2000000 in
theorem d6(n:Nat)(ns:List AD)(hns:ns.length≤1000000)(b0 g:Nat)(A:Option Addr)(m c:Nat)(w:World)(h0:Boxed w b0 63 (.slice A m c))(hN:NamesIn w A m c ns g)(hg:ns=[]∨g<w.heap.size):
    SeqW Fence.wide n prog 196 #[.pointer (some ⟨b0,0,none⟩)] (fun x:Int×AD=>#[.int .i64 x.1, .string x.2]) (fun _=>False) (cZ b0 g) (fun xs=>xs.map (·.2)<+:ns.reverse)
     (fun xs=>xs.map (·.2)=ns.reverse) (fun _=>True) w:=fun l J Jx W hW hJ hJx hY hst=>by
 have k0:Boxed W b0 63 (.slice A m c):=Ba h0 hW h0.lt
 have kN:NamesIn W A m c ns g:=by
  rcases hg with hg|hg
  ·exact⟨hN.1,hN.2.1, .inl hg⟩
  exact hN.keep (hW.block g hg)
 have hmc:=kN.2.1;have hme:=kN.1;subst hme;have c0:=k0.cell;have f0:=k0.frozen;have HJ:=Lib.hid hJ;have HJx:=Lib.hid hJx;have HY:=Lib.hid hY;clear hN hg hW hJ hJx hY h0;refine callsIn_of_wp Tryz.func196 rfl trivial ?_ rfl;simp only[Tryz.ntmps196,List.size_toArray,List.length_cons,List.length_nil,Nat.reduceAdd,Nat.reduceSub,Array.replicate_succ,Array.replicate_zero,List.push_toArray,List.append_toArray,List.nil_append,List.cons_append]
 gi_wp2
 gi_loopw [3] (fun i wr=>∃(j:Nat) (pre:List (Int×AD)),j≤ns.length∧i= .int .i64 ((j:Int) - 1)∧J pre wr∧Boxed wr b0 63 (.slice A ns.length c)∧NamesIn wr A ns.length c ns g∧Hid (pre.map (·.2)=(ns.drop j).reverse)) (fun i _=>(intOf i+1).toNat)
 case atStart=>exact⟨ns.length,[],BA _,rfl,hst,k0,kN,by rw[List.drop_length];exact Lib.hid rfl⟩
 case round=>
  obtain⟨j,pre,hj,rfl,hJp,m0,mN,hpre⟩:=hrel;clear k0 kN hst c0 f0;have c0:=m0.cell;have f0:=m0.frozen
  cases j with
  |zero=>
    gi_wp2
    go_end0
    exact⟨⟨_,rfl⟩, .inl ⟨pre,by rw[hpre.out];simp,hJp⟩⟩
  |succ j=>
    have hlt:j<ns.length:=by omega
    have hx:ns[j]?=some ns[j]:=B9 hlt;obtain⟨_,_,hA⟩:=mN;obtain⟨rfl,hcell⟩:=hA.resolve_left (fun e=>by rw[e]at hlt;simp at hlt);have hc:=hcell j _ hx;have HD:Hid ((ns.drop j).reverse=(ns.drop (j+1)).reverse++[ns[j]]):=Lib.hid (by rw[List.drop_eq_getElem_cons hlt];simp);obtain⟨fn,tmps,assign,body,hy,hR⟩:=HY.out pre ((j:Int),ns[j]) wr hJp (by rw[List.map_append,hpre.out];refine⟨(ns.take j).reverse,?_⟩;rw[show(ns.drop (j+1)).reverse++List.map (·.2) [((j:Int),ns[j])]=(ns.drop j).reverse by rw[HD.out];rfl,←List.reverse_append,List.take_append_drop]);have HC:=Lib.hid hcell;clear hcell hA hx;generalize ns[j]=x at *
    gi_wp2_with fail
    refine⟨(fun h=>by cases h),hR.mono ?_⟩;rintro e W3 (⟨rfl,hJ3,hk3⟩|⟨rfl,hJx3⟩)
    ·have q0:Boxed W3 b0 63 (.slice (some ⟨g,0,none⟩) ns.length c):=hk3.1.trans m0;have qN:NamesIn W3 (some ⟨g,0,none⟩) ns.length c ns g:=⟨rfl,hmc, .inr ⟨rfl,fun i y hy=>(World.cell?_of_block (w:=wr) (w':=W3) (a:=⟨g,i,none⟩) hk3.2).trans (HC.out i y hy)⟩⟩;clear c0 f0 hy hR hc
     gi_wp2
     go_roundw
     case rel=>exact⟨j,pre++[((j:Int),x)],by omega,rfl,hJ3,q0,qN,by rw[HD.out,←hpre.out];exact Lib.hid (by simp)⟩
     case measure=>simp[intOf]
    gi_wp2
    refine bodyPost_ret (results_none rfl _ _ _) rfl ?_;exact⟨⟨_,rfl⟩, .inr ⟨pre++[((j:Int),x)],trivial,hJx3⟩⟩
end Go.Proofs.YtbglbmnhgbgelaaGreatDoor
