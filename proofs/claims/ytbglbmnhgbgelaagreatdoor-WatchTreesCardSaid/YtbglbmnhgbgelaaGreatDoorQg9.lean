/-
  Part 9 of the proof of WatchTreesP: what the statement's proof uses of the texts in wip/tpl.
-/
import Derived.Test.YtbglbmnhgbgelaaGreatDoorShelf
import Derived.Test.YtbglbmnhgbgelaaGreatDoorQg8
set_option maxRecDepth 10000
set_option maxHeartbeats 4000000
set_option linter.unusedVariables false
set_option linter.unusedSimpArgs false
namespace Go.Proofs.YtbglbmnhgbgelaaGreatDoor
theorem FlsV.set_{f:AZ}(h:FlsV f){q:Nat}{d':Dvc}(hd:VD d'):FlsV (f.set q d'):=by
 refine⟨by simpa using h.few,fun d hm=>?_⟩
 rcases List.mem_or_eq_of_mem_set hm with h1|h1
 ·exact h.vd d h1
 rw[h1];exact hd
theorem Ml{f:AZ}{a:A9}(h:Cy f a=true):∃(q i:Nat) (d:Dvc) (m:Nod),a.1=(q:Int)∧f[q]?=some d∧d.nodes[i]?=some m∧m.ino=a.2∧Bk f a=some m∧Aa f a=m:=by
 rcases J0 f a with⟨_,h2⟩|⟨q,i,d,n,h1,h2,h3,h4,h5,h6⟩
 ·simp[Cy,h2]at h
 exact⟨q,i,d,n,h1,h2,h3,h4,h6,by simp[Aa,h6]⟩
theorem Qc{f:AZ}{a:A9}{q:Nat}{d:Dvc}{m:Nod}(ha:a.1=(q:Int))(hq:f[q]?=some d)(hd:Dm d.nodes)(hm:m∈d.nodes)(hi:m.ino=a.2):Bk f a=some m:=by
 unfold Bk
 rw[ha,K9,hq]
 simp only
 cases h:d.nodes.find? (fun n=>n.ino==a.2)with
 |none=>
   have:=List.find?_eq_none.1 h m hm
   simp[hi]at this
 |some n=>
   have h1:=List.mem_of_find?_eq_some h
   have h2:=List.find?_some h
   simp only[beq_iff_eq]at h2
   rw[DL hd h1 hm (by omega)]
theorem OH{f:AZ}{dir:A9}{name:AE}{n0:Nod}(hn:Bk f dir=some n0)(hk:n0.kind=2)(h:(AM f dir name).2≠0):DK n0.entries name=none∧(AM f dir name).1=(0,0):=by
 unfold AM at h ⊢
 rw[hn]at h ⊢
 simp only[hk,if_true]at h ⊢
 unfold DK
 split at h
 ·rename_i he
  exact⟨he,rfl⟩
 exact absurd rfl h
theorem Qd{f:AZ}{dir:A9}{n0:Nod}(hn:Bk f dir=some n0)(h:¬J2 f dir=true):n0.entries.length<12:=by
 unfold J2 at h
 rw[hn]at h
 simp at h
 omega
theorem Mm(f:AZ)(q:Nat)(g:List Nod→List Nod):(FY f q g).length=f.length:=by simp[FY]
def JC(f:AZ)(R:DP):Prop:=R.2.2=0→FlsV R.1∧R.1.length=f.length
theorem Dz{f:AZ}{e:Int}(h:e≠0):JC f ([],[],e):=fun h0=>absurd h0 h
theorem U9{f:AZ}(hv:FlsV f)(dir:A9)(name:AE)(a:A9):JC f (Dc f dir name a):=by
 unfold Dc
 split
 ·rename_i h;exact Dz h
 rename_i hp
 split
 ·exact Dz (by decide)
 rename_i hh
 split
 ·exact Dz (by decide)
 rename_i hdev
 split
 ·exact Dz (by decide)
 rename_i hk
 split
 ·exact Dz (by decide)
 rename_i hl
 split
 ·exact Dz (by decide)
 rename_i hfl
 intro _
 obtain⟨q,i,d,n0,hdq,hq,hn0,hino,hidx,hnode,hk0,hnm⟩:=GR (name:=name) (dir:=dir) (f:=f) (by omega)
 obtain⟨q',i',d',m,haq,hq',hm,hmi,hnm2,hng⟩:=Ml (f:=f) (a:=a) (by simpa using hh)
 obtain rfl:q=q':=by omega
 obtain rfl:d=d':=Option.some.inj (hq.symm.trans hq')
 have hvd:=hv.vd d (Au hq)
 have key:=hvd.linked (Au hn0) hk0 (Au hm) (by rw[←hng];exact hk) hnm (OH hnode hk0 hl).1 (Qd hnode hfl)
 rw[hino,hmi]at key
 refine⟨?_,by dsimp only;exact Mm _ _ _⟩
 dsimp only
 rw[hdq,Int.toNat_natCast,Fz hq]
 exact hv.set_ key
theorem KQ{f:AZ}{a:A9}{m:Nod}(h:Bk f a=some m):AX f a=true↔m.kind=2:=by
 unfold AX;rw[h];simp
theorem UA{f:AZ}{a:A9}{m:Nod}(h:Bk f a=some m):Ja f a=true↔m.entries=[]:=by
 unfold Ja;rw[h];simp
theorem OJ{f:AZ}(hv:FlsV f){dir:A9}{name:AE}{q i:Nat}{d:Dvc}{n0:Nod}(hdq:dir.1=(q:Int))(hq:f[q]?=some d)(hn0:d.nodes[i]?=some n0)(hnode:Bk f dir=some n0)(hk0:n0.kind=2)(hl:(AM f dir name).2=0):
    ∃e m,DK n0.entries name=some e∧AM f dir name=((dir.1,e.2),0)∧m∈d.nodes∧e.2=m.ino∧e.2≠1∧Bk f (AM f dir name).1=some m:=by
 obtain⟨e,he,hle⟩:=Mh hnode hk0 hl
 have hvd:=hv.vd d (Au hq)
 obtain⟨_,h1,m,hm,h2⟩:=hvd.ent n0 (Au hn0) e (Gr he).1
 refine⟨e,m,he,hle,hm,h2.symm,h1,?_⟩
 rw[hle]
 exact Qc hdq hq hvd.asc hm h2
theorem ZX{f:AZ}(hv:FlsV f)(dir:A9)(name:AE):JC f (FB f dir name):=by
 unfold FB
 split
 ·rename_i h;exact Dz h
 rename_i hp
 split
 ·rename_i h;exact Dz h
 rename_i hl
 split
 ·exact Dz (by decide)
 rename_i hk
 intro _
 obtain⟨q,i,d,n0,hdq,hq,hn0,hino,hidx,hnode,hk0,hnm⟩:=GR (name:=name) (dir:=dir) (f:=f) (by omega)
 obtain⟨e,m,he,hle,hm,h1,h2,h3⟩:=OJ hv hdq hq hn0 hnode hk0 (name:=name) (by omega)
 have hvd:=hv.vd d (Au hq)
 have key:=hvd.removed (Au hn0) hm (hvd.leaf m hm fun h=>hk ((KQ h3).2 h)).2 he h1
 refine⟨?_,by dsimp only;exact Mm _ _ _⟩
 dsimp only
 rw[hdq,Int.toNat_natCast,Fz hq,show(AM f dir name).1.2=m.ino by rw[hle];exact h1,←hino]
 exact hv.set_ key
theorem ZY{f:AZ}(hv:FlsV f)(dir:A9)(name:AE):JC f (Eb f dir name):=by
 unfold Eb
 split
 ·rename_i h;exact Dz h
 rename_i hp
 split
 ·rename_i h;exact Dz h
 rename_i hl
 split
 ·exact Dz (by decide)
 rename_i hk
 split
 ·exact Dz (by decide)
 rename_i hem
 intro _
 obtain⟨q,i,d,n0,hdq,hq,hn0,hino,hidx,hnode,hk0,hnm⟩:=GR (name:=name) (dir:=dir) (f:=f) (by omega)
 obtain⟨e,m,he,hle,hm,h1,h2,h3⟩:=OJ hv hdq hq hn0 hnode hk0 (name:=name) (by omega)
 have hvd:=hv.vd d (Au hq)
 have key:=hvd.removed (Au hn0) hm ((UA h3).1 (by simpa using hem)) he h1
 refine⟨?_,by dsimp only;exact Mm _ _ _⟩
 dsimp only
 rw[hdq,Int.toNat_natCast,Fz hq,show(AM f dir name).1.2=m.ino by rw[hle];exact h1,←hino]
 exact hv.set_ key
theorem ZZ{f:AZ}(hv:FlsV f)(a:A9)(mode uid gid:Int):(EJ f a mode uid gid).2=0→FlsV (EJ f a mode uid gid).1∧(EJ f a mode uid gid).1.length=f.length:=by
 unfold EJ
 split
 ·intro h;exact absurd h (by decide)
 rename_i hh
 split
 ·intro h;exact absurd h (by decide)
 rename_i hp
 intro _
 obtain⟨q,i,d,m,haq,hq,hm,hmi,hnm2,hng⟩:=Ml (f:=f) (a:=a) (by simpa using hh)
 have hvd:=hv.vd d (Au hq)
 have key:=hvd.attrs (Au hm) mode uid gid (by rw[←hng];simpa using hp)
 refine⟨?_,by dsimp only;exact Mm _ _ _⟩
 dsimp only
 rw[haq,Int.toNat_natCast,Fz hq,←hmi]
 exact hv.set_ key
theorem Qe{f:AZ}(hv:FlsV f)(dir:A9)(name:AE)(n:Nod):JC f (Dn f dir name n):=by
 unfold Dn
 split
 ·rename_i h;exact Dz h
 rename_i hp
 split
 ·exact Dz (by decide)
 rename_i hpl
 split
 ·exact Dz (by decide)
 rename_i hl
 obtain⟨q,i,d,n0,hdq,hq,hn0,hino,hidx,hnode,hk0,hnm⟩:=GR (name:=name) (dir:=dir) (f:=f) (by omega)
 have hat:EE f dir.1=some d:=by rw[hdq,K9,hq]
 rw[hat]
 simp only
 split
 ·exact Dz (by decide)
 rename_i hc
 intro _
 have hvd:=hv.vd d (Au hq)
 have hnm2:=hvd.nextM
 have key:=hvd.make (Au hn0) hk0 hnm (OH hnode hk0 hl).1 (n:=n) (by simpa using hpl) (by omega) (by omega) (Qd hnode (fun h=>hc (.inr (.inr h))))
 refine⟨?_,by simp⟩
 dsimp only
 rw[hdq,Int.toNat_natCast,←hino]
 exact hv.set_ key
theorem Za{ns:List Nod}{a o:Int}{g:Nod→Nod}(hi:∀n,(g n).ino=n.ino)(he:∀n,(g n).entries=n.entries):Br (CX ns a g) o=CX (Br ns o) a g:=by
 have hc:Bb o (CX ns a g)=Bb o ns:=by
  unfold Bb
  congr 1
  unfold CX
  rw[List.flatMap_map]
  congr 1
  funext n
  split
  ·rw[he]
  rfl
 unfold Br
 rw[hc]
 unfold CX
 rw[List.filter_map]
 congr 1
 apply List.filter_congr
 intro n _
 simp only[Function.comp]
 split
 ·rw[hi]
 rfl
theorem Zb{ns:List Nod}{a:Int}{g:Nod→Nod}(h:∀n∈ns,n.ino=a→g n=n):CX ns a g=ns:=by
 unfold CX
 conv=>rhs;rw[←List.map_id ns]
 apply List.map_congr_left
 intro n hn
 split
 ·rename_i e;rw[h n hn e];rfl
 rfl
theorem Zc{ns:List Nod}{a:Int}{g g':Nod→Nod}(h:∀n∈ns,n.ino=a→g n=g' n):CX ns a g=CX ns a g':=by
 unfold CX
 apply List.map_congr_left
 intro n hn
 split
 ·rename_i e;rw[h n hn e]
 rfl
theorem UB{f:AZ}{q:Nat}{d:Dvc}(hq:f[q]?=some d)(hd:Dm d.nodes){top:A9}(ht:top.1=(q:Int)):∀(k n:Nat) (a:A9),k<n→a.1=(q:Int)→Me d.nodes k a.2 top.2→Hc f top n a=true
 |_,0,_,h,_,_=>by omega
 |0,n+1,a,_,ha,hk=>by
   have e:a.2=top.2:=hk
   unfold Hc
   rw[if_neg (by omega),if_pos (Prod.ext (by omega) e)]
 |k+1,n+1,a,h,ha,hk=>by
   obtain⟨m,hm,h1,h2,h3,h4⟩:=hk
   unfold Hc
   rw[if_neg (by omega)]
   split
   ·rfl
   have hn:=Qc ha hq hd hm h1
   refine UB hq hd ht k n _ (by omega) ha ?_
   simp only[Aa,hn,Option.getD_some]
   exact h4
theorem Qf{f:AZ}(hv:FlsV f)(src:A9)(name:AE)(to:A9)(name2:AE):JC f (EK f src name to name2):=by
 unfold EK
 split
 ·rename_i h;exact Dz h
 rename_i hord
 obtain⟨hpl1,hpl2⟩:=QZ (f:=f) (x:=src) (y:=to) (name:=name) (name2:=name2) (by omega)
 split
 ·rename_i h;exact Dz h
 rename_i hl1
 split
 ·exact Dz (by decide)
 rename_i hdev
 split
 ·exact Dz (by decide)
 rename_i hbel
 split
 ·intro _;exact⟨hv,rfl⟩
 rename_i hsame
 split
 ·rename_i h;exact Dz h
 rename_i hr2
 intro _
 obtain⟨q,i,d,n1,hsq,hq,hn1,hn1i,hidx,hnode,hk1,hnm1⟩:=GR hpl1
 obtain⟨q',i2,d',n2,htq,hq',hn2,hn2i, -,hnode2,hk2,hnm2⟩:=GR hpl2
 obtain rfl:q=q':=by omega
 obtain rfl:d=d':=Option.some.inj (hq.symm.trans hq')
 have hvd:=hv.vd d (Au hq)
 obtain⟨e,m,he,hle,hm,hem,he1,hmn⟩:=OJ hv hsq hq hn1 hnode hk1 (name:=name) (by omega)
 have hA2:(AM f src name).1.2=m.ino:=by rw[hle];exact hem
 have hmoves:AX f (AM f src name).1=true↔m.kind=2:=KQ hmn
 have hanc:m.kind=2→¬Fy d.nodes n2.ino m.ino:=by
  rintro hmk ⟨k,hk⟩
  have hlen:=hvd.anc_len hm hk
  have:=hvd.len
  refine hbel ⟨hmoves.2 hmk,UB hq hvd.asc (top:=(AM f src name).1) (by rw[hle];exact hsq) k 17 to (by omega) htq ?_⟩
  rw[hA2,←hn2i]
  exact hk
 have hdiff:n1.ino=n2.ino→name≠name2:=by
  rintro h rfl
  have est:to=src:=Prod.ext (by omega) (by omega)
  subst est
  exact hsame ⟨by omega,rfl⟩
 have ho:(DK n2.entries name2=none∧(n2.entries.length<12∨n1.ino=n2.ino)∧(AM f to name2).1.2=0)∨(∃eo o,DK n2.entries name2=some eo∧o∈d.nodes∧eo.2=(AM f to name2).1.2∧o.ino=(AM f to name2).1.2∧(AM f to name2).1.2≠m.ino∧o.entries=[]):=by
  have hr3:Dp f src to (AM f src name).1 (AM f to name2).1 (AM f to name2).2=0:=by omega
  unfold Dp at hr3
  by_cases h0:(AM f to name2).2=0
  ·right
   rw[if_pos h0]at hr3
   obtain⟨eo,o,heo,hleo,hom,heoi,heo1,hon⟩:=OJ hv htq hq hn2 hnode2 hk2 (name:=name2) h0
   have hO2:(AM f to name2).1.2=eo.2:=by rw[hleo]
   refine⟨eo,o,heo,hom,hO2.symm,by rw[hO2,heoi],?_,?_⟩
   ·intro h
    refine hsame ⟨h0,Prod.ext ?_ (h.trans hA2.symm)⟩
    rw[hleo,hle];exact htq.trans hsq.symm
   have hdo:=KQ hon
   by_cases hok:o.kind=2
   ·rw[if_neg (fun h=>by
       rw[if_pos h]at hr3;exact absurd hr3 (by decide))]at hr3
    rw[if_neg (fun h=>by rw[hdo.2 hok]at h;exact absurd h.1 (by decide))]at hr3
    split at hr3
    ·exact absurd hr3 (by decide)
    rename_i h5
    refine(UA hon).1 ?_
    cases hem2:Ja f (AM f to name2).1 with
    |true=>rfl
    |false=>exact absurd ⟨hdo.2 hok,hem2⟩ h5
   exact(hvd.leaf o hom hok).2
  left
  rw[if_neg h0]at hr3
  obtain⟨h1,h2⟩:=OH hnode2 hk2 h0
  refine⟨h1,?_,by rw[h2]⟩
  split at hr3
  ·exact absurd hr3 (by decide)
  rename_i h3
  by_cases hfl:J2 f to=true
  ·right
   have:src=to:=Classical.byContradiction fun h=>h3 ⟨hfl,h⟩
   rw[hn1i,hn2i,this]
  left;exact Qd hnode2 hfl
 have key:=hvd.renamed (Au hn1) (Au hn2) hm hk2 he hem hnm2 hdiff hanc ho
 refine⟨?_,by dsimp only;exact Mm _ _ _⟩
 dsimp only
 rw[htq,Int.toNat_natCast,Fz hq]
 have hns:Hh (KP d.nodes src name to name2 (AM f src name).1 (AM f to name2).1 (AM f to name2).2) (AM f src name).1.2 to.2 (AX f (AM f src name).1)=Br (Db d.nodes n1.ino n2.ino name name2 m.ino) (AM f to name2).1.2:=by
  rw[←Tv,hA2,←hn2i]
  have hY:∀y∈BW (BW d.nodes n1.ino name 0) n2.ino name2 m.ino,y.ino=m.ino→y.kind=m.kind:=by
   intro y hy hyi
   obtain⟨y1,h1,w1⟩:=Ea hy
   obtain⟨y2,h2,w2⟩:=Ea h1
   have:y2=m:=DL hvd.asc h2 hm (by rw[←w2.ino,←w1.ino];exact hyi)
   rw[w1.kind,w2.kind,this]
  have hpos:∀y∈BW (BW d.nodes n1.ino name 0) n2.ino name2 m.ino,1≤y.ino:=by
   intro y hy
   obtain⟨y1,h1,w1⟩:=Ea hy
   obtain⟨y2,h2,w2⟩:=Ea h1
   rw[w1.ino,w2.ino]
   exact hvd.pos h2
  have hset:Br (CX (BW (BW d.nodes n1.ino name 0) n2.ino name2 m.ino) m.ino (Gs n2.ino)) (AM f to name2).1.2=CX (Br (BW (BW d.nodes n1.ino name 0) n2.ino name2 m.ino) (AM f to name2).1.2) m.ino (Gs n2.ino):=Za (fun n=>by unfold Gs;split<;>rfl) (fun n=>by unfold Gs;split<;>rfl)
  rw[hset]
  have hN:KP d.nodes src name to name2 (AM f src name).1 (AM f to name2).1 (AM f to name2).2=Br (BW (BW d.nodes n1.ino name 0) n2.ino name2 m.ino) (AM f to name2).1.2:=by
   unfold KP
   rw[hA2,←hn1i,←hn2i]
   split
   ·rfl
   rename_i h0
   rw[(OH hnode2 hk2 h0).2]
   unfold Br
   symm
   rw[List.filter_eq_self]
   intro y hy
   have:=hpos y hy
   exact decide_eq_true (.inl (by show y.ino≠0;omega))
  rw[hN]
  have hsub:∀y∈Br (BW (BW d.nodes n1.ino name 0) n2.ino name2 m.ino) (AM f to name2).1.2,y∈BW (BW d.nodes n1.ino name 0) n2.ino name2 m.ino:=fun y hy=>(Md.1 hy).1
  unfold Hh
  split
  ·rename_i hmv
   refine Zc fun y hy hyi=>?_
   unfold Gs
   rw[if_pos ((hY y (hsub y hy) hyi).trans (hmoves.1 hmv))]
  rename_i hmv
  refine(Zb fun y hy hyi=>?_).symm
  unfold Gs
  rw[if_neg (fun h=>hmv (hmoves.2 ((hY y (hsub y hy) hyi).symm.trans h)))]
 rw[hns]
 exact hv.set_ key
end Go.Proofs.YtbglbmnhgbgelaaGreatDoor
namespace Go.Proofs.YtbglbmnhgbgelaaGreatDoor
open Go.RowKit
def Er(R:Spc×Int):AV:= .tup [.agg (Ai R.1), .v (.int .i64 R.2)]
def Ji:Spc:=⟨[],[]⟩
theorem Gt(e:Int):LeA (.tup [.agg [.v (.slice none 0 0), .v (.slice none 0 0)], .v (.int .i64 e)]) (Er (Ji,e)):=(by repeat (first|exact LeA.refl _|exact LeA.nil _|exact LeL.refl _|refine LeA.agg ?_|refine LeA.tup ?_|exact LeL.nil|refine LeL.cons ?_ ?_|exact LeA.any _))
def DN(s:Spc)(dev:Int)(a:A9):Spc×Int:=
 if dev<1∨(s.files.length:Int)≤dev then(Ji,22)else if Cy s.files a=false then(Ji,2)else if(Aa s.files a).kind≠2 then(Ji,20)else if Bl s a.1=false∨a.1=dev then(Ji,22)else
 if Bl s dev=true∨(Bo s a).isSome=true then(Ji,16)else(⟨s.files,s.mounts++[(dev,a)]⟩,0)
def FC(s:Spc)(dev:Int):Spc×Int:=
 if dev=0∨Bl s dev=false then(Ji,22)else if(s.mounts.any fun m=>decide (m.2.1=dev))=true then(Ji,16)else(⟨s.files,s.mounts.filter fun m=>decide (m.1≠dev)⟩,0)
section
theorem UC(s:Spc)(hs:SpcB s):PN Tryz.prog 88 [.agg (Ai s)] (fun g=> .agg [.sl 2 (s.files.map Bn) none, .sl 3 (s.mounts.map Co) g]) (149,3,s.mounts.map Co):=by
 have hfew:=hs.few
 refine enter Tryz.func88 rfl rfl rfl rfl rfl 0 rfl ?_
 refine w_ (b_ (h:=AW (h:=e_ (q_ (BH ([(0,Ai s)]) 8 (h:=AF 0 (h:=?_)))))))
 refine AJ 1 (h:=?_)
 refine AF 3 (h:=?_)
 refine AJ 4 (h:=?_)
 refine c_ 2 rfl (AK (QY s.files hs.files) ?_)
 rintro r rfl
 refine o_ (h:=?_)
 first|refine c_ 5 rfl (E3 rfl rfl rfl (by simp;omega) (by repeat constructor) ?_)|refine c_ 5 rfl (Hv rfl rfl (by simp;omega) (by repeat constructor) ?_)
 refine o_ (h:=Gm 6 (h:=?_))
 refine B0 7 rfl (Aw rfl rfl rfl rfl rfl rfl (by repeat constructor) (by repeat constructor) ?_)
 refine o_ (h:=z_ (h:=t_ (A6 (?_))))
 refine Aj (some 0) (h5:=(LeA.refl _)) (h6:=⟨rfl,rfl,rfl⟩)
theorem Zd(s:Spc)(dev:Int)(a:A9)(hs:SpcB s):AFn Tryz.prog 49 [.agg (Ai s), .v (.int .i64 dev), .agg (AA a)] (fun r=>r=Er (DN s dev a)):=by
 have hfew:=hs.few
 refine enter Tryz.func49 rfl rfl rfl rfl rfl 0 rfl ?_
 refine w_ (b_ (h:=b_ (h:=AW (h:=a_ (h:=e_ (q_ (w_ (m_ (h:=BJ (h:=m_ (h:=?_)))))))))))
 refine Ax false rfl rfl (fun hb1=>?_) (fun hb1=>?_)
 ·have hc1:=bp hb1
  refine A3 (h:=A3 (h:=A3 (h:=A3 (h:=A3 (h:=A3 (h:=Af (h:=e_ (Bf (h:=w_ (AT (h:=s_ (h:=a_ (h:=e_ (A6 (A7 (?_))))))))))))))))
  refine Aj (r:=Er (DN s dev a)) none (h5:=?_) (h6:=⟨rfl,rfl,rfl⟩)
  rw[DN,if_pos (.inl hc1)]
  exact Gt _
 have hc1:=bp hb1
 refine m_ (h:=f_ (h:=f_ (h:=l_ (h:=n_ (h:=Fu (h:=Am (h:=e_ (?_))))))))
 refine A8 rfl (fun hb2=>?_) (fun hb2=>?_)
 ·have hc2:=bp hb2
  refine w_ (AT (h:=s_ (h:=a_ (h:=e_ (A6 (A7 (?_)))))))
  refine Aj (r:=Er (DN s dev a)) none (h5:=?_) (h6:=⟨rfl,rfl,rfl⟩)
  rw[DN,if_pos (.inr (by rw[List.length_map]at hc2;omega))]
  exact Gt _
 have hc2:=bp hb2
 refine AG (w_ (f_ (h:=l_ (h:=l_ (h:=?_)))))
 refine A4 rfl (AK (Dk s.files a hs.files) ?_)
 rintro r rfl
 refine m_ (h:=x_ (h:=x_ (h:=AW (h:=s_ (h:=a_ (h:=e_ (q_ (w_ (m_ (h:=BA (h:=e_ (?_))))))))))))
 refine A8 rfl (fun hb3=>?_) (fun hb3=>?_)
 ·have hc3:=bp hb3
  refine w_ (AT (h:=s_ (h:=a_ (h:=e_ (A6 (A7 (?_)))))))
  refine Aj (r:=Er (DN s dev a)) none (h5:=?_) (h6:=⟨rfl,rfl,rfl⟩)
  rw[DN,if_neg (by rw[List.length_map]at hc2;omega),if_pos hc3]
  exact Gt _
 have hc3:=bp hb3
 refine AG (q_ (w_ (f_ (h:=l_ (h:=BF (h:=e_ (?_)))))))
 refine A8 rfl (fun hb4=>?_) (fun hb4=>?_)
 ·have hc4:=bp hb4
  refine w_ (AT (h:=s_ (h:=a_ (h:=e_ (A6 (A7 (?_)))))))
  refine Aj (r:=Er (DN s dev a)) none (h5:=?_) (h6:=⟨rfl,rfl,rfl⟩)
  rw[DN,if_neg (by rw[List.length_map]at hc2;omega),if_neg (by simp[hc3]),if_pos hc4]
  exact Gt _
 have hc4:=bp hb4
 refine AG (q_ (w_ (l_ (h:=f_ (h:=l_ (h:=?_))))))
 refine A4 rfl (AK (Kw s a.1 hs) ?_)
 rintro r rfl
 refine BA (h:=m_ (h:=?_))
 refine Ax false rfl rfl (fun hb5=>?_) (fun hb5=>?_)
 ·have hc5:=bp hb5
  refine A3 (h:=A3 (h:=A3 (h:=A3 (h:=Af (h:=e_ (Bf (h:=w_ (AT (h:=s_ (h:=a_ (h:=e_ (A6 (A7 (?_))))))))))))))
  refine Aj (r:=Er (DN s dev a)) none (h5:=?_) (h6:=⟨rfl,rfl,rfl⟩)
  rw[DN,if_neg (by rw[List.length_map]at hc2;omega),if_neg (by simp[hc3]),if_neg (by simp[hc4]),if_pos (.inl hc5)]
  exact Gt _
 have hc5:=bp hb5
 refine f_ (h:=l_ (h:=m_ (h:=AQ (h:=Am (h:=e_ (?_))))))
 refine A8 rfl (fun hb6=>?_) (fun hb6=>?_)
 ·have hc6:=bp hb6
  refine w_ (AT (h:=s_ (h:=a_ (h:=e_ (A6 (A7 (?_)))))))
  refine Aj (r:=Er (DN s dev a)) none (h5:=?_) (h6:=⟨rfl,rfl,rfl⟩)
  rw[DN,if_neg (by rw[List.length_map]at hc2;omega),if_neg (by simp[hc3]),if_neg (by simp[hc4]),if_pos (.inr hc6)]
  exact Gt _
 have hc6:=bp hb6
 refine AG (q_ (w_ (l_ (h:=m_ (h:=?_)))))
 refine A4 rfl (AK (Kw s dev hs) ?_)
 rintro r rfl
 refine m_ (h:=?_)
 refine Ax false rfl rfl (fun hb7=>?_) (fun hb7=>?_)
 ·have hc7:=bp hb7
  refine A3 (h:=A3 (h:=A3 (h:=Af (h:=e_ (Bf (h:=w_ (AT (h:=s_ (h:=a_ (h:=e_ (A6 (A7 (?_)))))))))))))
  refine Aj (r:=Er (DN s dev a)) none (h5:=?_) (h6:=⟨rfl,rfl,rfl⟩)
  rw[DN,if_neg (by rw[List.length_map]at hc2;omega),if_neg (by simp[hc3]),if_neg (by simp[hc4]),if_neg (by simp[hc5,hc6]),if_pos (.inl hc7)]
  exact Gt _
 have hc7:=bp hb7
 refine l_ (h:=l_ (h:=?_))
 refine B6 (AK (Sy s a hs) ?_)
 rintro r rfl
 refine Am (h:=e_ (?_))
 refine A8 rfl (fun hb8=>?_) (fun hb8=>?_)
 ·have hc8:=bp hb8
  refine w_ (AT (h:=s_ (h:=a_ (h:=e_ (A6 (A7 (?_)))))))
  refine Aj (r:=Er (DN s dev a)) none (h5:=?_) (h6:=⟨rfl,rfl,rfl⟩)
  rw[DN,if_neg (by rw[List.length_map]at hc2;omega),if_neg (by simp[hc3]),if_neg (by simp[hc4]),if_neg (by simp[hc5,hc6]),if_pos (.inr hc8)]
  exact Gt _
 have hc8:=bp hb8
 refine AG (w_ (l_ (h:=?_)))
 refine A4 rfl (SR rfl (by repeat (first|exact Args.nil|refine Args.cons _ _ _ _ _ rfl (Kq rfl) ?_|refine Args.cons _ _ _ _ _ rfl (Lv _) ?_|refine Args.cons _ _ _ _ _ rfl (Ko _) ?_|refine Args.cons _ _ _ _ _ rfl (Lz rfl (by repeat (first|exact LeA.refl _|exact LeA.nil _|exact LeL.refl _|refine LeA.agg ?_|refine LeA.tup ?_|exact LeL.nil|refine LeL.cons ?_ ?_|exact LeA.any _))) ?_)) (UC s hs) (fun _=>rfl) (by repeat constructor) ?_)
 refine AW (h:=s_ (h:=e_ (w_ (f_ (h:=l_ (h:=m_ (h:=l_ (h:=AT (h:=Bm (h:=?_))))))))))
 refine A4 rfl (E3 rfl rfl rfl (by simp;omega) (by repeat constructor) ?_)
 refine f_ (h:=s_ (h:=e_ (w_ (l_ (h:=s_ (h:=a_ (h:=e_ (A6 (?_)))))))))
 refine AB ?_
 rw[DN,if_neg (by rw[List.length_map]at hc2;omega),if_neg (by simp[hc3]),if_neg (by simp[hc4]),if_neg (by simp[hc5,hc6]),if_neg (by simp[hc7,hc8])]
 simp only[Er,Ai,List.map_append]
 rfl
theorem Ze(s:Spc)(dev:Int)(hs:SpcB s):AFn Tryz.prog 191 [.agg (Ai s), .v (.int .i64 dev)] (fun r=>r=Er (FC s dev)):=by
 have hfew:=hs.few
 refine enter Tryz.func191 rfl rfl rfl rfl rfl 0 rfl ?_
 refine w_ (b_ (h:=AW (h:=a_ (h:=e_ (q_ (w_ (m_ (h:=AQ (h:=m_ (h:=?_))))))))))
 refine Ax false rfl rfl (fun hb1=>?_) (fun hb1=>?_)
 ·have hc1:=bp hb1
  refine A3 (h:=A3 (h:=A3 (h:=A3 (h:=Af (h:=e_ (Bf (h:=w_ (AT (h:=s_ (h:=a_ (h:=e_ (A6 (A7 (?_))))))))))))))
  refine Aj (r:=Er (FC s dev)) none (h5:=?_) (h6:=⟨rfl,rfl,rfl⟩)
  rw[FC,if_pos (.inl hc1)]
  exact Gt _
 have hc1:=bp hb1
 refine l_ (h:=m_ (h:=?_))
 refine B6 (AK (Kw s dev hs) ?_)
 rintro r rfl
 refine BA (h:=Am (h:=e_ (?_)))
 refine A8 rfl (fun hb2=>?_) (fun hb2=>?_)
 ·have hc2:=bp hb2
  refine w_ (AT (h:=s_ (h:=a_ (h:=e_ (A6 (A7 (?_)))))))
  refine Aj (r:=Er (FC s dev)) none (h5:=?_) (h6:=⟨rfl,rfl,rfl⟩)
  rw[FC,if_pos (.inr hc2)]
  exact Gt _
 have hc2:=bp hb2
 refine AG (w_ (a_ (h:=e_ (q_ (w_ (a_ (h:=e_ (Ao (?_)))))))))
 refine NY 6 149 3 rfl (by repeat constructor) ?_
 refine Ba (fun m t=>∃(j:Nat) (acc:List D6),j≤s.mounts.length∧m=s.mounts.length - j∧(∀i y,i<j→s.mounts[i]?=some y→decide (y.2.1=dev)=false)∧(s.mounts.take j).filter (fun m=>decide (m.1≠dev))=acc∧acc.length≤j∧t=⟨look [(1, .v (.int .i64 dev)),(2, .bp 0 0),(4, .bp 1 0),(6, .sl 3 (acc.map Co) (some 0)),(7, .v (.int .i64 (j:Int)))],⟨[Ai s,[.v (.slice none 0 0), .v (.slice none 0 0)]],[(149,3,acc.map Co)]⟩⟩) (s.mounts.length) ((wk 2 1)) (⟨0,[],by omega,rfl,fun i y hi=>by omega,rfl,Nat.le_refl _,rfl⟩) ?_
 rintro m t ⟨j,acc,hj,rfl,ha,hacc,hal,rfl⟩
 refine q_ (w_ (m_ (h:=f_ (h:=l_ (h:=n_ (h:=BJ (h:=e_ (?_))))))))
 refine A8 rfl (fun hb3=>?_) (fun hb3=>?_)
 ·have hc3:=bp hb3
  obtain⟨hlt,x,hy,hrow, -⟩:=CW Co hc3
  refine AG (q_ (Ao (q_ (w_ (f_ (h:=l_ (h:=m_ (h:=i_ (h:=f_ (h:=f_ (h:=l_ (h:=m_ (h:=AQ (h:=e_ (?_)))))))))))))))
  refine A8 rfl (fun hb4=>?_) (fun hb4=>?_)
  ·have hc4:=bp hb4
   have hany:(s.mounts.any fun m=>decide (m.2.1=dev))=true:=KE hy (decide_eq_true hc4)
   refine w_ (AT (h:=s_ (h:=a_ (h:=e_ (A6 (A7 (AR (A7 (A7 (AR (A7 (?_))))))))))))
   refine Aj (r:=Er (FC s dev)) none (h5:=?_) (h6:=⟨rfl,rfl,rfl⟩)
   rw[FC,if_neg (by simp[hc1,hc2]),if_pos hany]
   exact Gt _
  have hc4:=bp hb4
  refine AG (w_ (f_ (h:=l_ (h:=m_ (h:=i_ (h:=f_ (h:=l_ (h:=m_ (h:=BF (h:=e_ (?_)))))))))))
  refine A8 rfl (fun hb5=>?_) (fun hb5=>?_)
  ·have hc5:=bp hb5
   have hk:(s.mounts.take (j+1)).filter (fun m=>decide (m.1≠dev))=acc++[x]:=by rw[List.take_add_one,hy,List.filter_append,hacc];simp[hc5]
   refine AP (m_ (h:=f_ (h:=l_ (h:=m_ (h:=i_ (h:=l_ (h:=Bm (h:=?_))))))))
   refine A4 rfl (E3 rfl rfl rfl (by simp;omega) (by repeat constructor) ?_)
   refine a_ (h:=AO (Ay (t_ (AP (m_ (h:=B8 (h:=a_ (h:=AO (?_)))))))))
   refine AD ?_
   exact⟨s.mounts.length - (j+1),_,by omega,⟨j+1,acc++[x],by omega,rfl,Dw hy ha (decide_eq_false hc4),hk,by simp;omega,rfl⟩,(by rw[List.map_append];exact Az 2 1 rfl rfl rfl rfl ((by repeat (first|exact Sub.nil|refine Sub.cons _ _ _ rfl rfl ?_|refine Sub.any _ _ ?_|refine Sub.sl _ _ _ _ _ rfl ?_|refine Sub.slnil _ _ _ rfl ?_))))⟩
  have hc5:=bp hb5
  have hk:(s.mounts.take (j+1)).filter (fun m=>decide (m.1≠dev))=acc:=by rw[List.take_add_one,hy,List.filter_append,hacc];simp[hc5]
  refine BB (Ay (t_ (AP (m_ (h:=B8 (h:=a_ (h:=AO (?_))))))))
  refine AD ?_
  first|exact⟨s.mounts.length - (j+1),_,by omega,⟨j+1,acc++[x],by omega,rfl,Dw hy ha (decide_eq_false hc4),hk,by simp;omega,rfl⟩,(by rw[List.map_append];exact Az 2 1 rfl rfl rfl rfl ((by repeat (first|exact Sub.nil|refine Sub.cons _ _ _ rfl rfl ?_|refine Sub.any _ _ ?_|refine Sub.sl _ _ _ _ _ rfl ?_|refine Sub.slnil _ _ _ rfl ?_))))⟩|exact⟨s.mounts.length - (j+1),_,by omega,⟨j+1,acc,by omega,rfl,Dw hy ha (decide_eq_false hc4),hk,by omega,rfl⟩,Az 2 1 rfl rfl rfl rfl ((by repeat (first|exact Sub.nil|refine Sub.cons _ _ _ rfl rfl ?_|refine Sub.any _ _ ?_|refine Sub.sl _ _ _ _ _ rfl ?_|refine Sub.slnil _ _ _ rfl ?_)))⟩
 have hc3:=bp hb3
 have e3:=Ck Co hj hc3
 subst e3
 have hany:(s.mounts.any fun m=>decide (m.2.1=dev))=false:=Ky ha
 rw[List.take_length]at hacc
 refine BO (Aq (Aq (BQ (t_ (w_ (l_ (h:=?_)))))))
 refine A4 rfl (SR rfl (by repeat (first|exact Args.nil|refine Args.cons _ _ _ _ _ rfl (Kq rfl) ?_|refine Args.cons _ _ _ _ _ rfl (Lv _) ?_|refine Args.cons _ _ _ _ _ rfl (Ko _) ?_|refine Args.cons _ _ _ _ _ rfl (Lz rfl (by repeat (first|exact LeA.refl _|exact LeA.nil _|exact LeL.refl _|refine LeA.agg ?_|refine LeA.tup ?_|exact LeL.nil|refine LeL.cons ?_ ?_|exact LeA.any _))) ?_)) (UC s hs) (fun _=>rfl) (by repeat constructor) ?_)
 refine AW (h:=s_ (h:=e_ (w_ (m_ (h:=f_ (h:=s_ (h:=e_ (w_ (l_ (h:=s_ (h:=a_ (h:=e_ (A6 (?_))))))))))))))
 refine AB ?_
 rw[FC,if_neg (by simp[hc1,hc2]),if_neg (by simp[hany]),hacc]
 rfl
end
theorem UD(z:Int){n:Int}(h:1≤n): -n<z.tmod n∧z.tmod n<n:=⟨Int.lt_tmod_of_pos z (by omega),Int.tmod_lt_of_pos z (by omega)⟩
theorem GS(a b:ByteArray):(a++b).size=a.size+b.size:=ByteArray.size_append
section
theorem Zf(l:List Int):ACall Tryz.prog 12 [.sl 1 (l.map C5) none] [] (fun r b t=>r= .bp 0 0∧b=[DY l 0]∧t=[]):=by
 refine enter Tryz.func12 rfl rfl rfl rfl rfl 1 rfl ?_
 refine w_ (a_ (h:=e_ (w_ (m_ (h:=AT (h:=b_ (h:=a_ (h:=e_ (A6 (?_))))))))))
 refine Aj none (h5:=(LeA.refl _)) (h6:=⟨rfl,rfl,rfl⟩)
theorem Gn(l:List Int)(a:Nat)(n:Int)(ha:a≤1000000000000)(hn:n≤1000000000000):Fq Tryz.prog 21 l a [.v (.int .i64 n)] 1 (fun r=>∃k:Int,r= .v (.int .i64 k)∧0≤k∧(1≤n→k<n)∧(n<1→k=0)):=by
 refine enter Tryz.func21 rfl rfl rfl rfl rfl 1 rfl ?_
 refine w_ (a_ (h:=e_ (q_ (w_ (m_ (h:=BJ (h:=e_ (?_))))))))
 refine A8 rfl (fun hb1=>?_) (fun hb1=>?_)
 ·have hc1:=bp hb1
  refine w_ (a_ (h:=e_ (A6 (A7 (?_)))))
  refine Aj none (h5:=(LeA.refl _)) (h6:=⟨_,rfl,rfl,a,by omega,rfl,0,rfl,by omega,by omega,by omega⟩)
 have hc1:=bp hb1
 refine AG (w_ (m_ (h:=k_ (h:=f_ (h:=l_ (h:=B8 (h:=k_ (h:=f_ (h:=s_ (h:=e_ (w_ (m_ (h:=k_ (h:=f_ (h:=l_ (h:=Xd (h:=a_ (h:=e_ (q_ (q_ (DT 10 (h:=AN 0 (h:=B7 1 (h:=?_))))))))))))))))))))))))
 refine AF 2 (h:=AJ 3 (h:=AN 4 (h:=B7 5 (h:=AF 6 (h:=AJ 7 (h:=K7 8 (h:=Xe 9 (h:=z_ (h:=t_ (?_))))))))))
 refine A8 rfl (fun hb2=>?_) (fun hb2=>?_)
 ·have hc2:=bp hb2
  have hlt:a<l.length:=by simp at hc2;omega
  obtain⟨z,hz⟩:∃z,(l.map C5)[a]?=some (C5 z):=⟨l[a],by simp[hlt]⟩
  have tz:=UD z (n:=n) (by omega)
  refine DT 12 (h:=AN 0 (h:=B7 1 (h:=AF 2 (h:=AJ 3 (h:=AN 4 (h:=B7 5 (h:=AF 6 (h:=AJ 7 (h:=PZ 8 (h:=?_))))))))))
  refine FL (i:=9) rfl (CS (n:=a) rfl rfl (by omega) hz ⟨rfl,rfl⟩) ?_
  refine AJ 10 (h:=BC 11 (h:=z_ (h:=t_ (w_ (m_ (h:=m_ (h:=?_)))))))
  refine A4 rfl (S5 rfl rfl (by omega) ?_)
  refine a_ (h:=e_ (q_ (w_ (m_ (h:=BJ (h:=e_ (?_)))))))
  refine A8 rfl (fun hb3=>?_) (fun hb3=>?_)
  ·have hc3:=bp hb3
   refine AP (m_ (h:=m_ (h:=?_)))
   refine A4 rfl (Ju rfl rfl (by omega) ?_)
   refine a_ (h:=e_ (w_ (m_ (h:=a_ (h:=e_ (A6 (?_)))))))
   refine Aj none (h5:=(LeA.refl _)) (h6:=⟨_,rfl,rfl,a+1,by omega,rfl,_,rfl,by omega,by omega,by omega⟩)
  have hc3:=bp hb3
  refine AG (w_ (m_ (h:=a_ (h:=e_ (A6 (?_))))))
  refine Aj none (h5:=(LeA.refl _)) (h6:=⟨_,rfl,rfl,a+1,by omega,rfl,_,rfl,by omega,by omega,by omega⟩)
 have hc2:=bp hb2
 have tz:=UD (IntKind.i64.wrap (((a:Int)+1) * 7)) (n:=n) (by omega)
 refine AG (w_ (m_ (h:=m_ (h:=?_))))
 refine A4 rfl (S5 rfl rfl (by omega) ?_)
 refine a_ (h:=e_ (q_ (w_ (m_ (h:=BJ (h:=e_ (?_)))))))
 refine A8 rfl (fun hb4=>?_) (fun hb4=>?_)
 ·have hc4:=bp hb4
  refine AP (m_ (h:=m_ (h:=?_)))
  refine A4 rfl (Ju rfl rfl (by omega) ?_)
  refine a_ (h:=e_ (w_ (m_ (h:=a_ (h:=e_ (A6 (?_)))))))
  refine Aj none (h5:=(LeA.refl _)) (h6:=⟨_,rfl,rfl,a+1,by omega,rfl,_,rfl,by omega,by omega,by omega⟩)
 have hc4:=bp hb4
 refine AG (w_ (m_ (h:=a_ (h:=e_ (A6 (?_))))))
 refine Aj none (h5:=(LeA.refl _)) (h6:=⟨_,rfl,rfl,a+1,by omega,rfl,_,rfl,by omega,by omega,by omega⟩)
theorem GT(l:List Int)(a:Nat)(lo hi:Int)(ha:a≤1000000000000)(h1: -1000000≤lo)(h2:lo≤hi)(h3:hi≤1000000):Fq Tryz.prog 14 l a [.v (.int .i64 lo), .v (.int .i64 hi)] 1 (fun r=>∃k:Int,r= .v (.int .i64 k)∧lo≤k∧k≤hi):=by
 refine enter Tryz.func14 rfl rfl rfl rfl rfl 1 rfl ?_
 refine w_ (a_ (h:=e_ (w_ (m_ (h:=m_ (h:=m_ (h:=m_ (h:=Ns (h:=B8 (h:=?_))))))))))
 refine A4 rfl (BU 0 (hc:=Gn l a (hi - lo+1) ha (by omega)) (hR:=?_))
 rintro r a1 ha1 ⟨k,rfl,k1,k2,k3⟩
 refine⟨rfl,_,(by repeat constructor),?_⟩
 refine B8 (h:=a_ (h:=e_ (A6 (?_))))
 refine Aj none (h5:=(LeA.refl _)) (h6:=⟨_,rfl,rfl,a1,by omega,rfl,_,rfl,by omega,by omega⟩)
theorem Jj(l:List Int)(a:Nat)(rows:List (List AV))(p:Int→Bool)(ha:a≤1000000000000)(h0:Nat.blt 0 rows.length=true)(h1:Nat.ble rows.length 1000=true)(hp:Nk p rows=true):Fq Tryz.prog 32 l a [.sl 1 rows none] 1 (fun r=>∃z:Int,r= .v (.int .i64 z)∧p z=true):=by
 have h0':0<rows.length:=BT h0
 have h1':rows.length≤1000:=BT h1
 refine enter Tryz.func32 rfl rfl rfl rfl rfl 1 rfl ?_
 refine w_ (a_ (h:=e_ (w_ (m_ (h:=m_ (h:=m_ (h:=n_ (h:=?_))))))))
 refine A4 rfl (BU 0 (hc:=Gn l a rows.length ha (by omega)) (hR:=?_))
 rintro r a1 ha1 ⟨k,rfl,k1,k2,k3⟩
 refine⟨rfl,_,(by repeat constructor),?_⟩
 obtain⟨m,rfl⟩:=Int.eq_ofNat_of_zero_le k1
 obtain⟨z,hz,pz⟩:=Sd hp (i:=m) (by omega)
 refine A4 rfl (CS (n:=m) rfl rfl rfl hz ?_)
 refine l_ (h:=a_ (h:=e_ (A6 (?_))))
 refine Aj none (h5:=(LeA.refl _)) (h6:=⟨_,rfl,rfl,a1,by omega,rfl,z,rfl,pz⟩)
theorem LC(l:List Int)(a:Nat)(rows:List (List AV))(p:ByteArray→Bool)(ha:a≤1000000000000)(h0:Nat.blt 0 rows.length=true)(h1:Nat.ble rows.length 1000=true)(hp:Nl p rows=true):Fq Tryz.prog 50 l a [.sl 1 rows none] 1 (fun r=>∃z:ByteArray,r= .v (.string z)∧p z=true):=by
 have h0':0<rows.length:=BT h0
 have h1':rows.length≤1000:=BT h1
 refine enter Tryz.func50 rfl rfl rfl rfl rfl 1 rfl ?_
 refine w_ (a_ (h:=e_ (w_ (m_ (h:=m_ (h:=m_ (h:=n_ (h:=?_))))))))
 refine A4 rfl (BU 0 (hc:=Gn l a rows.length ha (by omega)) (hR:=?_))
 rintro r a1 ha1 ⟨k,rfl,k1,k2,k3⟩
 refine⟨rfl,_,(by repeat constructor),?_⟩
 obtain⟨m,rfl⟩:=Int.eq_ofNat_of_zero_le k1
 obtain⟨z,hz,pz⟩:=Se hp (i:=m) (by omega)
 refine A4 rfl (CS (n:=m) rfl rfl rfl hz ?_)
 refine l_ (h:=a_ (h:=e_ (A6 (?_))))
 refine Aj none (h5:=(LeA.refl _)) (h6:=⟨_,rfl,rfl,a1,by omega,rfl,z,rfl,pz⟩)
theorem UE(l:List Int)(a:Nat)(ha:a≤100000000000):Fq Tryz.prog 23 l a [] 2 (fun r=>∃s:ByteArray,r= .v (.string s)∧s.size≤13):=by
 refine enter Tryz.func23 rfl rfl rfl rfl rfl 1 rfl ?_
 refine w_ (a_ (h:=e_ (q_ (w_ (m_ (h:=?_))))))
 refine A4 rfl (BU 0 (hc:=Gn l _ (20) (by omega) (by omega)) (hR:=?_))
 rintro r a1 ha1 ⟨k1,rfl,p1,q1,o1⟩
 refine⟨rfl,_,(by repeat constructor),?_⟩
 refine AQ (h:=e_ (?_))
 refine A8 rfl (fun hb1=>?_) (fun hb1=>?_)
 ·have hc1:=bp hb1
  refine w_ (m_ (h:=Bm (h:=?_)))
  refine A4 rfl (BU 0 (hc:=LC l _ _ (fun s=>decide (s.size≤13)) (by omega) (by rfl) (by rfl) (by rfl)) (hR:=?_))
  rintro r a2 ha2 ⟨k2,rfl,p2⟩
  refine⟨rfl,_,(by repeat constructor),?_⟩
  refine a_ (h:=e_ (A6 (A7 (?_))))
  refine Aj none (h5:=(LeA.refl _)) (h6:=⟨_,rfl,rfl,_,?_,rfl,_,rfl,of_decide_eq_true ‹_›⟩)<;>omega
 have hc1:=bp hb1
 refine AG (w_ (m_ (h:=Bm (h:=?_))))
 refine A4 rfl (BU 0 (hc:=LC l _ _ (fun s=>decide (s.size≤13)) (by omega) (by rfl) (by rfl) (by rfl)) (hR:=?_))
 rintro r a3 ha3 ⟨k3,rfl,p3⟩
 refine⟨rfl,_,(by repeat constructor),?_⟩
 refine a_ (h:=e_ (A6 (?_)))
 refine Aj none (h5:=(LeA.refl _)) (h6:=⟨_,rfl,rfl,_,?_,rfl,_,rfl,of_decide_eq_true ‹_›⟩)<;>omega
theorem LD(l:List Int)(a:Nat)(ha:a≤50000000000):Fq Tryz.prog 16 l a [] 20 (fun r=>∃s:ByteArray,r= .v (.string s)∧s.size≤58):=by
 have e1:(⟨#[47]⟩:ByteArray).size=1:=rfl
 have e0:(⟨#[]⟩:ByteArray).size=0:=rfl
 refine enter Tryz.func16 rfl rfl rfl rfl rfl 1 rfl ?_
 refine w_ (a_ (h:=e_ (w_ (a_ (h:=e_ (?_))))))
 refine B5 (fun s=>∃(b:Nat) (t:ByteArray),b≤a+1∧t.size≤1∧s=⟨look [(0, .bp 0 0),(3, .v (.string t))],⟨[DY l b],[]⟩⟩) ?_ ?_
 ·skip
  refine w_ (m_ (h:=?_))
  refine A4 rfl (BU 0 (hc:=Gn l _ (6) (by omega) (by omega)) (hR:=?_))
  rintro r a1 ha1 ⟨k1,rfl,p1,q1,o1⟩
  refine⟨rfl,_,(by repeat constructor),?_⟩
  refine CZ (h:=e_ (?_))
  refine A8 rfl (fun hb1=>?_) (fun hb1=>?_)
  ·have hc1:=bp hb1
   refine AP (a_ (h:=AO (?_)))
   refine AD ?_
   refine⟨_,⟨_,_,?_,?_,rfl⟩,(wk 1 0)⟩<;>first|omega|exact BT rfl
  have hc1:=bp hb1
  refine BB (?_)
  refine AD ?_
  refine⟨_,⟨_,_,?_,?_,rfl⟩,(wk 1 0)⟩<;>first|omega|exact BT rfl
 rintro s ⟨b,t0,hb,ht0,rfl⟩
 refine w_ (m_ (h:=Bm (h:=?_)))
 refine A4 rfl (BU 0 (hc:=Jj l _ _ (fun z=>decide (0≤z∧z≤4)) (by omega) (by rfl) (by rfl) (by rfl)) (hR:=?_))
 rintro r a2 ha2 ⟨k2,rfl,p2⟩
 refine⟨rfl,_,(by repeat constructor),?_⟩
 obtain⟨hz1,hz2⟩:=of_decide_eq_true p2
 obtain⟨m,rfl⟩:=Int.eq_ofNat_of_zero_le hz1
 refine a_ (h:=e_ (q_ (w_ (a_ (h:=e_ (Ao (?_)))))))
 refine Ba (fun n s=>∃(j b1:Nat) (t:ByteArray),j≤m∧n=m - j∧b1≤b+1+4 * j∧t.size≤1+14 * j∧s=⟨look [(0, .bp 0 0),(3, .v (.string t)),(4, .v (.int .i64 (m:Int))),(5, .v (.int .i64 (j:Int)))],⟨[DY l b1],[]⟩⟩) (m) ((wk 1 0)) (⟨0,_,t0,by omega,rfl,by omega,by omega,rfl⟩) ?_
 rintro n s ⟨j,b1,t,hj,rfl,hb1,ht,rfl⟩
 refine q_ (w_ (m_ (h:=m_ (h:=BJ (h:=e_ (?_))))))
 refine A8 rfl (fun hb2=>?_) (fun hb2=>?_)
 ·have hc2:=bp hb2
  refine AG (?_)
  refine B5 (fun s=>∃(b3:Nat) (t1:ByteArray),b3≤b1+4∧t1.size≤1+14 * (j+1)∧s=⟨look [(0, .bp 0 0),(3, .v (.string t1)),(4, .v (.int .i64 (m:Int))),(5, .v (.int .i64 (j:Int)))],⟨[DY l b3],[]⟩⟩) ?_ ?_
  ·skip
   refine Ao (q_ (w_ (m_ (h:=CZ (h:=e_ (?_))))))
   refine A8 rfl (fun hb3=>?_) (fun hb3=>?_)
   ·have hc3:=bp hb3
    refine AP (m_ (h:=?_))
    refine A4 rfl (Ej rfl rfl (by(try simp only[GS]);omega) ?_)
    refine a_ (h:=e_ (w_ (m_ (h:=?_))))
    refine A4 rfl (BU 0 (hc:=Gn l _ (8) (by omega) (by omega)) (hR:=?_))
    rintro r a3 ha3 ⟨k3,rfl,p3,q3,o3⟩
    refine⟨rfl,_,(by repeat constructor),?_⟩
    refine AQ (h:=e_ (?_))
    refine A8 rfl (fun hb4=>?_) (fun hb4=>?_)
    ·have hc4:=bp hb4
     refine AP (m_ (h:=m_ (h:=Bm (h:=?_))))
     refine A4 rfl (BU 0 (hc:=LC l _ _ (fun s=>decide (s.size≤13)) (by omega) (by rfl) (by rfl) (by rfl)) (hR:=?_))
     rintro r a4 ha4 ⟨k4,rfl,p4⟩
     refine⟨rfl,_,(by repeat constructor),?_⟩
     have hw:=of_decide_eq_true p4
     refine A4 rfl (Ej rfl rfl (by(try simp only[GS]);omega) ?_)
     refine a_ (h:=AO (Ay (?_)))
     refine AD ?_
     refine⟨_,⟨_,_,?_,?_,rfl⟩,(wk 1 0)⟩<;>(try simp only[GS])<;>omega
    have hc4:=bp hb4
    refine AP (m_ (h:=m_ (h:=?_)))
    refine A4 rfl (BU 0 (hc:=UE l _ (by omega)) (hR:=?_))
    rintro r a5 ha5 ⟨k5,rfl,hw⟩
    refine⟨rfl,_,(by repeat constructor),?_⟩
    refine A4 rfl (Ej rfl rfl (by(try simp only[GS]);omega) ?_)
    refine a_ (h:=AO (Ay (?_)))
    refine AD ?_
    refine⟨_,⟨_,_,?_,?_,rfl⟩,(wk 1 0)⟩<;>(try simp only[GS])<;>omega
   have hc3:=bp hb3
   refine AG (w_ (m_ (h:=?_)))
   refine A4 rfl (BU 0 (hc:=Gn l _ (8) (by omega) (by omega)) (hR:=?_))
   rintro r a6 ha6 ⟨k6,rfl,p6,q6,o6⟩
   refine⟨rfl,_,(by repeat constructor),?_⟩
   refine AQ (h:=e_ (?_))
   refine A8 rfl (fun hb5=>?_) (fun hb5=>?_)
   ·have hc5:=bp hb5
    refine AP (m_ (h:=m_ (h:=Bm (h:=?_))))
    refine A4 rfl (BU 0 (hc:=LC l _ _ (fun s=>decide (s.size≤13)) (by omega) (by rfl) (by rfl) (by rfl)) (hR:=?_))
    rintro r a7 ha7 ⟨k7,rfl,p7⟩
    refine⟨rfl,_,(by repeat constructor),?_⟩
    have hw:=of_decide_eq_true p7
    refine A4 rfl (Ej rfl rfl (by(try simp only[GS]);omega) ?_)
    refine a_ (h:=AO (Ay (?_)))
    refine AD ?_
    refine⟨_,⟨_,_,?_,?_,rfl⟩,(wk 1 0)⟩<;>(try simp only[GS])<;>omega
   have hc5:=bp hb5
   refine AP (m_ (h:=m_ (h:=?_)))
   refine A4 rfl (BU 0 (hc:=UE l _ (by omega)) (hR:=?_))
   rintro r a8 ha8 ⟨k8,rfl,hw⟩
   refine⟨rfl,_,(by repeat constructor),?_⟩
   refine A4 rfl (Ej rfl rfl (by(try simp only[GS]);omega) ?_)
   refine a_ (h:=AO (Ay (?_)))
   refine AD ?_
   refine⟨_,⟨_,_,?_,?_,rfl⟩,(wk 1 0)⟩<;>(try simp only[GS])<;>omega
  rintro s ⟨b3,t1,hb3,ht1,rfl⟩
  refine AP (m_ (h:=B8 (h:=a_ (h:=AO (?_)))))
  refine AD ?_
  refine⟨_,_,?_,⟨j+1,_,_,by omega,rfl,?_,?_,rfl⟩,(wk 1 0)⟩<;>omega
 have hc2:=bp hb2
 refine BO (Aq (Aq (BQ (t_ (q_ (w_ (m_ (h:=?_))))))))
 refine A4 rfl (BU 0 (hc:=Gn l _ (8) (by omega) (by omega)) (hR:=?_))
 rintro r a9 ha9 ⟨k9,rfl,p9,q9,o9⟩
 refine⟨rfl,_,(by repeat constructor),?_⟩
 refine AQ (h:=e_ (?_))
 refine A8 rfl (fun hb6=>?_) (fun hb6=>?_)
 ·have hc6:=bp hb6
  refine AP (m_ (h:=?_))
  refine A4 rfl (Ej rfl rfl (by(try simp only[GS]);omega) ?_)
  refine a_ (h:=e_ (w_ (m_ (h:=a_ (h:=e_ (A6 (?_)))))))
  refine Aj none (h5:=(LeA.refl _)) (h6:=⟨_,rfl,rfl,_,?_,rfl,_,rfl,?_⟩)<;>(try simp only[GS])<;>omega
 have hc6:=bp hb6
 refine AG (w_ (m_ (h:=a_ (h:=e_ (A6 (?_))))))
 refine Aj none (h5:=(LeA.refl _)) (h6:=⟨_,rfl,rfl,_,?_,rfl,_,rfl,?_⟩)<;>(try simp only[GS])<;>omega
end
section
theorem Zg(l:List Int)(a:Nat)(f:AZ)(ha:a≤100000000000)(hf:FlsB f)(hne:∀d∈f,0<d.nodes.length):Fq Tryz.prog 22 l a [.agg (As f)] 4 (fun r=>∃x:A9,r= .agg (AA x)):=by
 have hfew:=hf.few
 have hml:(f.map Bn).length=f.length:=by simp
 refine enter Tryz.func22 rfl rfl rfl rfl rfl 1 rfl ?_
 refine w_ (b_ (h:=AW (h:=e_ (w_ (m_ (h:=f_ (h:=l_ (h:=n_ (h:=?_)))))))))
 refine A4 rfl (BU 0 (hc:=Gn l _ ((f.map Bn).length:Int) (by omega) (by omega)) (hR:=?_))
 rintro r a1 ha1 ⟨k1,rfl,p1,q1,o1⟩
 refine⟨rfl,_,(by repeat constructor),?_⟩
 obtain⟨m,rfl⟩:=Int.eq_ofNat_of_zero_le p1
 refine a_ (h:=e_ (q_ (w_ (f_ (h:=l_ (h:=n_ (h:=AQ (h:=m_ (h:=?_)))))))))
 refine Ax false rfl rfl (fun hb1=>?_) (fun hb1=>?_)
 ·have hc1:=bp hb1
  refine A3 (h:=A3 (h:=A3 (h:=Af (h:=e_ (Bf (h:=w_ (m_ (h:=?_))))))))
  refine A4 rfl (BU 0 (hc:=GT l _ (-1) (3) (by omega) (by omega) (by omega) (by omega)) (hR:=?_))
  rintro r a2 ha2 ⟨k2,rfl,p2,q2⟩
  refine⟨rfl,_,(by repeat constructor),?_⟩
  refine m_ (h:=?_)
  refine A4 rfl (BU 0 (hc:=GT l _ (-1) (9) (by omega) (by omega) (by omega) (by omega)) (hR:=?_))
  rintro r a3 ha3 ⟨k3,rfl,p3,q3⟩
  refine⟨rfl,_,(by repeat constructor),?_⟩
  refine AT (h:=s_ (h:=e_ (A6 (A7 (?_)))))
  refine Aj none (h5:=(LeA.refl _)) (h6:=⟨_,rfl,rfl,_,?_,rfl,(_,_),rfl⟩)<;>omega
 have hc1:=bp hb1
 refine m_ (h:=?_)
 refine B6 (BU 0 (hc:=Gn l _ (24) (by omega) (by omega)) (hR:=?_))
 rintro r a4 ha4 ⟨k4,rfl,p4,q4,o4⟩
 refine⟨rfl,_,(by repeat constructor),?_⟩
 refine AQ (h:=Am (h:=e_ (?_)))
 refine A8 rfl (fun hb2=>?_) (fun hb2=>?_)
 ·have hc2:=bp hb2
  refine w_ (m_ (h:=?_))
  refine A4 rfl (BU 0 (hc:=GT l _ (-1) (3) (by omega) (by omega) (by omega) (by omega)) (hR:=?_))
  rintro r a5 ha5 ⟨k5,rfl,p5,q5⟩
  refine⟨rfl,_,(by repeat constructor),?_⟩
  refine m_ (h:=?_)
  refine A4 rfl (BU 0 (hc:=GT l _ (-1) (9) (by omega) (by omega) (by omega) (by omega)) (hR:=?_))
  rintro r a6 ha6 ⟨k6,rfl,p6,q6⟩
  refine⟨rfl,_,(by repeat constructor),?_⟩
  refine AT (h:=s_ (h:=e_ (A6 (A7 (?_)))))
  refine Aj none (h5:=(LeA.refl _)) (h6:=⟨_,rfl,rfl,_,?_,rfl,(_,_),rfl⟩)<;>omega
 have hc2:=bp hb2
 obtain⟨-,d,hd,hrow, -⟩:=CW Bn (l:=f) (k:=m) (by omega)
 have hdn:=hf.nodes d (Au hd)
 have hpos:=hne d (Au hd)
 have hdl:(d.nodes.map Ah).length=d.nodes.length:=by simp
 refine AG (w_ (f_ (h:=l_ (h:=m_ (h:=?_)))))
 refine A4 rfl (CS (n:=m) rfl rfl rfl hrow ?_)
 refine f_ (h:=l_ (h:=a_ (h:=e_ (w_ (m_ (h:=m_ (h:=m_ (h:=m_ (h:=n_ (h:=?_))))))))))
 refine A4 rfl (BU 0 (hc:=Gn l _ ((d.nodes.map Ah).length:Int) (by omega) (by omega)) (hR:=?_))
 rintro r a7 ha7 ⟨k7,rfl,p7,q7,o7⟩
 refine⟨rfl,_,(by repeat constructor),?_⟩
 obtain⟨i,rfl⟩:=Int.eq_ofNat_of_zero_le p7
 obtain⟨-,n,hn,hrow2, -⟩:=CW Ah (l:=d.nodes) (k:=i) (by omega)
 refine A4 rfl (CS (n:=i) rfl rfl rfl hrow2 ?_)
 refine f_ (h:=l_ (h:=AT (h:=s_ (h:=e_ (A6 (?_))))))
 refine Aj none (h5:=(LeA.refl _)) (h6:=⟨_,rfl,rfl,_,?_,rfl,(_,_),rfl⟩)<;>omega
end
theorem FlsV.ne{f:AZ}(h:FlsV f):∀d∈f,0<d.nodes.length:=fun d hd=>by
 obtain⟨r,rest,hr,_⟩:=(h.vd d hd).root
 rw[hr];simp
theorem Zh:VD Ku:=by
 refine⟨by decide,by decide,by decide,⟨Nv,[],rfl,rfl,rfl,rfl⟩,List.pairwise_singleton _ _,?_,?_,?_,?_,?_,?_,?_,?_,?_,⟨fun _=>0,?_⟩⟩<;>
  (intro n hn;obtain rfl:n=Nv:=by simpa[Ku]using hn)
 ·decide
 ·decide+kernel
 ·intro h;exact absurd rfl h
 ·decide
 ·exact List.Pairwise.nil
 ·intro e he;cases he
 ·intro h;exact absurd rfl h
 ·intro h;exact absurd rfl h
 ·intro h;exact absurd rfl h
 intro h;exact absurd rfl h
theorem UF{k:Int}(h1:1≤k)(h2:k≤3):FlsV (ER k).1∧0<(ER k).1.length:=by
 unfold ER
 rw[if_neg (by omega)]
 refine⟨⟨?_,fun d hd=>?_⟩,?_⟩
 ·show(List.replicate _ _).length≤3
  rw[List.length_replicate];omega
 ·rw[(List.mem_replicate.1 hd).2];exact Zh
 show 0<(List.replicate _ _).length
 rw[List.length_replicate];omega
structure MntOK(f:AZ)(ms:List D6)(m:D6):Prop where
 dev1:1≤m.1
 dev2:m.1<(f.length:Int)
 fresh:Bl ⟨f,ms⟩ m.1=false
 dir:AX f m.2=true
 there:Bl ⟨f,ms⟩ m.2.1=true
 free:(Bo ⟨f,ms⟩ m.2).isSome=false
structure SpcV(s:Spc):Prop where
 files:FlsV s.files
 pos:0<s.files.length
 mnt:∀i m,s.mounts[i]?=some m→MntOK s.files (s.mounts.take i) m
theorem Zi{s:Spc}(h:SpcV s)(dev:Int)(a:A9)(h0:(DN s dev a).2=0):SpcV (DN s dev a).1∧(DN s dev a).1=⟨s.files,s.mounts++[(dev,a)]⟩:=by
 unfold DN at h0 ⊢
 split at h0
 ·exact absurd h0 (by decide)
 rename_i c1
 split at h0
 ·exact absurd h0 (by decide)
 rename_i c2
 split at h0
 ·exact absurd h0 (by decide)
 rename_i c3
 split at h0
 ·exact absurd h0 (by decide)
 rename_i c4
 split at h0
 ·exact absurd h0 (by decide)
 rename_i c5
 rw[if_neg c1,if_neg c2,if_neg c3,if_neg c4,if_neg c5]
 refine⟨⟨h.files,h.pos,fun i m hi=>?_⟩,rfl⟩
 simp only at hi ⊢
 rcases Nat.lt_trichotomy i s.mounts.length with hlt|heq|hgt
 ·rw[List.getElem?_append_left hlt]at hi
  rw[List.take_append_of_le_length (by omega)]
  exact h.mnt i m hi
 ·subst heq
  simp at hi
  subst hi
  rw[List.take_left' rfl]
  exact⟨by simp only;omega,by simp only;omega,by simpa using fun h=>c5 (.inl h),by simp only;rw[Fv];simp at c2 c3;simp[c2,c3],by simpa using fun h=>c4 (.inl h),Bool.eq_false_iff.2 fun h=>c5 (.inr h)⟩
 rw[List.getElem?_eq_none (by simp;omega)]at hi;cases hi
end Go.Proofs.YtbglbmnhgbgelaaGreatDoor
namespace Go.Proofs.YtbglbmnhgbgelaaGreatDoor
def Cc(s:Spc)(a:A9):Option A9:=if a.2≠1 then some (a.1,(Aa s.files a).parent)else Bd s a.1
def ends(s:Spc):Nat→A9→Prop
 |0,a=>AX s.files a=false
 |k+1,a=>AX s.files a=false∨∀b,Cc s a=some b→ends s k b
theorem Mn{s:Spc}{dev:Int}{on:A9}(h:Bd s dev=some on):∃m∈s.mounts,m.1=dev∧m.2=on:=by
 unfold Bd at h
 cases hf:s.mounts.find? fun m:D6=>decide (m.1=dev)with
 |none=>rw[hf]at h;cases h
 |some m=>
   rw[hf]at h
   injection h with h
   exact⟨m,List.mem_of_find?_eq_some hf,by have:=List.find?_some hf;simpa using this,h⟩
theorem JD{f:AZ}{a:A9}(h:¬AX f a=false):∃(q:Nat) (d:Dvc) (m:Nod),a.1=(q:Int)∧f[q]?=some d∧m∈d.nodes∧m.ino=a.2∧Aa f a=m∧m.kind=2:=by
 rw[Bool.not_eq_false,Fv,Bool.and_eq_true,decide_eq_true_eq]at h
 obtain⟨q,i,d,m,h1,h2,h3,h4,_,h6⟩:=Ml h.1
 exact⟨q,d,m,h1,h2,Au h3,h4,h6,by rw[←h6];exact h.2⟩
theorem KR{s:Spc}(hv:SpcV s){a:A9}(h:¬AX s.files a=false):EG s a=Cc s a:=by
 obtain⟨q,d,m,_,_,_,h4,h5,_⟩:=JD h
 unfold EG Cc
 rw[h5,h4]
 split
 ·rfl
 split
 ·rename_i h0
  cases ho:Bd s a.1 with
  |none=>rfl
  |some on=>
    obtain⟨m',hm,h1,_⟩:=Mn ho
    obtain⟨i,hi⟩:=List.getElem?_of_mem hm
    have:=(hv.mnt i m' hi).dev1
    omega
 rfl
def Jk(s:Spc)(dev:Int):Nat:=match s.mounts.findIdx? fun m:D6=>decide (m.1=dev)with
 |none=>0
 |some i=>i+1
theorem UG{s:Spc}(hv:SpcV s){dev:Int}{on:A9}(h:Bd s dev=some on):Jk s on.1<Jk s dev:=by
 unfold Bd at h
 cases hf:s.mounts.find? fun m:D6=>decide (m.1=dev)with
 |none=>rw[hf]at h;cases h
 |some m=>
   rw[hf]at h
   injection h with h
   subst h
   rw[List.find?_eq_some_iff_getElem]at hf
   obtain⟨hp,i,hi,hmi,hbefore⟩:=hf
   have e1:s.mounts.findIdx? (fun m:D6=>decide (m.1=dev))=some i:=by
    rw[List.findIdx?_eq_some_iff_getElem]
    exact⟨hi,by rw[hmi];exact hp,fun j hj=>by simpa using hbefore j hj⟩
   have hthere:=(hv.mnt i m (by rw[B3 hi,hmi])).there
   unfold Jk
   rw[e1]
   cases e2:s.mounts.findIdx? (fun m':D6=>decide (m'.1=m.2.1))with
   |none=>simp
   |some j=>
     simp only
     by_cases h0:m.2.1=0
     ·rw[List.findIdx?_eq_some_iff_getElem]at e2
      obtain⟨hj,h1,_⟩:=e2
      have:=(hv.mnt j _ (B3 hj)).dev1
      simp only[decide_eq_true_eq]at h1
      omega
     unfold Bl Bd at hthere
     simp only[Bool.or_eq_true,decide_eq_true_eq,h0,or_false,Option.isSome_map]at hthere
     cases hg:(s.mounts.take i).find? fun m':D6=>decide (m'.1=m.2.1)with
     |none=>rw[hg]at hthere;cases hthere
     |some m'=>
       rw[List.find?_eq_some_iff_getElem]at hg
       obtain⟨hp',k,hk,hmk,_⟩:=hg
       rw[List.findIdx?_eq_some_iff_getElem]at e2
       obtain⟨hj,_,hno⟩:=e2
       have hki:k<i:=by simp at hk;omega
       by_cases hjk:j≤k
       ·omega
       have:=hno k (by omega)
       simp only[List.getElem_take]at hmk
       rw[hmk]at this
       rw[hp']at this
       exact absurd rfl this
theorem Zj{s:Spc}(hv:SpcV s):∀(p:Nat) (a:A9),Jk s a.1<p→∃k,ends s k a:=by
 intro p
 induction p with
 |zero=>intro a h;omega
 |succ p ih=>
   intro a hp
   by_cases hd:AX s.files a=false
   ·exact⟨0,hd⟩
   obtain⟨q,d,m,hq,hfd,_⟩:=JD hd
   have hvd:=hv.files.vd d (Au hfd)
   obtain⟨rk,hrk⟩:=hvd.rank
   have key:∀(r:Nat) (ino:Int),rk ino<r→∃k,ends s k (a.1,ino):=by
    intro r
    induction r with
    |zero=>intro ino h;omega
    |succ r ihr=>
      intro ino hr
      by_cases hd2:AX s.files (a.1,ino)=false
      ·exact⟨0,hd2⟩
      obtain⟨q',d',m',hq',hfd',hm',hi',hn',hk'⟩:=JD hd2
      have:q'=q:=by simp only at hq';omega
      subst this
      rw[hfd]at hfd'
      injection hfd' with hfd'
      subst hfd'
      simp only at hi'
      by_cases h1:ino=1
      ·cases ho:Bd s a.1 with
       |none=>exact⟨1, .inr fun b hb=>by simp[Cc,h1,ho]at hb⟩
       |some on=>
         obtain⟨k,hk⟩:=ih on (by have:=UG hv ho;omega)
         refine⟨k+1, .inr fun b hb=>?_⟩
         simp[Cc,h1,ho]at hb
         rw[←hb];exact hk
      obtain⟨k,hk⟩:=ihr m'.parent (by have:=hrk m' hm' (by omega) hk';rw[hi']at this;omega)
      refine⟨k+1, .inr fun b hb=>?_⟩
      simp[Cc,h1,hn']at hb
      rw[←hb];exact hk
   exact key (rk a.2+1) a.2 (by omega)
theorem Jl{s:Spc}{a:A9}(h:AX s.files a=false):∀k,BE s k a=[]
 |0=>rfl
 |k+1=>by unfold BE;rw[h];rfl
theorem GU{s:Spc}{a:A9}(h:¬AX s.files a=false)(k:Nat):BE s (k+1) a=a::(match EG s a with
    |none=>[]
    |some b=>BE s k b):=by
 conv=>lhs;unfold BE
 rw[if_pos (by simpa using h)]
 cases EG s a<;>rfl
theorem Qg{s:Spc}(hv:SpcV s):∀(k k':Nat) (a:A9),ends s k a→ends s k' a→BE s k a=BE s k' a:=by
 intro k
 induction k with
 |zero=>intro k' a h _;rw[Jl h,Jl h]
 |succ k ih=>
   intro k' a h h'
   by_cases hd:AX s.files a=false
   ·rw[Jl hd,Jl hd]
   cases k' with
   |zero=>exact absurd h' hd
   |succ k'=>
     rw[GU hd,GU hd]
     have h1:=h.resolve_left hd
     have h2:=h'.resolve_left hd
     rw[←KR hv hd]at h1 h2
     cases hs:EG s a with
     |none=>rfl
     |some b=>simp only;rw[ih k' b (h1 b hs) (h2 b hs)]
theorem Qh{s:Spc}(hv:SpcV s):∀(k:Nat) (a x:A9),ends s k a→x∈BE s k a→(¬AX s.files x=false)∧∃j,ends s j x∧(BE s j x).length≤(BE s k a).length:=by
 intro k
 induction k with
 |zero=>intro a x h hx;cases hx
 |succ k ih=>
   intro a x h hx
   by_cases hd:AX s.files a=false
   ·rw[Jl hd]at hx;cases hx
   have h1:=h.resolve_left hd
   rw[←KR hv hd]at h1
   rw[GU hd]at hx
   rcases List.mem_cons.1 hx with rfl|hx
   ·exact⟨hd,k+1,h,Nat.le_refl _⟩
   rw[GU hd]
   cases hs:EG s a with
   |none=>rw[hs]at hx;cases hx
   |some b=>
     rw[hs]at hx
     obtain⟨h2,j,h3,h4⟩:=ih b x (h1 b hs) hx
     exact⟨h2,j,h3,by simp;omega⟩
theorem UH{s:Spc}(hv:SpcV s):∀(k:Nat) (a:A9),ends s k a→(BE s k a).Nodup:=by
 intro k
 induction k with
 |zero=>intro a h;exact List.nodup_nil
 |succ k ih=>
   intro a h
   by_cases hd:AX s.files a=false
   ·rw[Jl hd];exact List.nodup_nil
   have h1:=h.resolve_left hd
   rw[←KR hv hd]at h1
   cases hs:EG s a with
   |none=>rw[GU hd,hs];simp
   |some b=>
     have e:BE s (k+1) a=a::BE s k b:=by rw[GU hd,hs]
     rw[e,List.nodup_cons]
     refine⟨fun hm=>?_,ih b (h1 b hs)⟩
     obtain⟨_,j,h3,h4⟩:=Qh hv k b a (h1 b hs) hm
     rw[Qg hv j (k+1) a h3 h,e]at h4
     simp at h4
     omega
def LE:Nat→AZ→List A9
 |_,[]=>[]
 |q,d::ds=>d.nodes.map (fun n=>((q:Int),n.ino))++LE (q+1) ds
theorem UJ:∀(f:AZ) (q:Nat),(LE q f).length=BL f
 |[],_=>rfl
 |d::ds,q=>by
   have:=UJ ds (q+1)
   unfold BL at this ⊢
   simp only[LE,List.length_append,List.length_map,List.map_cons,List.sum_cons]
   omega
theorem UK:∀(f:AZ) (q i:Nat) (d:Dvc) (m:Nod),f[i]?=some d→m∈d.nodes→(((q+i:Nat):Int),m.ino)∈LE q f
 |[],_,i,_,_,h,_=>by simp at h
 |d0::ds,q,0,d,m,h,hm=>by
   simp only[List.getElem?_cons_zero,Option.some.injEq]at h
   subst h
   simp only[LE,Nat.add_zero]
   exact List.mem_append_left _ (List.mem_map.2 ⟨m,hm,rfl⟩)
 |d0::ds,q,i+1,d,m,h,hm=>by
   simp only[List.getElem?_cons_succ]at h
   have:=UK ds (q+1) i d m h hm
   simp only[LE]
   refine List.mem_append_right _ ?_
   rwa [show q+(i+1)=q+1+i by omega]
theorem Zk{l:List A9}(hn:l.Nodup):∀{m:List A9},(∀x∈l,x∈m)→l.length≤m.length:=by
 induction l with
 |nil=>intro m _;simp
 |cons x xs ih=>
   intro m h
   rw[List.nodup_cons]at hn
   have h1:=ih hn.2 (m:=m.erase x) fun y hy=>by
    have hne:y≠x:=fun e=>hn.1 (e ▸ hy)
    exact(List.mem_erase_of_ne hne).2 (h y (List.mem_cons_of_mem _ hy))
   have h2:=List.length_erase_of_mem (h x (List.mem_cons_self ..))
   have h3:0<m.length:=List.length_pos_of_mem (h x (List.mem_cons_self ..))
   simp only[List.length_cons]
   omega
theorem Zl{s:Spc}(hv:SpcV s){k:Nat}{a:A9}(h:ends s k a):(BE s k a).length≤BL s.files:=by
 rw[←UJ s.files 0]
 refine Zk (UH hv k a h) fun x hx=>?_
 obtain⟨hd,_⟩:=Qh hv k a x h hx
 obtain⟨q,d,m,h1,h2,h3,h4,_⟩:=JD hd
 have:=UK s.files 0 q d m h2 h3
 rw[Nat.zero_add,h4,←h1]at this
 exact this
theorem Zm{s:Spc}(hv:SpcV s):∀(k m:Nat) (a:A9),ends s k a→(BE s k a).length≤m→ends s m a:=by
 intro k
 induction k with
 |zero=>
   intro m a h _
   cases m with
   |zero=>exact h
   |succ m=>exact .inl h
 |succ k ih=>
   intro m a h hl
   by_cases hd:AX s.files a=false
   ·cases m with
    |zero=>exact hd
    |succ m=>exact .inl hd
   have h1:=h.resolve_left hd
   rw[GU hd]at hl
   cases m with
   |zero=>simp at hl
   |succ m=>
     refine .inr fun b hb=>?_
     have hb':=hb
     rw[←KR hv hd]at hb'
     rw[hb']at hl
     exact ih m b (h1 b hb) (by simpa using hl)
theorem Gu{s:Spc}(hv:SpcV s)(a:A9):ends s (BL s.files) a:=by
 obtain⟨k,hk⟩:=Zj hv (Jk s a.1+1) a (Nat.lt_succ_self _)
 exact Zm hv k _ a hk (Zl hv hk)
end Go.Proofs.YtbglbmnhgbgelaaGreatDoor
namespace Go.Proofs.YtbglbmnhgbgelaaGreatDoor
theorem Zn{s:Spc}(hv:SpcV s):∀(k:Nat) (a x:A9),ends s k a→x∈BE s k a→∃j,ends s j x∧BE s j x<:+BE s k a:=by
 intro k
 induction k with
 |zero=>intro a x h hx;cases hx
 |succ k ih=>
   intro a x h hx
   by_cases hd:AX s.files a=false
   ·rw[Jl hd]at hx;cases hx
   have h1:=h.resolve_left hd
   rw[←KR hv hd]at h1
   rw[GU hd]at hx
   rcases List.mem_cons.1 hx with rfl|hx
   ·exact⟨k+1,h,List.suffix_refl _⟩
   rw[GU hd]
   cases hs:EG s a with
   |none=>rw[hs]at hx;cases hx
   |some b=>
     rw[hs]at hx
     obtain⟨j,h3,h4⟩:=ih b x (h1 b hs) hx
     exact⟨j,h3,h4.trans (List.suffix_cons _ _)⟩
section
variable {s:Spc}(hv:SpcV s)
include hv
theorem Zo{a b:A9}(h:a∈BE s (BL s.files) b):BE s (BL s.files) a<:+BE s (BL s.files) b:=by
 obtain⟨j,h1,h2⟩:=Zn hv _ b a (Gu hv b) h
 rwa [Qg hv j (BL s.files) a h1 (Gu hv a)]at h2
theorem OK{a:A9}(h:AX s.files a=true):∃t,BE s (BL s.files) a=a::t:=by
 have hd:¬AX s.files a=false:=by rw[h];simp
 have:=Gu hv a
 cases hm:BL s.files with
 |zero=>rw[hm]at this;exact absurd this hd
 |succ m=>exact⟨_,GU hd m⟩
theorem Zp{a b:A9}(h:a∈BE s (BL s.files) b):AX s.files a=true:=by
 have:=(Qh hv _ b a (Gu hv b) h).1
 simpa using this
end
end Go.Proofs.YtbglbmnhgbgelaaGreatDoor
namespace Go.Proofs.YtbglbmnhgbgelaaGreatDoor
open Go.RowKit Go.Shelf
section
variable {F:Fence}{n:Nat}{P:Program}
theorem UL{α:Type}{g:Operand}{ps:Array Tmp}{assign body:Code}{Q:Exit→Act→World→Prop}{a:Act}{w:World}
    (hro:F.round=none) (h1:1≤n) {gf:Nat} {lb:Array Value} (hg:a.eval g= .func (.func gf) #[] lb) (hFg:F.fn gf) (eg:∀args w,(callFunc gf args).run P w= .ok (.enter gf args) w)
    {encs:α→Array Value} {own:Nat→Prop} {Kp:World→World→Prop} {Pf:List α→Prop} {S Sp:List α→Prop} {w0:World} (hseq:SeqW F (n - 1) P gf lb encs own Kp Pf S Sp w0)
    (hown:∀b,own b→b<w.heap.size) (hKt:∀{A B C:World},Kp A B→Kp B C→Kp A C) (hKb:∀(W:World) (l:Nat) (o o':Obj),w.heap.size≤l→W.heap[l]?=some o→o.isCells=false→Kp W (W.putObj l o'))
    (hb0:Below w0.heap.size w0 w) (hps:∀x,(encs x).size=ps.size)
    (I:List α→World→Prop) (Ix:Code→List α→World→Prop) (hI:∀s X Y,I s X→Moves own w.heap.size X Y→I s Y) (hIx:∀c s X Y,Ix c s X→Moves own w.heap.size X Y→Ix c s Y) (h0:I [] w) (a₁:α→World→Act) (w₁:α→World→World) (hw1:∀x W,w.heap.size+2≤W.heap.size→Below W.heap.size W (w₁ x W)∧Kp W (w₁ x W))
    (hassign:∀(l:Nat) (x:α) (W:World) (K:Act→World→Prop),w.heap.size+2≤W.heap.size→K (a₁ x W) (w₁ x W)→
      assign.wpIn (F.inRound l) (n - 1 - 1) P (Exit.then K (fun _ _ _=>False)) {tmps:=(ps.zip (encs x)).foldl (fun t (p,v)=>t.setIfInBounds p v) a.tmps,defers:=[]} W)
    (hbody:∀(l:Nat) (pre:List α) (x:α) (W0 W:World),I pre W→Pf (pre++[x])→w.heap.size+2≤W0.heap.size→(w₁ x W0).heap.size≤W.heap.size→(∀(k:Nat) (o:Obj),(w₁ x W0).heap[k]?=some o→o.isCells=true→W.heap[k]?=some o)→w.heap.size≤l→(∃r,W.heap[l]?=some (.loop r))→
      body.wpIn (F.inRound l) (n - 1 - 1) P (ownPostG w.heap.size Kp I Ix (pre++[x]) W) (a₁ x W0) W)
    (hdone:∀(D:Nat) (xs:List α) (W:World),w.heap.size≤D→S xs→I xs W→W.heap[D]?=some (.deferred (some []))→Q .normal {a with defers:={target:= .collected D,args:=#[]}::a.defers} W)
    (hstop:∀(D:Nat) (c:Code) (pre:List α) (W:World),w.heap.size≤D→Sp pre→Ix c pre W→W.heap[D]?=some (.deferred (some []))→c.wpIn F n P Q {a with defers:={target:= .collected D,args:=#[]}::a.defers} W):
    (Code.rangeFunc g ps assign body).wpIn F n P Q a w:=by
 refine wpIn_rangeFunc ?_
 intro fn hfn
 rw[hro]
 obtain⟨rec,hrec⟩:∃rec:LoopState→Option Code→Loop,rec=fun st pe=>{state:=st,pending:=pe,fn,tmps:=a.tmps,params:=ps,assign,body,defers:=w.heap.size}:=⟨_,rfl⟩
 obtain⟨W1,hW1⟩:∃W1,(w.alloc (.deferred (some []))).alloc (.loop (rec .ready none))=W1:=⟨_,rfl⟩
 have hbw:Below w.heap.size w W1:=by rw[←hW1];exact Hd w _ _
 have hsz:W1.heap.size=w.heap.size+2:=by rw[←hW1];simp
 have hL1:W1.heap[w.heap.size+1]?=some (.loop (rec .ready none)):=by rw[←hW1];exact J6 _ _ _
 have hK1:W1.heap[w.heap.size]?=some (.deferred (some [])):=by rw[←hW1];exact J5 _ _ _
 have hn0:¬own w.heap.size:=fun h=>by have:=hown _ h;omega
 have hn1:¬own (w.heap.size+1):=fun h=>by have:=hown _ h;omega
 refine⟨w.heap.size+1,[{target:= .collected w.heap.size,args:=#[]}],W1,{target:= .fn (.func gf) lb,args:=#[.func (.yield (w.heap.size+1)) #[] #[]]},W1,gf,
  #[.func (.yield (w.heap.size+1)) #[] #[]]++lb,W1,?_,?_,?_,?_,fun _=>h1,?_⟩
 ·rw[←hW1,hrec];exact run_enterLoop_outer _ _ _ _ _
 ·simp only[resolve,hg]
  simp[go_sem]
 ·intro f' hf';simp[Target.leads]at hf';subst hf';exact hFg
 ·simp[invoke,go_sem,eg]
 have lt_of:∀{W:World} {k:Nat} {o:Obj},W.heap[k]?=some o→k<W.heap.size:=fun h=>(Array.getElem?_eq_some_iff.1 h).1
 have keep:∀{X Y:World} {k:Nat} {o:Obj},Moves own W1.heap.size X Y→X.heap[k]?=some o→k<W1.heap.size→¬own k→Y.heap[k]?=some o:=fun hm hx hk hn=>(hm.block _ (lt_of hx) hn (.inl hk)).trans hx
 refine(hseq (w.heap.size+1)
  (fun pre W=>I pre W∧W.heap[w.heap.size+1]?=some (.loop (rec .ready none))∧W.heap[w.heap.size]?=some (.deferred (some [])))
  (fun pre W=>∃c,Ix c pre W∧W.heap[w.heap.size+1]?=some (.loop (rec .done (some c)))∧W.heap[w.heap.size]?=some (.deferred (some [])))
  W1 (hb0.trans (hbw.mono hb0.size))
  (fun s X Y hs hm=>⟨hI s X Y hs.1 (hm.mono (by omega)),keep hm hs.2.1 (by omega) hn1,keep hm hs.2.2 (by omega) hn0⟩)
  (fun s X Y hs hm=>by
    obtain⟨c,hc,hl,hk⟩:=hs
    exact⟨c,hIx c s X Y hc (hm.mono (by omega)),keep hm hl (by omega) hn1,keep hm hk (by omega) hn0⟩)
  ?_ ⟨hI _ _ _ h0 (.below hbw),hL1,hK1⟩).mono ?_
 ·rintro pre x W0 ⟨hi0,hl0,hk0⟩ hpf
  have hlt0:w.heap.size+1<W0.heap.size:=lt_of hl0
  obtain⟨hbV,hkV⟩:=hw1 x W0 hlt0
  obtain⟨W,hWe⟩:∃W,w₁ x W0=W:=⟨_,rfl⟩
  rw[hWe]at hbV hkV
  have hi:I pre W:=hI _ _ _ hi0 (.below hbV)
  have hl:=(hbV.block _ (by omega)).trans hl0
  have hk:=(hbV.block _ (by omega)).trans hk0
  have hlt:w.heap.size+1<W.heap.size:=lt_of hl
  have hy:=run_yield (P:=P) (args:=encs x) hl0 (by rw[hrec];exact hps x)
  rw[hrec]at hy
  refine⟨fn,_,assign,body,hy,roundIn_of_wpIn hfn (hassign _ x W0 _ hlt0 ⟨_,run_beginRound (by rw[hWe];exact hl) (by rw[hrec]),?_⟩)⟩
  rw[hWe]
  have hl2:(W.putObj (w.heap.size+1) (.loop {rec .ready none with state:= .busy})).heap[w.heap.size+1]?=some (.loop {rec .ready none with state:= .busy}):=World.putObj_heap_same hlt
  have hk2:(W.putObj (w.heap.size+1) (.loop {rec .ready none with state:= .busy})).heap[w.heap.size]?=some (.deferred (some [])):=(World.putObj_heap_other (by omega)).trans hk
  have hw2:Kp W0 (W.putObj (w.heap.size+1) (.loop {rec .ready none with state:= .busy})):=hKt hkV (hKb _ _ _ _ (by omega) hl rfl)
  refine wpIn_mono (hbody _ pre x W0 _ (hI _ _ _ hi (.put_ _ hl rfl (by omega))) hpf hlt0 (by rw[hWe];exact(grownBy_putObj' W (w.heap.size+1) _).size) (fun k o hko hoc=>by
   rw[hWe]at hko
   refine(World.putObj_heap_other fun e=>?_).trans hko
   subst e
   rw[hl]at hko
   injection hko with hko
   subst hko
   cases hoc) (by omega) ⟨_,hl2⟩) ?_
  have fin:∀(jump:Option Code) (W3:World),KeepsFrom w.heap.size (W.putObj (w.heap.size+1) (.loop {rec .ready none with state:= .busy})) W3→
      (Instr.endRound (w.heap.size+1) jump).run P W3= .ok (.bool jump.isNone) (W3.putObj (w.heap.size+1) (.loop (rec (if jump.isNone then .ready else .done) jump)))∧
      W3.heap[w.heap.size+1]?=some (.loop {rec .ready none with state:= .busy})∧
      (W3.putObj (w.heap.size+1) (.loop (rec (if jump.isNone then .ready else .done) jump))).heap[w.heap.size+1]?=some (.loop (rec (if jump.isNone then .ready else .done) jump))∧
      (W3.putObj (w.heap.size+1) (.loop (rec (if jump.isNone then .ready else .done) jump))).heap[w.heap.size]?=some (.deferred (some [])):=fun jump W3 hk3=>by
   have hl3:=hk3.same _ _ (by omega) hl2 rfl
   have:=run_endRound (P:=P) jump hl3
   rw[hrec]at this ⊢
   exact⟨this,by rw[hrec]at hl3;exact hl3,World.putObj_heap_same (lt_of hl3),(World.putObj_heap_other (by omega)).trans (hk3.same _ _ (Nat.le_refl _) hk2 rfl)⟩
  rintro e a3 W3 hp
  cases e with
  |normal=>
    obtain⟨hk3,hkp3,hi3⟩:=hp
    obtain⟨hr,hl3,hl4,hk4⟩:=fin none W3 hk3
    exact⟨_,_,hr, .inl ⟨rfl,⟨hI _ _ _ hi3 (.put_ _ hl3 rfl (by omega)),hl4,hk4⟩,hKt (hKt hw2 hkp3) (hKb _ _ _ _ (by omega) hl3 rfl)⟩⟩
  |ret=>
    obtain⟨hk3,hi3⟩:=hp
    obtain⟨hr,hl3,hl4,hk4⟩:=fin (some .ret) W3 hk3
    exact⟨_,_,hr, .inr ⟨rfl, .ret,hIx _ _ _ _ hi3 (.put_ _ hl3 rfl (by omega)),hl4,hk4⟩⟩
  |exit id=>
    obtain⟨hk3,hi3⟩:=hp
    obtain⟨hr,hl3,hl4,hk4⟩:=fin (some (.exit id)) W3 hk3
    exact⟨_,_,hr, .inr ⟨rfl, .exit id,hIx _ _ _ _ hi3 (.put_ _ hl3 rfl (by omega)),hl4,hk4⟩⟩
  |goto t=>
    obtain⟨hk3,hi3⟩:=hp
    obtain⟨hr,hl3,hl4,hk4⟩:=fin (some (.goto t)) W3 hk3
    exact⟨_,_,hr, .inr ⟨rfl, .goto t,hIx _ _ _ _ hi3 (.put_ _ hl3 rfl (by omega)),hl4,hk4⟩⟩
  |panic ch=>exact hp.elim
  |outgrown=>exact hp.elim
 rintro e W2 ⟨⟨v,rfl⟩,(⟨xs,hS,hi,hl,hk⟩|⟨pre,hSp,c,hi,hl,hk⟩)⟩
 ·exact⟨none,_,by have:=run_endLoop (P:=P) hl (by rw[hrec];simp);rw[hrec]at this;exact this,hdone _ xs _ (Nat.le_refl _) hS (hI _ _ _ hi (.put_ _ hl rfl (by omega))) ((World.putObj_heap_other (by omega)).trans hk)⟩
 exact⟨some c,_,by have:=run_endLoop (P:=P) hl (by rw[hrec];simp);rw[hrec]at this;exact this,hstop _ c pre _ (Nat.le_refl _) hSp (hIx _ _ _ _ hi (.put_ _ hl rfl (by omega))) ((World.putObj_heap_other (by omega)).trans hk)⟩
end
theorem Bp{W:World}{k:Nat}{o:Obj}(h:W.heap[k]?=some o):k<W.heap.size:=(Array.getElem?_eq_some_iff.1 h).1
attribute [local go_sem] Oper.semAt_some
set_option maxRecDepth 100000 in
set_option maxHeartbeats 2000000 in
theorem Zq(n:Nat)(hn:Hid (1≤n))(s:Spc)(hs:SpcB s)(root dir:A9)(ds ms:Value)(w:World)(h:SpcIn s w.heap.size w ds ms):
    CallsIn Fence.wide n Tryz.prog 62 #[.agg #[ds,ms],DV root,DV dir] w fun e w'=>e= .returned (.bool (decide (root∈BE s (BL s.files) dir)))∧Below w.heap.size w w':=by
 obtain⟨rd,ri⟩:=root
 obtain⟨dd,di⟩:=dir
 unfold DV
 refine callsIn_of_wp_marks Tryz.func62 rfl trivial ?_ rfl
 simp only[Tryz.ntmps62,List.size_toArray,List.length_cons,List.length_nil,Nat.reduceAdd,Nat.reduceSub,Array.replicate_succ,Array.replicate_zero,List.push_toArray,List.append_toArray,List.nil_append,List.cons_append]
 gi_wp2_with fail
 obtain⟨W4,hW4⟩:∃W4,(((w.alloc (.cells #[ds,ms] 31)).alloc (.cells #[.int .i64 rd, .int .i64 ri] 36)).alloc (.cells #[.int .i64 dd, .int .i64 di] 36)).alloc (.cells #[.bool false] 4)=W4:=⟨_,rfl⟩
 have hz4:W4.heap.size=w.heap.size+4:=by rw[←hW4];simp
 have hB4:Below w.heap.size w W4:=by rw[←hW4];exact Pr _ _ _ _ _
 have kR:W4.heap[w.heap.size+1]?=some (.cells #[.int .i64 rd, .int .i64 ri] 36):=by rw[←hW4];exact Ps _ _ _ _ _
 have kE:Boxed W4 (w.heap.size+1+1+1) 4 (.bool false):=by rw[←hW4];exact Pt _ _ _ _ _
 rw[hW4]
 have HZ4:=Lib.hid hz4
 clear hW4
 refine Dx ((callsIn_wide.2 (Ta ds ms (dd,di) W4)).mono ?_)
 rintro e W6 ⟨rfl,hW6⟩
 have hB6:Below W4.heap.size W4 W6:=by rw[hW6];exact Hd _ _ _
 have hz6:W6.heap.size=w.heap.size+6:=by rw[hW6];simp[hz4]
 have kS:W6.heap[W4.heap.size]?=some (.cells #[ds,ms] 31):=by rw[hW6];exact J5 _ _ _
 have kD:W6.heap[W4.heap.size+1]?=some (.cells #[.int .i64 dd, .int .i64 di] 36):=by rw[hW6];exact J6 _ _ _
 have kR6:=BR kR hB6 (by omega)
 have kE6:Boxed W6 (w.heap.size+1+1+1) 4 (.bool false):=BR kE hB6 (by omega)
 have hBw:Below w.heap.size w W6:=hB4.trans (hB6.mono (by omega))
 have kSp:=h.below hBw (Nat.le_refl _)
 have HZ6:=Lib.hid hz6
 clear hW6 kR kE hB4 hB6 hz6 hz4
 gi_wp2_with fail
 refine UL rfl hn.out (gf:=146) rfl trivial (enters_of Tryz.func146 (by kernel_rfl) rfl)
  (Te (n - 1) s hs (dd,di) w.heap.size W4.heap.size (W4.heap.size+1) ds ms W6 kS kD kSp (by have:=HZ4.out;omega) (by have:=HZ4.out;omega) (by omega))
  (fun b hb=>by have:=HZ4.out;have:=HZ6.out;omega) KeepC.trans (fun W l o o' hl ho hc=>by have:=HZ4.out;have:=HZ6.out;exact Tc (B:=W6.heap.size) (by omega) (by omega) (by omega) W l o o' hl ho hc) (Below.refl _ _) (fun _=>rfl)
  (fun pre W=>W.heap[w.heap.size+1]?=some (.cells #[.int .i64 rd, .int .i64 ri] 36)∧Boxed W (w.heap.size+1+1+1) 4 (.bool false)∧(rd,ri)∉pre∧Below w.heap.size w W)
  (fun c pre W=>c= .ret∧Boxed W (w.heap.size+1+1+1) 4 (.bool true)∧(rd,ri)∈pre∧Below w.heap.size w W)
  (fun s X Y h hm=>⟨(hm.block _ (Bp h.1) (by have:=HZ4.out;omega) (.inr ⟨_,h.1,rfl⟩)).trans h.1,hm.boxed h.2.1 (by have:=HZ4.out;omega),h.2.2.1,hm.under h.2.2.2 (Nat.le_refl _) (fun b hb=>by have:=HZ4.out;omega) (by have:=HZ6.out;omega)⟩)
  (fun c s X Y h hm=>⟨h.1,hm.boxed h.2.1 (by have:=HZ4.out;omega),h.2.2.1,hm.under h.2.2.2 (Nat.le_refl _) (fun b hb=>by have:=HZ4.out;omega) (by have:=HZ6.out;omega)⟩)
  ⟨kR6,kE6,by simp,hBw⟩
  (fun x W=>{tmps:=#[.agg #[ds,ms], .agg #[.int .i64 rd, .int .i64 ri], .agg #[.int .i64 dd, .int .i64 di], .pointer (some ⟨w.heap.size,0,none⟩), .pointer (some ⟨w.heap.size+1,0,none⟩), .pointer (some ⟨w.heap.size+1+1,0,none⟩), .pointer (some ⟨w.heap.size+1+1+1,0,none⟩), .pointer (some ⟨W.heap.size,0,none⟩), .agg #[ds,ms], .agg #[.int .i64 dd, .int .i64 di],
    .func (.func 146) #[] #[.pointer (some ⟨W4.heap.size,0,none⟩), .pointer (some ⟨W4.heap.size+1,0,none⟩)], .agg #[.int .i64 x.1, .int .i64 x.2],undef,undef,undef],defers:=[]})
  (fun x W=>W.alloc (.cells #[.int .i64 x.1, .int .i64 x.2] 36))
  (fun x W hsz=>⟨FW _ _,by have:=HZ4.out;have:=HZ6.out;exact MU (FW _ _) (by omega) (by omega) (by omega)⟩) ?assign ?body ?done ?stop
 case assign=>
  intro l x W K hsz hK
  unfold DV
  gi_wp2
  exact hK
 case body=>
  rintro l pre x W0 W ⟨c1,cE,hnm,hbw⟩ _ hsz hszW hcell _ _
  have cX:=hcell _ _ (J4 W0 (.cells #[.int .i64 x.1, .int .i64 x.2] 36)) rfl
  have HN:=Lib.hid hnm
  have HZ:=Lib.hid hsz
  clear hnm hsz hcell
  obtain⟨c1',f1'⟩:=By c1
  obtain⟨cX',fX'⟩:=By cX
  have cE':=cE.cell
  have fE':=cE.frozen
  have h4:=HZ4.out
  have h6:=HZ6.out
  simp only[MC]at hszW
  gi_wp2_with fail
  ·exact⟨MS (KM (Below.refl _ _)) (by omega) _,rfl,cE.set _,List.mem_append_right _ (by simp;exact Prod.ext (by simp[*]) (by simp[*])),hbw.setCell (by show w.heap.size≤w.heap.size+1+1+1;omega) _⟩
  all_goals
   have hz:=HZ.out
   exact⟨KM (Below.refl _ _),MU (Below.refl _ _) (by omega) (by omega) (by omega),c1,cE,by
    intro hm
    rcases List.mem_append.1 hm with hm|hm
    ·exact HN.out hm
    simp only[List.mem_singleton]at hm
    subst hm
    simp_all,hbw⟩
 case done=>
  rintro D xs W hD hS ⟨_,hc,hnm,hbw⟩ hK
  have HS:=Lib.hid hS
  have HN:=Lib.hid hnm
  clear hS hnm
  have hcell:=hc.cell
  have hfz:=hc.frozen
  gi_wp2
  have h4:=HZ4.out
  have h6:=HZ6.out
  refine⟨by simp, .inl ⟨_,_,rfl,run_takeDeferred ((KeepsOthers.setCell _ _ _).same D _ hK rfl),?_⟩⟩
  have hcb:=(J9 (hc.set (.bool false)) (show w.heap.size+1+1+1≠D by omega) (.deferred none)).cell
  refine⟨.bool false,by simp[results,Tryz.f62,go_sem,hcb],by rw[decide_eq_false (by rw[←HS.out];exact HN.out)],KN (hbw.setCell (p:=⟨w.heap.size+1+1+1,0,none⟩) (by show w.heap.size≤w.heap.size+1+1+1;omega) _) (by omega) _⟩
 case stop=>
  rintro D c pre W hD hSp ⟨rfl,hc,hnm,hbw⟩ hK
  have HS:=Lib.hid hSp
  have HN:=Lib.hid hnm
  clear hSp hnm
  have hcell:=hc.cell
  gi_wp2
  have h4:=HZ4.out
  have h6:=HZ6.out
  refine⟨by simp, .inl ⟨_,_,rfl,run_takeDeferred hK,?_⟩⟩
  have hcb:=(J9 hc (show w.heap.size+1+1+1≠D by omega) (.deferred none)).cell
  refine⟨.bool true,by simp[results,Tryz.f62,go_sem,hcb],by rw[decide_eq_true (HS.out.subset HN.out)],KN hbw (by omega) _⟩
end Go.Proofs.YtbglbmnhgbgelaaGreatDoor
namespace Go.Proofs.YtbglbmnhgbgelaaGreatDoor
open Go.RowKit Go.Shelf
attribute [local go_sem] Oper.semAt_some
end Go.Proofs.YtbglbmnhgbgelaaGreatDoor
namespace Go.Proofs.YtbglbmnhgbgelaaGreatDoor
open Go.RowKit
def FD(s:Spc)(a:A9):Nod:=Aa s.files (a.1,(Aa s.files a).parent)
def C7(s:Spc)(a:A9):AE:=(((FD s a).entries.find? fun e:BK=>decide (e.2=a.2)).map (·.1)).getD ⟨#[]⟩
section
theorem Zr(s:Spc)(a:A9)(hs:SpcB s):AFn Tryz.prog 180 [.agg (Ai s), .agg (AA a)] (fun r=>r= .v (.string (C7 s a))):=by
 have hen:=M8 hs.files (a.1,(Aa s.files a).parent)
 change (FD s a).entries.length≤1000 at hen
 refine enter Tryz.func180 rfl rfl rfl rfl rfl 0 rfl ?_
 refine w_ (b_ (h:=b_ (h:=a_ (h:=e_ (w_ (f_ (h:=l_ (h:=l_ (h:=?_)))))))))
 refine A4 rfl (AK (Hb s.files a hs.files) ?_)
 rintro r rfl
 skip
 refine m_ (h:=x_ (h:=x_ (h:=AW (h:=s_ (h:=a_ (h:=e_ (w_ (f_ (h:=l_ (h:=f_ (h:=l_ (h:=f_ (h:=l_ (h:=AT (h:=?_)))))))))))))))
 refine A4 rfl (AK (Hb s.files (a.1,(Aa s.files a).parent) hs.files) ?_)
 rintro r rfl
 skip
 refine m_ (h:=x_ (h:=x_ (h:=AW (h:=s_ (h:=a_ (h:=e_ (q_ (w_ (f_ (h:=l_ (h:=n_ (h:=m_ (h:=e_ (Ao (?_)))))))))))))))
 refine Ba (fun m t=>∃j:Nat,j≤(FD s a).entries.length∧m=(FD s a).entries.length - j∧(∀i y,i<j→(FD s a).entries[i]?=some y→decide (y.2=a.2)=false)∧t=⟨look [(3, .bp 1 0),(30, .sl 2 ((FD s a).entries.map CU) none),(31, .v (.int .i64 (((FD s a).entries.map CU).length:Int))),(32, .v (.int .i64 (j:Int)))],⟨[Ai s,AA a],[]⟩⟩) ((FD s a).entries.length) ((wk 2 0)) (⟨0,by omega,rfl,fun i y hi=>by omega,rfl⟩) ?_
 rintro m t ⟨j,hj,rfl,ha,rfl⟩
 refine w_ (BJ (h:=e_ (q_ (?_))))
 refine A8 rfl (fun hb1=>?_) (fun hb1=>?_)
 ·have hc1:=bp hb1
  obtain⟨hlt,x,hy,hrow, -⟩:=CW CU hc1
  refine AG (q_ (Ao (w_ (i_ (h:=l_ (h:=AW (h:=s_ (h:=e_ (w_ (f_ (h:=l_ (h:=f_ (h:=l_ (h:=AQ (h:=e_ (?_))))))))))))))))
  refine A8 rfl (fun hb2=>?_) (fun hb2=>?_)
  ·have hc2:=bp hb2
   refine w_ (f_ (h:=l_ (h:=a_ (h:=e_ (A6 (AR (A7 (A7 (AR (A7 (?_)))))))))))
   refine AB ?_
   rw[show C7 s a=x.1 by simp only[C7];rw[HU hy (by simpa using hc2) ha];rfl]
   rfl
  have hc2:=bp hb2
  refine BB (Ay (t_ (AP (B8 (h:=m_ (h:=AO (?_)))))))
  refine AD ?_
  refine⟨_,_,?_,⟨j+1,by omega,rfl,Dw hy ha (by simpa using hc2),rfl⟩,(wk 2 0)⟩
  omega
 have hc1:=bp hb1
 have e3:=Ck CU hj hc1
 subst e3
 refine BO (Aq (Aq (BQ (t_ (w_ (a_ (h:=e_ (A6 (?_)))))))))
 refine AB ?_
 rw[show C7 s a=⟨#[]⟩ by simp only[C7];rw[Ha ha];rfl]
 rfl
end
end Go.Proofs.YtbglbmnhgbgelaaGreatDoor
namespace Go.Proofs.YtbglbmnhgbgelaaGreatDoor
open Go.RowKit Go.Shelf
section
variable {F:Fence}{n:Nat}{P:Program}
theorem Zs{α:Type}{g:Operand}{ps:Array Tmp}{assign body:Code}{Q:Exit→Act→World→Prop}{a:Act}{w:World}
    {l₀:Nat} {r₀:Loop} (hro:F.round=some l₀) (hl₀:w.heap[l₀]?=some (.loop r₀)) (h1:1≤n) {gf:Nat} {lb:Array Value} (hg:a.eval g= .func (.func gf) #[] lb) (hFg:F.fn gf) (eg:∀args w,(callFunc gf args).run P w= .ok (.enter gf args) w)
    {encs:α→Array Value} {own:Nat→Prop} {Kp:World→World→Prop} {Pf:List α→Prop} {S Sp:List α→Prop} {w0:World} (hseq:SeqW F (n - 1) P gf lb encs own Kp Pf S Sp w0)
    (hown:∀b,own b→b<w.heap.size) (hKt:∀{A B C:World},Kp A B→Kp B C→Kp A C) (hKb:∀(W:World) (l:Nat) (o o':Obj),w.heap.size≤l→W.heap[l]?=some o→o.isCells=false→Kp W (W.putObj l o'))
    (hb0:Below w0.heap.size w0 w) (hps:∀x,(encs x).size=ps.size)
    (I:List α→World→Prop) (Ix:Code→List α→World→Prop) (hI:∀s X Y,I s X→Moves own w.heap.size X Y→I s Y) (hIx:∀c s X Y,Ix c s X→Moves own w.heap.size X Y→Ix c s Y) (h0:I [] w) (a₁:α→Act)
    (hassign:∀(l:Nat) (x:α) (W:World) (K:Act→World→Prop),K (a₁ x) W→
      assign.wpIn (F.inRound l) (n - 1 - 1) P (Exit.then K (fun _ _ _=>False)) {tmps:=(ps.zip (encs x)).foldl (fun t (p,v)=>t.setIfInBounds p v) a.tmps,defers:=[]} W)
    (hbody:∀(l:Nat) (pre:List α) (x:α) (W:World),I pre W→Pf (pre++[x])→w.heap.size+1≤W.heap.size→body.wpIn (F.inRound l) (n - 1 - 1) P (ownPostG w.heap.size Kp I Ix (pre++[x]) W) (a₁ x) W)
    (hdone:∀(xs:List α) (W:World),S xs→I xs W→Q .normal a W)
    (hstop:∀(c:Code) (pre:List α) (W:World),Sp pre→Ix c pre W→c.wpIn F n P Q a W):
    (Code.rangeFunc g ps assign body).wpIn F n P Q a w:=by
 refine wpIn_rangeFunc ?_
 intro fn hfn
 rw[hro]
 obtain⟨rec,hrec⟩:∃rec:LoopState→Option Code→Loop,rec=fun st pe=>{state:=st,pending:=pe,fn,tmps:=a.tmps,params:=ps,assign,body,defers:=r₀.defers}:=⟨_,rfl⟩
 obtain⟨W1,hW1⟩:∃W1,w.alloc (.loop (rec .ready none))=W1:=⟨_,rfl⟩
 have hbw:Below w.heap.size w W1:=by rw[←hW1];exact FW w _
 have hsz:W1.heap.size=w.heap.size+1:=by rw[←hW1];simp
 have hL1:W1.heap[w.heap.size]?=some (.loop (rec .ready none)):=by rw[←hW1];exact J4 _ _
 have hn1:¬own w.heap.size:=fun h=>by have:=hown _ h;omega
 refine⟨w.heap.size,[],W1,{target:= .fn (.func gf) lb,args:=#[.func (.yield w.heap.size) #[] #[]]},W1,gf,
  #[.func (.yield w.heap.size) #[] #[]]++lb,W1,?_,?_,?_,?_,fun _=>h1,?_⟩
 ·rw[←hW1,hrec];exact run_enterLoop_inner hl₀ _ _ _ _ _
 ·simp only[resolve,hg]
  simp[go_sem]
 ·intro f' hf';simp[Target.leads]at hf';subst hf';exact hFg
 ·simp[invoke,go_sem,eg]
 have lt_of:∀{W:World} {k:Nat} {o:Obj},W.heap[k]?=some o→k<W.heap.size:=fun h=>(Array.getElem?_eq_some_iff.1 h).1
 have keep:∀{X Y:World} {k:Nat} {o:Obj},Moves own W1.heap.size X Y→X.heap[k]?=some o→k<W1.heap.size→¬own k→Y.heap[k]?=some o:=fun hm hx hk hn=>(hm.block _ (lt_of hx) hn (.inl hk)).trans hx
 refine(hseq w.heap.size
  (fun pre W=>I pre W∧W.heap[w.heap.size]?=some (.loop (rec .ready none)))
  (fun pre W=>∃c,Ix c pre W∧W.heap[w.heap.size]?=some (.loop (rec .done (some c))))
  W1 (hb0.trans (hbw.mono hb0.size))
  (fun s X Y hs hm=>⟨hI s X Y hs.1 (hm.mono (by omega)),keep hm hs.2 (by omega) hn1⟩)
  (fun s X Y hs hm=>by
    obtain⟨c,hc,hl⟩:=hs
    exact⟨c,hIx c s X Y hc (hm.mono (by omega)),keep hm hl (by omega) hn1⟩)
  ?_ ⟨hI _ _ _ h0 (.below hbw),hL1⟩).mono ?_
 ·rintro pre x W ⟨hi,hl⟩ hpf
  have hlt:w.heap.size<W.heap.size:=lt_of hl
  have hy:=run_yield (P:=P) (args:=encs x) hl (by rw[hrec];exact hps x)
  rw[hrec]at hy
  refine⟨fn,_,assign,body,hy,roundIn_of_wpIn hfn (hassign _ x W _ ⟨_,run_beginRound hl (by rw[hrec]),?_⟩)⟩
  have hl2:(W.putObj w.heap.size (.loop {rec .ready none with state:= .busy})).heap[w.heap.size]?=some (.loop {rec .ready none with state:= .busy}):=World.putObj_heap_same hlt
  have hw2:Kp W (W.putObj w.heap.size (.loop {rec .ready none with state:= .busy})):=hKb _ _ _ _ (by omega) hl rfl
  refine wpIn_mono (hbody _ pre x _ (hI _ _ _ hi (.put_ _ hl rfl (by omega))) hpf (lt_of hl2)) ?_
  have fin:∀(jump:Option Code) (W3:World),KeepsFrom w.heap.size (W.putObj w.heap.size (.loop {rec .ready none with state:= .busy})) W3→
      (Instr.endRound w.heap.size jump).run P W3= .ok (.bool jump.isNone) (W3.putObj w.heap.size (.loop (rec (if jump.isNone then .ready else .done) jump)))∧
      W3.heap[w.heap.size]?=some (.loop {rec .ready none with state:= .busy})∧
      (W3.putObj w.heap.size (.loop (rec (if jump.isNone then .ready else .done) jump))).heap[w.heap.size]?=some (.loop (rec (if jump.isNone then .ready else .done) jump)):=fun jump W3 hk3=>by
   have hl3:=hk3.same _ _ (by omega) hl2 rfl
   have:=run_endRound (P:=P) jump hl3
   rw[hrec]at this ⊢
   exact⟨this,by rw[hrec]at hl3;exact hl3,World.putObj_heap_same (lt_of hl3)⟩
  rintro e a3 W3 hp
  cases e with
  |normal=>
    obtain⟨hk3,hkp3,hi3⟩:=hp
    obtain⟨hr,hl3,hl4⟩:=fin none W3 hk3
    exact⟨_,_,hr, .inl ⟨rfl,⟨hI _ _ _ hi3 (.put_ _ hl3 rfl (by omega)),hl4⟩,hKt (hKt hw2 hkp3) (hKb _ _ _ _ (by omega) hl3 rfl)⟩⟩
  |ret=>
    obtain⟨hk3,hi3⟩:=hp
    obtain⟨hr,hl3,hl4⟩:=fin (some .ret) W3 hk3
    exact⟨_,_,hr, .inr ⟨rfl, .ret,hIx _ _ _ _ hi3 (.put_ _ hl3 rfl (by omega)),hl4⟩⟩
  |exit id=>
    obtain⟨hk3,hi3⟩:=hp
    obtain⟨hr,hl3,hl4⟩:=fin (some (.exit id)) W3 hk3
    exact⟨_,_,hr, .inr ⟨rfl, .exit id,hIx _ _ _ _ hi3 (.put_ _ hl3 rfl (by omega)),hl4⟩⟩
  |goto t=>
    obtain⟨hk3,hi3⟩:=hp
    obtain⟨hr,hl3,hl4⟩:=fin (some (.goto t)) W3 hk3
    exact⟨_,_,hr, .inr ⟨rfl, .goto t,hIx _ _ _ _ hi3 (.put_ _ hl3 rfl (by omega)),hl4⟩⟩
  |panic ch=>exact hp.elim
  |outgrown=>exact hp.elim
 rintro e W2 ⟨⟨v,rfl⟩,(⟨xs,hS,hi,hl⟩|⟨pre,hSp,c,hi,hl⟩)⟩
 ·exact⟨none,_,by have:=run_endLoop (P:=P) hl (by rw[hrec];simp);rw[hrec]at this;exact this,hdone xs _ hS (hI _ _ _ hi (.put_ _ hl rfl (by omega)))⟩
 exact⟨some c,_,by have:=run_endLoop (P:=P) hl (by rw[hrec];simp);rw[hrec]at this;exact this,hstop c pre _ hSp (hIx _ _ _ _ hi (.put_ _ hl rfl (by omega)))⟩
end
theorem Zt(l:Bs):Lib.hasSuffix l [47]=decide (l.getLast?=some 47):=by
 unfold Lib.hasSuffix
 rw[Bool.eq_iff_iff,List.isSuffixOf_iff_suffix,decide_eq_true_iff]
 rcases List.eq_nil_or_concat l with rfl|⟨a,x,rfl⟩
 ·simp
 simp only[List.concat_eq_append,List.getLast?_concat,Option.some.injEq]
 constructor
 ·rintro⟨t,ht⟩
  have:=congrArg List.getLast? ht
  simpa[eq_comm]using this
 rintro rfl
 exact⟨a,rfl⟩
def DD(d m:AE):AE:=if d.data.toList.getLast?=some 47 then d++m else d++⟨#[47]⟩++m
set_option maxHeartbeats 400000 in
theorem UM(d m:AE)(w:World)(hd:d.size≤1000000)(hm:m.size≤1000000):
    Calls Tryz.prog 138 #[.string d, .string m] w fun e w'=>e= .returned (.string (DD d m))∧w'=w:=by
 have HL:=Lib.hid (Zt d.data.toList)
 by_cases h:d.data.toList.getLast?=some 47
 ·have HJ:Hid (DD d m=d++m):=Lib.hid (if_pos h)
  have HD:Hid (decide (d.data.toList.getLast?=some 47)=true):=Lib.hid (decide_eq_true h)
  clear h
  go_enter Tryz.func138,Tryz.ntmps138
  go_wp2_with fail
  refine(Tryz.strings_HasSuffix _ _ _ (by omega)).mono ?_
  rintro e w' ⟨rfl,rfl⟩
  rw[show({data:=#[47]}:ByteArray).data.toList=[47] from rfl,HL.out,HD.out]
  go_wp2
  go_ret
  exact⟨by rw[HJ.out];rfl,rfl⟩
 have HJ:Hid (DD d m=d++⟨#[47]⟩++m):=Lib.hid (if_neg h)
 have HD:Hid (decide (d.data.toList.getLast?=some 47)=false):=Lib.hid (decide_eq_false h)
 clear h
 go_enter Tryz.func138,Tryz.ntmps138
 go_wp2_with fail
 refine(Tryz.strings_HasSuffix _ _ _ (by omega)).mono ?_
 rintro e w' ⟨rfl,rfl⟩
 rw[show({data:=#[47]}:ByteArray).data.toList=[47] from rfl,HL.out,HD.out]
 go_wp2
 go_ret
 exact⟨by rw[HJ.out];rfl,rfl⟩
end Go.Proofs.YtbglbmnhgbgelaaGreatDoor
namespace Go.Proofs.YtbglbmnhgbgelaaGreatDoor
open Go.RowKit Go.Shelf
attribute [local go_sem] Oper.semAt_some
theorem SeqW.inRound{α:Type}{F:Fence}{n:Nat}{P:Program}{g:Nat}{lb:Array Value}{encs:α→Array Value}{own:Nat→Prop}{Kp:World→World→Prop}{Pf:List α→Prop}{S Sp:List α→Prop}{w:World}(l:Nat)(h:SeqW F n P g lb encs own Kp Pf S Sp w):SeqW (F.inRound l) n P g lb encs own Kp Pf S Sp w:=h
theorem Zu(A:Option Addr)(m c:Nat)(w:World):
    Calls Tryz.prog 179 #[.slice A m c] w fun e w'=>
     e= .returned (.func (.func 196) #[] #[.pointer (some ⟨w.heap.size,0,none⟩)])∧w'=w.alloc (.cells #[.slice A m c] 63):=by
 go_enter Tryz.func179,Tryz.ntmps179
 go_wp2
 go_ret
 exact⟨rfl,rfl⟩
def NamesIn(w:World)(A:Option Addr)(m c:Nat)(ns:List AE)(g:Nat):Prop:=
 ns.length=m∧m≤c∧(ns=[]∨A=some ⟨g,0,none⟩∧∀i x,ns[i]?=some x→w.cell? ⟨g,i,none⟩=some (.string x))
theorem NamesIn.keep{w w':World}{A:Option Addr}{m c:Nat}{ns:List AE}{g:Nat}(h:NamesIn w A m c ns g)(hg:w'.heap[g]?=w.heap[g]?):NamesIn w' A m c ns g:=
 ⟨h.1,h.2.1,h.2.2.imp id fun h=>⟨h.1,fun i x hx=>(World.cell?_of_block (w:=w) (w':=w') (a:=⟨g,i,none⟩) hg).trans (h.2 i x hx)⟩⟩
def Zv(b0 g:Nat)(X Y:World):Prop:=Y.heap[b0]?=X.heap[b0]?∧Y.heap[g]?=X.heap[g]?
set_option maxRecDepth 100000 in
set_option maxHeartbeats 2000000 in
theorem Zw(n:Nat)(ns:List AE)(hns:ns.length≤1000000)(b0 g:Nat)(A:Option Addr)(m c:Nat)(w:World)(h0:Boxed w b0 63 (.slice A m c))(hN:NamesIn w A m c ns g)(hg:ns=[]∨g<w.heap.size):
    SeqW Fence.wide n Tryz.prog 196 #[.pointer (some ⟨b0,0,none⟩)] (fun x:Int×AE=>#[.int .i64 x.1, .string x.2]) (fun _=>False) (Zv b0 g) (fun xs=>xs.map (·.2)<+:ns.reverse)
     (fun xs=>xs.map (·.2)=ns.reverse) (fun _=>True) w:=fun l J Jx W hW hJ hJx hY hst=>by
 have k0:Boxed W b0 63 (.slice A m c):=BR h0 hW h0.lt
 have kN:NamesIn W A m c ns g:=by
  rcases hg with hg|hg
  ·exact⟨hN.1,hN.2.1, .inl hg⟩
  exact hN.keep (hW.block g hg)
 have hmc:=kN.2.1
 have hme:=kN.1
 subst hme
 have c0:=k0.cell
 have f0:=k0.frozen
 have HJ:=Lib.hid hJ
 have HJx:=Lib.hid hJx
 have HY:=Lib.hid hY
 clear hN hg hW hJ hJx hY h0
 refine callsIn_of_wp Tryz.func196 rfl trivial ?_ rfl
 simp only[Tryz.ntmps196,List.size_toArray,List.length_cons,List.length_nil,Nat.reduceAdd,Nat.reduceSub,Array.replicate_succ,Array.replicate_zero,List.push_toArray,List.append_toArray,List.nil_append,List.cons_append]
 gi_wp2
 gi_loopw [3] (fun i wr=>∃(j:Nat) (pre:List (Int×AE)),j≤ns.length∧i= .int .i64 ((j:Int) - 1)∧J pre wr∧Boxed wr b0 63 (.slice A ns.length c)∧NamesIn wr A ns.length c ns g∧Hid (pre.map (·.2)=(ns.drop j).reverse)) (fun i _=>(intOf i+1).toNat)
 case atStart=>exact⟨ns.length,[],Nat.le_refl _,rfl,hst,k0,kN,by rw[List.drop_length];exact Lib.hid rfl⟩
 case round=>
  obtain⟨j,pre,hj,rfl,hJp,m0,mN,hpre⟩:=hrel
  clear k0 kN hst c0 f0
  have c0:=m0.cell
  have f0:=m0.frozen
  cases j with
  |zero=>
    gi_wp2
    go_end0
    exact⟨⟨_,rfl⟩, .inl ⟨pre,by rw[hpre.out];simp,hJp⟩⟩
  |succ j=>
    have hlt:j<ns.length:=by omega
    have hx:ns[j]?=some ns[j]:=B3 hlt
    obtain⟨_,_,hA⟩:=mN
    obtain⟨rfl,hcell⟩:=hA.resolve_left (fun e=>by rw[e]at hlt;simp at hlt)
    have hc:=hcell j _ hx
    have HD:Hid ((ns.drop j).reverse=(ns.drop (j+1)).reverse++[ns[j]]):=Lib.hid (by rw[List.drop_eq_getElem_cons hlt];simp)
    obtain⟨fn,tmps,assign,body,hy,hR⟩:=HY.out pre ((j:Int),ns[j]) wr hJp (by rw[List.map_append,hpre.out];refine⟨(ns.take j).reverse,?_⟩;rw[show(ns.drop (j+1)).reverse++List.map (·.2) [((j:Int),ns[j])]=(ns.drop j).reverse by rw[HD.out];rfl,←List.reverse_append,List.take_append_drop])
    have HC:=Lib.hid hcell
    clear hcell hA hx
    generalize ns[j]=x at *
    gi_wp2_with fail
    refine⟨(fun h=>by cases h),hR.mono ?_⟩
    rintro e W3 (⟨rfl,hJ3,hk3⟩|⟨rfl,hJx3⟩)
    ·have q0:Boxed W3 b0 63 (.slice (some ⟨g,0,none⟩) ns.length c):=hk3.1.trans m0
     have qN:NamesIn W3 (some ⟨g,0,none⟩) ns.length c ns g:=⟨rfl,hmc, .inr ⟨rfl,fun i y hy=>(World.cell?_of_block (w:=wr) (w':=W3) (a:=⟨g,i,none⟩) hk3.2).trans (HC.out i y hy)⟩⟩
     clear c0 f0 hy hR hc
     gi_wp2
     go_roundw
     case rel=>exact⟨j,pre++[((j:Int),x)],by omega,rfl,hJ3,q0,qN,by rw[HD.out,←hpre.out];exact Lib.hid (by simp)⟩
     case measure=>simp[intOf]
    gi_wp2
    refine bodyPost_ret (results_none rfl _ _ _) rfl ?_
    exact⟨⟨_,rfl⟩, .inr ⟨pre++[((j:Int),x)],trivial,hJx3⟩⟩
end Go.Proofs.YtbglbmnhgbgelaaGreatDoor
