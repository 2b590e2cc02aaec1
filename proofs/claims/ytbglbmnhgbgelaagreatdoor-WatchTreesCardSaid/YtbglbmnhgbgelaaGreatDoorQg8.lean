/-
  Part 8 of the proof of WatchTreesP: what the statement's proof uses of the texts in wip/tpl.
-/
import Derived.Test.YtbglbmnhgbgelaaGreatDoorQg7
set_option maxRecDepth 10000
set_option maxHeartbeats 4000000
set_option linter.unusedVariables false
set_option linter.unusedSimpArgs false
namespace Go.Proofs.YtbglbmnhgbgelaaGreatDoor
open Go.RowKit
theorem Mh{f:AZ}{dir:A9}{name:AE}{n0:Nod}(hn:Bk f dir=some n0)(hk:n0.kind=2)(h:(AM f dir name).2=0):∃e,DK n0.entries name=some e∧AM f dir name=((dir.1,e.2),0):=by
 unfold AM at h ⊢
 rw[hn]at h ⊢
 simp only[hk,if_true]at h ⊢
 unfold DK
 split at h
 ·exact absurd h (by decide)
 rename_i e he
 exact⟨e,he,rfl⟩
def entS(ns:List Nod)(i:Nat)(n0:Nod)(name:AE)(ino:Int):List Nod:=ns.set i {n0 with entries:=Cb n0.entries name ino}
theorem G0(ns:List Nod)(i:Nat)(n0:Nod)(name:AE)(ino:Int):(entS ns i n0 name ino).length=ns.length:=by simp[entS]
theorem QU(es:List BK)(name:AE)(ino:Int):(Cb es name ino).length≤es.length+1:=by
 by_cases h:ino=0
 ·subst h
  rw[He]
  have:(EH name es).length≤es.length:=List.length_filter_le _ _
  omega
 rw[(JB es name h).length_eq,List.length_cons]
 have:(EH name es).length≤es.length:=List.length_filter_le _ _
 omega
theorem FlsB.set_{f:AZ}(hf:FlsB f){q:Nat}{d':Dvc}(hn:d'.nodes.length≤1000)(he:∀n∈d'.nodes,n.entries.length≤1000):FlsB (f.set q d'):=by
 refine⟨by simpa using hf.few,fun d hd=>?_,fun d hd n hn'=>?_⟩
 ·rcases List.mem_or_eq_of_mem_set hd with h|h
  ·exact hf.nodes d h
  rw[h];exact hn
 rcases List.mem_or_eq_of_mem_set hd with h|h
 ·exact hf.ents d h n hn'
 subst h;exact he n hn'
theorem FlsV.entS{f:AZ}(hv:FlsV f){q:Nat}{d:Dvc}(hq:f[q]?=some d){i:Nat}{n0:Nod}(hn:d.nodes[i]?=some n0)(name:AE)(ino:Int):FlsB (f.set q {d with nodes:=entS d.nodes i n0 name ino}):=by
 have hd:=hv.vd d (Au hq)
 refine hv.b.set_ ?_ ?_
 ·show(Go.Proofs.YtbglbmnhgbgelaaGreatDoor.entS d.nodes i n0 name ino).length≤1000
  rw[G0];have:=hd.len;omega
 intro m hm
 rcases List.mem_or_eq_of_mem_set hm with h|h
 ·have:=hd.many m h;omega
 rw[h]
 have:=QU n0.entries name ino
 have:=hd.many n0 (Au hn)
 show(Cb n0.entries name ino).length≤1000
 omega
theorem LA{d:Dvc}(hd:VD d){i:Nat}{n0:Nod}(hn:d.nodes[i]?=some n0)(name:AE)(ino:Int):entS d.nodes i n0 name ino=BW d.nodes n0.ino name ino:=by
 unfold entS BW
 rw[←Mg hd.asc hn]
 rfl
theorem Tx{f:AZ}{a:A9}{q:Nat}{d:Dvc}(ha:a.1=(q:Int))(hq:f[q]?=some d):GN f a=if(d.nodes.any fun n=>n.ino==a.2)then Bb a.2 d.nodes else 0:=by
 unfold GN Bk
 rw[ha,K9,hq]
 simp only
 cases h:d.nodes.find? (fun n=>n.ino==a.2)with
 |none=>
   have:d.nodes.any (fun n=>n.ino==a.2)=false:=by
    rw[List.any_eq_false]
    exact List.find?_eq_none.1 h
   simp[this]
 |some n=>
   have:d.nodes.any (fun n=>n.ino==a.2)=true:=by
    have h2:=List.find?_some h
    exact List.any_eq_true.2 ⟨n,List.mem_of_find?_eq_some h,h2⟩
   simp[this]
theorem ZD{f:AZ}{a:A9}{q:Nat}{d:Dvc}(ha:a.1=(q:Int))(hq:f[q]?=some d)(hl:0<GN f a):Br d.nodes a.2=d.nodes:=by
 rw[Tx ha hq]at hl
 split at hl
 ·unfold Br
  rw[List.filter_eq_self]
  intro m _
  exact decide_eq_true (.inr hl)
 omega
theorem drop_zero{f:AZ}{a:A9}{q:Nat}{d:Dvc}(ha:a.1=(q:Int))(hq:f[q]?=some d)(hl:GN f a=0):Br d.nodes a.2=Cj a.2 d.nodes:=by
 rw[Tx ha hq]at hl
 unfold Br Cj
 apply List.filter_congr
 intro m hm
 split at hl
 ·rw[hl,Bool.eq_iff_iff];simp
 rename_i h
 have hne:m.ino≠a.2:=by
  intro e
  exact h (List.any_eq_true.2 ⟨m,hm,by simpa using e⟩)
 rw[Bool.eq_iff_iff];simp[hne]
theorem QV{ns:List Nod}{m:Nod}{i:Int}(hm:m∈ns)(h:m.ino≠i):0<(Cj i ns).length:=List.length_pos_of_mem (List.mem_filter.2 ⟨hm,by simpa using h⟩)
theorem Ty{d:Dvc}(hd:VD d){i:Nat}{n0:Nod}(hn:d.nodes[i]?=some n0)(name:AE)(ino:Int):∃m∈entS d.nodes i n0 name ino,m.ino=1:=by
 obtain⟨r,hr,h1,_⟩:=hd.rootMem
 rw[LA hd hn]
 obtain⟨m,hm,hw⟩:=Jh n0.ino name ino hr
 exact⟨m,hm,hw.ino.trans h1⟩
theorem QW(f:AZ)(q:Nat)(d d':Dvc)(a:A9)(cap cap1:Nat)(hf:FlsB (f.set q d'))(hq:q<f.length)(ha:a.1=(q:Int))(hcap:f.length≤cap)(hcap1:d'.nodes.length≤cap1)(hne:0<(Cj a.2 d'.nodes).length)(hn:d'.next=d.next)(hl:d'.nodes.length=d.nodes.length):
    ACall Tryz.prog 77 [.agg [.bs 0 0 2 f.length cap], .agg (AA a)] [DB f q d 1 cap cap1,NB d'.nodes cap1] (fun r b t=>t=[]∧r= .tup []∧((Br d'.nodes a.2=d'.nodes∧b=[DB f q d 1 cap cap1,NB d'.nodes cap1,[.bs 0 0 2 f.length cap],AA a])∨(Br d'.nodes a.2=Cj a.2 d'.nodes∧∃cap2,(Cj a.2 d'.nodes).length≤cap2∧b=[DB f q {d' with nodes:=Cj a.2 d'.nodes} 4 cap cap2,NB d'.nodes cap1,[.bs 0 0 2 f.length cap],AA a,NB (Cj a.2 d'.nodes) cap2]))):=by
 have hq':(f.set q d')[q]?=some d':=by simp[hq]
 have key:=Z0 (f.set q d') q d' a cap cap1 hf hq' ha (by simpa using hcap) hcap1 hne
 rw[List.length_set,←Tw hn hl]at key
 refine key.mono fun r b t ⟨h1,h2,h3⟩=>⟨h1,h2,?_⟩
 rcases h3 with⟨h4,h5⟩|⟨h4,cap2,h5,h6⟩
 ·exact .inl ⟨ZD ha hq' h4,h5⟩
 refine .inr ⟨drop_zero ha hq' h4,cap2,h5,?_⟩
 rw[Q7]at h6
 exact h6
def FB(f:AZ)(dir:A9)(name:AE):DP:=
 if CF f dir name≠0 then([],[],CF f dir name)else if(AM f dir name).2≠0 then([],[],(AM f dir name).2)else if AX f (AM f dir name).1=true then([],[],21)else
 (FY f dir.1.toNat fun ns=>Br (BW ns dir.2 name 0) (AM f dir name).1.2,[(dir,name,(AM f dir name).1,(0,0))],0)
def Eb(f:AZ)(dir:A9)(name:AE):DP:=
 if CF f dir name≠0 then([],[],CF f dir name)else if(AM f dir name).2≠0 then([],[],(AM f dir name).2)else if AX f (AM f dir name).1=false then([],[],20)else if Ja f (AM f dir name).1=false then([],[],39)else
 (FY f dir.1.toNat fun ns=>Br (BW ns dir.2 name 0) (AM f dir name).1.2,[(dir,name,(AM f dir name).1,(0,0))],0)
section
theorem ZE(f:AZ)(dir:A9)(name:AE)(hv:FlsV f)(hs:name.size≤100000):AFn Tryz.prog 47 [.agg (As f), .agg (AA dir), .v (.string name)] (fun r=>r=CH (FB f dir name)):=by
 have hf:=hv.b
 refine enter Tryz.func47 rfl rfl rfl rfl rfl 0 rfl ?_
 refine w_ (b_ (h:=b_ (h:=AW (h:=a_ (h:=a_ (h:=e_ (q_ (w_ (l_ (h:=l_ (h:=m_ (h:=?_))))))))))))
 refine A4 rfl (AK (Kv f dir name hf hs) ?_)
 rintro r rfl
 refine a_ (h:=e_ (w_ (m_ (h:=BF (h:=e_ (?_))))))
 refine A8 rfl (fun hb1=>?_) (fun hb1=>?_)
 ·have hc1:=bp hb1
  refine w_ (AT (h:=m_ (h:=s_ (h:=a_ (h:=a_ (h:=e_ (A6 (A7 (?_)))))))))
  refine Aj (r:=CH (FB f dir name)) none (h5:=?_) (h6:=⟨rfl,rfl,rfl⟩)
  rw[FB,if_pos (by omega)]
  exact DM _
 have hc1:=bp hb1
 refine AG (w_ (l_ (h:=l_ (h:=m_ (h:=?_)))))
 refine A4 rfl (AK (Gp f dir name hf) ?_)
 rintro r rfl
 refine m_ (h:=x_ (h:=x_ (h:=AW (h:=s_ (h:=a_ (h:=e_ (q_ (w_ (m_ (h:=BF (h:=e_ (?_))))))))))))
 refine A8 rfl (fun hb2=>?_) (fun hb2=>?_)
 ·have hc2:=bp hb2
  refine w_ (AT (h:=m_ (h:=s_ (h:=a_ (h:=a_ (h:=e_ (A6 (A7 (?_)))))))))
  refine Aj (r:=CH (FB f dir name)) none (h5:=?_) (h6:=⟨rfl,rfl,rfl⟩)
  rw[FB,if_neg (by omega),if_pos (by omega)]
  exact DM _
 have hc2:=bp hb2
 have hlk:(AM f dir name).2=0:=by omega
 refine AG (q_ (w_ (l_ (h:=l_ (h:=?_)))))
 refine A4 rfl (AK (GO f (AM f dir name).1 hf) ?_)
 rintro r rfl
 refine e_ (?_)
 refine A8 rfl (fun hb3=>?_) (fun hb3=>?_)
 ·have hc3:=bp hb3
  refine w_ (AT (h:=s_ (h:=a_ (h:=a_ (h:=e_ (A6 (A7 (?_))))))))
  refine Aj (r:=CH (FB f dir name)) none (h5:=?_) (h6:=⟨rfl,rfl,rfl⟩)
  rw[FB,if_neg (by omega),if_neg (by omega),if_pos hc3]
  exact DM _
 have hc3:=bp hb3
 obtain⟨q,i,d,n0,hdq,hq,hn0,hino,hidx,hnode,hk0,hnm⟩:=GR (name:=name) (dir:=dir) (f:=f) (by omega)
 have hil:=(Ar.1 hn0).1
 have hql:=(Ar.1 hq).1
 have hvd:=hv.vd d (Au hq)
 obtain⟨e,he,hle⟩:=Mh hnode hk0 hlk
 have hat1:(AM f dir name).1.1=(q:Int):=by rw[hle];exact hdq
 have hat2:(AM f dir name).1.2≠1:=by rw[hle];exact(hvd.ent n0 (Au hn0) e (Gr he).1).2.1
 have hxl:(entS d.nodes i n0 name 0).length=d.nodes.length:=G0 _ _ _ _ _
 have hkp:0<(Cj (AM f dir name).1.2 (entS d.nodes i n0 name 0)).length:=by
  obtain⟨m,hm,hm1⟩:=Ty hvd hn0 name 0
  exact QV hm (by rw[hm1];exact hat2.symm)
 refine AG (w_ (l_ (h:=?_)))
 refine A4 rfl (BV [] rfl (.cons _ _ _ _ _ rfl (LeA.refl _) .nil) (by decide) .nil (L0 f q d hf hq (by omega)) ?_)
 rintro r bc tc ⟨rfl,cap,cap1,hcap,hcap1,rfl,rfl⟩
 refine⟨rfl,_,(L8 (n:=4) rfl f q d d.nodes cap cap1:Back _ [] _ [_,_,_,_,_,_]),?_⟩
 refine AW (h:=s_ (h:=e_ (w_ (l_ (h:=l_ (h:=m_ (h:=?_)))))))
 refine A4 rfl (BV [4,5] rfl (.cons _ _ _ _ _ rfl (LeA.refl _) (.cons _ _ _ _ _ rfl (LeA.refl _) (.cons _ _ _ _ _ rfl (LeA.refl _) (.cons _ _ _ _ _ rfl (LeA.refl _) .nil)))) (by decide) (.cons _ _ _ _ _ rfl (Fw (by rfl) _ _ _ _ _) (.cons _ _ _ _ _ rfl (FX _ _ _) .nil)) (MV f q d n0 i dir name 0 cap cap1 hf hq hdq hidx hn0 hcap hcap1) ?_)
 rintro r bc tc ⟨rfl,rfl,rfl⟩
 refine⟨rfl,_,(L9 (BT rfl) (BT rfl) (by decide) f q d (entS d.nodes i n0 name 0) cap cap1 cap1:Back _ [4,5] _ [_,_,_,_,_,_,_]),?_⟩
 refine e_ (w_ (l_ (h:=l_ (h:=?_))))
 refine A4 rfl (BV [4,5] rfl (.cons _ _ _ _ _ rfl (LeA.refl _) (.cons _ _ _ _ _ rfl (LeA.refl _) .nil)) (by decide) (.cons _ _ _ _ _ rfl (Fw (by rfl) _ _ _ _ _) (.cons _ _ _ _ _ rfl (FX _ _ _) .nil)) (QW f q d {d with nodes:=entS d.nodes i n0 name 0} (AM f dir name).1 cap cap1 (hv.entS hq hn0 name 0) hql hat1 hcap (by rw[G0];exact hcap1) hkp rfl hxl) ?_)
 rintro r bc tc ⟨rfl,rfl,⟨hns,rfl⟩|⟨hns,cap2,hcap2,rfl⟩⟩
 ·refine⟨rfl,_,(QT (n:=7) rfl (by decide) (by decide) (by decide) f q d (entS d.nodes i n0 name 0) (AM f dir name).1 f.length cap cap cap1 cap1:Back _ [4,5] _ [_,_,_,_,_,_,_,_,_]),?_⟩
  have hx1:(entS d.nodes i n0 name 0).length≤cap1:=by omega
  refine e_ (?_)
  refine B5 (fun t=>t=⟨look [(6, .bp 2 0),(7, .sl 7 [CK (dir,name,(AM f dir name).1,(0,0))] none),(8, .v (.int .i64 0))],⟨[As f,AA dir,As (f.set q {d with nodes:=Br (entS d.nodes i n0 name 0) (AM f dir name).1.2})],[]⟩⟩) ?_ ?_
  ·skip
   refine BH ([(0,As f),(1,AA dir),(3,AA (AM f dir name).1),(6,[.bs 4 0 2 f.length cap])]) 9 (h:=AJ 0 (h:=AJ 1 (h:=AN 2 (h:=AJ 3 (h:=?_)))))
   refine Bj 4 rfl (fun _ hS=>EC (y:= .agg (AA (0,0))) (Ca ⟨rfl,rfl⟩) (by repeat (first|exact LeA.refl _|exact LeA.nil _|exact LeL.refl _|refine LeA.agg ⟨rfl,rfl⟩|refine LeA.tup ⟨rfl,rfl⟩|exact LeL.nil|refine LeL.cons ⟨rfl,rfl⟩ ⟨rfl,rfl⟩|exact LeA.any _)) ⟨rfl,rfl⟩) ?_
   refine c_ 5 rfl (AK (KD dir name (AM f dir name).1 (0,0)) ?_)
   rintro r rfl
   refine o_ (h:=?_)
   refine B0 6 rfl (Aw rfl rfl rfl rfl rfl rfl (by repeat constructor) (by repeat constructor) ?_)
   refine o_ (h:=BC 7 (h:=BC 8 (h:=z_ (h:=?_))))
   refine AD ?_
   refine⟨_,rfl,?_⟩
   rw[show Br (entS d.nodes i n0 name 0) (AM f dir name).1.2=_ from hns]
   first|exact Em 3 2 rfl (congrArg (fun x=>[As f,AA dir,x]) (Hg (k:=0) (i:=4) (j:=9) (d:={d with nodes:=Cj (AM f dir name).1.2 (entS d.nodes i n0 name 0)}) (d':={d with nodes:=Cj (AM f dir name).1.2 (entS d.nodes i n0 name 0)}) hql rfl rfl hcap hcap2 (BT rfl) (BT rfl) rfl rfl)) (.cons _ _ _ _ rfl (LeA.refl _) (.cons _ _ _ _ rfl (LeA.refl _) (.cons _ _ _ _ rfl (LeA.refl _) .nil)))|exact Em 3 2 rfl (congrArg (fun x=>[As f,AA dir,x]) (Hg (k:=0) (i:=4) (j:=5) (d:=d) (d':={d with nodes:=entS d.nodes i n0 name 0}) hql rfl hxl hcap hx1 (BT rfl) (BT rfl) rfl rfl)) (.cons _ _ _ _ rfl (LeA.refl _) (.cons _ _ _ _ rfl (LeA.refl _) (.cons _ _ _ _ rfl (LeA.refl _) .nil)))
  rintro t rfl
  refine A6 (?_)
  refine AB ?_
  rw[FB,if_neg (by omega),if_neg (by omega),if_neg (by simp[hc3]),hdq,Int.toNat_natCast,Fz hq,←hino,←LA (hv.vd d (Au hq)) hn0]
  rfl
 refine⟨rfl,_,(QS (n:=7) rfl (by decide) (by decide) (by decide) f q {d with nodes:=Cj (AM f dir name).1.2 (entS d.nodes i n0 name 0)} (entS d.nodes i n0 name 0) (Cj (AM f dir name).1.2 (entS d.nodes i n0 name 0)) (AM f dir name).1 f.length cap cap cap1 cap2:Back _ [4,5] _ [_,_,_,_,_,_,_,_,_,_]),?_⟩
 refine e_ (?_)
 refine B5 (fun t=>t=⟨look [(6, .bp 2 0),(7, .sl 7 [CK (dir,name,(AM f dir name).1,(0,0))] none),(8, .v (.int .i64 0))],⟨[As f,AA dir,As (f.set q {d with nodes:=Br (entS d.nodes i n0 name 0) (AM f dir name).1.2})],[]⟩⟩) ?_ ?_
 ·skip
  refine BH ([(0,As f),(1,AA dir),(3,AA (AM f dir name).1),(6,[.bs 4 0 2 f.length cap])]) 9 (h:=AJ 0 (h:=AJ 1 (h:=AN 2 (h:=AJ 3 (h:=?_)))))
  refine Bj 4 rfl (fun _ hS=>EC (y:= .agg (AA (0,0))) (Ca ⟨rfl,rfl⟩) (by repeat (first|exact LeA.refl _|exact LeA.nil _|exact LeL.refl _|refine LeA.agg ⟨rfl,rfl⟩|refine LeA.tup ⟨rfl,rfl⟩|exact LeL.nil|refine LeL.cons ⟨rfl,rfl⟩ ⟨rfl,rfl⟩|exact LeA.any _)) ⟨rfl,rfl⟩) ?_
  refine c_ 5 rfl (AK (KD dir name (AM f dir name).1 (0,0)) ?_)
  rintro r rfl
  refine o_ (h:=?_)
  refine B0 6 rfl (Aw rfl rfl rfl rfl rfl rfl (by repeat constructor) (by repeat constructor) ?_)
  refine o_ (h:=BC 7 (h:=BC 8 (h:=z_ (h:=?_))))
  refine AD ?_
  refine⟨_,rfl,?_⟩
  rw[show Br (entS d.nodes i n0 name 0) (AM f dir name).1.2=_ from hns]
  exact Em 3 2 rfl (congrArg (fun x=>[As f,AA dir,x]) (Hg (k:=0) (i:=4) (j:=9) (d:={d with nodes:=Cj (AM f dir name).1.2 (entS d.nodes i n0 name 0)}) (d':={d with nodes:=Cj (AM f dir name).1.2 (entS d.nodes i n0 name 0)}) hql rfl rfl hcap hcap2 (BT rfl) (BT rfl) rfl rfl)) (.cons _ _ _ _ rfl (LeA.refl _) (.cons _ _ _ _ rfl (LeA.refl _) (.cons _ _ _ _ rfl (LeA.refl _) .nil)))
 rintro t rfl
 refine A6 (?_)
 refine AB ?_
 rw[FB,if_neg (by omega),if_neg (by omega),if_neg (by simp[hc3]),hdq,Int.toNat_natCast,Fz hq,←hino,←LA (hv.vd d (Au hq)) hn0]
 rfl
theorem ZF(f:AZ)(dir:A9)(name:AE)(hv:FlsV f)(hs:name.size≤100000):AFn Tryz.prog 126 [.agg (As f), .agg (AA dir), .v (.string name)] (fun r=>r=CH (Eb f dir name)):=by
 have hf:=hv.b
 refine enter Tryz.func126 rfl rfl rfl rfl rfl 0 rfl ?_
 refine w_ (b_ (h:=b_ (h:=AW (h:=a_ (h:=a_ (h:=e_ (q_ (w_ (l_ (h:=l_ (h:=m_ (h:=?_))))))))))))
 refine A4 rfl (AK (Kv f dir name hf hs) ?_)
 rintro r rfl
 refine a_ (h:=e_ (w_ (m_ (h:=BF (h:=e_ (?_))))))
 refine A8 rfl (fun hb1=>?_) (fun hb1=>?_)
 ·have hc1:=bp hb1
  refine w_ (AT (h:=m_ (h:=s_ (h:=a_ (h:=a_ (h:=e_ (A6 (A7 (?_)))))))))
  refine Aj (r:=CH (Eb f dir name)) none (h5:=?_) (h6:=⟨rfl,rfl,rfl⟩)
  rw[Eb,if_pos (by omega)]
  exact DM _
 have hc1:=bp hb1
 refine AG (w_ (l_ (h:=l_ (h:=m_ (h:=?_)))))
 refine A4 rfl (AK (Gp f dir name hf) ?_)
 rintro r rfl
 refine m_ (h:=x_ (h:=x_ (h:=AW (h:=s_ (h:=a_ (h:=e_ (q_ (w_ (m_ (h:=BF (h:=e_ (?_))))))))))))
 refine A8 rfl (fun hb2=>?_) (fun hb2=>?_)
 ·have hc2:=bp hb2
  refine w_ (AT (h:=m_ (h:=s_ (h:=a_ (h:=a_ (h:=e_ (A6 (A7 (?_)))))))))
  refine Aj (r:=CH (Eb f dir name)) none (h5:=?_) (h6:=⟨rfl,rfl,rfl⟩)
  rw[Eb,if_neg (by omega),if_pos (by omega)]
  exact DM _
 have hc2:=bp hb2
 have hlk:(AM f dir name).2=0:=by omega
 refine AG (q_ (w_ (l_ (h:=l_ (h:=?_)))))
 refine A4 rfl (AK (GO f (AM f dir name).1 hf) ?_)
 rintro r rfl
 refine BA (h:=e_ (?_))
 refine A8 rfl (fun hb3=>?_) (fun hb3=>?_)
 ·have hc3:=bp hb3
  refine w_ (AT (h:=s_ (h:=a_ (h:=a_ (h:=e_ (A6 (A7 (?_))))))))
  refine Aj (r:=CH (Eb f dir name)) none (h5:=?_) (h6:=⟨rfl,rfl,rfl⟩)
  rw[Eb,if_neg (by omega),if_neg (by omega),if_pos hc3]
  exact DM _
 have hc3:=bp hb3
 refine AG (q_ (w_ (l_ (h:=l_ (h:=?_)))))
 refine A4 rfl (AK (Su f (AM f dir name).1 hf) ?_)
 rintro r rfl
 refine BA (h:=e_ (?_))
 refine A8 rfl (fun hb4=>?_) (fun hb4=>?_)
 ·have hc4:=bp hb4
  refine w_ (AT (h:=s_ (h:=a_ (h:=a_ (h:=e_ (A6 (A7 (?_))))))))
  refine Aj (r:=CH (Eb f dir name)) none (h5:=?_) (h6:=⟨rfl,rfl,rfl⟩)
  rw[Eb,if_neg (by omega),if_neg (by omega),if_neg (by simp[hc3]),if_pos hc4]
  exact DM _
 have hc4:=bp hb4
 obtain⟨q,i,d,n0,hdq,hq,hn0,hino,hidx,hnode,hk0,hnm⟩:=GR (name:=name) (dir:=dir) (f:=f) (by omega)
 have hil:=(Ar.1 hn0).1
 have hql:=(Ar.1 hq).1
 have hvd:=hv.vd d (Au hq)
 obtain⟨e,he,hle⟩:=Mh hnode hk0 hlk
 have hat1:(AM f dir name).1.1=(q:Int):=by rw[hle];exact hdq
 have hat2:(AM f dir name).1.2≠1:=by rw[hle];exact(hvd.ent n0 (Au hn0) e (Gr he).1).2.1
 have hxl:(entS d.nodes i n0 name 0).length=d.nodes.length:=G0 _ _ _ _ _
 have hkp:0<(Cj (AM f dir name).1.2 (entS d.nodes i n0 name 0)).length:=by
  obtain⟨m,hm,hm1⟩:=Ty hvd hn0 name 0
  exact QV hm (by rw[hm1];exact hat2.symm)
 refine AG (w_ (l_ (h:=?_)))
 refine A4 rfl (BV [] rfl (.cons _ _ _ _ _ rfl (LeA.refl _) .nil) (by decide) .nil (L0 f q d hf hq (by omega)) ?_)
 rintro r bc tc ⟨rfl,cap,cap1,hcap,hcap1,rfl,rfl⟩
 refine⟨rfl,_,(L8 (n:=4) rfl f q d d.nodes cap cap1:Back _ [] _ [_,_,_,_,_,_]),?_⟩
 refine AW (h:=s_ (h:=e_ (w_ (l_ (h:=l_ (h:=m_ (h:=?_)))))))
 refine A4 rfl (BV [4,5] rfl (.cons _ _ _ _ _ rfl (LeA.refl _) (.cons _ _ _ _ _ rfl (LeA.refl _) (.cons _ _ _ _ _ rfl (LeA.refl _) (.cons _ _ _ _ _ rfl (LeA.refl _) .nil)))) (by decide) (.cons _ _ _ _ _ rfl (Fw (by rfl) _ _ _ _ _) (.cons _ _ _ _ _ rfl (FX _ _ _) .nil)) (MV f q d n0 i dir name 0 cap cap1 hf hq hdq hidx hn0 hcap hcap1) ?_)
 rintro r bc tc ⟨rfl,rfl,rfl⟩
 refine⟨rfl,_,(L9 (BT rfl) (BT rfl) (by decide) f q d (entS d.nodes i n0 name 0) cap cap1 cap1:Back _ [4,5] _ [_,_,_,_,_,_,_]),?_⟩
 refine e_ (w_ (l_ (h:=l_ (h:=?_))))
 refine A4 rfl (BV [4,5] rfl (.cons _ _ _ _ _ rfl (LeA.refl _) (.cons _ _ _ _ _ rfl (LeA.refl _) .nil)) (by decide) (.cons _ _ _ _ _ rfl (Fw (by rfl) _ _ _ _ _) (.cons _ _ _ _ _ rfl (FX _ _ _) .nil)) (QW f q d {d with nodes:=entS d.nodes i n0 name 0} (AM f dir name).1 cap cap1 (hv.entS hq hn0 name 0) hql hat1 hcap (by rw[G0];exact hcap1) hkp rfl hxl) ?_)
 rintro r bc tc ⟨rfl,rfl,⟨hns,rfl⟩|⟨hns,cap2,hcap2,rfl⟩⟩
 ·refine⟨rfl,_,(QT (n:=7) rfl (by decide) (by decide) (by decide) f q d (entS d.nodes i n0 name 0) (AM f dir name).1 f.length cap cap cap1 cap1:Back _ [4,5] _ [_,_,_,_,_,_,_,_,_]),?_⟩
  have hx1:(entS d.nodes i n0 name 0).length≤cap1:=by omega
  refine e_ (?_)
  refine B5 (fun t=>t=⟨look [(6, .bp 2 0),(7, .sl 7 [CK (dir,name,(AM f dir name).1,(0,0))] none),(8, .v (.int .i64 0))],⟨[As f,AA dir,As (f.set q {d with nodes:=Br (entS d.nodes i n0 name 0) (AM f dir name).1.2})],[]⟩⟩) ?_ ?_
  ·skip
   refine BH ([(0,As f),(1,AA dir),(3,AA (AM f dir name).1),(6,[.bs 4 0 2 f.length cap])]) 9 (h:=AJ 0 (h:=AJ 1 (h:=AN 2 (h:=AJ 3 (h:=?_)))))
   refine Bj 4 rfl (fun _ hS=>EC (y:= .agg (AA (0,0))) (Ca ⟨rfl,rfl⟩) (by repeat (first|exact LeA.refl _|exact LeA.nil _|exact LeL.refl _|refine LeA.agg ⟨rfl,rfl⟩|refine LeA.tup ⟨rfl,rfl⟩|exact LeL.nil|refine LeL.cons ⟨rfl,rfl⟩ ⟨rfl,rfl⟩|exact LeA.any _)) ⟨rfl,rfl⟩) ?_
   refine c_ 5 rfl (AK (KD dir name (AM f dir name).1 (0,0)) ?_)
   rintro r rfl
   refine o_ (h:=?_)
   refine B0 6 rfl (Aw rfl rfl rfl rfl rfl rfl (by repeat constructor) (by repeat constructor) ?_)
   refine o_ (h:=BC 7 (h:=BC 8 (h:=z_ (h:=?_))))
   refine AD ?_
   refine⟨_,rfl,?_⟩
   rw[show Br (entS d.nodes i n0 name 0) (AM f dir name).1.2=_ from hns]
   first|exact Em 3 2 rfl (congrArg (fun x=>[As f,AA dir,x]) (Hg (k:=0) (i:=4) (j:=9) (d:={d with nodes:=Cj (AM f dir name).1.2 (entS d.nodes i n0 name 0)}) (d':={d with nodes:=Cj (AM f dir name).1.2 (entS d.nodes i n0 name 0)}) hql rfl rfl hcap hcap2 (BT rfl) (BT rfl) rfl rfl)) (.cons _ _ _ _ rfl (LeA.refl _) (.cons _ _ _ _ rfl (LeA.refl _) (.cons _ _ _ _ rfl (LeA.refl _) .nil)))|exact Em 3 2 rfl (congrArg (fun x=>[As f,AA dir,x]) (Hg (k:=0) (i:=4) (j:=5) (d:=d) (d':={d with nodes:=entS d.nodes i n0 name 0}) hql rfl hxl hcap hx1 (BT rfl) (BT rfl) rfl rfl)) (.cons _ _ _ _ rfl (LeA.refl _) (.cons _ _ _ _ rfl (LeA.refl _) (.cons _ _ _ _ rfl (LeA.refl _) .nil)))
  rintro t rfl
  refine A6 (?_)
  refine AB ?_
  rw[Eb,if_neg (by omega),if_neg (by omega),if_neg (by simp[hc3]),if_neg (by simp[hc4]),hdq,Int.toNat_natCast,Fz hq,←hino,←LA (hv.vd d (Au hq)) hn0]
  rfl
 refine⟨rfl,_,(QS (n:=7) rfl (by decide) (by decide) (by decide) f q {d with nodes:=Cj (AM f dir name).1.2 (entS d.nodes i n0 name 0)} (entS d.nodes i n0 name 0) (Cj (AM f dir name).1.2 (entS d.nodes i n0 name 0)) (AM f dir name).1 f.length cap cap cap1 cap2:Back _ [4,5] _ [_,_,_,_,_,_,_,_,_,_]),?_⟩
 refine e_ (?_)
 refine B5 (fun t=>t=⟨look [(6, .bp 2 0),(7, .sl 7 [CK (dir,name,(AM f dir name).1,(0,0))] none),(8, .v (.int .i64 0))],⟨[As f,AA dir,As (f.set q {d with nodes:=Br (entS d.nodes i n0 name 0) (AM f dir name).1.2})],[]⟩⟩) ?_ ?_
 ·skip
  refine BH ([(0,As f),(1,AA dir),(3,AA (AM f dir name).1),(6,[.bs 4 0 2 f.length cap])]) 9 (h:=AJ 0 (h:=AJ 1 (h:=AN 2 (h:=AJ 3 (h:=?_)))))
  refine Bj 4 rfl (fun _ hS=>EC (y:= .agg (AA (0,0))) (Ca ⟨rfl,rfl⟩) (by repeat (first|exact LeA.refl _|exact LeA.nil _|exact LeL.refl _|refine LeA.agg ⟨rfl,rfl⟩|refine LeA.tup ⟨rfl,rfl⟩|exact LeL.nil|refine LeL.cons ⟨rfl,rfl⟩ ⟨rfl,rfl⟩|exact LeA.any _)) ⟨rfl,rfl⟩) ?_
  refine c_ 5 rfl (AK (KD dir name (AM f dir name).1 (0,0)) ?_)
  rintro r rfl
  refine o_ (h:=?_)
  refine B0 6 rfl (Aw rfl rfl rfl rfl rfl rfl (by repeat constructor) (by repeat constructor) ?_)
  refine o_ (h:=BC 7 (h:=BC 8 (h:=z_ (h:=?_))))
  refine AD ?_
  refine⟨_,rfl,?_⟩
  rw[show Br (entS d.nodes i n0 name 0) (AM f dir name).1.2=_ from hns]
  exact Em 3 2 rfl (congrArg (fun x=>[As f,AA dir,x]) (Hg (k:=0) (i:=4) (j:=9) (d:={d with nodes:=Cj (AM f dir name).1.2 (entS d.nodes i n0 name 0)}) (d':={d with nodes:=Cj (AM f dir name).1.2 (entS d.nodes i n0 name 0)}) hql rfl rfl hcap hcap2 (BT rfl) (BT rfl) rfl rfl)) (.cons _ _ _ _ rfl (LeA.refl _) (.cons _ _ _ _ rfl (LeA.refl _) (.cons _ _ _ _ rfl (LeA.refl _) .nil)))
 rintro t rfl
 refine A6 (?_)
 refine AB ?_
 rw[Eb,if_neg (by omega),if_neg (by omega),if_neg (by simp[hc3]),if_neg (by simp[hc4]),hdq,Int.toNat_natCast,Fz hq,←hino,←LA (hv.vd d (Au hq)) hn0]
 rfl
end
section
variable {P:Program}{N:Dim}{ops:Array Oper}{Q:Exit→AS→Prop}{S:AH→Prop}{tl:Nat}
def Tz(ops:Array Oper)(tl:Nat):Bool:=NC ops tl
end
section
variable {P:Program}{N:Dim}{Q:Exit→AS→Prop}{l:List Oper}{S:AH→Prop}{tl:Nat}{fuel:Nat}{listed:Array Bool}{m:List (Nat×AV)}{h:AH}{op:Op}{ty:TypeId}{pos:String}{af:Array Edge}{gd:Option (Nat×Bool)}
theorem ZG{i d:Nat}{x:AV}(hi:l[i]?=some ⟨some d,op,ty,pos,af,gd⟩)(hd:Nat.blt d N.n=true)(htl:(Tz l.toArray tl&&NA l.toArray listed&& !Nat.ble tl i&&Region.free .any l.toArray listed i&&(Region.ready .any l.toArray listed).contains i)=true)
    (hw:CR l.toArray (look m) ⟨some d,op,ty,pos,af,gd⟩=some true) (hst:∀h,S h→AStep P ⟨some d,op,ty,pos,af,gd⟩ (C9 (look m)) h (fun x' h'=>x'=x∧h'=h)) (hS:S h)
    (H:AAny P N l.toArray Q S tl fuel (listed.setIfInBounds i true) ⟨look ((d,x)::m),h⟩):AAny P N l.toArray Q S tl (fuel+1) listed ⟨look m,h⟩:=by
 simp only[Bool.and_eq_true,Bool.not_eq_true']at htl
 obtain⟨⟨⟨⟨t1,t0⟩,t2⟩,t3⟩,t4⟩:=htl
 exact AAny.first3 (oi:=⟨some d,op,ty,pos,af,gd⟩) (H9 hi) hd t1 t2 fuel listed ⟨look m,h⟩ (Rt t0) (Region.free_spec (H9 hi) t3) (List.contains_iff_mem.1 t4) (.inl ⟨hw,hst⟩) hS H
end
theorem Dy{P:Program}{N:Dim}{Q:Exit→AS→Prop}{l:List Oper}{S:AH→Prop}{tl:Nat}{fuel:Nat}{listed:Array Bool}{m:List (Nat×AV)}{h:AH}{op:Op}{ty:TypeId}{pos:String}{af:Array Edge}{gd:Option (Nat×Bool)}(i:Nat){d:Nat}{x:AV}(hi:l[i]?=some ⟨some d,op,ty,pos,af,gd⟩)(hst:∀h,S h→AStep P ⟨some d,op,ty,pos,af,gd⟩ (C9 (look m)) h (fun x' h'=>x'=x∧h'=h))(H:AAny P N l.toArray Q S tl fuel (listed.setIfInBounds i true) ⟨look ((d,x)::m),h⟩)(hd:Nat.blt d N.n=true:=by rfl)(htl:(Tz l.toArray tl&&NA l.toArray listed&& !Nat.ble tl i&&Region.free .any l.toArray listed i&&(Region.ready .any l.toArray listed).contains i)=true:=by kernel_rfl)(hw:CR l.toArray (look m) ⟨some d,op,ty,pos,af,gd⟩=some true:=by first|rfl|exact Al rfl rfl (Bv ‹_›)|exact Al rfl rfl (Bw ‹_›)|exact Al rfl rfl (by simp[*]))(hS:S h:=by repeat (first|exact M5 _|refine M6 rfl ?_)):AAny P N l.toArray Q S tl (fuel+1) listed ⟨look m,h⟩:=ZG hi hd htl hw hst hS H
theorem QX{f:AZ}{a:A9}{q i:Nat}{d:Dvc}{n:Nod}(ha:a.1=(q:Int))(hq:f[q]?=some d)(hd:Dm d.nodes)(hn:d.nodes[i]?=some n)(hi:n.ino=a.2):F8 f a=(i:Int):=by
 rw[Pd ha hq]
 refine Sm hn (by simpa using hi) fun j y hj hy=>?_
 obtain⟨l1,e1⟩:=Ar.1 hn
 obtain⟨l2,e2⟩:=Ar.1 hy
 have hp:=List.pairwise_iff_getElem.1 hd j i l2 l1 hj
 rw[e1,e2]at hp
 have:y.ino≠a.2:=by omega
 simpa using this
theorem U0(f:AZ)(q:Nat)(d':Dvc)(n:Nod)(i:Nat)(a:A9)(name:AE)(ino:Int)(cap cap1:Nat)(hf:FlsB (f.set q d'))(hq:q<f.length)(ha:a.1=(q:Int))(hi:F8 (f.set q d') a=(i:Int))(hn:d'.nodes[i]?=some n)(hcap:f.length≤cap)(hcap1:d'.nodes.length≤cap1):
    ACall Tryz.prog 76 [.agg [.bs 0 0 2 f.length cap], .agg (AA a), .v (.string name), .v (.int .i64 ino)] [DB f q d' 1 cap cap1,NB d'.nodes cap1] (fun r b t=>t=[]∧r= .tup []∧b=[DB f q d' 1 cap cap1,NB (entS d'.nodes i n name ino) cap1]):=by
 have key:=MV (f.set q d') q d' n i a name ino cap cap1 hf (by simp[hq]) ha hi hn (by simpa using hcap) hcap1
 rw[List.length_set,Q7]at key
 exact key
def EJ(f:AZ)(a:A9)(mode uid gid:Int):AZ×Int:=
 if Cy f a=false then([],2)else if En (ET mode uid gid (Aa f a))=false then([],22)else(FY f a.1.toNat fun ns=>CX ns a.2 (ET mode uid gid),0)
def Mi(R:AZ×Int):AV:= .tup [.agg (As R.1), .v (.int .i64 R.2)]
theorem U1(e:Int):LeA (.tup [.agg [.v (.slice none 0 0)], .v (.int .i64 e)]) (Mi ([],e)):=(by repeat (first|exact LeA.refl _|exact LeA.nil _|exact LeL.refl _|refine LeA.agg ?_|refine LeA.tup ?_|exact LeL.nil|refine LeL.cons ?_ ?_|exact LeA.any _))
theorem ZH{n:Nod}(h:En n=true):n.target.size≤128:=by
 unfold En at h
 split at h
 ·cases h
 split at h
 ·simp[KA]at h;omega
 have h2:=List.isEmpty_iff.1 h
 rw[ByteArray.toList_eq]at h2
 have:n.target.data.size=0:=by rw[←Array.length_toList,h2];rfl
 show n.target.data.size≤128
 omega
theorem Mj{f:AZ}(hv:FlsV f)(a:A9):(Aa f a).target.size≤128:=by
 rcases J0 f a with⟨-,h⟩|⟨k,i,d,n, -,h1,h2, -, -,h⟩
 ·simp only[Aa,h,Option.getD_none]
  exact Nat.zero_le _
 simp only[Aa,h,Option.getD_some]
 exact ZH ((hv.vd d (Au h1)).plain n (Au h2))
def Dn(f:AZ)(dir:A9)(name:AE)(n:Nod):DP:=
 if CF f dir name≠0 then([],[],CF f dir name)else if En n=false then([],[],22)else if(AM f dir name).2=0 then([],[],17)else
 match EE f dir.1 with
 |none=>([],[],2)
 |some d=>if 16≤d.nodes.length∨d.next=1073741824∨J2 f dir=true then([],[],28)else(f.set dir.1.toNat ⟨d.next+1,BW d.nodes dir.2 name d.next++[ES n d.next dir.2]⟩,[(dir,name,(0,0),(dir.1,d.next))],0)
theorem U2{f:AZ}{q:Nat}{d:Dvc}{j j' cap cap1 c:Nat}(m:Nod)(hq:q<f.length):SetAt (DB f q d j cap cap1) (0+q * 2+1) [.bs j' 0 8 (d.nodes.length+1) c] (DB f q {d with nodes:=d.nodes++[m]} j' cap c):=by
 have h:=Q6 (d:=d) (d':={d with nodes:=d.nodes++[m]}) (j:=j) (j':=j') (cap:=cap) (cap1:=cap1) (cap1':=c) (k:=1) (cs:=[.bs j' 0 8 (d.nodes++[m]).length c]) hq (by repeat constructor) (by simp)
 rwa [List.length_append]at h
section
theorem ZJ(f:AZ)(a:A9)(mode uid gid:Int)(hv:FlsV f):AFn Tryz.prog 127 [.agg (As f), .agg (AA a), .v (.int .i64 mode), .v (.int .i64 uid), .v (.int .i64 gid)] (fun r=>r=Mi (EJ f a mode uid gid)):=by
 have hf:=hv.b
 have htg:=Mj hv a
 refine enter Tryz.func127 rfl rfl rfl rfl rfl 0 rfl ?_
 refine w_ (b_ (h:=b_ (h:=AW (h:=a_ (h:=e_ (w_ (l_ (h:=l_ (h:=?_)))))))))
 refine A4 rfl (AK (Dk f a hf) ?_)
 rintro r rfl
 refine m_ (h:=x_ (h:=x_ (h:=AW (h:=s_ (h:=a_ (h:=e_ (q_ (w_ (m_ (h:=BA (h:=e_ (?_))))))))))))
 refine A8 rfl (fun hb1=>?_) (fun hb1=>?_)
 ·have hc1:=bp hb1
  refine w_ (AT (h:=s_ (h:=a_ (h:=e_ (A6 (A7 (?_)))))))
  refine Aj (r:=Mi (EJ f a mode uid gid)) none (h5:=?_) (h6:=⟨rfl,rfl,rfl⟩)
  rw[EJ,if_pos hc1]
  exact U1 _
 have hc1:=bp hb1
 refine AG (w_ (m_ (h:=m_ (h:=m_ (h:=f_ (h:=s_ (h:=f_ (h:=s_ (h:=f_ (h:=s_ (h:=e_ (q_ (w_ (l_ (h:=?_)))))))))))))))
 refine A4 rfl (AK (Sv (ET mode uid gid (Aa f a)) (by show(Aa f a).target.size≤100000;omega)) ?_)
 rintro r rfl
 refine BA (h:=e_ (?_))
 refine A8 rfl (fun hb2=>?_) (fun hb2=>?_)
 ·have hc2:=bp hb2
  refine w_ (AT (h:=s_ (h:=a_ (h:=e_ (A6 (A7 (?_)))))))
  refine Aj (r:=Mi (EJ f a mode uid gid)) none (h5:=?_) (h6:=⟨rfl,rfl,rfl⟩)
  rw[EJ,if_neg (by simp[hc1]),if_pos hc2]
  exact U1 _
 have hc2:=bp hb2
 obtain⟨q,i,d,n0,hdq,hq,hn0,hino,hidx,hnode⟩:=(J0 f a).resolve_left (fun h=>by simp[Cy,h.2]at hc1)
 have hil:=(Ar.1 hn0).1
 have hql:=(Ar.1 hq).1
 have hng:Aa f a=n0:=by simp[Aa,hnode]
 refine AG (w_ (l_ (h:=?_)))
 refine A4 rfl (BV [] rfl (.cons _ _ _ _ _ rfl (LeA.refl _) .nil) (by decide) .nil (L0 f q d hf hq (by omega)) ?_)
 rintro r bc tc ⟨rfl,cap,cap1,hcap,hcap1,rfl,rfl⟩
 refine⟨rfl,_,(L8 (n:=4) rfl f q d d.nodes cap cap1:Back _ [] _ [_,_,_,_,_,_]),?_⟩
 have hD0:(DB f q d 5 cap cap1)[0+q * 2+1]?=some (.bs 5 0 8 d.nodes.length cap1):=MO hql
 have hset:SetAt (NB d.nodes cap1) (0+i * 8) (Ah (ET mode uid gid (Aa f a))) (NB (d.nodes.set i (ET mode uid gid (Aa f a))) cap1):=by
  rw[hng]
  exact Q5 (k:=0) hn0 (by repeat constructor) (by simp[Ah])
 refine AW (h:=s_ (h:=e_ (q_ (BH ([(0,As f),(1,AA a),(3,Ah (ET mode uid gid (Aa f a))),(4,DB f q d 5 cap cap1),(6,[.bs 4 0 2 f.length cap])]) 13 (h:=AF 0 (h:=?_))))))
 refine AJ 1 (h:=?_)
 refine AF 2 (h:=?_)
 refine AJ 3 (h:=?_)
 refine Bj 4 rfl (fun _ hS=>DF (m:=q) rfl rfl hdq hql ⟨rfl,rfl⟩) ?_
 refine AF 5 (h:=?_)
 first|refine AJ 6 (h:=?_)|refine Bj 6 rfl (fun _ hS=>D4 (row:=DB f q d 5 cap cap1) rfl (kb hS rfl) hD0 ⟨rfl,rfl⟩) ?_
 refine AJ 7 (h:=?_)
 refine AJ 8 (h:=?_)
 refine AJ 10 (h:=?_)
 refine c_ 9 rfl (Cf 2 rfl (.cons _ _ _ _ _ rfl (LeA.of_eq (Jf hq hcap hcap1 (Nat.zero_le _) (Nat.zero_le _) rfl rfl)) (.cons _ _ _ _ _ rfl (LeA.refl _) .nil)) (Jb f a hf) ?_)
 rintro r rfl
 refine⟨rfl,?_⟩
 refine o_ (h:=?_)
 refine Bj 11 rfl (fun _ hS=>DF (m:=i) rfl rfl hidx hil ⟨rfl,rfl⟩) ?_
 refine B0 12 rfl (Aw rfl rfl rfl rfl rfl rfl hset (by repeat constructor) ?_)
 refine o_ (h:=z_ (h:=t_ (?_)))
 refine B5 (fun t=>t=⟨look [(10, .bp 2 0),(11, .v (.int .i64 0))],⟨[As f,AA a,As (f.set q {d with nodes:=d.nodes.set i (ET mode uid gid (Aa f a))})],[]⟩⟩) ?_ ?_
 ·skip
  refine AP (l_ (h:=s_ (h:=a_ (h:=AO (?_)))))
  refine AD ?_
  exact⟨_,rfl,Em 3 2 rfl (congrArg (fun x=>[As f,AA a,x]) (Hg (k:=0) (i:=4) (j:=5) (d:=d) (d':={d with nodes:=d.nodes.set i (ET mode uid gid (Aa f a))}) hql rfl (by simp) hcap (by simpa using hcap1) (BT rfl) (BT rfl) rfl rfl)) (.cons _ _ _ _ rfl (LeA.refl _) (.cons _ _ _ _ rfl (LeA.refl _) .nil))⟩
 rintro t rfl
 refine A6 (?_)
 refine AB ?_
 rw[EJ,if_neg (by simp[hc1]),if_neg (by simp[hc2]),hdq,Int.toNat_natCast,Fz hq,←hino,←Mg (hv.vd d (Au hq)).asc hn0,←hng]
 rfl
theorem ZK(f:AZ)(dir:A9)(name:AE)(n:Nod)(hv:FlsV f)(hs:name.size≤100000)(hns:n.target.size≤100000):AFn Tryz.prog 45 [.agg (As f), .agg (AA dir), .v (.string name), .agg (Ah n)] (fun r=>r=CH (Dn f dir name n)):=by
 have hf:=hv.b
 obtain⟨e0,he0⟩:∃e0:Int,e0=if CF f dir name≠0 then CF f dir name else if En n=false then 22 else 0:=⟨_,rfl⟩
 refine enter Tryz.func45 rfl rfl rfl rfl rfl 0 rfl ?_
 refine w_ (b_ (h:=b_ (h:=b_ (h:=AW (h:=a_ (h:=a_ (h:=e_ (w_ (l_ (h:=l_ (h:=m_ (h:=?_))))))))))))
 refine A4 rfl (AK (Kv f dir name hf hs) ?_)
 rintro r rfl
 refine a_ (h:=e_ (?_))
 refine B5 (fun t=>t=⟨look [(2, .v (.string name)),(4, .bp 0 0),(5, .bp 1 0),(7, .bp 2 0),(8, .bp 3 0),(9, .v (.slice none 0 0)),(10, .v (.int .i64 0)),(11, .v (.int .i64 e0))],⟨[As f,AA dir,Ah n,[.v (.slice none 0 0)]],[]⟩⟩) ?_ ?_
 ·skip
  refine w_ (m_ (h:=AQ (h:=m_ (h:=?_))))
  refine Ax true rfl rfl (fun hb1=>?_) (fun hb1=>?_)
  ·have hc1:=bp hb1
   refine l_ (h:=?_)
   refine B6 (AK (Sv n hns) ?_)
   rintro r rfl
   refine BA (h:=Af (h:=e_ (?_)))
   refine A8 rfl (fun hb2=>?_) (fun hb2=>?_)
   ·have hc2:=bp hb2
    have hee:e0=22:=by rw[he0,if_neg (by omega),if_pos hc2]
    refine AP (a_ (h:=AO (?_)))
    refine AD ?_
    refine⟨_,rfl,?_⟩
    rw[hee]
    exact(wk 4 0)
   have hc2:=bp hb2
   have hee:e0=CF f dir name:=by rw[he0,if_neg (by omega),if_neg (by simp[hc2]),hc1]
   refine BB (?_)
   refine AD ?_
   refine⟨_,rfl,?_⟩
   rw[hee]
   exact(wk 4 0)
  have hc1:=bp hb1
  have hee:e0=CF f dir name:=by rw[he0,if_pos hc1]
  refine A3 (h:=A3 (h:=A3 (h:=Am (h:=e_ (F6 (h:=BB (?_)))))))
  refine AD ?_
  refine⟨_,rfl,?_⟩
  rw[hee]
  exact(wk 4 0)
 rintro t rfl
 refine q_ (w_ (m_ (h:=BF (h:=e_ (?_)))))
 refine A8 rfl (fun hb3=>?_) (fun hb3=>?_)
 ·have hc3:=bp hb3
  refine w_ (AT (h:=m_ (h:=s_ (h:=a_ (h:=a_ (h:=e_ (A6 (A7 (?_)))))))))
  refine Aj (r:=CH (Dn f dir name n)) none (h5:=?_) (h6:=⟨rfl,rfl,rfl⟩)
  rw[show Dn f dir name n=([],[],e0) by
   unfold Dn
   by_cases h:CF f dir name=0
   ·rw[if_neg (by omega)]at he0 ⊢
    by_cases h2:En n=false
    ·rw[if_pos h2]at he0 ⊢;rw[he0]
    rw[if_neg h2]at he0;omega
   rw[if_pos h]at he0 ⊢;rw[he0]]
  exact DM _
 have hc3:=bp hb3
 have hpl:CF f dir name=0:=by
  by_cases h:CF f dir name=0
  ·exact h
  rw[if_pos h]at he0;omega
 have hpn:¬En n=false:=by
  intro h
  rw[if_neg (by omega),if_pos h]at he0
  omega
 refine AG (q_ (w_ (l_ (h:=l_ (h:=m_ (h:=?_))))))
 refine A4 rfl (AK (Gp f dir name hf) ?_)
 rintro r rfl
 refine m_ (h:=x_ (h:=x_ (h:=AW (h:=s_ (h:=a_ (h:=e_ (w_ (m_ (h:=AQ (h:=e_ (?_)))))))))))
 refine A8 rfl (fun hb4=>?_) (fun hb4=>?_)
 ·have hc4:=bp hb4
  refine w_ (AT (h:=s_ (h:=a_ (h:=a_ (h:=e_ (A6 (A7 (?_))))))))
  refine Aj (r:=CH (Dn f dir name n)) none (h5:=?_) (h6:=⟨rfl,rfl,rfl⟩)
  rw[Dn,if_neg (by omega),if_neg hpn,if_pos (by omega)]
  exact DM _
 have hc4:=bp hb4
 obtain⟨q,i,d,n0,hdq,hq,hn0,hino,hidx,hnode,hk0,hnm⟩:=GR (name:=name) (dir:=dir) (f:=f) hpl
 have hil:=(Ar.1 hn0).1
 have hql:=(Ar.1 hq).1
 have hvd:=hv.vd d (Au hq)
 have hatI:EE f dir.1=some d:=by rw[hdq,K9,hq]
 have hrow:(f.map Bn)[q]?=some (Bn d):=by rw[List.getElem?_map,hq];rfl
 have hnx1:=hvd.next2
 have hnx2:=hvd.nextM
 have hdl:=hvd.len
 refine AG (w_ (f_ (h:=l_ (h:=f_ (h:=l_ (h:=?_))))))
 refine A4 rfl (CS (n:=q) rfl rfl hdq hrow ?_)
 refine l_ (h:=AW (h:=s_ (h:=e_ (q_ (w_ (f_ (h:=l_ (h:=n_ (h:=Fu (h:=m_ (h:=?_)))))))))))
 refine Ax false rfl rfl (fun hb5=>?_) (fun hb5=>?_)
 ·have hc5:=bp hb5
  refine A3 (h:=A3 (h:=A3 (h:=Af (h:=m_ (h:=A3 (h:=A3 (h:=A3 (h:=Af (h:=e_ (Bf (h:=w_ (AT (h:=s_ (h:=a_ (h:=a_ (h:=e_ (A6 (A7 (?_)))))))))))))))))))
  refine Aj (r:=CH (Dn f dir name n)) none (h5:=?_) (h6:=⟨rfl,rfl,rfl⟩)
  rw[Dn,if_neg (by omega),if_neg hpn,if_neg (by omega),hatI]
  simp only
  rw[if_pos (by first|exact .inl (by simp at *;omega)|exact .inr (.inl (by omega))|exact .inr (.inr (by assumption)))]
  exact DM _
 have hc5:=bp hb5
 refine f_ (h:=l_ (h:=AQ (h:=Am (h:=m_ (h:=?_)))))
 refine Ax false rfl rfl (fun hb6=>?_) (fun hb6=>?_)
 ·have hc6:=bp hb6
  refine A3 (h:=A3 (h:=A3 (h:=Af (h:=e_ (Bf (h:=w_ (AT (h:=s_ (h:=a_ (h:=a_ (h:=e_ (A6 (A7 (?_))))))))))))))
  refine Aj (r:=CH (Dn f dir name n)) none (h5:=?_) (h6:=⟨rfl,rfl,rfl⟩)
  rw[Dn,if_neg (by omega),if_neg hpn,if_neg (by omega),hatI]
  simp only
  rw[if_pos (by first|exact .inl (by simp at *;omega)|exact .inr (.inl (by omega))|exact .inr (.inr (by assumption)))]
  exact DM _
 have hc6:=bp hb6
 refine l_ (h:=l_ (h:=?_))
 refine B6 (AK (Pg f dir hf) ?_)
 rintro r rfl
 refine Am (h:=e_ (?_))
 refine A8 rfl (fun hb7=>?_) (fun hb7=>?_)
 ·have hc7:=bp hb7
  refine w_ (AT (h:=s_ (h:=a_ (h:=a_ (h:=e_ (A6 (A7 (?_))))))))
  refine Aj (r:=CH (Dn f dir name n)) none (h5:=?_) (h6:=⟨rfl,rfl,rfl⟩)
  rw[Dn,if_neg (by omega),if_neg hpn,if_neg (by omega),hatI]
  simp only
  rw[if_pos (by first|exact .inl (by simp at *;omega)|exact .inr (.inl (by omega))|exact .inr (.inr (by assumption)))]
  exact DM _
 have hc7:=bp hb7
 refine AG (w_ (l_ (h:=?_)))
 refine A4 rfl (BV [] rfl (.cons _ _ _ _ _ rfl (LeA.refl _) .nil) (by decide) .nil (L0 f q d hf hq (by omega)) ?_)
 rintro r bc tc ⟨rfl,cap,cap1,hcap,hcap1,rfl,rfl⟩
 refine⟨rfl,_,(L8 (n:=6) rfl f q d d.nodes cap cap1:Back _ [] _ [_,_,_,_,_,_,_,_]),?_⟩
 have hD0:(DB f q d 7 cap cap1)[0+q * 2+1]?=some (.bs 7 0 8 d.nodes.length cap1):=MO hql
 obtain⟨mk,hmk⟩:∃mk,mk=ES n d.next dir.2:=⟨_,rfl⟩
 refine AW (h:=s_ (h:=e_ (w_ (f_ (h:=l_ (h:=f_ (h:=l_ (h:=f_ (h:=l_ (h:=f_ (h:=l_ (h:=f_ (h:=l_ (h:=f_ (h:=l_ (h:=?_))))))))))))))))
 refine A4 rfl (EQ (y:= .agg (Ah ⟨d.next,n.kind,n.mode,n.uid,n.gid,0,n.target,[]⟩)) (Ca ⟨rfl,rfl⟩) ?_)
 refine AW (h:=s_ (h:=e_ (?_)))
 refine B5 (fun t=>t=⟨look [(2, .v (.string name)),(5, .bp 1 0),(8, .bp 3 0),(15, .bp 8 0),(16, .bp 9 0)],⟨[As f,AA dir,Ah n,[.v (.slice none 0 0)],AA (AM f dir name).1,Bn d,DB f q d 7 cap cap1,NB d.nodes cap1,[.bs 6 0 2 f.length cap],Ah mk],[]⟩⟩) ?_ ?_
 ·skip
  refine w_ (f_ (h:=l_ (h:=AQ (h:=e_ (?_)))))
  refine A8 rfl (fun hb8=>?_) (fun hb8=>?_)
  ·have hc8:=bp hb8
   have hmk2:mk=⟨d.next,n.kind,n.mode,n.uid,n.gid,dir.2,n.target,[]⟩:=by rw[hmk];unfold ES;rw[if_pos hc8]
   refine AP (f_ (h:=l_ (h:=f_ (h:=s_ (h:=AO (?_))))))
   refine AD ?_
   refine⟨_,rfl,?_⟩
   rw[hmk2]
   exact Bc 10 0 (by simp[Ag,Ab,Ac,CL,CM,AA,Ah,As,Bn])
  have hc8:=bp hb8
  have hmk2:mk=⟨d.next,n.kind,n.mode,n.uid,n.gid,0,n.target,[]⟩:=by rw[hmk];unfold ES;rw[if_neg hc8]
  refine BB (?_)
  refine AD ?_
  refine⟨_,rfl,?_⟩
  rw[hmk2]
  exact Bc 10 0 (by simp[Ag,Ab,Ac,CL,CM,AA,Ah,As,Bn])
 rintro t rfl
 refine B5 (fun t=>∃capx,(d.nodes++[mk]).length≤capx∧t=⟨look [(2, .v (.string name)),(5, .bp 1 0),(8, .bp 3 0),(15, .bp 8 0),(16, .bp 9 0)],⟨[As f,AA dir,Ah n,[.v (.slice none 0 0)],AA (AM f dir name).1,Bn d,DB f q {d with nodes:=d.nodes++[mk]} 7 cap capx,NB (d.nodes++[mk]) capx,[.bs 6 0 2 f.length cap],Ah mk],[]⟩⟩) ?_ ?_
 ·skip
  refine BH ([(0,As f),(1,AA dir),(2,Ah n),(3,[.v (.slice none 0 0)]),(4,AA (AM f dir name).1),(5,Bn d),(6,DB f q d 7 cap cap1),(8,[.bs 6 0 2 f.length cap]),(9,Ah mk)]) 16 (h:=?_)
  refine Dy 0 rfl (fun h0 hS=>Ei rfl ⟨rfl,rfl⟩) ?_
  first|refine Dy 1 rfl (fun h0 hS=>D4 (row:=DB f q d 7 cap cap1) rfl (kb hS rfl) hD0 ⟨rfl,rfl⟩) ?_|refine Dy 1 rfl (fun h0 hS=>D4 rfl (kb hS rfl) rfl ⟨rfl,rfl⟩) ?_
  refine Dy 2 rfl (fun h0 hS=>Ei rfl ⟨rfl,rfl⟩) ?_
  first|refine Dy 3 rfl (fun h0 hS=>D4 (row:=DB f q d 7 cap cap1) rfl (kb hS rfl) hD0 ⟨rfl,rfl⟩) ?_|refine Dy 3 rfl (fun h0 hS=>D4 rfl (kb hS rfl) rfl ⟨rfl,rfl⟩) ?_
  refine Dy 4 rfl (fun h0 hS=>Ei rfl ⟨rfl,rfl⟩) ?_
  first|refine Dy 5 rfl (fun h0 hS=>D4 (row:=DB f q d 7 cap cap1) rfl (kb hS rfl) hD0 ⟨rfl,rfl⟩) ?_|refine Dy 5 rfl (fun h0 hS=>D4 rfl (kb hS rfl) rfl ⟨rfl,rfl⟩) ?_
  refine Dy 6 rfl (fun h0 hS=>Ei rfl ⟨rfl,rfl⟩) ?_
  first|refine Dy 7 rfl (fun h0 hS=>D4 (row:=DB f q d 7 cap cap1) rfl (kb hS rfl) hD0 ⟨rfl,rfl⟩) ?_|refine Dy 7 rfl (fun h0 hS=>D4 rfl (kb hS rfl) rfl ⟨rfl,rfl⟩) ?_
  refine Dy 8 rfl (fun h0 hS=>DF (m:=q) rfl rfl hdq hql ⟨rfl,rfl⟩) ?_
  refine Dy 9 rfl (fun h0 hS=>Ei rfl ⟨rfl,rfl⟩) ?_
  refine Dy 10 rfl (fun h0 hS=>D4 (row:=DB f q d 7 cap cap1) rfl (kb hS rfl) hD0 ⟨rfl,rfl⟩) ?_
  first|refine Dy 11 rfl (fun h0 hS=>D4 (row:=DB f q d 7 cap cap1) rfl (kb hS rfl) hD0 ⟨rfl,rfl⟩) ?_|refine Dy 11 rfl (fun h0 hS=>Ez rfl (kb hS rfl) rfl ⟨rfl,rfl⟩) ?_
  refine Dy 12 rfl (fun h0 hS=>Lr (by repeat (first|exact DenseA.nil _|(apply DenseA.cons;(focus exact rfl);(focus exact rfl);(focus exact rfl);(focus exact rfl))|(apply DenseA.consE;(focus exact rfl);(focus exact rfl);(focus exact rfl)))) rfl rfl rfl rfl ⟨rfl,rfl⟩) ?_
  refine c_ 13 rfl (Ks rfl rfl rfl (by rw[MM hcap1];omega) JA (by omega) (by omega) ?_ ?_)
  ·rintro hg row2 bx2 hs hb
   obtain rfl:=Tg hs hg
   obtain rfl:bx2=[_,_,_,_,_,_,_,_,_,_]:=hb.one.2
   have hgx:(d.nodes++[mk]).length≤cap1:=by simpa using hg
   refine o_ (h:=?_)
   refine Dy 14 rfl (fun h0 hS=>DF (m:=q) rfl rfl hdq hql ⟨rfl,rfl⟩) ?_
   refine Dy 15 rfl (fun h0 hS=>Ei rfl ⟨rfl,rfl⟩) ?_
   refine B0 16 rfl (Aw rfl rfl rfl rfl rfl rfl (U2 mk hql) (by repeat constructor) ?_)
   refine o_ (h:=z_ (h:=?_))
   refine AD ?_
   first|exact⟨_,⟨_,hgx,rfl⟩,E4 [0,1,2,3,4,5,6,10,8,9] (fun i hi=>absurd hi (Nat.not_lt_zero i)) (by decide) (.cons _ _ _ _ _ rfl rfl (.cons _ _ _ _ _ rfl rfl (.cons _ _ _ _ _ rfl rfl (.cons _ _ _ _ _ rfl rfl (.cons _ _ _ _ _ rfl rfl (.cons _ _ _ _ _ rfl rfl (.cons _ _ _ _ _ rfl (KL (by rfl) _ _ _ _ _) (.cons _ _ _ _ _ rfl (J8 _ _ _) (.cons _ _ _ _ _ rfl rfl (.cons _ _ _ _ _ rfl rfl .nil)))))))))) (by repeat (first|exact SubK.nil|refine SubK.cons _ _ _ _ rfl (LeA.refl _) ?_))⟩|exact⟨_,⟨_,hgx,rfl⟩,Bc 10 0 (by simp[Ag,Ab,Ac,CL,CM,AA,Ah,As,Bn])⟩
  rintro hg cap3 k bx2 hcp3 hs
  rw[show((NB d.nodes cap1).drop 0).take (d.nodes.length * 8)++CT (.agg (Ah mk))++List.replicate ((cap3 - (d.nodes.length+1)) * 8) AV.any=NB (d.nodes++[mk]) cap3 from Tf d.nodes mk cap1 cap3]at hs
  obtain⟨rfl,rfl⟩:k=10∧bx2=[_,_,_,_,_,_,_,_,_,_,_]:=hs.eq
  have hgx:(d.nodes++[mk]).length≤cap3:=by simpa using hcp3
  refine o_ (h:=?_)
  refine Dy 14 rfl (fun h0 hS=>DF (m:=q) rfl rfl hdq hql ⟨rfl,rfl⟩) ?_
  refine Dy 15 rfl (fun h0 hS=>Ei rfl ⟨rfl,rfl⟩) ?_
  refine B0 16 rfl (Aw rfl rfl rfl rfl rfl rfl (U2 mk hql) (by repeat constructor) ?_)
  refine o_ (h:=z_ (h:=?_))
  refine AD ?_
  exact⟨_,⟨_,hgx,rfl⟩,E4 [0,1,2,3,4,5,6,10,8,9] (fun i hi=>absurd hi (Nat.not_lt_zero i)) (by decide) (.cons _ _ _ _ _ rfl rfl (.cons _ _ _ _ _ rfl rfl (.cons _ _ _ _ _ rfl rfl (.cons _ _ _ _ _ rfl rfl (.cons _ _ _ _ _ rfl rfl (.cons _ _ _ _ _ rfl rfl (.cons _ _ _ _ _ rfl (KL (by rfl) _ _ _ _ _) (.cons _ _ _ _ _ rfl (J8 _ _ _) (.cons _ _ _ _ _ rfl rfl (.cons _ _ _ _ _ rfl rfl .nil)))))))))) (by repeat (first|exact SubK.nil|refine SubK.cons _ _ _ _ rfl (LeA.refl _) ?_))⟩
 rintro t ⟨capx,hcapx,rfl⟩
 have hasc2:Dm (d.nodes++[mk]):=List.pairwise_append.2 ⟨hvd.asc,List.pairwise_singleton _ _,fun x hx y hy=>by obtain rfl:=List.mem_singleton.1 hy;rw[hmk];exact hvd.lt x hx⟩
 have hn2:(d.nodes++[mk])[i]?=some n0:=by rw[List.getElem?_append_left hil];exact hn0
 have hidx2:F8 (f.set q ⟨d.next+1,d.nodes++[mk]⟩) dir=(i:Int):=QX hdq (d:=⟨d.next+1,d.nodes++[mk]⟩) (by simp[hql]) hasc2 hn2 hino
 have hf2:FlsB (f.set q ⟨d.next+1,d.nodes++[mk]⟩):=hf.set_ (by have:=hvd.len;simp;omega) (fun m hm=>by
  rcases List.mem_append.1 hm with h|h
  ·have:=hvd.many m h;omega
  obtain rfl:=List.mem_singleton.1 h;rw[hmk];simp[ES])
 have hmki:mk.ino=d.next:=by rw[hmk];rfl
 have hmk0:(Ah mk)[0+0]?=some (.v (.int .i64 d.next)):=by rw[hmk];rfl
 refine w_ (f_ (h:=l_ (h:=f_ (h:=l_ (h:=?_)))))
 refine A4 rfl (DF (m:=q) rfl rfl hdq hql ?_)
 refine f_ (h:=?_)
 refine A4 rfl (D4 rfl rfl (YX hql) ?_)
 refine A4 rfl (Ju rfl rfl (by dsimp only;omega) ?_)
 refine A4 rfl (DF (m:=q) rfl rfl hdq hql ?_)
 refine f_ (h:=?_)
 refine K0 (Aw rfl rfl rfl rfl rfl rfl (Q6 (d':=⟨d.next+1,d.nodes++[mk]⟩) (j':=7) (cap1':=capx) (k:=0) (cs:=[.v (.int .i64 (d.next+1))]) hql (by repeat constructor) (by simp)) (by repeat constructor) ?_)
 refine e_ (w_ (l_ (h:=l_ (h:=m_ (h:=f_ (h:=l_ (h:=?_)))))))
 refine A4 rfl (BV [6,7] rfl (.cons _ _ _ _ _ rfl (LeA.refl _) (.cons _ _ _ _ _ rfl (LeA.refl _) (.cons _ _ _ _ _ rfl (LeA.refl _) (.cons _ _ _ _ _ rfl (LeA.of_eq (show AV.v (.int .i64 mk.ino)=_ by rw[hmki])) .nil)))) (by decide) (.cons _ _ _ _ _ rfl (Fw (by rfl) _ _ _ _ _) (.cons _ _ _ _ _ rfl (FX _ _ _) .nil)) (U0 f q ⟨d.next+1,d.nodes++[mk]⟩ n0 i dir name d.next cap capx hf2 hql hdq hidx2 hn2 hcap hcapx) ?_)
 rintro r bc tc ⟨rfl,rfl,rfl⟩
 refine⟨rfl,_,(L9 (BT rfl) (BT rfl) (by decide) f q ⟨d.next+1,d.nodes++[mk]⟩ (entS (d.nodes++[mk]) i n0 name d.next) cap capx capx:Back _ [6,7] _ [_,_,_,_,_,_,_,_,_,_]),?_⟩
 refine e_ (?_)
 refine B5 (fun t=>t=⟨look [(8, .bp 3 0),(9, .sl 7 [CK (dir,name,(0,0),(dir.1,d.next))] none),(10, .v (.int .i64 0))],⟨[As f,AA dir,Ah n,As (f.set q ⟨d.next+1,entS (d.nodes++[mk]) i n0 name d.next⟩)],[]⟩⟩) ?_ ?_
 ·skip
  refine BH ([(0,As f),(1,AA dir),(2,Ah n),(4,AA (AM f dir name).1),(5,Bn d),(8,[.bs 6 0 2 f.length cap]),(9,Ah mk)]) 13 (h:=AJ 0 (h:=AJ 1 (h:=AN 2 (h:=?_))))
  refine Bj 3 rfl (fun _ hS=>EC (y:= .agg (AA (0,0))) (Ca ⟨rfl,rfl⟩) (by repeat (first|exact LeA.refl _|exact LeA.nil _|exact LeL.refl _|refine LeA.agg ⟨rfl,rfl⟩|refine LeA.tup ⟨rfl,rfl⟩|exact LeL.nil|refine LeL.cons ⟨rfl,rfl⟩ ⟨rfl,rfl⟩|exact LeA.any _)) ⟨rfl,rfl⟩) ?_
  refine AF 4 (h:=AJ 5 (h:=AF 6 (h:=?_)))
  refine Bj 7 rfl (fun _ hS=>D4 (row:=Ah mk) rfl (kb hS rfl) hmk0 ⟨rfl,rfl⟩) ?_
  refine Gm 8 (h:=?_)
  refine c_ 9 rfl (AK (KD dir name (0,0) (dir.1,d.next)) ?_)
  rintro r rfl
  refine o_ (h:=?_)
  refine B0 10 rfl (Aw rfl rfl rfl rfl rfl rfl (by repeat constructor) (by repeat constructor) ?_)
  refine o_ (h:=BC 11 (h:=BC 12 (h:=z_ (h:=?_))))
  refine AD ?_
  exact⟨_,rfl,Em 4 2 rfl (congrArg (fun x=>[As f,AA dir,Ah n,x]) (Hg (k:=0) (i:=6) (j:=7) (d:=⟨d.next+1,d.nodes++[mk]⟩) (d':=⟨d.next+1,entS (d.nodes++[mk]) i n0 name d.next⟩) hql rfl (G0 _ _ _ _ _) hcap (by rw[G0];exact hcapx) (BT rfl) (BT rfl) rfl rfl)) (.cons _ _ _ _ rfl (LeA.refl _) (.cons _ _ _ _ rfl (LeA.refl _) (.cons _ _ _ _ rfl (LeA.refl _) .nil)))⟩
 rintro t rfl
 refine A6 (?_)
 refine AB ?_
 rw[List.length_map]at hc5
 rw[Dn,if_neg (by omega),if_neg hpn,if_neg (by omega),hatI]
 simp only
 rw[if_neg (by rw[hc7];simp;omega),hdq,Int.toNat_natCast,←hino,←LA hvd hn0,hino,←hmk,show entS d.nodes i n0 name d.next++[mk]=entS (d.nodes++[mk]) i n0 name d.next by unfold entS;rw[List.set_append_left _ _ hil],←hdq]
 rfl
end
theorem QY(f:AZ)(hf:FlsB f):AFn Tryz.prog 73 [.agg (As f)] (fun r=>r= .agg (As f)):=by
 intro w St bl vs hr hv
 have hbl:bl=[]:=by have:=hr.bxlen;simpa using this
 subst hbl
 simp only[AY]at hv
 obtain⟨z,zs,rfl,hz,rfl⟩:=hv
 have hz':Ap St w (.agg (As f)) z:=by have:=FQ _ _ hz;simpa[Cn,FH,As]using this
 have hF:=TL hr.stlt hf hz'
 refine Calls.mono (Old.Copy_any z f w hF) ?_
 rintro e w' ⟨dv,L,rfl,hD,hL,hB⟩
 have hsz:=hB.size
 obtain⟨d1,d2,d3,d4⟩:=hD
 let St':Nat→Nat→Prop:=fun b o=>St b o∨(w.heap.size≤b∧b<w'.heap.size)
 let G':Gh:=⟨St',[],[]⟩
 have hfresh:∀{α:Type} {sz:Nat} {cell:α→Nat→Value} {E:TypeId} {v:Value} {xs:List α},Old.OwnL sz cell E w' w.heap.size v xs→∀b,v.ownBlock=some b→∀o,St' b o:=fun h b hb o=> .inr (h.lt b hb)
 have hents:∀(y:Nod×Value),Old.OwnL 2 Old.entCell 138 w' w.heap.size y.2 y.1.entries→Ap St' w' (.sl 2 (y.1.entries.map CU) none) y.2:=by
  intro y hy
  refine MH hy (hfresh hy) (fun _ _=>rfl) fun e _ j av hj=>?_
  match j,hj with
  |0,hj=>injection hj with hj;subst hj;simp only[Ap];rfl
  |1,hj=>injection hj with hj;subst hj;simp only[Ap];rfl
 have hnod:∀(y:Nod×Value),Old.OwnL 2 Old.entCell 138 w' w.heap.size y.2 y.1.entries→∀j av,(Ah y.1)[j]?=some av→Ap St' w' av (Old.nodCell y j):=by
  intro y hy j av hj
  match j,hj with
  |0,hj=>injection hj with hj;subst hj;simp only[Ap];rfl
  |1,hj=>injection hj with hj;subst hj;simp only[Ap];rfl
  |2,hj=>injection hj with hj;subst hj;simp only[Ap];rfl
  |3,hj=>injection hj with hj;subst hj;simp only[Ap];rfl
  |4,hj=>injection hj with hj;subst hj;simp only[Ap];rfl
  |5,hj=>injection hj with hj;subst hj;simp only[Ap];rfl
  |6,hj=>injection hj with hj;subst hj;simp only[Ap];rfl
  |7,hj=>injection hj with hj;subst hj;exact hents y hy
  |j+8,hj=>exact absurd hj (by simp[Ah])
 have hdev:Ap St' w' (.sl 2 (L.map fun x=>Bn (Old.dvcOf x)) none) dv:=by
  refine MH d1 (hfresh d1) (fun _ _=>rfl) fun x hx j av hj=>?_
  obtain⟨f1,f2,f3⟩:=(d2 x hx).1
  match j,hj with
  |0,hj=>injection hj with hj;subst hj;simp only[Ap];rfl
  |1,hj=>
    injection hj with hj;subst hj
    have key:=MH f1 (St:=St') (hfresh f1) (enc:=fun y=>Ah y.1) (fun _ _=>rfl) fun z hz j av hj=>hnod z (f2 z hz).1 j av hj
    have e:((Old.dvcOf x).nodes.map Ah)=x.2.2.map fun y=>Ah y.1:=by simp[Old.dvcOf]
    rw[e]
    exact key
  |j+2,hj=>exact absurd hj (by simp[Bn])
 have hst:∀b o,St b o→b<w.heap.size:=hr.stlt
 refine⟨.agg (As f),[],[],G',⟨rfl,rfl,rfl⟩,⟨?_,?_,?_,?_,rfl,?_,?_,?_,?_,rfl,?_,?_,?_⟩,⟨?_,?_,?_⟩,?_⟩
 ·intro i b hi;simp at hi
 ·exact⟨hB.os,hB.tape,hB.output,hB.size,fun k hk _=>hB.block k hk⟩
 ·rintro b o (h|h)
  ·have:=hst b o h;omega
  exact h.2
 ·rintro b o (h|h)
  ·exact .inl h
  exact .inr h.1
 ·show([]:List Nat).Nodup;simp
 ·intro b hb;simp[G']at hb
 ·intro b hb;simp[G']at hb
 ·intro i b row hi;simp[G']at hi
 ·intro g n u T sz rows hg;simp[G']at hg
 ·intro g n u hg;simp[G']at hg
 ·intro g g' n n' u u' hg;simp[G']at hg
 ·exact fun b o h=>⟨.inl h,hB.cell (p:=⟨b,o,none⟩) (hst b o h)⟩
 ·intro i b hi;simp at hi
 ·intro g n u hg;simp at hg
 refine Fo _ _ ?_
 unfold As
 rw[←hL,Old.flsOf,List.map_map]
 simp only[Ap,BS]
 have hdev2:Ap St' w' (.sl 2 (L.map (Bn ∘ Old.dvcOf)) none) dv:=hdev
 simp only[Ap]at hdev2
 exact⟨[dv],rfl,dv,[],rfl,hdev2,rfl⟩
def Mk(f:AZ)(a top:A9):Bool:=Hc f top 17 a
def FZ:List Int:=[2,20,22]
def G4(a b:Int):Int:=if a=2∨b=2 then 2 else if a=20∨b=20 then 20 else if a=22∨b=22 then 22 else 0
theorem U3{a b:Int}{j:Nat}{x:Int}(hx:FZ[j]?=some x)(ha:∀i y,i<j→FZ[i]?=some y→¬(a=y∨b=y))(h:a=x∨b=x):G4 a b=x:=by
 unfold G4
 match j,hx with
 |0,hx=>injection hx with hx;subst hx;rw[if_pos h]
 |1,hx=>
   injection hx with hx;subst hx
   rw[if_neg (ha 0 2 (by omega) rfl),if_pos h]
 |2,hx=>
   injection hx with hx;subst hx
   rw[if_neg (ha 0 2 (by omega) rfl),if_neg (ha 1 20 (by omega) rfl),if_pos h]
 |j+3,hx=>exact absurd hx (by simp[FZ])
theorem U4(f:AZ)(a:A9)(name:AE):CF f a name=0∨CF f a name=2∨CF f a name=20∨CF f a name=22:=by
 unfold CF
 split
 ·exact .inr (.inl rfl)
 split
 ·split
  ·exact .inl rfl
  exact .inr (.inr (.inr rfl))
 exact .inr (.inr (.inl rfl))
theorem ZL{a b:Int}(ha:∀i y,i<3→FZ[i]?=some y→¬(a=y∨b=y)):G4 a b=0:=by
 unfold G4
 rw[if_neg (ha 0 2 (by omega) rfl),if_neg (ha 1 20 (by omega) rfl),if_neg (ha 2 22 (by omega) rfl)]
theorem QZ{f:AZ}{x y:A9}{name name2:AE}(h:G4 (CF f x name) (CF f y name2)=0):CF f x name=0∧CF f y name2=0:=by
 unfold G4 at h
 split at h
 ·omega
 split at h
 ·omega
 split at h
 ·omega
 rename_i h1 h2 h3
 have a:=U4 f x name
 have b:=U4 f y name2
 omega
def Dp(f:AZ)(src to:A9)(a o:A9)(e:Int):Int:=
 if e=0 then(if AX f o=true∧AX f a=false then 21 else if AX f o=false∧AX f a=true then 20 else if AX f o=true∧Ja f o=false then 39 else 0)else if J2 f to=true∧src≠to then 28 else 0
def KP(ns:List Nod)(src:A9)(name:AE)(to:A9)(name2:AE)(a o:A9)(e:Int):List Nod:=
 if e=0 then Br (BW (BW ns src.2 name 0) to.2 name2 a.2) o.2 else BW (BW ns src.2 name 0) to.2 name2 a.2
def Hh(ns:List Nod)(i:Int)(p:Int)(b:Bool):List Nod:=if b=true then CX ns i (fun n=>{n with parent:=p})else ns
def EK(f:AZ)(src:A9)(name:AE)(to:A9)(name2:AE):DP:=
 if G4 (CF f src name) (CF f to name2)≠0 then([],[],G4 (CF f src name) (CF f to name2))else if(AM f src name).2≠0 then([],[],(AM f src name).2)else if src.1≠to.1 then([],[],18)else
 if AX f (AM f src name).1=true∧Mk f to (AM f src name).1=true then([],[],22)else if(AM f to name2).2=0∧(AM f to name2).1=(AM f src name).1 then(f,[],0)else
 if Dp f src to (AM f src name).1 (AM f to name2).1 (AM f to name2).2≠0 then([],[],Dp f src to (AM f src name).1 (AM f to name2).1 (AM f to name2).2)else
 (FY f to.1.toNat fun ns=>Hh (KP ns src name to name2 (AM f src name).1 (AM f to name2).1 (AM f to name2).2) (AM f src name).1.2 to.2 (AX f (AM f src name).1),[(src,name,(AM f src name).1,(0,0)),(to,name2,(AM f to name2).1,(AM f src name).1)],0)
theorem ZM(f:AZ):LeA (.tup [.agg (As f), .v (.slice none 0 0), .v (.int .i64 0)]) (CH (f,[],0)):=LeA.tup (.cons (LeA.refl _) (.cons (LeA.nil 7) (.cons (LeA.refl _) .nil)))
theorem ZN{n:Nat}{bx:List (List AV)}{k i j:Nat}{f:AZ}{q:Nat}{d:Dvc}{cap cap0 cap1:Nat}(hq:q<f.length)(hc:f.length≤cap)(hc1:d.nodes.length≤cap1)(hni:n≤i)(hnj:n≤j)
    (hi:bx[i]?=some (DB f q d j cap cap1)) (hj:bx[j]?=some (NB d.nodes cap1)):Dh (DS n bx (k+2)) (.agg [.bs i 0 2 f.length cap0])= .agg (As (f.set q d)):=by
 have key:=Jf (n:=n) (bx:=bx) (k:=k) (i:=i) (j:=j) (f:=f.set q d) (K:=q) (d:=d) (cap:=cap) (cap0:=cap0) (cap1:=cap1) (by simp[hq]) (by simpa using hc) hc1 hni hnj (by rw[hi,Q7]) hj
 rw[List.length_set]at key
 exact key
theorem ZO{n:Nat}{bx:List (List AV)}{k j sz cap:Nat}{rows:List (List AV)}(hn:n≤j)(hj:bx[j]?=some (CG sz cap rows))(hp:∀r∈rows,∀x∈r,∃v,x= .v v):DS n bx (k+1) j=some (CG sz cap rows):=by
 have:Nat.blt j n=false:=by rw[←Bool.not_eq_true,Nat.blt_eq];omega
 simp only[DS,this,hj,Option.map_some,MK]
 rw[ML _ rfl]
 congr 2
 conv=>rhs;rw[←List.map_id rows]
 apply List.map_congr_left
 intro r hr
 conv=>rhs;rw[id,←List.map_id r]
 apply List.map_congr_left
 intro x hx
 obtain⟨v,rfl⟩:=hp r hr x hx
 rfl
theorem ZP(l:List Dj):∀r∈l.map CK,∀x∈r,∃v,x= .v v:=by
 intro r hr x hx
 obtain⟨c,_,rfl⟩:=List.mem_map.1 hr
 simp[CK]at hx
 rcases hx with h|h|h|h|h|h|h<;>exact⟨_,h⟩
theorem ZQ(l:List Dj):∀r∈l.map CK,r.length=7:=by
 intro r hr
 obtain⟨c,_,rfl⟩:=List.mem_map.1 hr
 rfl
theorem ZR{bx:List (List AV)}(bc:List (List AV))(h:∀r∈bc,∀x∈r,∃v,x= .v v):Back bx [] bc (bx++bc):=by
 refine⟨by simp,fun i row _ h=>?_,fun k i row h=>by simp at h,fun k row hk=>?_⟩
 ·rw[List.getElem?_append_left (Ar.1 h).1];exact h
 rw[List.getElem?_append_right (by omega),show bx.length+k - bx.length=k by omega]
 simp only[List.length_nil,Nat.zero_add]at hk
 rw[hk,MJ]
 congr 1
 conv=>lhs;rw[←List.map_id row]
 apply List.map_congr_left
 intro x hx
 obtain⟨v,rfl⟩:=h row (Au hk) x hx
 rfl
theorem Qa{d:Dvc}(hd:Dm d.nodes){i:Nat}{n0:Nod}(hn:d.nodes[i]?=some n0)(name:AE)(ino:Int):entS d.nodes i n0 name ino=BW d.nodes n0.ino name ino:=by
 unfold entS BW
 rw[←Mg hd hn]
 rfl
section
theorem ZS(d:A9)(name:AE)(o n:A9):ACall Tryz.prog 79 [.agg (AA d), .v (.string name), .agg (AA o), .agg (AA n)] [] (fun r b t=>t=[]∧r= .bs 3 0 7 1 1∧b=[AA d,AA o,AA n,CK (d,name,o,n)]):=by
 refine enter Tryz.func79 rfl rfl rfl rfl rfl 4 rfl ?_
 refine w_ (b_ (h:=b_ (h:=b_ (h:=a_ (h:=e_ (w_ (l_ (h:=m_ (h:=l_ (h:=l_ (h:=AT (h:=?_))))))))))))
 refine A4 rfl (Xa (k:=3) rfl rfl rfl rfl (by repeat constructor) ?_)
 refine a_ (h:=e_ (A6 (?_)))
 refine Aj (r:= .bs 3 0 7 1 1) none (h5:=(LeA.refl _)) (h6:=⟨rfl,rfl,rfl⟩)
end
theorem U5{n:Nat}{g:Nat→Option (List AV)}{j sz m cap0 cap:Nat}{rows:List (List AV)}(hn:n≤j)(hg:g j=some (CG sz cap rows))(hr:∀r∈rows,r.length=sz)(hm:m=rows.length)(hc:rows.length≤cap):El n g (.bs j 0 sz m cap0)= .sl sz rows none:=by
 have:Nat.blt j n=false:=by rw[←Bool.not_eq_true,Nat.blt_eq];omega
 simp only[El,this]
 exact Q2 hg hr hm hc
theorem ZT(a b c:A9)(x:Dj):∀r∈[AA a,AA b,AA c,CK x],∀y∈r,∃v,y= .v v:=by
 intro r hr y hy
 simp only[List.mem_cons,List.not_mem_nil,or_false]at hr
 rcases hr with rfl|rfl|rfl|rfl
 ·simp[AA]at hy;rcases hy with h|h<;>exact⟨_,h⟩
 ·simp[AA]at hy;rcases hy with h|h<;>exact⟨_,h⟩
 ·simp[AA]at hy;rcases hy with h|h<;>exact⟨_,h⟩
 simp[CK]at hy;rcases hy with h|h|h|h|h|h|h<;>exact⟨_,h⟩
theorem U6{j:Nat}{x:Int}(hx:FZ[j]?=some x):x≠0:=by
 match j,hx with
 |0,hx=>injection hx with hx;omega
 |1,hx=>injection hx with hx;omega
 |2,hx=>injection hx with hx;omega
 |j+3,hx=>exact absurd hx (by simp[FZ])
theorem Qb{ns:List Nod}{i k:Nat}{n0 m:Nod}(hi:ns[i]?=some n0)(hk:ns[k]?=some m)(name:AE)(ino:Int):∃m',(entS ns i n0 name ino)[k]?=some m'∧m'.ino=m.ino∧m'.entries.length≤m.entries.length+1:=by
 unfold entS
 rw[List.getElem?_set]
 split
 ·rename_i e
  subst e
  rw[hi]at hk
  injection hk with hk
  subst hk
  exact⟨{n0 with entries:=Cb n0.entries name ino},by rw[if_pos (Ar.1 hi).1],rfl,QU _ _ _⟩
 exact⟨m,hk,rfl,by omega⟩
theorem U7{ns:List Nod}{i:Nat}{n0:Nod}(hi:ns[i]?=some n0){name:AE}{ino:Int}{m':Nod}(hm:m'∈entS ns i n0 name ino):∃m∈ns,m'.ino=m.ino∧m'.entries.length≤m.entries.length+1:=by
 rcases List.mem_or_eq_of_mem_set hm with h|h
 ·exact⟨m',h,rfl,by omega⟩
 subst h
 exact⟨n0,Au hi,rfl,QU _ _ _⟩
theorem U8{ns:List Nod}(h:Dm ns){i:Nat}{n0:Nod}(hn:ns[i]?=some n0)(name:AE)(ino:Int):Dm (entS ns i n0 name ino):=by
 have:=Qa (d:=⟨0,ns⟩) h hn name ino
 simp only at this
 rw[this]
 exact L7 h _ _ _
theorem ZU(f:AZ)(q:Nat)(d d':Dvc)(n:Nod)(i:Nat)(a:A9)(name:AE)(ino:Int)(cap cap1:Nat)(hf:FlsB (f.set q d'))(hq:q<f.length)(ha:a.1=(q:Int))(hi:F8 (f.set q d') a=(i:Int))(hn:d'.nodes[i]?=some n)(hcap:f.length≤cap)(hcap1:d'.nodes.length≤cap1)(hnx:d'.next=d.next)(hl:d'.nodes.length=d.nodes.length):
    ACall Tryz.prog 76 [.agg [.bs 0 0 2 f.length cap], .agg (AA a), .v (.string name), .v (.int .i64 ino)] [DB f q d 1 cap cap1,NB d'.nodes cap1] (fun r b t=>t=[]∧r= .tup []∧b=[DB f q ⟨d.next,entS d'.nodes i n name ino⟩ 1 cap cap1,NB (entS d'.nodes i n name ino) cap1]):=by
 have key:=U0 f q d' n i a name ino cap cap1 hf hq ha hi hn hcap hcap1
 have e1:DB f q d' 1 cap cap1=DB f q d 1 cap cap1:=by unfold DB F9 GP;rw[hnx,hl]
 have e2:DB f q d 1 cap cap1=DB f q ⟨d.next,entS d'.nodes i n name ino⟩ 1 cap cap1:=by unfold DB F9 GP;rw[G0,hl]
 rw[e1]at key
 exact key.mono fun r b t ⟨h1,h2,h3⟩=>⟨h1,h2,by rw[h3,e2]⟩
theorem ZV{f:AZ}(hv:FlsV f){q:Nat}{d:Dvc}(hq:f[q]?=some d){i i2:Nat}{n1 n2:Nod}(hn1:d.nodes[i]?=some n1)(hn2:d.nodes[i2]?=some n2)(name name2:AE)(ai:Int)(ha:∃m∈d.nodes,m.ino=ai):
    ∃(X1 X2:List Nod) (m2:Nod),X1=entS d.nodes i n1 name 0∧X1[i2]?=some m2∧m2.ino=n2.ino∧X2=entS X1 i2 m2 name2 ai∧Dm X1∧Dm X2∧X1.length=d.nodes.length∧X2.length=d.nodes.length∧X2=BW (BW d.nodes n1.ino name 0) n2.ino name2 ai∧
     FlsB (f.set q ⟨d.next,X1⟩)∧FlsB (f.set q ⟨d.next,X2⟩)∧(∀m∈X2,m.entries.length≤1000)∧(∃m∈X2,m.ino=1)∧∃m∈X2,m.ino=ai:=by
 have hd:=hv.vd d (Au hq)
 obtain⟨m2,hm2,hi2,hl2⟩:=Qb hn1 hn2 name 0
 have e1:=Qa hd.asc hn1 name 0
 have a1:=U8 hd.asc hn1 name 0
 have e2:=Qa (d:=⟨0,entS d.nodes i n1 name 0⟩) a1 hm2 name2 ai
 simp only at e2
 have a2:=U8 a1 hm2 name2 ai
 have hb2:∀m∈entS (entS d.nodes i n1 name 0) i2 m2 name2 ai,m.entries.length≤1000:=fun m hm=>by
  obtain⟨m',h1,_,h2⟩:=U7 hm2 hm
  obtain⟨m'',h3,_,h4⟩:=U7 hn1 h1
  have:=hd.many m'' h3
  omega
 have hmem:∀x:Int,(∃m∈d.nodes,m.ino=x)→∃m∈entS (entS d.nodes i n1 name 0) i2 m2 name2 ai,m.ino=x:=by
  rintro x ⟨m,hm,rfl⟩
  obtain⟨k,hk⟩:=List.getElem?_of_mem hm
  obtain⟨m',h1,h2,_⟩:=Qb hn1 hk name 0
  obtain⟨m'',h3,h4,_⟩:=Qb hm2 h1 name2 ai
  exact⟨m'',Au h3,h4.trans h2⟩
 obtain⟨r,hr,hr1,_⟩:=hd.rootMem
 refine⟨_,_,m2,rfl,hm2,hi2,rfl,a1,a2,G0 _ _ _ _ _,by rw[G0,G0],by rw[e2,e1,hi2],hv.entS hq hn1 name 0,hv.b.set_ ?_ hb2,hb2,hmem 1 ⟨r,hr,hr1⟩,hmem ai ha⟩
 show(entS _ _ _ _ _).length≤1000
 rw[G0,G0]
 have:=hd.len
 omega
section
theorem ZW(f:AZ)(src:A9)(name:AE)(to:A9)(name2:AE)(hv:FlsV f)(hs:name.size≤100000)(hs2:name2.size≤100000):AFn Tryz.prog 39 [.agg (As f), .agg (AA src), .v (.string name), .agg (AA to), .v (.string name2)] (fun r=>r=CH (EK f src name to name2)):=by
 have hf:=hv.b
 have P1:=Kv f src name hf hs
 have P2:=Kv f to name2 hf hs2
 have L1:=Gp f src name hf
 have L2:=Gp f to name2 hf
 obtain⟨pa,hpa⟩:∃x,CF f src name=x:=⟨_,rfl⟩
 obtain⟨pb,hpb⟩:∃x,CF f to name2=x:=⟨_,rfl⟩
 obtain⟨⟨A,e1⟩,hl1⟩:∃x,AM f src name=x:=⟨_,rfl⟩
 obtain⟨⟨O,e2⟩,hl2⟩:∃x,AM f to name2=x:=⟨_,rfl⟩
 rw[hpa]at P1
 rw[hpb]at P2
 rw[hl1]at L1
 rw[hl2]at L2
 simp only at L1 L2
 have hRen:EK f src name to name2=(if G4 pa pb≠0 then([],[],G4 pa pb)else if e1≠0 then([],[],e1)else if src.1≠to.1 then([],[],18)else
     if AX f A=true∧Mk f to A=true then([],[],22)else if e2=0∧O=A then(f,[],0)else if Dp f src to A O e2≠0 then([],[],Dp f src to A O e2)else
     (FY f to.1.toNat fun ns=>Hh (KP ns src name to name2 A O e2) A.2 to.2 (AX f A),[(src,name,A,(0,0)),(to,name2,O,A)],0)):=by
  unfold EK
  rw[hpa,hpb,hl1,hl2]
 have hol:FZ.length=3:=rfl
 refine enter Tryz.func39 rfl rfl rfl rfl rfl 0 rfl ?_
 refine w_ (b_ (h:=b_ (h:=b_ (h:=AW (h:=a_ (h:=a_ (h:=e_ (q_ (DT 10 (h:=AJ 0 (h:=AJ 1 (h:=AN 2 (h:=AJ 4 (h:=AJ 5 (h:=AN 6 (h:=?_))))))))))))))))
 refine c_ 3 rfl (AK (P1) ?_)
 rintro r rfl
 refine o_ (h:=?_)
 refine c_ 7 rfl (AK (P2) ?_)
 rintro r rfl
 refine o_ (h:=BC 8 (h:=BC 9 (h:=z_ (h:=t_ (w_ (Bm (h:=a_ (h:=e_ (q_ (w_ (a_ (h:=e_ (Ao (?_))))))))))))))
 refine Ba (fun m t=>∃j:Nat,j≤FZ.length∧m=FZ.length - j∧(∀i y,i<j→FZ[i]?=some y→¬(pa=y∨pb=y))∧t=⟨look [(2, .v (.string name)),(4, .v (.string name2)),(5, .bp 0 0),(6, .bp 1 0),(8, .bp 2 0),(10, .bp 3 0),(13, .v (.int .i64 pa)),(14, .v (.int .i64 pb)),(15, .sl 1 (FZ.map C5) none),(16, .v (.int .i64 (j:Int)))],⟨[As f,AA src,AA to,[.v (.slice none 0 0)]],[]⟩⟩) (FZ.length) ((wk 4 0)) (⟨0,Nat.zero_le _,rfl,fun i y hi=>by omega,rfl⟩) ?_
 rintro m t ⟨j,hj,rfl,ha,rfl⟩
 refine q_ (w_ (m_ (h:=m_ (h:=n_ (h:=BJ (h:=e_ (?_)))))))
 refine A8 rfl (fun hb1=>?_) (fun hb1=>?_)
 ·have hc1:=bp hb1
  obtain⟨hlt,x,hx,hrow, -⟩:=CW C5 (l:=FZ) hc1
  refine AG (q_ (Ao (w_ (m_ (h:=m_ (h:=m_ (h:=i_ (h:=l_ (h:=AQ (h:=m_ (h:=?_)))))))))))
  refine Ax false rfl rfl (fun hb2=>?_) (fun hb2=>?_)
  ·have hc2:=bp hb2
   refine A3 (h:=A3 (h:=A3 (h:=A3 (h:=A3 (h:=A3 (h:=Af (h:=e_ (Bf (h:=q_ (?_))))))))))
   refine Kh (fun _=>True) 8 (by kernel_rfl) ?_
   refine CD (i:=0) rfl rfl (by kernel_rfl) (by first|rfl|exact Al rfl rfl (Bv ‹_›)|exact Al rfl rfl (Bw ‹_›)|exact Al rfl rfl (by simp[*])) (fun h0 hS=>Ca ⟨rfl,rfl⟩) trivial ?_
   refine CD (i:=1) rfl rfl (by kernel_rfl) (by first|rfl|exact Al rfl rfl (Bv ‹_›)|exact Al rfl rfl (Bw ‹_›)|exact Al rfl rfl (by simp[*])) (fun h0 hS=>Ex rfl ⟨rfl,rfl⟩) trivial ?_
   refine CD (i:=2) rfl rfl (by kernel_rfl) (by first|rfl|exact Al rfl rfl (Bv ‹_›)|exact Al rfl rfl (Bw ‹_›)|exact Al rfl rfl (by simp[*])) (fun h0 hS=>Ex rfl ⟨rfl,rfl⟩) trivial ?_
   refine CD (i:=3) rfl rfl (by kernel_rfl) (by first|rfl|exact Al rfl rfl (Bv ‹_›)|exact Al rfl rfl (Bw ‹_›)|exact Al rfl rfl (by simp[*])) (fun h0 hS=>CS rfl rfl rfl (by first|assumption|rfl) ⟨rfl,rfl⟩) trivial ?_
   refine CD (i:=4) rfl rfl (by kernel_rfl) (by first|rfl|exact Al rfl rfl (Bv ‹_›)|exact Al rfl rfl (Bw ‹_›)|exact Al rfl rfl (by simp[*])) (fun h0 hS=>Jt rfl rfl ⟨rfl,rfl⟩) trivial ?_
   refine B0 5 rfl (Aw rfl rfl rfl rfl rfl rfl (by repeat constructor) (by repeat constructor) ?_)
   refine⟨.inr trivial,?_⟩
   refine CD (i:=6) rfl rfl (by kernel_rfl) (by first|rfl|exact Al rfl rfl (Bv ‹_›)|exact Al rfl rfl (Bw ‹_›)|exact Al rfl rfl (by simp[*])) (fun h0 hS=>FJ rfl ⟨rfl,rfl⟩) trivial ?_
   refine CD (i:=7) rfl rfl (by kernel_rfl) (by first|rfl|exact Al rfl rfl (Bv ‹_›)|exact Al rfl rfl (Bw ‹_›)|exact Al rfl rfl (by simp[*])) (fun h0 hS=>FJ rfl ⟨rfl,rfl⟩) trivial ?_
   refine z_ (h:=t_ (A6 (AR (A7 (A7 (AR (A7 (?_))))))))
   refine Aj (r:=CH (EK f src name to name2)) none (h5:=?_) (h6:=⟨rfl,rfl,rfl⟩)
   rw[hRen,show G4 pa pb=x from U3 hx ha (.inl hc2),if_pos (U6 hx)]
   exact DM _
  have hc2:=bp hb2
  refine m_ (h:=m_ (h:=m_ (h:=i_ (h:=l_ (h:=AQ (h:=Am (h:=e_ (?_))))))))
  refine A8 rfl (fun hb3=>?_) (fun hb3=>?_)
  ·have hc3:=bp hb3
   refine q_ (?_)
   refine Kh (fun _=>True) 8 (by kernel_rfl) ?_
   refine CD (i:=0) rfl rfl (by kernel_rfl) (by first|rfl|exact Al rfl rfl (Bv ‹_›)|exact Al rfl rfl (Bw ‹_›)|exact Al rfl rfl (by simp[*])) (fun h0 hS=>Ca ⟨rfl,rfl⟩) trivial ?_
   refine CD (i:=1) rfl rfl (by kernel_rfl) (by first|rfl|exact Al rfl rfl (Bv ‹_›)|exact Al rfl rfl (Bw ‹_›)|exact Al rfl rfl (by simp[*])) (fun h0 hS=>Ex rfl ⟨rfl,rfl⟩) trivial ?_
   refine CD (i:=2) rfl rfl (by kernel_rfl) (by first|rfl|exact Al rfl rfl (Bv ‹_›)|exact Al rfl rfl (Bw ‹_›)|exact Al rfl rfl (by simp[*])) (fun h0 hS=>Ex rfl ⟨rfl,rfl⟩) trivial ?_
   refine CD (i:=3) rfl rfl (by kernel_rfl) (by first|rfl|exact Al rfl rfl (Bv ‹_›)|exact Al rfl rfl (Bw ‹_›)|exact Al rfl rfl (by simp[*])) (fun h0 hS=>CS rfl rfl rfl (by first|assumption|rfl) ⟨rfl,rfl⟩) trivial ?_
   refine CD (i:=4) rfl rfl (by kernel_rfl) (by first|rfl|exact Al rfl rfl (Bv ‹_›)|exact Al rfl rfl (Bw ‹_›)|exact Al rfl rfl (by simp[*])) (fun h0 hS=>Jt rfl rfl ⟨rfl,rfl⟩) trivial ?_
   refine B0 5 rfl (Aw rfl rfl rfl rfl rfl rfl (by repeat constructor) (by repeat constructor) ?_)
   refine⟨.inr trivial,?_⟩
   refine CD (i:=6) rfl rfl (by kernel_rfl) (by first|rfl|exact Al rfl rfl (Bv ‹_›)|exact Al rfl rfl (Bw ‹_›)|exact Al rfl rfl (by simp[*])) (fun h0 hS=>FJ rfl ⟨rfl,rfl⟩) trivial ?_
   refine CD (i:=7) rfl rfl (by kernel_rfl) (by first|rfl|exact Al rfl rfl (Bv ‹_›)|exact Al rfl rfl (Bw ‹_›)|exact Al rfl rfl (by simp[*])) (fun h0 hS=>FJ rfl ⟨rfl,rfl⟩) trivial ?_
   refine z_ (h:=t_ (A6 (AR (A7 (A7 (AR (A7 (?_))))))))
   refine Aj (r:=CH (EK f src name to name2)) none (h5:=?_) (h6:=⟨rfl,rfl,rfl⟩)
   rw[hRen,show G4 pa pb=x from U3 hx ha (.inr hc3),if_pos (U6 hx)]
   exact DM _
  have hc3:=bp hb3
  refine BB (Ay (t_ (AP (m_ (h:=B8 (h:=a_ (h:=AO (?_))))))))
  refine AD ?_
  refine⟨_,_,?_,⟨j+1,hlt,rfl,Dw hx ha (not_or.2 ⟨hc2,hc3⟩),rfl⟩,(wk 4 0)⟩
  omega
 have hc1:=bp hb1
 have e3:=Ck C5 (l:=FZ) hj hc1
 subst e3
 have hord:G4 pa pb=0:=ZL ha
 obtain⟨hpl1,hpl2⟩:=QZ (f:=f) (x:=src) (y:=to) (name:=name) (name2:=name2) (by rw[hpa,hpb];exact hord)
 refine BO (Aq (Aq (BQ (t_ (w_ (l_ (h:=l_ (h:=m_ (h:=?_)))))))))
 refine A4 rfl (AK (L1) ?_)
 rintro r rfl
 refine m_ (h:=x_ (h:=x_ (h:=AW (h:=s_ (h:=a_ (h:=e_ (q_ (w_ (m_ (h:=BF (h:=e_ (?_))))))))))))
 refine A8 rfl (fun hb4=>?_) (fun hb4=>?_)
 ·have hc4:=bp hb4
  refine w_ (AT (h:=m_ (h:=s_ (h:=a_ (h:=a_ (h:=e_ (A6 (A7 (?_)))))))))
  refine Aj (r:=CH (EK f src name to name2)) none (h5:=?_) (h6:=⟨rfl,rfl,rfl⟩)
  rw[hRen,if_neg (by rw[hord];simp),if_pos hc4]
  exact DM _
 have hc4:=bp hb4
 have he1:e1=0:=by omega
 refine AG (q_ (w_ (f_ (h:=l_ (h:=f_ (h:=l_ (h:=BF (h:=e_ (?_)))))))))
 refine A8 rfl (fun hb5=>?_) (fun hb5=>?_)
 ·have hc5:=bp hb5
  refine w_ (AT (h:=s_ (h:=a_ (h:=a_ (h:=e_ (A6 (A7 (?_))))))))
  refine Aj (r:=CH (EK f src name to name2)) none (h5:=?_) (h6:=⟨rfl,rfl,rfl⟩)
  rw[hRen,if_neg (by rw[hord];simp),if_neg (by simp[he1]),if_pos hc5]
  exact DM _
 have hc5:=bp hb5
 refine AG (w_ (l_ (h:=l_ (h:=?_))))
 refine A4 rfl (AK (GO f A hf) ?_)
 rintro r rfl
 refine a_ (h:=e_ (?_))
 refine B5 (fun t=>(AX f A=true→Mk f to A=false)∧t=⟨look [(2, .v (.string name)),(4, .v (.string name2)),(5, .bp 0 0),(6, .bp 1 0),(8, .bp 2 0),(10, .bp 3 0),(17, .bp 4 0),(19, .v (.bool (AX f A)))],⟨[As f,AA src,AA to,[.v (.slice none 0 0)],AA A],[]⟩⟩) ?_ ?_
 ·skip
  refine w_ (m_ (h:=m_ (h:=?_)))
  refine Ax true rfl rfl (fun hb6=>?_) (fun hb6=>?_)
  ·have hc6:=bp hb6
   refine l_ (h:=l_ (h:=l_ (h:=?_)))
   refine B6 (AK (Xy f to A hf) ?_)
   rintro r rfl
   refine Af (h:=e_ (?_))
   refine A8 rfl (fun hb7=>?_) (fun hb7=>?_)
   ·have hc7:=bp hb7
    refine w_ (AT (h:=s_ (h:=a_ (h:=a_ (h:=e_ (A6 (A7 (?_))))))))
    refine Aj (r:=CH (EK f src name to name2)) none (h5:=?_) (h6:=⟨rfl,rfl,rfl⟩)
    rw[hRen,if_neg (by rw[hord];simp),if_neg (by simp[he1]),if_neg (by simp[hc5]),if_pos ⟨hc6,hc7⟩]
    exact DM _
   have hc7:=bp hb7
   have hbl:AX f A=true→Mk f to A=false:=fun _=>hc7
   refine BB (?_)
   refine AD ?_
   exact⟨_,⟨hbl,rfl⟩,(wk 5 0)⟩
  have hc6:=bp hb6
  have hbl:AX f A=true→Mk f to A=false:=fun h=>absurd (h.symm.trans hc6) (by decide)
  refine A3 (h:=A3 (h:=A3 (h:=A3 (h:=Am (h:=e_ (F6 (h:=BB (?_))))))))
  refine AD ?_
  exact⟨_,⟨hbl,rfl⟩,(wk 5 0)⟩
 rintro t ⟨hbl,rfl⟩
 refine w_ (l_ (h:=l_ (h:=m_ (h:=?_))))
 refine A4 rfl (AK (L2) ?_)
 rintro r rfl
 refine m_ (h:=x_ (h:=x_ (h:=AW (h:=s_ (h:=a_ (h:=e_ (?_)))))))
 refine B5 (fun t=>(e2=0→O≠A)∧t=⟨look [(2, .v (.string name)),(4, .v (.string name2)),(5, .bp 0 0),(6, .bp 1 0),(8, .bp 2 0),(10, .bp 3 0),(17, .bp 4 0),(18, .v (.int .i64 e2)),(19, .v (.bool (AX f A))),(20, .bp 5 0)],⟨[As f,AA src,AA to,[.v (.slice none 0 0)],AA A,AA O],[]⟩⟩) ?_ ?_
 ·skip
  refine w_ (m_ (h:=AQ (h:=m_ (h:=?_))))
  refine Ax true rfl rfl (fun hb8=>?_) (fun hb8=>?_)
  ·have hc8:=bp hb8
   refine l_ (h:=l_ (h:=?_))
   refine B6 (F1 rfl rfl (by repeat constructor) (by repeat constructor) (fun w=>KC _ _ _ _ w) (by kernel_rfl) ?_)
   refine Af (h:=e_ (?_))
   refine A8 rfl (fun hb9=>?_) (fun hb9=>?_)
   ·have hc9:=bp hb9
    refine w_ (l_ (h:=?_))
    refine A4 rfl (AK (QY f hf) ?_)
    rintro r rfl
    refine s_ (h:=a_ (h:=a_ (h:=e_ (A6 (A7 (?_))))))
    refine Aj (r:=CH (EK f src name to name2)) none (h5:=?_) (h6:=⟨rfl,rfl,rfl⟩)
    rw[hRen,if_neg (by rw[hord];simp),if_neg (by simp[he1]),if_neg (by simp[hc5]),if_neg (fun h=>absurd h.2 (by rw[hbl h.1];decide)),if_pos ⟨hc8,hc9⟩]
    exact ZM _
   have hc9:=bp hb9
   have hoa:e2=0→O≠A:=fun _=>hc9
   refine BB (?_)
   refine AD ?_
   exact⟨_,⟨hoa,rfl⟩,(wk 6 0)⟩
  have hc8:=bp hb8
  have hoa:e2=0→O≠A:=fun h=>absurd h hc8
  refine A3 (h:=A3 (h:=A3 (h:=Am (h:=e_ (F6 (h:=BB (?_)))))))
  refine AD ?_
  exact⟨_,⟨hoa,rfl⟩,(wk 6 0)⟩
 rintro t ⟨hoa,rfl⟩
 refine B5 (fun t=>Dp f src to A O e2=0∧t=⟨look [(2, .v (.string name)),(4, .v (.string name2)),(5, .bp 0 0),(6, .bp 1 0),(8, .bp 2 0),(10, .bp 3 0),(17, .bp 4 0),(18, .v (.int .i64 e2)),(19, .v (.bool (AX f A))),(20, .bp 5 0)],⟨[As f,AA src,AA to,[.v (.slice none 0 0)],AA A,AA O],[]⟩⟩) ?_ ?_
 ·skip
  refine w_ (m_ (h:=AQ (h:=e_ (?_))))
  refine A8 rfl (fun hb10=>?_) (fun hb10=>?_)
  ·have hc10:=bp hb10
   refine w_ (l_ (h:=l_ (h:=?_)))
   refine A4 rfl (AK (GO f O hf) ?_)
   rintro r rfl
   refine a_ (h:=e_ (q_ (w_ (m_ (h:=m_ (h:=?_))))))
   refine Ax true rfl rfl (fun hb11=>?_) (fun hb11=>?_)
   ·have hc11:=bp hb11
    refine m_ (h:=BA (h:=Af (h:=e_ (?_))))
    refine A8 rfl (fun hb12=>?_) (fun hb12=>?_)
    ·have hc12:=bp hb12
     refine w_ (AT (h:=s_ (h:=a_ (h:=a_ (h:=e_ (A6 (A7 (A7 (?_)))))))))
     refine Aj (r:=CH (EK f src name to name2)) none (h5:=?_) (h6:=⟨rfl,rfl,rfl⟩)
     have h2:Dp f src to A O e2=21:=by unfold Dp;simp[hc10,hc11,hc12]
     rw[hRen,if_neg (by rw[hord];simp),if_neg (by simp[he1]),if_neg (by simp[hc5]),if_neg (fun h=>absurd h.2 (by rw[hbl h.1];decide)),if_neg (fun h=>hoa h.1 h.2),h2,if_pos (by decide)]
     exact DM _
    have hc12:=bp hb12
    refine AG (q_ (w_ (m_ (h:=BA (h:=m_ (h:=A3 (h:=Am (h:=e_ (F6 (h:=AG (w_ (m_ (h:=m_ (h:=l_ (h:=l_ (h:=?_))))))))))))))))
    refine B6 (AK (Su f O hf) ?_)
    rintro r rfl
    refine BA (h:=Af (h:=e_ (?_)))
    refine A8 rfl (fun hb13=>?_) (fun hb13=>?_)
    ·have hc13:=bp hb13
     refine w_ (AT (h:=s_ (h:=a_ (h:=a_ (h:=e_ (A6 (A7 (?_))))))))
     refine Aj (r:=CH (EK f src name to name2)) none (h5:=?_) (h6:=⟨rfl,rfl,rfl⟩)
     have h2:Dp f src to A O e2=39:=by unfold Dp;simp[hc10,hc11,hc12,hc13]
     rw[hRen,if_neg (by rw[hord];simp),if_neg (by simp[he1]),if_neg (by simp[hc5]),if_neg (fun h=>absurd h.2 (by rw[hbl h.1];decide)),if_neg (fun h=>hoa h.1 h.2),h2,if_pos (by decide)]
     exact DM _
    have hc13:=bp hb13
    have h2:Dp f src to A O e2=0:=by unfold Dp;simp[hc10,hc11,hc12,hc13]
    refine BB (?_)
    refine AD ?_
    exact⟨_,⟨h2,rfl⟩,(wk 6 0)⟩
   have hc11:=bp hb11
   refine A3 (h:=A3 (h:=Am (h:=e_ (F6 (h:=AG (q_ (w_ (m_ (h:=BA (h:=m_ (h:=m_ (h:=Af (h:=e_ (?_))))))))))))))
   refine A8 rfl (fun hb14=>?_) (fun hb14=>?_)
   ·have hc14:=bp hb14
    refine w_ (AT (h:=s_ (h:=a_ (h:=a_ (h:=e_ (A6 (A7 (A7 (?_)))))))))
    refine Aj (r:=CH (EK f src name to name2)) none (h5:=?_) (h6:=⟨rfl,rfl,rfl⟩)
    have h2:Dp f src to A O e2=20:=by unfold Dp;simp[hc10,hc11,hc14]
    rw[hRen,if_neg (by rw[hord];simp),if_neg (by simp[he1]),if_neg (by simp[hc5]),if_neg (fun h=>absurd h.2 (by rw[hbl h.1];decide)),if_neg (fun h=>hoa h.1 h.2),h2,if_pos (by decide)]
    exact DM _
   have hc14:=bp hb14
   have h2:Dp f src to A O e2=0:=by unfold Dp;simp[hc10,hc11,hc14]
   refine AG (w_ (m_ (h:=m_ (h:=A3 (h:=A3 (h:=A3 (h:=A3 (h:=Am (h:=e_ (F6 (h:=BB (?_))))))))))))
   refine AD ?_
   exact⟨_,⟨h2,rfl⟩,(wk 6 0)⟩
  have hc10:=bp hb10
  refine w_ (l_ (h:=l_ (h:=?_)))
  refine A4 rfl (AK (Pg f to hf) ?_)
  rintro r rfl
  refine m_ (h:=?_)
  refine Ax true rfl rfl (fun hb15=>?_) (fun hb15=>?_)
  ·have hc15:=bp hb15
   refine l_ (h:=l_ (h:=?_))
   refine B6 (F1 rfl rfl (by repeat constructor) (by repeat constructor) (fun w=>Ph _ _ _ _ w) (by kernel_rfl) ?_)
   refine Af (h:=e_ (?_))
   refine A8 rfl (fun hb16=>?_) (fun hb16=>?_)
   ·have hc16:=bp hb16
    refine w_ (AT (h:=s_ (h:=a_ (h:=a_ (h:=e_ (A6 (A7 (?_))))))))
    refine Aj (r:=CH (EK f src name to name2)) none (h5:=?_) (h6:=⟨rfl,rfl,rfl⟩)
    have h2:Dp f src to A O e2=28:=by unfold Dp;rw[if_neg hc10,if_pos ⟨hc15,hc16⟩]
    rw[hRen,if_neg (by rw[hord];simp),if_neg (by simp[he1]),if_neg (by simp[hc5]),if_neg (fun h=>absurd h.2 (by rw[hbl h.1];decide)),if_neg (fun h=>hoa h.1 h.2),h2,if_pos (by decide)]
    exact DM _
   have hc16:=bp hb16
   have h2:Dp f src to A O e2=0:=by unfold Dp;rw[if_neg hc10,if_neg (fun h=>h.2 hc16)]
   refine BB (?_)
   refine AD ?_
   exact⟨_,⟨h2,rfl⟩,(wk 6 0)⟩
  have hc15:=bp hb15
  have h2:Dp f src to A O e2=0:=by unfold Dp;rw[if_neg hc10,if_neg (fun h=>absurd (h.1.symm.trans hc15) (by decide))]
  refine A3 (h:=A3 (h:=A3 (h:=Am (h:=e_ (F6 (h:=BB (?_)))))))
  refine AD ?_
  exact⟨_,⟨h2,rfl⟩,(wk 6 0)⟩
 rintro t ⟨h2,rfl⟩
 obtain⟨q,i,d,n1,hsq,hq,hn1,hn1i,hidx,hnode,hk1,hnm1⟩:=GR hpl1
 obtain⟨q',i2,d',n2,htq,hq',hn2,hn2i, -,hnode2,hk2,hnm2⟩:=GR hpl2
 obtain rfl:q=q':=by omega
 obtain rfl:d=d':=Option.some.inj (hq.symm.trans hq')
 have hvd:=hv.vd d (Au hq)
 have hql:=(Ar.1 hq).1
 have hil:=(Ar.1 hn1).1
 obtain⟨e,he,hle⟩:=Mh hnode hk1 (by rw[hl1];exact he1)
 have hA1:A=(src.1,e.2):=by rw[hl1]at hle;exact congrArg Prod.fst hle
 have hAm:∃m∈d.nodes,m.ino=A.2:=by rw[hA1];exact(hvd.ent n1 (Au hn1) e (Gr he).1).2.2
 obtain⟨X1,X2,m2,hX1,hm2,hm2i,hX2,hasc1,hasc2,hx1l,hx2l,hX2D,hf1,hf2,hb2,⟨r,hr,hr1⟩,⟨am,ham,hami⟩⟩:=ZV hv hq hn1 hn2 name name2 A.2 hAm
 have hidx2:F8 (f.set q ⟨d.next,X1⟩) to=(i2:Int):=QX htq (d:=⟨d.next,X1⟩) (by simp[hql]) hasc1 hm2 (hm2i.trans hn2i)
 have hoo:e2=0→O.1=(q:Int)∧0<(Cj O.2 X2).length:=by
  intro h
  obtain⟨e',he',hle'⟩:=Mh hnode2 hk2 (by rw[hl2];exact h)
  have hO1:O=(to.1,e'.2):=by rw[hl2]at hle';exact congrArg Prod.fst hle'
  refine⟨by rw[hO1];exact htq,QV hr ?_⟩
  rw[hr1,hO1]
  exact(hvd.ent n2 (Au hn2) e' (Gr he').1).2.1.symm
 have hO1:e2=0→O.1=A.1:=fun h=>by rw[(hoo h).1,hA1];exact hsq.symm
 obtain⟨NS,hNS⟩:∃NS,NS=(if e2=0 then Br X2 O.2 else X2):=⟨_,rfl⟩
 have hNSf:NS=X2∨(e2=0∧NS=Br X2 O.2):=by
  by_cases h:e2=0
  ·exact .inr ⟨h,by rw[hNS,if_pos h]⟩
  exact .inl (by rw[hNS,if_neg h])
 have hsub:NS.Sublist X2:=by
  rcases hNSf with h|⟨_,h⟩
  ·rw[h];exact List.Sublist.refl _
  rw[h];exact List.filter_sublist
 have hasc3:Dm NS:=hasc2.sublist hsub
 have hAN:am∈NS:=by
  rcases hNSf with h|⟨h0,h⟩
  ·rw[h];exact ham
  rw[h]
  refine List.mem_filter.2 ⟨ham,decide_eq_true (.inl fun e=>hoa h0 ?_)⟩
  exact Prod.ext (hO1 h0) (by rw[←e,hami])
 obtain⟨i3,hm3⟩:=List.getElem?_of_mem hAN
 have hil3:=(Ar.1 hm3).1
 have hf3:FlsB (f.set q ⟨d.next,NS⟩):=hf.set_ (by have:=hsub.length_le;have:=hvd.len;show NS.length≤1000;omega) fun m hm=>hb2 m (hsub.subset hm)
 have hidx3:F8 (f.set q ⟨d.next,NS⟩) A=(i3:Int):=QX (by rw[hA1];exact hsq) (d:=⟨d.next,NS⟩) (by simp[hql]) hasc3 hm3 hami
 obtain⟨m3,rfl⟩:∃m3,m3=am:=⟨_,rfl⟩
 have hm3i:=hami
 obtain⟨NS2,hNS2⟩:∃NS2,NS2=Hh NS A.2 to.2 (AX f A):=⟨_,rfl⟩
 refine w_ (l_ (h:=?_))
 refine A4 rfl (BV [] rfl (.cons _ _ _ _ _ rfl (LeA.refl _) .nil) (by decide) .nil (L0 f q d hf hq (by omega)) ?_)
 rintro r bc tc ⟨rfl,cap,cap1,hcap,hcap1,rfl,rfl⟩
 refine⟨rfl,_,(L8 (n:=6) rfl f q d d.nodes cap cap1:Back _ [] _ [_,_,_,_,_,_,_,_]),?_⟩
 have hcx1:X1.length≤cap1:=by omega
 have hcx2:X2.length≤cap1:=by omega
 refine AW (h:=s_ (h:=e_ (w_ (l_ (h:=l_ (h:=m_ (h:=?_)))))))
 refine A4 rfl (BV [6,7] rfl (.cons _ _ _ _ _ rfl (LeA.refl _) (.cons _ _ _ _ _ rfl (LeA.refl _) (.cons _ _ _ _ _ rfl (LeA.refl _) (.cons _ _ _ _ _ rfl (LeA.refl _) .nil)))) (by decide) (.cons _ _ _ _ _ rfl (Fw (by rfl) _ _ _ _ _) (.cons _ _ _ _ _ rfl (FX _ _ _) .nil)) (MV f q d n1 i src name 0 cap cap1 hf hq hsq hidx hn1 hcap hcap1) ?_)
 rintro r bc tc ⟨rfl,rfl,rfl⟩
 rw[show d.nodes.set i {n1 with entries:=Cb n1.entries name 0}=X1 from hX1.symm]
 refine⟨rfl,_,(L9 (BT rfl) (BT rfl) (by decide) f q d X1 cap cap1 cap1:Back _ [6,7] _ [_,_,_,_,_,_,_,_,_]),?_⟩
 refine e_ (w_ (l_ (h:=l_ (h:=m_ (h:=f_ (h:=l_ (h:=?_)))))))
 refine A4 rfl (BV [6,7] rfl (.cons _ _ _ _ _ rfl (LeA.refl _) (.cons _ _ _ _ _ rfl (LeA.refl _) (.cons _ _ _ _ _ rfl (LeA.refl _) (.cons _ _ _ _ _ rfl (LeA.refl _) .nil)))) (by decide) (.cons _ _ _ _ _ rfl (Fw (by rfl) _ _ _ _ _) (.cons _ _ _ _ _ rfl (FX _ _ _) .nil)) (ZU f q d ⟨d.next,X1⟩ m2 i2 to name2 A.2 cap cap1 hf1 hql htq hidx2 hm2 hcap hcx1 rfl hx1l) ?_)
 rintro r bc tc ⟨rfl,rfl,rfl⟩
 refine⟨rfl,?_⟩
 dsimp only
 rw[←hX2]
 refine⟨_,(L9 (BT rfl) (BT rfl) (by decide) f q ⟨d.next,X2⟩ X2 cap cap1 cap1:Back _ [6,7] _ [_,_,_,_,_,_,_,_,_]),?_⟩
 refine e_ (?_)
 refine B5 (fun t=>∃capx,NS.length≤capx∧t=⟨look [(2, .v (.string name)),(4, .v (.string name2)),(6, .bp 1 0),(8, .bp 2 0),(10, .bp 3 0),(17, .bp 4 0),(19, .v (.bool (AX f A))),(20, .bp 5 0),(22, .bp 8 0)],⟨[As f,AA src,AA to,[.v (.slice none 0 0)],AA A,AA O,DB f q ⟨d.next,NS⟩ 7 cap capx,NB NS capx,[.bs 6 0 2 f.length cap]],[]⟩⟩) ?_ ?_
 ·skip
  refine w_ (m_ (h:=AQ (h:=e_ (?_))))
  refine A8 rfl (fun hb17=>?_) (fun hb17=>?_)
  ·have hc17:=bp hb17
   have he2:e2=0:=hc17
   obtain⟨hoq,hkp⟩:=hoo he2
   refine AP (l_ (h:=l_ (h:=?_)))
   refine A4 rfl (BV [6,7] rfl (.cons _ _ _ _ _ rfl (LeA.refl _) (.cons _ _ _ _ _ rfl (LeA.refl _) .nil)) (by decide) (.cons _ _ _ _ _ rfl (Fw (by rfl) _ _ _ _ _) (.cons _ _ _ _ _ rfl (FX _ _ _) .nil)) (QW f q ⟨d.next,X2⟩ ⟨d.next,X2⟩ O cap cap1 hf2 hql hoq hcap hcx2 hkp rfl rfl) ?_)
   rintro r bc tc ⟨rfl,rfl,⟨hns,rfl⟩|⟨hns,cap2,hcap2,rfl⟩⟩
   ·refine⟨rfl,_,(QT (n:=9) rfl (by decide) (by decide) (by decide) f q ⟨d.next,X2⟩ X2 O f.length cap cap cap1 cap1:Back _ [6,7] _ [_,_,_,_,_,_,_,_,_,_,_]),?_⟩
    obtain rfl:NS=X2:=by rw[hNS,if_pos (by assumption)];exact hns
    refine AO (?_)
    refine AD ?_
    first|exact⟨_,⟨_,hcap2,rfl⟩,E4 [0,1,2,3,4,5,6,11,8] (fun i hi=>absurd hi (Nat.not_lt_zero i)) (by decide) (.cons _ _ _ _ _ rfl rfl (.cons _ _ _ _ _ rfl rfl (.cons _ _ _ _ _ rfl rfl (.cons _ _ _ _ _ rfl rfl (.cons _ _ _ _ _ rfl rfl (.cons _ _ _ _ _ rfl rfl (.cons _ _ _ _ _ rfl (KL (by rfl) _ _ _ _ _) (.cons _ _ _ _ _ rfl (J8 _ _ _) (.cons _ _ _ _ _ rfl rfl .nil))))))))) (by repeat (first|exact SubK.nil|refine SubK.cons _ _ _ _ rfl (LeA.refl _) ?_))⟩|exact⟨_,⟨_,hcx2,rfl⟩,Bc 9 0 (by simp[Ag,Ab,Ac,CL,CM,AA,As])⟩
   refine⟨rfl,_,(QS (n:=9) rfl (by decide) (by decide) (by decide) f q ⟨d.next,Cj O.2 X2⟩ X2 (Cj O.2 X2) O f.length cap cap cap1 cap2:Back _ [6,7] _ [_,_,_,_,_,_,_,_,_,_,_,_]),?_⟩
   have hNSk:NS=Cj O.2 X2:=by rw[hNS,if_pos (by assumption)];exact hns
   rw[←hNSk]at hcap2
   rw[←hNSk]
   refine AO (?_)
   refine AD ?_
   exact⟨_,⟨_,hcap2,rfl⟩,E4 [0,1,2,3,4,5,6,11,8] (fun i hi=>absurd hi (Nat.not_lt_zero i)) (by decide) (.cons _ _ _ _ _ rfl rfl (.cons _ _ _ _ _ rfl rfl (.cons _ _ _ _ _ rfl rfl (.cons _ _ _ _ _ rfl rfl (.cons _ _ _ _ _ rfl rfl (.cons _ _ _ _ _ rfl rfl (.cons _ _ _ _ _ rfl (KL (by rfl) _ _ _ _ _) (.cons _ _ _ _ _ rfl (J8 _ _ _) (.cons _ _ _ _ _ rfl rfl .nil))))))))) (by repeat (first|exact SubK.nil|refine SubK.cons _ _ _ _ rfl (LeA.refl _) ?_))⟩
  have hc17:=bp hb17
  have he2:¬e2=0:=hc17
  obtain rfl:NS=X2:=by rw[hNS,if_neg he2]
  refine BB (?_)
  refine AD ?_
  first|exact⟨_,⟨_,hcap2,rfl⟩,E4 [0,1,2,3,4,5,6,11,8] (fun i hi=>absurd hi (Nat.not_lt_zero i)) (by decide) (.cons _ _ _ _ _ rfl rfl (.cons _ _ _ _ _ rfl rfl (.cons _ _ _ _ _ rfl rfl (.cons _ _ _ _ _ rfl rfl (.cons _ _ _ _ _ rfl rfl (.cons _ _ _ _ _ rfl rfl (.cons _ _ _ _ _ rfl (KL (by rfl) _ _ _ _ _) (.cons _ _ _ _ _ rfl (J8 _ _ _) (.cons _ _ _ _ _ rfl rfl .nil))))))))) (by repeat (first|exact SubK.nil|refine SubK.cons _ _ _ _ rfl (LeA.refl _) ?_))⟩|exact⟨_,⟨_,hcx2,rfl⟩,Bc 9 0 (by simp[Ag,Ab,Ac,CL,CM,AA,As])⟩
 rintro t ⟨capx,hcapx,rfl⟩
 refine B5 (fun t=>t=⟨look [(2, .v (.string name)),(4, .v (.string name2)),(6, .bp 1 0),(8, .bp 2 0),(10, .bp 3 0),(17, .bp 4 0),(20, .bp 5 0),(22, .bp 8 0)],⟨[As f,AA src,AA to,[.v (.slice none 0 0)],AA A,AA O,DB f q ⟨d.next,NS⟩ 7 cap capx,NB NS2 capx,[.bs 6 0 2 f.length cap]],[]⟩⟩) ?_ ?_
 ·skip
  refine w_ (m_ (h:=e_ (?_)))
  refine A8 rfl (fun hb18=>?_) (fun hb18=>?_)
  ·have hc18:=bp hb18
   have e4:NS.set i3 {m3 with parent:=to.2}=NS2:=by rw[hNS2,Hh,if_pos hc18,Mg hasc3 hm3 (fun n=>{n with parent:=to.2}),hm3i]
   have hset3:SetAt (NB NS capx) (0+i3 * 8+5) [.v (.int .i64 to.2)] (NB NS2 capx):=by
    rw[←e4]
    exact Q5 hm3 (by repeat constructor) (by simp)
   refine BH ([(0,As f),(1,AA src),(2,AA to),(3,[.v (.slice none 0 0)]),(4,AA A),(5,AA O),(6,DB f q ⟨d.next,NS⟩ 7 cap capx),(8,[.bs 6 0 2 f.length cap])]) 15 (h:=AF 0 (h:=?_))
   refine AJ 1 (h:=?_)
   refine AF 2 (h:=?_)
   refine AJ 3 (h:=?_)
   refine Bj 4 rfl (fun _ hS=>DF (m:=q) rfl rfl htq hql ⟨rfl,rfl⟩) ?_
   refine AF 5 (h:=?_)
   first|refine AJ 6 (h:=?_)|refine Bj 6 rfl (fun _ hS=>D4 (row:=DB f q ⟨d.next,NS⟩ 7 cap capx) rfl (kb hS rfl) (MO hql) ⟨rfl,rfl⟩) ?_
   refine AJ 7 (h:=?_)
   refine AJ 8 (h:=?_)
   refine AF 10 (h:=?_)
   refine AJ 11 (h:=?_)
   refine c_ 9 rfl (Cf 2 rfl (.cons _ _ _ _ _ rfl (LeA.of_eq (ZN (d:=⟨d.next,NS⟩) hql hcap hcapx (Nat.zero_le _) (Nat.zero_le _) rfl rfl)) (.cons _ _ _ _ _ rfl (LeA.refl _) .nil)) (Jb (f.set q ⟨d.next,NS⟩) A hf3) ?_)
   rintro r rfl
   refine⟨rfl,?_⟩
   refine o_ (h:=?_)
   refine Bj 12 rfl (fun _ hS=>DF (m:=i3) rfl rfl hidx3 hil3 ⟨rfl,rfl⟩) ?_
   refine AF 13 (h:=?_)
   refine B0 14 rfl (Aw rfl rfl rfl rfl rfl rfl hset3 (by repeat constructor) ?_)
   refine o_ (h:=z_ (h:=?_))
   refine AD ?_
   exact⟨_,rfl,Bc 9 0 (by simp[Ag,Ab,Ac,CL,CM,AA,As])⟩
  have hc18:=bp hb18
  obtain rfl:NS2=NS:=by rw[hNS2,Hh,if_neg (by rw[hc18];decide)]
  refine BB (?_)
  refine AD ?_
  exact⟨_,rfl,Bc 9 0 (by simp[Ag,Ab,Ac,CL,CM,AA,As])⟩
 rintro t rfl
 have hl3:NS2.length=NS.length:=by rw[hNS2];unfold Hh;split<;>simp[CX]
 have hcapx2:NS2.length≤capx:=by omega
 refine B5 (fun t=>t=⟨look [(10, .bp 3 0),(11, .sl 7 ([(src,name,A,(0,0)),(to,name2,O,A)].map CK) none),(12, .v (.int .i64 0))],⟨[As f,AA src,AA to,As (f.set q ⟨d.next,NS2⟩)],[]⟩⟩) ?_ ?_
 ·skip
  refine BH ([(0,As f),(1,AA src),(2,AA to),(4,AA A),(5,AA O),(6,DB f q ⟨d.next,NS⟩ 7 cap capx),(7,NB NS2 capx),(8,[.bs 6 0 2 f.length cap])]) 15 (h:=AJ 0 (h:=AJ 1 (h:=AN 2 (h:=AJ 3 (h:=?_)))))
  refine Bj 4 rfl (fun _ hS=>EC (y:= .agg (AA (0,0))) (Ca ⟨rfl,rfl⟩) (by repeat (first|exact LeA.refl _|exact LeA.nil _|exact LeL.refl _|refine LeA.agg ⟨rfl,rfl⟩|refine LeA.tup ⟨rfl,rfl⟩|exact LeL.nil|refine LeL.cons ⟨rfl,rfl⟩ ⟨rfl,rfl⟩|exact LeA.any _)) ⟨rfl,rfl⟩) ?_
  refine AJ 6 (h:=AN 7 (h:=AJ 8 (h:=AJ 9 (h:=?_))))
  refine c_ 5 rfl (BV [] rfl (.cons _ _ _ _ _ rfl (LeA.refl _) (.cons _ _ _ _ _ rfl (LeA.refl _) (.cons _ _ _ _ _ rfl (LeA.refl _) (.cons _ _ _ _ _ rfl (LeA.refl _) .nil)))) (by decide) .nil (ZS src name A (0,0)) ?_)
  rintro r bc tc ⟨rfl,rfl,rfl⟩
  refine⟨rfl,_,(ZR _ (ZT _ _ _ _):Back _ [] _ [_,_,_,_,_,_,_,_,_,_,_,_,_]),?_⟩
  refine o_ (h:=?_)
  refine c_ 10 rfl (AK (KD to name2 O A) ?_)
  rintro r rfl
  refine o_ (h:=?_)
  refine c_ 11 rfl (Ks rfl rfl rfl (BT rfl) JA (by omega) (by omega) (fun h=>absurd h (by omega)) ?_)
  rintro hg cap4 k bx2 hcp4 hs
  obtain⟨rfl,rfl⟩:k=13∧bx2=[_,_,_,_,_,_,_,_,_,_,_,_,_,CG 7 cap4 ([(src,name,A,(0,0)),(to,name2,O,A)].map CK)]:=hs.eq
  refine o_ (h:=?_)
  refine B0 12 rfl (Aw rfl rfl rfl rfl rfl rfl (by repeat constructor) (by repeat constructor) ?_)
  refine o_ (h:=BC 13 (h:=BC 14 (h:=z_ (h:=?_))))
  refine AD ?_
  exact⟨_,rfl,Em 4 2 rfl (congrArg (fun x=>[As f,AA src,AA to,x]) (Hg (k:=0) (i:=6) (j:=7) (d:=⟨d.next,NS⟩) (d':=⟨d.next,NS2⟩) hql rfl hl3 hcap hcapx2 (BT rfl) (BT rfl) rfl rfl)) (.cons _ _ _ _ rfl (LeA.refl _) (.cons _ _ _ _ rfl (LeA.of_eq (U5 (rows:=[(src,name,A,(0,0)),(to,name2,O,A)].map CK) (BT rfl) (ZO (n:=4) (k:=1) (j:=13) (BT rfl) rfl (ZP _)) (ZQ _) rfl hcp4)) (.cons _ _ _ _ rfl (LeA.refl _) .nil)))⟩
 rintro t rfl
 refine A6 (?_)
 refine AB ?_
 rw[hRen,if_neg (by rw[hord];simp),if_neg (by simp[he1]),if_neg (by simp[hc5]),if_neg (fun h=>absurd h.2 (by rw[hbl h.1];decide)),if_neg (fun h=>hoa h.1 h.2),if_neg (by rw[h2];simp),htq,Int.toNat_natCast,Fz hq,show KP d.nodes src name to name2 A O e2=NS by rw[hNS,hX2D,hn1i,hn2i];rfl,←hNS2]
 rfl
end
end Go.Proofs.YtbglbmnhgbgelaaGreatDoor
