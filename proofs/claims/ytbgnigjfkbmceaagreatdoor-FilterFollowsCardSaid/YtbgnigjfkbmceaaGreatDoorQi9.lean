/-
  Part 9 of the proof of FilterFollowsP: what the statement's proof uses of the texts in wip/tpl.
-/
import Derived.Test.YtbgnigjfkbmceaaGreatDoorQi8
open Go.Proofs.Tryz (prog)
set_option maxRecDepth 10000
set_option maxHeartbeats 4000000
set_option linter.unusedVariables false
set_option linter.unusedSimpArgs false
namespace Go.Proofs.YtbgnigjfkbmceaaGreatDoor
open Go.RowKit
theorem Pi{f:AR}{dir:A9}{name:AE}{n0:Nod}(hn:C8 f dir=some n0)(hk:n0.kind=2)(h:(AK f dir name).2=0):∃e,EM n0.entries name=some e∧AK f dir name=((dir.1,e.2),0):=by
 unfold AK at h ⊢;rw[hn]at h ⊢;simp only[hk,if_true]at h ⊢;unfold EM;split at h
 ·exact absurd h (by decide)
 rename_i e he;exact⟨e,he,rfl⟩
def entS(ns:List Nod)(i:Nat)(n0:Nod)(name:AE)(ino:Int):List Nod:=ns.set i {n0 with entries:=D9 n0.entries name ino}
theorem KG(ns:List Nod)(i:Nat)(n0:Nod)(name:AE)(ino:Int):(entS ns i n0 name ino).length=ns.length:=by simp[entS]
theorem U0(es:List BQ)(name:AE)(ino:Int):(D9 es name ino).length≤es.length+1:=by
 by_cases h:ino=0
 ·subst h;rw[La];have:(Fx name es).length≤es.length:=List.length_filter_le _ _;omega
 rw[(M6 es name h).length_eq,List.length_cons];have:(Fx name es).length≤es.length:=List.length_filter_le _ _;omega
theorem FlsB.set_{f:AR}(hf:FlsB f){q:Nat}{d':Dvc}(hn:d'.nodes.length≤1000)(he:∀n∈d'.nodes,n.entries.length≤1000):FlsB (f.set q d'):=by
 refine⟨by simpa using hf.few,fun d hd=>?_,fun d hd n hn'=>?_⟩
 ·rcases List.mem_or_eq_of_mem_set hd with h|h
  ·exact hf.nodes d h
  rw[h];exact hn
 rcases List.mem_or_eq_of_mem_set hd with h|h
 ·exact hf.ents d h n hn'
 subst h;exact he n hn'
theorem FlsV.entS{f:AR}(hv:FlsV f){q:Nat}{d:Dvc}(hq:f[q]?=some d){i:Nat}{n0:Nod}(hn:d.nodes[i]?=some n0)(name:AE)(ino:Int):FlsB (f.set q {d with nodes:=entS d.nodes i n0 name ino}):=by
 have hd:=hv.vd d (Ag hq);refine hv.b.set_ ?_ ?_
 ·show(Go.Proofs.YtbgnigjfkbmceaaGreatDoor.entS d.nodes i n0 name ino).length≤1000;rw[KG];have:=hd.len;omega
 intro m hm;rcases List.mem_or_eq_of_mem_set hm with h|h
 ·have:=hd.many m h;omega
 rw[h];have:=U0 n0.entries name ino;have:=hd.many n0 (Ag hn);show(D9 n0.entries name ino).length≤1000;omega
theorem OU{d:Dvc}(hd:VD d){i:Nat}{n0:Nod}(hn:d.nodes[i]?=some n0)(name:AE)(ino:Int):entS d.nodes i n0 name ino=Bg d.nodes n0.ino name ino:=by
 unfold entS Bg;rw[←Ph hd.asc hn];rfl
theorem Xb{f:AR}{a:A9}{q:Nat}{d:Dvc}(ha:a.1=(q:Int))(hq:f[q]?=some d):Kd f a=if(d.nodes.any fun n=>n.ino==a.2)then Bt a.2 d.nodes else 0:=by
 unfold Kd C8;rw[ha,NN,hq];simp only
 cases h:d.nodes.find? (fun n=>n.ino==a.2)with
 |none=>
   have:d.nodes.any (fun n=>n.ino==a.2)=false:=by
    rw[List.any_eq_false];exact List.find?_eq_none.1 h
   simp[this]
 |some n=>
   have:d.nodes.any (fun n=>n.ino==a.2)=true:=by
    have h2:=List.find?_some h;exact List.any_eq_true.2 ⟨n,List.mem_of_find?_eq_some h,h2⟩
   simp[this]
theorem iZ{f:AR}{a:A9}{q:Nat}{d:Dvc}(ha:a.1=(q:Int))(hq:f[q]?=some d)(hl:0<Kd f a):CH d.nodes a.2=d.nodes:=by
 rw[Xb ha hq]at hl;split at hl
 ·unfold CH;rw[List.filter_eq_self];intro m _;exact decide_eq_true (.inr hl)
 omega
theorem drop_zero{f:AR}{a:A9}{q:Nat}{d:Dvc}(ha:a.1=(q:Int))(hq:f[q]?=some d)(hl:Kd f a=0):CH d.nodes a.2=DN a.2 d.nodes:=by
 rw[Xb ha hq]at hl;unfold CH DN;apply List.filter_congr;intro m hm;split at hl
 ·rw[hl,Bool.eq_iff_iff];simp
 rename_i h
 have hne:m.ino≠a.2:=by
  intro e;exact h (List.any_eq_true.2 ⟨m,hm,by simpa using e⟩)
 rw[Bool.eq_iff_iff];simp[hne]
theorem U1{ns:List Nod}{m:Nod}{i:Int}(hm:m∈ns)(h:m.ino≠i):0<(DN i ns).length:=List.length_pos_of_mem (List.mem_filter.2 ⟨hm,by simpa using h⟩)
theorem Xc{d:Dvc}(hd:VD d){i:Nat}{n0:Nod}(hn:d.nodes[i]?=some n0)(name:AE)(ino:Int):∃m∈entS d.nodes i n0 name ino,m.ino=1:=by
 obtain⟨r,hr,h1,_⟩:=hd.rootMem;rw[OU hd hn];obtain⟨m,hm,hw⟩:=Mq n0.ino name ino hr;exact⟨m,hm,hw.ino.trans h1⟩
theorem U2(f:AR)(q:Nat)(d d':Dvc)(a:A9)(cap cap1:Nat)(hf:FlsB (f.set q d'))(hq:q<f.length)(ha:a.1=(q:Int))(hcap:f.length≤cap)(hcap1:d'.nodes.length≤cap1)(hne:0<(DN a.2 d'.nodes).length)(hn:d'.next=d.next)(hl:d'.nodes.length=d.nodes.length):
    ACall prog 234 [.agg [.bs 0 0 2 f.length cap], .agg (AB a)] [DB f q d 1 cap cap1,NB d'.nodes cap1] (fun r b t=>t=[]∧r= .tup []∧((CH d'.nodes a.2=d'.nodes∧b=[DB f q d 1 cap cap1,NB d'.nodes cap1,[.bs 0 0 2 f.length cap],AB a])∨(CH d'.nodes a.2=DN a.2 d'.nodes∧∃cap2,(DN a.2 d'.nodes).length≤cap2∧b=[DB f q {d' with nodes:=DN a.2 d'.nodes} 4 cap cap2,NB d'.nodes cap1,[.bs 0 0 2 f.length cap],AB a,NB (DN a.2 d'.nodes) cap2]))):=by
 have hq':(f.set q d')[q]?=some d':=by simp[hq]
 have key:=iM (f.set q d') q d' a cap cap1 hf hq' ha (by simpa using hcap) hcap1 hne;rw[List.length_set,←Xa hn hl]at key;refine key.mono fun r b t ⟨h1,h2,h3⟩=>⟨h1,h2,?_⟩;rcases h3 with⟨h4,h5⟩|⟨h4,cap2,h5,h6⟩
 ·exact .inl ⟨iZ ha hq' h4,h5⟩
 refine .inr ⟨drop_zero ha hq' h4,cap2,h5,?_⟩;rw[Te]at h6;exact h6
def J3(f:AR)(dir:A9)(name:AE):FH:=
 if Cc f dir name≠0 then([],[],Cc f dir name)else if(AK f dir name).2≠0 then([],[],(AK f dir name).2)else if AU f (AK f dir name).1=true then([],[],21)else
 (Jj f dir.1.toNat fun ns=>CH (Bg ns dir.2 name 0) (AK f dir name).1.2,[(dir,name,(AK f dir name).1,(0,0))],0)
def Gv(f:AR)(dir:A9)(name:AE):FH:=
 if Cc f dir name≠0 then([],[],Cc f dir name)else if(AK f dir name).2≠0 then([],[],(AK f dir name).2)else if AU f (AK f dir name).1=false then([],[],20)else if Mc f (AK f dir name).1=false then([],[],39)else
 (Jj f dir.1.toNat fun ns=>CH (Bg ns dir.2 name 0) (AK f dir name).1.2,[(dir,name,(AK f dir name).1,(0,0))],0)
section
theorem j0(f:AR)(dir:A9)(name:AE)(hv:FlsV f)(hs:name.size≤100000):AFn prog 173 [.agg (Ao f), .agg (AB dir), .v (.string name)] (fun r=>r=Ce (J3 f dir name)):=by
 have hf:=hv.b;refine enter Tryz.func173 rfl rfl rfl rfl rfl 0 rfl ?_;refine Dh (h:=Dt (h:=a_ (h:=B7 (h:=q_ (Hc (h:=?_))))));refine A3 rfl (A8 (OA f dir name hf hs) ?_);rintro r rfl;refine C4 (h:=Bn (h:=?_));refine A4 rfl (fun hb1 hc1=>?_) (fun hb1 hc1=>?_)
 ·refine w_ (Gr (h:=EU (h:=?_)));refine AZ (r:=Ce (J3 f dir name)) none (h5:=?_) (h6:=⟨rfl,rfl,rfl⟩);rw[J3,if_pos (by omega)];exact EO _
 refine AG (Hc (h:=?_));refine A3 rfl (A8 (Kg f dir name hf) ?_);rintro r rfl;refine JK (h:=Bn (h:=?_));refine A4 rfl (fun hb2 hc2=>?_) (fun hb2 hc2=>?_)
 ·refine w_ (Gr (h:=EU (h:=?_)));refine AZ (r:=Ce (J3 f dir name)) none (h5:=?_) (h6:=⟨rfl,rfl,rfl⟩);rw[J3,if_neg (by omega),if_pos (by omega)];exact EO _
 have hlk:(AK f dir name).2=0:=by omega
 refine FY (h:=CG (h:=?_));refine A3 rfl (A8 (Ke f (AK f dir name).1 hf) ?_);rintro r rfl;refine e_ (?_);refine A4 rfl (fun hb3 hc3=>?_) (fun hb3 hc3=>?_)
 ·refine FG (h:=?_);refine AZ (r:=Ce (J3 f dir name)) none (h5:=?_) (h6:=⟨rfl,rfl,rfl⟩);rw[J3,if_neg (by omega),if_neg (by omega),if_pos hc3];exact EO _
 obtain⟨q,i,d,n0,hdq,hq,hn0,hino,hidx,hnode,hk0,hnm⟩:=Ki (name:=name) (dir:=dir) (f:=f) (by omega);have hil:=(Af.1 hn0).1;have hql:=(Af.1 hq).1;have hvd:=hv.vd d (Ag hq);obtain⟨e,he,hle⟩:=Pi hnode hk0 hlk;have hat1:(AK f dir name).1.1=(q:Int):=by rw[hle];exact hdq
 have hat2:(AK f dir name).1.2≠1:=by rw[hle];exact(hvd.ent n0 (Ag hn0) e (L9 he).1).2.1
 have hxl:(entS d.nodes i n0 name 0).length=d.nodes.length:=KG _ _ _ _ _
 have hkp:0<(DN (AK f dir name).1.2 (entS d.nodes i n0 name 0)).length:=by
  obtain⟨m,hm,hm1⟩:=Xc hvd hn0 name 0;exact U1 hm (by rw[hm1];exact hat2.symm)
 refine AG (CF (h:=?_));refine A3 rfl (Bm [] rfl (.cons _ _ _ _ _ rfl (A7 _) .nil) (by decide) .nil (OM f q d hf hq (by omega)) ?_);rintro r bc tc ⟨rfl,cap,cap1,hcap,hcap1,rfl,rfl⟩;refine⟨rfl,_,(OS (n:=4) rfl f q d d.nodes cap cap1:Back _ [] _ [_,_,_,_,_,_]),?_⟩;refine Dk (h:=Hc (h:=?_));refine A3 rfl (Bm [4,5] rfl (.cons _ _ _ _ _ rfl (A7 _) (.cons _ _ _ _ _ rfl (A7 _) (.cons _ _ _ _ _ rfl (A7 _) (.cons _ _ _ _ _ rfl (A7 _) .nil)))) (by decide) (.cons _ _ _ _ _ rfl (KC (by rfl) _ _ _ _ _) (.cons _ _ _ _ _ rfl (Ji _ _ _) .nil)) (PV f q d n0 i dir name 0 cap cap1 hf hq hdq hidx hn0 hcap hcap1) ?_);rintro r bc tc ⟨rfl,rfl,rfl⟩;refine⟨rfl,_,(OT (BX rfl) (BX rfl) (by decide) f q d (entS d.nodes i n0 name 0) cap cap1 cap1:Back _ [4,5] _ [_,_,_,_,_,_,_]),?_⟩;refine e_ (CG (h:=?_));refine A3 rfl (Bm [4,5] rfl (.cons _ _ _ _ _ rfl (A7 _) (.cons _ _ _ _ _ rfl (A7 _) .nil)) (by decide) (.cons _ _ _ _ _ rfl (KC (by rfl) _ _ _ _ _) (.cons _ _ _ _ _ rfl (Ji _ _ _) .nil)) (U2 f q d {d with nodes:=entS d.nodes i n0 name 0} (AK f dir name).1 cap cap1 (hv.entS hq hn0 name 0) hql hat1 hcap (by rw[KG];exact hcap1) hkp rfl hxl) ?_);rintro r bc tc ⟨rfl,rfl,⟨hns,rfl⟩|⟨hns,cap2,hcap2,rfl⟩⟩
 ·refine⟨rfl,_,(Tz (n:=7) rfl (by decide) (by decide) (by decide) f q d (entS d.nodes i n0 name 0) (AK f dir name).1 f.length cap cap cap1 cap1:Back _ [4,5] _ [_,_,_,_,_,_,_,_,_]),?_⟩;have hx1:(entS d.nodes i n0 name 0).length≤cap1:=by omega
  refine e_ (?_);refine B9 (fun t=>t=⟨look [(6, .bp 2 0),(7, .sl 7 [Ej (dir,name,(AK f dir name).1,(0,0))] none),(8, .v (.int .i64 0))],⟨[Ao f,AB dir,Ao (f.set q {d with nodes:=CH (entS d.nodes i n0 name 0) (AK f dir name).1.2})],[]⟩⟩) ?_ ?_
  ·skip
   refine BS ([(0,Ao f),(1,AB dir),(3,AB (AK f dir name).1),(6,[.bs 4 0 2 f.length cap])]) 9 (h:=AA 0 (h:=AA 1 (h:=AF 2 (h:=AA 3 (h:=?_)))));refine CC 4 rfl (fun _ hS=>Hk (y:= .agg (AB (0,0))) (Dz ⟨rfl,rfl⟩) (by repeat (first|exact A7 _|exact LeA.nil _|exact LeL.refl _|refine LeA.agg ⟨rfl,rfl⟩|refine LeA.tup ⟨rfl,rfl⟩|exact LeL.nil|refine LeL.cons ⟨rfl,rfl⟩ ⟨rfl,rfl⟩|exact LeA.any _)) ⟨rfl,rfl⟩) ?_;refine c_ 5 rfl (A8 (NQ dir name (AK f dir name).1 (0,0)) ?_);rintro r rfl;refine o_ (h:=?_);refine Ak 6 (h:=BE 7 (h:=BE 8 (h:=z_ (h:=?_))));refine AM ?_;refine⟨_,rfl,?_⟩;rw[show CH (entS d.nodes i n0 name 0) (AK f dir name).1.2=_ from hns]
   first|exact Hm 3 2 rfl (congrArg (fun x=>[Ao f,AB dir,x]) (Lc (k:=0) (i:=4) (j:=9) (d:={d with nodes:=DN (AK f dir name).1.2 (entS d.nodes i n0 name 0)}) (d':={d with nodes:=DN (AK f dir name).1.2 (entS d.nodes i n0 name 0)}) hql rfl rfl hcap hcap2 (BX rfl) (BX rfl) rfl rfl)) (.cons _ _ _ _ rfl (A7 _) (.cons _ _ _ _ rfl (A7 _) (.cons _ _ _ _ rfl (A7 _) .nil)))|exact Hm 3 2 rfl (congrArg (fun x=>[Ao f,AB dir,x]) (Lc (k:=0) (i:=4) (j:=5) (d:=d) (d':={d with nodes:=entS d.nodes i n0 name 0}) hql rfl hxl hcap hx1 (BX rfl) (BX rfl) rfl rfl)) (.cons _ _ _ _ rfl (A7 _) (.cons _ _ _ _ rfl (A7 _) (.cons _ _ _ _ rfl (A7 _) .nil)))
  rintro t rfl;refine B8 (?_);refine A6 ?_;rw[J3,if_neg (by omega),if_neg (by omega),if_neg (by simp[hc3]),hdq,Int.toNat_natCast,KF hq,←hino,←OU (hv.vd d (Ag hq)) hn0];rfl
 refine⟨rfl,_,(Ty (n:=7) rfl (by decide) (by decide) (by decide) f q {d with nodes:=DN (AK f dir name).1.2 (entS d.nodes i n0 name 0)} (entS d.nodes i n0 name 0) (DN (AK f dir name).1.2 (entS d.nodes i n0 name 0)) (AK f dir name).1 f.length cap cap cap1 cap2:Back _ [4,5] _ [_,_,_,_,_,_,_,_,_,_]),?_⟩;refine e_ (?_);refine B9 (fun t=>t=⟨look [(6, .bp 2 0),(7, .sl 7 [Ej (dir,name,(AK f dir name).1,(0,0))] none),(8, .v (.int .i64 0))],⟨[Ao f,AB dir,Ao (f.set q {d with nodes:=CH (entS d.nodes i n0 name 0) (AK f dir name).1.2})],[]⟩⟩) ?_ ?_
 ·skip
  refine BS ([(0,Ao f),(1,AB dir),(3,AB (AK f dir name).1),(6,[.bs 4 0 2 f.length cap])]) 9 (h:=AA 0 (h:=AA 1 (h:=AF 2 (h:=AA 3 (h:=?_)))));refine CC 4 rfl (fun _ hS=>Hk (y:= .agg (AB (0,0))) (Dz ⟨rfl,rfl⟩) (by repeat (first|exact A7 _|exact LeA.nil _|exact LeL.refl _|refine LeA.agg ⟨rfl,rfl⟩|refine LeA.tup ⟨rfl,rfl⟩|exact LeL.nil|refine LeL.cons ⟨rfl,rfl⟩ ⟨rfl,rfl⟩|exact LeA.any _)) ⟨rfl,rfl⟩) ?_;refine c_ 5 rfl (A8 (NQ dir name (AK f dir name).1 (0,0)) ?_);rintro r rfl;refine o_ (h:=?_);refine Ak 6 (h:=BE 7 (h:=BE 8 (h:=z_ (h:=?_))));refine AM ?_;refine⟨_,rfl,?_⟩;rw[show CH (entS d.nodes i n0 name 0) (AK f dir name).1.2=_ from hns];exact Hm 3 2 rfl (congrArg (fun x=>[Ao f,AB dir,x]) (Lc (k:=0) (i:=4) (j:=9) (d:={d with nodes:=DN (AK f dir name).1.2 (entS d.nodes i n0 name 0)}) (d':={d with nodes:=DN (AK f dir name).1.2 (entS d.nodes i n0 name 0)}) hql rfl rfl hcap hcap2 (BX rfl) (BX rfl) rfl rfl)) (.cons _ _ _ _ rfl (A7 _) (.cons _ _ _ _ rfl (A7 _) (.cons _ _ _ _ rfl (A7 _) .nil)))
 rintro t rfl;refine B8 (?_);refine A6 ?_;rw[J3,if_neg (by omega),if_neg (by omega),if_neg (by simp[hc3]),hdq,Int.toNat_natCast,KF hq,←hino,←OU (hv.vd d (Ag hq)) hn0];rfl
theorem j1(f:AR)(dir:A9)(name:AE)(hv:FlsV f)(hs:name.size≤100000):AFn prog 174 [.agg (Ao f), .agg (AB dir), .v (.string name)] (fun r=>r=Ce (Gv f dir name)):=by
 have hf:=hv.b;refine enter Tryz.func174 rfl rfl rfl rfl rfl 0 rfl ?_;refine Dh (h:=Dt (h:=a_ (h:=B7 (h:=q_ (Hc (h:=?_))))));refine A3 rfl (A8 (OA f dir name hf hs) ?_);rintro r rfl;refine C4 (h:=Bn (h:=?_));refine A4 rfl (fun hb1 hc1=>?_) (fun hb1 hc1=>?_)
 ·refine w_ (Gr (h:=EU (h:=?_)));refine AZ (r:=Ce (Gv f dir name)) none (h5:=?_) (h6:=⟨rfl,rfl,rfl⟩);rw[Gv,if_pos (by omega)];exact EO _
 refine AG (Hc (h:=?_));refine A3 rfl (A8 (Kg f dir name hf) ?_);rintro r rfl;refine JK (h:=Bn (h:=?_));refine A4 rfl (fun hb2 hc2=>?_) (fun hb2 hc2=>?_)
 ·refine w_ (Gr (h:=EU (h:=?_)));refine AZ (r:=Ce (Gv f dir name)) none (h5:=?_) (h6:=⟨rfl,rfl,rfl⟩);rw[Gv,if_neg (by omega),if_pos (by omega)];exact EO _
 have hlk:(AK f dir name).2=0:=by omega
 refine FY (h:=CG (h:=?_));refine A3 rfl (A8 (Ke f (AK f dir name).1 hf) ?_);rintro r rfl;refine DE (h:=?_);refine A4 rfl (fun hb3 hc3=>?_) (fun hb3 hc3=>?_)
 ·refine FG (h:=?_);refine AZ (r:=Ce (Gv f dir name)) none (h5:=?_) (h6:=⟨rfl,rfl,rfl⟩);rw[Gv,if_neg (by omega),if_neg (by omega),if_pos hc3];exact EO _
 refine FY (h:=CG (h:=?_));refine A3 rfl (A8 (WT f (AK f dir name).1 hf) ?_);rintro r rfl;refine DE (h:=?_);refine A4 rfl (fun hb4 hc4=>?_) (fun hb4 hc4=>?_)
 ·refine FG (h:=?_);refine AZ (r:=Ce (Gv f dir name)) none (h5:=?_) (h6:=⟨rfl,rfl,rfl⟩);rw[Gv,if_neg (by omega),if_neg (by omega),if_neg (by simp[hc3]),if_pos hc4];exact EO _
 obtain⟨q,i,d,n0,hdq,hq,hn0,hino,hidx,hnode,hk0,hnm⟩:=Ki (name:=name) (dir:=dir) (f:=f) (by omega);have hil:=(Af.1 hn0).1;have hql:=(Af.1 hq).1;have hvd:=hv.vd d (Ag hq);obtain⟨e,he,hle⟩:=Pi hnode hk0 hlk;have hat1:(AK f dir name).1.1=(q:Int):=by rw[hle];exact hdq
 have hat2:(AK f dir name).1.2≠1:=by rw[hle];exact(hvd.ent n0 (Ag hn0) e (L9 he).1).2.1
 have hxl:(entS d.nodes i n0 name 0).length=d.nodes.length:=KG _ _ _ _ _
 have hkp:0<(DN (AK f dir name).1.2 (entS d.nodes i n0 name 0)).length:=by
  obtain⟨m,hm,hm1⟩:=Xc hvd hn0 name 0;exact U1 hm (by rw[hm1];exact hat2.symm)
 refine AG (CF (h:=?_));refine A3 rfl (Bm [] rfl (.cons _ _ _ _ _ rfl (A7 _) .nil) (by decide) .nil (OM f q d hf hq (by omega)) ?_);rintro r bc tc ⟨rfl,cap,cap1,hcap,hcap1,rfl,rfl⟩;refine⟨rfl,_,(OS (n:=4) rfl f q d d.nodes cap cap1:Back _ [] _ [_,_,_,_,_,_]),?_⟩;refine Dk (h:=Hc (h:=?_));refine A3 rfl (Bm [4,5] rfl (.cons _ _ _ _ _ rfl (A7 _) (.cons _ _ _ _ _ rfl (A7 _) (.cons _ _ _ _ _ rfl (A7 _) (.cons _ _ _ _ _ rfl (A7 _) .nil)))) (by decide) (.cons _ _ _ _ _ rfl (KC (by rfl) _ _ _ _ _) (.cons _ _ _ _ _ rfl (Ji _ _ _) .nil)) (PV f q d n0 i dir name 0 cap cap1 hf hq hdq hidx hn0 hcap hcap1) ?_);rintro r bc tc ⟨rfl,rfl,rfl⟩;refine⟨rfl,_,(OT (BX rfl) (BX rfl) (by decide) f q d (entS d.nodes i n0 name 0) cap cap1 cap1:Back _ [4,5] _ [_,_,_,_,_,_,_]),?_⟩;refine e_ (CG (h:=?_));refine A3 rfl (Bm [4,5] rfl (.cons _ _ _ _ _ rfl (A7 _) (.cons _ _ _ _ _ rfl (A7 _) .nil)) (by decide) (.cons _ _ _ _ _ rfl (KC (by rfl) _ _ _ _ _) (.cons _ _ _ _ _ rfl (Ji _ _ _) .nil)) (U2 f q d {d with nodes:=entS d.nodes i n0 name 0} (AK f dir name).1 cap cap1 (hv.entS hq hn0 name 0) hql hat1 hcap (by rw[KG];exact hcap1) hkp rfl hxl) ?_);rintro r bc tc ⟨rfl,rfl,⟨hns,rfl⟩|⟨hns,cap2,hcap2,rfl⟩⟩
 ·refine⟨rfl,_,(Tz (n:=7) rfl (by decide) (by decide) (by decide) f q d (entS d.nodes i n0 name 0) (AK f dir name).1 f.length cap cap cap1 cap1:Back _ [4,5] _ [_,_,_,_,_,_,_,_,_]),?_⟩;have hx1:(entS d.nodes i n0 name 0).length≤cap1:=by omega
  refine e_ (?_);refine B9 (fun t=>t=⟨look [(6, .bp 2 0),(7, .sl 7 [Ej (dir,name,(AK f dir name).1,(0,0))] none),(8, .v (.int .i64 0))],⟨[Ao f,AB dir,Ao (f.set q {d with nodes:=CH (entS d.nodes i n0 name 0) (AK f dir name).1.2})],[]⟩⟩) ?_ ?_
  ·skip
   refine BS ([(0,Ao f),(1,AB dir),(3,AB (AK f dir name).1),(6,[.bs 4 0 2 f.length cap])]) 9 (h:=AA 0 (h:=AA 1 (h:=AF 2 (h:=AA 3 (h:=?_)))));refine CC 4 rfl (fun _ hS=>Hk (y:= .agg (AB (0,0))) (Dz ⟨rfl,rfl⟩) (by repeat (first|exact A7 _|exact LeA.nil _|exact LeL.refl _|refine LeA.agg ⟨rfl,rfl⟩|refine LeA.tup ⟨rfl,rfl⟩|exact LeL.nil|refine LeL.cons ⟨rfl,rfl⟩ ⟨rfl,rfl⟩|exact LeA.any _)) ⟨rfl,rfl⟩) ?_;refine c_ 5 rfl (A8 (NQ dir name (AK f dir name).1 (0,0)) ?_);rintro r rfl;refine o_ (h:=?_);refine Ak 6 (h:=BE 7 (h:=BE 8 (h:=z_ (h:=?_))));refine AM ?_;refine⟨_,rfl,?_⟩;rw[show CH (entS d.nodes i n0 name 0) (AK f dir name).1.2=_ from hns]
   first|exact Hm 3 2 rfl (congrArg (fun x=>[Ao f,AB dir,x]) (Lc (k:=0) (i:=4) (j:=9) (d:={d with nodes:=DN (AK f dir name).1.2 (entS d.nodes i n0 name 0)}) (d':={d with nodes:=DN (AK f dir name).1.2 (entS d.nodes i n0 name 0)}) hql rfl rfl hcap hcap2 (BX rfl) (BX rfl) rfl rfl)) (.cons _ _ _ _ rfl (A7 _) (.cons _ _ _ _ rfl (A7 _) (.cons _ _ _ _ rfl (A7 _) .nil)))|exact Hm 3 2 rfl (congrArg (fun x=>[Ao f,AB dir,x]) (Lc (k:=0) (i:=4) (j:=5) (d:=d) (d':={d with nodes:=entS d.nodes i n0 name 0}) hql rfl hxl hcap hx1 (BX rfl) (BX rfl) rfl rfl)) (.cons _ _ _ _ rfl (A7 _) (.cons _ _ _ _ rfl (A7 _) (.cons _ _ _ _ rfl (A7 _) .nil)))
  rintro t rfl;refine B8 (?_);refine A6 ?_;rw[Gv,if_neg (by omega),if_neg (by omega),if_neg (by simp[hc3]),if_neg (by simp[hc4]),hdq,Int.toNat_natCast,KF hq,←hino,←OU (hv.vd d (Ag hq)) hn0];rfl
 refine⟨rfl,_,(Ty (n:=7) rfl (by decide) (by decide) (by decide) f q {d with nodes:=DN (AK f dir name).1.2 (entS d.nodes i n0 name 0)} (entS d.nodes i n0 name 0) (DN (AK f dir name).1.2 (entS d.nodes i n0 name 0)) (AK f dir name).1 f.length cap cap cap1 cap2:Back _ [4,5] _ [_,_,_,_,_,_,_,_,_,_]),?_⟩;refine e_ (?_);refine B9 (fun t=>t=⟨look [(6, .bp 2 0),(7, .sl 7 [Ej (dir,name,(AK f dir name).1,(0,0))] none),(8, .v (.int .i64 0))],⟨[Ao f,AB dir,Ao (f.set q {d with nodes:=CH (entS d.nodes i n0 name 0) (AK f dir name).1.2})],[]⟩⟩) ?_ ?_
 ·skip
  refine BS ([(0,Ao f),(1,AB dir),(3,AB (AK f dir name).1),(6,[.bs 4 0 2 f.length cap])]) 9 (h:=AA 0 (h:=AA 1 (h:=AF 2 (h:=AA 3 (h:=?_)))));refine CC 4 rfl (fun _ hS=>Hk (y:= .agg (AB (0,0))) (Dz ⟨rfl,rfl⟩) (by repeat (first|exact A7 _|exact LeA.nil _|exact LeL.refl _|refine LeA.agg ⟨rfl,rfl⟩|refine LeA.tup ⟨rfl,rfl⟩|exact LeL.nil|refine LeL.cons ⟨rfl,rfl⟩ ⟨rfl,rfl⟩|exact LeA.any _)) ⟨rfl,rfl⟩) ?_;refine c_ 5 rfl (A8 (NQ dir name (AK f dir name).1 (0,0)) ?_);rintro r rfl;refine o_ (h:=?_);refine Ak 6 (h:=BE 7 (h:=BE 8 (h:=z_ (h:=?_))));refine AM ?_;refine⟨_,rfl,?_⟩;rw[show CH (entS d.nodes i n0 name 0) (AK f dir name).1.2=_ from hns];exact Hm 3 2 rfl (congrArg (fun x=>[Ao f,AB dir,x]) (Lc (k:=0) (i:=4) (j:=9) (d:={d with nodes:=DN (AK f dir name).1.2 (entS d.nodes i n0 name 0)}) (d':={d with nodes:=DN (AK f dir name).1.2 (entS d.nodes i n0 name 0)}) hql rfl rfl hcap hcap2 (BX rfl) (BX rfl) rfl rfl)) (.cons _ _ _ _ rfl (A7 _) (.cons _ _ _ _ rfl (A7 _) (.cons _ _ _ _ rfl (A7 _) .nil)))
 rintro t rfl;refine B8 (?_);refine A6 ?_;rw[Gv,if_neg (by omega),if_neg (by omega),if_neg (by simp[hc3]),if_neg (by simp[hc4]),hdq,Int.toNat_natCast,KF hq,←hino,←OU (hv.vd d (Ag hq)) hn0];rfl
end
section
variable {P:Program}{N:Dim}{ops:Array Oper}{Q:Exit→AS→Prop}{S:AH→Prop}{tl:Nat}
def Xd(ops:Array Oper)(tl:Nat):Bool:=QE ops tl
end
section
variable {P:Program}{N:Dim}{Q:Exit→AS→Prop}{l:List Oper}{S:AH→Prop}{tl:Nat}{fuel:Nat}{listed:Array Bool}{m:List (Nat×AV)}{h:AH}{op:Op}{ty:TypeId}{pos:String}{af:Array Edge}{gd:Option (Nat×Bool)}
theorem j2{i d:Nat}{x:AV}(hi:l[i]?=some ⟨some d,op,ty,pos,af,gd⟩)(hd:Nat.blt d N.n=true)(htl:(Xd l.toArray tl&&QD l.toArray listed&& !Nat.ble tl i&&Region.free .any l.toArray listed i&&(Region.ready .any l.toArray listed).contains i)=true)
    (hw:Ca l.toArray (look m) ⟨some d,op,ty,pos,af,gd⟩=some true) (hst:∀h,S h→AStep P ⟨some d,op,ty,pos,af,gd⟩ (CT (look m)) h (fun x' h'=>x'=x∧h'=h)) (hS:S h)
    (H:AAny P N l.toArray Q S tl fuel (listed.setIfInBounds i true) ⟨look ((d,x)::m),h⟩):AAny P N l.toArray Q S tl (fuel+1) listed ⟨look m,h⟩:=by
 simp only[Bool.and_eq_true,Bool.not_eq_true']at htl;obtain⟨⟨⟨⟨t1,t0⟩,t2⟩,t3⟩,t4⟩:=htl;exact AAny.first3 (oi:=⟨some d,op,ty,pos,af,gd⟩) (Ky hi) hd t1 t2 fuel listed ⟨look m,h⟩ (V8 t0) (Region.free_spec (Ky hi) t3) (List.contains_iff_mem.1 t4) (.inl ⟨hw,hst⟩) hS H
end
theorem Fc{P:Program}{N:Dim}{Q:Exit→AS→Prop}{l:List Oper}{S:AH→Prop}{tl:Nat}{fuel:Nat}{listed:Array Bool}{m:List (Nat×AV)}{h:AH}{op:Op}{ty:TypeId}{pos:String}{af:Array Edge}{gd:Option (Nat×Bool)}(i:Nat){d:Nat}{x:AV}(hi:l[i]?=some ⟨some d,op,ty,pos,af,gd⟩)(hst:∀h,S h→AStep P ⟨some d,op,ty,pos,af,gd⟩ (CT (look m)) h (fun x' h'=>x'=x∧h'=h))(H:AAny P N l.toArray Q S tl fuel (listed.setIfInBounds i true) ⟨look ((d,x)::m),h⟩)(hd:Nat.blt d N.n=true:=by rfl)(htl:(Xd l.toArray tl&&QD l.toArray listed&& !Nat.ble tl i&&Region.free .any l.toArray listed i&&(Region.ready .any l.toArray listed).contains i)=true:=by kernel_rfl)(hw:Ca l.toArray (look m) ⟨some d,op,ty,pos,af,gd⟩=some true:=by first|rfl|exact BO rfl rfl (EQ ‹_›)|exact BO rfl rfl (ER ‹_›)|exact BO rfl rfl (by simp[*]))(hS:S h:=by repeat (first|exact O4 _|refine O5 rfl ?_)):AAny P N l.toArray Q S tl (fuel+1) listed ⟨look m,h⟩:=j2 hi hd htl hw hst hS H
theorem U3{f:AR}{a:A9}{q i:Nat}{d:Dvc}{n:Nod}(ha:a.1=(q:Int))(hq:f[q]?=some d)(hd:FJ d.nodes)(hn:d.nodes[i]?=some n)(hi:n.ino=a.2):Hy f a=(i:Int):=by
 rw[T6 ha hq];refine W8 hn (by simpa using hi) fun j y hj hy=>?_;obtain⟨l1,e1⟩:=Af.1 hn;obtain⟨l2,e2⟩:=Af.1 hy;have hp:=List.pairwise_iff_getElem.1 hd j i l2 l1 hj;rw[e1,e2]at hp;have:y.ino≠a.2:=by omega
 simpa using this
theorem Xe(f:AR)(q:Nat)(d':Dvc)(n:Nod)(i:Nat)(a:A9)(name:AE)(ino:Int)(cap cap1:Nat)(hf:FlsB (f.set q d'))(hq:q<f.length)(ha:a.1=(q:Int))(hi:Hy (f.set q d') a=(i:Int))(hn:d'.nodes[i]?=some n)(hcap:f.length≤cap)(hcap1:d'.nodes.length≤cap1):
    ACall prog 232 [.agg [.bs 0 0 2 f.length cap], .agg (AB a), .v (.string name), .v (.int .i64 ino)] [DB f q d' 1 cap cap1,NB d'.nodes cap1] (fun r b t=>t=[]∧r= .tup []∧b=[DB f q d' 1 cap cap1,NB (entS d'.nodes i n name ino) cap1]):=by
 have key:=PV (f.set q d') q d' n i a name ino cap cap1 hf (by simp[hq]) ha hi hn (by simpa using hcap) hcap1;rw[List.length_set,Te]at key;exact key
def Fy(f:AR)(a:A9)(mode uid gid:Int):AR×Int:=
 if Dc f a=false then([],2)else if Hz (GU mode uid gid (Ah f a))=false then([],22)else(Jj f a.1.toNat fun ns=>Cz ns a.2 (GU mode uid gid),0)
def Pj(R:AR×Int):AV:= .tup [.agg (Ao R.1), .v (.int .i64 R.2)]
theorem Xf(e:Int):LeA (.tup [.agg [.v (.slice none 0 0)], .v (.int .i64 e)]) (Pj ([],e)):=(by repeat (first|exact A7 _|exact LeA.nil _|exact LeL.refl _|refine LeA.agg ?_|refine LeA.tup ?_|exact LeL.nil|refine LeL.cons ?_ ?_|exact LeA.any _))
theorem j4{n:Nod}(h:Hz n=true):n.target.size≤128:=by
 unfold Hz at h;split at h
 ·cases h
 split at h
 ·simp[O7]at h;omega
 have h2:=List.isEmpty_iff.1 h;rw[ByteArray.toList_eq]at h2;have:n.target.data.size=0:=by rw[←Array.length_toList,h2];rfl
 show n.target.data.size≤128;omega
theorem U4{f:AR}(hv:FlsV f)(a:A9):(Ah f a).target.size≤128:=by
 rcases Lz f a with⟨-,h⟩|⟨k,i,d,n, -,h1,h2, -, -,h⟩
 ·simp only[Ah,h,Option.getD_none];exact BK _
 simp only[Ah,h,Option.getD_some];exact j4 ((hv.vd d (Ag h1)).plain n (Ag h2))
def FL(f:AR)(dir:A9)(name:AE)(n:Nod):FH:=
 if Cc f dir name≠0 then([],[],Cc f dir name)else if Hz n=false then([],[],22)else if(AK f dir name).2=0 then([],[],17)else
 match Fv f dir.1 with
 |none=>([],[],2)
 |some d=>if 16≤d.nodes.length∨d.next=1073741824∨M1 f dir=true then([],[],28)else(f.set dir.1.toNat ⟨d.next+1,Bg d.nodes dir.2 name d.next++[GR n d.next dir.2]⟩,[(dir,name,(0,0),(dir.1,d.next))],0)
theorem Xg{f:AR}{q:Nat}{d:Dvc}{j j' cap cap1 c:Nat}(m:Nod)(hq:q<f.length):SetAt (DB f q d j cap cap1) (0+q * 2+1) [.bs j' 0 8 (d.nodes.length+1) c] (DB f q {d with nodes:=d.nodes++[m]} j' cap c):=by
 have h:=Td (d:=d) (d':={d with nodes:=d.nodes++[m]}) (j:=j) (j':=j') (cap:=cap) (cap1:=cap1) (cap1':=c) (k:=1) (cs:=[.bs j' 0 8 (d.nodes++[m]).length c]) hq (by repeat constructor) (by simp)
 rwa [List.length_append]at h
section
theorem j5(f:AR)(a:A9)(mode uid gid:Int)(hv:FlsV f):AFn prog 176 [.agg (Ao f), .agg (AB a), .v (.int .i64 mode), .v (.int .i64 uid), .v (.int .i64 gid)] (fun r=>r=Pj (Fy f a mode uid gid)):=by
 have hf:=hv.b;have htg:=U4 hv a;refine enter Tryz.func176 rfl rfl rfl rfl rfl 0 rfl ?_;refine Jb (h:=CG (h:=?_));refine A3 rfl (A8 (FZ f a hf) ?_);rintro r rfl;refine Gm (h:=?_);refine A4 rfl (fun hb1 hc1=>?_) (fun hb1 hc1=>?_)
 ·refine Br (h:=?_);refine AZ (r:=Pj (Fy f a mode uid gid)) none (h5:=?_) (h6:=⟨rfl,rfl,rfl⟩);rw[Fy,if_pos hc1];exact Xf _
 refine AG (E9 (h:=m_ (h:=Cb (h:=Cb (h:=D7 (h:=q_ (CF (h:=?_))))))));refine A3 rfl (A8 (WU (GU mode uid gid (Ah f a)) (by show(Ah f a).target.size≤100000;omega)) ?_);rintro r rfl;refine DE (h:=?_);refine A4 rfl (fun hb2 hc2=>?_) (fun hb2 hc2=>?_)
 ·refine Br (h:=?_);refine AZ (r:=Pj (Fy f a mode uid gid)) none (h5:=?_) (h6:=⟨rfl,rfl,rfl⟩);rw[Fy,if_neg (by simp[hc1]),if_pos hc2];exact Xf _
 obtain⟨q,i,d,n0,hdq,hq,hn0,hino,hidx,hnode⟩:=(Lz f a).resolve_left (fun h=>by simp[Dc,h.2]at hc1);have hil:=(Af.1 hn0).1;have hql:=(Af.1 hq).1;have hng:Ah f a=n0:=by simp[Ah,hnode]
 refine AG (CF (h:=?_));refine A3 rfl (Bm [] rfl (.cons _ _ _ _ _ rfl (A7 _) .nil) (by decide) .nil (OM f q d hf hq (by omega)) ?_);rintro r bc tc ⟨rfl,cap,cap1,hcap,hcap1,rfl,rfl⟩;refine⟨rfl,_,(OS (n:=4) rfl f q d d.nodes cap cap1:Back _ [] _ [_,_,_,_,_,_]),?_⟩;have hD0:(DB f q d 5 cap cap1)[0+q * 2+1]?=some (.bs 5 0 8 d.nodes.length cap1):=PT hql
 have hset:SetAt (NB d.nodes cap1) (0+i * 8) (Ac (GU mode uid gid (Ah f a))) (NB (d.nodes.set i (GU mode uid gid (Ah f a))) cap1):=by
  rw[hng];exact Tc (k:=0) hn0 (by repeat constructor) (by simp[Ac])
 refine Dt (h:=s_ (h:=e_ (q_ (BS ([(0,Ao f),(1,AB a),(3,Ac (GU mode uid gid (Ah f a))),(4,DB f q d 5 cap cap1),(6,[.bs 4 0 2 f.length cap])]) 13 (h:=AD 0 (h:=?_))))));refine AA 1 (h:=?_);refine AD 2 (h:=?_);refine AA 3 (h:=?_);refine CC 4 rfl (fun _ hS=>Dy (m:=q) rfl rfl hdq hql ⟨rfl,rfl⟩) ?_;refine AD 5 (h:=?_)
 first|refine AA 6 (h:=?_)|refine CC 6 rfl (fun _ hS=>Dq (row:=DB f q d 5 cap cap1) rfl (kb hS rfl) hD0 ⟨rfl,rfl⟩) ?_
 refine AA 7 (h:=?_);refine AA 8 (h:=?_);refine AA 10 (h:=?_);refine c_ 9 rfl (Ds 2 rfl (.cons _ _ _ _ _ rfl (LeA.of_eq (Mo hq hcap hcap1 (BK _) (BK _) rfl rfl)) (.cons _ _ _ _ _ rfl (A7 _) .nil)) (Me f a hf) ?_);rintro r rfl;refine⟨rfl,?_⟩;refine o_ (h:=?_);refine CC 11 rfl (fun _ hS=>Dy (m:=i) rfl rfl hidx hil ⟨rfl,rfl⟩) ?_;refine Hn 12 rfl (Eo rfl rfl rfl rfl rfl rfl hset (by repeat constructor) ?_);refine Hb (h:=t_ (?_));refine B9 (fun t=>t=⟨look [(10, .bp 2 0),(11, .v (.int .i64 0))],⟨[Ao f,AB a,Ao (f.set q {d with nodes:=d.nodes.set i (GU mode uid gid (Ah f a))})],[]⟩⟩) ?_ ?_
 ·skip
  refine Av (l_ (h:=s_ (h:=Ck (h:=?_))));exact⟨_,rfl,Hm 3 2 rfl (congrArg (fun x=>[Ao f,AB a,x]) (Lc (k:=0) (i:=4) (j:=5) (d:=d) (d':={d with nodes:=d.nodes.set i (GU mode uid gid (Ah f a))}) hql rfl (by simp) hcap (by simpa using hcap1) (BX rfl) (BX rfl) rfl rfl)) (.cons _ _ _ _ rfl (A7 _) (.cons _ _ _ _ rfl (A7 _) .nil))⟩
 rintro t rfl;refine B8 (?_);refine A6 ?_;rw[Fy,if_neg (by simp[hc1]),if_neg (by simp[hc2]),hdq,Int.toNat_natCast,KF hq,←hino,←Ph (hv.vd d (Ag hq)).asc hn0,←hng];rfl
theorem j6(f:AR)(dir:A9)(name:AE)(n:Nod)(hv:FlsV f)(hs:name.size≤100000)(hns:n.target.size≤100000):AFn prog 177 [.agg (Ao f), .agg (AB dir), .v (.string name), .agg (Ac n)] (fun r=>r=Ce (FL f dir name n)):=by
 have hf:=hv.b;obtain⟨e0,he0⟩:∃e0:Int,e0=if Cc f dir name≠0 then Cc f dir name else if Hz n=false then 22 else 0:=⟨_,rfl⟩
 refine enter Tryz.func177 rfl rfl rfl rfl rfl 0 rfl ?_;refine Dh (h:=b_ (h:=Dt (h:=a_ (h:=B7 (h:=Hc (h:=?_))))));refine A3 rfl (A8 (OA f dir name hf hs) ?_);rintro r rfl;refine B7 (h:=?_);refine B9 (fun t=>t=⟨look [(2, .v (.string name)),(4, .bp 0 0),(5, .bp 1 0),(7, .bp 2 0),(8, .bp 3 0),(9, .v (.slice none 0 0)),(10, .v (.int .i64 0)),(11, .v (.int .i64 e0))],⟨[Ao f,AB dir,Ac n,[.v (.slice none 0 0)]],[]⟩⟩) ?_ ?_
 ·skip
  refine Aa (h:=E1 (h:=?_));refine AJ true rfl rfl (fun hb1 hc1=>?_) (fun hb1 hc1=>?_)
  ·refine l_ (h:=?_);refine As (A8 (WU n hns) ?_);rintro r rfl;refine Cr (h:=Bj (h:=e_ (?_)));refine A4 rfl (fun hb2 hc2=>?_) (fun hb2 hc2=>?_)
   ·have hee:e0=22:=by rw[he0,if_neg (by omega),if_pos hc2]
    refine Av (Ck (h:=?_));refine⟨_,rfl,?_⟩;rw[hee];exact(wk 4 0)
   have hee:e0=Cc f dir name:=by rw[he0,if_neg (by omega),if_neg (by simp[hc2]),hc1]
   refine BF (AM (?_));refine⟨_,rfl,?_⟩;rw[hee];exact(wk 4 0)
  have hee:e0=Cc f dir name:=by rw[he0,if_pos hc1]
  refine DC (h:=e_ (JH (h:=BF (AM (?_)))));refine⟨_,rfl,?_⟩;rw[hee];exact(wk 4 0)
 rintro t rfl;refine Bv (h:=Bn (h:=?_));refine A4 rfl (fun hb3 hc3=>?_) (fun hb3 hc3=>?_)
 ·refine w_ (Gr (h:=EU (h:=?_)));refine AZ (r:=Ce (FL f dir name n)) none (h5:=?_) (h6:=⟨rfl,rfl,rfl⟩)
  rw[show FL f dir name n=([],[],e0) by
   unfold FL;by_cases h:Cc f dir name=0
   ·rw[if_neg (by omega)]at he0 ⊢;by_cases h2:Hz n=false
    ·rw[if_pos h2]at he0 ⊢;rw[he0]
    rw[if_neg h2]at he0;omega
   rw[if_pos h]at he0 ⊢;rw[he0]]
  exact EO _
 have hpl:Cc f dir name=0:=by
  by_cases h:Cc f dir name=0
  ·exact h
  rw[if_pos h]at he0;omega
 have hpn:¬Hz n=false:=by
  intro h;rw[if_neg (by omega),if_pos h]at he0;omega
 refine FY (h:=Hc (h:=?_));refine A3 rfl (A8 (Kg f dir name hf) ?_);rintro r rfl;refine Ee (h:=C4 (h:=BN (h:=?_)));refine A4 rfl (fun hb4 hc4=>?_) (fun hb4 hc4=>?_)
 ·refine FG (h:=?_);refine AZ (r:=Ce (FL f dir name n)) none (h5:=?_) (h6:=⟨rfl,rfl,rfl⟩);rw[FL,if_neg (by omega),if_neg hpn,if_pos (by omega)];exact EO _
 obtain⟨q,i,d,n0,hdq,hq,hn0,hino,hidx,hnode,hk0,hnm⟩:=Ki (name:=name) (dir:=dir) (f:=f) hpl;have hil:=(Af.1 hn0).1;have hql:=(Af.1 hq).1;have hvd:=hv.vd d (Ag hq);have hatI:Fv f dir.1=some d:=by rw[hdq,NN,hq]
 have hrow:(f.map Cd)[q]?=some (Cd d):=by rw[List.getElem?_map,hq];rfl
 have hnx1:=hvd.next2;have hnx2:=hvd.nextM;have hdl:=hvd.len;refine AG (Hs (h:=?_));refine A3 rfl (DA (n:=q) rfl rfl hdq hrow ?_);refine Hu (h:=Ci (h:=n_ (h:=EJ (h:=m_ (h:=?_)))));refine AJ false rfl rfl (fun hb5 hc5=>?_) (fun hb5 hc5=>?_)
 ·refine Ch (h:=EK (h:=FG (h:=?_)));refine AZ (r:=Ce (FL f dir name n)) none (h5:=?_) (h6:=⟨rfl,rfl,rfl⟩);rw[FL,if_neg (by omega),if_neg hpn,if_neg (by omega),hatI];simp only;rw[if_pos (by first|exact .inl (by simp at *;omega)|exact .inr (.inl (by omega))|exact .inr (.inr (by assumption)))];exact EO _
 refine Cx (h:=Bh (h:=?_));refine AJ false rfl rfl (fun hb6 hc6=>?_) (fun hb6 hc6=>?_)
 ·refine EK (h:=FG (h:=?_));refine AZ (r:=Ce (FL f dir name n)) none (h5:=?_) (h6:=⟨rfl,rfl,rfl⟩);rw[FL,if_neg (by omega),if_neg hpn,if_neg (by omega),hatI];simp only;rw[if_pos (by first|exact .inl (by simp at *;omega)|exact .inr (.inl (by omega))|exact .inr (.inr (by assumption)))];exact EO _
 refine GL (h:=?_);refine As (A8 (T8 f dir hf) ?_);rintro r rfl;refine CV (h:=?_);refine A4 rfl (fun hb7 hc7=>?_) (fun hb7 hc7=>?_)
 ·refine FG (h:=?_);refine AZ (r:=Ce (FL f dir name n)) none (h5:=?_) (h6:=⟨rfl,rfl,rfl⟩);rw[FL,if_neg (by omega),if_neg hpn,if_neg (by omega),hatI];simp only;rw[if_pos (by first|exact .inl (by simp at *;omega)|exact .inr (.inl (by omega))|exact .inr (.inr (by assumption)))];exact EO _
 refine AG (CF (h:=?_));refine A3 rfl (Bm [] rfl (.cons _ _ _ _ _ rfl (A7 _) .nil) (by decide) .nil (OM f q d hf hq (by omega)) ?_);rintro r bc tc ⟨rfl,cap,cap1,hcap,hcap1,rfl,rfl⟩;refine⟨rfl,_,(OS (n:=6) rfl f q d d.nodes cap cap1:Back _ [] _ [_,_,_,_,_,_,_,_]),?_⟩;have hD0:(DB f q d 7 cap cap1)[0+q * 2+1]?=some (.bs 7 0 8 d.nodes.length cap1):=PT hql;obtain⟨mk,hmk⟩:∃mk,mk=GR n d.next dir.2:=⟨_,rfl⟩;refine Dk (h:=Hs (h:=JO (h:=JO (h:=?_))));refine A3 rfl (Hp (y:= .agg (Ac ⟨d.next,n.kind,n.mode,n.uid,n.gid,0,n.target,[]⟩)) (Dz ⟨rfl,rfl⟩) ?_);refine Dk (h:=?_);refine B9 (fun t=>t=⟨look [(2, .v (.string name)),(5, .bp 1 0),(8, .bp 3 0),(15, .bp 8 0),(16, .bp 9 0)],⟨[Ao f,AB dir,Ac n,[.v (.slice none 0 0)],AB (AK f dir name).1,Cd d,DB f q d 7 cap cap1,NB d.nodes cap1,[.bs 6 0 2 f.length cap],Ac mk],[]⟩⟩) ?_ ?_
 ·skip
  refine Az (h:=BN (h:=?_));refine A4 rfl (fun hb8 hc8=>?_) (fun hb8 hc8=>?_)
  ·have hmk2:mk=⟨d.next,n.kind,n.mode,n.uid,n.gid,dir.2,n.target,[]⟩:=by rw[hmk];unfold GR;rw[if_pos hc8]
   refine Av (Ab (h:=Cb (h:=D6 (h:=?_))));refine⟨_,rfl,?_⟩;rw[hmk2];exact Bk 10 0 (by simp[AY,AX,AW,Cl,Cm,AB,Ac,Ao,Cd])
  have hmk2:mk=⟨d.next,n.kind,n.mode,n.uid,n.gid,0,n.target,[]⟩:=by rw[hmk];unfold GR;rw[if_neg hc8]
  refine BF (AM (?_));refine⟨_,rfl,?_⟩;rw[hmk2];exact Bk 10 0 (by simp[AY,AX,AW,Cl,Cm,AB,Ac,Ao,Cd])
 rintro t rfl;refine B9 (fun t=>∃capx,(d.nodes++[mk]).length≤capx∧t=⟨look [(2, .v (.string name)),(5, .bp 1 0),(8, .bp 3 0),(15, .bp 8 0),(16, .bp 9 0)],⟨[Ao f,AB dir,Ac n,[.v (.slice none 0 0)],AB (AK f dir name).1,Cd d,DB f q {d with nodes:=d.nodes++[mk]} 7 cap capx,NB (d.nodes++[mk]) capx,[.bs 6 0 2 f.length cap],Ac mk],[]⟩⟩) ?_ ?_
 ·skip
  refine BS ([(0,Ao f),(1,AB dir),(2,Ac n),(3,[.v (.slice none 0 0)]),(4,AB (AK f dir name).1),(5,Cd d),(6,DB f q d 7 cap cap1),(8,[.bs 6 0 2 f.length cap]),(9,Ac mk)]) 16 (h:=?_);refine Fc 0 rfl (fun h0 hS=>JW rfl ⟨rfl,rfl⟩) ?_
  first|refine Fc 1 rfl (fun h0 hS=>Dq (row:=DB f q d 7 cap cap1) rfl (kb hS rfl) hD0 ⟨rfl,rfl⟩) ?_|refine Fc 1 rfl (fun h0 hS=>Dq rfl (kb hS rfl) rfl ⟨rfl,rfl⟩) ?_
  refine Fc 2 rfl (fun h0 hS=>JW rfl ⟨rfl,rfl⟩) ?_
  first|refine Fc 3 rfl (fun h0 hS=>Dq (row:=DB f q d 7 cap cap1) rfl (kb hS rfl) hD0 ⟨rfl,rfl⟩) ?_|refine Fc 3 rfl (fun h0 hS=>Dq rfl (kb hS rfl) rfl ⟨rfl,rfl⟩) ?_
  refine Fc 4 rfl (fun h0 hS=>JW rfl ⟨rfl,rfl⟩) ?_
  first|refine Fc 5 rfl (fun h0 hS=>Dq (row:=DB f q d 7 cap cap1) rfl (kb hS rfl) hD0 ⟨rfl,rfl⟩) ?_|refine Fc 5 rfl (fun h0 hS=>Dq rfl (kb hS rfl) rfl ⟨rfl,rfl⟩) ?_
  refine Fc 6 rfl (fun h0 hS=>JW rfl ⟨rfl,rfl⟩) ?_
  first|refine Fc 7 rfl (fun h0 hS=>Dq (row:=DB f q d 7 cap cap1) rfl (kb hS rfl) hD0 ⟨rfl,rfl⟩) ?_|refine Fc 7 rfl (fun h0 hS=>Dq rfl (kb hS rfl) rfl ⟨rfl,rfl⟩) ?_
  refine Fc 8 rfl (fun h0 hS=>Dy (m:=q) rfl rfl hdq hql ⟨rfl,rfl⟩) ?_;refine Fc 9 rfl (fun h0 hS=>JW rfl ⟨rfl,rfl⟩) ?_;refine Fc 10 rfl (fun h0 hS=>Dq (row:=DB f q d 7 cap cap1) rfl (kb hS rfl) hD0 ⟨rfl,rfl⟩) ?_
  first|refine Fc 11 rfl (fun h0 hS=>Dq (row:=DB f q d 7 cap cap1) rfl (kb hS rfl) hD0 ⟨rfl,rfl⟩) ?_|refine Fc 11 rfl (fun h0 hS=>KY rfl (kb hS rfl) rfl ⟨rfl,rfl⟩) ?_
  refine Fc 12 rfl (fun h0 hS=>P6 (by repeat (first|exact DenseA.nil _|(apply DenseA.cons;(focus exact rfl);(focus exact rfl);(focus exact rfl);(focus exact rfl))|(apply DenseA.consE;(focus exact rfl);(focus exact rfl);(focus exact rfl)))) rfl rfl rfl rfl ⟨rfl,rfl⟩) ?_;refine c_ 13 rfl (O3 rfl rfl rfl (by rw[PR hcap1];omega) M5 (by omega) (by omega) ?_ ?_)
  ·rintro hg row2 bx2 hs hb;obtain rfl:=XK hs hg;obtain rfl:bx2=[_,_,_,_,_,_,_,_,_,_]:=hb.one.2;have hgx:(d.nodes++[mk]).length≤cap1:=by simpa using hg
   refine o_ (h:=?_);refine Fc 14 rfl (fun h0 hS=>Dy (m:=q) rfl rfl hdq hql ⟨rfl,rfl⟩) ?_;refine Fc 15 rfl (fun h0 hS=>JW rfl ⟨rfl,rfl⟩) ?_;refine Hn 16 rfl (Eo rfl rfl rfl rfl rfl rfl (Xg mk hql) (by repeat constructor) ?_);refine Hb (h:=?_);refine AM ?_
   first|exact⟨_,⟨_,hgx,rfl⟩,GG [0,1,2,3,4,5,6,10,8,9] (fun i hi=>absurd hi (Nat.not_lt_zero i)) (by decide) (.cons _ _ _ _ _ rfl rfl (.cons _ _ _ _ _ rfl rfl (.cons _ _ _ _ _ rfl rfl (.cons _ _ _ _ _ rfl rfl (.cons _ _ _ _ _ rfl rfl (.cons _ _ _ _ _ rfl rfl (.cons _ _ _ _ _ rfl (NZ (by rfl) _ _ _ _ _) (.cons _ _ _ _ _ rfl (M4 _ _ _) (.cons _ _ _ _ _ rfl rfl (.cons _ _ _ _ _ rfl rfl .nil)))))))))) (by repeat (first|exact SubK.nil|refine SubK.cons _ _ _ _ rfl (A7 _) ?_))⟩|exact⟨_,⟨_,hgx,rfl⟩,Bk 10 0 (by simp[AY,AX,AW,Cl,Cm,AB,Ac,Ao,Cd])⟩
  rintro hg cap3 k bx2 hcp3 hs;rw[show((NB d.nodes cap1).drop 0).take (d.nodes.length * 8)++CU (.agg (Ac mk))++List.replicate ((cap3 - (d.nodes.length+1)) * 8) AV.any=NB (d.nodes++[mk]) cap3 from XJ d.nodes mk cap1 cap3]at hs;obtain⟨rfl,rfl⟩:k=10∧bx2=[_,_,_,_,_,_,_,_,_,_,_]:=hs.eq;have hgx:(d.nodes++[mk]).length≤cap3:=by simpa using hcp3
  refine o_ (h:=?_);refine Fc 14 rfl (fun h0 hS=>Dy (m:=q) rfl rfl hdq hql ⟨rfl,rfl⟩) ?_;refine Fc 15 rfl (fun h0 hS=>JW rfl ⟨rfl,rfl⟩) ?_;refine Hn 16 rfl (Eo rfl rfl rfl rfl rfl rfl (Xg mk hql) (by repeat constructor) ?_);refine Hb (h:=?_);refine AM ?_;exact⟨_,⟨_,hgx,rfl⟩,GG [0,1,2,3,4,5,6,10,8,9] (fun i hi=>absurd hi (Nat.not_lt_zero i)) (by decide) (.cons _ _ _ _ _ rfl rfl (.cons _ _ _ _ _ rfl rfl (.cons _ _ _ _ _ rfl rfl (.cons _ _ _ _ _ rfl rfl (.cons _ _ _ _ _ rfl rfl (.cons _ _ _ _ _ rfl rfl (.cons _ _ _ _ _ rfl (NZ (by rfl) _ _ _ _ _) (.cons _ _ _ _ _ rfl (M4 _ _ _) (.cons _ _ _ _ _ rfl rfl (.cons _ _ _ _ _ rfl rfl .nil)))))))))) (by repeat (first|exact SubK.nil|refine SubK.cons _ _ _ _ rfl (A7 _) ?_))⟩
 rintro t ⟨capx,hcapx,rfl⟩;have hasc2:FJ (d.nodes++[mk]):=List.pairwise_append.2 ⟨hvd.asc,List.pairwise_singleton _ _,fun x hx y hy=>by obtain rfl:=List.mem_singleton.1 hy;rw[hmk];exact hvd.lt x hx⟩;have hn2:(d.nodes++[mk])[i]?=some n0:=by rw[DJ hil];exact hn0
 have hidx2:Hy (f.set q ⟨d.next+1,d.nodes++[mk]⟩) dir=(i:Int):=U3 hdq (d:=⟨d.next+1,d.nodes++[mk]⟩) (by simp[hql]) hasc2 hn2 hino
 have hf2:FlsB (f.set q ⟨d.next+1,d.nodes++[mk]⟩):=hf.set_ (by have:=hvd.len;simp;omega) (fun m hm=>by
  rcases List.mem_append.1 hm with h|h
  ·have:=hvd.many m h;omega
  obtain rfl:=List.mem_singleton.1 h;rw[hmk];simp[GR])
 have hmki:mk.ino=d.next:=by rw[hmk];rfl
 have hmk0:(Ac mk)[0+0]?=some (.v (.int .i64 d.next)):=by rw[hmk];rfl
 refine Hs (h:=?_);refine A3 rfl (Dy (m:=q) rfl rfl hdq hql ?_);refine f_ (h:=?_);refine A3 rfl (Dq rfl rfl (gQ hql) ?_);refine A3 rfl (Ny rfl rfl (by dsimp only;omega) ?_);refine A3 rfl (Dy (m:=q) rfl rfl hdq hql ?_);refine f_ (h:=?_);refine MY (Eo rfl rfl rfl rfl rfl rfl (Td (d':=⟨d.next+1,d.nodes++[mk]⟩) (j':=7) (cap1':=capx) (k:=0) (cs:=[.v (.int .i64 (d.next+1))]) hql (by repeat constructor) (by simp)) (by repeat constructor) ?_);refine e_ (Hc (h:=Ab (h:=?_)));refine A3 rfl (Bm [6,7] rfl (.cons _ _ _ _ _ rfl (A7 _) (.cons _ _ _ _ _ rfl (A7 _) (.cons _ _ _ _ _ rfl (A7 _) (.cons _ _ _ _ _ rfl (LeA.of_eq (show AV.v (.int .i64 mk.ino)=_ by rw[hmki])) .nil)))) (by decide) (.cons _ _ _ _ _ rfl (KC (by rfl) _ _ _ _ _) (.cons _ _ _ _ _ rfl (Ji _ _ _) .nil)) (Xe f q ⟨d.next+1,d.nodes++[mk]⟩ n0 i dir name d.next cap capx hf2 hql hdq hidx2 hn2 hcap hcapx) ?_);rintro r bc tc ⟨rfl,rfl,rfl⟩;refine⟨rfl,_,(OT (BX rfl) (BX rfl) (by decide) f q ⟨d.next+1,d.nodes++[mk]⟩ (entS (d.nodes++[mk]) i n0 name d.next) cap capx capx:Back _ [6,7] _ [_,_,_,_,_,_,_,_,_,_]),?_⟩;refine e_ (?_);refine B9 (fun t=>t=⟨look [(8, .bp 3 0),(9, .sl 7 [Ej (dir,name,(0,0),(dir.1,d.next))] none),(10, .v (.int .i64 0))],⟨[Ao f,AB dir,Ac n,Ao (f.set q ⟨d.next+1,entS (d.nodes++[mk]) i n0 name d.next⟩)],[]⟩⟩) ?_ ?_
 ·skip
  refine BS ([(0,Ao f),(1,AB dir),(2,Ac n),(4,AB (AK f dir name).1),(5,Cd d),(8,[.bs 6 0 2 f.length cap]),(9,Ac mk)]) 13 (h:=AA 0 (h:=AA 1 (h:=AF 2 (h:=?_))));refine CC 3 rfl (fun _ hS=>Hk (y:= .agg (AB (0,0))) (Dz ⟨rfl,rfl⟩) (by repeat (first|exact A7 _|exact LeA.nil _|exact LeL.refl _|refine LeA.agg ⟨rfl,rfl⟩|refine LeA.tup ⟨rfl,rfl⟩|exact LeL.nil|refine LeL.cons ⟨rfl,rfl⟩ ⟨rfl,rfl⟩|exact LeA.any _)) ⟨rfl,rfl⟩) ?_;refine AD 4 (h:=AA 5 (h:=AD 6 (h:=?_)));refine CC 7 rfl (fun _ hS=>Dq (row:=Ac mk) rfl (kb hS rfl) hmk0 ⟨rfl,rfl⟩) ?_;refine LU 8 (h:=?_);refine c_ 9 rfl (A8 (NQ dir name (0,0) (dir.1,d.next)) ?_);rintro r rfl;refine o_ (h:=?_);refine Ak 10 (h:=BE 11 (h:=BE 12 (h:=z_ (h:=?_))));refine AM ?_;exact⟨_,rfl,Hm 4 2 rfl (congrArg (fun x=>[Ao f,AB dir,Ac n,x]) (Lc (k:=0) (i:=6) (j:=7) (d:=⟨d.next+1,d.nodes++[mk]⟩) (d':=⟨d.next+1,entS (d.nodes++[mk]) i n0 name d.next⟩) hql rfl (KG _ _ _ _ _) hcap (by rw[KG];exact hcapx) (BX rfl) (BX rfl) rfl rfl)) (.cons _ _ _ _ rfl (A7 _) (.cons _ _ _ _ rfl (A7 _) (.cons _ _ _ _ rfl (A7 _) .nil)))⟩
 rintro t rfl;refine B8 (?_);refine A6 ?_;rw[List.length_map]at hc5;rw[FL,if_neg (by omega),if_neg hpn,if_neg (by omega),hatI];simp only;rw[if_neg (by rw[hc7];simp;omega),hdq,Int.toNat_natCast,←hino,←OU hvd hn0,hino,←hmk,show entS d.nodes i n0 name d.next++[mk]=entS (d.nodes++[mk]) i n0 name d.next by unfold entS;rw[List.set_append_left _ _ hil],←hdq];rfl
end
theorem U5(f:AR)(hf:FlsB f):AFn prog 182 [.agg (Ao f)] (fun r=>r= .agg (Ao f)):=by
 intro w St bl vs hr hv;have hbl:bl=[]:=by have:=hr.bxlen;simpa using this
 subst hbl;simp only[AO]at hv;obtain⟨z,zs,rfl,hz,rfl⟩:=hv;have hz':At St w (.agg (Ao f)) z:=by have:=Jz _ _ hz;simpa[Da,F9,Ao]using this
 have hF:=Wy hr.stlt hf hz';refine Calls.mono (Old.Copy_any z f w hF) ?_;rintro e w' ⟨dv,L,rfl,hD,hL,hB⟩;have hsz:=hB.size;obtain⟨d1,d2,d3,d4⟩:=hD;let St':Nat→Nat→Prop:=fun b o=>St b o∨(w.heap.size≤b∧b<w'.heap.size);let G':Gh:=⟨St',[],[]⟩;have hfresh:∀{α:Type} {sz:Nat} {cell:α→Nat→Value} {E:TypeId} {v:Value} {xs:List α},Old.OwnL sz cell E w' w.heap.size v xs→∀b,v.ownBlock=some b→∀o,St' b o:=fun h b hb o=> .inr (h.lt b hb)
 have hents:∀(y:Nod×Value),Old.OwnL 2 Old.entCell 234 w' w.heap.size y.2 y.1.entries→At St' w' (.sl 2 (y.1.entries.map DO) none) y.2:=by
  intro y hy;refine PN hy (hfresh hy) (fun _ _=>rfl) fun e _ j av hj=>?_
  match j,hj with
  |0,hj=>injection hj with hj;subst hj;simp only[At];rfl
  |1,hj=>injection hj with hj;subst hj;simp only[At];rfl
 have hnod:∀(y:Nod×Value),Old.OwnL 2 Old.entCell 234 w' w.heap.size y.2 y.1.entries→∀j av,(Ac y.1)[j]?=some av→At St' w' av (Old.nodCell y j):=by
  intro y hy j av hj
  match j,hj with
  |0,hj=>injection hj with hj;subst hj;simp only[At];rfl
  |1,hj=>injection hj with hj;subst hj;simp only[At];rfl
  |2,hj=>injection hj with hj;subst hj;simp only[At];rfl
  |3,hj=>injection hj with hj;subst hj;simp only[At];rfl
  |4,hj=>injection hj with hj;subst hj;simp only[At];rfl
  |5,hj=>injection hj with hj;subst hj;simp only[At];rfl
  |6,hj=>injection hj with hj;subst hj;simp only[At];rfl
  |7,hj=>injection hj with hj;subst hj;exact hents y hy
  |j+8,hj=>exact absurd hj (by simp[Ac])
 have hdev:At St' w' (.sl 2 (L.map fun x=>Cd (Old.dvcOf x)) none) dv:=by
  refine PN d1 (hfresh d1) (fun _ _=>rfl) fun x hx j av hj=>?_;obtain⟨f1,f2,f3⟩:=(d2 x hx).1
  match j,hj with
  |0,hj=>injection hj with hj;subst hj;simp only[At];rfl
  |1,hj=>
    injection hj with hj;subst hj;have key:=PN f1 (St:=St') (hfresh f1) (enc:=fun y=>Ac y.1) (fun _ _=>rfl) fun z hz j av hj=>hnod z (f2 z hz).1 j av hj;have e:((Old.dvcOf x).nodes.map Ac)=x.2.2.map fun y=>Ac y.1:=by simp[Old.dvcOf]
    rw[e];exact key
  |j+2,hj=>exact absurd hj (by simp[Cd])
 have hst:∀b o,St b o→b<w.heap.size:=hr.stlt;refine⟨.agg (Ao f),[],[],G',⟨rfl,rfl,rfl⟩,⟨?_,?_,?_,?_,rfl,?_,?_,?_,?_,rfl,?_,?_,?_⟩,⟨?_,?_,?_⟩,?_⟩
 ·intro i b hi;simp at hi
 ·exact⟨hB.os,hB.tape,hB.output,hB.size,fun k hk _=>hB.block k hk⟩
 ·rintro b o (h|h)
  ·have:=hst b o h;omega
  exact h.2
 ·rintro b o (h|h)
  ·exact .inl h
  exact .inr h.1
 ·show([]:List Nat).Nodup;simp
 ·intro b hb;simp[G']at hb
 ·intro b hb;simp[G']at hb
 ·intro i b row hi;simp[G']at hi
 ·intro g n u T sz rows hg;simp[G']at hg
 ·intro g n u hg;simp[G']at hg
 ·intro g g' n n' u u' hg;simp[G']at hg
 ·exact fun b o h=>⟨.inl h,hB.cell (p:=⟨b,o,none⟩) (hst b o h)⟩
 ·intro i b hi;simp at hi
 ·intro g n u hg;simp at hg
 refine Kx _ _ ?_;unfold Ao;rw[←hL,Old.flsOf,List.map_map];simp only[At,Bf];have hdev2:At St' w' (.sl 2 (L.map (Cd ∘ Old.dvcOf)) none) dv:=hdev;simp only[At]at hdev2;exact⟨[dv],rfl,dv,[],rfl,hdev2,rfl⟩
def Pk(f:AR)(a top:A9):Bool:=LX f top 17 a
def Jk:List Int:=[2,20,22]
def KH(a b:Int):Int:=if a=2∨b=2 then 2 else if a=20∨b=20 then 20 else if a=22∨b=22 then 22 else 0
theorem Xh{a b:Int}{j:Nat}{x:Int}(hx:Jk[j]?=some x)(ha:∀i y,i<j→Jk[i]?=some y→¬(a=y∨b=y))(h:a=x∨b=x):KH a b=x:=by
 unfold KH
 match j,hx with
 |0,hx=>injection hx with hx;subst hx;rw[if_pos h]
 |1,hx=>
   injection hx with hx;subst hx;rw[if_neg (ha 0 2 (by omega) rfl),if_pos h]
 |2,hx=>
   injection hx with hx;subst hx;rw[if_neg (ha 0 2 (by omega) rfl),if_neg (ha 1 20 (by omega) rfl),if_pos h]
 |j+3,hx=>exact absurd hx (by simp[Jk])
theorem Xi(f:AR)(a:A9)(name:AE):Cc f a name=0∨Cc f a name=2∨Cc f a name=20∨Cc f a name=22:=by
 unfold Cc;split
 ·exact .inr (.inl rfl)
 split
 ·split
  ·exact .inl rfl
  exact .inr (.inr (.inr rfl))
 exact .inr (.inr (.inl rfl))
theorem j7{a b:Int}(ha:∀i y,i<3→Jk[i]?=some y→¬(a=y∨b=y)):KH a b=0:=by
 unfold KH;rw[if_neg (ha 0 2 (by omega) rfl),if_neg (ha 1 20 (by omega) rfl),if_neg (ha 2 22 (by omega) rfl)]
theorem U6{f:AR}{x y:A9}{name name2:AE}(h:KH (Cc f x name) (Cc f y name2)=0):Cc f x name=0∧Cc f y name2=0:=by
 unfold KH at h;split at h
 ·omega
 split at h
 ·omega
 split at h
 ·omega
 rename_i h1 h2 h3;have a:=Xi f x name;have b:=Xi f y name2;omega
def FM(f:AR)(src to:A9)(a o:A9)(e:Int):Int:=
 if e=0 then(if AU f o=true∧AU f a=false then 21 else if AU f o=false∧AU f a=true then 20 else if AU f o=true∧Mc f o=false then 39 else 0)else if M1 f to=true∧src≠to then 28 else 0
def Nc(ns:List Nod)(src:A9)(name:AE)(to:A9)(name2:AE)(a o:A9)(e:Int):List Nod:=
 if e=0 then CH (Bg (Bg ns src.2 name 0) to.2 name2 a.2) o.2 else Bg (Bg ns src.2 name 0) to.2 name2 a.2
def Ld(ns:List Nod)(i:Int)(p:Int)(b:Bool):List Nod:=if b=true then Cz ns i (fun n=>{n with parent:=p})else ns
def Fz(f:AR)(src:A9)(name:AE)(to:A9)(name2:AE):FH:=
 if KH (Cc f src name) (Cc f to name2)≠0 then([],[],KH (Cc f src name) (Cc f to name2))else if(AK f src name).2≠0 then([],[],(AK f src name).2)else if src.1≠to.1 then([],[],18)else
 if AU f (AK f src name).1=true∧Pk f to (AK f src name).1=true then([],[],22)else if(AK f to name2).2=0∧(AK f to name2).1=(AK f src name).1 then(f,[],0)else
 if FM f src to (AK f src name).1 (AK f to name2).1 (AK f to name2).2≠0 then([],[],FM f src to (AK f src name).1 (AK f to name2).1 (AK f to name2).2)else
 (Jj f to.1.toNat fun ns=>Ld (Nc ns src name to name2 (AK f src name).1 (AK f to name2).1 (AK f to name2).2) (AK f src name).1.2 to.2 (AU f (AK f src name).1),[(src,name,(AK f src name).1,(0,0)),(to,name2,(AK f to name2).1,(AK f src name).1)],0)
theorem j8(f:AR):LeA (.tup [.agg (Ao f), .v (.slice none 0 0), .v (.int .i64 0)]) (Ce (f,[],0)):=LeA.tup (.cons (A7 _) (.cons (LeA.nil 7) (.cons (A7 _) .nil)))
theorem j9{n:Nat}{bx:List (List AV)}{k i j:Nat}{f:AR}{q:Nat}{d:Dvc}{cap cap0 cap1:Nat}(hq:q<f.length)(hc:f.length≤cap)(hc1:d.nodes.length≤cap1)(hni:n≤i)(hnj:n≤j)
    (hi:bx[i]?=some (DB f q d j cap cap1)) (hj:bx[j]?=some (NB d.nodes cap1)):FB (Ec n bx (k+2)) (.agg [.bs i 0 2 f.length cap0])= .agg (Ao (f.set q d)):=by
 have key:=Mo (n:=n) (bx:=bx) (k:=k) (i:=i) (j:=j) (f:=f.set q d) (K:=q) (d:=d) (cap:=cap) (cap0:=cap0) (cap1:=cap1) (by simp[hq]) (by simpa using hc) hc1 hni hnj (by rw[hi,Te]) hj;rw[List.length_set]at key;exact key
theorem jA{n:Nat}{bx:List (List AV)}{k j sz cap:Nat}{rows:List (List AV)}(hn:n≤j)(hj:bx[j]?=some (CZ sz cap rows))(hp:∀r∈rows,∀x∈r,∃v,x= .v v):Ec n bx (k+1) j=some (CZ sz cap rows):=by
 have:Nat.blt j n=false:=by rw[←Bool.not_eq_true,Nat.blt_eq];omega
 simp only[Ec,this,hj,Option.map_some,PP];rw[PQ _ rfl]
 congr 2
 conv=>rhs;rw[←List.map_id rows]
 apply List.map_congr_left;intro r hr
 conv=>rhs;rw[id,←List.map_id r]
 apply List.map_congr_left;intro x hx;obtain⟨v,rfl⟩:=hp r hr x hx;rfl
theorem jB(l:List Ly):∀r∈l.map Ej,∀x∈r,∃v,x= .v v:=by
 intro r hr x hx;obtain⟨c,_,rfl⟩:=List.mem_map.1 hr;simp[Ej]at hx;rcases hx with h|h|h|h|h|h|h<;>exact⟨_,h⟩
theorem jC(l:List Ly):∀r∈l.map Ej,r.length=7:=by
 intro r hr;obtain⟨c,_,rfl⟩:=List.mem_map.1 hr;rfl
theorem jD{bx:List (List AV)}(bc:List (List AV))(h:∀r∈bc,∀x∈r,∃v,x= .v v):Back bx [] bc (bx++bc):=by
 refine⟨by simp,fun i row _ h=>?_,fun k i row h=>by simp at h,fun k row hk=>?_⟩
 ·rw[DJ (Af.1 h).1];exact h
 rw[Eb (by omega),show bx.length+k - bx.length=k by omega];simp only[List.length_nil,Nat.zero_add]at hk;rw[hk,PO]
 congr 1
 conv=>lhs;rw[←List.map_id row]
 apply List.map_congr_left;intro x hx;obtain⟨v,rfl⟩:=h row (Ag hk) x hx;rfl
theorem U7{d:Dvc}(hd:FJ d.nodes){i:Nat}{n0:Nod}(hn:d.nodes[i]?=some n0)(name:AE)(ino:Int):entS d.nodes i n0 name ino=Bg d.nodes n0.ino name ino:=by
 unfold entS Bg;rw[←Ph hd hn];rfl
section
theorem jE(d:A9)(name:AE)(o n:A9):ACall prog 233 [.agg (AB d), .v (.string name), .agg (AB o), .agg (AB n)] [] (fun r b t=>t=[]∧r= .bs 3 0 7 1 1∧b=[AB d,AB o,AB n,Ej (d,name,o,n)]):=by
 refine enter Tryz.func233 rfl rfl rfl rfl rfl 4 rfl ?_;refine Dh (h:=b_ (h:=B7 (h:=FF (h:=GL (h:=Bq (h:=?_))))));refine A3 rfl (dJ (k:=3) rfl rfl rfl rfl (by repeat constructor) ?_);refine BJ (h:=?_);refine AZ (r:= .bs 3 0 7 1 1) none (h5:=(A7 _)) (h6:=⟨rfl,rfl,rfl⟩)
end
theorem Xj{n:Nat}{g:Nat→Option (List AV)}{j sz m cap0 cap:Nat}{rows:List (List AV)}(hn:n≤j)(hg:g j=some (CZ sz cap rows))(hr:∀r∈rows,r.length=sz)(hm:m=rows.length)(hc:rows.length≤cap):H9 n g (.bs j 0 sz m cap0)= .sl sz rows none:=by
 have:Nat.blt j n=false:=by rw[←Bool.not_eq_true,Nat.blt_eq];omega
 simp only[H9,this];exact TY hg hr hm hc
theorem jF(a b c:A9)(x:Ly):∀r∈[AB a,AB b,AB c,Ej x],∀y∈r,∃v,y= .v v:=by
 intro r hr y hy;simp only[List.mem_cons,List.not_mem_nil,or_false]at hr;rcases hr with rfl|rfl|rfl|rfl
 ·simp[AB]at hy;rcases hy with h|h<;>exact⟨_,h⟩
 ·simp[AB]at hy;rcases hy with h|h<;>exact⟨_,h⟩
 ·simp[AB]at hy;rcases hy with h|h<;>exact⟨_,h⟩
 simp[Ej]at hy;rcases hy with h|h|h|h|h|h|h<;>exact⟨_,h⟩
theorem Xk{j:Nat}{x:Int}(hx:Jk[j]?=some x):x≠0:=by
 match j,hx with
 |0,hx=>injection hx with hx;omega
 |1,hx=>injection hx with hx;omega
 |2,hx=>injection hx with hx;omega
 |j+3,hx=>exact absurd hx (by simp[Jk])
theorem U8{ns:List Nod}{i k:Nat}{n0 m:Nod}(hi:ns[i]?=some n0)(hk:ns[k]?=some m)(name:AE)(ino:Int):∃m',(entS ns i n0 name ino)[k]?=some m'∧m'.ino=m.ino∧m'.entries.length≤m.entries.length+1:=by
 unfold entS;rw[List.getElem?_set];split
 ·rename_i e;subst e;rw[hi]at hk;injection hk with hk;subst hk;exact⟨{n0 with entries:=D9 n0.entries name ino},by rw[if_pos (Af.1 hi).1],rfl,U0 _ _ _⟩
 exact⟨m,hk,rfl,by omega⟩
theorem Xl{ns:List Nod}{i:Nat}{n0:Nod}(hi:ns[i]?=some n0){name:AE}{ino:Int}{m':Nod}(hm:m'∈entS ns i n0 name ino):∃m∈ns,m'.ino=m.ino∧m'.entries.length≤m.entries.length+1:=by
 rcases List.mem_or_eq_of_mem_set hm with h|h
 ·exact⟨m',h,rfl,by omega⟩
 subst h;exact⟨n0,Ag hi,rfl,U0 _ _ _⟩
theorem Xm{ns:List Nod}(h:FJ ns){i:Nat}{n0:Nod}(hn:ns[i]?=some n0)(name:AE)(ino:Int):FJ (entS ns i n0 name ino):=by
 have:=U7 (d:=⟨0,ns⟩) h hn name ino;simp only at this;rw[this];exact OR h _ _ _
theorem jG(f:AR)(q:Nat)(d d':Dvc)(n:Nod)(i:Nat)(a:A9)(name:AE)(ino:Int)(cap cap1:Nat)(hf:FlsB (f.set q d'))(hq:q<f.length)(ha:a.1=(q:Int))(hi:Hy (f.set q d') a=(i:Int))(hn:d'.nodes[i]?=some n)(hcap:f.length≤cap)(hcap1:d'.nodes.length≤cap1)(hnx:d'.next=d.next)(hl:d'.nodes.length=d.nodes.length):
    ACall prog 232 [.agg [.bs 0 0 2 f.length cap], .agg (AB a), .v (.string name), .v (.int .i64 ino)] [DB f q d 1 cap cap1,NB d'.nodes cap1] (fun r b t=>t=[]∧r= .tup []∧b=[DB f q ⟨d.next,entS d'.nodes i n name ino⟩ 1 cap cap1,NB (entS d'.nodes i n name ino) cap1]):=by
 have key:=Xe f q d' n i a name ino cap cap1 hf hq ha hi hn hcap hcap1;have e1:DB f q d' 1 cap cap1=DB f q d 1 cap cap1:=by unfold DB J1 Kh;rw[hnx,hl]
 have e2:DB f q d 1 cap cap1=DB f q ⟨d.next,entS d'.nodes i n name ino⟩ 1 cap cap1:=by unfold DB J1 Kh;rw[KG,hl]
 rw[e1]at key;exact key.mono fun r b t ⟨h1,h2,h3⟩=>⟨h1,h2,by rw[h3,e2]⟩
theorem jH{f:AR}(hv:FlsV f){q:Nat}{d:Dvc}(hq:f[q]?=some d){i i2:Nat}{n1 n2:Nod}(hn1:d.nodes[i]?=some n1)(hn2:d.nodes[i2]?=some n2)(name name2:AE)(ai:Int)(ha:∃m∈d.nodes,m.ino=ai):
    ∃(X1 X2:List Nod) (m2:Nod),X1=entS d.nodes i n1 name 0∧X1[i2]?=some m2∧m2.ino=n2.ino∧X2=entS X1 i2 m2 name2 ai∧FJ X1∧FJ X2∧X1.length=d.nodes.length∧X2.length=d.nodes.length∧X2=Bg (Bg d.nodes n1.ino name 0) n2.ino name2 ai∧
     FlsB (f.set q ⟨d.next,X1⟩)∧FlsB (f.set q ⟨d.next,X2⟩)∧(∀m∈X2,m.entries.length≤1000)∧(∃m∈X2,m.ino=1)∧∃m∈X2,m.ino=ai:=by
 have hd:=hv.vd d (Ag hq);obtain⟨m2,hm2,hi2,hl2⟩:=U8 hn1 hn2 name 0;have e1:=U7 hd.asc hn1 name 0;have a1:=Xm hd.asc hn1 name 0;have e2:=U7 (d:=⟨0,entS d.nodes i n1 name 0⟩) a1 hm2 name2 ai;simp only at e2;have a2:=Xm a1 hm2 name2 ai
 have hb2:∀m∈entS (entS d.nodes i n1 name 0) i2 m2 name2 ai,m.entries.length≤1000:=fun m hm=>by
  obtain⟨m',h1,_,h2⟩:=Xl hm2 hm;obtain⟨m'',h3,_,h4⟩:=Xl hn1 h1;have:=hd.many m'' h3;omega
 have hmem:∀x:Int,(∃m∈d.nodes,m.ino=x)→∃m∈entS (entS d.nodes i n1 name 0) i2 m2 name2 ai,m.ino=x:=by
  rintro x ⟨m,hm,rfl⟩;obtain⟨k,hk⟩:=List.getElem?_of_mem hm;obtain⟨m',h1,h2,_⟩:=U8 hn1 hk name 0;obtain⟨m'',h3,h4,_⟩:=U8 hm2 h1 name2 ai;exact⟨m'',Ag h3,h4.trans h2⟩
 obtain⟨r,hr,hr1,_⟩:=hd.rootMem;refine⟨_,_,m2,rfl,hm2,hi2,rfl,a1,a2,KG _ _ _ _ _,by rw[KG,KG],by rw[e2,e1,hi2],hv.entS hq hn1 name 0,hv.b.set_ ?_ hb2,hb2,hmem 1 ⟨r,hr,hr1⟩,hmem ai ha⟩;show(entS _ _ _ _ _).length≤1000;rw[KG,KG];have:=hd.len;omega
section
theorem jJ(f:AR)(src:A9)(name:AE)(to:A9)(name2:AE)(hv:FlsV f)(hs:name.size≤100000)(hs2:name2.size≤100000):AFn prog 175 [.agg (Ao f), .agg (AB src), .v (.string name), .agg (AB to), .v (.string name2)] (fun r=>r=Ce (Fz f src name to name2)):=by
 have hf:=hv.b;have P1:=OA f src name hf hs;have P2:=OA f to name2 hf hs2;have L1:=Kg f src name hf;have L2:=Kg f to name2 hf;obtain⟨pa,hpa⟩:∃x,Cc f src name=x:=⟨_,rfl⟩;obtain⟨pb,hpb⟩:∃x,Cc f to name2=x:=⟨_,rfl⟩;obtain⟨⟨A,e1⟩,hl1⟩:∃x,AK f src name=x:=⟨_,rfl⟩;obtain⟨⟨O,e2⟩,hl2⟩:∃x,AK f to name2=x:=⟨_,rfl⟩;rw[hpa]at P1;rw[hpb]at P2;rw[hl1]at L1;rw[hl2]at L2;simp only at L1 L2
 have hRen:Fz f src name to name2=(if KH pa pb≠0 then([],[],KH pa pb)else if e1≠0 then([],[],e1)else if src.1≠to.1 then([],[],18)else
     if AU f A=true∧Pk f to A=true then([],[],22)else if e2=0∧O=A then(f,[],0)else if FM f src to A O e2≠0 then([],[],FM f src to A O e2)else
     (Jj f to.1.toNat fun ns=>Ld (Nc ns src name to name2 A O e2) A.2 to.2 (AU f A),[(src,name,A,(0,0)),(to,name2,O,A)],0)):=by
  unfold Fz;rw[hpa,hpb,hl1,hl2]
 have hol:Jk.length=3:=rfl;refine enter Tryz.func175 rfl rfl rfl rfl rfl 0 rfl ?_;refine w_ (b_ (h:=b_ (h:=b_ (h:=Dt (h:=a_ (h:=a_ (h:=e_ (q_ (Db 10 (h:=AA 0 (h:=AA 1 (h:=AF 2 (h:=AA 4 (h:=AA 5 (h:=AF 6 (h:=?_))))))))))))))));refine c_ 3 rfl (A8 (P1) ?_);rintro r rfl;refine o_ (h:=?_);refine c_ 7 rfl (A8 (P2) ?_);rintro r rfl;refine o_ (h:=BE 8 (h:=BE 9 (h:=z_ (h:=t_ (w_ (BY (h:=a_ (h:=e_ (q_ (w_ (a_ (h:=e_ (BH (?_))))))))))))));refine BR (fun m t=>∃j:Nat,j≤Jk.length∧m=Jk.length - j∧(∀i y,i<j→Jk[i]?=some y→¬(pa=y∨pb=y))∧t=⟨look [(2, .v (.string name)),(4, .v (.string name2)),(5, .bp 0 0),(6, .bp 1 0),(8, .bp 2 0),(10, .bp 3 0),(13, .v (.int .i64 pa)),(14, .v (.int .i64 pb)),(15, .sl 1 (Jk.map CQ) none),(16, .v (.int .i64 (j:Int)))],⟨[Ao f,AB src,AB to,[.v (.slice none 0 0)]],[]⟩⟩) (Jk.length) ((wk 4 0)) (⟨0,BK _,rfl,fun i y hi=>by omega,rfl⟩) ?_;rintro m t ⟨j,hj,rfl,ha,rfl⟩;refine Du (h:=Ht (h:=?_));refine A4 rfl (fun hb1 hc1=>?_) (fun hb1 hc1=>?_)
 ·obtain⟨hlt,x,hx,hrow, -⟩:=Bz CQ (l:=Jk) hc1;refine C2 (h:=E9 (h:=JJ (h:=l_ (h:=E1 (h:=?_)))));refine AJ false rfl rfl (fun hb2 hc2=>?_) (fun hb2 hc2=>?_)
  ·refine BT (h:=BD (h:=K9 (h:=q_ (?_))));refine QB (fun _=>True) 8 (by kernel_rfl) ?_;refine H5 (i:=0) rfl rfl (by kernel_rfl) (by first|rfl|exact BO rfl rfl (EQ ‹_›)|exact BO rfl rfl (ER ‹_›)|exact BO rfl rfl (by simp[*])) (fun h0 hS=>Dz ⟨rfl,rfl⟩) trivial ?_;refine H5 (i:=1) rfl rfl (by kernel_rfl) (by first|rfl|exact BO rfl rfl (EQ ‹_›)|exact BO rfl rfl (ER ‹_›)|exact BO rfl rfl (by simp[*])) (fun h0 hS=>LO rfl ⟨rfl,rfl⟩) trivial ?_;refine H5 (i:=2) rfl rfl (by kernel_rfl) (by first|rfl|exact BO rfl rfl (EQ ‹_›)|exact BO rfl rfl (ER ‹_›)|exact BO rfl rfl (by simp[*])) (fun h0 hS=>LO rfl ⟨rfl,rfl⟩) trivial ?_;refine H5 (i:=3) rfl rfl (by kernel_rfl) (by first|rfl|exact BO rfl rfl (EQ ‹_›)|exact BO rfl rfl (ER ‹_›)|exact BO rfl rfl (by simp[*])) (fun h0 hS=>DA rfl rfl rfl (by first|assumption|rfl) ⟨rfl,rfl⟩) trivial ?_;refine H5 (i:=4) rfl rfl (by kernel_rfl) (by first|rfl|exact BO rfl rfl (EQ ‹_›)|exact BO rfl rfl (ER ‹_›)|exact BO rfl rfl (by simp[*])) (fun h0 hS=>Nv rfl rfl ⟨rfl,rfl⟩) trivial ?_;refine Hn 5 rfl (Eo rfl rfl rfl rfl rfl rfl (by repeat constructor) (by repeat constructor) ?_);refine⟨.inr trivial,?_⟩;refine H5 (i:=6) rfl rfl (by kernel_rfl) (by first|rfl|exact BO rfl rfl (EQ ‹_›)|exact BO rfl rfl (ER ‹_›)|exact BO rfl rfl (by simp[*])) (fun h0 hS=>JC rfl ⟨rfl,rfl⟩) trivial ?_;refine H5 (i:=7) rfl rfl (by kernel_rfl) (by first|rfl|exact BO rfl rfl (EQ ‹_›)|exact BO rfl rfl (ER ‹_›)|exact BO rfl rfl (by simp[*])) (fun h0 hS=>JC rfl ⟨rfl,rfl⟩) trivial ?_;refine z_ (h:=t_ (B8 (Cv (h:=EB (h:=?_)))));refine AZ (r:=Ce (Fz f src name to name2)) none (h5:=?_) (h6:=⟨rfl,rfl,rfl⟩);rw[hRen,show KH pa pb=x from Xh hx ha (.inl hc2),if_pos (Xk hx)];exact EO _
  refine Jd (h:=JJ (h:=l_ (h:=EH (h:=CV (h:=?_)))));refine A4 rfl (fun hb3 hc3=>?_) (fun hb3 hc3=>?_)
  ·refine q_ (?_);refine QB (fun _=>True) 8 (by kernel_rfl) ?_;refine H5 (i:=0) rfl rfl (by kernel_rfl) (by first|rfl|exact BO rfl rfl (EQ ‹_›)|exact BO rfl rfl (ER ‹_›)|exact BO rfl rfl (by simp[*])) (fun h0 hS=>Dz ⟨rfl,rfl⟩) trivial ?_;refine H5 (i:=1) rfl rfl (by kernel_rfl) (by first|rfl|exact BO rfl rfl (EQ ‹_›)|exact BO rfl rfl (ER ‹_›)|exact BO rfl rfl (by simp[*])) (fun h0 hS=>LO rfl ⟨rfl,rfl⟩) trivial ?_;refine H5 (i:=2) rfl rfl (by kernel_rfl) (by first|rfl|exact BO rfl rfl (EQ ‹_›)|exact BO rfl rfl (ER ‹_›)|exact BO rfl rfl (by simp[*])) (fun h0 hS=>LO rfl ⟨rfl,rfl⟩) trivial ?_;refine H5 (i:=3) rfl rfl (by kernel_rfl) (by first|rfl|exact BO rfl rfl (EQ ‹_›)|exact BO rfl rfl (ER ‹_›)|exact BO rfl rfl (by simp[*])) (fun h0 hS=>DA rfl rfl rfl (by first|assumption|rfl) ⟨rfl,rfl⟩) trivial ?_;refine H5 (i:=4) rfl rfl (by kernel_rfl) (by first|rfl|exact BO rfl rfl (EQ ‹_›)|exact BO rfl rfl (ER ‹_›)|exact BO rfl rfl (by simp[*])) (fun h0 hS=>Nv rfl rfl ⟨rfl,rfl⟩) trivial ?_;refine Hn 5 rfl (Eo rfl rfl rfl rfl rfl rfl (by repeat constructor) (by repeat constructor) ?_);refine⟨.inr trivial,?_⟩;refine H5 (i:=6) rfl rfl (by kernel_rfl) (by first|rfl|exact BO rfl rfl (EQ ‹_›)|exact BO rfl rfl (ER ‹_›)|exact BO rfl rfl (by simp[*])) (fun h0 hS=>JC rfl ⟨rfl,rfl⟩) trivial ?_;refine H5 (i:=7) rfl rfl (by kernel_rfl) (by first|rfl|exact BO rfl rfl (EQ ‹_›)|exact BO rfl rfl (ER ‹_›)|exact BO rfl rfl (by simp[*])) (fun h0 hS=>JC rfl ⟨rfl,rfl⟩) trivial ?_;refine z_ (h:=t_ (B8 (Cv (h:=EB (h:=?_)))));refine AZ (r:=Ce (Fz f src name to name2)) none (h5:=?_) (h6:=⟨rfl,rfl,rfl⟩);rw[hRen,show KH pa pb=x from Xh hx ha (.inr hc3),if_pos (Xk hx)];exact EO _
  refine DL (h:=?_);refine⟨_,_,?_,⟨j+1,hlt,rfl,GP hx ha (not_or.2 ⟨hc2,hc3⟩),rfl⟩,(wk 4 0)⟩;omega
 have e3:=CD CQ (l:=Jk) hj hc1;subst e3;have hord:KH pa pb=0:=j7 ha;obtain⟨hpl1,hpl2⟩:=U6 (f:=f) (x:=src) (y:=to) (name:=name) (name2:=name2) (by rw[hpa,hpb];exact hord);refine CK (h:=Hc (h:=?_));refine A3 rfl (A8 (L1) ?_);rintro r rfl;refine JK (h:=Bn (h:=?_));refine A4 rfl (fun hb4 hc4=>?_) (fun hb4 hc4=>?_)
 ·refine w_ (Gr (h:=EU (h:=?_)));refine AZ (r:=Ce (Fz f src name to name2)) none (h5:=?_) (h6:=⟨rfl,rfl,rfl⟩);rw[hRen,if_neg (by rw[hord];simp),if_pos hc4];exact EO _
 have he1:e1=0:=by omega
 refine D8 (h:=D5 (h:=e_ (?_)));refine A4 rfl (fun hb5 hc5=>?_) (fun hb5 hc5=>?_)
 ·refine FG (h:=?_);refine AZ (r:=Ce (Fz f src name to name2)) none (h5:=?_) (h6:=⟨rfl,rfl,rfl⟩);rw[hRen,if_neg (by rw[hord];simp),if_neg (by simp[he1]),if_pos hc5];exact EO _
 refine AG (CG (h:=?_));refine A3 rfl (A8 (Ke f A hf) ?_);rintro r rfl;refine B7 (h:=?_);refine B9 (fun t=>(AU f A=true→Pk f to A=false)∧t=⟨look [(2, .v (.string name)),(4, .v (.string name2)),(5, .bp 0 0),(6, .bp 1 0),(8, .bp 2 0),(10, .bp 3 0),(17, .bp 4 0),(19, .v (.bool (AU f A)))],⟨[Ao f,AB src,AB to,[.v (.slice none 0 0)],AB A],[]⟩⟩) ?_ ?_
 ·skip
  refine E9 (h:=?_);refine AJ true rfl rfl (fun hb6 hc6=>?_) (fun hb6 hc6=>?_)
  ·refine GL (h:=l_ (h:=?_));refine As (A8 (fK f to A hf) ?_);rintro r rfl;refine Bj (h:=e_ (?_));refine A4 rfl (fun hb7 hc7=>?_) (fun hb7 hc7=>?_)
   ·refine FG (h:=?_);refine AZ (r:=Ce (Fz f src name to name2)) none (h5:=?_) (h6:=⟨rfl,rfl,rfl⟩);rw[hRen,if_neg (by rw[hord];simp),if_neg (by simp[he1]),if_neg (by simp[hc5]),if_pos ⟨hc6,hc7⟩];exact EO _
   have hbl:AU f A=true→Pk f to A=false:=fun _=>hc7;refine BF (AM (?_));exact⟨_,⟨hbl,rfl⟩,(wk 5 0)⟩
  have hbl:AU f A=true→Pk f to A=false:=fun h=>absurd (h.symm.trans hc6) (by decide);refine BT (h:=Fj (h:=BF (AM (?_))));exact⟨_,⟨hbl,rfl⟩,(wk 5 0)⟩
 rintro t ⟨hbl,rfl⟩;refine Hc (h:=?_);refine A3 rfl (A8 (L2) ?_);rintro r rfl;refine Ee (h:=B7 (h:=?_));refine B9 (fun t=>(e2=0→O≠A)∧t=⟨look [(2, .v (.string name)),(4, .v (.string name2)),(5, .bp 0 0),(6, .bp 1 0),(8, .bp 2 0),(10, .bp 3 0),(17, .bp 4 0),(18, .v (.int .i64 e2)),(19, .v (.bool (AU f A))),(20, .bp 5 0)],⟨[Ao f,AB src,AB to,[.v (.slice none 0 0)],AB A,AB O],[]⟩⟩) ?_ ?_
 ·skip
  refine Aa (h:=E1 (h:=?_));refine AJ true rfl rfl (fun hb8 hc8=>?_) (fun hb8 hc8=>?_)
  ·refine GL (h:=?_);refine As (JE rfl rfl (by repeat constructor) (by repeat constructor) (fun w=>PG _ _ _ _ w) (by kernel_rfl) ?_);refine Bj (h:=e_ (?_));refine A4 rfl (fun hb9 hc9=>?_) (fun hb9 hc9=>?_)
   ·refine CF (h:=?_);refine A3 rfl (A8 (U5 f hf) ?_);rintro r rfl;refine s_ (h:=EU (h:=?_));refine AZ (r:=Ce (Fz f src name to name2)) none (h5:=?_) (h6:=⟨rfl,rfl,rfl⟩);rw[hRen,if_neg (by rw[hord];simp),if_neg (by simp[he1]),if_neg (by simp[hc5]),if_neg (fun h=>absurd h.2 (by rw[hbl h.1];decide)),if_pos ⟨hc8,hc9⟩];exact j8 _
   have hoa:e2=0→O≠A:=fun _=>hc9;refine BF (AM (?_));exact⟨_,⟨hoa,rfl⟩,(wk 6 0)⟩
  have hoa:e2=0→O≠A:=fun h=>absurd h hc8;refine DC (h:=e_ (JH (h:=BF (AM (?_)))));exact⟨_,⟨hoa,rfl⟩,(wk 6 0)⟩
 rintro t ⟨hoa,rfl⟩;refine B9 (fun t=>FM f src to A O e2=0∧t=⟨look [(2, .v (.string name)),(4, .v (.string name2)),(5, .bp 0 0),(6, .bp 1 0),(8, .bp 2 0),(10, .bp 3 0),(17, .bp 4 0),(18, .v (.int .i64 e2)),(19, .v (.bool (AU f A))),(20, .bp 5 0)],⟨[Ao f,AB src,AB to,[.v (.slice none 0 0)],AB A,AB O],[]⟩⟩) ?_ ?_
 ·skip
  refine Aa (h:=BN (h:=?_));refine A4 rfl (fun hb10 hc10=>?_) (fun hb10 hc10=>?_)
  ·refine CG (h:=?_);refine A3 rfl (A8 (Ke f O hf) ?_);rintro r rfl;refine Bw (h:=m_ (h:=?_));refine AJ true rfl rfl (fun hb11 hc11=>?_) (fun hb11 hc11=>?_)
   ·refine m_ (h:=Cr (h:=Bj (h:=e_ (?_))));refine A4 rfl (fun hb12 hc12=>?_) (fun hb12 hc12=>?_)
    ·refine FG (h:=Bu (?_));refine AZ (r:=Ce (Fz f src name to name2)) none (h5:=?_) (h6:=⟨rfl,rfl,rfl⟩);have h2:FM f src to A O e2=21:=by unfold FM;simp[hc10,hc11,hc12]
     rw[hRen,if_neg (by rw[hord];simp),if_neg (by simp[he1]),if_neg (by simp[hc5]),if_neg (fun h=>absurd h.2 (by rw[hbl h.1];decide)),if_neg (fun h=>hoa h.1 h.2),h2,if_pos (by decide)];exact EO _
    refine Dl (h:=EV (h:=Dg (h:=Fj (h:=AG (E9 (h:=GL (h:=?_)))))));refine As (A8 (WT f O hf) ?_);rintro r rfl;refine Cr (h:=Bj (h:=e_ (?_)));refine A4 rfl (fun hb13 hc13=>?_) (fun hb13 hc13=>?_)
    ·refine FG (h:=?_);refine AZ (r:=Ce (Fz f src name to name2)) none (h5:=?_) (h6:=⟨rfl,rfl,rfl⟩);have h2:FM f src to A O e2=39:=by unfold FM;simp[hc10,hc11,hc12,hc13]
     rw[hRen,if_neg (by rw[hord];simp),if_neg (by simp[he1]),if_neg (by simp[hc5]),if_neg (fun h=>absurd h.2 (by rw[hbl h.1];decide)),if_neg (fun h=>hoa h.1 h.2),h2,if_pos (by decide)];exact EO _
    have h2:FM f src to A O e2=0:=by unfold FM;simp[hc10,hc11,hc12,hc13]
    refine BF (AM (?_));exact⟨_,⟨h2,rfl⟩,(wk 6 0)⟩
   refine BD (h:=Fj (h:=Dl (h:=EV (h:=m_ (h:=Bj (h:=e_ (?_)))))));refine A4 rfl (fun hb14 hc14=>?_) (fun hb14 hc14=>?_)
   ·refine FG (h:=Bu (?_));refine AZ (r:=Ce (Fz f src name to name2)) none (h5:=?_) (h6:=⟨rfl,rfl,rfl⟩);have h2:FM f src to A O e2=20:=by unfold FM;simp[hc10,hc11,hc14]
    rw[hRen,if_neg (by rw[hord];simp),if_neg (by simp[he1]),if_neg (by simp[hc5]),if_neg (fun h=>absurd h.2 (by rw[hbl h.1];decide)),if_neg (fun h=>hoa h.1 h.2),h2,if_pos (by decide)];exact EO _
   have h2:FM f src to A O e2=0:=by unfold FM;simp[hc10,hc11,hc14]
   refine AG (E9 (h:=BT (h:=Fj (h:=BF (AM (?_))))));exact⟨_,⟨h2,rfl⟩,(wk 6 0)⟩
  refine CG (h:=?_);refine A3 rfl (A8 (T8 f to hf) ?_);rintro r rfl;refine m_ (h:=?_);refine AJ true rfl rfl (fun hb15 hc15=>?_) (fun hb15 hc15=>?_)
  ·refine GL (h:=?_);refine As (JE rfl rfl (by repeat constructor) (by repeat constructor) (fun w=>TB _ _ _ _ w) (by kernel_rfl) ?_);refine Bj (h:=e_ (?_));refine A4 rfl (fun hb16 hc16=>?_) (fun hb16 hc16=>?_)
   ·refine FG (h:=?_);refine AZ (r:=Ce (Fz f src name to name2)) none (h5:=?_) (h6:=⟨rfl,rfl,rfl⟩);have h2:FM f src to A O e2=28:=by unfold FM;rw[if_neg hc10,if_pos ⟨hc15,hc16⟩]
    rw[hRen,if_neg (by rw[hord];simp),if_neg (by simp[he1]),if_neg (by simp[hc5]),if_neg (fun h=>absurd h.2 (by rw[hbl h.1];decide)),if_neg (fun h=>hoa h.1 h.2),h2,if_pos (by decide)];exact EO _
   have h2:FM f src to A O e2=0:=by unfold FM;rw[if_neg hc10,if_neg (fun h=>h.2 hc16)]
   refine BF (AM (?_));exact⟨_,⟨h2,rfl⟩,(wk 6 0)⟩
  have h2:FM f src to A O e2=0:=by unfold FM;rw[if_neg hc10,if_neg (fun h=>absurd (h.1.symm.trans hc15) (by decide))]
  refine DC (h:=e_ (JH (h:=BF (AM (?_)))));exact⟨_,⟨h2,rfl⟩,(wk 6 0)⟩
 rintro t ⟨h2,rfl⟩;obtain⟨q,i,d,n1,hsq,hq,hn1,hn1i,hidx,hnode,hk1,hnm1⟩:=Ki hpl1;obtain⟨q',i2,d',n2,htq,hq',hn2,hn2i, -,hnode2,hk2,hnm2⟩:=Ki hpl2;obtain rfl:q=q':=by omega
 obtain rfl:d=d':=Option.some.inj (hq.symm.trans hq');have hvd:=hv.vd d (Ag hq);have hql:=(Af.1 hq).1;have hil:=(Af.1 hn1).1;obtain⟨e,he,hle⟩:=Pi hnode hk1 (by rw[hl1];exact he1);have hA1:A=(src.1,e.2):=by rw[hl1]at hle;exact congrArg Prod.fst hle
 have hAm:∃m∈d.nodes,m.ino=A.2:=by rw[hA1];exact(hvd.ent n1 (Ag hn1) e (L9 he).1).2.2
 obtain⟨X1,X2,m2,hX1,hm2,hm2i,hX2,hasc1,hasc2,hx1l,hx2l,hX2D,hf1,hf2,hb2,⟨r,hr,hr1⟩,⟨am,ham,hami⟩⟩:=jH hv hq hn1 hn2 name name2 A.2 hAm;have hidx2:Hy (f.set q ⟨d.next,X1⟩) to=(i2:Int):=U3 htq (d:=⟨d.next,X1⟩) (by simp[hql]) hasc1 hm2 (hm2i.trans hn2i)
 have hoo:e2=0→O.1=(q:Int)∧0<(DN O.2 X2).length:=by
  intro h;obtain⟨e',he',hle'⟩:=Pi hnode2 hk2 (by rw[hl2];exact h);have hO1:O=(to.1,e'.2):=by rw[hl2]at hle';exact congrArg Prod.fst hle'
  refine⟨by rw[hO1];exact htq,U1 hr ?_⟩;rw[hr1,hO1];exact(hvd.ent n2 (Ag hn2) e' (L9 he').1).2.1.symm
 have hO1:e2=0→O.1=A.1:=fun h=>by rw[(hoo h).1,hA1];exact hsq.symm
 obtain⟨NS,hNS⟩:∃NS,NS=(if e2=0 then CH X2 O.2 else X2):=⟨_,rfl⟩
 have hNSf:NS=X2∨(e2=0∧NS=CH X2 O.2):=by
  by_cases h:e2=0
  ·exact .inr ⟨h,by rw[hNS,if_pos h]⟩
  exact .inl (by rw[hNS,if_neg h])
 have hsub:NS.Sublist X2:=by
  rcases hNSf with h|⟨_,h⟩
  ·rw[h];exact List.Sublist.refl _
  rw[h];exact List.filter_sublist
 have hasc3:FJ NS:=hasc2.sublist hsub
 have hAN:am∈NS:=by
  rcases hNSf with h|⟨h0,h⟩
  ·rw[h];exact ham
  rw[h];refine List.mem_filter.2 ⟨ham,decide_eq_true (.inl fun e=>hoa h0 ?_)⟩;exact Prod.ext (hO1 h0) (by rw[←e,hami])
 obtain⟨i3,hm3⟩:=List.getElem?_of_mem hAN;have hil3:=(Af.1 hm3).1;have hf3:FlsB (f.set q ⟨d.next,NS⟩):=hf.set_ (by have:=hsub.length_le;have:=hvd.len;show NS.length≤1000;omega) fun m hm=>hb2 m (hsub.subset hm);have hidx3:Hy (f.set q ⟨d.next,NS⟩) A=(i3:Int):=U3 (by rw[hA1];exact hsq) (d:=⟨d.next,NS⟩) (by simp[hql]) hasc3 hm3 hami;obtain⟨m3,rfl⟩:∃m3,m3=am:=⟨_,rfl⟩;have hm3i:=hami;obtain⟨NS2,hNS2⟩:∃NS2,NS2=Ld NS A.2 to.2 (AU f A):=⟨_,rfl⟩;refine CF (h:=?_);refine A3 rfl (Bm [] rfl (.cons _ _ _ _ _ rfl (A7 _) .nil) (by decide) .nil (OM f q d hf hq (by omega)) ?_);rintro r bc tc ⟨rfl,cap,cap1,hcap,hcap1,rfl,rfl⟩;refine⟨rfl,_,(OS (n:=6) rfl f q d d.nodes cap cap1:Back _ [] _ [_,_,_,_,_,_,_,_]),?_⟩;have hcx1:X1.length≤cap1:=by omega
 have hcx2:X2.length≤cap1:=by omega
 refine Dk (h:=Hc (h:=?_));refine A3 rfl (Bm [6,7] rfl (.cons _ _ _ _ _ rfl (A7 _) (.cons _ _ _ _ _ rfl (A7 _) (.cons _ _ _ _ _ rfl (A7 _) (.cons _ _ _ _ _ rfl (A7 _) .nil)))) (by decide) (.cons _ _ _ _ _ rfl (KC (by rfl) _ _ _ _ _) (.cons _ _ _ _ _ rfl (Ji _ _ _) .nil)) (PV f q d n1 i src name 0 cap cap1 hf hq hsq hidx hn1 hcap hcap1) ?_);rintro r bc tc ⟨rfl,rfl,rfl⟩;rw[show d.nodes.set i {n1 with entries:=D9 n1.entries name 0}=X1 from hX1.symm];refine⟨rfl,_,(OT (BX rfl) (BX rfl) (by decide) f q d X1 cap cap1 cap1:Back _ [6,7] _ [_,_,_,_,_,_,_,_,_]),?_⟩;refine e_ (Hc (h:=Ab (h:=?_)));refine A3 rfl (Bm [6,7] rfl (.cons _ _ _ _ _ rfl (A7 _) (.cons _ _ _ _ _ rfl (A7 _) (.cons _ _ _ _ _ rfl (A7 _) (.cons _ _ _ _ _ rfl (A7 _) .nil)))) (by decide) (.cons _ _ _ _ _ rfl (KC (by rfl) _ _ _ _ _) (.cons _ _ _ _ _ rfl (Ji _ _ _) .nil)) (jG f q d ⟨d.next,X1⟩ m2 i2 to name2 A.2 cap cap1 hf1 hql htq hidx2 hm2 hcap hcx1 rfl hx1l) ?_);rintro r bc tc ⟨rfl,rfl,rfl⟩;refine⟨rfl,?_⟩;dsimp only;rw[←hX2];refine⟨_,(OT (BX rfl) (BX rfl) (by decide) f q ⟨d.next,X2⟩ X2 cap cap1 cap1:Back _ [6,7] _ [_,_,_,_,_,_,_,_,_]),?_⟩;refine e_ (?_);refine B9 (fun t=>∃capx,NS.length≤capx∧t=⟨look [(2, .v (.string name)),(4, .v (.string name2)),(6, .bp 1 0),(8, .bp 2 0),(10, .bp 3 0),(17, .bp 4 0),(19, .v (.bool (AU f A))),(20, .bp 5 0),(22, .bp 8 0)],⟨[Ao f,AB src,AB to,[.v (.slice none 0 0)],AB A,AB O,DB f q ⟨d.next,NS⟩ 7 cap capx,NB NS capx,[.bs 6 0 2 f.length cap]],[]⟩⟩) ?_ ?_
 ·skip
  refine Aa (h:=BN (h:=?_));refine A4 rfl (fun hb17 hc17=>?_) (fun hb17 hc17=>?_)
  ·have he2:e2=0:=hc17;obtain⟨hoq,hkp⟩:=hoo he2;refine Av (GL (h:=?_));refine A3 rfl (Bm [6,7] rfl (.cons _ _ _ _ _ rfl (A7 _) (.cons _ _ _ _ _ rfl (A7 _) .nil)) (by decide) (.cons _ _ _ _ _ rfl (KC (by rfl) _ _ _ _ _) (.cons _ _ _ _ _ rfl (Ji _ _ _) .nil)) (U2 f q ⟨d.next,X2⟩ ⟨d.next,X2⟩ O cap cap1 hf2 hql hoq hcap hcx2 hkp rfl rfl) ?_);rintro r bc tc ⟨rfl,rfl,⟨hns,rfl⟩|⟨hns,cap2,hcap2,rfl⟩⟩
   ·refine⟨rfl,_,(Tz (n:=9) rfl (by decide) (by decide) (by decide) f q ⟨d.next,X2⟩ X2 O f.length cap cap cap1 cap1:Back _ [6,7] _ [_,_,_,_,_,_,_,_,_,_,_]),?_⟩;obtain rfl:NS=X2:=by rw[hNS,if_pos (by assumption)];exact hns
    refine D6 (h:=?_)
    first|exact⟨_,⟨_,hcap2,rfl⟩,GG [0,1,2,3,4,5,6,11,8] (fun i hi=>absurd hi (Nat.not_lt_zero i)) (by decide) (.cons _ _ _ _ _ rfl rfl (.cons _ _ _ _ _ rfl rfl (.cons _ _ _ _ _ rfl rfl (.cons _ _ _ _ _ rfl rfl (.cons _ _ _ _ _ rfl rfl (.cons _ _ _ _ _ rfl rfl (.cons _ _ _ _ _ rfl (NZ (by rfl) _ _ _ _ _) (.cons _ _ _ _ _ rfl (M4 _ _ _) (.cons _ _ _ _ _ rfl rfl .nil))))))))) (by repeat (first|exact SubK.nil|refine SubK.cons _ _ _ _ rfl (A7 _) ?_))⟩|exact⟨_,⟨_,hcx2,rfl⟩,Bk 9 0 (by simp[AY,AX,AW,Cl,Cm,AB,Ao])⟩
   refine⟨rfl,_,(Ty (n:=9) rfl (by decide) (by decide) (by decide) f q ⟨d.next,DN O.2 X2⟩ X2 (DN O.2 X2) O f.length cap cap cap1 cap2:Back _ [6,7] _ [_,_,_,_,_,_,_,_,_,_,_,_]),?_⟩;have hNSk:NS=DN O.2 X2:=by rw[hNS,if_pos (by assumption)];exact hns
   rw[←hNSk]at hcap2;rw[←hNSk];refine D6 (h:=?_);exact⟨_,⟨_,hcap2,rfl⟩,GG [0,1,2,3,4,5,6,11,8] (fun i hi=>absurd hi (Nat.not_lt_zero i)) (by decide) (.cons _ _ _ _ _ rfl rfl (.cons _ _ _ _ _ rfl rfl (.cons _ _ _ _ _ rfl rfl (.cons _ _ _ _ _ rfl rfl (.cons _ _ _ _ _ rfl rfl (.cons _ _ _ _ _ rfl rfl (.cons _ _ _ _ _ rfl (NZ (by rfl) _ _ _ _ _) (.cons _ _ _ _ _ rfl (M4 _ _ _) (.cons _ _ _ _ _ rfl rfl .nil))))))))) (by repeat (first|exact SubK.nil|refine SubK.cons _ _ _ _ rfl (A7 _) ?_))⟩
  have he2:¬e2=0:=hc17;obtain rfl:NS=X2:=by rw[hNS,if_neg he2]
  refine BF (AM (?_))
  first|exact⟨_,⟨_,hcap2,rfl⟩,GG [0,1,2,3,4,5,6,11,8] (fun i hi=>absurd hi (Nat.not_lt_zero i)) (by decide) (.cons _ _ _ _ _ rfl rfl (.cons _ _ _ _ _ rfl rfl (.cons _ _ _ _ _ rfl rfl (.cons _ _ _ _ _ rfl rfl (.cons _ _ _ _ _ rfl rfl (.cons _ _ _ _ _ rfl rfl (.cons _ _ _ _ _ rfl (NZ (by rfl) _ _ _ _ _) (.cons _ _ _ _ _ rfl (M4 _ _ _) (.cons _ _ _ _ _ rfl rfl .nil))))))))) (by repeat (first|exact SubK.nil|refine SubK.cons _ _ _ _ rfl (A7 _) ?_))⟩|exact⟨_,⟨_,hcx2,rfl⟩,Bk 9 0 (by simp[AY,AX,AW,Cl,Cm,AB,Ao])⟩
 rintro t ⟨capx,hcapx,rfl⟩;refine B9 (fun t=>t=⟨look [(2, .v (.string name)),(4, .v (.string name2)),(6, .bp 1 0),(8, .bp 2 0),(10, .bp 3 0),(17, .bp 4 0),(20, .bp 5 0),(22, .bp 8 0)],⟨[Ao f,AB src,AB to,[.v (.slice none 0 0)],AB A,AB O,DB f q ⟨d.next,NS⟩ 7 cap capx,NB NS2 capx,[.bs 6 0 2 f.length cap]],[]⟩⟩) ?_ ?_
 ·skip
  refine Aa (h:=e_ (?_));refine A4 rfl (fun hb18 hc18=>?_) (fun hb18 hc18=>?_)
  ·have e4:NS.set i3 {m3 with parent:=to.2}=NS2:=by rw[hNS2,Ld,if_pos hc18,Ph hasc3 hm3 (fun n=>{n with parent:=to.2}),hm3i]
   have hset3:SetAt (NB NS capx) (0+i3 * 8+5) [.v (.int .i64 to.2)] (NB NS2 capx):=by
    rw[←e4];exact Tc hm3 (by repeat constructor) (by simp)
   refine BS ([(0,Ao f),(1,AB src),(2,AB to),(3,[.v (.slice none 0 0)]),(4,AB A),(5,AB O),(6,DB f q ⟨d.next,NS⟩ 7 cap capx),(8,[.bs 6 0 2 f.length cap])]) 15 (h:=AD 0 (h:=?_));refine AA 1 (h:=?_);refine AD 2 (h:=?_);refine AA 3 (h:=?_);refine CC 4 rfl (fun _ hS=>Dy (m:=q) rfl rfl htq hql ⟨rfl,rfl⟩) ?_;refine AD 5 (h:=?_)
   first|refine AA 6 (h:=?_)|refine CC 6 rfl (fun _ hS=>Dq (row:=DB f q ⟨d.next,NS⟩ 7 cap capx) rfl (kb hS rfl) (PT hql) ⟨rfl,rfl⟩) ?_
   refine AA 7 (h:=?_);refine AA 8 (h:=?_);refine AD 10 (h:=?_);refine AA 11 (h:=?_);refine c_ 9 rfl (Ds 2 rfl (.cons _ _ _ _ _ rfl (LeA.of_eq (j9 (d:=⟨d.next,NS⟩) hql hcap hcapx (BK _) (BK _) rfl rfl)) (.cons _ _ _ _ _ rfl (A7 _) .nil)) (Me (f.set q ⟨d.next,NS⟩) A hf3) ?_);rintro r rfl;refine⟨rfl,?_⟩;refine o_ (h:=?_);refine CC 12 rfl (fun _ hS=>Dy (m:=i3) rfl rfl hidx3 hil3 ⟨rfl,rfl⟩) ?_;refine AD 13 (h:=?_);refine Hn 14 rfl (Eo rfl rfl rfl rfl rfl rfl hset3 (by repeat constructor) ?_);refine Hb (h:=?_);refine AM ?_;exact⟨_,rfl,Bk 9 0 (by simp[AY,AX,AW,Cl,Cm,AB,Ao])⟩
  obtain rfl:NS2=NS:=by rw[hNS2,Ld,if_neg (by rw[hc18];decide)]
  refine BF (AM (?_));exact⟨_,rfl,Bk 9 0 (by simp[AY,AX,AW,Cl,Cm,AB,Ao])⟩
 rintro t rfl;have hl3:NS2.length=NS.length:=by rw[hNS2];unfold Ld;split<;>simp[Cz]
 have hcapx2:NS2.length≤capx:=by omega
 refine B9 (fun t=>t=⟨look [(10, .bp 3 0),(11, .sl 7 ([(src,name,A,(0,0)),(to,name2,O,A)].map Ej) none),(12, .v (.int .i64 0))],⟨[Ao f,AB src,AB to,Ao (f.set q ⟨d.next,NS2⟩)],[]⟩⟩) ?_ ?_
 ·skip
  refine BS ([(0,Ao f),(1,AB src),(2,AB to),(4,AB A),(5,AB O),(6,DB f q ⟨d.next,NS⟩ 7 cap capx),(7,NB NS2 capx),(8,[.bs 6 0 2 f.length cap])]) 15 (h:=AA 0 (h:=AA 1 (h:=AF 2 (h:=AA 3 (h:=?_)))));refine CC 4 rfl (fun _ hS=>Hk (y:= .agg (AB (0,0))) (Dz ⟨rfl,rfl⟩) (by repeat (first|exact A7 _|exact LeA.nil _|exact LeL.refl _|refine LeA.agg ⟨rfl,rfl⟩|refine LeA.tup ⟨rfl,rfl⟩|exact LeL.nil|refine LeL.cons ⟨rfl,rfl⟩ ⟨rfl,rfl⟩|exact LeA.any _)) ⟨rfl,rfl⟩) ?_;refine AA 6 (h:=AF 7 (h:=AA 8 (h:=AA 9 (h:=?_))));refine c_ 5 rfl (Bm [] rfl (.cons _ _ _ _ _ rfl (A7 _) (.cons _ _ _ _ _ rfl (A7 _) (.cons _ _ _ _ _ rfl (A7 _) (.cons _ _ _ _ _ rfl (A7 _) .nil)))) (by decide) .nil (jE src name A (0,0)) ?_);rintro r bc tc ⟨rfl,rfl,rfl⟩;refine⟨rfl,_,(jD _ (jF _ _ _ _):Back _ [] _ [_,_,_,_,_,_,_,_,_,_,_,_,_]),?_⟩;refine o_ (h:=?_);refine c_ 10 rfl (A8 (NQ to name2 O A) ?_);rintro r rfl;refine o_ (h:=?_);refine c_ 11 rfl (O3 rfl rfl rfl (BX rfl) M5 (by omega) (by omega) (fun h=>absurd h (by omega)) ?_);rintro hg cap4 k bx2 hcp4 hs;obtain⟨rfl,rfl⟩:k=13∧bx2=[_,_,_,_,_,_,_,_,_,_,_,_,_,CZ 7 cap4 ([(src,name,A,(0,0)),(to,name2,O,A)].map Ej)]:=hs.eq;refine o_ (h:=?_);refine Ak 12 (h:=BE 13 (h:=BE 14 (h:=z_ (h:=?_))));refine AM ?_;exact⟨_,rfl,Hm 4 2 rfl (congrArg (fun x=>[Ao f,AB src,AB to,x]) (Lc (k:=0) (i:=6) (j:=7) (d:=⟨d.next,NS⟩) (d':=⟨d.next,NS2⟩) hql rfl hl3 hcap hcapx2 (BX rfl) (BX rfl) rfl rfl)) (.cons _ _ _ _ rfl (A7 _) (.cons _ _ _ _ rfl (LeA.of_eq (Xj (rows:=[(src,name,A,(0,0)),(to,name2,O,A)].map Ej) (BX rfl) (jA (n:=4) (k:=1) (j:=13) (BX rfl) rfl (jB _)) (jC _) rfl hcp4)) (.cons _ _ _ _ rfl (A7 _) .nil)))⟩
 rintro t rfl;refine B8 (?_);refine A6 ?_;rw[hRen,if_neg (by rw[hord];simp),if_neg (by simp[he1]),if_neg (by simp[hc5]),if_neg (fun h=>absurd h.2 (by rw[hbl h.1];decide)),if_neg (fun h=>hoa h.1 h.2),if_neg (by rw[h2];simp),htq,Int.toNat_natCast,KF hq,show Nc d.nodes src name to name2 A O e2=NS by rw[hNS,hX2D,hn1i,hn2i];rfl,←hNS2];rfl
end
end Go.Proofs.YtbgnigjfkbmceaaGreatDoor
