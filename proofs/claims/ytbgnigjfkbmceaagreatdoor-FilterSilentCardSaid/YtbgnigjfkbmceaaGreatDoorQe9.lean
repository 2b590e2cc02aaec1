/-
  Part 9 of the proof of FilterSilentP: what the statement's proof uses of the texts in wip/tpl.
-/
import Derived.Test.YtbgnigjfkbmceaaGreatDoorQe8
open Go.Proofs.Tryz (prog)
set_option maxRecDepth 10000
set_option maxHeartbeats 4000000
set_option linter.unusedVariables false
set_option linter.unusedSimpArgs false
namespace Go.Proofs.YtbgnigjfkbmceaaGreatDoor
open Go.RowKit
theorem PC{f:AR}{dir:AB}{name:AE}{n0:Nod}(hn:CE f dir=some n0)(hk:n0.kind=2)(h:(AK f dir name).2=0):∃e,EK n0.entries name=some e∧AK f dir name=((dir.1,e.2),0):=by
 unfold AK at h ⊢;rw[hn]at h ⊢;simp only[hk,if_true]at h ⊢;unfold EK;split at h
 ·exact absurd h (by decide)
 rename_i e he;exact⟨e,he,rfl⟩
def entS(ns:List Nod)(i:Nat)(n0:Nod)(name:AE)(ino:Int):List Nod:=ns.set i {n0 with entries:=D4 n0.entries name ino}
theorem Jv(ns:List Nod)(i:Nat)(n0:Nod)(name:AE)(ino:Int):(entS ns i n0 name ino).length=ns.length:=by simp[entS]
theorem TU(es:List BQ)(name:AE)(ino:Int):(D4 es name ino).length≤es.length+1:=by
 by_cases h:ino=0
 ·subst h;rw[LE];have:(Fl name es).length≤es.length:=List.length_filter_le _ _;omega
 rw[(Lm es name h).length_eq,List.length_cons];have:(Fl name es).length≤es.length:=List.length_filter_le _ _;omega
theorem FlsB.set_{f:AR}(hf:FlsB f){q:Nat}{d':Dvc}(hn:d'.nodes.length≤1000)(he:∀n∈d'.nodes,n.entries.length≤1000):FlsB (f.set q d'):=by
 refine⟨by simpa using hf.few,fun d hd=>?_,fun d hd n hn'=>?_⟩
 ·rcases List.mem_or_eq_of_mem_set hd with h|h
  ·exact hf.nodes d h
  rw[h];exact hn
 rcases List.mem_or_eq_of_mem_set hd with h|h
 ·exact hf.ents d h n hn'
 subst h;exact he n hn'
theorem FlsV.entS{f:AR}(hv:FlsV f){q:Nat}{d:Dvc}(hq:f[q]?=some d){i:Nat}{n0:Nod}(hn:d.nodes[i]?=some n0)(name:AE)(ino:Int):FlsB (f.set q {d with nodes:=entS d.nodes i n0 name ino}):=by
 have hd:=hv.vd d (Aj hq);refine hv.b.set_ ?_ ?_
 ·show(Go.Proofs.YtbgnigjfkbmceaaGreatDoor.entS d.nodes i n0 name ino).length≤1000;rw[Jv];have:=hd.len;omega
 intro m hm;rcases List.mem_or_eq_of_mem_set hm with h|h
 ·have:=hd.many m h;omega
 rw[h];have:=TU n0.entries name ino;have:=hd.many n0 (Aj hn);show(D4 n0.entries name ino).length≤1000;omega
theorem Ny{d:Dvc}(hd:VD d){i:Nat}{n0:Nod}(hn:d.nodes[i]?=some n0)(name:AE)(ino:Int):entS d.nodes i n0 name ino=Bc d.nodes n0.ino name ino:=by
 unfold entS Bc;rw[←PB hd.asc hn];rfl
theorem Wv{f:AR}{a:AB}{q:Nat}{d:Dvc}(ha:a.1=(q:Int))(hq:f[q]?=some d):KK f a=if(d.nodes.any fun n=>n.ino==a.2)then Bj a.2 d.nodes else 0:=by
 unfold KK CE;rw[ha,Mv,hq];simp only
 cases h:d.nodes.find? (fun n=>n.ino==a.2)with
 |none=>
   have:d.nodes.any (fun n=>n.ino==a.2)=false:=by
    rw[List.any_eq_false];exact List.find?_eq_none.1 h
   simp[this]
 |some n=>
   have:d.nodes.any (fun n=>n.ino==a.2)=true:=by
    have h2:=List.find?_some h;exact List.any_eq_true.2 ⟨n,List.mem_of_find?_eq_some h,h2⟩
   simp[this]
theorem fY{f:AR}{a:AB}{q:Nat}{d:Dvc}(ha:a.1=(q:Int))(hq:f[q]?=some d)(hl:0<KK f a):C3 d.nodes a.2=d.nodes:=by
 rw[Wv ha hq]at hl;split at hl
 ·unfold C3;rw[List.filter_eq_self];intro m _;exact decide_eq_true (.inr hl)
 omega
theorem drop_zero{f:AR}{a:AB}{q:Nat}{d:Dvc}(ha:a.1=(q:Int))(hq:f[q]?=some d)(hl:KK f a=0):C3 d.nodes a.2=DK a.2 d.nodes:=by
 rw[Wv ha hq]at hl;unfold C3 DK;apply List.filter_congr;intro m hm;split at hl
 ·rw[hl,Bool.eq_iff_iff];simp
 rename_i h
 have hne:m.ino≠a.2:=by
  intro e;exact h (List.any_eq_true.2 ⟨m,hm,by simpa using e⟩)
 rw[Bool.eq_iff_iff];simp[hne]
theorem TV{ns:List Nod}{m:Nod}{i:Int}(hm:m∈ns)(h:m.ino≠i):0<(DK i ns).length:=List.length_pos_of_mem (List.mem_filter.2 ⟨hm,by simpa using h⟩)
theorem Ww{d:Dvc}(hd:VD d){i:Nat}{n0:Nod}(hn:d.nodes[i]?=some n0)(name:AE)(ino:Int):∃m∈entS d.nodes i n0 name ino,m.ino=1:=by
 obtain⟨r,hr,h1,_⟩:=hd.rootMem;rw[Ny hd hn];obtain⟨m,hm,hw⟩:=MU n0.ino name ino hr;exact⟨m,hm,hw.ino.trans h1⟩
theorem TW(f:AR)(q:Nat)(d d':Dvc)(a:AB)(cap cap1:Nat)(hf:FlsB (f.set q d'))(hq:q<f.length)(ha:a.1=(q:Int))(hcap:f.length≤cap)(hcap1:d'.nodes.length≤cap1)(hne:0<(DK a.2 d'.nodes).length)(hn:d'.next=d.next)(hl:d'.nodes.length=d.nodes.length):
    ACall prog 234 [.agg [.bs 0 0 2 f.length cap], .agg (AA a)] [DB f q d 1 cap cap1,NB d'.nodes cap1] (fun r b t=>t=[]∧r= .tup []∧((C3 d'.nodes a.2=d'.nodes∧b=[DB f q d 1 cap cap1,NB d'.nodes cap1,[.bs 0 0 2 f.length cap],AA a])∨(C3 d'.nodes a.2=DK a.2 d'.nodes∧∃cap2,(DK a.2 d'.nodes).length≤cap2∧b=[DB f q {d' with nodes:=DK a.2 d'.nodes} 4 cap cap2,NB d'.nodes cap1,[.bs 0 0 2 f.length cap],AA a,NB (DK a.2 d'.nodes) cap2]))):=by
 have hq':(f.set q d')[q]?=some d':=by simp[hq]
 have key:=fJ (f.set q d') q d' a cap cap1 hf hq' ha (by simpa using hcap) hcap1 hne;rw[List.length_set,←Wu hn hl]at key;refine key.mono fun r b t ⟨h1,h2,h3⟩=>⟨h1,h2,?_⟩;rcases h3 with⟨h4,h5⟩|⟨h4,cap2,h5,h6⟩
 ·exact .inl ⟨fY ha hq' h4,h5⟩
 refine .inr ⟨drop_zero ha hq' h4,cap2,h5,?_⟩;rw[T7]at h6;exact h6
def Hh(f:AR)(dir:AB)(name:AE):Ex:=
 if Cb f dir name≠0 then([],[],Cb f dir name)else if(AK f dir name).2≠0 then([],[],(AK f dir name).2)else if Af f (AK f dir name).1=true then([],[],21)else
 (JR f dir.1.toNat fun ns=>C3 (Bc ns dir.2 name 0) (AK f dir name).1.2,[(dir,name,(AK f dir name).1,(0,0))],0)
def GP(f:AR)(dir:AB)(name:AE):Ex:=
 if Cb f dir name≠0 then([],[],Cb f dir name)else if(AK f dir name).2≠0 then([],[],(AK f dir name).2)else if Af f (AK f dir name).1=false then([],[],20)else if MJ f (AK f dir name).1=false then([],[],39)else
 (JR f dir.1.toNat fun ns=>C3 (Bc ns dir.2 name 0) (AK f dir name).1.2,[(dir,name,(AK f dir name).1,(0,0))],0)
section
theorem fZ(f:AR)(dir:AB)(name:AE)(hv:FlsV f)(hs:name.size≤100000):AFn prog 173 [.agg (Al f), .agg (AA dir), .v (.string name)] (fun r=>r=Cd (Hh f dir name)):=by
 have hf:=hv.b;refine enter Tryz.func173 rfl rfl rfl rfl rfl 0 rfl ?_;refine Ff (h:=a_ (h:=B4 (h:=q_ (Ha (h:=?_)))));refine A3 rfl (A8 (Nh f dir name hf hs) ?_);rintro r rfl;refine Bu (h:=Bo (h:=?_));refine A4 rfl (fun hb1 hc1=>?_) (fun hb1 hc1=>?_)
 ·refine w_ (Gw (h:=EO (h:=?_)));refine AU (r:=Cd (Hh f dir name)) none (h5:=?_) (h6:=⟨rfl,rfl,rfl⟩);rw[Hh,if_pos (by omega)];exact EM _
 refine AF (Ha (h:=?_));refine A3 rfl (A8 (Kk f dir name hf) ?_);rintro r rfl;refine JG (h:=Bo (h:=?_));refine A4 rfl (fun hb2 hc2=>?_) (fun hb2 hc2=>?_)
 ·refine w_ (Gw (h:=EO (h:=?_)));refine AU (r:=Cd (Hh f dir name)) none (h5:=?_) (h6:=⟨rfl,rfl,rfl⟩);rw[Hh,if_neg (by omega),if_pos (by omega)];exact EM _
 have hlk:(AK f dir name).2=0:=by omega
 refine FD (h:=CN (h:=?_));refine A3 rfl (A8 (Ki f (AK f dir name).1 hf) ?_);rintro r rfl;refine e_ (?_);refine A4 rfl (fun hb3 hc3=>?_) (fun hb3 hc3=>?_)
 ·refine Ew (h:=?_);refine AU (r:=Cd (Hh f dir name)) none (h5:=?_) (h6:=⟨rfl,rfl,rfl⟩);rw[Hh,if_neg (by omega),if_neg (by omega),if_pos hc3];exact EM _
 obtain⟨q,i,d,n0,hdq,hq,hn0,hino,hidx,hnode,hk0,hnm⟩:=KN (name:=name) (dir:=dir) (f:=f) (by omega);have hil:=(Ab.1 hn0).1;have hql:=(Ab.1 hq).1;have hvd:=hv.vd d (Aj hq);obtain⟨e,he,hle⟩:=PC hnode hk0 hlk;have hat1:(AK f dir name).1.1=(q:Int):=by rw[hle];exact hdq
 have hat2:(AK f dir name).1.2≠1:=by rw[hle];exact(hvd.ent n0 (Aj hn0) e (Km he).1).2.1
 have hxl:(entS d.nodes i n0 name 0).length=d.nodes.length:=Jv _ _ _ _ _
 have hkp:0<(DK (AK f dir name).1.2 (entS d.nodes i n0 name 0)).length:=by
  obtain⟨m,hm,hm1⟩:=Ww hvd hn0 name 0;exact TV hm (by rw[hm1];exact hat2.symm)
 refine AF (C5 (h:=?_));refine A3 rfl (Bg [] rfl (.cons _ _ _ _ _ rfl (A7 _) .nil) (by decide) .nil (Nr f q d hf hq (by omega)) ?_);rintro r bc tc ⟨rfl,cap,cap1,hcap,hcap1,rfl,rfl⟩;refine⟨rfl,_,(Nw (n:=4) rfl f q d d.nodes cap cap1:Back _ [] _ [_,_,_,_,_,_]),?_⟩;refine Dz (h:=Ha (h:=?_));refine A3 rfl (Bg [4,5] rfl (.cons _ _ _ _ _ rfl (A7 _) (.cons _ _ _ _ _ rfl (A7 _) (.cons _ _ _ _ _ rfl (A7 _) (.cons _ _ _ _ _ rfl (A7 _) .nil)))) (by decide) (.cons _ _ _ _ _ rfl (Jr (by rfl) _ _ _ _ _) (.cons _ _ _ _ _ rfl (JQ _ _ _) .nil)) (Oy f q d n0 i dir name 0 cap cap1 hf hq hdq hidx hn0 hcap hcap1) ?_);rintro r bc tc ⟨rfl,rfl,rfl⟩;refine⟨rfl,_,(Nx (BW rfl) (BW rfl) (by decide) f q d (entS d.nodes i n0 name 0) cap cap1 cap1:Back _ [4,5] _ [_,_,_,_,_,_,_]),?_⟩;refine e_ (CN (h:=?_));refine A3 rfl (Bg [4,5] rfl (.cons _ _ _ _ _ rfl (A7 _) (.cons _ _ _ _ _ rfl (A7 _) .nil)) (by decide) (.cons _ _ _ _ _ rfl (Jr (by rfl) _ _ _ _ _) (.cons _ _ _ _ _ rfl (JQ _ _ _) .nil)) (TW f q d {d with nodes:=entS d.nodes i n0 name 0} (AK f dir name).1 cap cap1 (hv.entS hq hn0 name 0) hql hat1 hcap (by rw[Jv];exact hcap1) hkp rfl hxl) ?_);rintro r bc tc ⟨rfl,rfl,⟨hns,rfl⟩|⟨hns,cap2,hcap2,rfl⟩⟩
 ·refine⟨rfl,_,(TT (n:=7) rfl (by decide) (by decide) (by decide) f q d (entS d.nodes i n0 name 0) (AK f dir name).1 f.length cap cap cap1 cap1:Back _ [4,5] _ [_,_,_,_,_,_,_,_,_]),?_⟩;have hx1:(entS d.nodes i n0 name 0).length≤cap1:=by omega
  refine e_ (?_);refine B9 (fun t=>t=⟨look [(6, .bp 2 0),(7, .sl 7 [EZ (dir,name,(AK f dir name).1,(0,0))] none),(8, .v (.int .i64 0))],⟨[Al f,AA dir,Al (f.set q {d with nodes:=C3 (entS d.nodes i n0 name 0) (AK f dir name).1.2})],[]⟩⟩) ?_ ?_
  ·skip
   refine BO ([(0,Al f),(1,AA dir),(3,AA (AK f dir name).1),(6,[.bs 4 0 2 f.length cap])]) 9 (h:=A9 0 (h:=A9 1 (h:=AG 2 (h:=A9 3 (h:=?_)))));refine By 4 rfl (fun _ hS=>H7 (y:= .agg (AA (0,0))) (Dn ⟨rfl,rfl⟩) (by repeat (first|exact A7 _|exact LeA.nil _|exact LeL.refl _|refine LeA.agg ⟨rfl,rfl⟩|refine LeA.tup ⟨rfl,rfl⟩|exact LeL.nil|refine LeL.cons ⟨rfl,rfl⟩ ⟨rfl,rfl⟩|exact LeA.any _)) ⟨rfl,rfl⟩) ?_;refine c_ 5 rfl (A8 (N0 dir name (AK f dir name).1 (0,0)) ?_);rintro r rfl;refine o_ (h:=?_);refine B6 6 (h:=BB 7 (h:=BB 8 (h:=z_ (h:=?_))));refine AT ?_;refine⟨_,rfl,?_⟩;rw[show C3 (entS d.nodes i n0 name 0) (AK f dir name).1.2=_ from hns]
   first|exact H8 3 2 rfl (congrArg (fun x=>[Al f,AA dir,x]) (LG (k:=0) (i:=4) (j:=9) (d:={d with nodes:=DK (AK f dir name).1.2 (entS d.nodes i n0 name 0)}) (d':={d with nodes:=DK (AK f dir name).1.2 (entS d.nodes i n0 name 0)}) hql rfl rfl hcap hcap2 (BW rfl) (BW rfl) rfl rfl)) (.cons _ _ _ _ rfl (A7 _) (.cons _ _ _ _ rfl (A7 _) (.cons _ _ _ _ rfl (A7 _) .nil)))|exact H8 3 2 rfl (congrArg (fun x=>[Al f,AA dir,x]) (LG (k:=0) (i:=4) (j:=5) (d:=d) (d':={d with nodes:=entS d.nodes i n0 name 0}) hql rfl hxl hcap hx1 (BW rfl) (BW rfl) rfl rfl)) (.cons _ _ _ _ rfl (A7 _) (.cons _ _ _ _ rfl (A7 _) (.cons _ _ _ _ rfl (A7 _) .nil)))
  rintro t rfl;refine B5 (?_);refine A6 ?_;rw[Hh,if_neg (by omega),if_neg (by omega),if_neg (by simp[hc3]),hdq,Int.toNat_natCast,Ju hq,←hino,←Ny (hv.vd d (Aj hq)) hn0];rfl
 refine⟨rfl,_,(TS (n:=7) rfl (by decide) (by decide) (by decide) f q {d with nodes:=DK (AK f dir name).1.2 (entS d.nodes i n0 name 0)} (entS d.nodes i n0 name 0) (DK (AK f dir name).1.2 (entS d.nodes i n0 name 0)) (AK f dir name).1 f.length cap cap cap1 cap2:Back _ [4,5] _ [_,_,_,_,_,_,_,_,_,_]),?_⟩;refine e_ (?_);refine B9 (fun t=>t=⟨look [(6, .bp 2 0),(7, .sl 7 [EZ (dir,name,(AK f dir name).1,(0,0))] none),(8, .v (.int .i64 0))],⟨[Al f,AA dir,Al (f.set q {d with nodes:=C3 (entS d.nodes i n0 name 0) (AK f dir name).1.2})],[]⟩⟩) ?_ ?_
 ·skip
  refine BO ([(0,Al f),(1,AA dir),(3,AA (AK f dir name).1),(6,[.bs 4 0 2 f.length cap])]) 9 (h:=A9 0 (h:=A9 1 (h:=AG 2 (h:=A9 3 (h:=?_)))));refine By 4 rfl (fun _ hS=>H7 (y:= .agg (AA (0,0))) (Dn ⟨rfl,rfl⟩) (by repeat (first|exact A7 _|exact LeA.nil _|exact LeL.refl _|refine LeA.agg ⟨rfl,rfl⟩|refine LeA.tup ⟨rfl,rfl⟩|exact LeL.nil|refine LeL.cons ⟨rfl,rfl⟩ ⟨rfl,rfl⟩|exact LeA.any _)) ⟨rfl,rfl⟩) ?_;refine c_ 5 rfl (A8 (N0 dir name (AK f dir name).1 (0,0)) ?_);rintro r rfl;refine o_ (h:=?_);refine B6 6 (h:=BB 7 (h:=BB 8 (h:=z_ (h:=?_))));refine AT ?_;refine⟨_,rfl,?_⟩;rw[show C3 (entS d.nodes i n0 name 0) (AK f dir name).1.2=_ from hns];exact H8 3 2 rfl (congrArg (fun x=>[Al f,AA dir,x]) (LG (k:=0) (i:=4) (j:=9) (d:={d with nodes:=DK (AK f dir name).1.2 (entS d.nodes i n0 name 0)}) (d':={d with nodes:=DK (AK f dir name).1.2 (entS d.nodes i n0 name 0)}) hql rfl rfl hcap hcap2 (BW rfl) (BW rfl) rfl rfl)) (.cons _ _ _ _ rfl (A7 _) (.cons _ _ _ _ rfl (A7 _) (.cons _ _ _ _ rfl (A7 _) .nil)))
 rintro t rfl;refine B5 (?_);refine A6 ?_;rw[Hh,if_neg (by omega),if_neg (by omega),if_neg (by simp[hc3]),hdq,Int.toNat_natCast,Ju hq,←hino,←Ny (hv.vd d (Aj hq)) hn0];rfl
theorem g7(f:AR)(dir:AB)(name:AE)(hv:FlsV f)(hs:name.size≤100000):AFn prog 174 [.agg (Al f), .agg (AA dir), .v (.string name)] (fun r=>r=Cd (GP f dir name)):=by
 have hf:=hv.b;refine enter Tryz.func174 rfl rfl rfl rfl rfl 0 rfl ?_;refine Ff (h:=a_ (h:=B4 (h:=q_ (Ha (h:=?_)))));refine A3 rfl (A8 (Nh f dir name hf hs) ?_);rintro r rfl;refine Bu (h:=Bo (h:=?_));refine A4 rfl (fun hb1 hc1=>?_) (fun hb1 hc1=>?_)
 ·refine w_ (Gw (h:=EO (h:=?_)));refine AU (r:=Cd (GP f dir name)) none (h5:=?_) (h6:=⟨rfl,rfl,rfl⟩);rw[GP,if_pos (by omega)];exact EM _
 refine AF (Ha (h:=?_));refine A3 rfl (A8 (Kk f dir name hf) ?_);rintro r rfl;refine JG (h:=Bo (h:=?_));refine A4 rfl (fun hb2 hc2=>?_) (fun hb2 hc2=>?_)
 ·refine w_ (Gw (h:=EO (h:=?_)));refine AU (r:=Cd (GP f dir name)) none (h5:=?_) (h6:=⟨rfl,rfl,rfl⟩);rw[GP,if_neg (by omega),if_pos (by omega)];exact EM _
 have hlk:(AK f dir name).2=0:=by omega
 refine FD (h:=CN (h:=?_));refine A3 rfl (A8 (Ki f (AK f dir name).1 hf) ?_);rintro r rfl;refine DA (h:=?_);refine A4 rfl (fun hb3 hc3=>?_) (fun hb3 hc3=>?_)
 ·refine Ew (h:=?_);refine AU (r:=Cd (GP f dir name)) none (h5:=?_) (h6:=⟨rfl,rfl,rfl⟩);rw[GP,if_neg (by omega),if_neg (by omega),if_pos hc3];exact EM _
 refine FD (h:=CN (h:=?_));refine A3 rfl (A8 (Ve f (AK f dir name).1 hf) ?_);rintro r rfl;refine DA (h:=?_);refine A4 rfl (fun hb4 hc4=>?_) (fun hb4 hc4=>?_)
 ·refine Ew (h:=?_);refine AU (r:=Cd (GP f dir name)) none (h5:=?_) (h6:=⟨rfl,rfl,rfl⟩);rw[GP,if_neg (by omega),if_neg (by omega),if_neg (by simp[hc3]),if_pos hc4];exact EM _
 obtain⟨q,i,d,n0,hdq,hq,hn0,hino,hidx,hnode,hk0,hnm⟩:=KN (name:=name) (dir:=dir) (f:=f) (by omega);have hil:=(Ab.1 hn0).1;have hql:=(Ab.1 hq).1;have hvd:=hv.vd d (Aj hq);obtain⟨e,he,hle⟩:=PC hnode hk0 hlk;have hat1:(AK f dir name).1.1=(q:Int):=by rw[hle];exact hdq
 have hat2:(AK f dir name).1.2≠1:=by rw[hle];exact(hvd.ent n0 (Aj hn0) e (Km he).1).2.1
 have hxl:(entS d.nodes i n0 name 0).length=d.nodes.length:=Jv _ _ _ _ _
 have hkp:0<(DK (AK f dir name).1.2 (entS d.nodes i n0 name 0)).length:=by
  obtain⟨m,hm,hm1⟩:=Ww hvd hn0 name 0;exact TV hm (by rw[hm1];exact hat2.symm)
 refine AF (C5 (h:=?_));refine A3 rfl (Bg [] rfl (.cons _ _ _ _ _ rfl (A7 _) .nil) (by decide) .nil (Nr f q d hf hq (by omega)) ?_);rintro r bc tc ⟨rfl,cap,cap1,hcap,hcap1,rfl,rfl⟩;refine⟨rfl,_,(Nw (n:=4) rfl f q d d.nodes cap cap1:Back _ [] _ [_,_,_,_,_,_]),?_⟩;refine Dz (h:=Ha (h:=?_));refine A3 rfl (Bg [4,5] rfl (.cons _ _ _ _ _ rfl (A7 _) (.cons _ _ _ _ _ rfl (A7 _) (.cons _ _ _ _ _ rfl (A7 _) (.cons _ _ _ _ _ rfl (A7 _) .nil)))) (by decide) (.cons _ _ _ _ _ rfl (Jr (by rfl) _ _ _ _ _) (.cons _ _ _ _ _ rfl (JQ _ _ _) .nil)) (Oy f q d n0 i dir name 0 cap cap1 hf hq hdq hidx hn0 hcap hcap1) ?_);rintro r bc tc ⟨rfl,rfl,rfl⟩;refine⟨rfl,_,(Nx (BW rfl) (BW rfl) (by decide) f q d (entS d.nodes i n0 name 0) cap cap1 cap1:Back _ [4,5] _ [_,_,_,_,_,_,_]),?_⟩;refine e_ (CN (h:=?_));refine A3 rfl (Bg [4,5] rfl (.cons _ _ _ _ _ rfl (A7 _) (.cons _ _ _ _ _ rfl (A7 _) .nil)) (by decide) (.cons _ _ _ _ _ rfl (Jr (by rfl) _ _ _ _ _) (.cons _ _ _ _ _ rfl (JQ _ _ _) .nil)) (TW f q d {d with nodes:=entS d.nodes i n0 name 0} (AK f dir name).1 cap cap1 (hv.entS hq hn0 name 0) hql hat1 hcap (by rw[Jv];exact hcap1) hkp rfl hxl) ?_);rintro r bc tc ⟨rfl,rfl,⟨hns,rfl⟩|⟨hns,cap2,hcap2,rfl⟩⟩
 ·refine⟨rfl,_,(TT (n:=7) rfl (by decide) (by decide) (by decide) f q d (entS d.nodes i n0 name 0) (AK f dir name).1 f.length cap cap cap1 cap1:Back _ [4,5] _ [_,_,_,_,_,_,_,_,_]),?_⟩;have hx1:(entS d.nodes i n0 name 0).length≤cap1:=by omega
  refine e_ (?_);refine B9 (fun t=>t=⟨look [(6, .bp 2 0),(7, .sl 7 [EZ (dir,name,(AK f dir name).1,(0,0))] none),(8, .v (.int .i64 0))],⟨[Al f,AA dir,Al (f.set q {d with nodes:=C3 (entS d.nodes i n0 name 0) (AK f dir name).1.2})],[]⟩⟩) ?_ ?_
  ·skip
   refine BO ([(0,Al f),(1,AA dir),(3,AA (AK f dir name).1),(6,[.bs 4 0 2 f.length cap])]) 9 (h:=A9 0 (h:=A9 1 (h:=AG 2 (h:=A9 3 (h:=?_)))));refine By 4 rfl (fun _ hS=>H7 (y:= .agg (AA (0,0))) (Dn ⟨rfl,rfl⟩) (by repeat (first|exact A7 _|exact LeA.nil _|exact LeL.refl _|refine LeA.agg ⟨rfl,rfl⟩|refine LeA.tup ⟨rfl,rfl⟩|exact LeL.nil|refine LeL.cons ⟨rfl,rfl⟩ ⟨rfl,rfl⟩|exact LeA.any _)) ⟨rfl,rfl⟩) ?_;refine c_ 5 rfl (A8 (N0 dir name (AK f dir name).1 (0,0)) ?_);rintro r rfl;refine o_ (h:=?_);refine B6 6 (h:=BB 7 (h:=BB 8 (h:=z_ (h:=?_))));refine AT ?_;refine⟨_,rfl,?_⟩;rw[show C3 (entS d.nodes i n0 name 0) (AK f dir name).1.2=_ from hns]
   first|exact H8 3 2 rfl (congrArg (fun x=>[Al f,AA dir,x]) (LG (k:=0) (i:=4) (j:=9) (d:={d with nodes:=DK (AK f dir name).1.2 (entS d.nodes i n0 name 0)}) (d':={d with nodes:=DK (AK f dir name).1.2 (entS d.nodes i n0 name 0)}) hql rfl rfl hcap hcap2 (BW rfl) (BW rfl) rfl rfl)) (.cons _ _ _ _ rfl (A7 _) (.cons _ _ _ _ rfl (A7 _) (.cons _ _ _ _ rfl (A7 _) .nil)))|exact H8 3 2 rfl (congrArg (fun x=>[Al f,AA dir,x]) (LG (k:=0) (i:=4) (j:=5) (d:=d) (d':={d with nodes:=entS d.nodes i n0 name 0}) hql rfl hxl hcap hx1 (BW rfl) (BW rfl) rfl rfl)) (.cons _ _ _ _ rfl (A7 _) (.cons _ _ _ _ rfl (A7 _) (.cons _ _ _ _ rfl (A7 _) .nil)))
  rintro t rfl;refine B5 (?_);refine A6 ?_;rw[GP,if_neg (by omega),if_neg (by omega),if_neg (by simp[hc3]),if_neg (by simp[hc4]),hdq,Int.toNat_natCast,Ju hq,←hino,←Ny (hv.vd d (Aj hq)) hn0];rfl
 refine⟨rfl,_,(TS (n:=7) rfl (by decide) (by decide) (by decide) f q {d with nodes:=DK (AK f dir name).1.2 (entS d.nodes i n0 name 0)} (entS d.nodes i n0 name 0) (DK (AK f dir name).1.2 (entS d.nodes i n0 name 0)) (AK f dir name).1 f.length cap cap cap1 cap2:Back _ [4,5] _ [_,_,_,_,_,_,_,_,_,_]),?_⟩;refine e_ (?_);refine B9 (fun t=>t=⟨look [(6, .bp 2 0),(7, .sl 7 [EZ (dir,name,(AK f dir name).1,(0,0))] none),(8, .v (.int .i64 0))],⟨[Al f,AA dir,Al (f.set q {d with nodes:=C3 (entS d.nodes i n0 name 0) (AK f dir name).1.2})],[]⟩⟩) ?_ ?_
 ·skip
  refine BO ([(0,Al f),(1,AA dir),(3,AA (AK f dir name).1),(6,[.bs 4 0 2 f.length cap])]) 9 (h:=A9 0 (h:=A9 1 (h:=AG 2 (h:=A9 3 (h:=?_)))));refine By 4 rfl (fun _ hS=>H7 (y:= .agg (AA (0,0))) (Dn ⟨rfl,rfl⟩) (by repeat (first|exact A7 _|exact LeA.nil _|exact LeL.refl _|refine LeA.agg ⟨rfl,rfl⟩|refine LeA.tup ⟨rfl,rfl⟩|exact LeL.nil|refine LeL.cons ⟨rfl,rfl⟩ ⟨rfl,rfl⟩|exact LeA.any _)) ⟨rfl,rfl⟩) ?_;refine c_ 5 rfl (A8 (N0 dir name (AK f dir name).1 (0,0)) ?_);rintro r rfl;refine o_ (h:=?_);refine B6 6 (h:=BB 7 (h:=BB 8 (h:=z_ (h:=?_))));refine AT ?_;refine⟨_,rfl,?_⟩;rw[show C3 (entS d.nodes i n0 name 0) (AK f dir name).1.2=_ from hns];exact H8 3 2 rfl (congrArg (fun x=>[Al f,AA dir,x]) (LG (k:=0) (i:=4) (j:=9) (d:={d with nodes:=DK (AK f dir name).1.2 (entS d.nodes i n0 name 0)}) (d':={d with nodes:=DK (AK f dir name).1.2 (entS d.nodes i n0 name 0)}) hql rfl rfl hcap hcap2 (BW rfl) (BW rfl) rfl rfl)) (.cons _ _ _ _ rfl (A7 _) (.cons _ _ _ _ rfl (A7 _) (.cons _ _ _ _ rfl (A7 _) .nil)))
 rintro t rfl;refine B5 (?_);refine A6 ?_;rw[GP,if_neg (by omega),if_neg (by omega),if_neg (by simp[hc3]),if_neg (by simp[hc4]),hdq,Int.toNat_natCast,Ju hq,←hino,←Ny (hv.vd d (Aj hq)) hn0];rfl
end
section
variable {P:Program}{N:Dim}{ops:Array Oper}{Q:Exit→AS→Prop}{S:AH→Prop}{tl:Nat}
def Wx(ops:Array Oper)(tl:Nat):Bool:=Pn ops tl
end
section
variable {P:Program}{N:Dim}{Q:Exit→AS→Prop}{l:List Oper}{S:AH→Prop}{tl:Nat}{fuel:Nat}{listed:Array Bool}{m:List (Nat×AV)}{h:AH}{op:Op}{ty:TypeId}{pos:String}{af:Array Edge}{gd:Option (Nat×Bool)}
theorem g8{i d:Nat}{x:AV}(hi:l[i]?=some ⟨some d,op,ty,pos,af,gd⟩)(hd:Nat.blt d N.n=true)(htl:(Wx l.toArray tl&&Pm l.toArray listed&& !Nat.ble tl i&&Region.free .any l.toArray listed i&&(Region.ready .any l.toArray listed).contains i)=true)
    (hw:Cf l.toArray (look m) ⟨some d,op,ty,pos,af,gd⟩=some true) (hst:∀h,S h→AStep P ⟨some d,op,ty,pos,af,gd⟩ (CQ (look m)) h (fun x' h'=>x'=x∧h'=h)) (hS:S h)
    (H:AAny P N l.toArray Q S tl fuel (listed.setIfInBounds i true) ⟨look ((d,x)::m),h⟩):AAny P N l.toArray Q S tl (fuel+1) listed ⟨look m,h⟩:=by
 simp only[Bool.and_eq_true,Bool.not_eq_true']at htl;obtain⟨⟨⟨⟨t1,t0⟩,t2⟩,t3⟩,t4⟩:=htl;exact AAny.first3 (oi:=⟨some d,op,ty,pos,af,gd⟩) (L0 hi) hd t1 t2 fuel listed ⟨look m,h⟩ (UW t0) (Region.free_spec (L0 hi) t3) (List.contains_iff_mem.1 t4) (.inl ⟨hw,hst⟩) hS H
end
theorem FJ{P:Program}{N:Dim}{Q:Exit→AS→Prop}{l:List Oper}{S:AH→Prop}{tl:Nat}{fuel:Nat}{listed:Array Bool}{m:List (Nat×AV)}{h:AH}{op:Op}{ty:TypeId}{pos:String}{af:Array Edge}{gd:Option (Nat×Bool)}(i:Nat){d:Nat}{x:AV}(hi:l[i]?=some ⟨some d,op,ty,pos,af,gd⟩)(hst:∀h,S h→AStep P ⟨some d,op,ty,pos,af,gd⟩ (CQ (look m)) h (fun x' h'=>x'=x∧h'=h))(H:AAny P N l.toArray Q S tl fuel (listed.setIfInBounds i true) ⟨look ((d,x)::m),h⟩)(hd:Nat.blt d N.n=true:=by rfl)(htl:(Wx l.toArray tl&&Pm l.toArray listed&& !Nat.ble tl i&&Region.free .any l.toArray listed i&&(Region.ready .any l.toArray listed).contains i)=true:=by kernel_rfl)(hw:Cf l.toArray (look m) ⟨some d,op,ty,pos,af,gd⟩=some true:=by first|rfl|exact BM rfl rfl (ET ‹_›)|exact BM rfl rfl (EU ‹_›)|exact BM rfl rfl (by simp[*]))(hS:S h:=by repeat (first|exact Na _|refine Nb rfl ?_)):AAny P N l.toArray Q S tl (fuel+1) listed ⟨look m,h⟩:=g8 hi hd htl hw hst hS H
theorem TX{f:AR}{a:AB}{q i:Nat}{d:Dvc}{n:Nod}(ha:a.1=(q:Int))(hq:f[q]?=some d)(hd:Ey d.nodes)(hn:d.nodes[i]?=some n)(hi:n.ino=a.2):Hb f a=(i:Int):=by
 rw[SY ha hq];refine VN hn (by simpa using hi) fun j y hj hy=>?_;obtain⟨l1,e1⟩:=Ab.1 hn;obtain⟨l2,e2⟩:=Ab.1 hy;have hp:=List.pairwise_iff_getElem.1 hd j i l2 l1 hj;rw[e1,e2]at hp;have:y.ino≠a.2:=by omega
 simpa using this
theorem Wy(f:AR)(q:Nat)(d':Dvc)(n:Nod)(i:Nat)(a:AB)(name:AE)(ino:Int)(cap cap1:Nat)(hf:FlsB (f.set q d'))(hq:q<f.length)(ha:a.1=(q:Int))(hi:Hb (f.set q d') a=(i:Int))(hn:d'.nodes[i]?=some n)(hcap:f.length≤cap)(hcap1:d'.nodes.length≤cap1):
    ACall prog 232 [.agg [.bs 0 0 2 f.length cap], .agg (AA a), .v (.string name), .v (.int .i64 ino)] [DB f q d' 1 cap cap1,NB d'.nodes cap1] (fun r b t=>t=[]∧r= .tup []∧b=[DB f q d' 1 cap cap1,NB (entS d'.nodes i n name ino) cap1]):=by
 have key:=Oy (f.set q d') q d' n i a name ino cap cap1 hf (by simp[hq]) ha hi hn (by simpa using hcap) hcap1;rw[List.length_set,T7]at key;exact key
def Fm(f:AR)(a:AB)(mode uid gid:Int):AR×Int:=
 if Du f a=false then([],2)else if Hd (G4 mode uid gid (Ac f a))=false then([],22)else(JR f a.1.toNat fun ns=>Cv ns a.2 (G4 mode uid gid),0)
def PD(R:AR×Int):AV:= .tup [.agg (Al R.1), .v (.int .i64 R.2)]
theorem Wz(e:Int):LeA (.tup [.agg [.v (.slice none 0 0)], .v (.int .i64 e)]) (PD ([],e)):=(by repeat (first|exact A7 _|exact LeA.nil _|exact LeL.refl _|refine LeA.agg ?_|refine LeA.tup ?_|exact LeL.nil|refine LeL.cons ?_ ?_|exact LeA.any _))
theorem g9{n:Nod}(h:Hd n=true):n.target.size≤128:=by
 unfold Hd at h;split at h
 ·cases h
 split at h
 ·simp[Nd]at h;omega
 have h2:=List.isEmpty_iff.1 h;rw[ByteArray.toList_eq]at h2;have:n.target.data.size=0:=by rw[←Array.length_toList,h2];rfl
 show n.target.data.size≤128;omega
theorem TY{f:AR}(hv:FlsV f)(a:AB):(Ac f a).target.size≤128:=by
 rcases Ld f a with⟨-,h⟩|⟨k,i,d,n, -,h1,h2, -, -,h⟩
 ·simp only[Ac,h,Option.getD_none];exact BH _
 simp only[Ac,h,Option.getD_some];exact g9 ((hv.vd d (Aj h1)).plain n (Aj h2))
def Ez(f:AR)(dir:AB)(name:AE)(n:Nod):Ex:=
 if Cb f dir name≠0 then([],[],Cb f dir name)else if Hd n=false then([],[],22)else if(AK f dir name).2=0 then([],[],17)else
 match Fj f dir.1 with
 |none=>([],[],2)
 |some d=>if 16≤d.nodes.length∨d.next=1073741824∨Lf f dir=true then([],[],28)else(f.set dir.1.toNat ⟨d.next+1,Bc d.nodes dir.2 name d.next++[G2 n d.next dir.2]⟩,[(dir,name,(0,0),(dir.1,d.next))],0)
theorem X0{f:AR}{q:Nat}{d:Dvc}{j j' cap cap1 c:Nat}(m:Nod)(hq:q<f.length):SetAt (DB f q d j cap cap1) (0+q * 2+1) [.bs j' 0 8 (d.nodes.length+1) c] (DB f q {d with nodes:=d.nodes++[m]} j' cap c):=by
 have h:=T6 (d:=d) (d':={d with nodes:=d.nodes++[m]}) (j:=j) (j':=j') (cap:=cap) (cap1:=cap1) (cap1':=c) (k:=1) (cs:=[.bs j' 0 8 (d.nodes++[m]).length c]) hq (by repeat constructor) (by simp)
 rwa [List.length_append]at h
section
theorem gA(f:AR)(a:AB)(mode uid gid:Int)(hv:FlsV f):AFn prog 176 [.agg (Al f), .agg (AA a), .v (.int .i64 mode), .v (.int .i64 uid), .v (.int .i64 gid)] (fun r=>r=PD (Fm f a mode uid gid)):=by
 have hf:=hv.b;have htg:=TY hv a;refine enter Tryz.func176 rfl rfl rfl rfl rfl 0 rfl ?_;refine Ff (h:=B4 (h:=CN (h:=?_)));refine A3 rfl (A8 (FF f a hf) ?_);rintro r rfl;refine Gr (h:=?_);refine A4 rfl (fun hb1 hc1=>?_) (fun hb1 hc1=>?_)
 ·refine Bq (h:=?_);refine AU (r:=PD (Fm f a mode uid gid)) none (h5:=?_) (h6:=⟨rfl,rfl,rfl⟩);rw[Fm,if_pos hc1];exact Wz _
 refine AF (E9 (h:=m_ (h:=CS (h:=CS (h:=Ct (h:=q_ (C5 (h:=?_))))))));refine A3 rfl (A8 (Vf (G4 mode uid gid (Ac f a)) (by show(Ac f a).target.size≤100000;omega)) ?_);rintro r rfl;refine DA (h:=?_);refine A4 rfl (fun hb2 hc2=>?_) (fun hb2 hc2=>?_)
 ·refine Bq (h:=?_);refine AU (r:=PD (Fm f a mode uid gid)) none (h5:=?_) (h6:=⟨rfl,rfl,rfl⟩);rw[Fm,if_neg (by simp[hc1]),if_pos hc2];exact Wz _
 obtain⟨q,i,d,n0,hdq,hq,hn0,hino,hidx,hnode⟩:=(Ld f a).resolve_left (fun h=>by simp[Du,h.2]at hc1);have hil:=(Ab.1 hn0).1;have hql:=(Ab.1 hq).1;have hng:Ac f a=n0:=by simp[Ac,hnode]
 refine AF (C5 (h:=?_));refine A3 rfl (Bg [] rfl (.cons _ _ _ _ _ rfl (A7 _) .nil) (by decide) .nil (Nr f q d hf hq (by omega)) ?_);rintro r bc tc ⟨rfl,cap,cap1,hcap,hcap1,rfl,rfl⟩;refine⟨rfl,_,(Nw (n:=4) rfl f q d d.nodes cap cap1:Back _ [] _ [_,_,_,_,_,_]),?_⟩;have hD0:(DB f q d 5 cap cap1)[0+q * 2+1]?=some (.bs 5 0 8 d.nodes.length cap1):=Ow hql
 have hset:SetAt (NB d.nodes cap1) (0+i * 8) (AZ (G4 mode uid gid (Ac f a))) (NB (d.nodes.set i (G4 mode uid gid (Ac f a))) cap1):=by
  rw[hng];exact T5 (k:=0) hn0 (by repeat constructor) (by simp[AZ])
 refine CY (h:=s_ (h:=e_ (q_ (BO ([(0,Al f),(1,AA a),(3,AZ (G4 mode uid gid (Ac f a))),(4,DB f q d 5 cap cap1),(6,[.bs 4 0 2 f.length cap])]) 13 (h:=AD 0 (h:=?_))))));refine A9 1 (h:=?_);refine AD 2 (h:=?_);refine A9 3 (h:=?_);refine By 4 rfl (fun _ hS=>Dx (m:=q) rfl rfl hdq hql ⟨rfl,rfl⟩) ?_;refine AD 5 (h:=?_)
 first|refine A9 6 (h:=?_)|refine By 6 rfl (fun _ hS=>Dl (row:=DB f q d 5 cap cap1) rfl (kb hS rfl) hD0 ⟨rfl,rfl⟩) ?_
 refine A9 7 (h:=?_);refine A9 8 (h:=?_);refine A9 10 (h:=?_);refine c_ 9 rfl (Dm 2 rfl (.cons _ _ _ _ _ rfl (LeA.of_eq (MS hq hcap hcap1 (BH _) (BH _) rfl rfl)) (.cons _ _ _ _ _ rfl (A7 _) .nil)) (ML f a hf) ?_);rintro r rfl;refine⟨rfl,?_⟩;refine o_ (h:=?_);refine By 11 rfl (fun _ hS=>Dx (m:=i) rfl rfl hidx hil ⟨rfl,rfl⟩) ?_;refine H9 12 rfl (Ed rfl rfl rfl rfl rfl rfl hset (by repeat constructor) ?_);refine GJ (h:=t_ (?_));refine B9 (fun t=>t=⟨look [(10, .bp 2 0),(11, .v (.int .i64 0))],⟨[Al f,AA a,Al (f.set q {d with nodes:=d.nodes.set i (G4 mode uid gid (Ac f a))})],[]⟩⟩) ?_ ?_
 ·skip
  refine Aw (l_ (h:=s_ (h:=Ch (h:=?_))));exact⟨_,rfl,H8 3 2 rfl (congrArg (fun x=>[Al f,AA a,x]) (LG (k:=0) (i:=4) (j:=5) (d:=d) (d':={d with nodes:=d.nodes.set i (G4 mode uid gid (Ac f a))}) hql rfl (by simp) hcap (by simpa using hcap1) (BW rfl) (BW rfl) rfl rfl)) (.cons _ _ _ _ rfl (A7 _) (.cons _ _ _ _ rfl (A7 _) .nil))⟩
 rintro t rfl;refine B5 (?_);refine A6 ?_;rw[Fm,if_neg (by simp[hc1]),if_neg (by simp[hc2]),hdq,Int.toNat_natCast,Ju hq,←hino,←PB (hv.vd d (Aj hq)).asc hn0,←hng];rfl
theorem gB(f:AR)(dir:AB)(name:AE)(n:Nod)(hv:FlsV f)(hs:name.size≤100000)(hns:n.target.size≤100000):AFn prog 177 [.agg (Al f), .agg (AA dir), .v (.string name), .agg (AZ n)] (fun r=>r=Cd (Ez f dir name n)):=by
 have hf:=hv.b;obtain⟨e0,he0⟩:∃e0:Int,e0=if Cb f dir name≠0 then Cb f dir name else if Hd n=false then 22 else 0:=⟨_,rfl⟩
 refine enter Tryz.func177 rfl rfl rfl rfl rfl 0 rfl ?_;refine Fd (h:=b_ (h:=CY (h:=a_ (h:=B4 (h:=Ha (h:=?_))))));refine A3 rfl (A8 (Nh f dir name hf hs) ?_);rintro r rfl;refine B4 (h:=?_);refine B9 (fun t=>t=⟨look [(2, .v (.string name)),(4, .bp 0 0),(5, .bp 1 0),(7, .bp 2 0),(8, .bp 3 0),(9, .v (.slice none 0 0)),(10, .v (.int .i64 0)),(11, .v (.int .i64 e0))],⟨[Al f,AA dir,AZ n,[.v (.slice none 0 0)]],[]⟩⟩) ?_ ?_
 ·skip
  refine AX (h:=Dy (h:=?_));refine AJ true rfl rfl (fun hb1 hc1=>?_) (fun hb1 hc1=>?_)
  ·refine l_ (h:=?_);refine Aq (A8 (Vf n hns) ?_);rintro r rfl;refine DP (h:=DY (h:=?_));refine A4 rfl (fun hb2 hc2=>?_) (fun hb2 hc2=>?_)
   ·have hee:e0=22:=by rw[he0,if_neg (by omega),if_pos hc2]
    refine Aw (Ch (h:=?_));refine⟨_,rfl,?_⟩;rw[hee];exact(wk 4 0)
   have hee:e0=Cb f dir name:=by rw[he0,if_neg (by omega),if_neg (by simp[hc2]),hc1]
   refine BD (AT (?_));refine⟨_,rfl,?_⟩;rw[hee];exact(wk 4 0)
  have hee:e0=Cb f dir name:=by rw[he0,if_pos hc1]
  refine D8 (h:=e_ (Hv (h:=BD (AT (?_)))));refine⟨_,rfl,?_⟩;rw[hee];exact(wk 4 0)
 rintro t rfl;refine Bk (h:=Bo (h:=?_));refine A4 rfl (fun hb3 hc3=>?_) (fun hb3 hc3=>?_)
 ·refine w_ (Gw (h:=EO (h:=?_)));refine AU (r:=Cd (Ez f dir name n)) none (h5:=?_) (h6:=⟨rfl,rfl,rfl⟩)
  rw[show Ez f dir name n=([],[],e0) by
   unfold Ez;by_cases h:Cb f dir name=0
   ·rw[if_neg (by omega)]at he0 ⊢;by_cases h2:Hd n=false
    ·rw[if_pos h2]at he0 ⊢;rw[he0]
    rw[if_neg h2]at he0;omega
   rw[if_pos h]at he0 ⊢;rw[he0]]
  exact EM _
 have hpl:Cb f dir name=0:=by
  by_cases h:Cb f dir name=0
  ·exact h
  rw[if_pos h]at he0;omega
 have hpn:¬Hd n=false:=by
  intro h;rw[if_neg (by omega),if_pos h]at he0;omega
 refine FD (h:=Ha (h:=?_));refine A3 rfl (A8 (Kk f dir name hf) ?_);rintro r rfl;refine FC (h:=Bu (h:=BN (h:=?_)));refine A4 rfl (fun hb4 hc4=>?_) (fun hb4 hc4=>?_)
 ·refine Ew (h:=?_);refine AU (r:=Cd (Ez f dir name n)) none (h5:=?_) (h6:=⟨rfl,rfl,rfl⟩);rw[Ez,if_neg (by omega),if_neg hpn,if_pos (by omega)];exact EM _
 obtain⟨q,i,d,n0,hdq,hq,hn0,hino,hidx,hnode,hk0,hnm⟩:=KN (name:=name) (dir:=dir) (f:=f) hpl;have hil:=(Ab.1 hn0).1;have hql:=(Ab.1 hq).1;have hvd:=hv.vd d (Aj hq);have hatI:Fj f dir.1=some d:=by rw[hdq,Mv,hq]
 have hrow:(f.map Cc)[q]?=some (Cc d):=by rw[List.getElem?_map,hq];rfl
 have hnx1:=hvd.next2;have hnx2:=hvd.nextM;have hdl:=hvd.len;refine AF (Hy (h:=?_));refine A3 rfl (D7 (n:=q) rfl rfl hdq hrow ?_);refine JH (h:=Fe (h:=n_ (h:=E7 (h:=m_ (h:=?_)))));refine AJ false rfl rfl (fun hb5 hc5=>?_) (fun hb5 hc5=>?_)
 ·refine Cg (h:=ER (h:=CX (h:=Ew (h:=?_))));refine AU (r:=Cd (Ez f dir name n)) none (h5:=?_) (h6:=⟨rfl,rfl,rfl⟩);rw[Ez,if_neg (by omega),if_neg hpn,if_neg (by omega),hatI];simp only;rw[if_pos (by first|exact .inl (by simp at *;omega)|exact .inr (.inl (by omega))|exact .inr (.inr (by assumption)))];exact EM _
 refine Cs (h:=Be (h:=?_));refine AJ false rfl rfl (fun hb6 hc6=>?_) (fun hb6 hc6=>?_)
 ·refine ER (h:=CX (h:=Ew (h:=?_)));refine AU (r:=Cd (Ez f dir name n)) none (h5:=?_) (h6:=⟨rfl,rfl,rfl⟩);rw[Ez,if_neg (by omega),if_neg hpn,if_neg (by omega),hatI];simp only;rw[if_pos (by first|exact .inl (by simp at *;omega)|exact .inr (.inl (by omega))|exact .inr (.inr (by assumption)))];exact EM _
 refine Hz (h:=?_);refine Aq (A8 (Sb f dir hf) ?_);rintro r rfl;refine CH (h:=?_);refine A4 rfl (fun hb7 hc7=>?_) (fun hb7 hc7=>?_)
 ·refine Ew (h:=?_);refine AU (r:=Cd (Ez f dir name n)) none (h5:=?_) (h6:=⟨rfl,rfl,rfl⟩);rw[Ez,if_neg (by omega),if_neg hpn,if_neg (by omega),hatI];simp only;rw[if_pos (by first|exact .inl (by simp at *;omega)|exact .inr (.inl (by omega))|exact .inr (.inr (by assumption)))];exact EM _
 refine AF (C5 (h:=?_));refine A3 rfl (Bg [] rfl (.cons _ _ _ _ _ rfl (A7 _) .nil) (by decide) .nil (Nr f q d hf hq (by omega)) ?_);rintro r bc tc ⟨rfl,cap,cap1,hcap,hcap1,rfl,rfl⟩;refine⟨rfl,_,(Nw (n:=6) rfl f q d d.nodes cap cap1:Back _ [] _ [_,_,_,_,_,_,_,_]),?_⟩;have hD0:(DB f q d 7 cap cap1)[0+q * 2+1]?=some (.bs 7 0 8 d.nodes.length cap1):=Ow hql;obtain⟨mk,hmk⟩:∃mk,mk=G2 n d.next dir.2:=⟨_,rfl⟩;refine Dz (h:=Hy (h:=JM (h:=JM (h:=?_))));refine A3 rfl (Gi (y:= .agg (AZ ⟨d.next,n.kind,n.mode,n.uid,n.gid,0,n.target,[]⟩)) (Dn ⟨rfl,rfl⟩) ?_);refine Dz (h:=?_);refine B9 (fun t=>t=⟨look [(2, .v (.string name)),(5, .bp 1 0),(8, .bp 3 0),(15, .bp 8 0),(16, .bp 9 0)],⟨[Al f,AA dir,AZ n,[.v (.slice none 0 0)],AA (AK f dir name).1,Cc d,DB f q d 7 cap cap1,NB d.nodes cap1,[.bs 6 0 2 f.length cap],AZ mk],[]⟩⟩) ?_ ?_
 ·skip
  refine B0 (h:=BN (h:=?_));refine A4 rfl (fun hb8 hc8=>?_) (fun hb8 hc8=>?_)
  ·have hmk2:mk=⟨d.next,n.kind,n.mode,n.uid,n.gid,dir.2,n.target,[]⟩:=by rw[hmk];unfold G2;rw[if_pos hc8]
   refine Aw (Aa (h:=CS (h:=DC (h:=?_))));refine⟨_,rfl,?_⟩;rw[hmk2];exact Bd 10 0 (by simp[AW,AQ,AP,Ci,Cj,AA,AZ,Al,Cc])
  have hmk2:mk=⟨d.next,n.kind,n.mode,n.uid,n.gid,0,n.target,[]⟩:=by rw[hmk];unfold G2;rw[if_neg hc8]
  refine BD (AT (?_));refine⟨_,rfl,?_⟩;rw[hmk2];exact Bd 10 0 (by simp[AW,AQ,AP,Ci,Cj,AA,AZ,Al,Cc])
 rintro t rfl;refine B9 (fun t=>∃capx,(d.nodes++[mk]).length≤capx∧t=⟨look [(2, .v (.string name)),(5, .bp 1 0),(8, .bp 3 0),(15, .bp 8 0),(16, .bp 9 0)],⟨[Al f,AA dir,AZ n,[.v (.slice none 0 0)],AA (AK f dir name).1,Cc d,DB f q {d with nodes:=d.nodes++[mk]} 7 cap capx,NB (d.nodes++[mk]) capx,[.bs 6 0 2 f.length cap],AZ mk],[]⟩⟩) ?_ ?_
 ·skip
  refine BO ([(0,Al f),(1,AA dir),(2,AZ n),(3,[.v (.slice none 0 0)]),(4,AA (AK f dir name).1),(5,Cc d),(6,DB f q d 7 cap cap1),(8,[.bs 6 0 2 f.length cap]),(9,AZ mk)]) 16 (h:=?_);refine FJ 0 rfl (fun h0 hS=>KD rfl ⟨rfl,rfl⟩) ?_
  first|refine FJ 1 rfl (fun h0 hS=>Dl (row:=DB f q d 7 cap cap1) rfl (kb hS rfl) hD0 ⟨rfl,rfl⟩) ?_|refine FJ 1 rfl (fun h0 hS=>Dl rfl (kb hS rfl) rfl ⟨rfl,rfl⟩) ?_
  refine FJ 2 rfl (fun h0 hS=>KD rfl ⟨rfl,rfl⟩) ?_
  first|refine FJ 3 rfl (fun h0 hS=>Dl (row:=DB f q d 7 cap cap1) rfl (kb hS rfl) hD0 ⟨rfl,rfl⟩) ?_|refine FJ 3 rfl (fun h0 hS=>Dl rfl (kb hS rfl) rfl ⟨rfl,rfl⟩) ?_
  refine FJ 4 rfl (fun h0 hS=>KD rfl ⟨rfl,rfl⟩) ?_
  first|refine FJ 5 rfl (fun h0 hS=>Dl (row:=DB f q d 7 cap cap1) rfl (kb hS rfl) hD0 ⟨rfl,rfl⟩) ?_|refine FJ 5 rfl (fun h0 hS=>Dl rfl (kb hS rfl) rfl ⟨rfl,rfl⟩) ?_
  refine FJ 6 rfl (fun h0 hS=>KD rfl ⟨rfl,rfl⟩) ?_
  first|refine FJ 7 rfl (fun h0 hS=>Dl (row:=DB f q d 7 cap cap1) rfl (kb hS rfl) hD0 ⟨rfl,rfl⟩) ?_|refine FJ 7 rfl (fun h0 hS=>Dl rfl (kb hS rfl) rfl ⟨rfl,rfl⟩) ?_
  refine FJ 8 rfl (fun h0 hS=>Dx (m:=q) rfl rfl hdq hql ⟨rfl,rfl⟩) ?_;refine FJ 9 rfl (fun h0 hS=>KD rfl ⟨rfl,rfl⟩) ?_;refine FJ 10 rfl (fun h0 hS=>Dl (row:=DB f q d 7 cap cap1) rfl (kb hS rfl) hD0 ⟨rfl,rfl⟩) ?_
  first|refine FJ 11 rfl (fun h0 hS=>Dl (row:=DB f q d 7 cap cap1) rfl (kb hS rfl) hD0 ⟨rfl,rfl⟩) ?_|refine FJ 11 rfl (fun h0 hS=>KE rfl (kb hS rfl) rfl ⟨rfl,rfl⟩) ?_
  refine FJ 12 rfl (fun h0 hS=>OV (by repeat (first|exact DenseA.nil _|(apply DenseA.cons;(focus exact rfl);(focus exact rfl);(focus exact rfl);(focus exact rfl))|(apply DenseA.consE;(focus exact rfl);(focus exact rfl);(focus exact rfl)))) rfl rfl rfl rfl ⟨rfl,rfl⟩) ?_;refine c_ 13 rfl (NZ rfl rfl rfl (by rw[Ou hcap1];omega) Ll (by omega) (by omega) ?_ ?_)
  ·rintro hg row2 bx2 hs hb;obtain rfl:=Wf hs hg;obtain rfl:bx2=[_,_,_,_,_,_,_,_,_,_]:=hb.one.2;have hgx:(d.nodes++[mk]).length≤cap1:=by simpa using hg
   refine o_ (h:=?_);refine FJ 14 rfl (fun h0 hS=>Dx (m:=q) rfl rfl hdq hql ⟨rfl,rfl⟩) ?_;refine FJ 15 rfl (fun h0 hS=>KD rfl ⟨rfl,rfl⟩) ?_;refine H9 16 rfl (Ed rfl rfl rfl rfl rfl rfl (X0 mk hql) (by repeat constructor) ?_);refine GJ (h:=?_);refine AT ?_
   first|exact⟨_,⟨_,hgx,rfl⟩,GE [0,1,2,3,4,5,6,10,8,9] (fun i hi=>absurd hi (Nat.not_lt_zero i)) (by decide) (.cons _ _ _ _ _ rfl rfl (.cons _ _ _ _ _ rfl rfl (.cons _ _ _ _ _ rfl rfl (.cons _ _ _ _ _ rfl rfl (.cons _ _ _ _ _ rfl rfl (.cons _ _ _ _ _ rfl rfl (.cons _ _ _ _ _ rfl (N8 (by rfl) _ _ _ _ _) (.cons _ _ _ _ _ rfl (Lj _ _ _) (.cons _ _ _ _ _ rfl rfl (.cons _ _ _ _ _ rfl rfl .nil)))))))))) (by repeat (first|exact SubK.nil|refine SubK.cons _ _ _ _ rfl (A7 _) ?_))⟩|exact⟨_,⟨_,hgx,rfl⟩,Bd 10 0 (by simp[AW,AQ,AP,Ci,Cj,AA,AZ,Al,Cc])⟩
  rintro hg cap3 k bx2 hcp3 hs;rw[show((NB d.nodes cap1).drop 0).take (d.nodes.length * 8)++CM (.agg (AZ mk))++List.replicate ((cap3 - (d.nodes.length+1)) * 8) AV.any=NB (d.nodes++[mk]) cap3 from We d.nodes mk cap1 cap3]at hs;obtain⟨rfl,rfl⟩:k=10∧bx2=[_,_,_,_,_,_,_,_,_,_,_]:=hs.eq;have hgx:(d.nodes++[mk]).length≤cap3:=by simpa using hcp3
  refine o_ (h:=?_);refine FJ 14 rfl (fun h0 hS=>Dx (m:=q) rfl rfl hdq hql ⟨rfl,rfl⟩) ?_;refine FJ 15 rfl (fun h0 hS=>KD rfl ⟨rfl,rfl⟩) ?_;refine H9 16 rfl (Ed rfl rfl rfl rfl rfl rfl (X0 mk hql) (by repeat constructor) ?_);refine GJ (h:=?_);refine AT ?_;exact⟨_,⟨_,hgx,rfl⟩,GE [0,1,2,3,4,5,6,10,8,9] (fun i hi=>absurd hi (Nat.not_lt_zero i)) (by decide) (.cons _ _ _ _ _ rfl rfl (.cons _ _ _ _ _ rfl rfl (.cons _ _ _ _ _ rfl rfl (.cons _ _ _ _ _ rfl rfl (.cons _ _ _ _ _ rfl rfl (.cons _ _ _ _ _ rfl rfl (.cons _ _ _ _ _ rfl (N8 (by rfl) _ _ _ _ _) (.cons _ _ _ _ _ rfl (Lj _ _ _) (.cons _ _ _ _ _ rfl rfl (.cons _ _ _ _ _ rfl rfl .nil)))))))))) (by repeat (first|exact SubK.nil|refine SubK.cons _ _ _ _ rfl (A7 _) ?_))⟩
 rintro t ⟨capx,hcapx,rfl⟩;have hasc2:Ey (d.nodes++[mk]):=List.pairwise_append.2 ⟨hvd.asc,List.pairwise_singleton _ _,fun x hx y hy=>by obtain rfl:=List.mem_singleton.1 hy;rw[hmk];exact hvd.lt x hx⟩;have hn2:(d.nodes++[mk])[i]?=some n0:=by rw[DF hil];exact hn0
 have hidx2:Hb (f.set q ⟨d.next+1,d.nodes++[mk]⟩) dir=(i:Int):=TX hdq (d:=⟨d.next+1,d.nodes++[mk]⟩) (by simp[hql]) hasc2 hn2 hino
 have hf2:FlsB (f.set q ⟨d.next+1,d.nodes++[mk]⟩):=hf.set_ (by have:=hvd.len;simp;omega) (fun m hm=>by
  rcases List.mem_append.1 hm with h|h
  ·have:=hvd.many m h;omega
  obtain rfl:=List.mem_singleton.1 h;rw[hmk];simp[G2])
 have hmki:mk.ino=d.next:=by rw[hmk];rfl
 have hmk0:(AZ mk)[0+0]?=some (.v (.int .i64 d.next)):=by rw[hmk];rfl
 refine Hy (h:=?_);refine A3 rfl (Dx (m:=q) rfl rfl hdq hql ?_);refine f_ (h:=?_);refine A3 rfl (Dl rfl rfl (eC hql) ?_);refine A3 rfl (NT rfl rfl (by dsimp only;omega) ?_);refine A3 rfl (Dx (m:=q) rfl rfl hdq hql ?_);refine f_ (h:=?_);refine ME (Ed rfl rfl rfl rfl rfl rfl (T6 (d':=⟨d.next+1,d.nodes++[mk]⟩) (j':=7) (cap1':=capx) (k:=0) (cs:=[.v (.int .i64 (d.next+1))]) hql (by repeat constructor) (by simp)) (by repeat constructor) ?_);refine e_ (Ha (h:=Aa (h:=?_)));refine A3 rfl (Bg [6,7] rfl (.cons _ _ _ _ _ rfl (A7 _) (.cons _ _ _ _ _ rfl (A7 _) (.cons _ _ _ _ _ rfl (A7 _) (.cons _ _ _ _ _ rfl (LeA.of_eq (show AV.v (.int .i64 mk.ino)=_ by rw[hmki])) .nil)))) (by decide) (.cons _ _ _ _ _ rfl (Jr (by rfl) _ _ _ _ _) (.cons _ _ _ _ _ rfl (JQ _ _ _) .nil)) (Wy f q ⟨d.next+1,d.nodes++[mk]⟩ n0 i dir name d.next cap capx hf2 hql hdq hidx2 hn2 hcap hcapx) ?_);rintro r bc tc ⟨rfl,rfl,rfl⟩;refine⟨rfl,_,(Nx (BW rfl) (BW rfl) (by decide) f q ⟨d.next+1,d.nodes++[mk]⟩ (entS (d.nodes++[mk]) i n0 name d.next) cap capx capx:Back _ [6,7] _ [_,_,_,_,_,_,_,_,_,_]),?_⟩;refine e_ (?_);refine B9 (fun t=>t=⟨look [(8, .bp 3 0),(9, .sl 7 [EZ (dir,name,(0,0),(dir.1,d.next))] none),(10, .v (.int .i64 0))],⟨[Al f,AA dir,AZ n,Al (f.set q ⟨d.next+1,entS (d.nodes++[mk]) i n0 name d.next⟩)],[]⟩⟩) ?_ ?_
 ·skip
  refine BO ([(0,Al f),(1,AA dir),(2,AZ n),(4,AA (AK f dir name).1),(5,Cc d),(8,[.bs 6 0 2 f.length cap]),(9,AZ mk)]) 13 (h:=A9 0 (h:=A9 1 (h:=AG 2 (h:=?_))));refine By 3 rfl (fun _ hS=>H7 (y:= .agg (AA (0,0))) (Dn ⟨rfl,rfl⟩) (by repeat (first|exact A7 _|exact LeA.nil _|exact LeL.refl _|refine LeA.agg ⟨rfl,rfl⟩|refine LeA.tup ⟨rfl,rfl⟩|exact LeL.nil|refine LeL.cons ⟨rfl,rfl⟩ ⟨rfl,rfl⟩|exact LeA.any _)) ⟨rfl,rfl⟩) ?_;refine AD 4 (h:=A9 5 (h:=AD 6 (h:=?_)));refine By 7 rfl (fun _ hS=>Dl (row:=AZ mk) rfl (kb hS rfl) hmk0 ⟨rfl,rfl⟩) ?_;refine JE 8 (h:=?_);refine c_ 9 rfl (A8 (N0 dir name (0,0) (dir.1,d.next)) ?_);rintro r rfl;refine o_ (h:=?_);refine B6 10 (h:=BB 11 (h:=BB 12 (h:=z_ (h:=?_))));refine AT ?_;exact⟨_,rfl,H8 4 2 rfl (congrArg (fun x=>[Al f,AA dir,AZ n,x]) (LG (k:=0) (i:=6) (j:=7) (d:=⟨d.next+1,d.nodes++[mk]⟩) (d':=⟨d.next+1,entS (d.nodes++[mk]) i n0 name d.next⟩) hql rfl (Jv _ _ _ _ _) hcap (by rw[Jv];exact hcapx) (BW rfl) (BW rfl) rfl rfl)) (.cons _ _ _ _ rfl (A7 _) (.cons _ _ _ _ rfl (A7 _) (.cons _ _ _ _ rfl (A7 _) .nil)))⟩
 rintro t rfl;refine B5 (?_);refine A6 ?_;rw[List.length_map]at hc5;rw[Ez,if_neg (by omega),if_neg hpn,if_neg (by omega),hatI];simp only;rw[if_neg (by rw[hc7];simp;omega),hdq,Int.toNat_natCast,←hino,←Ny hvd hn0,hino,←hmk,show entS d.nodes i n0 name d.next++[mk]=entS (d.nodes++[mk]) i n0 name d.next by unfold entS;rw[List.set_append_left _ _ hil],←hdq];rfl
end
theorem TZ(f:AR)(hf:FlsB f):AFn prog 182 [.agg (Al f)] (fun r=>r= .agg (Al f)):=by
 intro w St bl vs hr hv;have hbl:bl=[]:=by have:=hr.bxlen;simpa using this
 subst hbl;simp only[AM]at hv;obtain⟨z,zs,rfl,hz,rfl⟩:=hv;have hz':Ak St w (.agg (Al f)) z:=by have:=Je _ _ hz;simpa[DX,Er,Al]using this
 have hF:=WJ hr.stlt hf hz';refine Calls.mono (Old.Copy_any z f w hF) ?_;rintro e w' ⟨dv,L,rfl,hD,hL,hB⟩;have hsz:=hB.size;obtain⟨d1,d2,d3,d4⟩:=hD;let St':Nat→Nat→Prop:=fun b o=>St b o∨(w.heap.size≤b∧b<w'.heap.size);let G':Gh:=⟨St',[],[]⟩;have hfresh:∀{α:Type} {sz:Nat} {cell:α→Nat→Value} {E:TypeId} {v:Value} {xs:List α},Old.OwnL sz cell E w' w.heap.size v xs→∀b,v.ownBlock=some b→∀o,St' b o:=fun h b hb o=> .inr (h.lt b hb)
 have hents:∀(y:Nod×Value),Old.OwnL 2 Old.entCell 234 w' w.heap.size y.2 y.1.entries→Ak St' w' (.sl 2 (y.1.entries.map Dt) none) y.2:=by
  intro y hy;refine On hy (hfresh hy) (fun _ _=>rfl) fun e _ j av hj=>?_
  match j,hj with
  |0,hj=>injection hj with hj;subst hj;simp only[Ak];rfl
  |1,hj=>injection hj with hj;subst hj;simp only[Ak];rfl
 have hnod:∀(y:Nod×Value),Old.OwnL 2 Old.entCell 234 w' w.heap.size y.2 y.1.entries→∀j av,(AZ y.1)[j]?=some av→Ak St' w' av (Old.nodCell y j):=by
  intro y hy j av hj
  match j,hj with
  |0,hj=>injection hj with hj;subst hj;simp only[Ak];rfl
  |1,hj=>injection hj with hj;subst hj;simp only[Ak];rfl
  |2,hj=>injection hj with hj;subst hj;simp only[Ak];rfl
  |3,hj=>injection hj with hj;subst hj;simp only[Ak];rfl
  |4,hj=>injection hj with hj;subst hj;simp only[Ak];rfl
  |5,hj=>injection hj with hj;subst hj;simp only[Ak];rfl
  |6,hj=>injection hj with hj;subst hj;simp only[Ak];rfl
  |7,hj=>injection hj with hj;subst hj;exact hents y hy
  |j+8,hj=>exact absurd hj (by simp[AZ])
 have hdev:Ak St' w' (.sl 2 (L.map fun x=>Cc (Old.dvcOf x)) none) dv:=by
  refine On d1 (hfresh d1) (fun _ _=>rfl) fun x hx j av hj=>?_;obtain⟨f1,f2,f3⟩:=(d2 x hx).1
  match j,hj with
  |0,hj=>injection hj with hj;subst hj;simp only[Ak];rfl
  |1,hj=>
    injection hj with hj;subst hj;have key:=On f1 (St:=St') (hfresh f1) (enc:=fun y=>AZ y.1) (fun _ _=>rfl) fun z hz j av hj=>hnod z (f2 z hz).1 j av hj;have e:((Old.dvcOf x).nodes.map AZ)=x.2.2.map fun y=>AZ y.1:=by simp[Old.dvcOf]
    rw[e];exact key
  |j+2,hj=>exact absurd hj (by simp[Cc])
 have hst:∀b o,St b o→b<w.heap.size:=hr.stlt;refine⟨.agg (Al f),[],[],G',⟨rfl,rfl,rfl⟩,⟨?_,?_,?_,?_,rfl,?_,?_,?_,?_,rfl,?_,?_,?_⟩,⟨?_,?_,?_⟩,?_⟩
 ·intro i b hi;simp at hi
 ·exact⟨hB.os,hB.tape,hB.output,hB.size,fun k hk _=>hB.block k hk⟩
 ·rintro b o (h|h)
  ·have:=hst b o h;omega
  exact h.2
 ·rintro b o (h|h)
  ·exact .inl h
  exact .inr h.1
 ·show([]:List Nat).Nodup;simp
 ·intro b hb;simp[G']at hb
 ·intro b hb;simp[G']at hb
 ·intro i b row hi;simp[G']at hi
 ·intro g n u T sz rows hg;simp[G']at hg
 ·intro g n u hg;simp[G']at hg
 ·intro g g' n n' u u' hg;simp[G']at hg
 ·exact fun b o h=>⟨.inl h,hB.cell (p:=⟨b,o,none⟩) (hst b o h)⟩
 ·intro i b hi;simp at hi
 ·intro g n u hg;simp at hg
 refine Ka _ _ ?_;unfold Al;rw[←hL,Old.flsOf,List.map_map];simp only[Ak,Bb];have hdev2:Ak St' w' (.sl 2 (L.map (Cc ∘ Old.dvcOf)) none) dv:=hdev;simp only[Ak]at hdev2;exact⟨[dv],rfl,dv,[],rfl,hdev2,rfl⟩
def PF(f:AR)(a top:AB):Bool:=LA f top 17 a
def JS:List Int:=[2,20,22]
def Jw(a b:Int):Int:=if a=2∨b=2 then 2 else if a=20∨b=20 then 20 else if a=22∨b=22 then 22 else 0
theorem X3{a b:Int}{j:Nat}{x:Int}(hx:JS[j]?=some x)(ha:∀i y,i<j→JS[i]?=some y→¬(a=y∨b=y))(h:a=x∨b=x):Jw a b=x:=by
 unfold Jw
 match j,hx with
 |0,hx=>injection hx with hx;subst hx;rw[if_pos h]
 |1,hx=>
   injection hx with hx;subst hx;rw[if_neg (ha 0 2 (by omega) rfl),if_pos h]
 |2,hx=>
   injection hx with hx;subst hx;rw[if_neg (ha 0 2 (by omega) rfl),if_neg (ha 1 20 (by omega) rfl),if_pos h]
 |j+3,hx=>exact absurd hx (by simp[JS])
theorem X4(f:AR)(a:AB)(name:AE):Cb f a name=0∨Cb f a name=2∨Cb f a name=20∨Cb f a name=22:=by
 unfold Cb;split
 ·exact .inr (.inl rfl)
 split
 ·split
  ·exact .inl rfl
  exact .inr (.inr (.inr rfl))
 exact .inr (.inr (.inl rfl))
theorem gC{a b:Int}(ha:∀i y,i<3→JS[i]?=some y→¬(a=y∨b=y)):Jw a b=0:=by
 unfold Jw;rw[if_neg (ha 0 2 (by omega) rfl),if_neg (ha 1 20 (by omega) rfl),if_neg (ha 2 22 (by omega) rfl)]
theorem Ta{f:AR}{x y:AB}{name name2:AE}(h:Jw (Cb f x name) (Cb f y name2)=0):Cb f x name=0∧Cb f y name2=0:=by
 unfold Jw at h;split at h
 ·omega
 split at h
 ·omega
 split at h
 ·omega
 rename_i h1 h2 h3;have a:=X4 f x name;have b:=X4 f y name2;omega
def F1(f:AR)(src to:AB)(a o:AB)(e:Int):Int:=
 if e=0 then(if Af f o=true∧Af f a=false then 21 else if Af f o=false∧Af f a=true then 20 else if Af f o=true∧MJ f o=false then 39 else 0)else if Lf f to=true∧src≠to then 28 else 0
def NC(ns:List Nod)(src:AB)(name:AE)(to:AB)(name2:AE)(a o:AB)(e:Int):List Nod:=
 if e=0 then C3 (Bc (Bc ns src.2 name 0) to.2 name2 a.2) o.2 else Bc (Bc ns src.2 name 0) to.2 name2 a.2
def LH(ns:List Nod)(i:Int)(p:Int)(b:Bool):List Nod:=if b=true then Cv ns i (fun n=>{n with parent:=p})else ns
def Fn(f:AR)(src:AB)(name:AE)(to:AB)(name2:AE):Ex:=
 if Jw (Cb f src name) (Cb f to name2)≠0 then([],[],Jw (Cb f src name) (Cb f to name2))else if(AK f src name).2≠0 then([],[],(AK f src name).2)else if src.1≠to.1 then([],[],18)else
 if Af f (AK f src name).1=true∧PF f to (AK f src name).1=true then([],[],22)else if(AK f to name2).2=0∧(AK f to name2).1=(AK f src name).1 then(f,[],0)else
 if F1 f src to (AK f src name).1 (AK f to name2).1 (AK f to name2).2≠0 then([],[],F1 f src to (AK f src name).1 (AK f to name2).1 (AK f to name2).2)else
 (JR f to.1.toNat fun ns=>LH (NC ns src name to name2 (AK f src name).1 (AK f to name2).1 (AK f to name2).2) (AK f src name).1.2 to.2 (Af f (AK f src name).1),[(src,name,(AK f src name).1,(0,0)),(to,name2,(AK f to name2).1,(AK f src name).1)],0)
theorem gD(f:AR):LeA (.tup [.agg (Al f), .v (.slice none 0 0), .v (.int .i64 0)]) (Cd (f,[],0)):=LeA.tup (.cons (A7 _) (.cons (LeA.nil 7) (.cons (A7 _) .nil)))
theorem gE{n:Nat}{bx:List (List AV)}{k i j:Nat}{f:AR}{q:Nat}{d:Dvc}{cap cap0 cap1:Nat}(hq:q<f.length)(hc:f.length≤cap)(hc1:d.nodes.length≤cap1)(hni:n≤i)(hnj:n≤j)
    (hi:bx[i]?=some (DB f q d j cap cap1)) (hj:bx[j]?=some (NB d.nodes cap1)):Et (EV n bx (k+2)) (.agg [.bs i 0 2 f.length cap0])= .agg (Al (f.set q d)):=by
 have key:=MS (n:=n) (bx:=bx) (k:=k) (i:=i) (j:=j) (f:=f.set q d) (K:=q) (d:=d) (cap:=cap) (cap0:=cap0) (cap1:=cap1) (by simp[hq]) (by simpa using hc) hc1 hni hnj (by rw[hi,T7]) hj;rw[List.length_set]at key;exact key
theorem gF{n:Nat}{bx:List (List AV)}{k j sz cap:Nat}{rows:List (List AV)}(hn:n≤j)(hj:bx[j]?=some (CU sz cap rows))(hp:∀r∈rows,∀x∈r,∃v,x= .v v):EV n bx (k+1) j=some (CU sz cap rows):=by
 have:Nat.blt j n=false:=by rw[←Bool.not_eq_true,Nat.blt_eq];omega
 simp only[EV,this,hj,Option.map_some,Oq];rw[Ot _ rfl]
 congr 2
 conv=>rhs;rw[←List.map_id rows]
 apply List.map_congr_left;intro r hr
 conv=>rhs;rw[id,←List.map_id r]
 apply List.map_congr_left;intro x hx;obtain⟨v,rfl⟩:=hp r hr x hx;rfl
theorem gG(l:List Lc):∀r∈l.map EZ,∀x∈r,∃v,x= .v v:=by
 intro r hr x hx;obtain⟨c,_,rfl⟩:=List.mem_map.1 hr;simp[EZ]at hx;rcases hx with h|h|h|h|h|h|h<;>exact⟨_,h⟩
theorem gH(l:List Lc):∀r∈l.map EZ,r.length=7:=by
 intro r hr;obtain⟨c,_,rfl⟩:=List.mem_map.1 hr;rfl
theorem gJ{bx:List (List AV)}(bc:List (List AV))(h:∀r∈bc,∀x∈r,∃v,x= .v v):Back bx [] bc (bx++bc):=by
 refine⟨by simp,fun i row _ h=>?_,fun k i row h=>by simp at h,fun k row hk=>?_⟩
 ·rw[DF (Ab.1 h).1];exact h
 rw[Ep (by omega),show bx.length+k - bx.length=k by omega];simp only[List.length_nil,Nat.zero_add]at hk;rw[hk,Oo]
 congr 1
 conv=>lhs;rw[←List.map_id row]
 apply List.map_congr_left;intro x hx;obtain⟨v,rfl⟩:=h row (Aj hk) x hx;rfl
theorem Tc{d:Dvc}(hd:Ey d.nodes){i:Nat}{n0:Nod}(hn:d.nodes[i]?=some n0)(name:AE)(ino:Int):entS d.nodes i n0 name ino=Bc d.nodes n0.ino name ino:=by
 unfold entS Bc;rw[←PB hd hn];rfl
section
theorem gK(d:AB)(name:AE)(o n:AB):ACall prog 233 [.agg (AA d), .v (.string name), .agg (AA o), .agg (AA n)] [] (fun r b t=>t=[]∧r= .bs 3 0 7 1 1∧b=[AA d,AA o,AA n,EZ (d,name,o,n)]):=by
 refine enter Tryz.func233 rfl rfl rfl rfl rfl 4 rfl ?_;refine Fd (h:=b_ (h:=B4 (h:=FR (h:=Hz (h:=Bi (h:=?_))))));refine A3 rfl (aW (k:=3) rfl rfl rfl rfl (by repeat constructor) ?_);refine B8 (h:=?_);refine AU (r:= .bs 3 0 7 1 1) none (h5:=(A7 _)) (h6:=⟨rfl,rfl,rfl⟩)
end
theorem X5{n:Nat}{g:Nat→Option (List AV)}{j sz m cap0 cap:Nat}{rows:List (List AV)}(hn:n≤j)(hg:g j=some (CU sz cap rows))(hr:∀r∈rows,r.length=sz)(hm:m=rows.length)(hc:rows.length≤cap):Gf n g (.bs j 0 sz m cap0)= .sl sz rows none:=by
 have:Nat.blt j n=false:=by rw[←Bool.not_eq_true,Nat.blt_eq];omega
 simp only[Gf,this];exact Sz hg hr hm hc
theorem gL(a b c:AB)(x:Lc):∀r∈[AA a,AA b,AA c,EZ x],∀y∈r,∃v,y= .v v:=by
 intro r hr y hy;simp only[List.mem_cons,List.not_mem_nil,or_false]at hr;rcases hr with rfl|rfl|rfl|rfl
 ·simp[AA]at hy;rcases hy with h|h<;>exact⟨_,h⟩
 ·simp[AA]at hy;rcases hy with h|h<;>exact⟨_,h⟩
 ·simp[AA]at hy;rcases hy with h|h<;>exact⟨_,h⟩
 simp[EZ]at hy;rcases hy with h|h|h|h|h|h|h<;>exact⟨_,h⟩
theorem X6{j:Nat}{x:Int}(hx:JS[j]?=some x):x≠0:=by
 match j,hx with
 |0,hx=>injection hx with hx;omega
 |1,hx=>injection hx with hx;omega
 |2,hx=>injection hx with hx;omega
 |j+3,hx=>exact absurd hx (by simp[JS])
theorem Td{ns:List Nod}{i k:Nat}{n0 m:Nod}(hi:ns[i]?=some n0)(hk:ns[k]?=some m)(name:AE)(ino:Int):∃m',(entS ns i n0 name ino)[k]?=some m'∧m'.ino=m.ino∧m'.entries.length≤m.entries.length+1:=by
 unfold entS;rw[List.getElem?_set];split
 ·rename_i e;subst e;rw[hi]at hk;injection hk with hk;subst hk;exact⟨{n0 with entries:=D4 n0.entries name ino},by rw[if_pos (Ab.1 hi).1],rfl,TU _ _ _⟩
 exact⟨m,hk,rfl,by omega⟩
theorem X7{ns:List Nod}{i:Nat}{n0:Nod}(hi:ns[i]?=some n0){name:AE}{ino:Int}{m':Nod}(hm:m'∈entS ns i n0 name ino):∃m∈ns,m'.ino=m.ino∧m'.entries.length≤m.entries.length+1:=by
 rcases List.mem_or_eq_of_mem_set hm with h|h
 ·exact⟨m',h,rfl,by omega⟩
 subst h;exact⟨n0,Aj hi,rfl,TU _ _ _⟩
theorem X8{ns:List Nod}(h:Ey ns){i:Nat}{n0:Nod}(hn:ns[i]?=some n0)(name:AE)(ino:Int):Ey (entS ns i n0 name ino):=by
 have:=Tc (d:=⟨0,ns⟩) h hn name ino;simp only at this;rw[this];exact Nv h _ _ _
theorem gM(f:AR)(q:Nat)(d d':Dvc)(n:Nod)(i:Nat)(a:AB)(name:AE)(ino:Int)(cap cap1:Nat)(hf:FlsB (f.set q d'))(hq:q<f.length)(ha:a.1=(q:Int))(hi:Hb (f.set q d') a=(i:Int))(hn:d'.nodes[i]?=some n)(hcap:f.length≤cap)(hcap1:d'.nodes.length≤cap1)(hnx:d'.next=d.next)(hl:d'.nodes.length=d.nodes.length):
    ACall prog 232 [.agg [.bs 0 0 2 f.length cap], .agg (AA a), .v (.string name), .v (.int .i64 ino)] [DB f q d 1 cap cap1,NB d'.nodes cap1] (fun r b t=>t=[]∧r= .tup []∧b=[DB f q ⟨d.next,entS d'.nodes i n name ino⟩ 1 cap cap1,NB (entS d'.nodes i n name ino) cap1]):=by
 have key:=Wy f q d' n i a name ino cap cap1 hf hq ha hi hn hcap hcap1;have e1:DB f q d' 1 cap cap1=DB f q d 1 cap cap1:=by unfold DB Hf KM;rw[hnx,hl]
 have e2:DB f q d 1 cap cap1=DB f q ⟨d.next,entS d'.nodes i n name ino⟩ 1 cap cap1:=by unfold DB Hf KM;rw[Jv,hl]
 rw[e1]at key;exact key.mono fun r b t ⟨h1,h2,h3⟩=>⟨h1,h2,by rw[h3,e2]⟩
theorem gN{f:AR}(hv:FlsV f){q:Nat}{d:Dvc}(hq:f[q]?=some d){i i2:Nat}{n1 n2:Nod}(hn1:d.nodes[i]?=some n1)(hn2:d.nodes[i2]?=some n2)(name name2:AE)(ai:Int)(ha:∃m∈d.nodes,m.ino=ai):
    ∃(X1 X2:List Nod) (m2:Nod),X1=entS d.nodes i n1 name 0∧X1[i2]?=some m2∧m2.ino=n2.ino∧X2=entS X1 i2 m2 name2 ai∧Ey X1∧Ey X2∧X1.length=d.nodes.length∧X2.length=d.nodes.length∧X2=Bc (Bc d.nodes n1.ino name 0) n2.ino name2 ai∧
     FlsB (f.set q ⟨d.next,X1⟩)∧FlsB (f.set q ⟨d.next,X2⟩)∧(∀m∈X2,m.entries.length≤1000)∧(∃m∈X2,m.ino=1)∧∃m∈X2,m.ino=ai:=by
 have hd:=hv.vd d (Aj hq);obtain⟨m2,hm2,hi2,hl2⟩:=Td hn1 hn2 name 0;have e1:=Tc hd.asc hn1 name 0;have a1:=X8 hd.asc hn1 name 0;have e2:=Tc (d:=⟨0,entS d.nodes i n1 name 0⟩) a1 hm2 name2 ai;simp only at e2;have a2:=X8 a1 hm2 name2 ai
 have hb2:∀m∈entS (entS d.nodes i n1 name 0) i2 m2 name2 ai,m.entries.length≤1000:=fun m hm=>by
  obtain⟨m',h1,_,h2⟩:=X7 hm2 hm;obtain⟨m'',h3,_,h4⟩:=X7 hn1 h1;have:=hd.many m'' h3;omega
 have hmem:∀x:Int,(∃m∈d.nodes,m.ino=x)→∃m∈entS (entS d.nodes i n1 name 0) i2 m2 name2 ai,m.ino=x:=by
  rintro x ⟨m,hm,rfl⟩;obtain⟨k,hk⟩:=List.getElem?_of_mem hm;obtain⟨m',h1,h2,_⟩:=Td hn1 hk name 0;obtain⟨m'',h3,h4,_⟩:=Td hm2 h1 name2 ai;exact⟨m'',Aj h3,h4.trans h2⟩
 obtain⟨r,hr,hr1,_⟩:=hd.rootMem;refine⟨_,_,m2,rfl,hm2,hi2,rfl,a1,a2,Jv _ _ _ _ _,by rw[Jv,Jv],by rw[e2,e1,hi2],hv.entS hq hn1 name 0,hv.b.set_ ?_ hb2,hb2,hmem 1 ⟨r,hr,hr1⟩,hmem ai ha⟩;show(entS _ _ _ _ _).length≤1000;rw[Jv,Jv];have:=hd.len;omega
section
theorem gO(f:AR)(src:AB)(name:AE)(to:AB)(name2:AE)(hv:FlsV f)(hs:name.size≤100000)(hs2:name2.size≤100000):AFn prog 175 [.agg (Al f), .agg (AA src), .v (.string name), .agg (AA to), .v (.string name2)] (fun r=>r=Cd (Fn f src name to name2)):=by
 have hf:=hv.b;have P1:=Nh f src name hf hs;have P2:=Nh f to name2 hf hs2;have L1:=Kk f src name hf;have L2:=Kk f to name2 hf;obtain⟨pa,hpa⟩:∃x,Cb f src name=x:=⟨_,rfl⟩;obtain⟨pb,hpb⟩:∃x,Cb f to name2=x:=⟨_,rfl⟩;obtain⟨⟨A,e1⟩,hl1⟩:∃x,AK f src name=x:=⟨_,rfl⟩;obtain⟨⟨O,e2⟩,hl2⟩:∃x,AK f to name2=x:=⟨_,rfl⟩;rw[hpa]at P1;rw[hpb]at P2;rw[hl1]at L1;rw[hl2]at L2;simp only at L1 L2
 have hRen:Fn f src name to name2=(if Jw pa pb≠0 then([],[],Jw pa pb)else if e1≠0 then([],[],e1)else if src.1≠to.1 then([],[],18)else
     if Af f A=true∧PF f to A=true then([],[],22)else if e2=0∧O=A then(f,[],0)else if F1 f src to A O e2≠0 then([],[],F1 f src to A O e2)else
     (JR f to.1.toNat fun ns=>LH (NC ns src name to name2 A O e2) A.2 to.2 (Af f A),[(src,name,A,(0,0)),(to,name2,O,A)],0)):=by
  unfold Fn;rw[hpa,hpb,hl1,hl2]
 have hol:JS.length=3:=rfl;refine enter Tryz.func175 rfl rfl rfl rfl rfl 0 rfl ?_;refine w_ (b_ (h:=b_ (h:=b_ (h:=CY (h:=a_ (h:=a_ (h:=e_ (q_ (Dd 10 (h:=A9 0 (h:=A9 1 (h:=AG 2 (h:=A9 4 (h:=A9 5 (h:=AG 6 (h:=?_))))))))))))))));refine c_ 3 rfl (A8 (P1) ?_);rintro r rfl;refine o_ (h:=?_);refine c_ 7 rfl (A8 (P2) ?_);rintro r rfl;refine o_ (h:=BB 8 (h:=BB 9 (h:=z_ (h:=t_ (w_ (BY (h:=a_ (h:=e_ (q_ (w_ (a_ (h:=e_ (BK (?_))))))))))))));refine BU (fun m t=>∃j:Nat,j≤JS.length∧m=JS.length - j∧(∀i y,i<j→JS[i]?=some y→¬(pa=y∨pb=y))∧t=⟨look [(2, .v (.string name)),(4, .v (.string name2)),(5, .bp 0 0),(6, .bp 1 0),(8, .bp 2 0),(10, .bp 3 0),(13, .v (.int .i64 pa)),(14, .v (.int .i64 pb)),(15, .sl 1 (JS.map C7) none),(16, .v (.int .i64 (j:Int)))],⟨[Al f,AA src,AA to,[.v (.slice none 0 0)]],[]⟩⟩) (JS.length) ((wk 4 0)) (⟨0,BH _,rfl,fun i y hi=>by omega,rfl⟩) ?_;rintro m t ⟨j,hj,rfl,ha,rfl⟩;refine Dq (h:=Gm (h:=?_));refine A4 rfl (fun hb1 hc1=>?_) (fun hb1 hc1=>?_)
 ·obtain⟨hlt,x,hx,hrow, -⟩:=C1 C7 (l:=JS) hc1;refine C0 (h:=E9 (h:=Fw (h:=l_ (h:=Dy (h:=?_)))));refine AJ false rfl rfl (fun hb2 hc2=>?_) (fun hb2 hc2=>?_)
  ·refine BT (h:=B7 (h:=DY (h:=CX (h:=q_ (?_)))));refine Pk (fun _=>True) 8 (by kernel_rfl) ?_;refine Ga (i:=0) rfl rfl (by kernel_rfl) (by first|rfl|exact BM rfl rfl (ET ‹_›)|exact BM rfl rfl (EU ‹_›)|exact BM rfl rfl (by simp[*])) (fun h0 hS=>Dn ⟨rfl,rfl⟩) trivial ?_;refine Ga (i:=1) rfl rfl (by kernel_rfl) (by first|rfl|exact BM rfl rfl (ET ‹_›)|exact BM rfl rfl (EU ‹_›)|exact BM rfl rfl (by simp[*])) (fun h0 hS=>L3 rfl ⟨rfl,rfl⟩) trivial ?_;refine Ga (i:=2) rfl rfl (by kernel_rfl) (by first|rfl|exact BM rfl rfl (ET ‹_›)|exact BM rfl rfl (EU ‹_›)|exact BM rfl rfl (by simp[*])) (fun h0 hS=>L3 rfl ⟨rfl,rfl⟩) trivial ?_;refine Ga (i:=3) rfl rfl (by kernel_rfl) (by first|rfl|exact BM rfl rfl (ET ‹_›)|exact BM rfl rfl (EU ‹_›)|exact BM rfl rfl (by simp[*])) (fun h0 hS=>D7 rfl rfl rfl (by first|assumption|rfl) ⟨rfl,rfl⟩) trivial ?_;refine Ga (i:=4) rfl rfl (by kernel_rfl) (by first|rfl|exact BM rfl rfl (ET ‹_›)|exact BM rfl rfl (EU ‹_›)|exact BM rfl rfl (by simp[*])) (fun h0 hS=>NP rfl rfl ⟨rfl,rfl⟩) trivial ?_;refine H9 5 rfl (Ed rfl rfl rfl rfl rfl rfl (by repeat constructor) (by repeat constructor) ?_);refine⟨.inr trivial,?_⟩;refine Ga (i:=6) rfl rfl (by kernel_rfl) (by first|rfl|exact BM rfl rfl (ET ‹_›)|exact BM rfl rfl (EU ‹_›)|exact BM rfl rfl (by simp[*])) (fun h0 hS=>Hr rfl ⟨rfl,rfl⟩) trivial ?_;refine Ga (i:=7) rfl rfl (by kernel_rfl) (by first|rfl|exact BM rfl rfl (ET ‹_›)|exact BM rfl rfl (EU ‹_›)|exact BM rfl rfl (by simp[*])) (fun h0 hS=>Hr rfl ⟨rfl,rfl⟩) trivial ?_;refine z_ (h:=t_ (B5 (D1 (h:=CT (h:=?_)))));refine AU (r:=Cd (Fn f src name to name2)) none (h5:=?_) (h6:=⟨rfl,rfl,rfl⟩);rw[hRen,show Jw pa pb=x from X3 hx ha (.inl hc2),if_pos (X6 hx)];exact EM _
  refine m_ (h:=m_ (h:=Fw (h:=l_ (h:=EG (h:=CH (h:=?_))))));refine A4 rfl (fun hb3 hc3=>?_) (fun hb3 hc3=>?_)
  ·refine q_ (?_);refine Pk (fun _=>True) 8 (by kernel_rfl) ?_;refine Ga (i:=0) rfl rfl (by kernel_rfl) (by first|rfl|exact BM rfl rfl (ET ‹_›)|exact BM rfl rfl (EU ‹_›)|exact BM rfl rfl (by simp[*])) (fun h0 hS=>Dn ⟨rfl,rfl⟩) trivial ?_;refine Ga (i:=1) rfl rfl (by kernel_rfl) (by first|rfl|exact BM rfl rfl (ET ‹_›)|exact BM rfl rfl (EU ‹_›)|exact BM rfl rfl (by simp[*])) (fun h0 hS=>L3 rfl ⟨rfl,rfl⟩) trivial ?_;refine Ga (i:=2) rfl rfl (by kernel_rfl) (by first|rfl|exact BM rfl rfl (ET ‹_›)|exact BM rfl rfl (EU ‹_›)|exact BM rfl rfl (by simp[*])) (fun h0 hS=>L3 rfl ⟨rfl,rfl⟩) trivial ?_;refine Ga (i:=3) rfl rfl (by kernel_rfl) (by first|rfl|exact BM rfl rfl (ET ‹_›)|exact BM rfl rfl (EU ‹_›)|exact BM rfl rfl (by simp[*])) (fun h0 hS=>D7 rfl rfl rfl (by first|assumption|rfl) ⟨rfl,rfl⟩) trivial ?_;refine Ga (i:=4) rfl rfl (by kernel_rfl) (by first|rfl|exact BM rfl rfl (ET ‹_›)|exact BM rfl rfl (EU ‹_›)|exact BM rfl rfl (by simp[*])) (fun h0 hS=>NP rfl rfl ⟨rfl,rfl⟩) trivial ?_;refine H9 5 rfl (Ed rfl rfl rfl rfl rfl rfl (by repeat constructor) (by repeat constructor) ?_);refine⟨.inr trivial,?_⟩;refine Ga (i:=6) rfl rfl (by kernel_rfl) (by first|rfl|exact BM rfl rfl (ET ‹_›)|exact BM rfl rfl (EU ‹_›)|exact BM rfl rfl (by simp[*])) (fun h0 hS=>Hr rfl ⟨rfl,rfl⟩) trivial ?_;refine Ga (i:=7) rfl rfl (by kernel_rfl) (by first|rfl|exact BM rfl rfl (ET ‹_›)|exact BM rfl rfl (EU ‹_›)|exact BM rfl rfl (by simp[*])) (fun h0 hS=>Hr rfl ⟨rfl,rfl⟩) trivial ?_;refine z_ (h:=t_ (B5 (D1 (h:=CT (h:=?_)))));refine AU (r:=Cd (Fn f src name to name2)) none (h5:=?_) (h6:=⟨rfl,rfl,rfl⟩);rw[hRen,show Jw pa pb=x from X3 hx ha (.inr hc3),if_pos (X6 hx)];exact EM _
  refine DH (h:=?_);refine⟨_,_,?_,⟨j+1,hlt,rfl,GL hx ha (not_or.2 ⟨hc2,hc3⟩),rfl⟩,(wk 4 0)⟩;omega
 have e3:=CF C7 (l:=JS) hj hc1;subst e3;have hord:Jw pa pb=0:=gC ha;obtain⟨hpl1,hpl2⟩:=Ta (f:=f) (x:=src) (y:=to) (name:=name) (name2:=name2) (by rw[hpa,hpb];exact hord);refine CJ (h:=Ha (h:=?_));refine A3 rfl (A8 (L1) ?_);rintro r rfl;refine JG (h:=Bo (h:=?_));refine A4 rfl (fun hb4 hc4=>?_) (fun hb4 hc4=>?_)
 ·refine w_ (Gw (h:=EO (h:=?_)));refine AU (r:=Cd (Fn f src name to name2)) none (h5:=?_) (h6:=⟨rfl,rfl,rfl⟩);rw[hRen,if_neg (by rw[hord];simp),if_pos hc4];exact EM _
 have he1:e1=0:=by omega
 refine DQ (h:=C6 (h:=e_ (?_)));refine A4 rfl (fun hb5 hc5=>?_) (fun hb5 hc5=>?_)
 ·refine Ew (h:=?_);refine AU (r:=Cd (Fn f src name to name2)) none (h5:=?_) (h6:=⟨rfl,rfl,rfl⟩);rw[hRen,if_neg (by rw[hord];simp),if_neg (by simp[he1]),if_pos hc5];exact EM _
 refine AF (CN (h:=?_));refine A3 rfl (A8 (Ki f A hf) ?_);rintro r rfl;refine B4 (h:=?_);refine B9 (fun t=>(Af f A=true→PF f to A=false)∧t=⟨look [(2, .v (.string name)),(4, .v (.string name2)),(5, .bp 0 0),(6, .bp 1 0),(8, .bp 2 0),(10, .bp 3 0),(17, .bp 4 0),(19, .v (.bool (Af f A)))],⟨[Al f,AA src,AA to,[.v (.slice none 0 0)],AA A],[]⟩⟩) ?_ ?_
 ·skip
  refine E9 (h:=?_);refine AJ true rfl rfl (fun hb6 hc6=>?_) (fun hb6 hc6=>?_)
  ·refine Hz (h:=l_ (h:=?_));refine Aq (A8 (cU f to A hf) ?_);rintro r rfl;refine DY (h:=?_);refine A4 rfl (fun hb7 hc7=>?_) (fun hb7 hc7=>?_)
   ·refine Ew (h:=?_);refine AU (r:=Cd (Fn f src name to name2)) none (h5:=?_) (h6:=⟨rfl,rfl,rfl⟩);rw[hRen,if_neg (by rw[hord];simp),if_neg (by simp[he1]),if_neg (by simp[hc5]),if_pos ⟨hc6,hc7⟩];exact EM _
   have hbl:Af f A=true→PF f to A=false:=fun _=>hc7;refine BD (AT (?_));exact⟨_,⟨hbl,rfl⟩,(wk 5 0)⟩
  have hbl:Af f A=true→PF f to A=false:=fun h=>absurd (h.symm.trans hc6) (by decide);refine BT (h:=FQ (h:=BD (AT (?_))));exact⟨_,⟨hbl,rfl⟩,(wk 5 0)⟩
 rintro t ⟨hbl,rfl⟩;refine Ha (h:=?_);refine A3 rfl (A8 (L2) ?_);rintro r rfl;refine FC (h:=B4 (h:=?_));refine B9 (fun t=>(e2=0→O≠A)∧t=⟨look [(2, .v (.string name)),(4, .v (.string name2)),(5, .bp 0 0),(6, .bp 1 0),(8, .bp 2 0),(10, .bp 3 0),(17, .bp 4 0),(18, .v (.int .i64 e2)),(19, .v (.bool (Af f A))),(20, .bp 5 0)],⟨[Al f,AA src,AA to,[.v (.slice none 0 0)],AA A,AA O],[]⟩⟩) ?_ ?_
 ·skip
  refine AX (h:=Dy (h:=?_));refine AJ true rfl rfl (fun hb8 hc8=>?_) (fun hb8 hc8=>?_)
  ·refine Hz (h:=?_);refine Aq (JB rfl rfl (by repeat constructor) (by repeat constructor) (fun w=>Of _ _ _ _ w) (by kernel_rfl) ?_);refine DY (h:=?_);refine A4 rfl (fun hb9 hc9=>?_) (fun hb9 hc9=>?_)
   ·refine C5 (h:=?_);refine A3 rfl (A8 (TZ f hf) ?_);rintro r rfl;refine s_ (h:=EO (h:=?_));refine AU (r:=Cd (Fn f src name to name2)) none (h5:=?_) (h6:=⟨rfl,rfl,rfl⟩);rw[hRen,if_neg (by rw[hord];simp),if_neg (by simp[he1]),if_neg (by simp[hc5]),if_neg (fun h=>absurd h.2 (by rw[hbl h.1];decide)),if_pos ⟨hc8,hc9⟩];exact gD _
   have hoa:e2=0→O≠A:=fun _=>hc9;refine BD (AT (?_));exact⟨_,⟨hoa,rfl⟩,(wk 6 0)⟩
  have hoa:e2=0→O≠A:=fun h=>absurd h hc8;refine D8 (h:=e_ (Hv (h:=BD (AT (?_)))));exact⟨_,⟨hoa,rfl⟩,(wk 6 0)⟩
 rintro t ⟨hoa,rfl⟩;refine B9 (fun t=>F1 f src to A O e2=0∧t=⟨look [(2, .v (.string name)),(4, .v (.string name2)),(5, .bp 0 0),(6, .bp 1 0),(8, .bp 2 0),(10, .bp 3 0),(17, .bp 4 0),(18, .v (.int .i64 e2)),(19, .v (.bool (Af f A))),(20, .bp 5 0)],⟨[Al f,AA src,AA to,[.v (.slice none 0 0)],AA A,AA O],[]⟩⟩) ?_ ?_
 ·skip
  refine AX (h:=BN (h:=?_));refine A4 rfl (fun hb10 hc10=>?_) (fun hb10 hc10=>?_)
  ·refine CN (h:=?_);refine A3 rfl (A8 (Ki f O hf) ?_);rintro r rfl;refine Bn (h:=m_ (h:=?_));refine AJ true rfl rfl (fun hb11 hc11=>?_) (fun hb11 hc11=>?_)
   ·refine m_ (h:=DP (h:=DY (h:=?_)));refine A4 rfl (fun hb12 hc12=>?_) (fun hb12 hc12=>?_)
    ·refine Ew (h:=Ba (?_));refine AU (r:=Cd (Fn f src name to name2)) none (h5:=?_) (h6:=⟨rfl,rfl,rfl⟩);have h2:F1 f src to A O e2=21:=by unfold F1;simp[hc10,hc11,hc12]
     rw[hRen,if_neg (by rw[hord];simp),if_neg (by simp[he1]),if_neg (by simp[hc5]),if_neg (fun h=>absurd h.2 (by rw[hbl h.1];decide)),if_neg (fun h=>hoa h.1 h.2),h2,if_pos (by decide)];exact EM _
    refine Ds (h:=Eh (h:=Dc (h:=FQ (h:=AF (E9 (h:=Hz (h:=?_)))))));refine Aq (A8 (Ve f O hf) ?_);rintro r rfl;refine DP (h:=DY (h:=?_));refine A4 rfl (fun hb13 hc13=>?_) (fun hb13 hc13=>?_)
    ·refine Ew (h:=?_);refine AU (r:=Cd (Fn f src name to name2)) none (h5:=?_) (h6:=⟨rfl,rfl,rfl⟩);have h2:F1 f src to A O e2=39:=by unfold F1;simp[hc10,hc11,hc12,hc13]
     rw[hRen,if_neg (by rw[hord];simp),if_neg (by simp[he1]),if_neg (by simp[hc5]),if_neg (fun h=>absurd h.2 (by rw[hbl h.1];decide)),if_neg (fun h=>hoa h.1 h.2),h2,if_pos (by decide)];exact EM _
    have h2:F1 f src to A O e2=0:=by unfold F1;simp[hc10,hc11,hc12,hc13]
    refine BD (AT (?_));exact⟨_,⟨h2,rfl⟩,(wk 6 0)⟩
   refine B7 (h:=FQ (h:=Ds (h:=Eh (h:=m_ (h:=DY (h:=?_))))));refine A4 rfl (fun hb14 hc14=>?_) (fun hb14 hc14=>?_)
   ·refine Ew (h:=Ba (?_));refine AU (r:=Cd (Fn f src name to name2)) none (h5:=?_) (h6:=⟨rfl,rfl,rfl⟩);have h2:F1 f src to A O e2=20:=by unfold F1;simp[hc10,hc11,hc14]
    rw[hRen,if_neg (by rw[hord];simp),if_neg (by simp[he1]),if_neg (by simp[hc5]),if_neg (fun h=>absurd h.2 (by rw[hbl h.1];decide)),if_neg (fun h=>hoa h.1 h.2),h2,if_pos (by decide)];exact EM _
   have h2:F1 f src to A O e2=0:=by unfold F1;simp[hc10,hc11,hc14]
   refine AF (E9 (h:=BT (h:=FQ (h:=BD (AT (?_))))));exact⟨_,⟨h2,rfl⟩,(wk 6 0)⟩
  refine CN (h:=?_);refine A3 rfl (A8 (Sb f to hf) ?_);rintro r rfl;refine m_ (h:=?_);refine AJ true rfl rfl (fun hb15 hc15=>?_) (fun hb15 hc15=>?_)
  ·refine Hz (h:=?_);refine Aq (JB rfl rfl (by repeat constructor) (by repeat constructor) (fun w=>Sd _ _ _ _ w) (by kernel_rfl) ?_);refine DY (h:=?_);refine A4 rfl (fun hb16 hc16=>?_) (fun hb16 hc16=>?_)
   ·refine Ew (h:=?_);refine AU (r:=Cd (Fn f src name to name2)) none (h5:=?_) (h6:=⟨rfl,rfl,rfl⟩);have h2:F1 f src to A O e2=28:=by unfold F1;rw[if_neg hc10,if_pos ⟨hc15,hc16⟩]
    rw[hRen,if_neg (by rw[hord];simp),if_neg (by simp[he1]),if_neg (by simp[hc5]),if_neg (fun h=>absurd h.2 (by rw[hbl h.1];decide)),if_neg (fun h=>hoa h.1 h.2),h2,if_pos (by decide)];exact EM _
   have h2:F1 f src to A O e2=0:=by unfold F1;rw[if_neg hc10,if_neg (fun h=>h.2 hc16)]
   refine BD (AT (?_));exact⟨_,⟨h2,rfl⟩,(wk 6 0)⟩
  have h2:F1 f src to A O e2=0:=by unfold F1;rw[if_neg hc10,if_neg (fun h=>absurd (h.1.symm.trans hc15) (by decide))]
  refine D8 (h:=e_ (Hv (h:=BD (AT (?_)))));exact⟨_,⟨h2,rfl⟩,(wk 6 0)⟩
 rintro t ⟨h2,rfl⟩;obtain⟨q,i,d,n1,hsq,hq,hn1,hn1i,hidx,hnode,hk1,hnm1⟩:=KN hpl1;obtain⟨q',i2,d',n2,htq,hq',hn2,hn2i, -,hnode2,hk2,hnm2⟩:=KN hpl2;obtain rfl:q=q':=by omega
 obtain rfl:d=d':=Option.some.inj (hq.symm.trans hq');have hvd:=hv.vd d (Aj hq);have hql:=(Ab.1 hq).1;have hil:=(Ab.1 hn1).1;obtain⟨e,he,hle⟩:=PC hnode hk1 (by rw[hl1];exact he1);have hA1:A=(src.1,e.2):=by rw[hl1]at hle;exact congrArg Prod.fst hle
 have hAm:∃m∈d.nodes,m.ino=A.2:=by rw[hA1];exact(hvd.ent n1 (Aj hn1) e (Km he).1).2.2
 obtain⟨X1,X2,m2,hX1,hm2,hm2i,hX2,hasc1,hasc2,hx1l,hx2l,hX2D,hf1,hf2,hb2,⟨r,hr,hr1⟩,⟨am,ham,hami⟩⟩:=gN hv hq hn1 hn2 name name2 A.2 hAm;have hidx2:Hb (f.set q ⟨d.next,X1⟩) to=(i2:Int):=TX htq (d:=⟨d.next,X1⟩) (by simp[hql]) hasc1 hm2 (hm2i.trans hn2i)
 have hoo:e2=0→O.1=(q:Int)∧0<(DK O.2 X2).length:=by
  intro h;obtain⟨e',he',hle'⟩:=PC hnode2 hk2 (by rw[hl2];exact h);have hO1:O=(to.1,e'.2):=by rw[hl2]at hle';exact congrArg Prod.fst hle'
  refine⟨by rw[hO1];exact htq,TV hr ?_⟩;rw[hr1,hO1];exact(hvd.ent n2 (Aj hn2) e' (Km he').1).2.1.symm
 have hO1:e2=0→O.1=A.1:=fun h=>by rw[(hoo h).1,hA1];exact hsq.symm
 obtain⟨NS,hNS⟩:∃NS,NS=(if e2=0 then C3 X2 O.2 else X2):=⟨_,rfl⟩
 have hNSf:NS=X2∨(e2=0∧NS=C3 X2 O.2):=by
  by_cases h:e2=0
  ·exact .inr ⟨h,by rw[hNS,if_pos h]⟩
  exact .inl (by rw[hNS,if_neg h])
 have hsub:NS.Sublist X2:=by
  rcases hNSf with h|⟨_,h⟩
  ·rw[h];exact List.Sublist.refl _
  rw[h];exact List.filter_sublist
 have hasc3:Ey NS:=hasc2.sublist hsub
 have hAN:am∈NS:=by
  rcases hNSf with h|⟨h0,h⟩
  ·rw[h];exact ham
  rw[h];refine List.mem_filter.2 ⟨ham,decide_eq_true (.inl fun e=>hoa h0 ?_)⟩;exact Prod.ext (hO1 h0) (by rw[←e,hami])
 obtain⟨i3,hm3⟩:=List.getElem?_of_mem hAN;have hil3:=(Ab.1 hm3).1;have hf3:FlsB (f.set q ⟨d.next,NS⟩):=hf.set_ (by have:=hsub.length_le;have:=hvd.len;show NS.length≤1000;omega) fun m hm=>hb2 m (hsub.subset hm);have hidx3:Hb (f.set q ⟨d.next,NS⟩) A=(i3:Int):=TX (by rw[hA1];exact hsq) (d:=⟨d.next,NS⟩) (by simp[hql]) hasc3 hm3 hami;obtain⟨m3,rfl⟩:∃m3,m3=am:=⟨_,rfl⟩;have hm3i:=hami;obtain⟨NS2,hNS2⟩:∃NS2,NS2=LH NS A.2 to.2 (Af f A):=⟨_,rfl⟩;refine C5 (h:=?_);refine A3 rfl (Bg [] rfl (.cons _ _ _ _ _ rfl (A7 _) .nil) (by decide) .nil (Nr f q d hf hq (by omega)) ?_);rintro r bc tc ⟨rfl,cap,cap1,hcap,hcap1,rfl,rfl⟩;refine⟨rfl,_,(Nw (n:=6) rfl f q d d.nodes cap cap1:Back _ [] _ [_,_,_,_,_,_,_,_]),?_⟩;have hcx1:X1.length≤cap1:=by omega
 have hcx2:X2.length≤cap1:=by omega
 refine Dz (h:=Ha (h:=?_));refine A3 rfl (Bg [6,7] rfl (.cons _ _ _ _ _ rfl (A7 _) (.cons _ _ _ _ _ rfl (A7 _) (.cons _ _ _ _ _ rfl (A7 _) (.cons _ _ _ _ _ rfl (A7 _) .nil)))) (by decide) (.cons _ _ _ _ _ rfl (Jr (by rfl) _ _ _ _ _) (.cons _ _ _ _ _ rfl (JQ _ _ _) .nil)) (Oy f q d n1 i src name 0 cap cap1 hf hq hsq hidx hn1 hcap hcap1) ?_);rintro r bc tc ⟨rfl,rfl,rfl⟩;rw[show d.nodes.set i {n1 with entries:=D4 n1.entries name 0}=X1 from hX1.symm];refine⟨rfl,_,(Nx (BW rfl) (BW rfl) (by decide) f q d X1 cap cap1 cap1:Back _ [6,7] _ [_,_,_,_,_,_,_,_,_]),?_⟩;refine e_ (Ha (h:=Aa (h:=?_)));refine A3 rfl (Bg [6,7] rfl (.cons _ _ _ _ _ rfl (A7 _) (.cons _ _ _ _ _ rfl (A7 _) (.cons _ _ _ _ _ rfl (A7 _) (.cons _ _ _ _ _ rfl (A7 _) .nil)))) (by decide) (.cons _ _ _ _ _ rfl (Jr (by rfl) _ _ _ _ _) (.cons _ _ _ _ _ rfl (JQ _ _ _) .nil)) (gM f q d ⟨d.next,X1⟩ m2 i2 to name2 A.2 cap cap1 hf1 hql htq hidx2 hm2 hcap hcx1 rfl hx1l) ?_);rintro r bc tc ⟨rfl,rfl,rfl⟩;refine⟨rfl,?_⟩;dsimp only;rw[←hX2];refine⟨_,(Nx (BW rfl) (BW rfl) (by decide) f q ⟨d.next,X2⟩ X2 cap cap1 cap1:Back _ [6,7] _ [_,_,_,_,_,_,_,_,_]),?_⟩;refine e_ (?_);refine B9 (fun t=>∃capx,NS.length≤capx∧t=⟨look [(2, .v (.string name)),(4, .v (.string name2)),(6, .bp 1 0),(8, .bp 2 0),(10, .bp 3 0),(17, .bp 4 0),(19, .v (.bool (Af f A))),(20, .bp 5 0),(22, .bp 8 0)],⟨[Al f,AA src,AA to,[.v (.slice none 0 0)],AA A,AA O,DB f q ⟨d.next,NS⟩ 7 cap capx,NB NS capx,[.bs 6 0 2 f.length cap]],[]⟩⟩) ?_ ?_
 ·skip
  refine AX (h:=BN (h:=?_));refine A4 rfl (fun hb17 hc17=>?_) (fun hb17 hc17=>?_)
  ·have he2:e2=0:=hc17;obtain⟨hoq,hkp⟩:=hoo he2;refine Aw (Hz (h:=?_));refine A3 rfl (Bg [6,7] rfl (.cons _ _ _ _ _ rfl (A7 _) (.cons _ _ _ _ _ rfl (A7 _) .nil)) (by decide) (.cons _ _ _ _ _ rfl (Jr (by rfl) _ _ _ _ _) (.cons _ _ _ _ _ rfl (JQ _ _ _) .nil)) (TW f q ⟨d.next,X2⟩ ⟨d.next,X2⟩ O cap cap1 hf2 hql hoq hcap hcx2 hkp rfl rfl) ?_);rintro r bc tc ⟨rfl,rfl,⟨hns,rfl⟩|⟨hns,cap2,hcap2,rfl⟩⟩
   ·refine⟨rfl,_,(TT (n:=9) rfl (by decide) (by decide) (by decide) f q ⟨d.next,X2⟩ X2 O f.length cap cap cap1 cap1:Back _ [6,7] _ [_,_,_,_,_,_,_,_,_,_,_]),?_⟩;obtain rfl:NS=X2:=by rw[hNS,if_pos (by assumption)];exact hns
    refine DC (h:=?_)
    first|exact⟨_,⟨_,hcap2,rfl⟩,GE [0,1,2,3,4,5,6,11,8] (fun i hi=>absurd hi (Nat.not_lt_zero i)) (by decide) (.cons _ _ _ _ _ rfl rfl (.cons _ _ _ _ _ rfl rfl (.cons _ _ _ _ _ rfl rfl (.cons _ _ _ _ _ rfl rfl (.cons _ _ _ _ _ rfl rfl (.cons _ _ _ _ _ rfl rfl (.cons _ _ _ _ _ rfl (N8 (by rfl) _ _ _ _ _) (.cons _ _ _ _ _ rfl (Lj _ _ _) (.cons _ _ _ _ _ rfl rfl .nil))))))))) (by repeat (first|exact SubK.nil|refine SubK.cons _ _ _ _ rfl (A7 _) ?_))⟩|exact⟨_,⟨_,hcx2,rfl⟩,Bd 9 0 (by simp[AW,AQ,AP,Ci,Cj,AA,Al])⟩
   refine⟨rfl,_,(TS (n:=9) rfl (by decide) (by decide) (by decide) f q ⟨d.next,DK O.2 X2⟩ X2 (DK O.2 X2) O f.length cap cap cap1 cap2:Back _ [6,7] _ [_,_,_,_,_,_,_,_,_,_,_,_]),?_⟩;have hNSk:NS=DK O.2 X2:=by rw[hNS,if_pos (by assumption)];exact hns
   rw[←hNSk]at hcap2;rw[←hNSk];refine DC (h:=?_);exact⟨_,⟨_,hcap2,rfl⟩,GE [0,1,2,3,4,5,6,11,8] (fun i hi=>absurd hi (Nat.not_lt_zero i)) (by decide) (.cons _ _ _ _ _ rfl rfl (.cons _ _ _ _ _ rfl rfl (.cons _ _ _ _ _ rfl rfl (.cons _ _ _ _ _ rfl rfl (.cons _ _ _ _ _ rfl rfl (.cons _ _ _ _ _ rfl rfl (.cons _ _ _ _ _ rfl (N8 (by rfl) _ _ _ _ _) (.cons _ _ _ _ _ rfl (Lj _ _ _) (.cons _ _ _ _ _ rfl rfl .nil))))))))) (by repeat (first|exact SubK.nil|refine SubK.cons _ _ _ _ rfl (A7 _) ?_))⟩
  have he2:¬e2=0:=hc17;obtain rfl:NS=X2:=by rw[hNS,if_neg he2]
  refine BD (AT (?_))
  first|exact⟨_,⟨_,hcap2,rfl⟩,GE [0,1,2,3,4,5,6,11,8] (fun i hi=>absurd hi (Nat.not_lt_zero i)) (by decide) (.cons _ _ _ _ _ rfl rfl (.cons _ _ _ _ _ rfl rfl (.cons _ _ _ _ _ rfl rfl (.cons _ _ _ _ _ rfl rfl (.cons _ _ _ _ _ rfl rfl (.cons _ _ _ _ _ rfl rfl (.cons _ _ _ _ _ rfl (N8 (by rfl) _ _ _ _ _) (.cons _ _ _ _ _ rfl (Lj _ _ _) (.cons _ _ _ _ _ rfl rfl .nil))))))))) (by repeat (first|exact SubK.nil|refine SubK.cons _ _ _ _ rfl (A7 _) ?_))⟩|exact⟨_,⟨_,hcx2,rfl⟩,Bd 9 0 (by simp[AW,AQ,AP,Ci,Cj,AA,Al])⟩
 rintro t ⟨capx,hcapx,rfl⟩;refine B9 (fun t=>t=⟨look [(2, .v (.string name)),(4, .v (.string name2)),(6, .bp 1 0),(8, .bp 2 0),(10, .bp 3 0),(17, .bp 4 0),(20, .bp 5 0),(22, .bp 8 0)],⟨[Al f,AA src,AA to,[.v (.slice none 0 0)],AA A,AA O,DB f q ⟨d.next,NS⟩ 7 cap capx,NB NS2 capx,[.bs 6 0 2 f.length cap]],[]⟩⟩) ?_ ?_
 ·skip
  refine AX (h:=e_ (?_));refine A4 rfl (fun hb18 hc18=>?_) (fun hb18 hc18=>?_)
  ·have e4:NS.set i3 {m3 with parent:=to.2}=NS2:=by rw[hNS2,LH,if_pos hc18,PB hasc3 hm3 (fun n=>{n with parent:=to.2}),hm3i]
   have hset3:SetAt (NB NS capx) (0+i3 * 8+5) [.v (.int .i64 to.2)] (NB NS2 capx):=by
    rw[←e4];exact T5 hm3 (by repeat constructor) (by simp)
   refine BO ([(0,Al f),(1,AA src),(2,AA to),(3,[.v (.slice none 0 0)]),(4,AA A),(5,AA O),(6,DB f q ⟨d.next,NS⟩ 7 cap capx),(8,[.bs 6 0 2 f.length cap])]) 15 (h:=AD 0 (h:=?_));refine A9 1 (h:=?_);refine AD 2 (h:=?_);refine A9 3 (h:=?_);refine By 4 rfl (fun _ hS=>Dx (m:=q) rfl rfl htq hql ⟨rfl,rfl⟩) ?_;refine AD 5 (h:=?_)
   first|refine A9 6 (h:=?_)|refine By 6 rfl (fun _ hS=>Dl (row:=DB f q ⟨d.next,NS⟩ 7 cap capx) rfl (kb hS rfl) (Ow hql) ⟨rfl,rfl⟩) ?_
   refine A9 7 (h:=?_);refine A9 8 (h:=?_);refine AD 10 (h:=?_);refine A9 11 (h:=?_);refine c_ 9 rfl (Dm 2 rfl (.cons _ _ _ _ _ rfl (LeA.of_eq (gE (d:=⟨d.next,NS⟩) hql hcap hcapx (BH _) (BH _) rfl rfl)) (.cons _ _ _ _ _ rfl (A7 _) .nil)) (ML (f.set q ⟨d.next,NS⟩) A hf3) ?_);rintro r rfl;refine⟨rfl,?_⟩;refine o_ (h:=?_);refine By 12 rfl (fun _ hS=>Dx (m:=i3) rfl rfl hidx3 hil3 ⟨rfl,rfl⟩) ?_;refine AD 13 (h:=?_);refine H9 14 rfl (Ed rfl rfl rfl rfl rfl rfl hset3 (by repeat constructor) ?_);refine GJ (h:=?_);refine AT ?_;exact⟨_,rfl,Bd 9 0 (by simp[AW,AQ,AP,Ci,Cj,AA,Al])⟩
  obtain rfl:NS2=NS:=by rw[hNS2,LH,if_neg (by rw[hc18];decide)]
  refine BD (AT (?_));exact⟨_,rfl,Bd 9 0 (by simp[AW,AQ,AP,Ci,Cj,AA,Al])⟩
 rintro t rfl;have hl3:NS2.length=NS.length:=by rw[hNS2];unfold LH;split<;>simp[Cv]
 have hcapx2:NS2.length≤capx:=by omega
 refine B9 (fun t=>t=⟨look [(10, .bp 3 0),(11, .sl 7 ([(src,name,A,(0,0)),(to,name2,O,A)].map EZ) none),(12, .v (.int .i64 0))],⟨[Al f,AA src,AA to,Al (f.set q ⟨d.next,NS2⟩)],[]⟩⟩) ?_ ?_
 ·skip
  refine BO ([(0,Al f),(1,AA src),(2,AA to),(4,AA A),(5,AA O),(6,DB f q ⟨d.next,NS⟩ 7 cap capx),(7,NB NS2 capx),(8,[.bs 6 0 2 f.length cap])]) 15 (h:=A9 0 (h:=A9 1 (h:=AG 2 (h:=A9 3 (h:=?_)))));refine By 4 rfl (fun _ hS=>H7 (y:= .agg (AA (0,0))) (Dn ⟨rfl,rfl⟩) (by repeat (first|exact A7 _|exact LeA.nil _|exact LeL.refl _|refine LeA.agg ⟨rfl,rfl⟩|refine LeA.tup ⟨rfl,rfl⟩|exact LeL.nil|refine LeL.cons ⟨rfl,rfl⟩ ⟨rfl,rfl⟩|exact LeA.any _)) ⟨rfl,rfl⟩) ?_;refine A9 6 (h:=AG 7 (h:=A9 8 (h:=A9 9 (h:=?_))));refine c_ 5 rfl (Bg [] rfl (.cons _ _ _ _ _ rfl (A7 _) (.cons _ _ _ _ _ rfl (A7 _) (.cons _ _ _ _ _ rfl (A7 _) (.cons _ _ _ _ _ rfl (A7 _) .nil)))) (by decide) .nil (gK src name A (0,0)) ?_);rintro r bc tc ⟨rfl,rfl,rfl⟩;refine⟨rfl,_,(gJ _ (gL _ _ _ _):Back _ [] _ [_,_,_,_,_,_,_,_,_,_,_,_,_]),?_⟩;refine o_ (h:=?_);refine c_ 10 rfl (A8 (N0 to name2 O A) ?_);rintro r rfl;refine o_ (h:=?_);refine c_ 11 rfl (NZ rfl rfl rfl (BW rfl) Ll (by omega) (by omega) (fun h=>absurd h (by omega)) ?_);rintro hg cap4 k bx2 hcp4 hs;obtain⟨rfl,rfl⟩:k=13∧bx2=[_,_,_,_,_,_,_,_,_,_,_,_,_,CU 7 cap4 ([(src,name,A,(0,0)),(to,name2,O,A)].map EZ)]:=hs.eq;refine o_ (h:=?_);refine B6 12 (h:=BB 13 (h:=BB 14 (h:=z_ (h:=?_))));refine AT ?_;exact⟨_,rfl,H8 4 2 rfl (congrArg (fun x=>[Al f,AA src,AA to,x]) (LG (k:=0) (i:=6) (j:=7) (d:=⟨d.next,NS⟩) (d':=⟨d.next,NS2⟩) hql rfl hl3 hcap hcapx2 (BW rfl) (BW rfl) rfl rfl)) (.cons _ _ _ _ rfl (A7 _) (.cons _ _ _ _ rfl (LeA.of_eq (X5 (rows:=[(src,name,A,(0,0)),(to,name2,O,A)].map EZ) (BW rfl) (gF (n:=4) (k:=1) (j:=13) (BW rfl) rfl (gG _)) (gH _) rfl hcp4)) (.cons _ _ _ _ rfl (A7 _) .nil)))⟩
 rintro t rfl;refine B5 (?_);refine A6 ?_;rw[hRen,if_neg (by rw[hord];simp),if_neg (by simp[he1]),if_neg (by simp[hc5]),if_neg (fun h=>absurd h.2 (by rw[hbl h.1];decide)),if_neg (fun h=>hoa h.1 h.2),if_neg (by rw[h2];simp),htq,Int.toNat_natCast,Ju hq,show NC d.nodes src name to name2 A O e2=NS by rw[hNS,hX2D,hn1i,hn2i];rfl,←hNS2];rfl
end
end Go.Proofs.YtbgnigjfkbmceaaGreatDoor
