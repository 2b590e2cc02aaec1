/-
  Part 9 of the proof of FilterSoundP: what the statement's proof uses of the texts in wip/tpl.
-/
import Derived.Test.YtbgnigjfkbmceaaGreatDoorQg8
open Go.Proofs.Tryz (prog)
set_option maxRecDepth 10000
set_option maxHeartbeats 4000000
set_option linter.unusedVariables false
set_option linter.unusedSimpArgs false
namespace Go.Proofs.YtbgnigjfkbmceaaGreatDoor
open Go.RowKit
theorem Mi{f:AM}{dir:A7}{name:AB}{n0:Nod}(hn:Ba f dir=some n0)(hk:n0.kind=2)(h:(AG f dir name).2=0):∃e,D9 n0.entries name=some e∧AG f dir name=((dir.1,e.2),0):=by
 unfold AG at h ⊢;rw[hn]at h ⊢;simp only[hk,if_true]at h ⊢;unfold D9;split at h
 ·exact absurd h (by decide)
 rename_i e he;exact⟨e,he,rfl⟩
def entS(ns:List Nod)(i:Nat)(n0:Nod)(name:AB)(ino:Int):List Nod:=ns.set i {n0 with entries:=CH n0.entries name ino}
theorem GV(ns:List Nod)(i:Nat)(n0:Nod)(name:AB)(ino:Int):(entS ns i n0 name ino).length=ns.length:=by simp[entS]
theorem Qq(es:List B0)(name:AB)(ino:Int):(CH es name ino).length≤es.length+1:=by
 by_cases h:ino=0
 ·subst h;rw[J2];have:(EN name es).length≤es.length:=List.length_filter_le _ _;omega
 rw[(JR es name h).length_eq,List.length_cons];have:(EN name es).length≤es.length:=List.length_filter_le _ _;omega
theorem FlsB.set_{f:AM}(hf:FlsB f){q:Nat}{d':Dvc}(hn:d'.nodes.length≤1000)(he:∀n∈d'.nodes,n.entries.length≤1000):FlsB (f.set q d'):=by
 refine⟨by simpa using hf.few,fun d hd=>?_,fun d hd n hn'=>?_⟩
 ·rcases List.mem_or_eq_of_mem_set hd with h|h
  ·exact hf.nodes d h
  rw[h];exact hn
 rcases List.mem_or_eq_of_mem_set hd with h|h
 ·exact hf.ents d h n hn'
 subst h;exact he n hn'
theorem FlsV.entS{f:AM}(hv:FlsV f){q:Nat}{d:Dvc}(hq:f[q]?=some d){i:Nat}{n0:Nod}(hn:d.nodes[i]?=some n0)(name:AB)(ino:Int):FlsB (f.set q {d with nodes:=entS d.nodes i n0 name ino}):=by
 have hd:=hv.vd d (AT hq);refine hv.b.set_ ?_ ?_
 ·show(Go.Proofs.YtbgnigjfkbmceaaGreatDoor.entS d.nodes i n0 name ino).length≤1000;rw[GV];have:=hd.len;omega
 intro m hm;rcases List.mem_or_eq_of_mem_set hm with h|h
 ·have:=hd.many m h;omega
 rw[h];have:=Qq n0.entries name ino;have:=hd.many n0 (AT hn);show(CH n0.entries name ino).length≤1000;omega
theorem LY{d:Dvc}(hd:VD d){i:Nat}{n0:Nod}(hn:d.nodes[i]?=some n0)(name:AB)(ino:Int):entS d.nodes i n0 name ino=BE d.nodes n0.ino name ino:=by
 unfold entS BE;rw[←Mh hd.asc hn];rfl
theorem UD{f:AM}{a:A7}{q:Nat}{d:Dvc}(ha:a.1=(q:Int))(hq:f[q]?=some d):Gu f a=if(d.nodes.any fun n=>n.ino==a.2)then BN a.2 d.nodes else 0:=by
 unfold Gu Ba;rw[ha,KV,hq];simp only
 cases h:d.nodes.find? (fun n=>n.ino==a.2)with
 |none=>
   have:d.nodes.any (fun n=>n.ino==a.2)=false:=by
    rw[List.any_eq_false];exact List.find?_eq_none.1 h
   simp[this]
 |some n=>
   have:d.nodes.any (fun n=>n.ino==a.2)=true:=by
    have h2:=List.find?_some h;exact List.any_eq_true.2 ⟨n,List.mem_of_find?_eq_some h,h2⟩
   simp[this]
theorem ZP{f:AM}{a:A7}{q:Nat}{d:Dvc}(ha:a.1=(q:Int))(hq:f[q]?=some d)(hl:0<Gu f a):Bf d.nodes a.2=d.nodes:=by
 rw[UD ha hq]at hl;split at hl
 ·unfold Bf;rw[List.filter_eq_self];intro m _;exact decide_eq_true (.inr hl)
 omega
theorem drop_zero{f:AM}{a:A7}{q:Nat}{d:Dvc}(ha:a.1=(q:Int))(hq:f[q]?=some d)(hl:Gu f a=0):Bf d.nodes a.2=CR a.2 d.nodes:=by
 rw[UD ha hq]at hl;unfold Bf CR;apply List.filter_congr;intro m hm;split at hl
 ·rw[hl,Bool.eq_iff_iff];simp
 rename_i h
 have hne:m.ino≠a.2:=by
  intro e;exact h (List.any_eq_true.2 ⟨m,hm,by simpa using e⟩)
 rw[Bool.eq_iff_iff];simp[hne]
theorem Qr{ns:List Nod}{m:Nod}{i:Int}(hm:m∈ns)(h:m.ino≠i):0<(CR i ns).length:=List.length_pos_of_mem (List.mem_filter.2 ⟨hm,by simpa using h⟩)
theorem UE{d:Dvc}(hd:VD d){i:Nat}{n0:Nod}(hn:d.nodes[i]?=some n0)(name:AB)(ino:Int):∃m∈entS d.nodes i n0 name ino,m.ino=1:=by
 obtain⟨r,hr,h1,_⟩:=hd.rootMem;rw[LY hd hn];obtain⟨m,hm,hw⟩:=K0 n0.ino name ino hr;exact⟨m,hm,hw.ino.trans h1⟩
theorem Qs(f:AM)(q:Nat)(d d':Dvc)(a:A7)(cap cap1:Nat)(hf:FlsB (f.set q d'))(hq:q<f.length)(ha:a.1=(q:Int))(hcap:f.length≤cap)(hcap1:d'.nodes.length≤cap1)(hne:0<(CR a.2 d'.nodes).length)(hn:d'.next=d.next)(hl:d'.nodes.length=d.nodes.length):
    ACall prog 234 [.agg [.bs 0 0 2 f.length cap], .agg (A8 a)] [DB f q d 1 cap cap1,NB d'.nodes cap1] (fun r b t=>t=[]∧r= .tup []∧((Bf d'.nodes a.2=d'.nodes∧b=[DB f q d 1 cap cap1,NB d'.nodes cap1,[.bs 0 0 2 f.length cap],A8 a])∨(Bf d'.nodes a.2=CR a.2 d'.nodes∧∃cap2,(CR a.2 d'.nodes).length≤cap2∧b=[DB f q {d' with nodes:=CR a.2 d'.nodes} 4 cap cap2,NB d'.nodes cap1,[.bs 0 0 2 f.length cap],A8 a,NB (CR a.2 d'.nodes) cap2]))):=by
 have hq':(f.set q d')[q]?=some d':=by simp[hq]
 have key:=ZB (f.set q d') q d' a cap cap1 hf hq' ha (by simpa using hcap) hcap1 hne;rw[List.length_set,←UC hn hl]at key;refine key.mono fun r b t ⟨h1,h2,h3⟩=>⟨h1,h2,?_⟩;rcases h3 with⟨h4,h5⟩|⟨h4,cap2,h5,h6⟩
 ·exact .inl ⟨ZP ha hq' h4,h5⟩
 refine .inr ⟨drop_zero ha hq' h4,cap2,h5,?_⟩;rw[QU]at h6;exact h6
def Hb(f:AM)(dir:A7)(name:AB):KW:=
 if C7 f dir name≠0 then([],[],C7 f dir name)else if(AG f dir name).2≠0 then([],[],(AG f dir name).2)else if AZ f (AG f dir name).1=true then([],[],21)else
 (J5 f dir.1.toNat fun ns=>Bf (BE ns dir.2 name 0) (AG f dir name).1.2,[(dir,name,(AG f dir name).1,(0,0))],0)
def GW(f:AM)(dir:A7)(name:AB):KW:=
 if C7 f dir name≠0 then([],[],C7 f dir name)else if(AG f dir name).2≠0 then([],[],(AG f dir name).2)else if AZ f (AG f dir name).1=false then([],[],20)else if Jn f (AG f dir name).1=false then([],[],39)else
 (J5 f dir.1.toNat fun ns=>Bf (BE ns dir.2 name 0) (AG f dir name).1.2,[(dir,name,(AG f dir name).1,(0,0))],0)
section
theorem ZQ(f:AM)(dir:A7)(name:AB)(hv:FlsV f)(hs:name.size≤100000):AFn prog 173 [.agg (AW f), .agg (A8 dir), .v (.string name)] (fun r=>r=CM (Hb f dir name)):=by
 have hf:=hv.b;refine enter Tryz.func173 rfl rfl rfl rfl rfl 0 rfl ?_;refine FM (h:=a_ (h:=B5 (h:=q_ (F9 (h:=?_)))));refine A3 rfl (AA (LH f dir name hf hs) ?_);rintro r rfl;refine BJ (h:=C6 (h:=?_));refine A6 rfl (fun hb1 hc1=>?_) (fun hb1 hc1=>?_)
 ·refine w_ (FP (h:=Du (h:=?_)));refine Ag (r:=CM (Hb f dir name)) none (h5:=?_) (h6:=⟨rfl,rfl,rfl⟩);rw[Hb,if_pos (by omega)];exact DC _
 refine AK (F9 (h:=?_));refine A3 rfl (AA (JN f dir name hf) ?_);rintro r rfl;refine Ea (h:=C6 (h:=?_));refine A6 rfl (fun hb2 hc2=>?_) (fun hb2 hc2=>?_)
 ·refine w_ (FP (h:=Du (h:=?_)));refine Ag (r:=CM (Hb f dir name)) none (h5:=?_) (h6:=⟨rfl,rfl,rfl⟩);rw[Hb,if_neg (by omega),if_pos (by omega)];exact DC _
 have hlk:(AG f dir name).2=0:=by omega
 refine FR (h:=Bl (h:=?_));refine A3 rfl (AA (Hv f (AG f dir name).1 hf) ?_);rintro r rfl;refine e_ (?_);refine A6 rfl (fun hb3 hc3=>?_) (fun hb3 hc3=>?_)
 ·refine w_ (Ep (h:=?_));refine Ag (r:=CM (Hb f dir name)) none (h5:=?_) (h6:=⟨rfl,rfl,rfl⟩);rw[Hb,if_neg (by omega),if_neg (by omega),if_pos hc3];exact DC _
 obtain⟨q,i,d,n0,hdq,hq,hn0,hino,hidx,hnode,hk0,hnm⟩:=Gy (name:=name) (dir:=dir) (f:=f) (by omega);have hil:=(AP.1 hn0).1;have hql:=(AP.1 hq).1;have hvd:=hv.vd d (AT hq);obtain⟨e,he,hle⟩:=Mi hnode hk0 hlk;have hat1:(AG f dir name).1.1=(q:Int):=by rw[hle];exact hdq
 have hat2:(AG f dir name).1.2≠1:=by rw[hle];exact(hvd.ent n0 (AT hn0) e (HU he).1).2.1
 have hxl:(entS d.nodes i n0 name 0).length=d.nodes.length:=GV _ _ _ _ _
 have hkp:0<(CR (AG f dir name).1.2 (entS d.nodes i n0 name 0)).length:=by
  obtain⟨m,hm,hm1⟩:=UE hvd hn0 name 0;exact Qr hm (by rw[hm1];exact hat2.symm)
 refine AK (Be (h:=?_));refine A3 rfl (El [] rfl (.cons _ _ _ _ _ rfl (A9 _) .nil) (by decide) .nil (LR f q d hf hq (by omega)) ?_);rintro r bc tc ⟨rfl,cap,cap1,hcap,hcap1,rfl,rfl⟩;refine⟨rfl,_,(LW (n:=4) rfl f q d d.nodes cap cap1:Back _ [] _ [_,_,_,_,_,_]),?_⟩;refine CY (h:=F9 (h:=?_));refine A3 rfl (El [4,5] rfl (.cons _ _ _ _ _ rfl (A9 _) (.cons _ _ _ _ _ rfl (A9 _) (.cons _ _ _ _ _ rfl (A9 _) (.cons _ _ _ _ _ rfl (A9 _) .nil)))) (by decide) (.cons _ _ _ _ _ rfl (GS (by rfl) _ _ _ _ _) (.cons _ _ _ _ _ rfl (GA _ _ _) .nil)) (MV f q d n0 i dir name 0 cap cap1 hf hq hdq hidx hn0 hcap hcap1) ?_);rintro r bc tc ⟨rfl,rfl,rfl⟩;refine⟨rfl,_,(LX (B7 rfl) (B7 rfl) (by decide) f q d (entS d.nodes i n0 name 0) cap cap1 cap1:Back _ [4,5] _ [_,_,_,_,_,_,_]),?_⟩;refine e_ (Bl (h:=?_));refine A3 rfl (El [4,5] rfl (.cons _ _ _ _ _ rfl (A9 _) (.cons _ _ _ _ _ rfl (A9 _) .nil)) (by decide) (.cons _ _ _ _ _ rfl (GS (by rfl) _ _ _ _ _) (.cons _ _ _ _ _ rfl (GA _ _ _) .nil)) (Qs f q d {d with nodes:=entS d.nodes i n0 name 0} (AG f dir name).1 cap cap1 (hv.entS hq hn0 name 0) hql hat1 hcap (by rw[GV];exact hcap1) hkp rfl hxl) ?_);rintro r bc tc ⟨rfl,rfl,⟨hns,rfl⟩|⟨hns,cap2,hcap2,rfl⟩⟩
 ·refine⟨rfl,_,(Qp (n:=7) rfl (by decide) (by decide) (by decide) f q d (entS d.nodes i n0 name 0) (AG f dir name).1 f.length cap cap cap1 cap1:Back _ [4,5] _ [_,_,_,_,_,_,_,_,_]),?_⟩;have hx1:(entS d.nodes i n0 name 0).length≤cap1:=by omega
  refine e_ (?_);refine C5 (fun t=>t=⟨look [(6, .bp 2 0),(7, .sl 7 [FB (dir,name,(AG f dir name).1,(0,0))] none),(8, .v (.int .i64 0))],⟨[AW f,A8 dir,AW (f.set q {d with nodes:=Bf (entS d.nodes i n0 name 0) (AG f dir name).1.2})],[]⟩⟩) ?_ ?_
  ·skip
   refine Bz ([(0,AW f),(1,A8 dir),(3,A8 (AG f dir name).1),(6,[.bs 4 0 2 f.length cap])]) 9 (h:=AD 0 (h:=AD 1 (h:=Ac 2 (h:=AD 3 (h:=?_)))));refine BT 4 rfl (fun _ hS=>Hp (y:= .agg (A8 (0,0))) (F5 ⟨rfl,rfl⟩) (by repeat (first|exact A9 _|exact LeA.nil _|exact LeL.refl _|refine LeA.agg ⟨rfl,rfl⟩|refine LeA.tup ⟨rfl,rfl⟩|exact LeL.nil|refine LeL.cons ⟨rfl,rfl⟩ ⟨rfl,rfl⟩|exact LeA.any _)) ⟨rfl,rfl⟩) ?_;refine c_ 5 rfl (AA (Kb dir name (AG f dir name).1 (0,0)) ?_);rintro r rfl;refine o_ (h:=?_);refine CG 6 (h:=BM 7 (h:=BM 8 (h:=z_ (h:=?_))));refine Ab ?_;refine⟨_,rfl,?_⟩;rw[show Bf (entS d.nodes i n0 name 0) (AG f dir name).1.2=_ from hns]
   first|exact Co 3 2 rfl (congrArg (fun x=>[AW f,A8 dir,x]) (J4 (k:=0) (i:=4) (j:=9) (d:={d with nodes:=CR (AG f dir name).1.2 (entS d.nodes i n0 name 0)}) (d':={d with nodes:=CR (AG f dir name).1.2 (entS d.nodes i n0 name 0)}) hql rfl rfl hcap hcap2 (B7 rfl) (B7 rfl) rfl rfl)) (.cons _ _ _ _ rfl (A9 _) (.cons _ _ _ _ rfl (A9 _) (.cons _ _ _ _ rfl (A9 _) .nil)))|exact Co 3 2 rfl (congrArg (fun x=>[AW f,A8 dir,x]) (J4 (k:=0) (i:=4) (j:=5) (d:=d) (d':={d with nodes:=entS d.nodes i n0 name 0}) hql rfl hxl hcap hx1 (B7 rfl) (B7 rfl) rfl rfl)) (.cons _ _ _ _ rfl (A9 _) (.cons _ _ _ _ rfl (A9 _) (.cons _ _ _ _ rfl (A9 _) .nil)))
  rintro t rfl;refine Ax (?_);refine A4 ?_;rw[Hb,if_neg (by omega),if_neg (by omega),if_neg (by simp[hc3]),hdq,Int.toNat_natCast,Gx hq,←hino,←LY (hv.vd d (AT hq)) hn0];rfl
 refine⟨rfl,_,(Qo (n:=7) rfl (by decide) (by decide) (by decide) f q {d with nodes:=CR (AG f dir name).1.2 (entS d.nodes i n0 name 0)} (entS d.nodes i n0 name 0) (CR (AG f dir name).1.2 (entS d.nodes i n0 name 0)) (AG f dir name).1 f.length cap cap cap1 cap2:Back _ [4,5] _ [_,_,_,_,_,_,_,_,_,_]),?_⟩;refine e_ (?_);refine C5 (fun t=>t=⟨look [(6, .bp 2 0),(7, .sl 7 [FB (dir,name,(AG f dir name).1,(0,0))] none),(8, .v (.int .i64 0))],⟨[AW f,A8 dir,AW (f.set q {d with nodes:=Bf (entS d.nodes i n0 name 0) (AG f dir name).1.2})],[]⟩⟩) ?_ ?_
 ·skip
  refine Bz ([(0,AW f),(1,A8 dir),(3,A8 (AG f dir name).1),(6,[.bs 4 0 2 f.length cap])]) 9 (h:=AD 0 (h:=AD 1 (h:=Ac 2 (h:=AD 3 (h:=?_)))));refine BT 4 rfl (fun _ hS=>Hp (y:= .agg (A8 (0,0))) (F5 ⟨rfl,rfl⟩) (by repeat (first|exact A9 _|exact LeA.nil _|exact LeL.refl _|refine LeA.agg ⟨rfl,rfl⟩|refine LeA.tup ⟨rfl,rfl⟩|exact LeL.nil|refine LeL.cons ⟨rfl,rfl⟩ ⟨rfl,rfl⟩|exact LeA.any _)) ⟨rfl,rfl⟩) ?_;refine c_ 5 rfl (AA (Kb dir name (AG f dir name).1 (0,0)) ?_);rintro r rfl;refine o_ (h:=?_);refine CG 6 (h:=BM 7 (h:=BM 8 (h:=z_ (h:=?_))));refine Ab ?_;refine⟨_,rfl,?_⟩;rw[show Bf (entS d.nodes i n0 name 0) (AG f dir name).1.2=_ from hns];exact Co 3 2 rfl (congrArg (fun x=>[AW f,A8 dir,x]) (J4 (k:=0) (i:=4) (j:=9) (d:={d with nodes:=CR (AG f dir name).1.2 (entS d.nodes i n0 name 0)}) (d':={d with nodes:=CR (AG f dir name).1.2 (entS d.nodes i n0 name 0)}) hql rfl rfl hcap hcap2 (B7 rfl) (B7 rfl) rfl rfl)) (.cons _ _ _ _ rfl (A9 _) (.cons _ _ _ _ rfl (A9 _) (.cons _ _ _ _ rfl (A9 _) .nil)))
 rintro t rfl;refine Ax (?_);refine A4 ?_;rw[Hb,if_neg (by omega),if_neg (by omega),if_neg (by simp[hc3]),hdq,Int.toNat_natCast,Gx hq,←hino,←LY (hv.vd d (AT hq)) hn0];rfl
theorem ZR(f:AM)(dir:A7)(name:AB)(hv:FlsV f)(hs:name.size≤100000):AFn prog 174 [.agg (AW f), .agg (A8 dir), .v (.string name)] (fun r=>r=CM (GW f dir name)):=by
 have hf:=hv.b;refine enter Tryz.func174 rfl rfl rfl rfl rfl 0 rfl ?_;refine FM (h:=a_ (h:=B5 (h:=q_ (F9 (h:=?_)))));refine A3 rfl (AA (LH f dir name hf hs) ?_);rintro r rfl;refine BJ (h:=C6 (h:=?_));refine A6 rfl (fun hb1 hc1=>?_) (fun hb1 hc1=>?_)
 ·refine w_ (FP (h:=Du (h:=?_)));refine Ag (r:=CM (GW f dir name)) none (h5:=?_) (h6:=⟨rfl,rfl,rfl⟩);rw[GW,if_pos (by omega)];exact DC _
 refine AK (F9 (h:=?_));refine A3 rfl (AA (JN f dir name hf) ?_);rintro r rfl;refine Ea (h:=C6 (h:=?_));refine A6 rfl (fun hb2 hc2=>?_) (fun hb2 hc2=>?_)
 ·refine w_ (FP (h:=Du (h:=?_)));refine Ag (r:=CM (GW f dir name)) none (h5:=?_) (h6:=⟨rfl,rfl,rfl⟩);rw[GW,if_neg (by omega),if_pos (by omega)];exact DC _
 have hlk:(AG f dir name).2=0:=by omega
 refine FR (h:=Bl (h:=?_));refine A3 rfl (AA (Hv f (AG f dir name).1 hf) ?_);rintro r rfl;refine Dj (h:=?_);refine A6 rfl (fun hb3 hc3=>?_) (fun hb3 hc3=>?_)
 ·refine w_ (Ep (h:=?_));refine Ag (r:=CM (GW f dir name)) none (h5:=?_) (h6:=⟨rfl,rfl,rfl⟩);rw[GW,if_neg (by omega),if_neg (by omega),if_pos hc3];exact DC _
 refine FR (h:=Bl (h:=?_));refine A3 rfl (AA (T3 f (AG f dir name).1 hf) ?_);rintro r rfl;refine Dj (h:=?_);refine A6 rfl (fun hb4 hc4=>?_) (fun hb4 hc4=>?_)
 ·refine w_ (Ep (h:=?_));refine Ag (r:=CM (GW f dir name)) none (h5:=?_) (h6:=⟨rfl,rfl,rfl⟩);rw[GW,if_neg (by omega),if_neg (by omega),if_neg (by simp[hc3]),if_pos hc4];exact DC _
 obtain⟨q,i,d,n0,hdq,hq,hn0,hino,hidx,hnode,hk0,hnm⟩:=Gy (name:=name) (dir:=dir) (f:=f) (by omega);have hil:=(AP.1 hn0).1;have hql:=(AP.1 hq).1;have hvd:=hv.vd d (AT hq);obtain⟨e,he,hle⟩:=Mi hnode hk0 hlk;have hat1:(AG f dir name).1.1=(q:Int):=by rw[hle];exact hdq
 have hat2:(AG f dir name).1.2≠1:=by rw[hle];exact(hvd.ent n0 (AT hn0) e (HU he).1).2.1
 have hxl:(entS d.nodes i n0 name 0).length=d.nodes.length:=GV _ _ _ _ _
 have hkp:0<(CR (AG f dir name).1.2 (entS d.nodes i n0 name 0)).length:=by
  obtain⟨m,hm,hm1⟩:=UE hvd hn0 name 0;exact Qr hm (by rw[hm1];exact hat2.symm)
 refine AK (Be (h:=?_));refine A3 rfl (El [] rfl (.cons _ _ _ _ _ rfl (A9 _) .nil) (by decide) .nil (LR f q d hf hq (by omega)) ?_);rintro r bc tc ⟨rfl,cap,cap1,hcap,hcap1,rfl,rfl⟩;refine⟨rfl,_,(LW (n:=4) rfl f q d d.nodes cap cap1:Back _ [] _ [_,_,_,_,_,_]),?_⟩;refine CY (h:=F9 (h:=?_));refine A3 rfl (El [4,5] rfl (.cons _ _ _ _ _ rfl (A9 _) (.cons _ _ _ _ _ rfl (A9 _) (.cons _ _ _ _ _ rfl (A9 _) (.cons _ _ _ _ _ rfl (A9 _) .nil)))) (by decide) (.cons _ _ _ _ _ rfl (GS (by rfl) _ _ _ _ _) (.cons _ _ _ _ _ rfl (GA _ _ _) .nil)) (MV f q d n0 i dir name 0 cap cap1 hf hq hdq hidx hn0 hcap hcap1) ?_);rintro r bc tc ⟨rfl,rfl,rfl⟩;refine⟨rfl,_,(LX (B7 rfl) (B7 rfl) (by decide) f q d (entS d.nodes i n0 name 0) cap cap1 cap1:Back _ [4,5] _ [_,_,_,_,_,_,_]),?_⟩;refine e_ (Bl (h:=?_));refine A3 rfl (El [4,5] rfl (.cons _ _ _ _ _ rfl (A9 _) (.cons _ _ _ _ _ rfl (A9 _) .nil)) (by decide) (.cons _ _ _ _ _ rfl (GS (by rfl) _ _ _ _ _) (.cons _ _ _ _ _ rfl (GA _ _ _) .nil)) (Qs f q d {d with nodes:=entS d.nodes i n0 name 0} (AG f dir name).1 cap cap1 (hv.entS hq hn0 name 0) hql hat1 hcap (by rw[GV];exact hcap1) hkp rfl hxl) ?_);rintro r bc tc ⟨rfl,rfl,⟨hns,rfl⟩|⟨hns,cap2,hcap2,rfl⟩⟩
 ·refine⟨rfl,_,(Qp (n:=7) rfl (by decide) (by decide) (by decide) f q d (entS d.nodes i n0 name 0) (AG f dir name).1 f.length cap cap cap1 cap1:Back _ [4,5] _ [_,_,_,_,_,_,_,_,_]),?_⟩;have hx1:(entS d.nodes i n0 name 0).length≤cap1:=by omega
  refine e_ (?_);refine C5 (fun t=>t=⟨look [(6, .bp 2 0),(7, .sl 7 [FB (dir,name,(AG f dir name).1,(0,0))] none),(8, .v (.int .i64 0))],⟨[AW f,A8 dir,AW (f.set q {d with nodes:=Bf (entS d.nodes i n0 name 0) (AG f dir name).1.2})],[]⟩⟩) ?_ ?_
  ·skip
   refine Bz ([(0,AW f),(1,A8 dir),(3,A8 (AG f dir name).1),(6,[.bs 4 0 2 f.length cap])]) 9 (h:=AD 0 (h:=AD 1 (h:=Ac 2 (h:=AD 3 (h:=?_)))));refine BT 4 rfl (fun _ hS=>Hp (y:= .agg (A8 (0,0))) (F5 ⟨rfl,rfl⟩) (by repeat (first|exact A9 _|exact LeA.nil _|exact LeL.refl _|refine LeA.agg ⟨rfl,rfl⟩|refine LeA.tup ⟨rfl,rfl⟩|exact LeL.nil|refine LeL.cons ⟨rfl,rfl⟩ ⟨rfl,rfl⟩|exact LeA.any _)) ⟨rfl,rfl⟩) ?_;refine c_ 5 rfl (AA (Kb dir name (AG f dir name).1 (0,0)) ?_);rintro r rfl;refine o_ (h:=?_);refine CG 6 (h:=BM 7 (h:=BM 8 (h:=z_ (h:=?_))));refine Ab ?_;refine⟨_,rfl,?_⟩;rw[show Bf (entS d.nodes i n0 name 0) (AG f dir name).1.2=_ from hns]
   first|exact Co 3 2 rfl (congrArg (fun x=>[AW f,A8 dir,x]) (J4 (k:=0) (i:=4) (j:=9) (d:={d with nodes:=CR (AG f dir name).1.2 (entS d.nodes i n0 name 0)}) (d':={d with nodes:=CR (AG f dir name).1.2 (entS d.nodes i n0 name 0)}) hql rfl rfl hcap hcap2 (B7 rfl) (B7 rfl) rfl rfl)) (.cons _ _ _ _ rfl (A9 _) (.cons _ _ _ _ rfl (A9 _) (.cons _ _ _ _ rfl (A9 _) .nil)))|exact Co 3 2 rfl (congrArg (fun x=>[AW f,A8 dir,x]) (J4 (k:=0) (i:=4) (j:=5) (d:=d) (d':={d with nodes:=entS d.nodes i n0 name 0}) hql rfl hxl hcap hx1 (B7 rfl) (B7 rfl) rfl rfl)) (.cons _ _ _ _ rfl (A9 _) (.cons _ _ _ _ rfl (A9 _) (.cons _ _ _ _ rfl (A9 _) .nil)))
  rintro t rfl;refine Ax (?_);refine A4 ?_;rw[GW,if_neg (by omega),if_neg (by omega),if_neg (by simp[hc3]),if_neg (by simp[hc4]),hdq,Int.toNat_natCast,Gx hq,←hino,←LY (hv.vd d (AT hq)) hn0];rfl
 refine⟨rfl,_,(Qo (n:=7) rfl (by decide) (by decide) (by decide) f q {d with nodes:=CR (AG f dir name).1.2 (entS d.nodes i n0 name 0)} (entS d.nodes i n0 name 0) (CR (AG f dir name).1.2 (entS d.nodes i n0 name 0)) (AG f dir name).1 f.length cap cap cap1 cap2:Back _ [4,5] _ [_,_,_,_,_,_,_,_,_,_]),?_⟩;refine e_ (?_);refine C5 (fun t=>t=⟨look [(6, .bp 2 0),(7, .sl 7 [FB (dir,name,(AG f dir name).1,(0,0))] none),(8, .v (.int .i64 0))],⟨[AW f,A8 dir,AW (f.set q {d with nodes:=Bf (entS d.nodes i n0 name 0) (AG f dir name).1.2})],[]⟩⟩) ?_ ?_
 ·skip
  refine Bz ([(0,AW f),(1,A8 dir),(3,A8 (AG f dir name).1),(6,[.bs 4 0 2 f.length cap])]) 9 (h:=AD 0 (h:=AD 1 (h:=Ac 2 (h:=AD 3 (h:=?_)))));refine BT 4 rfl (fun _ hS=>Hp (y:= .agg (A8 (0,0))) (F5 ⟨rfl,rfl⟩) (by repeat (first|exact A9 _|exact LeA.nil _|exact LeL.refl _|refine LeA.agg ⟨rfl,rfl⟩|refine LeA.tup ⟨rfl,rfl⟩|exact LeL.nil|refine LeL.cons ⟨rfl,rfl⟩ ⟨rfl,rfl⟩|exact LeA.any _)) ⟨rfl,rfl⟩) ?_;refine c_ 5 rfl (AA (Kb dir name (AG f dir name).1 (0,0)) ?_);rintro r rfl;refine o_ (h:=?_);refine CG 6 (h:=BM 7 (h:=BM 8 (h:=z_ (h:=?_))));refine Ab ?_;refine⟨_,rfl,?_⟩;rw[show Bf (entS d.nodes i n0 name 0) (AG f dir name).1.2=_ from hns];exact Co 3 2 rfl (congrArg (fun x=>[AW f,A8 dir,x]) (J4 (k:=0) (i:=4) (j:=9) (d:={d with nodes:=CR (AG f dir name).1.2 (entS d.nodes i n0 name 0)}) (d':={d with nodes:=CR (AG f dir name).1.2 (entS d.nodes i n0 name 0)}) hql rfl rfl hcap hcap2 (B7 rfl) (B7 rfl) rfl rfl)) (.cons _ _ _ _ rfl (A9 _) (.cons _ _ _ _ rfl (A9 _) (.cons _ _ _ _ rfl (A9 _) .nil)))
 rintro t rfl;refine Ax (?_);refine A4 ?_;rw[GW,if_neg (by omega),if_neg (by omega),if_neg (by simp[hc3]),if_neg (by simp[hc4]),hdq,Int.toNat_natCast,Gx hq,←hino,←LY (hv.vd d (AT hq)) hn0];rfl
end
section
variable {P:Program}{N:Dim}{ops:Array Oper}{Q:Exit→AS→Prop}{S:AH→Prop}{tl:Nat}
def UF(ops:Array Oper)(tl:Nat):Bool:=N3 ops tl
end
section
variable {P:Program}{N:Dim}{Q:Exit→AS→Prop}{l:List Oper}{S:AH→Prop}{tl:Nat}{fuel:Nat}{listed:Array Bool}{m:List (Nat×AV)}{h:AH}{op:Op}{ty:TypeId}{pos:String}{af:Array Edge}{gd:Option (Nat×Bool)}
theorem ZS{i d:Nat}{x:AV}(hi:l[i]?=some ⟨some d,op,ty,pos,af,gd⟩)(hd:Nat.blt d N.n=true)(htl:(UF l.toArray tl&&N2 l.toArray listed&& !Nat.ble tl i&&Region.free .any l.toArray listed i&&(Region.ready .any l.toArray listed).contains i)=true)
    (hw:By l.toArray (look m) ⟨some d,op,ty,pos,af,gd⟩=some true) (hst:∀h,S h→AStep P ⟨some d,op,ty,pos,af,gd⟩ (Bp (look m)) h (fun x' h'=>x'=x∧h'=h)) (hS:S h)
    (H:AAny P N l.toArray Q S tl fuel (listed.setIfInBounds i true) ⟨look ((d,x)::m),h⟩):AAny P N l.toArray Q S tl (fuel+1) listed ⟨look m,h⟩:=by
 simp only[Bool.and_eq_true,Bool.not_eq_true']at htl;obtain⟨⟨⟨⟨t1,t0⟩,t2⟩,t3⟩,t4⟩:=htl;exact AAny.first3 (oi:=⟨some d,op,ty,pos,af,gd⟩) (Hk hi) hd t1 t2 fuel listed ⟨look m,h⟩ (Rl t0) (Region.free_spec (Hk hi) t3) (List.contains_iff_mem.1 t4) (.inl ⟨hw,hst⟩) hS H
end
theorem Dz{P:Program}{N:Dim}{Q:Exit→AS→Prop}{l:List Oper}{S:AH→Prop}{tl:Nat}{fuel:Nat}{listed:Array Bool}{m:List (Nat×AV)}{h:AH}{op:Op}{ty:TypeId}{pos:String}{af:Array Edge}{gd:Option (Nat×Bool)}(i:Nat){d:Nat}{x:AV}(hi:l[i]?=some ⟨some d,op,ty,pos,af,gd⟩)(hst:∀h,S h→AStep P ⟨some d,op,ty,pos,af,gd⟩ (Bp (look m)) h (fun x' h'=>x'=x∧h'=h))(H:AAny P N l.toArray Q S tl fuel (listed.setIfInBounds i true) ⟨look ((d,x)::m),h⟩)(hd:Nat.blt d N.n=true:=by rfl)(htl:(UF l.toArray tl&&N2 l.toArray listed&& !Nat.ble tl i&&Region.free .any l.toArray listed i&&(Region.ready .any l.toArray listed).contains i)=true:=by kernel_rfl)(hw:By l.toArray (look m) ⟨some d,op,ty,pos,af,gd⟩=some true:=by first|rfl|exact B3 rfl rfl (DK ‹_›)|exact B3 rfl rfl (DL ‹_›)|exact B3 rfl rfl (by simp[*]))(hS:S h:=by repeat (first|exact L7 _|refine L8 rfl ?_)):AAny P N l.toArray Q S tl (fuel+1) listed ⟨look m,h⟩:=ZS hi hd htl hw hst hS H
theorem Qt{f:AM}{a:A7}{q i:Nat}{d:Dvc}{n:Nod}(ha:a.1=(q:Int))(hq:f[q]?=some d)(hd:Dm d.nodes)(hn:d.nodes[i]?=some n)(hi:n.ino=a.2):FT f a=(i:Int):=by
 rw[Q0 ha hq];refine Sk hn (by simpa using hi) fun j y hj hy=>?_;obtain⟨l1,e1⟩:=AP.1 hn;obtain⟨l2,e2⟩:=AP.1 hy;have hp:=List.pairwise_iff_getElem.1 hd j i l2 l1 hj;rw[e1,e2]at hp;have:y.ino≠a.2:=by omega
 simpa using this
theorem UG(f:AM)(q:Nat)(d':Dvc)(n:Nod)(i:Nat)(a:A7)(name:AB)(ino:Int)(cap cap1:Nat)(hf:FlsB (f.set q d'))(hq:q<f.length)(ha:a.1=(q:Int))(hi:FT (f.set q d') a=(i:Int))(hn:d'.nodes[i]?=some n)(hcap:f.length≤cap)(hcap1:d'.nodes.length≤cap1):
    ACall prog 232 [.agg [.bs 0 0 2 f.length cap], .agg (A8 a), .v (.string name), .v (.int .i64 ino)] [DB f q d' 1 cap cap1,NB d'.nodes cap1] (fun r b t=>t=[]∧r= .tup []∧b=[DB f q d' 1 cap cap1,NB (entS d'.nodes i n name ino) cap1]):=by
 have key:=MV (f.set q d') q d' n i a name ino cap cap1 hf (by simp[hq]) ha hi hn (by simpa using hcap) hcap1;rw[List.length_set,QU]at key;exact key
def J6(f:AM)(a:A7)(mode uid gid:Int):AM×Int:=
 if Cm f a=false then([],2)else if FU (Ew mode uid gid (Ai f a))=false then([],22)else(J5 f a.1.toNat fun ns=>CL ns a.2 (Ew mode uid gid),0)
def OY(R:AM×Int):AV:= .tup [.agg (AW R.1), .v (.int .i64 R.2)]
theorem UH(e:Int):LeA (.tup [.agg [.v (.slice none 0 0)], .v (.int .i64 e)]) (OY ([],e)):=(by repeat (first|exact A9 _|exact LeA.nil _|exact LeL.refl _|refine LeA.agg ?_|refine LeA.tup ?_|exact LeL.nil|refine LeL.cons ?_ ?_|exact LeA.any _))
theorem ZT{n:Nod}(h:FU n=true):n.target.size≤128:=by
 unfold FU at h;split at h
 ·cases h
 split at h
 ·simp[LE]at h;omega
 have h2:=List.isEmpty_iff.1 h;rw[ByteArray.toList_eq]at h2;have:n.target.data.size=0:=by rw[←Array.length_toList,h2];rfl
 show n.target.data.size≤128;omega
theorem Qu{f:AM}(hv:FlsV f)(a:A7):(Ai f a).target.size≤128:=by
 rcases JK f a with⟨-,h⟩|⟨k,i,d,n, -,h1,h2, -, -,h⟩
 ·simp only[Ai,h,Option.getD_none];exact BO _
 simp only[Ai,h,Option.getD_some];exact ZT ((hv.vd d (AT h1)).plain n (AT h2))
def Fo(f:AM)(dir:A7)(name:AB)(n:Nod):KW:=
 if C7 f dir name≠0 then([],[],C7 f dir name)else if FU n=false then([],[],22)else if(AG f dir name).2=0 then([],[],17)else
 match GP f dir.1 with
 |none=>([],[],2)
 |some d=>if 16≤d.nodes.length∨d.next=1073741824∨JM f dir=true then([],[],28)else(f.set dir.1.toNat ⟨d.next+1,BE d.nodes dir.2 name d.next++[Ec n d.next dir.2]⟩,[(dir,name,(0,0),(dir.1,d.next))],0)
theorem UJ{f:AM}{q:Nat}{d:Dvc}{j j' cap cap1 c:Nat}(m:Nod)(hq:q<f.length):SetAt (DB f q d j cap cap1) (0+q * 2+1) [.bs j' 0 8 (d.nodes.length+1) c] (DB f q {d with nodes:=d.nodes++[m]} j' cap c):=by
 have h:=QT (d:=d) (d':={d with nodes:=d.nodes++[m]}) (j:=j) (j':=j') (cap:=cap) (cap1:=cap1) (cap1':=c) (k:=1) (cs:=[.bs j' 0 8 (d.nodes++[m]).length c]) hq (by repeat constructor) (by simp)
 rwa [List.length_append]at h
section
theorem ZU(f:AM)(a:A7)(mode uid gid:Int)(hv:FlsV f):AFn prog 176 [.agg (AW f), .agg (A8 a), .v (.int .i64 mode), .v (.int .i64 uid), .v (.int .i64 gid)] (fun r=>r=OY (J6 f a mode uid gid)):=by
 have hf:=hv.b;have htg:=Qu hv a;refine enter Tryz.func176 rfl rfl rfl rfl rfl 0 rfl ?_;refine FM (h:=B5 (h:=Bl (h:=?_)));refine A3 rfl (AA (G7 f a hf) ?_);rintro r rfl;refine Ea (h:=Dj (h:=?_));refine A6 rfl (fun hb1 hc1=>?_) (fun hb1 hc1=>?_)
 ·refine Cf (h:=?_);refine Ag (r:=OY (J6 f a mode uid gid)) none (h5:=?_) (h6:=⟨rfl,rfl,rfl⟩);rw[J6,if_pos hc1];exact UH _
 refine AK (Aa (h:=DF (h:=Bm (h:=Bm (h:=Bm (h:=e_ (q_ (Be (h:=?_)))))))));refine A3 rfl (AA (T4 (Ew mode uid gid (Ai f a)) (by show(Ai f a).target.size≤100000;omega)) ?_);rintro r rfl;refine Dj (h:=?_);refine A6 rfl (fun hb2 hc2=>?_) (fun hb2 hc2=>?_)
 ·refine Cf (h:=?_);refine Ag (r:=OY (J6 f a mode uid gid)) none (h5:=?_) (h6:=⟨rfl,rfl,rfl⟩);rw[J6,if_neg (by simp[hc1]),if_pos hc2];exact UH _
 obtain⟨q,i,d,n0,hdq,hq,hn0,hino,hidx,hnode⟩:=(JK f a).resolve_left (fun h=>by simp[Cm,h.2]at hc1);have hil:=(AP.1 hn0).1;have hql:=(AP.1 hq).1;have hng:Ai f a=n0:=by simp[Ai,hnode]
 refine AK (Be (h:=?_));refine A3 rfl (El [] rfl (.cons _ _ _ _ _ rfl (A9 _) .nil) (by decide) .nil (LR f q d hf hq (by omega)) ?_);rintro r bc tc ⟨rfl,cap,cap1,hcap,hcap1,rfl,rfl⟩;refine⟨rfl,_,(LW (n:=4) rfl f q d d.nodes cap cap1:Back _ [] _ [_,_,_,_,_,_]),?_⟩;have hD0:(DB f q d 5 cap cap1)[0+q * 2+1]?=some (.bs 5 0 8 d.nodes.length cap1):=MT hql
 have hset:SetAt (NB d.nodes cap1) (0+i * 8) (AU (Ew mode uid gid (Ai f a))) (NB (d.nodes.set i (Ew mode uid gid (Ai f a))) cap1):=by
  rw[hng];exact QS (k:=0) hn0 (by repeat constructor) (by simp[AU])
 refine D4 (h:=s_ (h:=e_ (q_ (Bz ([(0,AW f),(1,A8 a),(3,AU (Ew mode uid gid (Ai f a))),(4,DB f q d 5 cap cap1),(6,[.bs 4 0 2 f.length cap])]) 13 (h:=Ar 0 (h:=?_))))));refine AD 1 (h:=?_);refine Ar 2 (h:=?_);refine AD 3 (h:=?_);refine BT 4 rfl (fun _ hS=>Cr (m:=q) rfl rfl hdq hql ⟨rfl,rfl⟩) ?_;refine Ar 5 (h:=?_)
 first|refine AD 6 (h:=?_)|refine BT 6 rfl (fun _ hS=>Cy (row:=DB f q d 5 cap cap1) rfl (kb hS rfl) hD0 ⟨rfl,rfl⟩) ?_
 refine AD 7 (h:=?_);refine AD 8 (h:=?_);refine AD 10 (h:=?_);refine c_ 9 rfl (KO 2 rfl (.cons _ _ _ _ _ rfl (LeA.of_eq (Jz hq hcap hcap1 (BO _) (BO _) rfl rfl)) (.cons _ _ _ _ _ rfl (A9 _) .nil)) (Jp f a hf) ?_);rintro r rfl;refine⟨rfl,?_⟩;refine o_ (h:=?_);refine BT 11 rfl (fun _ hS=>Cr (m:=i) rfl rfl hidx hil ⟨rfl,rfl⟩) ?_;refine GN 12 rfl (F1 rfl rfl rfl rfl rfl rfl hset (by repeat constructor) ?_);refine o_ (h:=z_ (h:=t_ (?_)));refine C5 (fun t=>t=⟨look [(10, .bp 2 0),(11, .v (.int .i64 0))],⟨[AW f,A8 a,AW (f.set q {d with nodes:=d.nodes.set i (Ew mode uid gid (Ai f a))})],[]⟩⟩) ?_ ?_
 ·skip
  refine B2 (l_ (h:=s_ (h:=E8 (h:=?_))));exact⟨_,rfl,Co 3 2 rfl (congrArg (fun x=>[AW f,A8 a,x]) (J4 (k:=0) (i:=4) (j:=5) (d:=d) (d':={d with nodes:=d.nodes.set i (Ew mode uid gid (Ai f a))}) hql rfl (by simp) hcap (by simpa using hcap1) (B7 rfl) (B7 rfl) rfl rfl)) (.cons _ _ _ _ rfl (A9 _) (.cons _ _ _ _ rfl (A9 _) .nil))⟩
 rintro t rfl;refine Ax (?_);refine A4 ?_;rw[J6,if_neg (by simp[hc1]),if_neg (by simp[hc2]),hdq,Int.toNat_natCast,Gx hq,←hino,←Mh (hv.vd d (AT hq)).asc hn0,←hng];rfl
theorem ZV(f:AM)(dir:A7)(name:AB)(n:Nod)(hv:FlsV f)(hs:name.size≤100000)(hns:n.target.size≤100000):AFn prog 177 [.agg (AW f), .agg (A8 dir), .v (.string name), .agg (AU n)] (fun r=>r=CM (Fo f dir name n)):=by
 have hf:=hv.b;obtain⟨e0,he0⟩:∃e0:Int,e0=if C7 f dir name≠0 then C7 f dir name else if FU n=false then 22 else 0:=⟨_,rfl⟩
 refine enter Tryz.func177 rfl rfl rfl rfl rfl 0 rfl ?_;refine EV (h:=EL (h:=a_ (h:=B5 (h:=F9 (h:=?_)))));refine A3 rfl (AA (LH f dir name hf hs) ?_);rintro r rfl;refine B5 (h:=?_);refine C5 (fun t=>t=⟨look [(2, .v (.string name)),(4, .bp 0 0),(5, .bp 1 0),(7, .bp 2 0),(8, .bp 3 0),(9, .v (.slice none 0 0)),(10, .v (.int .i64 0)),(11, .v (.int .i64 e0))],⟨[AW f,A8 dir,AU n,[.v (.slice none 0 0)]],[]⟩⟩) ?_ ?_
 ·skip
  refine Aa (h:=DT (h:=?_));refine AF true rfl rfl (fun hb1 hc1=>?_) (fun hb1 hc1=>?_)
  ·refine l_ (h:=?_);refine Af (AA (T4 n hns) ?_);rintro r rfl;refine Dd (h:=Cl (h:=?_));refine A6 rfl (fun hb2 hc2=>?_) (fun hb2 hc2=>?_)
   ·have hee:e0=22:=by rw[he0,if_neg (by omega),if_pos hc2]
    refine B2 (E8 (h:=?_));refine⟨_,rfl,?_⟩;rw[hee];exact(wk 4 0)
   have hee:e0=C7 f dir name:=by rw[he0,if_neg (by omega),if_neg (by simp[hc2]),hc1]
   refine As (Ab (?_));refine⟨_,rfl,?_⟩;rw[hee];exact(wk 4 0)
  have hee:e0=C7 f dir name:=by rw[he0,if_pos hc1]
  refine E6 (h:=D7 (h:=As (Ab (?_))));refine⟨_,rfl,?_⟩;rw[hee];exact(wk 4 0)
 rintro t rfl;refine BD (h:=C6 (h:=?_));refine A6 rfl (fun hb3 hc3=>?_) (fun hb3 hc3=>?_)
 ·refine w_ (FP (h:=Du (h:=?_)));refine Ag (r:=CM (Fo f dir name n)) none (h5:=?_) (h6:=⟨rfl,rfl,rfl⟩)
  rw[show Fo f dir name n=([],[],e0) by
   unfold Fo;by_cases h:C7 f dir name=0
   ·rw[if_neg (by omega)]at he0 ⊢;by_cases h2:FU n=false
    ·rw[if_pos h2]at he0 ⊢;rw[he0]
    rw[if_neg h2]at he0;omega
   rw[if_pos h]at he0 ⊢;rw[he0]]
  exact DC _
 have hpl:C7 f dir name=0:=by
  by_cases h:C7 f dir name=0
  ·exact h
  rw[if_pos h]at he0;omega
 have hpn:¬FU n=false:=by
  intro h;rw[if_neg (by omega),if_pos h]at he0;omega
 refine FR (h:=F9 (h:=?_));refine A3 rfl (AA (JN f dir name hf) ?_);rintro r rfl;refine Dt (h:=BJ (h:=C2 (h:=?_)));refine A6 rfl (fun hb4 hc4=>?_) (fun hb4 hc4=>?_)
 ·refine w_ (Ep (h:=?_));refine Ag (r:=CM (Fo f dir name n)) none (h5:=?_) (h6:=⟨rfl,rfl,rfl⟩);rw[Fo,if_neg (by omega),if_neg hpn,if_pos (by omega)];exact DC _
 obtain⟨q,i,d,n0,hdq,hq,hn0,hino,hidx,hnode,hk0,hnm⟩:=Gy (name:=name) (dir:=dir) (f:=f) hpl;have hil:=(AP.1 hn0).1;have hql:=(AP.1 hq).1;have hvd:=hv.vd d (AT hq);have hatI:GP f dir.1=some d:=by rw[hdq,KV,hq]
 have hrow:(f.map Bn)[q]?=some (Bn d):=by rw[List.getElem?_map,hq];rfl
 have hnx1:=hvd.next2;have hnx2:=hvd.nextM;have hdl:=hvd.len;refine AK (Ah (h:=AN (h:=?_)));refine A3 rfl (EF (n:=q) rfl rfl hdq hrow ?_);refine l_ (h:=CY (h:=F7 (h:=n_ (h:=E5 (h:=m_ (h:=?_))))));refine AF false rfl rfl (fun hb5 hc5=>?_) (fun hb5 hc5=>?_)
 ·refine G4 (h:=e_ (Cz (h:=w_ (Ep (h:=?_)))));refine Ag (r:=CM (Fo f dir name n)) none (h5:=?_) (h6:=⟨rfl,rfl,rfl⟩);rw[Fo,if_neg (by omega),if_neg hpn,if_neg (by omega),hatI];simp only;rw[if_pos (by first|exact .inl (by simp at *;omega)|exact .inr (.inl (by omega))|exact .inr (.inr (by assumption)))];exact DC _
 refine CW (h:=BQ (h:=?_));refine AF false rfl rfl (fun hb6 hc6=>?_) (fun hb6 hc6=>?_)
 ·refine Ce (h:=e_ (Cz (h:=w_ (Ep (h:=?_)))));refine Ag (r:=CM (Fo f dir name n)) none (h5:=?_) (h6:=⟨rfl,rfl,rfl⟩);rw[Fo,if_neg (by omega),if_neg hpn,if_neg (by omega),hatI];simp only;rw[if_pos (by first|exact .inl (by simp at *;omega)|exact .inr (.inl (by omega))|exact .inr (.inr (by assumption)))];exact DC _
 refine Em (h:=?_);refine Af (AA (Q1 f dir hf) ?_);rintro r rfl;refine C1 (h:=?_);refine A6 rfl (fun hb7 hc7=>?_) (fun hb7 hc7=>?_)
 ·refine w_ (Ep (h:=?_));refine Ag (r:=CM (Fo f dir name n)) none (h5:=?_) (h6:=⟨rfl,rfl,rfl⟩);rw[Fo,if_neg (by omega),if_neg hpn,if_neg (by omega),hatI];simp only;rw[if_pos (by first|exact .inl (by simp at *;omega)|exact .inr (.inl (by omega))|exact .inr (.inr (by assumption)))];exact DC _
 refine AK (Be (h:=?_));refine A3 rfl (El [] rfl (.cons _ _ _ _ _ rfl (A9 _) .nil) (by decide) .nil (LR f q d hf hq (by omega)) ?_);rintro r bc tc ⟨rfl,cap,cap1,hcap,hcap1,rfl,rfl⟩;refine⟨rfl,_,(LW (n:=6) rfl f q d d.nodes cap cap1:Back _ [] _ [_,_,_,_,_,_,_,_]),?_⟩;have hD0:(DB f q d 7 cap cap1)[0+q * 2+1]?=some (.bs 7 0 8 d.nodes.length cap1):=MT hql;obtain⟨mk,hmk⟩:∃mk,mk=Ec n d.next dir.2:=⟨_,rfl⟩;refine CY (h:=Ah (h:=AN (h:=AN (h:=AN (h:=AN (h:=AN (h:=?_)))))));refine A3 rfl (Jl (y:= .agg (AU ⟨d.next,n.kind,n.mode,n.uid,n.gid,0,n.target,[]⟩)) (F5 ⟨rfl,rfl⟩) ?_);refine CY (h:=?_);refine C5 (fun t=>t=⟨look [(2, .v (.string name)),(5, .bp 1 0),(8, .bp 3 0),(15, .bp 8 0),(16, .bp 9 0)],⟨[AW f,A8 dir,AU n,[.v (.slice none 0 0)],A8 (AG f dir name).1,Bn d,DB f q d 7 cap cap1,NB d.nodes cap1,[.bs 6 0 2 f.length cap],AU mk],[]⟩⟩) ?_ ?_
 ·skip
  refine Ah (h:=C2 (h:=?_));refine A6 rfl (fun hb8 hc8=>?_) (fun hb8 hc8=>?_)
  ·have hmk2:mk=⟨d.next,n.kind,n.mode,n.uid,n.gid,dir.2,n.target,[]⟩:=by rw[hmk];unfold Ec;rw[if_pos hc8]
   refine B2 (AN (h:=Bm (h:=Bq (h:=?_))));refine⟨_,rfl,?_⟩;rw[hmk2];exact CK 10 0 (by simp[B4,Az,Aw,C3,C4,A8,AU,AW,Bn])
  have hmk2:mk=⟨d.next,n.kind,n.mode,n.uid,n.gid,0,n.target,[]⟩:=by rw[hmk];unfold Ec;rw[if_neg hc8]
  refine As (Ab (?_));refine⟨_,rfl,?_⟩;rw[hmk2];exact CK 10 0 (by simp[B4,Az,Aw,C3,C4,A8,AU,AW,Bn])
 rintro t rfl;refine C5 (fun t=>∃capx,(d.nodes++[mk]).length≤capx∧t=⟨look [(2, .v (.string name)),(5, .bp 1 0),(8, .bp 3 0),(15, .bp 8 0),(16, .bp 9 0)],⟨[AW f,A8 dir,AU n,[.v (.slice none 0 0)],A8 (AG f dir name).1,Bn d,DB f q {d with nodes:=d.nodes++[mk]} 7 cap capx,NB (d.nodes++[mk]) capx,[.bs 6 0 2 f.length cap],AU mk],[]⟩⟩) ?_ ?_
 ·skip
  refine Bz ([(0,AW f),(1,A8 dir),(2,AU n),(3,[.v (.slice none 0 0)]),(4,A8 (AG f dir name).1),(5,Bn d),(6,DB f q d 7 cap cap1),(8,[.bs 6 0 2 f.length cap]),(9,AU mk)]) 16 (h:=?_);refine Dz 0 rfl (fun h0 hS=>FG rfl ⟨rfl,rfl⟩) ?_
  first|refine Dz 1 rfl (fun h0 hS=>Cy (row:=DB f q d 7 cap cap1) rfl (kb hS rfl) hD0 ⟨rfl,rfl⟩) ?_|refine Dz 1 rfl (fun h0 hS=>Cy rfl (kb hS rfl) rfl ⟨rfl,rfl⟩) ?_
  refine Dz 2 rfl (fun h0 hS=>FG rfl ⟨rfl,rfl⟩) ?_
  first|refine Dz 3 rfl (fun h0 hS=>Cy (row:=DB f q d 7 cap cap1) rfl (kb hS rfl) hD0 ⟨rfl,rfl⟩) ?_|refine Dz 3 rfl (fun h0 hS=>Cy rfl (kb hS rfl) rfl ⟨rfl,rfl⟩) ?_
  refine Dz 4 rfl (fun h0 hS=>FG rfl ⟨rfl,rfl⟩) ?_
  first|refine Dz 5 rfl (fun h0 hS=>Cy (row:=DB f q d 7 cap cap1) rfl (kb hS rfl) hD0 ⟨rfl,rfl⟩) ?_|refine Dz 5 rfl (fun h0 hS=>Cy rfl (kb hS rfl) rfl ⟨rfl,rfl⟩) ?_
  refine Dz 6 rfl (fun h0 hS=>FG rfl ⟨rfl,rfl⟩) ?_
  first|refine Dz 7 rfl (fun h0 hS=>Cy (row:=DB f q d 7 cap cap1) rfl (kb hS rfl) hD0 ⟨rfl,rfl⟩) ?_|refine Dz 7 rfl (fun h0 hS=>Cy rfl (kb hS rfl) rfl ⟨rfl,rfl⟩) ?_
  refine Dz 8 rfl (fun h0 hS=>Cr (m:=q) rfl rfl hdq hql ⟨rfl,rfl⟩) ?_;refine Dz 9 rfl (fun h0 hS=>FG rfl ⟨rfl,rfl⟩) ?_;refine Dz 10 rfl (fun h0 hS=>Cy (row:=DB f q d 7 cap cap1) rfl (kb hS rfl) hD0 ⟨rfl,rfl⟩) ?_
  first|refine Dz 11 rfl (fun h0 hS=>Cy (row:=DB f q d 7 cap cap1) rfl (kb hS rfl) hD0 ⟨rfl,rfl⟩) ?_|refine Dz 11 rfl (fun h0 hS=>Kw rfl (kb hS rfl) rfl ⟨rfl,rfl⟩) ?_
  refine Dz 12 rfl (fun h0 hS=>M6 (by repeat (first|exact DenseA.nil _|(apply DenseA.cons;(focus exact rfl);(focus exact rfl);(focus exact rfl);(focus exact rfl))|(apply DenseA.consE;(focus exact rfl);(focus exact rfl);(focus exact rfl)))) rfl rfl rfl rfl ⟨rfl,rfl⟩) ?_;refine c_ 13 rfl (L6 rfl rfl rfl (by rw[MS hcap1];omega) JQ (by omega) (by omega) ?_ ?_)
  ·rintro hg row2 bx2 hs hb;obtain rfl:=Tv hs hg;obtain rfl:bx2=[_,_,_,_,_,_,_,_,_,_]:=hb.one.2;have hgx:(d.nodes++[mk]).length≤cap1:=by simpa using hg
   refine o_ (h:=?_);refine Dz 14 rfl (fun h0 hS=>Cr (m:=q) rfl rfl hdq hql ⟨rfl,rfl⟩) ?_;refine Dz 15 rfl (fun h0 hS=>FG rfl ⟨rfl,rfl⟩) ?_;refine GN 16 rfl (F1 rfl rfl rfl rfl rfl rfl (UJ mk hql) (by repeat constructor) ?_);refine o_ (h:=z_ (h:=?_));refine Ab ?_
   first|exact⟨_,⟨_,hgx,rfl⟩,E3 [0,1,2,3,4,5,6,10,8,9] (fun i hi=>absurd hi (Nat.not_lt_zero i)) (by decide) (.cons _ _ _ _ _ rfl rfl (.cons _ _ _ _ _ rfl rfl (.cons _ _ _ _ _ rfl rfl (.cons _ _ _ _ _ rfl rfl (.cons _ _ _ _ _ rfl rfl (.cons _ _ _ _ _ rfl rfl (.cons _ _ _ _ _ rfl (Ki (by rfl) _ _ _ _ _) (.cons _ _ _ _ _ rfl (JP _ _ _) (.cons _ _ _ _ _ rfl rfl (.cons _ _ _ _ _ rfl rfl .nil)))))))))) (by repeat (first|exact SubK.nil|refine SubK.cons _ _ _ _ rfl (A9 _) ?_))⟩|exact⟨_,⟨_,hgx,rfl⟩,CK 10 0 (by simp[B4,Az,Aw,C3,C4,A8,AU,AW,Bn])⟩
  rintro hg cap3 k bx2 hcp3 hs;rw[show((NB d.nodes cap1).drop 0).take (d.nodes.length * 8)++Bu (.agg (AU mk))++List.replicate ((cap3 - (d.nodes.length+1)) * 8) AV.any=NB (d.nodes++[mk]) cap3 from Tu d.nodes mk cap1 cap3]at hs;obtain⟨rfl,rfl⟩:k=10∧bx2=[_,_,_,_,_,_,_,_,_,_,_]:=hs.eq;have hgx:(d.nodes++[mk]).length≤cap3:=by simpa using hcp3
  refine o_ (h:=?_);refine Dz 14 rfl (fun h0 hS=>Cr (m:=q) rfl rfl hdq hql ⟨rfl,rfl⟩) ?_;refine Dz 15 rfl (fun h0 hS=>FG rfl ⟨rfl,rfl⟩) ?_;refine GN 16 rfl (F1 rfl rfl rfl rfl rfl rfl (UJ mk hql) (by repeat constructor) ?_);refine o_ (h:=z_ (h:=?_));refine Ab ?_;exact⟨_,⟨_,hgx,rfl⟩,E3 [0,1,2,3,4,5,6,10,8,9] (fun i hi=>absurd hi (Nat.not_lt_zero i)) (by decide) (.cons _ _ _ _ _ rfl rfl (.cons _ _ _ _ _ rfl rfl (.cons _ _ _ _ _ rfl rfl (.cons _ _ _ _ _ rfl rfl (.cons _ _ _ _ _ rfl rfl (.cons _ _ _ _ _ rfl rfl (.cons _ _ _ _ _ rfl (Ki (by rfl) _ _ _ _ _) (.cons _ _ _ _ _ rfl (JP _ _ _) (.cons _ _ _ _ _ rfl rfl (.cons _ _ _ _ _ rfl rfl .nil)))))))))) (by repeat (first|exact SubK.nil|refine SubK.cons _ _ _ _ rfl (A9 _) ?_))⟩
 rintro t ⟨capx,hcapx,rfl⟩;have hasc2:Dm (d.nodes++[mk]):=List.pairwise_append.2 ⟨hvd.asc,List.pairwise_singleton _ _,fun x hx y hy=>by obtain rfl:=List.mem_singleton.1 hy;rw[hmk];exact hvd.lt x hx⟩;have hn2:(d.nodes++[mk])[i]?=some n0:=by rw[CO hil];exact hn0
 have hidx2:FT (f.set q ⟨d.next+1,d.nodes++[mk]⟩) dir=(i:Int):=Qt hdq (d:=⟨d.next+1,d.nodes++[mk]⟩) (by simp[hql]) hasc2 hn2 hino
 have hf2:FlsB (f.set q ⟨d.next+1,d.nodes++[mk]⟩):=hf.set_ (by have:=hvd.len;simp;omega) (fun m hm=>by
  rcases List.mem_append.1 hm with h|h
  ·have:=hvd.many m h;omega
  obtain rfl:=List.mem_singleton.1 h;rw[hmk];simp[Ec])
 have hmki:mk.ino=d.next:=by rw[hmk];rfl
 have hmk0:(AU mk)[0+0]?=some (.v (.int .i64 d.next)):=by rw[hmk];rfl
 refine Ah (h:=AN (h:=?_));refine A3 rfl (Cr (m:=q) rfl rfl hdq hql ?_);refine f_ (h:=?_);refine A3 rfl (Cy rfl rfl (Yf hql) ?_);refine A3 rfl (Kz rfl rfl (by dsimp only;omega) ?_);refine A3 rfl (Cr (m:=q) rfl rfl hdq hql ?_);refine f_ (h:=?_);refine Ng (F1 rfl rfl rfl rfl rfl rfl (QT (d':=⟨d.next+1,d.nodes++[mk]⟩) (j':=7) (cap1':=capx) (k:=0) (cs:=[.v (.int .i64 (d.next+1))]) hql (by repeat constructor) (by simp)) (by repeat constructor) ?_);refine e_ (F9 (h:=AN (h:=?_)));refine A3 rfl (El [6,7] rfl (.cons _ _ _ _ _ rfl (A9 _) (.cons _ _ _ _ _ rfl (A9 _) (.cons _ _ _ _ _ rfl (A9 _) (.cons _ _ _ _ _ rfl (LeA.of_eq (show AV.v (.int .i64 mk.ino)=_ by rw[hmki])) .nil)))) (by decide) (.cons _ _ _ _ _ rfl (GS (by rfl) _ _ _ _ _) (.cons _ _ _ _ _ rfl (GA _ _ _) .nil)) (UG f q ⟨d.next+1,d.nodes++[mk]⟩ n0 i dir name d.next cap capx hf2 hql hdq hidx2 hn2 hcap hcapx) ?_);rintro r bc tc ⟨rfl,rfl,rfl⟩;refine⟨rfl,_,(LX (B7 rfl) (B7 rfl) (by decide) f q ⟨d.next+1,d.nodes++[mk]⟩ (entS (d.nodes++[mk]) i n0 name d.next) cap capx capx:Back _ [6,7] _ [_,_,_,_,_,_,_,_,_,_]),?_⟩;refine e_ (?_);refine C5 (fun t=>t=⟨look [(8, .bp 3 0),(9, .sl 7 [FB (dir,name,(0,0),(dir.1,d.next))] none),(10, .v (.int .i64 0))],⟨[AW f,A8 dir,AU n,AW (f.set q ⟨d.next+1,entS (d.nodes++[mk]) i n0 name d.next⟩)],[]⟩⟩) ?_ ?_
 ·skip
  refine Bz ([(0,AW f),(1,A8 dir),(2,AU n),(4,A8 (AG f dir name).1),(5,Bn d),(8,[.bs 6 0 2 f.length cap]),(9,AU mk)]) 13 (h:=AD 0 (h:=AD 1 (h:=Ac 2 (h:=?_))));refine BT 3 rfl (fun _ hS=>Hp (y:= .agg (A8 (0,0))) (F5 ⟨rfl,rfl⟩) (by repeat (first|exact A9 _|exact LeA.nil _|exact LeL.refl _|refine LeA.agg ⟨rfl,rfl⟩|refine LeA.tup ⟨rfl,rfl⟩|exact LeL.nil|refine LeL.cons ⟨rfl,rfl⟩ ⟨rfl,rfl⟩|exact LeA.any _)) ⟨rfl,rfl⟩) ?_;refine Ar 4 (h:=AD 5 (h:=Ar 6 (h:=?_)));refine BT 7 rfl (fun _ hS=>Cy (row:=AU mk) rfl (kb hS rfl) hmk0 ⟨rfl,rfl⟩) ?_;refine Hq 8 (h:=?_);refine c_ 9 rfl (AA (Kb dir name (0,0) (dir.1,d.next)) ?_);rintro r rfl;refine o_ (h:=?_);refine CG 10 (h:=BM 11 (h:=BM 12 (h:=z_ (h:=?_))));refine Ab ?_;exact⟨_,rfl,Co 4 2 rfl (congrArg (fun x=>[AW f,A8 dir,AU n,x]) (J4 (k:=0) (i:=6) (j:=7) (d:=⟨d.next+1,d.nodes++[mk]⟩) (d':=⟨d.next+1,entS (d.nodes++[mk]) i n0 name d.next⟩) hql rfl (GV _ _ _ _ _) hcap (by rw[GV];exact hcapx) (B7 rfl) (B7 rfl) rfl rfl)) (.cons _ _ _ _ rfl (A9 _) (.cons _ _ _ _ rfl (A9 _) (.cons _ _ _ _ rfl (A9 _) .nil)))⟩
 rintro t rfl;refine Ax (?_);refine A4 ?_;rw[List.length_map]at hc5;rw[Fo,if_neg (by omega),if_neg hpn,if_neg (by omega),hatI];simp only;rw[if_neg (by rw[hc7];simp;omega),hdq,Int.toNat_natCast,←hino,←LY hvd hn0,hino,←hmk,show entS d.nodes i n0 name d.next++[mk]=entS (d.nodes++[mk]) i n0 name d.next by unfold entS;rw[List.set_append_left _ _ hil],←hdq];rfl
end
theorem UK(f:AM)(hf:FlsB f):AFn prog 182 [.agg (AW f)] (fun r=>r= .agg (AW f)):=by
 intro w St bl vs hr hv;have hbl:bl=[]:=by have:=hr.bxlen;simpa using this
 subst hbl;simp only[AE]at hv;obtain⟨z,zs,rfl,hz,rfl⟩:=hv;have hz':AR St w (.agg (AW f)) z:=by have:=GG _ _ hz;simpa[Cb,Da,AW]using this
 have hF:=Ta hr.stlt hf hz';refine Calls.mono (Old.Copy_any z f w hF) ?_;rintro e w' ⟨dv,L,rfl,hD,hL,hB⟩;have hsz:=hB.size;obtain⟨d1,d2,d3,d4⟩:=hD;let St':Nat→Nat→Prop:=fun b o=>St b o∨(w.heap.size≤b∧b<w'.heap.size);let G':Gh:=⟨St',[],[]⟩;have hfresh:∀{α:Type} {sz:Nat} {cell:α→Nat→Value} {E:TypeId} {v:Value} {xs:List α},Old.OwnL sz cell E w' w.heap.size v xs→∀b,v.ownBlock=some b→∀o,St' b o:=fun h b hb o=> .inr (h.lt b hb)
 have hents:∀(y:Nod×Value),Old.OwnL 2 Old.entCell 234 w' w.heap.size y.2 y.1.entries→AR St' w' (.sl 2 (y.1.entries.map CT) none) y.2:=by
  intro y hy;refine MO hy (hfresh hy) (fun _ _=>rfl) fun e _ j av hj=>?_
  match j,hj with
  |0,hj=>injection hj with hj;subst hj;simp only[AR];rfl
  |1,hj=>injection hj with hj;subst hj;simp only[AR];rfl
 have hnod:∀(y:Nod×Value),Old.OwnL 2 Old.entCell 234 w' w.heap.size y.2 y.1.entries→∀j av,(AU y.1)[j]?=some av→AR St' w' av (Old.nodCell y j):=by
  intro y hy j av hj
  match j,hj with
  |0,hj=>injection hj with hj;subst hj;simp only[AR];rfl
  |1,hj=>injection hj with hj;subst hj;simp only[AR];rfl
  |2,hj=>injection hj with hj;subst hj;simp only[AR];rfl
  |3,hj=>injection hj with hj;subst hj;simp only[AR];rfl
  |4,hj=>injection hj with hj;subst hj;simp only[AR];rfl
  |5,hj=>injection hj with hj;subst hj;simp only[AR];rfl
  |6,hj=>injection hj with hj;subst hj;simp only[AR];rfl
  |7,hj=>injection hj with hj;subst hj;exact hents y hy
  |j+8,hj=>exact absurd hj (by simp[AU])
 have hdev:AR St' w' (.sl 2 (L.map fun x=>Bn (Old.dvcOf x)) none) dv:=by
  refine MO d1 (hfresh d1) (fun _ _=>rfl) fun x hx j av hj=>?_;obtain⟨f1,f2,f3⟩:=(d2 x hx).1
  match j,hj with
  |0,hj=>injection hj with hj;subst hj;simp only[AR];rfl
  |1,hj=>
    injection hj with hj;subst hj;have key:=MO f1 (St:=St') (hfresh f1) (enc:=fun y=>AU y.1) (fun _ _=>rfl) fun z hz j av hj=>hnod z (f2 z hz).1 j av hj;have e:((Old.dvcOf x).nodes.map AU)=x.2.2.map fun y=>AU y.1:=by simp[Old.dvcOf]
    rw[e];exact key
  |j+2,hj=>exact absurd hj (by simp[Bn])
 have hst:∀b o,St b o→b<w.heap.size:=hr.stlt;refine⟨.agg (AW f),[],[],G',⟨rfl,rfl,rfl⟩,⟨?_,?_,?_,?_,rfl,?_,?_,?_,?_,rfl,?_,?_,?_⟩,⟨?_,?_,?_⟩,?_⟩
 ·intro i b hi;simp at hi
 ·exact⟨hB.os,hB.tape,hB.output,hB.size,fun k hk _=>hB.block k hk⟩
 ·rintro b o (h|h)
  ·have:=hst b o h;omega
  exact h.2
 ·rintro b o (h|h)
  ·exact .inl h
  exact .inr h.1
 ·show([]:List Nat).Nodup;simp
 ·intro b hb;simp[G']at hb
 ·intro b hb;simp[G']at hb
 ·intro i b row hi;simp[G']at hi
 ·intro g n u T sz rows hg;simp[G']at hg
 ·intro g n u hg;simp[G']at hg
 ·intro g g' n n' u u' hg;simp[G']at hg
 ·exact fun b o h=>⟨.inl h,hB.cell (p:=⟨b,o,none⟩) (hst b o h)⟩
 ·intro i b hi;simp at hi
 ·intro g n u hg;simp at hg
 refine H6 _ _ ?_;unfold AW;rw[←hL,Old.flsOf,List.map_map];simp only[AR,BC];have hdev2:AR St' w' (.sl 2 (L.map (Bn ∘ Old.dvcOf)) none) dv:=hdev;simp only[AR]at hdev2;exact⟨[dv],rfl,dv,[],rfl,hdev2,rfl⟩
def Mj(f:AM)(a top:A7):Bool:=Hy f top 17 a
def GB:List Int:=[2,20,22]
def GX(a b:Int):Int:=if a=2∨b=2 then 2 else if a=20∨b=20 then 20 else if a=22∨b=22 then 22 else 0
theorem UL{a b:Int}{j:Nat}{x:Int}(hx:GB[j]?=some x)(ha:∀i y,i<j→GB[i]?=some y→¬(a=y∨b=y))(h:a=x∨b=x):GX a b=x:=by
 unfold GX
 match j,hx with
 |0,hx=>injection hx with hx;subst hx;rw[if_pos h]
 |1,hx=>
   injection hx with hx;subst hx;rw[if_neg (ha 0 2 (by omega) rfl),if_pos h]
 |2,hx=>
   injection hx with hx;subst hx;rw[if_neg (ha 0 2 (by omega) rfl),if_neg (ha 1 20 (by omega) rfl),if_pos h]
 |j+3,hx=>exact absurd hx (by simp[GB])
theorem UM(f:AM)(a:A7)(name:AB):C7 f a name=0∨C7 f a name=2∨C7 f a name=20∨C7 f a name=22:=by
 unfold C7;split
 ·exact .inr (.inl rfl)
 split
 ·split
  ·exact .inl rfl
  exact .inr (.inr (.inr rfl))
 exact .inr (.inr (.inl rfl))
theorem ZW{a b:Int}(ha:∀i y,i<3→GB[i]?=some y→¬(a=y∨b=y)):GX a b=0:=by
 unfold GX;rw[if_neg (ha 0 2 (by omega) rfl),if_neg (ha 1 20 (by omega) rfl),if_neg (ha 2 22 (by omega) rfl)]
theorem UN{f:AM}{x y:A7}{name name2:AB}(h:GX (C7 f x name) (C7 f y name2)=0):C7 f x name=0∧C7 f y name2=0:=by
 unfold GX at h;split at h
 ·omega
 split at h
 ·omega
 split at h
 ·omega
 rename_i h1 h2 h3;have a:=UM f x name;have b:=UM f y name2;omega
def Dn(f:AM)(src to:A7)(a o:A7)(e:Int):Int:=
 if e=0 then(if AZ f o=true∧AZ f a=false then 21 else if AZ f o=false∧AZ f a=true then 20 else if AZ f o=true∧Jn f o=false then 39 else 0)else if JM f to=true∧src≠to then 28 else 0
def LZ(ns:List Nod)(src:A7)(name:AB)(to:A7)(name2:AB)(a o:A7)(e:Int):List Nod:=
 if e=0 then Bf (BE (BE ns src.2 name 0) to.2 name2 a.2) o.2 else BE (BE ns src.2 name 0) to.2 name2 a.2
def K1(ns:List Nod)(i:Int)(p:Int)(b:Bool):List Nod:=if b=true then CL ns i (fun n=>{n with parent:=p})else ns
def Fp(f:AM)(src:A7)(name:AB)(to:A7)(name2:AB):KW:=
 if GX (C7 f src name) (C7 f to name2)≠0 then([],[],GX (C7 f src name) (C7 f to name2))else if(AG f src name).2≠0 then([],[],(AG f src name).2)else if src.1≠to.1 then([],[],18)else
 if AZ f (AG f src name).1=true∧Mj f to (AG f src name).1=true then([],[],22)else if(AG f to name2).2=0∧(AG f to name2).1=(AG f src name).1 then(f,[],0)else
 if Dn f src to (AG f src name).1 (AG f to name2).1 (AG f to name2).2≠0 then([],[],Dn f src to (AG f src name).1 (AG f to name2).1 (AG f to name2).2)else
 (J5 f to.1.toNat fun ns=>K1 (LZ ns src name to name2 (AG f src name).1 (AG f to name2).1 (AG f to name2).2) (AG f src name).1.2 to.2 (AZ f (AG f src name).1),[(src,name,(AG f src name).1,(0,0)),(to,name2,(AG f to name2).1,(AG f src name).1)],0)
theorem ZX(f:AM):LeA (.tup [.agg (AW f), .v (.slice none 0 0), .v (.int .i64 0)]) (CM (f,[],0)):=LeA.tup (.cons (A9 _) (.cons (LeA.nil 7) (.cons (A9 _) .nil)))
theorem ZY{n:Nat}{bx:List (List AV)}{k i j:Nat}{f:AM}{q:Nat}{d:Dvc}{cap cap0 cap1:Nat}(hq:q<f.length)(hc:f.length≤cap)(hc1:d.nodes.length≤cap1)(hni:n≤i)(hnj:n≤j)
    (hi:bx[i]?=some (DB f q d j cap cap1)) (hj:bx[j]?=some (NB d.nodes cap1)):Dc (Cs n bx (k+2)) (.agg [.bs i 0 2 f.length cap0])= .agg (AW (f.set q d)):=by
 have key:=Jz (n:=n) (bx:=bx) (k:=k) (i:=i) (j:=j) (f:=f.set q d) (K:=q) (d:=d) (cap:=cap) (cap0:=cap0) (cap1:=cap1) (by simp[hq]) (by simpa using hc) hc1 hni hnj (by rw[hi,QU]) hj;rw[List.length_set]at key;exact key
theorem ZZ{n:Nat}{bx:List (List AV)}{k j sz cap:Nat}{rows:List (List AV)}(hn:n≤j)(hj:bx[j]?=some (Br sz cap rows))(hp:∀r∈rows,∀x∈r,∃v,x= .v v):Cs n bx (k+1) j=some (Br sz cap rows):=by
 have:Nat.blt j n=false:=by rw[←Bool.not_eq_true,Nat.blt_eq];omega
 simp only[Cs,this,hj,Option.map_some,MQ];rw[MR _ rfl]
 congr 2
 conv=>rhs;rw[←List.map_id rows]
 apply List.map_congr_left;intro r hr
 conv=>rhs;rw[id,←List.map_id r]
 apply List.map_congr_left;intro x hx;obtain⟨v,rfl⟩:=hp r hr x hx;rfl
theorem Za(l:List MH):∀r∈l.map FB,∀x∈r,∃v,x= .v v:=by
 intro r hr x hx;obtain⟨c,_,rfl⟩:=List.mem_map.1 hr;simp[FB]at hx;rcases hx with h|h|h|h|h|h|h<;>exact⟨_,h⟩
theorem Zb(l:List MH):∀r∈l.map FB,r.length=7:=by
 intro r hr;obtain⟨c,_,rfl⟩:=List.mem_map.1 hr;rfl
theorem Zc{bx:List (List AV)}(bc:List (List AV))(h:∀r∈bc,∀x∈r,∃v,x= .v v):Back bx [] bc (bx++bc):=by
 refine⟨by simp,fun i row _ h=>?_,fun k i row h=>by simp at h,fun k row hk=>?_⟩
 ·rw[CO (AP.1 h).1];exact h
 rw[DQ (by omega),show bx.length+k - bx.length=k by omega];simp only[List.length_nil,Nat.zero_add]at hk;rw[hk,MP]
 congr 1
 conv=>lhs;rw[←List.map_id row]
 apply List.map_congr_left;intro x hx;obtain⟨v,rfl⟩:=h row (AT hk) x hx;rfl
theorem Qv{d:Dvc}(hd:Dm d.nodes){i:Nat}{n0:Nod}(hn:d.nodes[i]?=some n0)(name:AB)(ino:Int):entS d.nodes i n0 name ino=BE d.nodes n0.ino name ino:=by
 unfold entS BE;rw[←Mh hd hn];rfl
section
theorem Zd(d:A7)(name:AB)(o n:A7):ACall prog 233 [.agg (A8 d), .v (.string name), .agg (A8 o), .agg (A8 n)] [] (fun r b t=>t=[]∧r= .bs 3 0 7 1 1∧b=[A8 d,A8 o,A8 n,FB (d,name,o,n)]):=by
 refine enter Tryz.func233 rfl rfl rfl rfl rfl 4 rfl ?_;refine EV (h:=b_ (h:=B5 (h:=Be (h:=m_ (h:=Em (h:=Ck (h:=?_)))))));refine A3 rfl (XG (k:=3) rfl rfl rfl rfl (by repeat constructor) ?_);refine At (h:=?_);refine Ag (r:= .bs 3 0 7 1 1) none (h5:=(A9 _)) (h6:=⟨rfl,rfl,rfl⟩)
end
theorem UO{n:Nat}{g:Nat→Option (List AV)}{j sz m cap0 cap:Nat}{rows:List (List AV)}(hn:n≤j)(hg:g j=some (Br sz cap rows))(hr:∀r∈rows,r.length=sz)(hm:m=rows.length)(hc:rows.length≤cap):F3 n g (.bs j 0 sz m cap0)= .sl sz rows none:=by
 have:Nat.blt j n=false:=by rw[←Bool.not_eq_true,Nat.blt_eq];omega
 simp only[F3,this];exact QP hg hr hm hc
theorem Ze(a b c:A7)(x:MH):∀r∈[A8 a,A8 b,A8 c,FB x],∀y∈r,∃v,y= .v v:=by
 intro r hr y hy;simp only[List.mem_cons,List.not_mem_nil,or_false]at hr;rcases hr with rfl|rfl|rfl|rfl
 ·simp[A8]at hy;rcases hy with h|h<;>exact⟨_,h⟩
 ·simp[A8]at hy;rcases hy with h|h<;>exact⟨_,h⟩
 ·simp[A8]at hy;rcases hy with h|h<;>exact⟨_,h⟩
 simp[FB]at hy;rcases hy with h|h|h|h|h|h|h<;>exact⟨_,h⟩
theorem UP{j:Nat}{x:Int}(hx:GB[j]?=some x):x≠0:=by
 match j,hx with
 |0,hx=>injection hx with hx;omega
 |1,hx=>injection hx with hx;omega
 |2,hx=>injection hx with hx;omega
 |j+3,hx=>exact absurd hx (by simp[GB])
theorem Qw{ns:List Nod}{i k:Nat}{n0 m:Nod}(hi:ns[i]?=some n0)(hk:ns[k]?=some m)(name:AB)(ino:Int):∃m',(entS ns i n0 name ino)[k]?=some m'∧m'.ino=m.ino∧m'.entries.length≤m.entries.length+1:=by
 unfold entS;rw[List.getElem?_set];split
 ·rename_i e;subst e;rw[hi]at hk;injection hk with hk;subst hk;exact⟨{n0 with entries:=CH n0.entries name ino},by rw[if_pos (AP.1 hi).1],rfl,Qq _ _ _⟩
 exact⟨m,hk,rfl,by omega⟩
theorem UQ{ns:List Nod}{i:Nat}{n0:Nod}(hi:ns[i]?=some n0){name:AB}{ino:Int}{m':Nod}(hm:m'∈entS ns i n0 name ino):∃m∈ns,m'.ino=m.ino∧m'.entries.length≤m.entries.length+1:=by
 rcases List.mem_or_eq_of_mem_set hm with h|h
 ·exact⟨m',h,rfl,by omega⟩
 subst h;exact⟨n0,AT hi,rfl,Qq _ _ _⟩
theorem UR{ns:List Nod}(h:Dm ns){i:Nat}{n0:Nod}(hn:ns[i]?=some n0)(name:AB)(ino:Int):Dm (entS ns i n0 name ino):=by
 have:=Qv (d:=⟨0,ns⟩) h hn name ino;simp only at this;rw[this];exact LV h _ _ _
theorem Zf(f:AM)(q:Nat)(d d':Dvc)(n:Nod)(i:Nat)(a:A7)(name:AB)(ino:Int)(cap cap1:Nat)(hf:FlsB (f.set q d'))(hq:q<f.length)(ha:a.1=(q:Int))(hi:FT (f.set q d') a=(i:Int))(hn:d'.nodes[i]?=some n)(hcap:f.length≤cap)(hcap1:d'.nodes.length≤cap1)(hnx:d'.next=d.next)(hl:d'.nodes.length=d.nodes.length):
    ACall prog 232 [.agg [.bs 0 0 2 f.length cap], .agg (A8 a), .v (.string name), .v (.int .i64 ino)] [DB f q d 1 cap cap1,NB d'.nodes cap1] (fun r b t=>t=[]∧r= .tup []∧b=[DB f q ⟨d.next,entS d'.nodes i n name ino⟩ 1 cap cap1,NB (entS d'.nodes i n name ino) cap1]):=by
 have key:=UG f q d' n i a name ino cap cap1 hf hq ha hi hn hcap hcap1;have e1:DB f q d' 1 cap cap1=DB f q d 1 cap cap1:=by unfold DB FW Gw;rw[hnx,hl]
 have e2:DB f q d 1 cap cap1=DB f q ⟨d.next,entS d'.nodes i n name ino⟩ 1 cap cap1:=by unfold DB FW Gw;rw[GV,hl]
 rw[e1]at key;exact key.mono fun r b t ⟨h1,h2,h3⟩=>⟨h1,h2,by rw[h3,e2]⟩
theorem Zg{f:AM}(hv:FlsV f){q:Nat}{d:Dvc}(hq:f[q]?=some d){i i2:Nat}{n1 n2:Nod}(hn1:d.nodes[i]?=some n1)(hn2:d.nodes[i2]?=some n2)(name name2:AB)(ai:Int)(ha:∃m∈d.nodes,m.ino=ai):
    ∃(X1 X2:List Nod) (m2:Nod),X1=entS d.nodes i n1 name 0∧X1[i2]?=some m2∧m2.ino=n2.ino∧X2=entS X1 i2 m2 name2 ai∧Dm X1∧Dm X2∧X1.length=d.nodes.length∧X2.length=d.nodes.length∧X2=BE (BE d.nodes n1.ino name 0) n2.ino name2 ai∧
     FlsB (f.set q ⟨d.next,X1⟩)∧FlsB (f.set q ⟨d.next,X2⟩)∧(∀m∈X2,m.entries.length≤1000)∧(∃m∈X2,m.ino=1)∧∃m∈X2,m.ino=ai:=by
 have hd:=hv.vd d (AT hq);obtain⟨m2,hm2,hi2,hl2⟩:=Qw hn1 hn2 name 0;have e1:=Qv hd.asc hn1 name 0;have a1:=UR hd.asc hn1 name 0;have e2:=Qv (d:=⟨0,entS d.nodes i n1 name 0⟩) a1 hm2 name2 ai;simp only at e2;have a2:=UR a1 hm2 name2 ai
 have hb2:∀m∈entS (entS d.nodes i n1 name 0) i2 m2 name2 ai,m.entries.length≤1000:=fun m hm=>by
  obtain⟨m',h1,_,h2⟩:=UQ hm2 hm;obtain⟨m'',h3,_,h4⟩:=UQ hn1 h1;have:=hd.many m'' h3;omega
 have hmem:∀x:Int,(∃m∈d.nodes,m.ino=x)→∃m∈entS (entS d.nodes i n1 name 0) i2 m2 name2 ai,m.ino=x:=by
  rintro x ⟨m,hm,rfl⟩;obtain⟨k,hk⟩:=List.getElem?_of_mem hm;obtain⟨m',h1,h2,_⟩:=Qw hn1 hk name 0;obtain⟨m'',h3,h4,_⟩:=Qw hm2 h1 name2 ai;exact⟨m'',AT h3,h4.trans h2⟩
 obtain⟨r,hr,hr1,_⟩:=hd.rootMem;refine⟨_,_,m2,rfl,hm2,hi2,rfl,a1,a2,GV _ _ _ _ _,by rw[GV,GV],by rw[e2,e1,hi2],hv.entS hq hn1 name 0,hv.b.set_ ?_ hb2,hb2,hmem 1 ⟨r,hr,hr1⟩,hmem ai ha⟩;show(entS _ _ _ _ _).length≤1000;rw[GV,GV];have:=hd.len;omega
section
theorem Zh(f:AM)(src:A7)(name:AB)(to:A7)(name2:AB)(hv:FlsV f)(hs:name.size≤100000)(hs2:name2.size≤100000):AFn prog 175 [.agg (AW f), .agg (A8 src), .v (.string name), .agg (A8 to), .v (.string name2)] (fun r=>r=CM (Fp f src name to name2)):=by
 have hf:=hv.b;have P1:=LH f src name hf hs;have P2:=LH f to name2 hf hs2;have L1:=JN f src name hf;have L2:=JN f to name2 hf;obtain⟨pa,hpa⟩:∃x,C7 f src name=x:=⟨_,rfl⟩;obtain⟨pb,hpb⟩:∃x,C7 f to name2=x:=⟨_,rfl⟩;obtain⟨⟨A,e1⟩,hl1⟩:∃x,AG f src name=x:=⟨_,rfl⟩;obtain⟨⟨O,e2⟩,hl2⟩:∃x,AG f to name2=x:=⟨_,rfl⟩;rw[hpa]at P1;rw[hpb]at P2;rw[hl1]at L1;rw[hl2]at L2;simp only at L1 L2
 have hRen:Fp f src name to name2=(if GX pa pb≠0 then([],[],GX pa pb)else if e1≠0 then([],[],e1)else if src.1≠to.1 then([],[],18)else
     if AZ f A=true∧Mj f to A=true then([],[],22)else if e2=0∧O=A then(f,[],0)else if Dn f src to A O e2≠0 then([],[],Dn f src to A O e2)else
     (J5 f to.1.toNat fun ns=>K1 (LZ ns src name to name2 A O e2) A.2 to.2 (AZ f A),[(src,name,A,(0,0)),(to,name2,O,A)],0)):=by
  unfold Fp;rw[hpa,hpb,hl1,hl2]
 have hol:GB.length=3:=rfl;refine enter Tryz.func175 rfl rfl rfl rfl rfl 0 rfl ?_;refine w_ (b_ (h:=b_ (h:=b_ (h:=D4 (h:=a_ (h:=a_ (h:=e_ (q_ (E4 10 (h:=AD 0 (h:=AD 1 (h:=Ac 2 (h:=AD 4 (h:=AD 5 (h:=Ac 6 (h:=?_))))))))))))))));refine c_ 3 rfl (AA (P1) ?_);rintro r rfl;refine o_ (h:=?_);refine c_ 7 rfl (AA (P2) ?_);rintro r rfl;refine o_ (h:=BM 8 (h:=BM 9 (h:=z_ (h:=t_ (w_ (Cd (h:=a_ (h:=e_ (q_ (w_ (a_ (h:=e_ (BL (?_))))))))))))));refine BX (fun m t=>∃j:Nat,j≤GB.length∧m=GB.length - j∧(∀i y,i<j→GB[i]?=some y→¬(pa=y∨pb=y))∧t=⟨look [(2, .v (.string name)),(4, .v (.string name2)),(5, .bp 0 0),(6, .bp 1 0),(8, .bp 2 0),(10, .bp 3 0),(13, .v (.int .i64 pa)),(14, .v (.int .i64 pb)),(15, .sl 1 (GB.map Gq) none),(16, .v (.int .i64 (j:Int)))],⟨[AW f,A8 src,A8 to,[.v (.slice none 0 0)]],[]⟩⟩) (GB.length) ((wk 4 0)) (⟨0,BO _,rfl,fun i y hi=>by omega,rfl⟩) ?_;rintro m t ⟨j,hj,rfl,ha,rfl⟩;refine Dv (h:=n_ (h:=BZ (h:=?_)));refine A6 rfl (fun hb1 hc1=>?_) (fun hb1 hc1=>?_)
 ·obtain⟨hlt,x,hx,hrow, -⟩:=Bw Gq (l:=GB) hc1;refine Bk (h:=Aa (h:=DF (h:=Dh (h:=DT (h:=?_)))));refine AF false rfl rfl (fun hb2 hc2=>?_) (fun hb2 hc2=>?_)
  ·refine BF (h:=B1 (h:=Cl (h:=Cz (h:=q_ (?_)))));refine N0 (fun _=>True) 8 (by kernel_rfl) ?_;refine Ez (i:=0) rfl rfl (by kernel_rfl) (by first|rfl|exact B3 rfl rfl (DK ‹_›)|exact B3 rfl rfl (DL ‹_›)|exact B3 rfl rfl (by simp[*])) (fun h0 hS=>F5 ⟨rfl,rfl⟩) trivial ?_;refine Ez (i:=1) rfl rfl (by kernel_rfl) (by first|rfl|exact B3 rfl rfl (DK ‹_›)|exact B3 rfl rfl (DL ‹_›)|exact B3 rfl rfl (by simp[*])) (fun h0 hS=>Hl rfl ⟨rfl,rfl⟩) trivial ?_;refine Ez (i:=2) rfl rfl (by kernel_rfl) (by first|rfl|exact B3 rfl rfl (DK ‹_›)|exact B3 rfl rfl (DL ‹_›)|exact B3 rfl rfl (by simp[*])) (fun h0 hS=>Hl rfl ⟨rfl,rfl⟩) trivial ?_;refine Ez (i:=3) rfl rfl (by kernel_rfl) (by first|rfl|exact B3 rfl rfl (DK ‹_›)|exact B3 rfl rfl (DL ‹_›)|exact B3 rfl rfl (by simp[*])) (fun h0 hS=>EF rfl rfl rfl (by first|assumption|rfl) ⟨rfl,rfl⟩) trivial ?_;refine Ez (i:=4) rfl rfl (by kernel_rfl) (by first|rfl|exact B3 rfl rfl (DK ‹_›)|exact B3 rfl rfl (DL ‹_›)|exact B3 rfl rfl (by simp[*])) (fun h0 hS=>Ku rfl rfl ⟨rfl,rfl⟩) trivial ?_;refine GN 5 rfl (F1 rfl rfl rfl rfl rfl rfl (by repeat constructor) (by repeat constructor) ?_);refine⟨.inr trivial,?_⟩;refine Ez (i:=6) rfl rfl (by kernel_rfl) (by first|rfl|exact B3 rfl rfl (DK ‹_›)|exact B3 rfl rfl (DL ‹_›)|exact B3 rfl rfl (by simp[*])) (fun h0 hS=>Jc rfl ⟨rfl,rfl⟩) trivial ?_;refine Ez (i:=7) rfl rfl (by kernel_rfl) (by first|rfl|exact B3 rfl rfl (DK ‹_›)|exact B3 rfl rfl (DL ‹_›)|exact B3 rfl rfl (by simp[*])) (fun h0 hS=>Jc rfl ⟨rfl,rfl⟩) trivial ?_;refine z_ (h:=t_ (Ax (F6 (h:=Bj (h:=?_)))));refine Ag (r:=CM (Fp f src name to name2)) none (h5:=?_) (h6:=⟨rfl,rfl,rfl⟩);rw[hRen,show GX pa pb=x from UL hx ha (.inl hc2),if_pos (UP hx)];exact DC _
  refine DF (h:=m_ (h:=Dh (h:=ET (h:=C1 (h:=?_)))));refine A6 rfl (fun hb3 hc3=>?_) (fun hb3 hc3=>?_)
  ·refine q_ (?_);refine N0 (fun _=>True) 8 (by kernel_rfl) ?_;refine Ez (i:=0) rfl rfl (by kernel_rfl) (by first|rfl|exact B3 rfl rfl (DK ‹_›)|exact B3 rfl rfl (DL ‹_›)|exact B3 rfl rfl (by simp[*])) (fun h0 hS=>F5 ⟨rfl,rfl⟩) trivial ?_;refine Ez (i:=1) rfl rfl (by kernel_rfl) (by first|rfl|exact B3 rfl rfl (DK ‹_›)|exact B3 rfl rfl (DL ‹_›)|exact B3 rfl rfl (by simp[*])) (fun h0 hS=>Hl rfl ⟨rfl,rfl⟩) trivial ?_;refine Ez (i:=2) rfl rfl (by kernel_rfl) (by first|rfl|exact B3 rfl rfl (DK ‹_›)|exact B3 rfl rfl (DL ‹_›)|exact B3 rfl rfl (by simp[*])) (fun h0 hS=>Hl rfl ⟨rfl,rfl⟩) trivial ?_;refine Ez (i:=3) rfl rfl (by kernel_rfl) (by first|rfl|exact B3 rfl rfl (DK ‹_›)|exact B3 rfl rfl (DL ‹_›)|exact B3 rfl rfl (by simp[*])) (fun h0 hS=>EF rfl rfl rfl (by first|assumption|rfl) ⟨rfl,rfl⟩) trivial ?_;refine Ez (i:=4) rfl rfl (by kernel_rfl) (by first|rfl|exact B3 rfl rfl (DK ‹_›)|exact B3 rfl rfl (DL ‹_›)|exact B3 rfl rfl (by simp[*])) (fun h0 hS=>Ku rfl rfl ⟨rfl,rfl⟩) trivial ?_;refine GN 5 rfl (F1 rfl rfl rfl rfl rfl rfl (by repeat constructor) (by repeat constructor) ?_);refine⟨.inr trivial,?_⟩;refine Ez (i:=6) rfl rfl (by kernel_rfl) (by first|rfl|exact B3 rfl rfl (DK ‹_›)|exact B3 rfl rfl (DL ‹_›)|exact B3 rfl rfl (by simp[*])) (fun h0 hS=>Jc rfl ⟨rfl,rfl⟩) trivial ?_;refine Ez (i:=7) rfl rfl (by kernel_rfl) (by first|rfl|exact B3 rfl rfl (DK ‹_›)|exact B3 rfl rfl (DL ‹_›)|exact B3 rfl rfl (by simp[*])) (fun h0 hS=>Jc rfl ⟨rfl,rfl⟩) trivial ?_;refine z_ (h:=t_ (Ax (F6 (h:=Bj (h:=?_)))));refine Ag (r:=CM (Fp f src name to name2)) none (h5:=?_) (h6:=⟨rfl,rfl,rfl⟩);rw[hRen,show GX pa pb=x from UL hx ha (.inr hc3),if_pos (UP hx)];exact DC _
  refine Di (h:=?_);refine⟨_,_,?_,⟨j+1,hlt,rfl,Hu hx ha (not_or.2 ⟨hc2,hc3⟩),rfl⟩,(wk 4 0)⟩;omega
 have e3:=CS Gq (l:=GB) hj hc1;subst e3;have hord:GX pa pb=0:=ZW ha;obtain⟨hpl1,hpl2⟩:=UN (f:=f) (x:=src) (y:=to) (name:=name) (name2:=name2) (by rw[hpa,hpb];exact hord);refine Cg (h:=F9 (h:=?_));refine A3 rfl (AA (L1) ?_);rintro r rfl;refine Ea (h:=C6 (h:=?_));refine A6 rfl (fun hb4 hc4=>?_) (fun hb4 hc4=>?_)
 ·refine w_ (FP (h:=Du (h:=?_)));refine Ag (r:=CM (Fp f src name to name2)) none (h5:=?_) (h6:=⟨rfl,rfl,rfl⟩);rw[hRen,if_neg (by rw[hord];simp),if_pos hc4];exact DC _
 have he1:e1=0:=by omega
 refine D0 (h:=Bg (h:=e_ (?_)));refine A6 rfl (fun hb5 hc5=>?_) (fun hb5 hc5=>?_)
 ·refine w_ (Ep (h:=?_));refine Ag (r:=CM (Fp f src name to name2)) none (h5:=?_) (h6:=⟨rfl,rfl,rfl⟩);rw[hRen,if_neg (by rw[hord];simp),if_neg (by simp[he1]),if_pos hc5];exact DC _
 refine AK (Bl (h:=?_));refine A3 rfl (AA (Hv f A hf) ?_);rintro r rfl;refine B5 (h:=?_);refine C5 (fun t=>(AZ f A=true→Mj f to A=false)∧t=⟨look [(2, .v (.string name)),(4, .v (.string name2)),(5, .bp 0 0),(6, .bp 1 0),(8, .bp 2 0),(10, .bp 3 0),(17, .bp 4 0),(19, .v (.bool (AZ f A)))],⟨[AW f,A8 src,A8 to,[.v (.slice none 0 0)],A8 A],[]⟩⟩) ?_ ?_
 ·skip
  refine EJ (h:=?_);refine AF true rfl rfl (fun hb6 hc6=>?_) (fun hb6 hc6=>?_)
  ·refine Em (h:=l_ (h:=?_));refine Af (AA (Y6 f to A hf) ?_);rintro r rfl;refine Cl (h:=?_);refine A6 rfl (fun hb7 hc7=>?_) (fun hb7 hc7=>?_)
   ·refine w_ (Ep (h:=?_));refine Ag (r:=CM (Fp f src name to name2)) none (h5:=?_) (h6:=⟨rfl,rfl,rfl⟩);rw[hRen,if_neg (by rw[hord];simp),if_neg (by simp[he1]),if_neg (by simp[hc5]),if_pos ⟨hc6,hc7⟩];exact DC _
   have hbl:AZ f A=true→Mj f to A=false:=fun _=>hc7;refine As (Ab (?_));exact⟨_,⟨hbl,rfl⟩,(wk 5 0)⟩
  have hbl:AZ f A=true→Mj f to A=false:=fun h=>absurd (h.symm.trans hc6) (by decide);refine BF (h:=D7 (h:=As (Ab (?_))));exact⟨_,⟨hbl,rfl⟩,(wk 5 0)⟩
 rintro t ⟨hbl,rfl⟩;refine F9 (h:=?_);refine A3 rfl (AA (L2) ?_);rintro r rfl;refine Dt (h:=B5 (h:=?_));refine C5 (fun t=>(e2=0→O≠A)∧t=⟨look [(2, .v (.string name)),(4, .v (.string name2)),(5, .bp 0 0),(6, .bp 1 0),(8, .bp 2 0),(10, .bp 3 0),(17, .bp 4 0),(18, .v (.int .i64 e2)),(19, .v (.bool (AZ f A))),(20, .bp 5 0)],⟨[AW f,A8 src,A8 to,[.v (.slice none 0 0)],A8 A,A8 O],[]⟩⟩) ?_ ?_
 ·skip
  refine Aa (h:=DT (h:=?_));refine AF true rfl rfl (fun hb8 hc8=>?_) (fun hb8 hc8=>?_)
  ·refine Em (h:=?_);refine Af (Ff rfl rfl (by repeat constructor) (by repeat constructor) (fun w=>O9 _ _ _ _ w) (by kernel_rfl) ?_);refine Cl (h:=?_);refine A6 rfl (fun hb9 hc9=>?_) (fun hb9 hc9=>?_)
   ·refine Be (h:=?_);refine A3 rfl (AA (UK f hf) ?_);rintro r rfl;refine s_ (h:=Du (h:=?_));refine Ag (r:=CM (Fp f src name to name2)) none (h5:=?_) (h6:=⟨rfl,rfl,rfl⟩);rw[hRen,if_neg (by rw[hord];simp),if_neg (by simp[he1]),if_neg (by simp[hc5]),if_neg (fun h=>absurd h.2 (by rw[hbl h.1];decide)),if_pos ⟨hc8,hc9⟩];exact ZX _
   have hoa:e2=0→O≠A:=fun _=>hc9;refine As (Ab (?_));exact⟨_,⟨hoa,rfl⟩,(wk 6 0)⟩
  have hoa:e2=0→O≠A:=fun h=>absurd h hc8;refine E6 (h:=D7 (h:=As (Ab (?_))));exact⟨_,⟨hoa,rfl⟩,(wk 6 0)⟩
 rintro t ⟨hoa,rfl⟩;refine C5 (fun t=>Dn f src to A O e2=0∧t=⟨look [(2, .v (.string name)),(4, .v (.string name2)),(5, .bp 0 0),(6, .bp 1 0),(8, .bp 2 0),(10, .bp 3 0),(17, .bp 4 0),(18, .v (.int .i64 e2)),(19, .v (.bool (AZ f A))),(20, .bp 5 0)],⟨[AW f,A8 src,A8 to,[.v (.slice none 0 0)],A8 A,A8 O],[]⟩⟩) ?_ ?_
 ·skip
  refine Aa (h:=C2 (h:=?_));refine A6 rfl (fun hb10 hc10=>?_) (fun hb10 hc10=>?_)
  ·refine Bl (h:=?_);refine A3 rfl (AA (Hv f O hf) ?_);rintro r rfl;refine Bi (h:=m_ (h:=?_));refine AF true rfl rfl (fun hb11 hc11=>?_) (fun hb11 hc11=>?_)
   ·refine m_ (h:=Dd (h:=Cl (h:=?_)));refine A6 rfl (fun hb12 hc12=>?_) (fun hb12 hc12=>?_)
    ·refine w_ (Ep (h:=BS (?_)));refine Ag (r:=CM (Fp f src name to name2)) none (h5:=?_) (h6:=⟨rfl,rfl,rfl⟩);have h2:Dn f src to A O e2=21:=by unfold Dn;simp[hc10,hc11,hc12]
     rw[hRen,if_neg (by rw[hord];simp),if_neg (by simp[he1]),if_neg (by simp[hc5]),if_neg (fun h=>absurd h.2 (by rw[hbl h.1];decide)),if_neg (fun h=>hoa h.1 h.2),h2,if_pos (by decide)];exact DC _
    refine AK (BD (h:=Dw (h:=Cp (h:=D7 (h:=AK (EJ (h:=Em (h:=?_))))))));refine Af (AA (T3 f O hf) ?_);rintro r rfl;refine Dd (h:=Cl (h:=?_));refine A6 rfl (fun hb13 hc13=>?_) (fun hb13 hc13=>?_)
    ·refine w_ (Ep (h:=?_));refine Ag (r:=CM (Fp f src name to name2)) none (h5:=?_) (h6:=⟨rfl,rfl,rfl⟩);have h2:Dn f src to A O e2=39:=by unfold Dn;simp[hc10,hc11,hc12,hc13]
     rw[hRen,if_neg (by rw[hord];simp),if_neg (by simp[he1]),if_neg (by simp[hc5]),if_neg (fun h=>absurd h.2 (by rw[hbl h.1];decide)),if_neg (fun h=>hoa h.1 h.2),h2,if_pos (by decide)];exact DC _
    have h2:Dn f src to A O e2=0:=by unfold Dn;simp[hc10,hc11,hc12,hc13]
    refine As (Ab (?_));exact⟨_,⟨h2,rfl⟩,(wk 6 0)⟩
   refine B1 (h:=D7 (h:=AK (BD (h:=Dd (h:=DF (h:=Cl (h:=?_)))))));refine A6 rfl (fun hb14 hc14=>?_) (fun hb14 hc14=>?_)
   ·refine w_ (Ep (h:=BS (?_)));refine Ag (r:=CM (Fp f src name to name2)) none (h5:=?_) (h6:=⟨rfl,rfl,rfl⟩);have h2:Dn f src to A O e2=20:=by unfold Dn;simp[hc10,hc11,hc14]
    rw[hRen,if_neg (by rw[hord];simp),if_neg (by simp[he1]),if_neg (by simp[hc5]),if_neg (fun h=>absurd h.2 (by rw[hbl h.1];decide)),if_neg (fun h=>hoa h.1 h.2),h2,if_pos (by decide)];exact DC _
   have h2:Dn f src to A O e2=0:=by unfold Dn;simp[hc10,hc11,hc14]
   refine AK (EJ (h:=BF (h:=D7 (h:=As (Ab (?_))))));exact⟨_,⟨h2,rfl⟩,(wk 6 0)⟩
  refine Bl (h:=?_);refine A3 rfl (AA (Q1 f to hf) ?_);rintro r rfl;refine m_ (h:=?_);refine AF true rfl rfl (fun hb15 hc15=>?_) (fun hb15 hc15=>?_)
  ·refine Em (h:=?_);refine Af (Ff rfl rfl (by repeat constructor) (by repeat constructor) (fun w=>T5 _ _ _ _ w) (by kernel_rfl) ?_);refine Cl (h:=?_);refine A6 rfl (fun hb16 hc16=>?_) (fun hb16 hc16=>?_)
   ·refine w_ (Ep (h:=?_));refine Ag (r:=CM (Fp f src name to name2)) none (h5:=?_) (h6:=⟨rfl,rfl,rfl⟩);have h2:Dn f src to A O e2=28:=by unfold Dn;rw[if_neg hc10,if_pos ⟨hc15,hc16⟩]
    rw[hRen,if_neg (by rw[hord];simp),if_neg (by simp[he1]),if_neg (by simp[hc5]),if_neg (fun h=>absurd h.2 (by rw[hbl h.1];decide)),if_neg (fun h=>hoa h.1 h.2),h2,if_pos (by decide)];exact DC _
   have h2:Dn f src to A O e2=0:=by unfold Dn;rw[if_neg hc10,if_neg (fun h=>h.2 hc16)]
   refine As (Ab (?_));exact⟨_,⟨h2,rfl⟩,(wk 6 0)⟩
  have h2:Dn f src to A O e2=0:=by unfold Dn;rw[if_neg hc10,if_neg (fun h=>absurd (h.1.symm.trans hc15) (by decide))]
  refine E6 (h:=D7 (h:=As (Ab (?_))));exact⟨_,⟨h2,rfl⟩,(wk 6 0)⟩
 rintro t ⟨h2,rfl⟩;obtain⟨q,i,d,n1,hsq,hq,hn1,hn1i,hidx,hnode,hk1,hnm1⟩:=Gy hpl1;obtain⟨q',i2,d',n2,htq,hq',hn2,hn2i, -,hnode2,hk2,hnm2⟩:=Gy hpl2;obtain rfl:q=q':=by omega
 obtain rfl:d=d':=Option.some.inj (hq.symm.trans hq');have hvd:=hv.vd d (AT hq);have hql:=(AP.1 hq).1;have hil:=(AP.1 hn1).1;obtain⟨e,he,hle⟩:=Mi hnode hk1 (by rw[hl1];exact he1);have hA1:A=(src.1,e.2):=by rw[hl1]at hle;exact congrArg Prod.fst hle
 have hAm:∃m∈d.nodes,m.ino=A.2:=by rw[hA1];exact(hvd.ent n1 (AT hn1) e (HU he).1).2.2
 obtain⟨X1,X2,m2,hX1,hm2,hm2i,hX2,hasc1,hasc2,hx1l,hx2l,hX2D,hf1,hf2,hb2,⟨r,hr,hr1⟩,⟨am,ham,hami⟩⟩:=Zg hv hq hn1 hn2 name name2 A.2 hAm;have hidx2:FT (f.set q ⟨d.next,X1⟩) to=(i2:Int):=Qt htq (d:=⟨d.next,X1⟩) (by simp[hql]) hasc1 hm2 (hm2i.trans hn2i)
 have hoo:e2=0→O.1=(q:Int)∧0<(CR O.2 X2).length:=by
  intro h;obtain⟨e',he',hle'⟩:=Mi hnode2 hk2 (by rw[hl2];exact h);have hO1:O=(to.1,e'.2):=by rw[hl2]at hle';exact congrArg Prod.fst hle'
  refine⟨by rw[hO1];exact htq,Qr hr ?_⟩;rw[hr1,hO1];exact(hvd.ent n2 (AT hn2) e' (HU he').1).2.1.symm
 have hO1:e2=0→O.1=A.1:=fun h=>by rw[(hoo h).1,hA1];exact hsq.symm
 obtain⟨NS,hNS⟩:∃NS,NS=(if e2=0 then Bf X2 O.2 else X2):=⟨_,rfl⟩
 have hNSf:NS=X2∨(e2=0∧NS=Bf X2 O.2):=by
  by_cases h:e2=0
  ·exact .inr ⟨h,by rw[hNS,if_pos h]⟩
  exact .inl (by rw[hNS,if_neg h])
 have hsub:NS.Sublist X2:=by
  rcases hNSf with h|⟨_,h⟩
  ·rw[h];exact List.Sublist.refl _
  rw[h];exact List.filter_sublist
 have hasc3:Dm NS:=hasc2.sublist hsub
 have hAN:am∈NS:=by
  rcases hNSf with h|⟨h0,h⟩
  ·rw[h];exact ham
  rw[h];refine List.mem_filter.2 ⟨ham,decide_eq_true (.inl fun e=>hoa h0 ?_)⟩;exact Prod.ext (hO1 h0) (by rw[←e,hami])
 obtain⟨i3,hm3⟩:=List.getElem?_of_mem hAN;have hil3:=(AP.1 hm3).1;have hf3:FlsB (f.set q ⟨d.next,NS⟩):=hf.set_ (by have:=hsub.length_le;have:=hvd.len;show NS.length≤1000;omega) fun m hm=>hb2 m (hsub.subset hm);have hidx3:FT (f.set q ⟨d.next,NS⟩) A=(i3:Int):=Qt (by rw[hA1];exact hsq) (d:=⟨d.next,NS⟩) (by simp[hql]) hasc3 hm3 hami;obtain⟨m3,rfl⟩:∃m3,m3=am:=⟨_,rfl⟩;have hm3i:=hami;obtain⟨NS2,hNS2⟩:∃NS2,NS2=K1 NS A.2 to.2 (AZ f A):=⟨_,rfl⟩;refine Be (h:=?_);refine A3 rfl (El [] rfl (.cons _ _ _ _ _ rfl (A9 _) .nil) (by decide) .nil (LR f q d hf hq (by omega)) ?_);rintro r bc tc ⟨rfl,cap,cap1,hcap,hcap1,rfl,rfl⟩;refine⟨rfl,_,(LW (n:=6) rfl f q d d.nodes cap cap1:Back _ [] _ [_,_,_,_,_,_,_,_]),?_⟩;have hcx1:X1.length≤cap1:=by omega
 have hcx2:X2.length≤cap1:=by omega
 refine CY (h:=F9 (h:=?_));refine A3 rfl (El [6,7] rfl (.cons _ _ _ _ _ rfl (A9 _) (.cons _ _ _ _ _ rfl (A9 _) (.cons _ _ _ _ _ rfl (A9 _) (.cons _ _ _ _ _ rfl (A9 _) .nil)))) (by decide) (.cons _ _ _ _ _ rfl (GS (by rfl) _ _ _ _ _) (.cons _ _ _ _ _ rfl (GA _ _ _) .nil)) (MV f q d n1 i src name 0 cap cap1 hf hq hsq hidx hn1 hcap hcap1) ?_);rintro r bc tc ⟨rfl,rfl,rfl⟩;rw[show d.nodes.set i {n1 with entries:=CH n1.entries name 0}=X1 from hX1.symm];refine⟨rfl,_,(LX (B7 rfl) (B7 rfl) (by decide) f q d X1 cap cap1 cap1:Back _ [6,7] _ [_,_,_,_,_,_,_,_,_]),?_⟩;refine e_ (F9 (h:=AN (h:=?_)));refine A3 rfl (El [6,7] rfl (.cons _ _ _ _ _ rfl (A9 _) (.cons _ _ _ _ _ rfl (A9 _) (.cons _ _ _ _ _ rfl (A9 _) (.cons _ _ _ _ _ rfl (A9 _) .nil)))) (by decide) (.cons _ _ _ _ _ rfl (GS (by rfl) _ _ _ _ _) (.cons _ _ _ _ _ rfl (GA _ _ _) .nil)) (Zf f q d ⟨d.next,X1⟩ m2 i2 to name2 A.2 cap cap1 hf1 hql htq hidx2 hm2 hcap hcx1 rfl hx1l) ?_);rintro r bc tc ⟨rfl,rfl,rfl⟩;refine⟨rfl,?_⟩;dsimp only;rw[←hX2];refine⟨_,(LX (B7 rfl) (B7 rfl) (by decide) f q ⟨d.next,X2⟩ X2 cap cap1 cap1:Back _ [6,7] _ [_,_,_,_,_,_,_,_,_]),?_⟩;refine e_ (?_);refine C5 (fun t=>∃capx,NS.length≤capx∧t=⟨look [(2, .v (.string name)),(4, .v (.string name2)),(6, .bp 1 0),(8, .bp 2 0),(10, .bp 3 0),(17, .bp 4 0),(19, .v (.bool (AZ f A))),(20, .bp 5 0),(22, .bp 8 0)],⟨[AW f,A8 src,A8 to,[.v (.slice none 0 0)],A8 A,A8 O,DB f q ⟨d.next,NS⟩ 7 cap capx,NB NS capx,[.bs 6 0 2 f.length cap]],[]⟩⟩) ?_ ?_
 ·skip
  refine Aa (h:=C2 (h:=?_));refine A6 rfl (fun hb17 hc17=>?_) (fun hb17 hc17=>?_)
  ·have he2:e2=0:=hc17;obtain⟨hoq,hkp⟩:=hoo he2;refine B2 (Em (h:=?_));refine A3 rfl (El [6,7] rfl (.cons _ _ _ _ _ rfl (A9 _) (.cons _ _ _ _ _ rfl (A9 _) .nil)) (by decide) (.cons _ _ _ _ _ rfl (GS (by rfl) _ _ _ _ _) (.cons _ _ _ _ _ rfl (GA _ _ _) .nil)) (Qs f q ⟨d.next,X2⟩ ⟨d.next,X2⟩ O cap cap1 hf2 hql hoq hcap hcx2 hkp rfl rfl) ?_);rintro r bc tc ⟨rfl,rfl,⟨hns,rfl⟩|⟨hns,cap2,hcap2,rfl⟩⟩
   ·refine⟨rfl,_,(Qp (n:=9) rfl (by decide) (by decide) (by decide) f q ⟨d.next,X2⟩ X2 O f.length cap cap cap1 cap1:Back _ [6,7] _ [_,_,_,_,_,_,_,_,_,_,_]),?_⟩;obtain rfl:NS=X2:=by rw[hNS,if_pos (by assumption)];exact hns
    refine Bq (h:=?_)
    first|exact⟨_,⟨_,hcap2,rfl⟩,E3 [0,1,2,3,4,5,6,11,8] (fun i hi=>absurd hi (Nat.not_lt_zero i)) (by decide) (.cons _ _ _ _ _ rfl rfl (.cons _ _ _ _ _ rfl rfl (.cons _ _ _ _ _ rfl rfl (.cons _ _ _ _ _ rfl rfl (.cons _ _ _ _ _ rfl rfl (.cons _ _ _ _ _ rfl rfl (.cons _ _ _ _ _ rfl (Ki (by rfl) _ _ _ _ _) (.cons _ _ _ _ _ rfl (JP _ _ _) (.cons _ _ _ _ _ rfl rfl .nil))))))))) (by repeat (first|exact SubK.nil|refine SubK.cons _ _ _ _ rfl (A9 _) ?_))⟩|exact⟨_,⟨_,hcx2,rfl⟩,CK 9 0 (by simp[B4,Az,Aw,C3,C4,A8,AW])⟩
   refine⟨rfl,_,(Qo (n:=9) rfl (by decide) (by decide) (by decide) f q ⟨d.next,CR O.2 X2⟩ X2 (CR O.2 X2) O f.length cap cap cap1 cap2:Back _ [6,7] _ [_,_,_,_,_,_,_,_,_,_,_,_]),?_⟩;have hNSk:NS=CR O.2 X2:=by rw[hNS,if_pos (by assumption)];exact hns
   rw[←hNSk]at hcap2;rw[←hNSk];refine Bq (h:=?_);exact⟨_,⟨_,hcap2,rfl⟩,E3 [0,1,2,3,4,5,6,11,8] (fun i hi=>absurd hi (Nat.not_lt_zero i)) (by decide) (.cons _ _ _ _ _ rfl rfl (.cons _ _ _ _ _ rfl rfl (.cons _ _ _ _ _ rfl rfl (.cons _ _ _ _ _ rfl rfl (.cons _ _ _ _ _ rfl rfl (.cons _ _ _ _ _ rfl rfl (.cons _ _ _ _ _ rfl (Ki (by rfl) _ _ _ _ _) (.cons _ _ _ _ _ rfl (JP _ _ _) (.cons _ _ _ _ _ rfl rfl .nil))))))))) (by repeat (first|exact SubK.nil|refine SubK.cons _ _ _ _ rfl (A9 _) ?_))⟩
  have he2:¬e2=0:=hc17;obtain rfl:NS=X2:=by rw[hNS,if_neg he2]
  refine As (Ab (?_))
  first|exact⟨_,⟨_,hcap2,rfl⟩,E3 [0,1,2,3,4,5,6,11,8] (fun i hi=>absurd hi (Nat.not_lt_zero i)) (by decide) (.cons _ _ _ _ _ rfl rfl (.cons _ _ _ _ _ rfl rfl (.cons _ _ _ _ _ rfl rfl (.cons _ _ _ _ _ rfl rfl (.cons _ _ _ _ _ rfl rfl (.cons _ _ _ _ _ rfl rfl (.cons _ _ _ _ _ rfl (Ki (by rfl) _ _ _ _ _) (.cons _ _ _ _ _ rfl (JP _ _ _) (.cons _ _ _ _ _ rfl rfl .nil))))))))) (by repeat (first|exact SubK.nil|refine SubK.cons _ _ _ _ rfl (A9 _) ?_))⟩|exact⟨_,⟨_,hcx2,rfl⟩,CK 9 0 (by simp[B4,Az,Aw,C3,C4,A8,AW])⟩
 rintro t ⟨capx,hcapx,rfl⟩;refine C5 (fun t=>t=⟨look [(2, .v (.string name)),(4, .v (.string name2)),(6, .bp 1 0),(8, .bp 2 0),(10, .bp 3 0),(17, .bp 4 0),(20, .bp 5 0),(22, .bp 8 0)],⟨[AW f,A8 src,A8 to,[.v (.slice none 0 0)],A8 A,A8 O,DB f q ⟨d.next,NS⟩ 7 cap capx,NB NS2 capx,[.bs 6 0 2 f.length cap]],[]⟩⟩) ?_ ?_
 ·skip
  refine Aa (h:=e_ (?_));refine A6 rfl (fun hb18 hc18=>?_) (fun hb18 hc18=>?_)
  ·have e4:NS.set i3 {m3 with parent:=to.2}=NS2:=by rw[hNS2,K1,if_pos hc18,Mh hasc3 hm3 (fun n=>{n with parent:=to.2}),hm3i]
   have hset3:SetAt (NB NS capx) (0+i3 * 8+5) [.v (.int .i64 to.2)] (NB NS2 capx):=by
    rw[←e4];exact QS hm3 (by repeat constructor) (by simp)
   refine Bz ([(0,AW f),(1,A8 src),(2,A8 to),(3,[.v (.slice none 0 0)]),(4,A8 A),(5,A8 O),(6,DB f q ⟨d.next,NS⟩ 7 cap capx),(8,[.bs 6 0 2 f.length cap])]) 15 (h:=Ar 0 (h:=?_));refine AD 1 (h:=?_);refine Ar 2 (h:=?_);refine AD 3 (h:=?_);refine BT 4 rfl (fun _ hS=>Cr (m:=q) rfl rfl htq hql ⟨rfl,rfl⟩) ?_;refine Ar 5 (h:=?_)
   first|refine AD 6 (h:=?_)|refine BT 6 rfl (fun _ hS=>Cy (row:=DB f q ⟨d.next,NS⟩ 7 cap capx) rfl (kb hS rfl) (MT hql) ⟨rfl,rfl⟩) ?_
   refine AD 7 (h:=?_);refine AD 8 (h:=?_);refine Ar 10 (h:=?_);refine AD 11 (h:=?_);refine c_ 9 rfl (KO 2 rfl (.cons _ _ _ _ _ rfl (LeA.of_eq (ZY (d:=⟨d.next,NS⟩) hql hcap hcapx (BO _) (BO _) rfl rfl)) (.cons _ _ _ _ _ rfl (A9 _) .nil)) (Jp (f.set q ⟨d.next,NS⟩) A hf3) ?_);rintro r rfl;refine⟨rfl,?_⟩;refine o_ (h:=?_);refine BT 12 rfl (fun _ hS=>Cr (m:=i3) rfl rfl hidx3 hil3 ⟨rfl,rfl⟩) ?_;refine Ar 13 (h:=?_);refine GN 14 rfl (F1 rfl rfl rfl rfl rfl rfl hset3 (by repeat constructor) ?_);refine o_ (h:=z_ (h:=?_));refine Ab ?_;exact⟨_,rfl,CK 9 0 (by simp[B4,Az,Aw,C3,C4,A8,AW])⟩
  obtain rfl:NS2=NS:=by rw[hNS2,K1,if_neg (by rw[hc18];decide)]
  refine As (Ab (?_));exact⟨_,rfl,CK 9 0 (by simp[B4,Az,Aw,C3,C4,A8,AW])⟩
 rintro t rfl;have hl3:NS2.length=NS.length:=by rw[hNS2];unfold K1;split<;>simp[CL]
 have hcapx2:NS2.length≤capx:=by omega
 refine C5 (fun t=>t=⟨look [(10, .bp 3 0),(11, .sl 7 ([(src,name,A,(0,0)),(to,name2,O,A)].map FB) none),(12, .v (.int .i64 0))],⟨[AW f,A8 src,A8 to,AW (f.set q ⟨d.next,NS2⟩)],[]⟩⟩) ?_ ?_
 ·skip
  refine Bz ([(0,AW f),(1,A8 src),(2,A8 to),(4,A8 A),(5,A8 O),(6,DB f q ⟨d.next,NS⟩ 7 cap capx),(7,NB NS2 capx),(8,[.bs 6 0 2 f.length cap])]) 15 (h:=AD 0 (h:=AD 1 (h:=Ac 2 (h:=AD 3 (h:=?_)))));refine BT 4 rfl (fun _ hS=>Hp (y:= .agg (A8 (0,0))) (F5 ⟨rfl,rfl⟩) (by repeat (first|exact A9 _|exact LeA.nil _|exact LeL.refl _|refine LeA.agg ⟨rfl,rfl⟩|refine LeA.tup ⟨rfl,rfl⟩|exact LeL.nil|refine LeL.cons ⟨rfl,rfl⟩ ⟨rfl,rfl⟩|exact LeA.any _)) ⟨rfl,rfl⟩) ?_;refine AD 6 (h:=Ac 7 (h:=AD 8 (h:=AD 9 (h:=?_))));refine c_ 5 rfl (El [] rfl (.cons _ _ _ _ _ rfl (A9 _) (.cons _ _ _ _ _ rfl (A9 _) (.cons _ _ _ _ _ rfl (A9 _) (.cons _ _ _ _ _ rfl (A9 _) .nil)))) (by decide) .nil (Zd src name A (0,0)) ?_);rintro r bc tc ⟨rfl,rfl,rfl⟩;refine⟨rfl,_,(Zc _ (Ze _ _ _ _):Back _ [] _ [_,_,_,_,_,_,_,_,_,_,_,_,_]),?_⟩;refine o_ (h:=?_);refine c_ 10 rfl (AA (Kb to name2 O A) ?_);rintro r rfl;refine o_ (h:=?_);refine c_ 11 rfl (L6 rfl rfl rfl (B7 rfl) JQ (by omega) (by omega) (fun h=>absurd h (by omega)) ?_);rintro hg cap4 k bx2 hcp4 hs;obtain⟨rfl,rfl⟩:k=13∧bx2=[_,_,_,_,_,_,_,_,_,_,_,_,_,Br 7 cap4 ([(src,name,A,(0,0)),(to,name2,O,A)].map FB)]:=hs.eq;refine o_ (h:=?_);refine CG 12 (h:=BM 13 (h:=BM 14 (h:=z_ (h:=?_))));refine Ab ?_;exact⟨_,rfl,Co 4 2 rfl (congrArg (fun x=>[AW f,A8 src,A8 to,x]) (J4 (k:=0) (i:=6) (j:=7) (d:=⟨d.next,NS⟩) (d':=⟨d.next,NS2⟩) hql rfl hl3 hcap hcapx2 (B7 rfl) (B7 rfl) rfl rfl)) (.cons _ _ _ _ rfl (A9 _) (.cons _ _ _ _ rfl (LeA.of_eq (UO (rows:=[(src,name,A,(0,0)),(to,name2,O,A)].map FB) (B7 rfl) (ZZ (n:=4) (k:=1) (j:=13) (B7 rfl) rfl (Za _)) (Zb _) rfl hcp4)) (.cons _ _ _ _ rfl (A9 _) .nil)))⟩
 rintro t rfl;refine Ax (?_);refine A4 ?_;rw[hRen,if_neg (by rw[hord];simp),if_neg (by simp[he1]),if_neg (by simp[hc5]),if_neg (fun h=>absurd h.2 (by rw[hbl h.1];decide)),if_neg (fun h=>hoa h.1 h.2),if_neg (by rw[h2];simp),htq,Int.toNat_natCast,Gx hq,show LZ d.nodes src name to name2 A O e2=NS by rw[hNS,hX2D,hn1i,hn2i];rfl,←hNS2];rfl
end
end Go.Proofs.YtbgnigjfkbmceaaGreatDoor
