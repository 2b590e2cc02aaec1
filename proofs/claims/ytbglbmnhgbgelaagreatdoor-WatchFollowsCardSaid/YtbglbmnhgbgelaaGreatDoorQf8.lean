/-
  Part 8 of the proof of WatchFollowsP: what the statement's proof uses of the texts in wip/tpl.
-/
import Derived.Test.YtbglbmnhgbgelaaGreatDoorQf7
open Go.Proofs.Tryz (prog)
set_option maxRecDepth 10000
set_option maxHeartbeats 4000000
set_option linter.unusedVariables false
set_option linter.unusedSimpArgs false
namespace Go.Proofs.YtbglbmnhgbgelaaGreatDoor
open Go.RowKit
theorem N7{f:AU}{dir:AA}{name:AD}{n0:Nod}(hn:Bo f dir=some n0)(hk:n0.kind=2)(h:(AB f dir name).2=0):∃e,DV n0.entries name=some e∧AB f dir name=((dir.1,e.2),0):=by
 unfold AB at h ⊢;rw[hn]at h ⊢;simp only[hk,if_true]at h ⊢;unfold DV;split at h
 ·exact absurd h (by decide)
 rename_i e he;exact⟨e,he,rfl⟩
def entS(ns:List Nod)(i:Nat)(n0:Nod)(name:AD)(ino:Int):List Nod:=ns.set i {n0 with entries:=Ch n0.entries name ino}
theorem GQ(ns:List Nod)(i:Nat)(n0:Nod)(name:AD)(ino:Int):(entS ns i n0 name ino).length=ns.length:=by simp[entS]
theorem RA(es:List BF)(name:AD)(ino:Int):(Ch es name ino).length≤es.length+1:=by
 by_cases h:ino=0
 ·subst h;rw[GN];have:(EE name es).length≤es.length:=List.length_filter_le _ _;omega
 rw[(Hz es name h).length_eq,List.length_cons];have:(EE name es).length≤es.length:=List.length_filter_le _ _;omega
theorem FlsB.set_{f:AU}(hf:FlsB f){q:Nat}{d':Dvc}(hn:d'.nodes.length≤1000)(he:∀n∈d'.nodes,n.entries.length≤1000):FlsB (f.set q d'):=by
 refine⟨by simpa using hf.few,fun d hd=>?_,fun d hd n hn'=>?_⟩
 ·rcases List.mem_or_eq_of_mem_set hd with h|h
  ·exact hf.nodes d h
  rw[h];exact hn
 rcases List.mem_or_eq_of_mem_set hd with h|h
 ·exact hf.ents d h n hn'
 subst h;exact he n hn'
theorem FlsV.entS{f:AU}(hv:FlsV f){q:Nat}{d:Dvc}(hq:f[q]?=some d){i:Nat}{n0:Nod}(hn:d.nodes[i]?=some n0)(name:AD)(ino:Int):FlsB (f.set q {d with nodes:=entS d.nodes i n0 name ino}):=by
 have hd:=hv.vd d (Al hq);refine hv.b.set_ ?_ ?_
 ·show(Go.Proofs.YtbglbmnhgbgelaaGreatDoor.entS d.nodes i n0 name ino).length≤1000;rw[GQ];have:=hd.len;omega
 intro m hm;rcases List.mem_or_eq_of_mem_set hm with h|h
 ·have:=hd.many m h;omega
 rw[h];have:=RA n0.entries name ino;have:=hd.many n0 (Al hn);show(Ch n0.entries name ino).length≤1000;omega
theorem Lc{d:Dvc}(hd:VD d){i:Nat}{n0:Nod}(hn:d.nodes[i]?=some n0)(name:AD)(ino:Int):entS d.nodes i n0 name ino=BR d.nodes n0.ino name ino:=by
 unfold entS BR;rw[←N6 hd.asc hn];rfl
theorem Ug{f:AU}{a:AA}{q:Nat}{d:Dvc}(ha:a.1=(q:Int))(hq:f[q]?=some d):Gj f a=if(d.nodes.any fun n=>n.ino==a.2)then Bg a.2 d.nodes else 0:=by
 unfold Gj Bo;rw[ha,JN,hq];simp only
 cases h:d.nodes.find? (fun n=>n.ino==a.2)with
 |none=>
   have:d.nodes.any (fun n=>n.ino==a.2)=false:=by
    rw[List.any_eq_false];exact List.find?_eq_none.1 h
   simp[this]
 |some n=>
   have:d.nodes.any (fun n=>n.ino==a.2)=true:=by
    have h2:=List.find?_some h;exact List.any_eq_true.2 ⟨n,List.mem_of_find?_eq_some h,h2⟩
   simp[this]
theorem bA{f:AU}{a:AA}{q:Nat}{d:Dvc}(ha:a.1=(q:Int))(hq:f[q]?=some d)(hl:0<Gj f a):Bu d.nodes a.2=d.nodes:=by
 rw[Ug ha hq]at hl;split at hl
 ·unfold Bu;rw[List.filter_eq_self];intro m _;exact decide_eq_true (.inr hl)
 omega
theorem drop_zero{f:AU}{a:AA}{q:Nat}{d:Dvc}(ha:a.1=(q:Int))(hq:f[q]?=some d)(hl:Gj f a=0):Bu d.nodes a.2=Ct a.2 d.nodes:=by
 rw[Ug ha hq]at hl;unfold Bu Ct;apply List.filter_congr;intro m hm;split at hl
 ·rw[hl,Bool.eq_iff_iff];simp
 rename_i h
 have hne:m.ino≠a.2:=by
  intro e;exact h (List.any_eq_true.2 ⟨m,hm,by simpa using e⟩)
 rw[Bool.eq_iff_iff];simp[hne]
theorem RB{ns:List Nod}{m:Nod}{i:Int}(hm:m∈ns)(h:m.ino≠i):0<(Ct i ns).length:=List.length_pos_of_mem (List.mem_filter.2 ⟨hm,by simpa using h⟩)
theorem Uh{d:Dvc}(hd:VD d){i:Nat}{n0:Nod}(hn:d.nodes[i]?=some n0)(name:AD)(ino:Int):∃m∈entS d.nodes i n0 name ino,m.ino=1:=by
 obtain⟨r,hr,h1,_⟩:=hd.rootMem;rw[Lc hd hn];obtain⟨m,hm,hw⟩:=Hd n0.ino name ino hr;exact⟨m,hm,hw.ino.trans h1⟩
theorem RC(f:AU)(q:Nat)(d d':Dvc)(a:AA)(cap cap1:Nat)(hf:FlsB (f.set q d'))(hq:q<f.length)(ha:a.1=(q:Int))(hcap:f.length≤cap)(hcap1:d'.nodes.length≤cap1)(hne:0<(Ct a.2 d'.nodes).length)(hn:d'.next=d.next)(hl:d'.nodes.length=d.nodes.length):
    ACall prog 77 [.agg [.bs 0 0 2 f.length cap], .agg (AE a)] [DB f q d 1 cap cap1,NB d'.nodes cap1] (fun r b t=>t=[]∧r= .tup []∧((Bu d'.nodes a.2=d'.nodes∧b=[DB f q d 1 cap cap1,NB d'.nodes cap1,[.bs 0 0 2 f.length cap],AE a])∨(Bu d'.nodes a.2=Ct a.2 d'.nodes∧∃cap2,(Ct a.2 d'.nodes).length≤cap2∧b=[DB f q {d' with nodes:=Ct a.2 d'.nodes} 4 cap cap2,NB d'.nodes cap1,[.bs 0 0 2 f.length cap],AE a,NB (Ct a.2 d'.nodes) cap2]))):=by
 have hq':(f.set q d')[q]?=some d':=by simp[hq]
 have key:=aQ (f.set q d') q d' a cap cap1 hf hq' ha (by simpa using hcap) hcap1 hne;rw[List.length_set,←Uf hn hl]at key;refine key.mono fun r b t ⟨h1,h2,h3⟩=>⟨h1,h2,?_⟩;rcases h3 with⟨h4,h5⟩|⟨h4,cap2,h5,h6⟩
 ·exact .inl ⟨bA ha hq' h4,h5⟩
 refine .inr ⟨drop_zero ha hq' h4,cap2,h5,?_⟩;rw[Qk]at h6;exact h6
def EG(f:AU)(dir:AA)(name:AD):Cp:=
 if CC f dir name≠0 then([],[],CC f dir name)else if(AB f dir name).2≠0 then([],[],(AB f dir name).2)else if AT f (AB f dir name).1=true then([],[],21)else
 (Ez f dir.1.toNat fun ns=>Bu (BR ns dir.2 name 0) (AB f dir name).1.2,[(dir,name,(AB f dir name).1,(0,0))],0)
def Dw(f:AU)(dir:AA)(name:AD):Cp:=
 if CC f dir name≠0 then([],[],CC f dir name)else if(AB f dir name).2≠0 then([],[],(AB f dir name).2)else if AT f (AB f dir name).1=false then([],[],20)else if JR f (AB f dir name).1=false then([],[],39)else
 (Ez f dir.1.toNat fun ns=>Bu (BR ns dir.2 name 0) (AB f dir name).1.2,[(dir,name,(AB f dir name).1,(0,0))],0)
section
theorem bB(f:AU)(dir:AA)(name:AD)(hv:FlsV f)(hs:name.size≤100000):AFn prog 47 [.agg (Ay f), .agg (AE dir), .v (.string name)] (fun r=>r=CV (EG f dir name)):=by
 have hf:=hv.b;refine enter Tryz.func47 rfl rfl rfl rfl rfl 0 rfl ?_;refine w_ (b_ (h:=b_ (h:=AZ (h:=a_ (h:=a_ (h:=e_ (q_ (w_ (l_ (h:=l_ (h:=m_ (h:=?_))))))))))));refine A6 rfl (AK (LM f dir name hf hs) ?_);rintro r rfl;refine a_ (h:=e_ (w_ (m_ (h:=BV (h:=e_ (?_))))));refine A8 rfl (fun hb1=>?_) (fun hb1=>?_)
 ·have hc1:=bp hb1;refine w_ (AX (h:=m_ (h:=s_ (h:=a_ (h:=a_ (h:=e_ (A4 (A7 (?_)))))))));refine Am (r:=CV (EG f dir name)) none (h5:=?_) (h6:=⟨rfl,rfl,rfl⟩);rw[EG,if_pos (by omega)];exact Df _
 have hc1:=bp hb1;refine AN (w_ (l_ (h:=l_ (h:=m_ (h:=?_)))));refine A6 rfl (AK (Gm f dir name hf) ?_);rintro r rfl;refine m_ (h:=x_ (h:=x_ (h:=AZ (h:=s_ (h:=a_ (h:=e_ (q_ (w_ (m_ (h:=BV (h:=e_ (?_))))))))))));refine A8 rfl (fun hb2=>?_) (fun hb2=>?_)
 ·have hc2:=bp hb2;refine w_ (AX (h:=m_ (h:=s_ (h:=a_ (h:=a_ (h:=e_ (A4 (A7 (?_)))))))));refine Am (r:=CV (EG f dir name)) none (h5:=?_) (h6:=⟨rfl,rfl,rfl⟩);rw[EG,if_neg (by omega),if_pos (by omega)];exact Df _
 have hc2:=bp hb2;have hlk:(AB f dir name).2=0:=by omega
 refine AN (q_ (w_ (l_ (h:=l_ (h:=?_)))));refine A6 rfl (AK (Gl f (AB f dir name).1 hf) ?_);rintro r rfl;refine e_ (?_);refine A8 rfl (fun hb3=>?_) (fun hb3=>?_)
 ·have hc3:=bp hb3;refine w_ (AX (h:=s_ (h:=a_ (h:=a_ (h:=e_ (A4 (A7 (?_))))))));refine Am (r:=CV (EG f dir name)) none (h5:=?_) (h6:=⟨rfl,rfl,rfl⟩);rw[EG,if_neg (by omega),if_neg (by omega),if_pos hc3];exact Df _
 have hc3:=bp hb3;obtain⟨q,i,d,n0,hdq,hq,hn0,hino,hidx,hnode,hk0,hnm⟩:=F1 (name:=name) (dir:=dir) (f:=f) (by omega);have hil:=(As.1 hn0).1;have hql:=(As.1 hq).1;have hvd:=hv.vd d (Al hq);obtain⟨e,he,hle⟩:=N7 hnode hk0 hlk;have hat1:(AB f dir name).1.1=(q:Int):=by rw[hle];exact hdq
 have hat2:(AB f dir name).1.2≠1:=by rw[hle];exact(hvd.ent n0 (Al hn0) e (FY he).1).2.1
 have hxl:(entS d.nodes i n0 name 0).length=d.nodes.length:=GQ _ _ _ _ _
 have hkp:0<(Ct (AB f dir name).1.2 (entS d.nodes i n0 name 0)).length:=by
  obtain⟨m,hm,hm1⟩:=Uh hvd hn0 name 0;exact RB hm (by rw[hm1];exact hat2.symm)
 refine AN (w_ (l_ (h:=?_)));refine A6 rfl (Bf [] rfl (.cons _ _ _ _ _ rfl (A9 _) .nil) (by decide) .nil (LS f q d hf hq (by omega)) ?_);rintro r bc tc ⟨rfl,cap,cap1,hcap,hcap1,rfl,rfl⟩;refine⟨rfl,_,(La (n:=4) rfl f q d d.nodes cap cap1:Back _ [] _ [_,_,_,_,_,_]),?_⟩;refine AZ (h:=s_ (h:=e_ (w_ (l_ (h:=l_ (h:=m_ (h:=?_)))))));refine A6 rfl (Bf [4,5] rfl (.cons _ _ _ _ _ rfl (A9 _) (.cons _ _ _ _ _ rfl (A9 _) (.cons _ _ _ _ _ rfl (A9 _) (.cons _ _ _ _ _ rfl (A9 _) .nil)))) (by decide) (.cons _ _ _ _ _ rfl (GM (by rfl) _ _ _ _ _) (.cons _ _ _ _ _ rfl (Fu _ _ _) .nil)) (Mw f q d n0 i dir name 0 cap cap1 hf hq hdq hidx hn0 hcap hcap1) ?_);rintro r bc tc ⟨rfl,rfl,rfl⟩;refine⟨rfl,_,(Lb (Be rfl) (Be rfl) (by decide) f q d (entS d.nodes i n0 name 0) cap cap1 cap1:Back _ [4,5] _ [_,_,_,_,_,_,_]),?_⟩;refine e_ (w_ (l_ (h:=l_ (h:=?_))));refine A6 rfl (Bf [4,5] rfl (.cons _ _ _ _ _ rfl (A9 _) (.cons _ _ _ _ _ rfl (A9 _) .nil)) (by decide) (.cons _ _ _ _ _ rfl (GM (by rfl) _ _ _ _ _) (.cons _ _ _ _ _ rfl (Fu _ _ _) .nil)) (RC f q d {d with nodes:=entS d.nodes i n0 name 0} (AB f dir name).1 cap cap1 (hv.entS hq hn0 name 0) hql hat1 hcap (by rw[GQ];exact hcap1) hkp rfl hxl) ?_);rintro r bc tc ⟨rfl,rfl,⟨hns,rfl⟩|⟨hns,cap2,hcap2,rfl⟩⟩
 ·refine⟨rfl,_,(R9 (n:=7) rfl (by decide) (by decide) (by decide) f q d (entS d.nodes i n0 name 0) (AB f dir name).1 f.length cap cap cap1 cap1:Back _ [4,5] _ [_,_,_,_,_,_,_,_,_]),?_⟩;have hx1:(entS d.nodes i n0 name 0).length≤cap1:=by omega
  refine e_ (?_);refine BE (fun t=>t=⟨look [(6, .bp 2 0),(7, .sl 7 [CY (dir,name,(AB f dir name).1,(0,0))] none),(8, .v (.int .i64 0))],⟨[Ay f,AE dir,Ay (f.set q {d with nodes:=Bu (entS d.nodes i n0 name 0) (AB f dir name).1.2})],[]⟩⟩) ?_ ?_
  ·skip
   refine BO ([(0,Ay f),(1,AE dir),(3,AE (AB f dir name).1),(6,[.bs 4 0 2 f.length cap])]) 9 (h:=AM 0 (h:=AM 1 (h:=AO 2 (h:=AM 3 (h:=?_)))));refine Bz 4 rfl (fun _ hS=>FF (y:= .agg (AE (0,0))) (DD ⟨rfl,rfl⟩) (by repeat (first|exact A9 _|exact LeA.nil _|exact LeL.refl _|refine LeA.agg ⟨rfl,rfl⟩|refine LeA.tup ⟨rfl,rfl⟩|exact LeL.nil|refine LeL.cons ⟨rfl,rfl⟩ ⟨rfl,rfl⟩|exact LeA.any _)) ⟨rfl,rfl⟩) ?_;refine c_ 5 rfl (AK (KY dir name (AB f dir name).1 (0,0)) ?_);rintro r rfl;refine o_ (h:=?_);refine Aj 6 rfl (Af rfl rfl rfl rfl rfl rfl (by repeat constructor) (by repeat constructor) ?_);refine o_ (h:=BK 7 (h:=BK 8 (h:=z_ (h:=?_))));refine AF ?_;refine⟨_,rfl,?_⟩;rw[show Bu (entS d.nodes i n0 name 0) (AB f dir name).1.2=_ from hns]
   first|exact FJ 3 2 rfl (congrArg (fun x=>[Ay f,AE dir,x]) (J1 (k:=0) (i:=4) (j:=9) (d:={d with nodes:=Ct (AB f dir name).1.2 (entS d.nodes i n0 name 0)}) (d':={d with nodes:=Ct (AB f dir name).1.2 (entS d.nodes i n0 name 0)}) hql rfl rfl hcap hcap2 (Be rfl) (Be rfl) rfl rfl)) (.cons _ _ _ _ rfl (A9 _) (.cons _ _ _ _ rfl (A9 _) (.cons _ _ _ _ rfl (A9 _) .nil)))|exact FJ 3 2 rfl (congrArg (fun x=>[Ay f,AE dir,x]) (J1 (k:=0) (i:=4) (j:=5) (d:=d) (d':={d with nodes:=entS d.nodes i n0 name 0}) hql rfl hxl hcap hx1 (Be rfl) (Be rfl) rfl rfl)) (.cons _ _ _ _ rfl (A9 _) (.cons _ _ _ _ rfl (A9 _) (.cons _ _ _ _ rfl (A9 _) .nil)))
  rintro t rfl;refine A4 (?_);refine AJ ?_;rw[EG,if_neg (by omega),if_neg (by omega),if_neg (by simp[hc3]),hdq,Int.toNat_natCast,FN hq,←hino,←Lc (hv.vd d (Al hq)) hn0];rfl
 refine⟨rfl,_,(R8 (n:=7) rfl (by decide) (by decide) (by decide) f q {d with nodes:=Ct (AB f dir name).1.2 (entS d.nodes i n0 name 0)} (entS d.nodes i n0 name 0) (Ct (AB f dir name).1.2 (entS d.nodes i n0 name 0)) (AB f dir name).1 f.length cap cap cap1 cap2:Back _ [4,5] _ [_,_,_,_,_,_,_,_,_,_]),?_⟩;refine e_ (?_);refine BE (fun t=>t=⟨look [(6, .bp 2 0),(7, .sl 7 [CY (dir,name,(AB f dir name).1,(0,0))] none),(8, .v (.int .i64 0))],⟨[Ay f,AE dir,Ay (f.set q {d with nodes:=Bu (entS d.nodes i n0 name 0) (AB f dir name).1.2})],[]⟩⟩) ?_ ?_
 ·skip
  refine BO ([(0,Ay f),(1,AE dir),(3,AE (AB f dir name).1),(6,[.bs 4 0 2 f.length cap])]) 9 (h:=AM 0 (h:=AM 1 (h:=AO 2 (h:=AM 3 (h:=?_)))));refine Bz 4 rfl (fun _ hS=>FF (y:= .agg (AE (0,0))) (DD ⟨rfl,rfl⟩) (by repeat (first|exact A9 _|exact LeA.nil _|exact LeL.refl _|refine LeA.agg ⟨rfl,rfl⟩|refine LeA.tup ⟨rfl,rfl⟩|exact LeL.nil|refine LeL.cons ⟨rfl,rfl⟩ ⟨rfl,rfl⟩|exact LeA.any _)) ⟨rfl,rfl⟩) ?_;refine c_ 5 rfl (AK (KY dir name (AB f dir name).1 (0,0)) ?_);rintro r rfl;refine o_ (h:=?_);refine Aj 6 rfl (Af rfl rfl rfl rfl rfl rfl (by repeat constructor) (by repeat constructor) ?_);refine o_ (h:=BK 7 (h:=BK 8 (h:=z_ (h:=?_))));refine AF ?_;refine⟨_,rfl,?_⟩;rw[show Bu (entS d.nodes i n0 name 0) (AB f dir name).1.2=_ from hns];exact FJ 3 2 rfl (congrArg (fun x=>[Ay f,AE dir,x]) (J1 (k:=0) (i:=4) (j:=9) (d:={d with nodes:=Ct (AB f dir name).1.2 (entS d.nodes i n0 name 0)}) (d':={d with nodes:=Ct (AB f dir name).1.2 (entS d.nodes i n0 name 0)}) hql rfl rfl hcap hcap2 (Be rfl) (Be rfl) rfl rfl)) (.cons _ _ _ _ rfl (A9 _) (.cons _ _ _ _ rfl (A9 _) (.cons _ _ _ _ rfl (A9 _) .nil)))
 rintro t rfl;refine A4 (?_);refine AJ ?_;rw[EG,if_neg (by omega),if_neg (by omega),if_neg (by simp[hc3]),hdq,Int.toNat_natCast,FN hq,←hino,←Lc (hv.vd d (Al hq)) hn0];rfl
theorem bC(f:AU)(dir:AA)(name:AD)(hv:FlsV f)(hs:name.size≤100000):AFn prog 126 [.agg (Ay f), .agg (AE dir), .v (.string name)] (fun r=>r=CV (Dw f dir name)):=by
 have hf:=hv.b;refine enter Tryz.func126 rfl rfl rfl rfl rfl 0 rfl ?_;refine w_ (b_ (h:=b_ (h:=AZ (h:=a_ (h:=a_ (h:=e_ (q_ (w_ (l_ (h:=l_ (h:=m_ (h:=?_))))))))))));refine A6 rfl (AK (LM f dir name hf hs) ?_);rintro r rfl;refine a_ (h:=e_ (w_ (m_ (h:=BV (h:=e_ (?_))))));refine A8 rfl (fun hb1=>?_) (fun hb1=>?_)
 ·have hc1:=bp hb1;refine w_ (AX (h:=m_ (h:=s_ (h:=a_ (h:=a_ (h:=e_ (A4 (A7 (?_)))))))));refine Am (r:=CV (Dw f dir name)) none (h5:=?_) (h6:=⟨rfl,rfl,rfl⟩);rw[Dw,if_pos (by omega)];exact Df _
 have hc1:=bp hb1;refine AN (w_ (l_ (h:=l_ (h:=m_ (h:=?_)))));refine A6 rfl (AK (Gm f dir name hf) ?_);rintro r rfl;refine m_ (h:=x_ (h:=x_ (h:=AZ (h:=s_ (h:=a_ (h:=e_ (q_ (w_ (m_ (h:=BV (h:=e_ (?_))))))))))));refine A8 rfl (fun hb2=>?_) (fun hb2=>?_)
 ·have hc2:=bp hb2;refine w_ (AX (h:=m_ (h:=s_ (h:=a_ (h:=a_ (h:=e_ (A4 (A7 (?_)))))))));refine Am (r:=CV (Dw f dir name)) none (h5:=?_) (h6:=⟨rfl,rfl,rfl⟩);rw[Dw,if_neg (by omega),if_pos (by omega)];exact Df _
 have hc2:=bp hb2;have hlk:(AB f dir name).2=0:=by omega
 refine AN (q_ (w_ (l_ (h:=l_ (h:=?_)))));refine A6 rfl (AK (Gl f (AB f dir name).1 hf) ?_);rintro r rfl;refine BG (h:=e_ (?_));refine A8 rfl (fun hb3=>?_) (fun hb3=>?_)
 ·have hc3:=bp hb3;refine w_ (AX (h:=s_ (h:=a_ (h:=a_ (h:=e_ (A4 (A7 (?_))))))));refine Am (r:=CV (Dw f dir name)) none (h5:=?_) (h6:=⟨rfl,rfl,rfl⟩);rw[Dw,if_neg (by omega),if_neg (by omega),if_pos hc3];exact Df _
 have hc3:=bp hb3;refine AN (q_ (w_ (l_ (h:=l_ (h:=?_)))));refine A6 rfl (AK (Tf f (AB f dir name).1 hf) ?_);rintro r rfl;refine BG (h:=e_ (?_));refine A8 rfl (fun hb4=>?_) (fun hb4=>?_)
 ·have hc4:=bp hb4;refine w_ (AX (h:=s_ (h:=a_ (h:=a_ (h:=e_ (A4 (A7 (?_))))))));refine Am (r:=CV (Dw f dir name)) none (h5:=?_) (h6:=⟨rfl,rfl,rfl⟩);rw[Dw,if_neg (by omega),if_neg (by omega),if_neg (by simp[hc3]),if_pos hc4];exact Df _
 have hc4:=bp hb4;obtain⟨q,i,d,n0,hdq,hq,hn0,hino,hidx,hnode,hk0,hnm⟩:=F1 (name:=name) (dir:=dir) (f:=f) (by omega);have hil:=(As.1 hn0).1;have hql:=(As.1 hq).1;have hvd:=hv.vd d (Al hq);obtain⟨e,he,hle⟩:=N7 hnode hk0 hlk;have hat1:(AB f dir name).1.1=(q:Int):=by rw[hle];exact hdq
 have hat2:(AB f dir name).1.2≠1:=by rw[hle];exact(hvd.ent n0 (Al hn0) e (FY he).1).2.1
 have hxl:(entS d.nodes i n0 name 0).length=d.nodes.length:=GQ _ _ _ _ _
 have hkp:0<(Ct (AB f dir name).1.2 (entS d.nodes i n0 name 0)).length:=by
  obtain⟨m,hm,hm1⟩:=Uh hvd hn0 name 0;exact RB hm (by rw[hm1];exact hat2.symm)
 refine AN (w_ (l_ (h:=?_)));refine A6 rfl (Bf [] rfl (.cons _ _ _ _ _ rfl (A9 _) .nil) (by decide) .nil (LS f q d hf hq (by omega)) ?_);rintro r bc tc ⟨rfl,cap,cap1,hcap,hcap1,rfl,rfl⟩;refine⟨rfl,_,(La (n:=4) rfl f q d d.nodes cap cap1:Back _ [] _ [_,_,_,_,_,_]),?_⟩;refine AZ (h:=s_ (h:=e_ (w_ (l_ (h:=l_ (h:=m_ (h:=?_)))))));refine A6 rfl (Bf [4,5] rfl (.cons _ _ _ _ _ rfl (A9 _) (.cons _ _ _ _ _ rfl (A9 _) (.cons _ _ _ _ _ rfl (A9 _) (.cons _ _ _ _ _ rfl (A9 _) .nil)))) (by decide) (.cons _ _ _ _ _ rfl (GM (by rfl) _ _ _ _ _) (.cons _ _ _ _ _ rfl (Fu _ _ _) .nil)) (Mw f q d n0 i dir name 0 cap cap1 hf hq hdq hidx hn0 hcap hcap1) ?_);rintro r bc tc ⟨rfl,rfl,rfl⟩;refine⟨rfl,_,(Lb (Be rfl) (Be rfl) (by decide) f q d (entS d.nodes i n0 name 0) cap cap1 cap1:Back _ [4,5] _ [_,_,_,_,_,_,_]),?_⟩;refine e_ (w_ (l_ (h:=l_ (h:=?_))));refine A6 rfl (Bf [4,5] rfl (.cons _ _ _ _ _ rfl (A9 _) (.cons _ _ _ _ _ rfl (A9 _) .nil)) (by decide) (.cons _ _ _ _ _ rfl (GM (by rfl) _ _ _ _ _) (.cons _ _ _ _ _ rfl (Fu _ _ _) .nil)) (RC f q d {d with nodes:=entS d.nodes i n0 name 0} (AB f dir name).1 cap cap1 (hv.entS hq hn0 name 0) hql hat1 hcap (by rw[GQ];exact hcap1) hkp rfl hxl) ?_);rintro r bc tc ⟨rfl,rfl,⟨hns,rfl⟩|⟨hns,cap2,hcap2,rfl⟩⟩
 ·refine⟨rfl,_,(R9 (n:=7) rfl (by decide) (by decide) (by decide) f q d (entS d.nodes i n0 name 0) (AB f dir name).1 f.length cap cap cap1 cap1:Back _ [4,5] _ [_,_,_,_,_,_,_,_,_]),?_⟩;have hx1:(entS d.nodes i n0 name 0).length≤cap1:=by omega
  refine e_ (?_);refine BE (fun t=>t=⟨look [(6, .bp 2 0),(7, .sl 7 [CY (dir,name,(AB f dir name).1,(0,0))] none),(8, .v (.int .i64 0))],⟨[Ay f,AE dir,Ay (f.set q {d with nodes:=Bu (entS d.nodes i n0 name 0) (AB f dir name).1.2})],[]⟩⟩) ?_ ?_
  ·skip
   refine BO ([(0,Ay f),(1,AE dir),(3,AE (AB f dir name).1),(6,[.bs 4 0 2 f.length cap])]) 9 (h:=AM 0 (h:=AM 1 (h:=AO 2 (h:=AM 3 (h:=?_)))));refine Bz 4 rfl (fun _ hS=>FF (y:= .agg (AE (0,0))) (DD ⟨rfl,rfl⟩) (by repeat (first|exact A9 _|exact LeA.nil _|exact LeL.refl _|refine LeA.agg ⟨rfl,rfl⟩|refine LeA.tup ⟨rfl,rfl⟩|exact LeL.nil|refine LeL.cons ⟨rfl,rfl⟩ ⟨rfl,rfl⟩|exact LeA.any _)) ⟨rfl,rfl⟩) ?_;refine c_ 5 rfl (AK (KY dir name (AB f dir name).1 (0,0)) ?_);rintro r rfl;refine o_ (h:=?_);refine Aj 6 rfl (Af rfl rfl rfl rfl rfl rfl (by repeat constructor) (by repeat constructor) ?_);refine o_ (h:=BK 7 (h:=BK 8 (h:=z_ (h:=?_))));refine AF ?_;refine⟨_,rfl,?_⟩;rw[show Bu (entS d.nodes i n0 name 0) (AB f dir name).1.2=_ from hns]
   first|exact FJ 3 2 rfl (congrArg (fun x=>[Ay f,AE dir,x]) (J1 (k:=0) (i:=4) (j:=9) (d:={d with nodes:=Ct (AB f dir name).1.2 (entS d.nodes i n0 name 0)}) (d':={d with nodes:=Ct (AB f dir name).1.2 (entS d.nodes i n0 name 0)}) hql rfl rfl hcap hcap2 (Be rfl) (Be rfl) rfl rfl)) (.cons _ _ _ _ rfl (A9 _) (.cons _ _ _ _ rfl (A9 _) (.cons _ _ _ _ rfl (A9 _) .nil)))|exact FJ 3 2 rfl (congrArg (fun x=>[Ay f,AE dir,x]) (J1 (k:=0) (i:=4) (j:=5) (d:=d) (d':={d with nodes:=entS d.nodes i n0 name 0}) hql rfl hxl hcap hx1 (Be rfl) (Be rfl) rfl rfl)) (.cons _ _ _ _ rfl (A9 _) (.cons _ _ _ _ rfl (A9 _) (.cons _ _ _ _ rfl (A9 _) .nil)))
  rintro t rfl;refine A4 (?_);refine AJ ?_;rw[Dw,if_neg (by omega),if_neg (by omega),if_neg (by simp[hc3]),if_neg (by simp[hc4]),hdq,Int.toNat_natCast,FN hq,←hino,←Lc (hv.vd d (Al hq)) hn0];rfl
 refine⟨rfl,_,(R8 (n:=7) rfl (by decide) (by decide) (by decide) f q {d with nodes:=Ct (AB f dir name).1.2 (entS d.nodes i n0 name 0)} (entS d.nodes i n0 name 0) (Ct (AB f dir name).1.2 (entS d.nodes i n0 name 0)) (AB f dir name).1 f.length cap cap cap1 cap2:Back _ [4,5] _ [_,_,_,_,_,_,_,_,_,_]),?_⟩;refine e_ (?_);refine BE (fun t=>t=⟨look [(6, .bp 2 0),(7, .sl 7 [CY (dir,name,(AB f dir name).1,(0,0))] none),(8, .v (.int .i64 0))],⟨[Ay f,AE dir,Ay (f.set q {d with nodes:=Bu (entS d.nodes i n0 name 0) (AB f dir name).1.2})],[]⟩⟩) ?_ ?_
 ·skip
  refine BO ([(0,Ay f),(1,AE dir),(3,AE (AB f dir name).1),(6,[.bs 4 0 2 f.length cap])]) 9 (h:=AM 0 (h:=AM 1 (h:=AO 2 (h:=AM 3 (h:=?_)))));refine Bz 4 rfl (fun _ hS=>FF (y:= .agg (AE (0,0))) (DD ⟨rfl,rfl⟩) (by repeat (first|exact A9 _|exact LeA.nil _|exact LeL.refl _|refine LeA.agg ⟨rfl,rfl⟩|refine LeA.tup ⟨rfl,rfl⟩|exact LeL.nil|refine LeL.cons ⟨rfl,rfl⟩ ⟨rfl,rfl⟩|exact LeA.any _)) ⟨rfl,rfl⟩) ?_;refine c_ 5 rfl (AK (KY dir name (AB f dir name).1 (0,0)) ?_);rintro r rfl;refine o_ (h:=?_);refine Aj 6 rfl (Af rfl rfl rfl rfl rfl rfl (by repeat constructor) (by repeat constructor) ?_);refine o_ (h:=BK 7 (h:=BK 8 (h:=z_ (h:=?_))));refine AF ?_;refine⟨_,rfl,?_⟩;rw[show Bu (entS d.nodes i n0 name 0) (AB f dir name).1.2=_ from hns];exact FJ 3 2 rfl (congrArg (fun x=>[Ay f,AE dir,x]) (J1 (k:=0) (i:=4) (j:=9) (d:={d with nodes:=Ct (AB f dir name).1.2 (entS d.nodes i n0 name 0)}) (d':={d with nodes:=Ct (AB f dir name).1.2 (entS d.nodes i n0 name 0)}) hql rfl rfl hcap hcap2 (Be rfl) (Be rfl) rfl rfl)) (.cons _ _ _ _ rfl (A9 _) (.cons _ _ _ _ rfl (A9 _) (.cons _ _ _ _ rfl (A9 _) .nil)))
 rintro t rfl;refine A4 (?_);refine AJ ?_;rw[Dw,if_neg (by omega),if_neg (by omega),if_neg (by simp[hc3]),if_neg (by simp[hc4]),hdq,Int.toNat_natCast,FN hq,←hino,←Lc (hv.vd d (Al hq)) hn0];rfl
end
section
variable {P:Program}{N:Dim}{ops:Array Oper}{Q:Exit→AS→Prop}{S:AH→Prop}{tl:Nat}
def Ui(ops:Array Oper)(tl:Nat):Bool:=Nm ops tl
end
section
variable {P:Program}{N:Dim}{Q:Exit→AS→Prop}{l:List Oper}{S:AH→Prop}{tl:Nat}{fuel:Nat}{listed:Array Bool}{m:List (Nat×AV)}{h:AH}{op:Op}{ty:TypeId}{pos:String}{af:Array Edge}{gd:Option (Nat×Bool)}
theorem bD{i d:Nat}{x:AV}(hi:l[i]?=some ⟨some d,op,ty,pos,af,gd⟩)(hd:Nat.blt d N.n=true)(htl:(Ui l.toArray tl&&Nl l.toArray listed&& !Nat.ble tl i&&Region.free .any l.toArray listed i&&(Region.ready .any l.toArray listed).contains i)=true)
    (hw:CX l.toArray (look m) ⟨some d,op,ty,pos,af,gd⟩=some true) (hst:∀h,S h→AStep P ⟨some d,op,ty,pos,af,gd⟩ (CE (look m)) h (fun x' h'=>x'=x∧h'=h)) (hS:S h)
    (H:AAny P N l.toArray Q S tl fuel (listed.setIfInBounds i true) ⟨look ((d,x)::m),h⟩):AAny P N l.toArray Q S tl (fuel+1) listed ⟨look m,h⟩:=by
 simp only[Bool.and_eq_true,Bool.not_eq_true']at htl;obtain⟨⟨⟨⟨t1,t0⟩,t2⟩,t3⟩,t4⟩:=htl;exact AAny.first3 (oi:=⟨some d,op,ty,pos,af,gd⟩) (HG hi) hd t1 t2 fuel listed ⟨look m,h⟩ (Sh t0) (Region.free_spec (HG hi) t3) (List.contains_iff_mem.1 t4) (.inl ⟨hw,hst⟩) hS H
end
theorem EH{P:Program}{N:Dim}{Q:Exit→AS→Prop}{l:List Oper}{S:AH→Prop}{tl:Nat}{fuel:Nat}{listed:Array Bool}{m:List (Nat×AV)}{h:AH}{op:Op}{ty:TypeId}{pos:String}{af:Array Edge}{gd:Option (Nat×Bool)}(i:Nat){d:Nat}{x:AV}(hi:l[i]?=some ⟨some d,op,ty,pos,af,gd⟩)(hst:∀h,S h→AStep P ⟨some d,op,ty,pos,af,gd⟩ (CE (look m)) h (fun x' h'=>x'=x∧h'=h))(H:AAny P N l.toArray Q S tl fuel (listed.setIfInBounds i true) ⟨look ((d,x)::m),h⟩)(hd:Nat.blt d N.n=true:=by rfl)(htl:(Ui l.toArray tl&&Nl l.toArray listed&& !Nat.ble tl i&&Region.free .any l.toArray listed i&&(Region.ready .any l.toArray listed).contains i)=true:=by kernel_rfl)(hw:CX l.toArray (look m) ⟨some d,op,ty,pos,af,gd⟩=some true:=by first|rfl|exact Ap rfl rfl (C0 ‹_›)|exact Ap rfl rfl (C1 ‹_›)|exact Ap rfl rfl (by simp[*]))(hS:S h:=by repeat (first|exact MY _|refine MZ rfl ?_)):AAny P N l.toArray Q S tl (fuel+1) listed ⟨look m,h⟩:=bD hi hd htl hw hst hS H
theorem RD{f:AU}{a:AA}{q i:Nat}{d:Dvc}{n:Nod}(ha:a.1=(q:Int))(hq:f[q]?=some d)(hd:E6 d.nodes)(hn:d.nodes[i]?=some n)(hi:n.ino=a.2):FV f a=(i:Int):=by
 rw[QM ha hq];refine TY hn (by simpa using hi) fun j y hj hy=>?_;obtain⟨l1,e1⟩:=As.1 hn;obtain⟨l2,e2⟩:=As.1 hy;have hp:=List.pairwise_iff_getElem.1 hd j i l2 l1 hj;rw[e1,e2]at hp;have:y.ino≠a.2:=by omega
 simpa using this
theorem Uj(f:AU)(q:Nat)(d':Dvc)(n:Nod)(i:Nat)(a:AA)(name:AD)(ino:Int)(cap cap1:Nat)(hf:FlsB (f.set q d'))(hq:q<f.length)(ha:a.1=(q:Int))(hi:FV (f.set q d') a=(i:Int))(hn:d'.nodes[i]?=some n)(hcap:f.length≤cap)(hcap1:d'.nodes.length≤cap1):
    ACall prog 76 [.agg [.bs 0 0 2 f.length cap], .agg (AE a), .v (.string name), .v (.int .i64 ino)] [DB f q d' 1 cap cap1,NB d'.nodes cap1] (fun r b t=>t=[]∧r= .tup []∧b=[DB f q d' 1 cap cap1,NB (entS d'.nodes i n name ino) cap1]):=by
 have key:=Mw (f.set q d') q d' n i a name ino cap cap1 hf (by simp[hq]) ha hi hn (by simpa using hcap) hcap1;rw[List.length_set,Qk]at key;exact key
def DE(f:AU)(a:AA)(mode uid gid:Int):AU×Int:=
 if D1 f a=false then([],2)else if FL (ET mode uid gid (Ah f a))=false then([],22)else(Ez f a.1.toNat fun ns=>CU ns a.2 (ET mode uid gid),0)
def N8(R:AU×Int):AV:= .tup [.agg (Ay R.1), .v (.int .i64 R.2)]
theorem Uk(e:Int):LeA (.tup [.agg [.v (.slice none 0 0)], .v (.int .i64 e)]) (N8 ([],e)):=(by repeat (first|exact A9 _|exact LeA.nil _|exact LeL.refl _|refine LeA.agg ?_|refine LeA.tup ?_|exact LeL.nil|refine LeL.cons ?_ ?_|exact LeA.any _))
theorem bF{n:Nod}(h:FL n=true):n.target.size≤128:=by
 unfold FL at h;split at h
 ·cases h
 split at h
 ·simp[KX]at h;omega
 have h2:=List.isEmpty_iff.1 h;rw[ByteArray.toList_eq]at h2;have:n.target.data.size=0:=by rw[←Array.length_toList,h2];rfl
 show n.target.data.size≤128;omega
theorem N9{f:AU}(hv:FlsV f)(a:AA):(Ah f a).target.size≤128:=by
 rcases JO f a with⟨-,h⟩|⟨k,i,d,n, -,h1,h2, -, -,h⟩
 ·simp only[Ah,h,Option.getD_none];exact BJ _
 simp only[Ah,h,Option.getD_some];exact bF ((hv.vd d (Al h1)).plain n (Al h2))
def DW(f:AU)(dir:AA)(name:AD)(n:Nod):Cp:=
 if CC f dir name≠0 then([],[],CC f dir name)else if FL n=false then([],[],22)else if(AB f dir name).2=0 then([],[],17)else
 match Ec f dir.1 with
 |none=>([],[],2)
 |some d=>if 16≤d.nodes.length∨d.next=1073741824∨JQ f dir=true then([],[],28)else(f.set dir.1.toNat ⟨d.next+1,BR d.nodes dir.2 name d.next++[Eo n d.next dir.2]⟩,[(dir,name,(0,0),(dir.1,d.next))],0)
theorem Ul{f:AU}{q:Nat}{d:Dvc}{j j' cap cap1 c:Nat}(m:Nod)(hq:q<f.length):SetAt (DB f q d j cap cap1) (0+q * 2+1) [.bs j' 0 8 (d.nodes.length+1) c] (DB f q {d with nodes:=d.nodes++[m]} j' cap c):=by
 have h:=Qj (d:=d) (d':={d with nodes:=d.nodes++[m]}) (j:=j) (j':=j') (cap:=cap) (cap1:=cap1) (cap1':=c) (k:=1) (cs:=[.bs j' 0 8 (d.nodes++[m]).length c]) hq (by repeat constructor) (by simp)
 rwa [List.length_append]at h
section
theorem bG(f:AU)(a:AA)(mode uid gid:Int)(hv:FlsV f):AFn prog 127 [.agg (Ay f), .agg (AE a), .v (.int .i64 mode), .v (.int .i64 uid), .v (.int .i64 gid)] (fun r=>r=N8 (DE f a mode uid gid)):=by
 have hf:=hv.b;have htg:=N9 hv a;refine enter Tryz.func127 rfl rfl rfl rfl rfl 0 rfl ?_;refine w_ (b_ (h:=b_ (h:=AZ (h:=a_ (h:=e_ (w_ (l_ (h:=l_ (h:=?_)))))))));refine A6 rfl (AK (ED f a hf) ?_);rintro r rfl;refine m_ (h:=x_ (h:=x_ (h:=AZ (h:=s_ (h:=a_ (h:=e_ (q_ (w_ (m_ (h:=BG (h:=e_ (?_))))))))))));refine A8 rfl (fun hb1=>?_) (fun hb1=>?_)
 ·have hc1:=bp hb1;refine w_ (AX (h:=s_ (h:=a_ (h:=e_ (A4 (A7 (?_)))))));refine Am (r:=N8 (DE f a mode uid gid)) none (h5:=?_) (h6:=⟨rfl,rfl,rfl⟩);rw[DE,if_pos hc1];exact Uk _
 have hc1:=bp hb1;refine AN (w_ (m_ (h:=m_ (h:=m_ (h:=f_ (h:=s_ (h:=f_ (h:=s_ (h:=f_ (h:=s_ (h:=e_ (q_ (w_ (l_ (h:=?_)))))))))))))));refine A6 rfl (AK (Tg (ET mode uid gid (Ah f a)) (by show(Ah f a).target.size≤100000;omega)) ?_);rintro r rfl;refine BG (h:=e_ (?_));refine A8 rfl (fun hb2=>?_) (fun hb2=>?_)
 ·have hc2:=bp hb2;refine w_ (AX (h:=s_ (h:=a_ (h:=e_ (A4 (A7 (?_)))))));refine Am (r:=N8 (DE f a mode uid gid)) none (h5:=?_) (h6:=⟨rfl,rfl,rfl⟩);rw[DE,if_neg (by simp[hc1]),if_pos hc2];exact Uk _
 have hc2:=bp hb2;obtain⟨q,i,d,n0,hdq,hq,hn0,hino,hidx,hnode⟩:=(JO f a).resolve_left (fun h=>by simp[D1,h.2]at hc1);have hil:=(As.1 hn0).1;have hql:=(As.1 hq).1;have hng:Ah f a=n0:=by simp[Ah,hnode]
 refine AN (w_ (l_ (h:=?_)));refine A6 rfl (Bf [] rfl (.cons _ _ _ _ _ rfl (A9 _) .nil) (by decide) .nil (LS f q d hf hq (by omega)) ?_);rintro r bc tc ⟨rfl,cap,cap1,hcap,hcap1,rfl,rfl⟩;refine⟨rfl,_,(La (n:=4) rfl f q d d.nodes cap cap1:Back _ [] _ [_,_,_,_,_,_]),?_⟩;have hD0:(DB f q d 5 cap cap1)[0+q * 2+1]?=some (.bs 5 0 8 d.nodes.length cap1):=Mp hql
 have hset:SetAt (NB d.nodes cap1) (0+i * 8) (Ak (ET mode uid gid (Ah f a))) (NB (d.nodes.set i (ET mode uid gid (Ah f a))) cap1):=by
  rw[hng];exact Qi (k:=0) hn0 (by repeat constructor) (by simp[Ak])
 refine AZ (h:=s_ (h:=e_ (q_ (BO ([(0,Ay f),(1,AE a),(3,Ak (ET mode uid gid (Ah f a))),(4,DB f q d 5 cap cap1),(6,[.bs 4 0 2 f.length cap])]) 13 (h:=AG 0 (h:=?_))))));refine AM 1 (h:=?_);refine AG 2 (h:=?_);refine AM 3 (h:=?_);refine Bz 4 rfl (fun _ hS=>DZ (m:=q) rfl rfl hdq hql ⟨rfl,rfl⟩) ?_;refine AG 5 (h:=?_)
 first|refine AM 6 (h:=?_)|refine Bz 6 rfl (fun _ hS=>DK (row:=DB f q d 5 cap cap1) rfl (kb hS rfl) hD0 ⟨rfl,rfl⟩) ?_
 refine AM 7 (h:=?_);refine AM 8 (h:=?_);refine AM 10 (h:=?_);refine c_ 9 rfl (Cn 2 rfl (.cons _ _ _ _ _ rfl (LeA.of_eq (K0 hq hcap hcap1 (BJ _) (BJ _) rfl rfl)) (.cons _ _ _ _ _ rfl (A9 _) .nil)) (Js f a hf) ?_);rintro r rfl;refine⟨rfl,?_⟩;refine o_ (h:=?_);refine Bz 11 rfl (fun _ hS=>DZ (m:=i) rfl rfl hidx hil ⟨rfl,rfl⟩) ?_;refine Aj 12 rfl (Af rfl rfl rfl rfl rfl rfl hset (by repeat constructor) ?_);refine o_ (h:=z_ (h:=t_ (?_)));refine BE (fun t=>t=⟨look [(10, .bp 2 0),(11, .v (.int .i64 0))],⟨[Ay f,AE a,Ay (f.set q {d with nodes:=d.nodes.set i (ET mode uid gid (Ah f a))})],[]⟩⟩) ?_ ?_
 ·skip
  refine AQ (l_ (h:=s_ (h:=a_ (h:=AP (?_)))));refine AF ?_;exact⟨_,rfl,FJ 3 2 rfl (congrArg (fun x=>[Ay f,AE a,x]) (J1 (k:=0) (i:=4) (j:=5) (d:=d) (d':={d with nodes:=d.nodes.set i (ET mode uid gid (Ah f a))}) hql rfl (by simp) hcap (by simpa using hcap1) (Be rfl) (Be rfl) rfl rfl)) (.cons _ _ _ _ rfl (A9 _) (.cons _ _ _ _ rfl (A9 _) .nil))⟩
 rintro t rfl;refine A4 (?_);refine AJ ?_;rw[DE,if_neg (by simp[hc1]),if_neg (by simp[hc2]),hdq,Int.toNat_natCast,FN hq,←hino,←N6 (hv.vd d (Al hq)).asc hn0,←hng];rfl
theorem bH(f:AU)(dir:AA)(name:AD)(n:Nod)(hv:FlsV f)(hs:name.size≤100000)(hns:n.target.size≤100000):AFn prog 45 [.agg (Ay f), .agg (AE dir), .v (.string name), .agg (Ak n)] (fun r=>r=CV (DW f dir name n)):=by
 have hf:=hv.b;obtain⟨e0,he0⟩:∃e0:Int,e0=if CC f dir name≠0 then CC f dir name else if FL n=false then 22 else 0:=⟨_,rfl⟩
 refine enter Tryz.func45 rfl rfl rfl rfl rfl 0 rfl ?_;refine w_ (b_ (h:=b_ (h:=b_ (h:=AZ (h:=a_ (h:=a_ (h:=e_ (w_ (l_ (h:=l_ (h:=m_ (h:=?_))))))))))));refine A6 rfl (AK (LM f dir name hf hs) ?_);rintro r rfl;refine a_ (h:=e_ (?_));refine BE (fun t=>t=⟨look [(2, .v (.string name)),(4, .bp 0 0),(5, .bp 1 0),(7, .bp 2 0),(8, .bp 3 0),(9, .v (.slice none 0 0)),(10, .v (.int .i64 0)),(11, .v (.int .i64 e0))],⟨[Ay f,AE dir,Ak n,[.v (.slice none 0 0)]],[]⟩⟩) ?_ ?_
 ·skip
  refine w_ (m_ (h:=AR (h:=m_ (h:=?_))));refine B5 true rfl rfl (fun hb1=>?_) (fun hb1=>?_)
  ·have hc1:=bp hb1;refine l_ (h:=?_);refine BB (AK (Tg n hns) ?_);rintro r rfl;refine BG (h:=Ag (h:=e_ (?_)));refine A8 rfl (fun hb2=>?_) (fun hb2=>?_)
   ·have hc2:=bp hb2;have hee:e0=22:=by rw[he0,if_neg (by omega),if_pos hc2]
    refine AQ (a_ (h:=AP (?_)));refine AF ?_;refine⟨_,rfl,?_⟩;rw[hee];exact(wk 4 0)
   have hc2:=bp hb2;have hee:e0=CC f dir name:=by rw[he0,if_neg (by omega),if_neg (by simp[hc2]),hc1]
   refine BM (?_);refine AF ?_;refine⟨_,rfl,?_⟩;rw[hee];exact(wk 4 0)
  have hc1:=bp hb1;have hee:e0=CC f dir name:=by rw[he0,if_pos hc1]
  refine A3 (h:=A3 (h:=A3 (h:=Ar (h:=e_ (GJ (h:=BM (?_)))))));refine AF ?_;refine⟨_,rfl,?_⟩;rw[hee];exact(wk 4 0)
 rintro t rfl;refine q_ (w_ (m_ (h:=BV (h:=e_ (?_)))));refine A8 rfl (fun hb3=>?_) (fun hb3=>?_)
 ·have hc3:=bp hb3;refine w_ (AX (h:=m_ (h:=s_ (h:=a_ (h:=a_ (h:=e_ (A4 (A7 (?_)))))))));refine Am (r:=CV (DW f dir name n)) none (h5:=?_) (h6:=⟨rfl,rfl,rfl⟩)
  rw[show DW f dir name n=([],[],e0) by
   unfold DW;by_cases h:CC f dir name=0
   ·rw[if_neg (by omega)]at he0 ⊢;by_cases h2:FL n=false
    ·rw[if_pos h2]at he0 ⊢;rw[he0]
    rw[if_neg h2]at he0;omega
   rw[if_pos h]at he0 ⊢;rw[he0]]
  exact Df _
 have hc3:=bp hb3
 have hpl:CC f dir name=0:=by
  by_cases h:CC f dir name=0
  ·exact h
  rw[if_pos h]at he0;omega
 have hpn:¬FL n=false:=by
  intro h;rw[if_neg (by omega),if_pos h]at he0;omega
 refine AN (q_ (w_ (l_ (h:=l_ (h:=m_ (h:=?_))))));refine A6 rfl (AK (Gm f dir name hf) ?_);rintro r rfl;refine m_ (h:=x_ (h:=x_ (h:=AZ (h:=s_ (h:=a_ (h:=e_ (w_ (m_ (h:=AR (h:=e_ (?_)))))))))));refine A8 rfl (fun hb4=>?_) (fun hb4=>?_)
 ·have hc4:=bp hb4;refine w_ (AX (h:=s_ (h:=a_ (h:=a_ (h:=e_ (A4 (A7 (?_))))))));refine Am (r:=CV (DW f dir name n)) none (h5:=?_) (h6:=⟨rfl,rfl,rfl⟩);rw[DW,if_neg (by omega),if_neg hpn,if_pos (by omega)];exact Df _
 have hc4:=bp hb4;obtain⟨q,i,d,n0,hdq,hq,hn0,hino,hidx,hnode,hk0,hnm⟩:=F1 (name:=name) (dir:=dir) (f:=f) hpl;have hil:=(As.1 hn0).1;have hql:=(As.1 hq).1;have hvd:=hv.vd d (Al hq);have hatI:Ec f dir.1=some d:=by rw[hdq,JN,hq]
 have hrow:(f.map C7)[q]?=some (C7 d):=by rw[List.getElem?_map,hq];rfl
 have hnx1:=hvd.next2;have hnx2:=hvd.nextM;have hdl:=hvd.len;refine AN (w_ (f_ (h:=l_ (h:=f_ (h:=l_ (h:=?_))))));refine A6 rfl (Ci (n:=q) rfl rfl hdq hrow ?_);refine l_ (h:=AZ (h:=s_ (h:=e_ (q_ (w_ (f_ (h:=l_ (h:=n_ (h:=GL (h:=m_ (h:=?_)))))))))));refine B5 false rfl rfl (fun hb5=>?_) (fun hb5=>?_)
 ·have hc5:=bp hb5;refine A3 (h:=A3 (h:=A3 (h:=Ag (h:=m_ (h:=A3 (h:=A3 (h:=A3 (h:=Ag (h:=e_ (C2 (h:=w_ (AX (h:=s_ (h:=a_ (h:=a_ (h:=e_ (A4 (A7 (?_)))))))))))))))))));refine Am (r:=CV (DW f dir name n)) none (h5:=?_) (h6:=⟨rfl,rfl,rfl⟩);rw[DW,if_neg (by omega),if_neg hpn,if_neg (by omega),hatI];simp only;rw[if_pos (by first|exact .inl (by simp at *;omega)|exact .inr (.inl (by omega))|exact .inr (.inr (by assumption)))];exact Df _
 have hc5:=bp hb5;refine f_ (h:=l_ (h:=AR (h:=Ar (h:=m_ (h:=?_)))));refine B5 false rfl rfl (fun hb6=>?_) (fun hb6=>?_)
 ·have hc6:=bp hb6;refine A3 (h:=A3 (h:=A3 (h:=Ag (h:=e_ (C2 (h:=w_ (AX (h:=s_ (h:=a_ (h:=a_ (h:=e_ (A4 (A7 (?_))))))))))))));refine Am (r:=CV (DW f dir name n)) none (h5:=?_) (h6:=⟨rfl,rfl,rfl⟩);rw[DW,if_neg (by omega),if_neg hpn,if_neg (by omega),hatI];simp only;rw[if_pos (by first|exact .inl (by simp at *;omega)|exact .inr (.inl (by omega))|exact .inr (.inr (by assumption)))];exact Df _
 have hc6:=bp hb6;refine l_ (h:=l_ (h:=?_));refine BB (AK (QN f dir hf) ?_);rintro r rfl;refine Ar (h:=e_ (?_));refine A8 rfl (fun hb7=>?_) (fun hb7=>?_)
 ·have hc7:=bp hb7;refine w_ (AX (h:=s_ (h:=a_ (h:=a_ (h:=e_ (A4 (A7 (?_))))))));refine Am (r:=CV (DW f dir name n)) none (h5:=?_) (h6:=⟨rfl,rfl,rfl⟩);rw[DW,if_neg (by omega),if_neg hpn,if_neg (by omega),hatI];simp only;rw[if_pos (by first|exact .inl (by simp at *;omega)|exact .inr (.inl (by omega))|exact .inr (.inr (by assumption)))];exact Df _
 have hc7:=bp hb7;refine AN (w_ (l_ (h:=?_)));refine A6 rfl (Bf [] rfl (.cons _ _ _ _ _ rfl (A9 _) .nil) (by decide) .nil (LS f q d hf hq (by omega)) ?_);rintro r bc tc ⟨rfl,cap,cap1,hcap,hcap1,rfl,rfl⟩;refine⟨rfl,_,(La (n:=6) rfl f q d d.nodes cap cap1:Back _ [] _ [_,_,_,_,_,_,_,_]),?_⟩;have hD0:(DB f q d 7 cap cap1)[0+q * 2+1]?=some (.bs 7 0 8 d.nodes.length cap1):=Mp hql;obtain⟨mk,hmk⟩:∃mk,mk=Eo n d.next dir.2:=⟨_,rfl⟩;refine AZ (h:=s_ (h:=e_ (w_ (f_ (h:=l_ (h:=f_ (h:=l_ (h:=f_ (h:=l_ (h:=f_ (h:=l_ (h:=f_ (h:=l_ (h:=f_ (h:=l_ (h:=?_))))))))))))))));refine A6 rfl (Ex (y:= .agg (Ak ⟨d.next,n.kind,n.mode,n.uid,n.gid,0,n.target,[]⟩)) (DD ⟨rfl,rfl⟩) ?_);refine AZ (h:=s_ (h:=e_ (?_)));refine BE (fun t=>t=⟨look [(2, .v (.string name)),(5, .bp 1 0),(8, .bp 3 0),(15, .bp 8 0),(16, .bp 9 0)],⟨[Ay f,AE dir,Ak n,[.v (.slice none 0 0)],AE (AB f dir name).1,C7 d,DB f q d 7 cap cap1,NB d.nodes cap1,[.bs 6 0 2 f.length cap],Ak mk],[]⟩⟩) ?_ ?_
 ·skip
  refine w_ (f_ (h:=l_ (h:=AR (h:=e_ (?_)))));refine A8 rfl (fun hb8=>?_) (fun hb8=>?_)
  ·have hc8:=bp hb8;have hmk2:mk=⟨d.next,n.kind,n.mode,n.uid,n.gid,dir.2,n.target,[]⟩:=by rw[hmk];unfold Eo;rw[if_pos hc8]
   refine AQ (f_ (h:=l_ (h:=f_ (h:=s_ (h:=AP (?_))))));refine AF ?_;refine⟨_,rfl,?_⟩;rw[hmk2];exact Bl 10 0 (by simp[Ai,Ac,Ab,CZ,Ca,AE,Ak,Ay,C7])
  have hc8:=bp hb8;have hmk2:mk=⟨d.next,n.kind,n.mode,n.uid,n.gid,0,n.target,[]⟩:=by rw[hmk];unfold Eo;rw[if_neg hc8]
  refine BM (?_);refine AF ?_;refine⟨_,rfl,?_⟩;rw[hmk2];exact Bl 10 0 (by simp[Ai,Ac,Ab,CZ,Ca,AE,Ak,Ay,C7])
 rintro t rfl;refine BE (fun t=>∃capx,(d.nodes++[mk]).length≤capx∧t=⟨look [(2, .v (.string name)),(5, .bp 1 0),(8, .bp 3 0),(15, .bp 8 0),(16, .bp 9 0)],⟨[Ay f,AE dir,Ak n,[.v (.slice none 0 0)],AE (AB f dir name).1,C7 d,DB f q {d with nodes:=d.nodes++[mk]} 7 cap capx,NB (d.nodes++[mk]) capx,[.bs 6 0 2 f.length cap],Ak mk],[]⟩⟩) ?_ ?_
 ·skip
  refine BO ([(0,Ay f),(1,AE dir),(2,Ak n),(3,[.v (.slice none 0 0)]),(4,AE (AB f dir name).1),(5,C7 d),(6,DB f q d 7 cap cap1),(8,[.bs 6 0 2 f.length cap]),(9,Ak mk)]) 16 (h:=?_);refine EH 0 rfl (fun h0 hS=>FD rfl ⟨rfl,rfl⟩) ?_
  first|refine EH 1 rfl (fun h0 hS=>DK (row:=DB f q d 7 cap cap1) rfl (kb hS rfl) hD0 ⟨rfl,rfl⟩) ?_|refine EH 1 rfl (fun h0 hS=>DK rfl (kb hS rfl) rfl ⟨rfl,rfl⟩) ?_
  refine EH 2 rfl (fun h0 hS=>FD rfl ⟨rfl,rfl⟩) ?_
  first|refine EH 3 rfl (fun h0 hS=>DK (row:=DB f q d 7 cap cap1) rfl (kb hS rfl) hD0 ⟨rfl,rfl⟩) ?_|refine EH 3 rfl (fun h0 hS=>DK rfl (kb hS rfl) rfl ⟨rfl,rfl⟩) ?_
  refine EH 4 rfl (fun h0 hS=>FD rfl ⟨rfl,rfl⟩) ?_
  first|refine EH 5 rfl (fun h0 hS=>DK (row:=DB f q d 7 cap cap1) rfl (kb hS rfl) hD0 ⟨rfl,rfl⟩) ?_|refine EH 5 rfl (fun h0 hS=>DK rfl (kb hS rfl) rfl ⟨rfl,rfl⟩) ?_
  refine EH 6 rfl (fun h0 hS=>FD rfl ⟨rfl,rfl⟩) ?_
  first|refine EH 7 rfl (fun h0 hS=>DK (row:=DB f q d 7 cap cap1) rfl (kb hS rfl) hD0 ⟨rfl,rfl⟩) ?_|refine EH 7 rfl (fun h0 hS=>DK rfl (kb hS rfl) rfl ⟨rfl,rfl⟩) ?_
  refine EH 8 rfl (fun h0 hS=>DZ (m:=q) rfl rfl hdq hql ⟨rfl,rfl⟩) ?_;refine EH 9 rfl (fun h0 hS=>FD rfl ⟨rfl,rfl⟩) ?_;refine EH 10 rfl (fun h0 hS=>DK (row:=DB f q d 7 cap cap1) rfl (kb hS rfl) hD0 ⟨rfl,rfl⟩) ?_
  first|refine EH 11 rfl (fun h0 hS=>DK (row:=DB f q d 7 cap cap1) rfl (kb hS rfl) hD0 ⟨rfl,rfl⟩) ?_|refine EH 11 rfl (fun h0 hS=>GE rfl (kb hS rfl) rfl ⟨rfl,rfl⟩) ?_
  refine EH 12 rfl (fun h0 hS=>ML (by repeat (first|exact DenseA.nil _|(apply DenseA.cons;(focus exact rfl);(focus exact rfl);(focus exact rfl);(focus exact rfl))|(apply DenseA.consE;(focus exact rfl);(focus exact rfl);(focus exact rfl)))) rfl rfl rfl rfl ⟨rfl,rfl⟩) ?_;refine c_ 13 rfl (LH rfl rfl rfl (by rw[Mn hcap1];omega) JW (by omega) (by omega) ?_ ?_)
  ·rintro hg row2 bx2 hs hb;obtain rfl:=UP hs hg;obtain rfl:bx2=[_,_,_,_,_,_,_,_,_,_]:=hb.one.2;have hgx:(d.nodes++[mk]).length≤cap1:=by simpa using hg
   refine o_ (h:=?_);refine EH 14 rfl (fun h0 hS=>DZ (m:=q) rfl rfl hdq hql ⟨rfl,rfl⟩) ?_;refine EH 15 rfl (fun h0 hS=>FD rfl ⟨rfl,rfl⟩) ?_;refine Aj 16 rfl (Af rfl rfl rfl rfl rfl rfl (Ul mk hql) (by repeat constructor) ?_);refine o_ (h:=z_ (h:=?_));refine AF ?_
   first|exact⟨_,⟨_,hgx,rfl⟩,EB [0,1,2,3,4,5,6,10,8,9] (fun i hi=>absurd hi (Nat.not_lt_zero i)) (by decide) (.cons _ _ _ _ _ rfl rfl (.cons _ _ _ _ _ rfl rfl (.cons _ _ _ _ _ rfl rfl (.cons _ _ _ _ _ rfl rfl (.cons _ _ _ _ _ rfl rfl (.cons _ _ _ _ _ rfl rfl (.cons _ _ _ _ _ rfl (Kf (by rfl) _ _ _ _ _) (.cons _ _ _ _ _ rfl (JV _ _ _) (.cons _ _ _ _ _ rfl rfl (.cons _ _ _ _ _ rfl rfl .nil)))))))))) (by repeat (first|exact SubK.nil|refine SubK.cons _ _ _ _ rfl (A9 _) ?_))⟩|exact⟨_,⟨_,hgx,rfl⟩,Bl 10 0 (by simp[Ai,Ac,Ab,CZ,Ca,AE,Ak,Ay,C7])⟩
  rintro hg cap3 k bx2 hcp3 hs;rw[show((NB d.nodes cap1).drop 0).take (d.nodes.length * 8)++Ce (.agg (Ak mk))++List.replicate ((cap3 - (d.nodes.length+1)) * 8) AV.any=NB (d.nodes++[mk]) cap3 from UO d.nodes mk cap1 cap3]at hs;obtain⟨rfl,rfl⟩:k=10∧bx2=[_,_,_,_,_,_,_,_,_,_,_]:=hs.eq;have hgx:(d.nodes++[mk]).length≤cap3:=by simpa using hcp3
  refine o_ (h:=?_);refine EH 14 rfl (fun h0 hS=>DZ (m:=q) rfl rfl hdq hql ⟨rfl,rfl⟩) ?_;refine EH 15 rfl (fun h0 hS=>FD rfl ⟨rfl,rfl⟩) ?_;refine Aj 16 rfl (Af rfl rfl rfl rfl rfl rfl (Ul mk hql) (by repeat constructor) ?_);refine o_ (h:=z_ (h:=?_));refine AF ?_;exact⟨_,⟨_,hgx,rfl⟩,EB [0,1,2,3,4,5,6,10,8,9] (fun i hi=>absurd hi (Nat.not_lt_zero i)) (by decide) (.cons _ _ _ _ _ rfl rfl (.cons _ _ _ _ _ rfl rfl (.cons _ _ _ _ _ rfl rfl (.cons _ _ _ _ _ rfl rfl (.cons _ _ _ _ _ rfl rfl (.cons _ _ _ _ _ rfl rfl (.cons _ _ _ _ _ rfl (Kf (by rfl) _ _ _ _ _) (.cons _ _ _ _ _ rfl (JV _ _ _) (.cons _ _ _ _ _ rfl rfl (.cons _ _ _ _ _ rfl rfl .nil)))))))))) (by repeat (first|exact SubK.nil|refine SubK.cons _ _ _ _ rfl (A9 _) ?_))⟩
 rintro t ⟨capx,hcapx,rfl⟩;have hasc2:E6 (d.nodes++[mk]):=List.pairwise_append.2 ⟨hvd.asc,List.pairwise_singleton _ _,fun x hx y hy=>by obtain rfl:=List.mem_singleton.1 hy;rw[hmk];exact hvd.lt x hx⟩;have hn2:(d.nodes++[mk])[i]?=some n0:=by rw[Cm hil];exact hn0
 have hidx2:FV (f.set q ⟨d.next+1,d.nodes++[mk]⟩) dir=(i:Int):=RD hdq (d:=⟨d.next+1,d.nodes++[mk]⟩) (by simp[hql]) hasc2 hn2 hino
 have hf2:FlsB (f.set q ⟨d.next+1,d.nodes++[mk]⟩):=hf.set_ (by have:=hvd.len;simp;omega) (fun m hm=>by
  rcases List.mem_append.1 hm with h|h
  ·have:=hvd.many m h;omega
  obtain rfl:=List.mem_singleton.1 h;rw[hmk];simp[Eo])
 have hmki:mk.ino=d.next:=by rw[hmk];rfl
 have hmk0:(Ak mk)[0+0]?=some (.v (.int .i64 d.next)):=by rw[hmk];rfl
 refine w_ (f_ (h:=l_ (h:=f_ (h:=l_ (h:=?_)))));refine A6 rfl (DZ (m:=q) rfl rfl hdq hql ?_);refine f_ (h:=?_);refine A6 rfl (DK rfl rfl (Zg hql) ?_);refine A6 rfl (KL rfl rfl (by dsimp only;omega) ?_);refine A6 rfl (DZ (m:=q) rfl rfl hdq hql ?_);refine f_ (h:=?_);refine KQ (Af rfl rfl rfl rfl rfl rfl (Qj (d':=⟨d.next+1,d.nodes++[mk]⟩) (j':=7) (cap1':=capx) (k:=0) (cs:=[.v (.int .i64 (d.next+1))]) hql (by repeat constructor) (by simp)) (by repeat constructor) ?_);refine e_ (w_ (l_ (h:=l_ (h:=m_ (h:=f_ (h:=l_ (h:=?_)))))));refine A6 rfl (Bf [6,7] rfl (.cons _ _ _ _ _ rfl (A9 _) (.cons _ _ _ _ _ rfl (A9 _) (.cons _ _ _ _ _ rfl (A9 _) (.cons _ _ _ _ _ rfl (LeA.of_eq (show AV.v (.int .i64 mk.ino)=_ by rw[hmki])) .nil)))) (by decide) (.cons _ _ _ _ _ rfl (GM (by rfl) _ _ _ _ _) (.cons _ _ _ _ _ rfl (Fu _ _ _) .nil)) (Uj f q ⟨d.next+1,d.nodes++[mk]⟩ n0 i dir name d.next cap capx hf2 hql hdq hidx2 hn2 hcap hcapx) ?_);rintro r bc tc ⟨rfl,rfl,rfl⟩;refine⟨rfl,_,(Lb (Be rfl) (Be rfl) (by decide) f q ⟨d.next+1,d.nodes++[mk]⟩ (entS (d.nodes++[mk]) i n0 name d.next) cap capx capx:Back _ [6,7] _ [_,_,_,_,_,_,_,_,_,_]),?_⟩;refine e_ (?_);refine BE (fun t=>t=⟨look [(8, .bp 3 0),(9, .sl 7 [CY (dir,name,(0,0),(dir.1,d.next))] none),(10, .v (.int .i64 0))],⟨[Ay f,AE dir,Ak n,Ay (f.set q ⟨d.next+1,entS (d.nodes++[mk]) i n0 name d.next⟩)],[]⟩⟩) ?_ ?_
 ·skip
  refine BO ([(0,Ay f),(1,AE dir),(2,Ak n),(4,AE (AB f dir name).1),(5,C7 d),(8,[.bs 6 0 2 f.length cap]),(9,Ak mk)]) 13 (h:=AM 0 (h:=AM 1 (h:=AO 2 (h:=?_))));refine Bz 3 rfl (fun _ hS=>FF (y:= .agg (AE (0,0))) (DD ⟨rfl,rfl⟩) (by repeat (first|exact A9 _|exact LeA.nil _|exact LeL.refl _|refine LeA.agg ⟨rfl,rfl⟩|refine LeA.tup ⟨rfl,rfl⟩|exact LeL.nil|refine LeL.cons ⟨rfl,rfl⟩ ⟨rfl,rfl⟩|exact LeA.any _)) ⟨rfl,rfl⟩) ?_;refine AG 4 (h:=AM 5 (h:=AG 6 (h:=?_)));refine Bz 7 rfl (fun _ hS=>DK (row:=Ak mk) rfl (kb hS rfl) hmk0 ⟨rfl,rfl⟩) ?_;refine Hb 8 (h:=?_);refine c_ 9 rfl (AK (KY dir name (0,0) (dir.1,d.next)) ?_);rintro r rfl;refine o_ (h:=?_);refine Aj 10 rfl (Af rfl rfl rfl rfl rfl rfl (by repeat constructor) (by repeat constructor) ?_);refine o_ (h:=BK 11 (h:=BK 12 (h:=z_ (h:=?_))));refine AF ?_;exact⟨_,rfl,FJ 4 2 rfl (congrArg (fun x=>[Ay f,AE dir,Ak n,x]) (J1 (k:=0) (i:=6) (j:=7) (d:=⟨d.next+1,d.nodes++[mk]⟩) (d':=⟨d.next+1,entS (d.nodes++[mk]) i n0 name d.next⟩) hql rfl (GQ _ _ _ _ _) hcap (by rw[GQ];exact hcapx) (Be rfl) (Be rfl) rfl rfl)) (.cons _ _ _ _ rfl (A9 _) (.cons _ _ _ _ rfl (A9 _) (.cons _ _ _ _ rfl (A9 _) .nil)))⟩
 rintro t rfl;refine A4 (?_);refine AJ ?_;rw[List.length_map]at hc5;rw[DW,if_neg (by omega),if_neg hpn,if_neg (by omega),hatI];simp only;rw[if_neg (by rw[hc7];simp;omega),hdq,Int.toNat_natCast,←hino,←Lc hvd hn0,hino,←hmk,show entS d.nodes i n0 name d.next++[mk]=entS (d.nodes++[mk]) i n0 name d.next by unfold entS;rw[List.set_append_left _ _ hil],←hdq];rfl
end
theorem RE(f:AU)(hf:FlsB f):AFn prog 73 [.agg (Ay f)] (fun r=>r= .agg (Ay f)):=by
 intro w St bl vs hr hv;have hbl:bl=[]:=by have:=hr.bxlen;simpa using this
 subst hbl;simp only[Aa]at hv;obtain⟨z,zs,rfl,hz,rfl⟩:=hv;have hz':At St w (.agg (Ay f)) z:=by have:=Fn _ _ hz;simpa[Cy,Fd,Ay]using this
 have hF:=U7 hr.stlt hf hz';refine Calls.mono (Old.Copy_any z f w hF) ?_;rintro e w' ⟨dv,L,rfl,hD,hL,hB⟩;have hsz:=hB.size;obtain⟨d1,d2,d3,d4⟩:=hD;let St':Nat→Nat→Prop:=fun b o=>St b o∨(w.heap.size≤b∧b<w'.heap.size);let G':Gh:=⟨St',[],[]⟩;have hfresh:∀{α:Type} {sz:Nat} {cell:α→Nat→Value} {E:TypeId} {v:Value} {xs:List α},Old.OwnL sz cell E w' w.heap.size v xs→∀b,v.ownBlock=some b→∀o,St' b o:=fun h b hb o=> .inr (h.lt b hb)
 have hents:∀(y:Nod×Value),Old.OwnL 2 Old.entCell 138 w' w.heap.size y.2 y.1.entries→At St' w' (.sl 2 (y.1.entries.map Cf) none) y.2:=by
  intro y hy;refine Mj hy (hfresh hy) (fun _ _=>rfl) fun e _ j av hj=>?_
  match j,hj with
  |0,hj=>injection hj with hj;subst hj;simp only[At];rfl
  |1,hj=>injection hj with hj;subst hj;simp only[At];rfl
 have hnod:∀(y:Nod×Value),Old.OwnL 2 Old.entCell 138 w' w.heap.size y.2 y.1.entries→∀j av,(Ak y.1)[j]?=some av→At St' w' av (Old.nodCell y j):=by
  intro y hy j av hj
  match j,hj with
  |0,hj=>injection hj with hj;subst hj;simp only[At];rfl
  |1,hj=>injection hj with hj;subst hj;simp only[At];rfl
  |2,hj=>injection hj with hj;subst hj;simp only[At];rfl
  |3,hj=>injection hj with hj;subst hj;simp only[At];rfl
  |4,hj=>injection hj with hj;subst hj;simp only[At];rfl
  |5,hj=>injection hj with hj;subst hj;simp only[At];rfl
  |6,hj=>injection hj with hj;subst hj;simp only[At];rfl
  |7,hj=>injection hj with hj;subst hj;exact hents y hy
  |j+8,hj=>exact absurd hj (by simp[Ak])
 have hdev:At St' w' (.sl 2 (L.map fun x=>C7 (Old.dvcOf x)) none) dv:=by
  refine Mj d1 (hfresh d1) (fun _ _=>rfl) fun x hx j av hj=>?_;obtain⟨f1,f2,f3⟩:=(d2 x hx).1
  match j,hj with
  |0,hj=>injection hj with hj;subst hj;simp only[At];rfl
  |1,hj=>
    injection hj with hj;subst hj;have key:=Mj f1 (St:=St') (hfresh f1) (enc:=fun y=>Ak y.1) (fun _ _=>rfl) fun z hz j av hj=>hnod z (f2 z hz).1 j av hj;have e:((Old.dvcOf x).nodes.map Ak)=x.2.2.map fun y=>Ak y.1:=by simp[Old.dvcOf]
    rw[e];exact key
  |j+2,hj=>exact absurd hj (by simp[C7])
 have hst:∀b o,St b o→b<w.heap.size:=hr.stlt;refine⟨.agg (Ay f),[],[],G',⟨rfl,rfl,rfl⟩,⟨?_,?_,?_,?_,rfl,?_,?_,?_,?_,rfl,?_,?_,?_⟩,⟨?_,?_,?_⟩,?_⟩
 ·intro i b hi;simp at hi
 ·exact⟨hB.os,hB.tape,hB.output,hB.size,fun k hk _=>hB.block k hk⟩
 ·rintro b o (h|h)
  ·have:=hst b o h;omega
  exact h.2
 ·rintro b o (h|h)
  ·exact .inl h
  exact .inr h.1
 ·show([]:List Nat).Nodup;simp
 ·intro b hb;simp[G']at hb
 ·intro b hb;simp[G']at hb
 ·intro i b row hi;simp[G']at hi
 ·intro g n u T sz rows hg;simp[G']at hg
 ·intro g n u hg;simp[G']at hg
 ·intro g g' n n' u u' hg;simp[G']at hg
 ·exact fun b o h=>⟨.inl h,hB.cell (p:=⟨b,o,none⟩) (hst b o h)⟩
 ·intro i b hi;simp at hi
 ·intro g n u hg;simp at hg
 refine GD _ _ ?_;unfold Ay;rw[←hL,Old.flsOf,List.map_map];simp only[At,Bd];have hdev2:At St' w' (.sl 2 (L.map (C7 ∘ Old.dvcOf)) none) dv:=hdev;simp only[At]at hdev2;exact⟨[dv],rfl,dv,[],rfl,hdev2,rfl⟩
def NA(f:AU)(a top:AA):Bool:=Hy f top 17 a
def Fv:List Int:=[2,20,22]
def GR(a b:Int):Int:=if a=2∨b=2 then 2 else if a=20∨b=20 then 20 else if a=22∨b=22 then 22 else 0
theorem Um{a b:Int}{j:Nat}{x:Int}(hx:Fv[j]?=some x)(ha:∀i y,i<j→Fv[i]?=some y→¬(a=y∨b=y))(h:a=x∨b=x):GR a b=x:=by
 unfold GR
 match j,hx with
 |0,hx=>injection hx with hx;subst hx;rw[if_pos h]
 |1,hx=>
   injection hx with hx;subst hx;rw[if_neg (ha 0 2 (by omega) rfl),if_pos h]
 |2,hx=>
   injection hx with hx;subst hx;rw[if_neg (ha 0 2 (by omega) rfl),if_neg (ha 1 20 (by omega) rfl),if_pos h]
 |j+3,hx=>exact absurd hx (by simp[Fv])
theorem Un(f:AU)(a:AA)(name:AD):CC f a name=0∨CC f a name=2∨CC f a name=20∨CC f a name=22:=by
 unfold CC;split
 ·exact .inr (.inl rfl)
 split
 ·split
  ·exact .inl rfl
  exact .inr (.inr (.inr rfl))
 exact .inr (.inr (.inl rfl))
theorem bJ{a b:Int}(ha:∀i y,i<3→Fv[i]?=some y→¬(a=y∨b=y)):GR a b=0:=by
 unfold GR;rw[if_neg (ha 0 2 (by omega) rfl),if_neg (ha 1 20 (by omega) rfl),if_neg (ha 2 22 (by omega) rfl)]
theorem NC{f:AU}{x y:AA}{name name2:AD}(h:GR (CC f x name) (CC f y name2)=0):CC f x name=0∧CC f y name2=0:=by
 unfold GR at h;split at h
 ·omega
 split at h
 ·omega
 split at h
 ·omega
 rename_i h1 h2 h3;have a:=Un f x name;have b:=Un f y name2;omega
def Dp(f:AU)(src to:AA)(a o:AA)(e:Int):Int:=
 if e=0 then(if AT f o=true∧AT f a=false then 21 else if AT f o=false∧AT f a=true then 20 else if AT f o=true∧JR f o=false then 39 else 0)else if JQ f to=true∧src≠to then 28 else 0
def Gs(ns:List Nod)(src:AA)(name:AD)(to:AA)(name2:AD)(a o:AA)(e:Int):List Nod:=
 if e=0 then Bu (BR (BR ns src.2 name 0) to.2 name2 a.2) o.2 else BR (BR ns src.2 name 0) to.2 name2 a.2
def FZ(ns:List Nod)(i:Int)(p:Int)(b:Bool):List Nod:=if b=true then CU ns i (fun n=>{n with parent:=p})else ns
def Dg(f:AU)(src:AA)(name:AD)(to:AA)(name2:AD):Cp:=
 if GR (CC f src name) (CC f to name2)≠0 then([],[],GR (CC f src name) (CC f to name2))else if(AB f src name).2≠0 then([],[],(AB f src name).2)else if src.1≠to.1 then([],[],18)else
 if AT f (AB f src name).1=true∧NA f to (AB f src name).1=true then([],[],22)else if(AB f to name2).2=0∧(AB f to name2).1=(AB f src name).1 then(f,[],0)else
 if Dp f src to (AB f src name).1 (AB f to name2).1 (AB f to name2).2≠0 then([],[],Dp f src to (AB f src name).1 (AB f to name2).1 (AB f to name2).2)else
 (Ez f to.1.toNat fun ns=>FZ (Gs ns src name to name2 (AB f src name).1 (AB f to name2).1 (AB f to name2).2) (AB f src name).1.2 to.2 (AT f (AB f src name).1),[(src,name,(AB f src name).1,(0,0)),(to,name2,(AB f to name2).1,(AB f src name).1)],0)
theorem bK(f:AU):LeA (.tup [.agg (Ay f), .v (.slice none 0 0), .v (.int .i64 0)]) (CV (f,[],0)):=LeA.tup (.cons (A9 _) (.cons (LeA.nil 7) (.cons (A9 _) .nil)))
theorem bL{n:Nat}{bx:List (List AV)}{k i j:Nat}{f:AU}{q:Nat}{d:Dvc}{cap cap0 cap1:Nat}(hq:q<f.length)(hc:f.length≤cap)(hc1:d.nodes.length≤cap1)(hni:n≤i)(hnj:n≤j)
    (hi:bx[i]?=some (DB f q d j cap cap1)) (hj:bx[j]?=some (NB d.nodes cap1)):E3 (Dn n bx (k+2)) (.agg [.bs i 0 2 f.length cap0])= .agg (Ay (f.set q d)):=by
 have key:=K0 (n:=n) (bx:=bx) (k:=k) (i:=i) (j:=j) (f:=f.set q d) (K:=q) (d:=d) (cap:=cap) (cap0:=cap0) (cap1:=cap1) (by simp[hq]) (by simpa using hc) hc1 hni hnj (by rw[hi,Qk]) hj;rw[List.length_set]at key;exact key
theorem bM{n:Nat}{bx:List (List AV)}{k j sz cap:Nat}{rows:List (List AV)}(hn:n≤j)(hj:bx[j]?=some (CT sz cap rows))(hp:∀r∈rows,∀x∈r,∃v,x= .v v):Dn n bx (k+1) j=some (CT sz cap rows):=by
 have:Nat.blt j n=false:=by rw[←Bool.not_eq_true,Nat.blt_eq];omega
 simp only[Dn,this,hj,Option.map_some,Ml];rw[Mm _ rfl]
 congr 2
 conv=>rhs;rw[←List.map_id rows]
 apply List.map_congr_left;intro r hr
 conv=>rhs;rw[id,←List.map_id r]
 apply List.map_congr_left;intro x hx;obtain⟨v,rfl⟩:=hp r hr x hx;rfl
theorem bO(l:List BW):∀r∈l.map CY,∀x∈r,∃v,x= .v v:=by
 intro r hr x hx;obtain⟨c,_,rfl⟩:=List.mem_map.1 hr;simp[CY]at hx;rcases hx with h|h|h|h|h|h|h<;>exact⟨_,h⟩
theorem bQ(l:List BW):∀r∈l.map CY,r.length=7:=by
 intro r hr;obtain⟨c,_,rfl⟩:=List.mem_map.1 hr;rfl
theorem bR{bx:List (List AV)}(bc:List (List AV))(h:∀r∈bc,∀x∈r,∃v,x= .v v):Back bx [] bc (bx++bc):=by
 refine⟨by simp,fun i row _ h=>?_,fun k i row h=>by simp at h,fun k row hk=>?_⟩
 ·rw[Cm (As.1 h).1];exact h
 rw[Dj (by omega),show bx.length+k - bx.length=k by omega];simp only[List.length_nil,Nat.zero_add]at hk;rw[hk,Mk]
 congr 1
 conv=>lhs;rw[←List.map_id row]
 apply List.map_congr_left;intro x hx;obtain⟨v,rfl⟩:=h row (Al hk) x hx;rfl
theorem RF{d:Dvc}(hd:E6 d.nodes){i:Nat}{n0:Nod}(hn:d.nodes[i]?=some n0)(name:AD)(ino:Int):entS d.nodes i n0 name ino=BR d.nodes n0.ino name ino:=by
 unfold entS BR;rw[←N6 hd hn];rfl
section
theorem bS(d:AA)(name:AD)(o n:AA):ACall prog 79 [.agg (AE d), .v (.string name), .agg (AE o), .agg (AE n)] [] (fun r b t=>t=[]∧r= .bs 3 0 7 1 1∧b=[AE d,AE o,AE n,CY (d,name,o,n)]):=by
 refine enter Tryz.func79 rfl rfl rfl rfl rfl 4 rfl ?_;refine w_ (b_ (h:=b_ (h:=b_ (h:=a_ (h:=e_ (w_ (l_ (h:=m_ (h:=l_ (h:=l_ (h:=AX (h:=?_))))))))))));refine A6 rfl (Yj (k:=3) rfl rfl rfl rfl (by repeat constructor) ?_);refine a_ (h:=e_ (A4 (?_)));refine Am (r:= .bs 3 0 7 1 1) none (h5:=(A9 _)) (h6:=⟨rfl,rfl,rfl⟩)
end
theorem Uo{n:Nat}{g:Nat→Option (List AV)}{j sz m cap0 cap:Nat}{rows:List (List AV)}(hn:n≤j)(hg:g j=some (CT sz cap rows))(hr:∀r∈rows,r.length=sz)(hm:m=rows.length)(hc:rows.length≤cap):FH n g (.bs j 0 sz m cap0)= .sl sz rows none:=by
 have:Nat.blt j n=false:=by rw[←Bool.not_eq_true,Nat.blt_eq];omega
 simp only[FH,this];exact Qf hg hr hm hc
theorem bT(a b c:AA)(x:BW):∀r∈[AE a,AE b,AE c,CY x],∀y∈r,∃v,y= .v v:=by
 intro r hr y hy;simp only[List.mem_cons,List.not_mem_nil,or_false]at hr;rcases hr with rfl|rfl|rfl|rfl
 ·simp[AE]at hy;rcases hy with h|h<;>exact⟨_,h⟩
 ·simp[AE]at hy;rcases hy with h|h<;>exact⟨_,h⟩
 ·simp[AE]at hy;rcases hy with h|h<;>exact⟨_,h⟩
 simp[CY]at hy;rcases hy with h|h|h|h|h|h|h<;>exact⟨_,h⟩
theorem Up{j:Nat}{x:Int}(hx:Fv[j]?=some x):x≠0:=by
 match j,hx with
 |0,hx=>injection hx with hx;omega
 |1,hx=>injection hx with hx;omega
 |2,hx=>injection hx with hx;omega
 |j+3,hx=>exact absurd hx (by simp[Fv])
theorem RG{ns:List Nod}{i k:Nat}{n0 m:Nod}(hi:ns[i]?=some n0)(hk:ns[k]?=some m)(name:AD)(ino:Int):∃m',(entS ns i n0 name ino)[k]?=some m'∧m'.ino=m.ino∧m'.entries.length≤m.entries.length+1:=by
 unfold entS;rw[List.getElem?_set];split
 ·rename_i e;subst e;rw[hi]at hk;injection hk with hk;subst hk;exact⟨{n0 with entries:=Ch n0.entries name ino},by rw[if_pos (As.1 hi).1],rfl,RA _ _ _⟩
 exact⟨m,hk,rfl,by omega⟩
theorem Uq{ns:List Nod}{i:Nat}{n0:Nod}(hi:ns[i]?=some n0){name:AD}{ino:Int}{m':Nod}(hm:m'∈entS ns i n0 name ino):∃m∈ns,m'.ino=m.ino∧m'.entries.length≤m.entries.length+1:=by
 rcases List.mem_or_eq_of_mem_set hm with h|h
 ·exact⟨m',h,rfl,by omega⟩
 subst h;exact⟨n0,Al hi,rfl,RA _ _ _⟩
theorem Ur{ns:List Nod}(h:E6 ns){i:Nat}{n0:Nod}(hn:ns[i]?=some n0)(name:AD)(ino:Int):E6 (entS ns i n0 name ino):=by
 have:=RF (d:=⟨0,ns⟩) h hn name ino;simp only at this;rw[this];exact LZ h _ _ _
theorem bU(f:AU)(q:Nat)(d d':Dvc)(n:Nod)(i:Nat)(a:AA)(name:AD)(ino:Int)(cap cap1:Nat)(hf:FlsB (f.set q d'))(hq:q<f.length)(ha:a.1=(q:Int))(hi:FV (f.set q d') a=(i:Int))(hn:d'.nodes[i]?=some n)(hcap:f.length≤cap)(hcap1:d'.nodes.length≤cap1)(hnx:d'.next=d.next)(hl:d'.nodes.length=d.nodes.length):
    ACall prog 76 [.agg [.bs 0 0 2 f.length cap], .agg (AE a), .v (.string name), .v (.int .i64 ino)] [DB f q d 1 cap cap1,NB d'.nodes cap1] (fun r b t=>t=[]∧r= .tup []∧b=[DB f q ⟨d.next,entS d'.nodes i n name ino⟩ 1 cap cap1,NB (entS d'.nodes i n name ino) cap1]):=by
 have key:=Uj f q d' n i a name ino cap cap1 hf hq ha hi hn hcap hcap1;have e1:DB f q d' 1 cap cap1=DB f q d 1 cap cap1:=by unfold DB FW Gp;rw[hnx,hl]
 have e2:DB f q d 1 cap cap1=DB f q ⟨d.next,entS d'.nodes i n name ino⟩ 1 cap cap1:=by unfold DB FW Gp;rw[GQ,hl]
 rw[e1]at key;exact key.mono fun r b t ⟨h1,h2,h3⟩=>⟨h1,h2,by rw[h3,e2]⟩
theorem bV{f:AU}(hv:FlsV f){q:Nat}{d:Dvc}(hq:f[q]?=some d){i i2:Nat}{n1 n2:Nod}(hn1:d.nodes[i]?=some n1)(hn2:d.nodes[i2]?=some n2)(name name2:AD)(ai:Int)(ha:∃m∈d.nodes,m.ino=ai):
    ∃(X1 X2:List Nod) (m2:Nod),X1=entS d.nodes i n1 name 0∧X1[i2]?=some m2∧m2.ino=n2.ino∧X2=entS X1 i2 m2 name2 ai∧E6 X1∧E6 X2∧X1.length=d.nodes.length∧X2.length=d.nodes.length∧X2=BR (BR d.nodes n1.ino name 0) n2.ino name2 ai∧
     FlsB (f.set q ⟨d.next,X1⟩)∧FlsB (f.set q ⟨d.next,X2⟩)∧(∀m∈X2,m.entries.length≤1000)∧(∃m∈X2,m.ino=1)∧∃m∈X2,m.ino=ai:=by
 have hd:=hv.vd d (Al hq);obtain⟨m2,hm2,hi2,hl2⟩:=RG hn1 hn2 name 0;have e1:=RF hd.asc hn1 name 0;have a1:=Ur hd.asc hn1 name 0;have e2:=RF (d:=⟨0,entS d.nodes i n1 name 0⟩) a1 hm2 name2 ai;simp only at e2;have a2:=Ur a1 hm2 name2 ai
 have hb2:∀m∈entS (entS d.nodes i n1 name 0) i2 m2 name2 ai,m.entries.length≤1000:=fun m hm=>by
  obtain⟨m',h1,_,h2⟩:=Uq hm2 hm;obtain⟨m'',h3,_,h4⟩:=Uq hn1 h1;have:=hd.many m'' h3;omega
 have hmem:∀x:Int,(∃m∈d.nodes,m.ino=x)→∃m∈entS (entS d.nodes i n1 name 0) i2 m2 name2 ai,m.ino=x:=by
  rintro x ⟨m,hm,rfl⟩;obtain⟨k,hk⟩:=List.getElem?_of_mem hm;obtain⟨m',h1,h2,_⟩:=RG hn1 hk name 0;obtain⟨m'',h3,h4,_⟩:=RG hm2 h1 name2 ai;exact⟨m'',Al h3,h4.trans h2⟩
 obtain⟨r,hr,hr1,_⟩:=hd.rootMem;refine⟨_,_,m2,rfl,hm2,hi2,rfl,a1,a2,GQ _ _ _ _ _,by rw[GQ,GQ],by rw[e2,e1,hi2],hv.entS hq hn1 name 0,hv.b.set_ ?_ hb2,hb2,hmem 1 ⟨r,hr,hr1⟩,hmem ai ha⟩;show(entS _ _ _ _ _).length≤1000;rw[GQ,GQ];have:=hd.len;omega
section
theorem bW(f:AU)(src:AA)(name:AD)(to:AA)(name2:AD)(hv:FlsV f)(hs:name.size≤100000)(hs2:name2.size≤100000):AFn prog 39 [.agg (Ay f), .agg (AE src), .v (.string name), .agg (AE to), .v (.string name2)] (fun r=>r=CV (Dg f src name to name2)):=by
 have hf:=hv.b;have P1:=LM f src name hf hs;have P2:=LM f to name2 hf hs2;have L1:=Gm f src name hf;have L2:=Gm f to name2 hf;obtain⟨pa,hpa⟩:∃x,CC f src name=x:=⟨_,rfl⟩;obtain⟨pb,hpb⟩:∃x,CC f to name2=x:=⟨_,rfl⟩;obtain⟨⟨A,e1⟩,hl1⟩:∃x,AB f src name=x:=⟨_,rfl⟩;obtain⟨⟨O,e2⟩,hl2⟩:∃x,AB f to name2=x:=⟨_,rfl⟩;rw[hpa]at P1;rw[hpb]at P2;rw[hl1]at L1;rw[hl2]at L2;simp only at L1 L2
 have hRen:Dg f src name to name2=(if GR pa pb≠0 then([],[],GR pa pb)else if e1≠0 then([],[],e1)else if src.1≠to.1 then([],[],18)else
     if AT f A=true∧NA f to A=true then([],[],22)else if e2=0∧O=A then(f,[],0)else if Dp f src to A O e2≠0 then([],[],Dp f src to A O e2)else
     (Ez f to.1.toNat fun ns=>FZ (Gs ns src name to name2 A O e2) A.2 to.2 (AT f A),[(src,name,A,(0,0)),(to,name2,O,A)],0)):=by
  unfold Dg;rw[hpa,hpb,hl1,hl2]
 have hol:Fv.length=3:=rfl;refine enter Tryz.func39 rfl rfl rfl rfl rfl 0 rfl ?_;refine w_ (b_ (h:=b_ (h:=b_ (h:=AZ (h:=a_ (h:=a_ (h:=e_ (q_ (E4 10 (h:=AM 0 (h:=AM 1 (h:=AO 2 (h:=AM 4 (h:=AM 5 (h:=AO 6 (h:=?_))))))))))))))));refine c_ 3 rfl (AK (P1) ?_);rintro r rfl;refine o_ (h:=?_);refine c_ 7 rfl (AK (P2) ?_);rintro r rfl;refine o_ (h:=BK 8 (h:=BK 9 (h:=z_ (h:=t_ (w_ (Bw (h:=a_ (h:=e_ (q_ (w_ (a_ (h:=e_ (Av (?_))))))))))))));refine Bq (fun m t=>∃j:Nat,j≤Fv.length∧m=Fv.length - j∧(∀i y,i<j→Fv[i]?=some y→¬(pa=y∨pb=y))∧t=⟨look [(2, .v (.string name)),(4, .v (.string name2)),(5, .bp 0 0),(6, .bp 1 0),(8, .bp 2 0),(10, .bp 3 0),(13, .v (.int .i64 pa)),(14, .v (.int .i64 pb)),(15, .sl 1 (Fv.map CF) none),(16, .v (.int .i64 (j:Int)))],⟨[Ay f,AE src,AE to,[.v (.slice none 0 0)]],[]⟩⟩) (Fv.length) ((wk 4 0)) (⟨0,BJ _,rfl,fun i y hi=>by omega,rfl⟩) ?_;rintro m t ⟨j,hj,rfl,ha,rfl⟩;refine q_ (w_ (m_ (h:=m_ (h:=n_ (h:=BS (h:=e_ (?_)))))));refine A8 rfl (fun hb1=>?_) (fun hb1=>?_)
 ·have hc1:=bp hb1;obtain⟨hlt,x,hx,hrow, -⟩:=Cu CF (l:=Fv) hc1;refine AN (q_ (Av (w_ (m_ (h:=m_ (h:=m_ (h:=i_ (h:=l_ (h:=AR (h:=m_ (h:=?_)))))))))));refine B5 false rfl rfl (fun hb2=>?_) (fun hb2=>?_)
  ·have hc2:=bp hb2;refine A3 (h:=A3 (h:=A3 (h:=A3 (h:=A3 (h:=A3 (h:=Ag (h:=e_ (C2 (h:=q_ (?_))))))))));refine L6 (fun _=>True) 8 (by kernel_rfl) ?_;refine CQ (i:=0) rfl rfl (by kernel_rfl) (by first|rfl|exact Ap rfl rfl (C0 ‹_›)|exact Ap rfl rfl (C1 ‹_›)|exact Ap rfl rfl (by simp[*])) (fun h0 hS=>DD ⟨rfl,rfl⟩) trivial ?_;refine CQ (i:=1) rfl rfl (by kernel_rfl) (by first|rfl|exact Ap rfl rfl (C0 ‹_›)|exact Ap rfl rfl (C1 ‹_›)|exact Ap rfl rfl (by simp[*])) (fun h0 hS=>FT rfl ⟨rfl,rfl⟩) trivial ?_;refine CQ (i:=2) rfl rfl (by kernel_rfl) (by first|rfl|exact Ap rfl rfl (C0 ‹_›)|exact Ap rfl rfl (C1 ‹_›)|exact Ap rfl rfl (by simp[*])) (fun h0 hS=>FT rfl ⟨rfl,rfl⟩) trivial ?_;refine CQ (i:=3) rfl rfl (by kernel_rfl) (by first|rfl|exact Ap rfl rfl (C0 ‹_›)|exact Ap rfl rfl (C1 ‹_›)|exact Ap rfl rfl (by simp[*])) (fun h0 hS=>Ci rfl rfl rfl (by first|assumption|rfl) ⟨rfl,rfl⟩) trivial ?_;refine CQ (i:=4) rfl rfl (by kernel_rfl) (by first|rfl|exact Ap rfl rfl (C0 ‹_›)|exact Ap rfl rfl (C1 ‹_›)|exact Ap rfl rfl (by simp[*])) (fun h0 hS=>KK rfl rfl ⟨rfl,rfl⟩) trivial ?_;refine Aj 5 rfl (Af rfl rfl rfl rfl rfl rfl (by repeat constructor) (by repeat constructor) ?_);refine⟨.inr trivial,?_⟩;refine CQ (i:=6) rfl rfl (by kernel_rfl) (by first|rfl|exact Ap rfl rfl (C0 ‹_›)|exact Ap rfl rfl (C1 ‹_›)|exact Ap rfl rfl (by simp[*])) (fun h0 hS=>Fe rfl ⟨rfl,rfl⟩) trivial ?_;refine CQ (i:=7) rfl rfl (by kernel_rfl) (by first|rfl|exact Ap rfl rfl (C0 ‹_›)|exact Ap rfl rfl (C1 ‹_›)|exact Ap rfl rfl (by simp[*])) (fun h0 hS=>Fe rfl ⟨rfl,rfl⟩) trivial ?_;refine z_ (h:=t_ (A4 (AY (A7 (A7 (AY (A7 (?_))))))));refine Am (r:=CV (Dg f src name to name2)) none (h5:=?_) (h6:=⟨rfl,rfl,rfl⟩);rw[hRen,show GR pa pb=x from Um hx ha (.inl hc2),if_pos (Up hx)];exact Df _
  have hc2:=bp hb2;refine m_ (h:=m_ (h:=m_ (h:=i_ (h:=l_ (h:=AR (h:=Ar (h:=e_ (?_))))))));refine A8 rfl (fun hb3=>?_) (fun hb3=>?_)
  ·have hc3:=bp hb3;refine q_ (?_);refine L6 (fun _=>True) 8 (by kernel_rfl) ?_;refine CQ (i:=0) rfl rfl (by kernel_rfl) (by first|rfl|exact Ap rfl rfl (C0 ‹_›)|exact Ap rfl rfl (C1 ‹_›)|exact Ap rfl rfl (by simp[*])) (fun h0 hS=>DD ⟨rfl,rfl⟩) trivial ?_;refine CQ (i:=1) rfl rfl (by kernel_rfl) (by first|rfl|exact Ap rfl rfl (C0 ‹_›)|exact Ap rfl rfl (C1 ‹_›)|exact Ap rfl rfl (by simp[*])) (fun h0 hS=>FT rfl ⟨rfl,rfl⟩) trivial ?_;refine CQ (i:=2) rfl rfl (by kernel_rfl) (by first|rfl|exact Ap rfl rfl (C0 ‹_›)|exact Ap rfl rfl (C1 ‹_›)|exact Ap rfl rfl (by simp[*])) (fun h0 hS=>FT rfl ⟨rfl,rfl⟩) trivial ?_;refine CQ (i:=3) rfl rfl (by kernel_rfl) (by first|rfl|exact Ap rfl rfl (C0 ‹_›)|exact Ap rfl rfl (C1 ‹_›)|exact Ap rfl rfl (by simp[*])) (fun h0 hS=>Ci rfl rfl rfl (by first|assumption|rfl) ⟨rfl,rfl⟩) trivial ?_;refine CQ (i:=4) rfl rfl (by kernel_rfl) (by first|rfl|exact Ap rfl rfl (C0 ‹_›)|exact Ap rfl rfl (C1 ‹_›)|exact Ap rfl rfl (by simp[*])) (fun h0 hS=>KK rfl rfl ⟨rfl,rfl⟩) trivial ?_;refine Aj 5 rfl (Af rfl rfl rfl rfl rfl rfl (by repeat constructor) (by repeat constructor) ?_);refine⟨.inr trivial,?_⟩;refine CQ (i:=6) rfl rfl (by kernel_rfl) (by first|rfl|exact Ap rfl rfl (C0 ‹_›)|exact Ap rfl rfl (C1 ‹_›)|exact Ap rfl rfl (by simp[*])) (fun h0 hS=>Fe rfl ⟨rfl,rfl⟩) trivial ?_;refine CQ (i:=7) rfl rfl (by kernel_rfl) (by first|rfl|exact Ap rfl rfl (C0 ‹_›)|exact Ap rfl rfl (C1 ‹_›)|exact Ap rfl rfl (by simp[*])) (fun h0 hS=>Fe rfl ⟨rfl,rfl⟩) trivial ?_;refine z_ (h:=t_ (A4 (AY (A7 (A7 (AY (A7 (?_))))))));refine Am (r:=CV (Dg f src name to name2)) none (h5:=?_) (h6:=⟨rfl,rfl,rfl⟩);rw[hRen,show GR pa pb=x from Um hx ha (.inr hc3),if_pos (Up hx)];exact Df _
  have hc3:=bp hb3;refine BM (B8 (t_ (AQ (m_ (h:=BH (h:=a_ (h:=AP (?_))))))));refine AF ?_;refine⟨_,_,?_,⟨j+1,hlt,rfl,EP hx ha (not_or.2 ⟨hc2,hc3⟩),rfl⟩,(wk 4 0)⟩;omega
 have hc1:=bp hb1;have e3:=D0 CF (l:=Fv) hj hc1;subst e3;have hord:GR pa pb=0:=bJ ha;obtain⟨hpl1,hpl2⟩:=NC (f:=f) (x:=src) (y:=to) (name:=name) (name2:=name2) (by rw[hpa,hpb];exact hord);refine BX (Aw (Aw (BY (t_ (w_ (l_ (h:=l_ (h:=m_ (h:=?_)))))))));refine A6 rfl (AK (L1) ?_);rintro r rfl;refine m_ (h:=x_ (h:=x_ (h:=AZ (h:=s_ (h:=a_ (h:=e_ (q_ (w_ (m_ (h:=BV (h:=e_ (?_))))))))))));refine A8 rfl (fun hb4=>?_) (fun hb4=>?_)
 ·have hc4:=bp hb4;refine w_ (AX (h:=m_ (h:=s_ (h:=a_ (h:=a_ (h:=e_ (A4 (A7 (?_)))))))));refine Am (r:=CV (Dg f src name to name2)) none (h5:=?_) (h6:=⟨rfl,rfl,rfl⟩);rw[hRen,if_neg (by rw[hord];simp),if_pos hc4];exact Df _
 have hc4:=bp hb4;have he1:e1=0:=by omega
 refine AN (q_ (w_ (f_ (h:=l_ (h:=f_ (h:=l_ (h:=BV (h:=e_ (?_)))))))));refine A8 rfl (fun hb5=>?_) (fun hb5=>?_)
 ·have hc5:=bp hb5;refine w_ (AX (h:=s_ (h:=a_ (h:=a_ (h:=e_ (A4 (A7 (?_))))))));refine Am (r:=CV (Dg f src name to name2)) none (h5:=?_) (h6:=⟨rfl,rfl,rfl⟩);rw[hRen,if_neg (by rw[hord];simp),if_neg (by simp[he1]),if_pos hc5];exact Df _
 have hc5:=bp hb5;refine AN (w_ (l_ (h:=l_ (h:=?_))));refine A6 rfl (AK (Gl f A hf) ?_);rintro r rfl;refine a_ (h:=e_ (?_));refine BE (fun t=>(AT f A=true→NA f to A=false)∧t=⟨look [(2, .v (.string name)),(4, .v (.string name2)),(5, .bp 0 0),(6, .bp 1 0),(8, .bp 2 0),(10, .bp 3 0),(17, .bp 4 0),(19, .v (.bool (AT f A)))],⟨[Ay f,AE src,AE to,[.v (.slice none 0 0)],AE A],[]⟩⟩) ?_ ?_
 ·skip
  refine w_ (m_ (h:=m_ (h:=?_)));refine B5 true rfl rfl (fun hb6=>?_) (fun hb6=>?_)
  ·have hc6:=bp hb6;refine l_ (h:=l_ (h:=l_ (h:=?_)));refine BB (AK (Z7 f to A hf) ?_);rintro r rfl;refine Ag (h:=e_ (?_));refine A8 rfl (fun hb7=>?_) (fun hb7=>?_)
   ·have hc7:=bp hb7;refine w_ (AX (h:=s_ (h:=a_ (h:=a_ (h:=e_ (A4 (A7 (?_))))))));refine Am (r:=CV (Dg f src name to name2)) none (h5:=?_) (h6:=⟨rfl,rfl,rfl⟩);rw[hRen,if_neg (by rw[hord];simp),if_neg (by simp[he1]),if_neg (by simp[hc5]),if_pos ⟨hc6,hc7⟩];exact Df _
   have hc7:=bp hb7;have hbl:AT f A=true→NA f to A=false:=fun _=>hc7;refine BM (?_);refine AF ?_;exact⟨_,⟨hbl,rfl⟩,(wk 5 0)⟩
  have hc6:=bp hb6;have hbl:AT f A=true→NA f to A=false:=fun h=>absurd (h.symm.trans hc6) (by decide);refine A3 (h:=A3 (h:=A3 (h:=A3 (h:=Ar (h:=e_ (GJ (h:=BM (?_))))))));refine AF ?_;exact⟨_,⟨hbl,rfl⟩,(wk 5 0)⟩
 rintro t ⟨hbl,rfl⟩;refine w_ (l_ (h:=l_ (h:=m_ (h:=?_))));refine A6 rfl (AK (L2) ?_);rintro r rfl;refine m_ (h:=x_ (h:=x_ (h:=AZ (h:=s_ (h:=a_ (h:=e_ (?_)))))));refine BE (fun t=>(e2=0→O≠A)∧t=⟨look [(2, .v (.string name)),(4, .v (.string name2)),(5, .bp 0 0),(6, .bp 1 0),(8, .bp 2 0),(10, .bp 3 0),(17, .bp 4 0),(18, .v (.int .i64 e2)),(19, .v (.bool (AT f A))),(20, .bp 5 0)],⟨[Ay f,AE src,AE to,[.v (.slice none 0 0)],AE A,AE O],[]⟩⟩) ?_ ?_
 ·skip
  refine w_ (m_ (h:=AR (h:=m_ (h:=?_))));refine B5 true rfl rfl (fun hb8=>?_) (fun hb8=>?_)
  ·have hc8:=bp hb8;refine l_ (h:=l_ (h:=?_));refine BB (Fq rfl rfl (by repeat constructor) (by repeat constructor) (fun w=>LN _ _ _ _ w) (by kernel_rfl) ?_);refine Ag (h:=e_ (?_));refine A8 rfl (fun hb9=>?_) (fun hb9=>?_)
   ·have hc9:=bp hb9;refine w_ (l_ (h:=?_));refine A6 rfl (AK (RE f hf) ?_);rintro r rfl;refine s_ (h:=a_ (h:=a_ (h:=e_ (A4 (A7 (?_))))));refine Am (r:=CV (Dg f src name to name2)) none (h5:=?_) (h6:=⟨rfl,rfl,rfl⟩);rw[hRen,if_neg (by rw[hord];simp),if_neg (by simp[he1]),if_neg (by simp[hc5]),if_neg (fun h=>absurd h.2 (by rw[hbl h.1];decide)),if_pos ⟨hc8,hc9⟩];exact bK _
   have hc9:=bp hb9;have hoa:e2=0→O≠A:=fun _=>hc9;refine BM (?_);refine AF ?_;exact⟨_,⟨hoa,rfl⟩,(wk 6 0)⟩
  have hc8:=bp hb8;have hoa:e2=0→O≠A:=fun h=>absurd h hc8;refine A3 (h:=A3 (h:=A3 (h:=Ar (h:=e_ (GJ (h:=BM (?_)))))));refine AF ?_;exact⟨_,⟨hoa,rfl⟩,(wk 6 0)⟩
 rintro t ⟨hoa,rfl⟩;refine BE (fun t=>Dp f src to A O e2=0∧t=⟨look [(2, .v (.string name)),(4, .v (.string name2)),(5, .bp 0 0),(6, .bp 1 0),(8, .bp 2 0),(10, .bp 3 0),(17, .bp 4 0),(18, .v (.int .i64 e2)),(19, .v (.bool (AT f A))),(20, .bp 5 0)],⟨[Ay f,AE src,AE to,[.v (.slice none 0 0)],AE A,AE O],[]⟩⟩) ?_ ?_
 ·skip
  refine w_ (m_ (h:=AR (h:=e_ (?_))));refine A8 rfl (fun hb10=>?_) (fun hb10=>?_)
  ·have hc10:=bp hb10;refine w_ (l_ (h:=l_ (h:=?_)));refine A6 rfl (AK (Gl f O hf) ?_);rintro r rfl;refine a_ (h:=e_ (q_ (w_ (m_ (h:=m_ (h:=?_))))));refine B5 true rfl rfl (fun hb11=>?_) (fun hb11=>?_)
   ·have hc11:=bp hb11;refine m_ (h:=BG (h:=Ag (h:=e_ (?_))));refine A8 rfl (fun hb12=>?_) (fun hb12=>?_)
    ·have hc12:=bp hb12;refine w_ (AX (h:=s_ (h:=a_ (h:=a_ (h:=e_ (A4 (A7 (A7 (?_)))))))));refine Am (r:=CV (Dg f src name to name2)) none (h5:=?_) (h6:=⟨rfl,rfl,rfl⟩);have h2:Dp f src to A O e2=21:=by unfold Dp;simp[hc10,hc11,hc12]
     rw[hRen,if_neg (by rw[hord];simp),if_neg (by simp[he1]),if_neg (by simp[hc5]),if_neg (fun h=>absurd h.2 (by rw[hbl h.1];decide)),if_neg (fun h=>hoa h.1 h.2),h2,if_pos (by decide)];exact Df _
    have hc12:=bp hb12;refine AN (q_ (w_ (m_ (h:=BG (h:=m_ (h:=A3 (h:=Ar (h:=e_ (GJ (h:=AN (w_ (m_ (h:=m_ (h:=l_ (h:=l_ (h:=?_))))))))))))))));refine BB (AK (Tf f O hf) ?_);rintro r rfl;refine BG (h:=Ag (h:=e_ (?_)));refine A8 rfl (fun hb13=>?_) (fun hb13=>?_)
    ·have hc13:=bp hb13;refine w_ (AX (h:=s_ (h:=a_ (h:=a_ (h:=e_ (A4 (A7 (?_))))))));refine Am (r:=CV (Dg f src name to name2)) none (h5:=?_) (h6:=⟨rfl,rfl,rfl⟩);have h2:Dp f src to A O e2=39:=by unfold Dp;simp[hc10,hc11,hc12,hc13]
     rw[hRen,if_neg (by rw[hord];simp),if_neg (by simp[he1]),if_neg (by simp[hc5]),if_neg (fun h=>absurd h.2 (by rw[hbl h.1];decide)),if_neg (fun h=>hoa h.1 h.2),h2,if_pos (by decide)];exact Df _
    have hc13:=bp hb13;have h2:Dp f src to A O e2=0:=by unfold Dp;simp[hc10,hc11,hc12,hc13]
    refine BM (?_);refine AF ?_;exact⟨_,⟨h2,rfl⟩,(wk 6 0)⟩
   have hc11:=bp hb11;refine A3 (h:=A3 (h:=Ar (h:=e_ (GJ (h:=AN (q_ (w_ (m_ (h:=BG (h:=m_ (h:=m_ (h:=Ag (h:=e_ (?_))))))))))))));refine A8 rfl (fun hb14=>?_) (fun hb14=>?_)
   ·have hc14:=bp hb14;refine w_ (AX (h:=s_ (h:=a_ (h:=a_ (h:=e_ (A4 (A7 (A7 (?_)))))))));refine Am (r:=CV (Dg f src name to name2)) none (h5:=?_) (h6:=⟨rfl,rfl,rfl⟩);have h2:Dp f src to A O e2=20:=by unfold Dp;simp[hc10,hc11,hc14]
    rw[hRen,if_neg (by rw[hord];simp),if_neg (by simp[he1]),if_neg (by simp[hc5]),if_neg (fun h=>absurd h.2 (by rw[hbl h.1];decide)),if_neg (fun h=>hoa h.1 h.2),h2,if_pos (by decide)];exact Df _
   have hc14:=bp hb14;have h2:Dp f src to A O e2=0:=by unfold Dp;simp[hc10,hc11,hc14]
   refine AN (w_ (m_ (h:=m_ (h:=A3 (h:=A3 (h:=A3 (h:=A3 (h:=Ar (h:=e_ (GJ (h:=BM (?_))))))))))));refine AF ?_;exact⟨_,⟨h2,rfl⟩,(wk 6 0)⟩
  have hc10:=bp hb10;refine w_ (l_ (h:=l_ (h:=?_)));refine A6 rfl (AK (QN f to hf) ?_);rintro r rfl;refine m_ (h:=?_);refine B5 true rfl rfl (fun hb15=>?_) (fun hb15=>?_)
  ·have hc15:=bp hb15;refine l_ (h:=l_ (h:=?_));refine BB (Fq rfl rfl (by repeat constructor) (by repeat constructor) (fun w=>Ti _ _ _ _ w) (by kernel_rfl) ?_);refine Ag (h:=e_ (?_));refine A8 rfl (fun hb16=>?_) (fun hb16=>?_)
   ·have hc16:=bp hb16;refine w_ (AX (h:=s_ (h:=a_ (h:=a_ (h:=e_ (A4 (A7 (?_))))))));refine Am (r:=CV (Dg f src name to name2)) none (h5:=?_) (h6:=⟨rfl,rfl,rfl⟩);have h2:Dp f src to A O e2=28:=by unfold Dp;rw[if_neg hc10,if_pos ⟨hc15,hc16⟩]
    rw[hRen,if_neg (by rw[hord];simp),if_neg (by simp[he1]),if_neg (by simp[hc5]),if_neg (fun h=>absurd h.2 (by rw[hbl h.1];decide)),if_neg (fun h=>hoa h.1 h.2),h2,if_pos (by decide)];exact Df _
   have hc16:=bp hb16;have h2:Dp f src to A O e2=0:=by unfold Dp;rw[if_neg hc10,if_neg (fun h=>h.2 hc16)]
   refine BM (?_);refine AF ?_;exact⟨_,⟨h2,rfl⟩,(wk 6 0)⟩
  have hc15:=bp hb15;have h2:Dp f src to A O e2=0:=by unfold Dp;rw[if_neg hc10,if_neg (fun h=>absurd (h.1.symm.trans hc15) (by decide))]
  refine A3 (h:=A3 (h:=A3 (h:=Ar (h:=e_ (GJ (h:=BM (?_)))))));refine AF ?_;exact⟨_,⟨h2,rfl⟩,(wk 6 0)⟩
 rintro t ⟨h2,rfl⟩;obtain⟨q,i,d,n1,hsq,hq,hn1,hn1i,hidx,hnode,hk1,hnm1⟩:=F1 hpl1;obtain⟨q',i2,d',n2,htq,hq',hn2,hn2i, -,hnode2,hk2,hnm2⟩:=F1 hpl2;obtain rfl:q=q':=by omega
 obtain rfl:d=d':=Option.some.inj (hq.symm.trans hq');have hvd:=hv.vd d (Al hq);have hql:=(As.1 hq).1;have hil:=(As.1 hn1).1;obtain⟨e,he,hle⟩:=N7 hnode hk1 (by rw[hl1];exact he1);have hA1:A=(src.1,e.2):=by rw[hl1]at hle;exact congrArg Prod.fst hle
 have hAm:∃m∈d.nodes,m.ino=A.2:=by rw[hA1];exact(hvd.ent n1 (Al hn1) e (FY he).1).2.2
 obtain⟨X1,X2,m2,hX1,hm2,hm2i,hX2,hasc1,hasc2,hx1l,hx2l,hX2D,hf1,hf2,hb2,⟨r,hr,hr1⟩,⟨am,ham,hami⟩⟩:=bV hv hq hn1 hn2 name name2 A.2 hAm;have hidx2:FV (f.set q ⟨d.next,X1⟩) to=(i2:Int):=RD htq (d:=⟨d.next,X1⟩) (by simp[hql]) hasc1 hm2 (hm2i.trans hn2i)
 have hoo:e2=0→O.1=(q:Int)∧0<(Ct O.2 X2).length:=by
  intro h;obtain⟨e',he',hle'⟩:=N7 hnode2 hk2 (by rw[hl2];exact h);have hO1:O=(to.1,e'.2):=by rw[hl2]at hle';exact congrArg Prod.fst hle'
  refine⟨by rw[hO1];exact htq,RB hr ?_⟩;rw[hr1,hO1];exact(hvd.ent n2 (Al hn2) e' (FY he').1).2.1.symm
 have hO1:e2=0→O.1=A.1:=fun h=>by rw[(hoo h).1,hA1];exact hsq.symm
 obtain⟨NS,hNS⟩:∃NS,NS=(if e2=0 then Bu X2 O.2 else X2):=⟨_,rfl⟩
 have hNSf:NS=X2∨(e2=0∧NS=Bu X2 O.2):=by
  by_cases h:e2=0
  ·exact .inr ⟨h,by rw[hNS,if_pos h]⟩
  exact .inl (by rw[hNS,if_neg h])
 have hsub:NS.Sublist X2:=by
  rcases hNSf with h|⟨_,h⟩
  ·rw[h];exact List.Sublist.refl _
  rw[h];exact List.filter_sublist
 have hasc3:E6 NS:=hasc2.sublist hsub
 have hAN:am∈NS:=by
  rcases hNSf with h|⟨h0,h⟩
  ·rw[h];exact ham
  rw[h];refine List.mem_filter.2 ⟨ham,decide_eq_true (.inl fun e=>hoa h0 ?_)⟩;exact Prod.ext (hO1 h0) (by rw[←e,hami])
 obtain⟨i3,hm3⟩:=List.getElem?_of_mem hAN;have hil3:=(As.1 hm3).1;have hf3:FlsB (f.set q ⟨d.next,NS⟩):=hf.set_ (by have:=hsub.length_le;have:=hvd.len;show NS.length≤1000;omega) fun m hm=>hb2 m (hsub.subset hm);have hidx3:FV (f.set q ⟨d.next,NS⟩) A=(i3:Int):=RD (by rw[hA1];exact hsq) (d:=⟨d.next,NS⟩) (by simp[hql]) hasc3 hm3 hami;obtain⟨m3,rfl⟩:∃m3,m3=am:=⟨_,rfl⟩;have hm3i:=hami;obtain⟨NS2,hNS2⟩:∃NS2,NS2=FZ NS A.2 to.2 (AT f A):=⟨_,rfl⟩;refine w_ (l_ (h:=?_));refine A6 rfl (Bf [] rfl (.cons _ _ _ _ _ rfl (A9 _) .nil) (by decide) .nil (LS f q d hf hq (by omega)) ?_);rintro r bc tc ⟨rfl,cap,cap1,hcap,hcap1,rfl,rfl⟩;refine⟨rfl,_,(La (n:=6) rfl f q d d.nodes cap cap1:Back _ [] _ [_,_,_,_,_,_,_,_]),?_⟩;have hcx1:X1.length≤cap1:=by omega
 have hcx2:X2.length≤cap1:=by omega
 refine AZ (h:=s_ (h:=e_ (w_ (l_ (h:=l_ (h:=m_ (h:=?_)))))));refine A6 rfl (Bf [6,7] rfl (.cons _ _ _ _ _ rfl (A9 _) (.cons _ _ _ _ _ rfl (A9 _) (.cons _ _ _ _ _ rfl (A9 _) (.cons _ _ _ _ _ rfl (A9 _) .nil)))) (by decide) (.cons _ _ _ _ _ rfl (GM (by rfl) _ _ _ _ _) (.cons _ _ _ _ _ rfl (Fu _ _ _) .nil)) (Mw f q d n1 i src name 0 cap cap1 hf hq hsq hidx hn1 hcap hcap1) ?_);rintro r bc tc ⟨rfl,rfl,rfl⟩;rw[show d.nodes.set i {n1 with entries:=Ch n1.entries name 0}=X1 from hX1.symm];refine⟨rfl,_,(Lb (Be rfl) (Be rfl) (by decide) f q d X1 cap cap1 cap1:Back _ [6,7] _ [_,_,_,_,_,_,_,_,_]),?_⟩;refine e_ (w_ (l_ (h:=l_ (h:=m_ (h:=f_ (h:=l_ (h:=?_)))))));refine A6 rfl (Bf [6,7] rfl (.cons _ _ _ _ _ rfl (A9 _) (.cons _ _ _ _ _ rfl (A9 _) (.cons _ _ _ _ _ rfl (A9 _) (.cons _ _ _ _ _ rfl (A9 _) .nil)))) (by decide) (.cons _ _ _ _ _ rfl (GM (by rfl) _ _ _ _ _) (.cons _ _ _ _ _ rfl (Fu _ _ _) .nil)) (bU f q d ⟨d.next,X1⟩ m2 i2 to name2 A.2 cap cap1 hf1 hql htq hidx2 hm2 hcap hcx1 rfl hx1l) ?_);rintro r bc tc ⟨rfl,rfl,rfl⟩;refine⟨rfl,?_⟩;dsimp only;rw[←hX2];refine⟨_,(Lb (Be rfl) (Be rfl) (by decide) f q ⟨d.next,X2⟩ X2 cap cap1 cap1:Back _ [6,7] _ [_,_,_,_,_,_,_,_,_]),?_⟩;refine e_ (?_);refine BE (fun t=>∃capx,NS.length≤capx∧t=⟨look [(2, .v (.string name)),(4, .v (.string name2)),(6, .bp 1 0),(8, .bp 2 0),(10, .bp 3 0),(17, .bp 4 0),(19, .v (.bool (AT f A))),(20, .bp 5 0),(22, .bp 8 0)],⟨[Ay f,AE src,AE to,[.v (.slice none 0 0)],AE A,AE O,DB f q ⟨d.next,NS⟩ 7 cap capx,NB NS capx,[.bs 6 0 2 f.length cap]],[]⟩⟩) ?_ ?_
 ·skip
  refine w_ (m_ (h:=AR (h:=e_ (?_))));refine A8 rfl (fun hb17=>?_) (fun hb17=>?_)
  ·have hc17:=bp hb17;have he2:e2=0:=hc17;obtain⟨hoq,hkp⟩:=hoo he2;refine AQ (l_ (h:=l_ (h:=?_)));refine A6 rfl (Bf [6,7] rfl (.cons _ _ _ _ _ rfl (A9 _) (.cons _ _ _ _ _ rfl (A9 _) .nil)) (by decide) (.cons _ _ _ _ _ rfl (GM (by rfl) _ _ _ _ _) (.cons _ _ _ _ _ rfl (Fu _ _ _) .nil)) (RC f q ⟨d.next,X2⟩ ⟨d.next,X2⟩ O cap cap1 hf2 hql hoq hcap hcx2 hkp rfl rfl) ?_);rintro r bc tc ⟨rfl,rfl,⟨hns,rfl⟩|⟨hns,cap2,hcap2,rfl⟩⟩
   ·refine⟨rfl,_,(R9 (n:=9) rfl (by decide) (by decide) (by decide) f q ⟨d.next,X2⟩ X2 O f.length cap cap cap1 cap1:Back _ [6,7] _ [_,_,_,_,_,_,_,_,_,_,_]),?_⟩;obtain rfl:NS=X2:=by rw[hNS,if_pos (by assumption)];exact hns
    refine AP (?_);refine AF ?_
    first|exact⟨_,⟨_,hcap2,rfl⟩,EB [0,1,2,3,4,5,6,11,8] (fun i hi=>absurd hi (Nat.not_lt_zero i)) (by decide) (.cons _ _ _ _ _ rfl rfl (.cons _ _ _ _ _ rfl rfl (.cons _ _ _ _ _ rfl rfl (.cons _ _ _ _ _ rfl rfl (.cons _ _ _ _ _ rfl rfl (.cons _ _ _ _ _ rfl rfl (.cons _ _ _ _ _ rfl (Kf (by rfl) _ _ _ _ _) (.cons _ _ _ _ _ rfl (JV _ _ _) (.cons _ _ _ _ _ rfl rfl .nil))))))))) (by repeat (first|exact SubK.nil|refine SubK.cons _ _ _ _ rfl (A9 _) ?_))⟩|exact⟨_,⟨_,hcx2,rfl⟩,Bl 9 0 (by simp[Ai,Ac,Ab,CZ,Ca,AE,Ay])⟩
   refine⟨rfl,_,(R8 (n:=9) rfl (by decide) (by decide) (by decide) f q ⟨d.next,Ct O.2 X2⟩ X2 (Ct O.2 X2) O f.length cap cap cap1 cap2:Back _ [6,7] _ [_,_,_,_,_,_,_,_,_,_,_,_]),?_⟩;have hNSk:NS=Ct O.2 X2:=by rw[hNS,if_pos (by assumption)];exact hns
   rw[←hNSk]at hcap2;rw[←hNSk];refine AP (?_);refine AF ?_;exact⟨_,⟨_,hcap2,rfl⟩,EB [0,1,2,3,4,5,6,11,8] (fun i hi=>absurd hi (Nat.not_lt_zero i)) (by decide) (.cons _ _ _ _ _ rfl rfl (.cons _ _ _ _ _ rfl rfl (.cons _ _ _ _ _ rfl rfl (.cons _ _ _ _ _ rfl rfl (.cons _ _ _ _ _ rfl rfl (.cons _ _ _ _ _ rfl rfl (.cons _ _ _ _ _ rfl (Kf (by rfl) _ _ _ _ _) (.cons _ _ _ _ _ rfl (JV _ _ _) (.cons _ _ _ _ _ rfl rfl .nil))))))))) (by repeat (first|exact SubK.nil|refine SubK.cons _ _ _ _ rfl (A9 _) ?_))⟩
  have hc17:=bp hb17;have he2:¬e2=0:=hc17;obtain rfl:NS=X2:=by rw[hNS,if_neg he2]
  refine BM (?_);refine AF ?_
  first|exact⟨_,⟨_,hcap2,rfl⟩,EB [0,1,2,3,4,5,6,11,8] (fun i hi=>absurd hi (Nat.not_lt_zero i)) (by decide) (.cons _ _ _ _ _ rfl rfl (.cons _ _ _ _ _ rfl rfl (.cons _ _ _ _ _ rfl rfl (.cons _ _ _ _ _ rfl rfl (.cons _ _ _ _ _ rfl rfl (.cons _ _ _ _ _ rfl rfl (.cons _ _ _ _ _ rfl (Kf (by rfl) _ _ _ _ _) (.cons _ _ _ _ _ rfl (JV _ _ _) (.cons _ _ _ _ _ rfl rfl .nil))))))))) (by repeat (first|exact SubK.nil|refine SubK.cons _ _ _ _ rfl (A9 _) ?_))⟩|exact⟨_,⟨_,hcx2,rfl⟩,Bl 9 0 (by simp[Ai,Ac,Ab,CZ,Ca,AE,Ay])⟩
 rintro t ⟨capx,hcapx,rfl⟩;refine BE (fun t=>t=⟨look [(2, .v (.string name)),(4, .v (.string name2)),(6, .bp 1 0),(8, .bp 2 0),(10, .bp 3 0),(17, .bp 4 0),(20, .bp 5 0),(22, .bp 8 0)],⟨[Ay f,AE src,AE to,[.v (.slice none 0 0)],AE A,AE O,DB f q ⟨d.next,NS⟩ 7 cap capx,NB NS2 capx,[.bs 6 0 2 f.length cap]],[]⟩⟩) ?_ ?_
 ·skip
  refine w_ (m_ (h:=e_ (?_)));refine A8 rfl (fun hb18=>?_) (fun hb18=>?_)
  ·have hc18:=bp hb18;have e4:NS.set i3 {m3 with parent:=to.2}=NS2:=by rw[hNS2,FZ,if_pos hc18,N6 hasc3 hm3 (fun n=>{n with parent:=to.2}),hm3i]
   have hset3:SetAt (NB NS capx) (0+i3 * 8+5) [.v (.int .i64 to.2)] (NB NS2 capx):=by
    rw[←e4];exact Qi hm3 (by repeat constructor) (by simp)
   refine BO ([(0,Ay f),(1,AE src),(2,AE to),(3,[.v (.slice none 0 0)]),(4,AE A),(5,AE O),(6,DB f q ⟨d.next,NS⟩ 7 cap capx),(8,[.bs 6 0 2 f.length cap])]) 15 (h:=AG 0 (h:=?_));refine AM 1 (h:=?_);refine AG 2 (h:=?_);refine AM 3 (h:=?_);refine Bz 4 rfl (fun _ hS=>DZ (m:=q) rfl rfl htq hql ⟨rfl,rfl⟩) ?_;refine AG 5 (h:=?_)
   first|refine AM 6 (h:=?_)|refine Bz 6 rfl (fun _ hS=>DK (row:=DB f q ⟨d.next,NS⟩ 7 cap capx) rfl (kb hS rfl) (Mp hql) ⟨rfl,rfl⟩) ?_
   refine AM 7 (h:=?_);refine AM 8 (h:=?_);refine AG 10 (h:=?_);refine AM 11 (h:=?_);refine c_ 9 rfl (Cn 2 rfl (.cons _ _ _ _ _ rfl (LeA.of_eq (bL (d:=⟨d.next,NS⟩) hql hcap hcapx (BJ _) (BJ _) rfl rfl)) (.cons _ _ _ _ _ rfl (A9 _) .nil)) (Js (f.set q ⟨d.next,NS⟩) A hf3) ?_);rintro r rfl;refine⟨rfl,?_⟩;refine o_ (h:=?_);refine Bz 12 rfl (fun _ hS=>DZ (m:=i3) rfl rfl hidx3 hil3 ⟨rfl,rfl⟩) ?_;refine AG 13 (h:=?_);refine Aj 14 rfl (Af rfl rfl rfl rfl rfl rfl hset3 (by repeat constructor) ?_);refine o_ (h:=z_ (h:=?_));refine AF ?_;exact⟨_,rfl,Bl 9 0 (by simp[Ai,Ac,Ab,CZ,Ca,AE,Ay])⟩
  have hc18:=bp hb18;obtain rfl:NS2=NS:=by rw[hNS2,FZ,if_neg (by rw[hc18];decide)]
  refine BM (?_);refine AF ?_;exact⟨_,rfl,Bl 9 0 (by simp[Ai,Ac,Ab,CZ,Ca,AE,Ay])⟩
 rintro t rfl;have hl3:NS2.length=NS.length:=by rw[hNS2];unfold FZ;split<;>simp[CU]
 have hcapx2:NS2.length≤capx:=by omega
 refine BE (fun t=>t=⟨look [(10, .bp 3 0),(11, .sl 7 ([(src,name,A,(0,0)),(to,name2,O,A)].map CY) none),(12, .v (.int .i64 0))],⟨[Ay f,AE src,AE to,Ay (f.set q ⟨d.next,NS2⟩)],[]⟩⟩) ?_ ?_
 ·skip
  refine BO ([(0,Ay f),(1,AE src),(2,AE to),(4,AE A),(5,AE O),(6,DB f q ⟨d.next,NS⟩ 7 cap capx),(7,NB NS2 capx),(8,[.bs 6 0 2 f.length cap])]) 15 (h:=AM 0 (h:=AM 1 (h:=AO 2 (h:=AM 3 (h:=?_)))));refine Bz 4 rfl (fun _ hS=>FF (y:= .agg (AE (0,0))) (DD ⟨rfl,rfl⟩) (by repeat (first|exact A9 _|exact LeA.nil _|exact LeL.refl _|refine LeA.agg ⟨rfl,rfl⟩|refine LeA.tup ⟨rfl,rfl⟩|exact LeL.nil|refine LeL.cons ⟨rfl,rfl⟩ ⟨rfl,rfl⟩|exact LeA.any _)) ⟨rfl,rfl⟩) ?_;refine AM 6 (h:=AO 7 (h:=AM 8 (h:=AM 9 (h:=?_))));refine c_ 5 rfl (Bf [] rfl (.cons _ _ _ _ _ rfl (A9 _) (.cons _ _ _ _ _ rfl (A9 _) (.cons _ _ _ _ _ rfl (A9 _) (.cons _ _ _ _ _ rfl (A9 _) .nil)))) (by decide) .nil (bS src name A (0,0)) ?_);rintro r bc tc ⟨rfl,rfl,rfl⟩;refine⟨rfl,_,(bR _ (bT _ _ _ _):Back _ [] _ [_,_,_,_,_,_,_,_,_,_,_,_,_]),?_⟩;refine o_ (h:=?_);refine c_ 10 rfl (AK (KY to name2 O A) ?_);rintro r rfl;refine o_ (h:=?_);refine c_ 11 rfl (LH rfl rfl rfl (Be rfl) JW (by omega) (by omega) (fun h=>absurd h (by omega)) ?_);rintro hg cap4 k bx2 hcp4 hs;obtain⟨rfl,rfl⟩:k=13∧bx2=[_,_,_,_,_,_,_,_,_,_,_,_,_,CT 7 cap4 ([(src,name,A,(0,0)),(to,name2,O,A)].map CY)]:=hs.eq;refine o_ (h:=?_);refine Aj 12 rfl (Af rfl rfl rfl rfl rfl rfl (by repeat constructor) (by repeat constructor) ?_);refine o_ (h:=BK 13 (h:=BK 14 (h:=z_ (h:=?_))));refine AF ?_;exact⟨_,rfl,FJ 4 2 rfl (congrArg (fun x=>[Ay f,AE src,AE to,x]) (J1 (k:=0) (i:=6) (j:=7) (d:=⟨d.next,NS⟩) (d':=⟨d.next,NS2⟩) hql rfl hl3 hcap hcapx2 (Be rfl) (Be rfl) rfl rfl)) (.cons _ _ _ _ rfl (A9 _) (.cons _ _ _ _ rfl (LeA.of_eq (Uo (rows:=[(src,name,A,(0,0)),(to,name2,O,A)].map CY) (Be rfl) (bM (n:=4) (k:=1) (j:=13) (Be rfl) rfl (bO _)) (bQ _) rfl hcp4)) (.cons _ _ _ _ rfl (A9 _) .nil)))⟩
 rintro t rfl;refine A4 (?_);refine AJ ?_;rw[hRen,if_neg (by rw[hord];simp),if_neg (by simp[he1]),if_neg (by simp[hc5]),if_neg (fun h=>absurd h.2 (by rw[hbl h.1];decide)),if_neg (fun h=>hoa h.1 h.2),if_neg (by rw[h2];simp),htq,Int.toNat_natCast,FN hq,show Gs d.nodes src name to name2 A O e2=NS by rw[hNS,hX2D,hn1i,hn2i];rfl,←hNS2];rfl
end
end Go.Proofs.YtbglbmnhgbgelaaGreatDoor
