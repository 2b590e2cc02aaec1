/-
  Part 9 of the proof of RulesExecutedP: what the statement's proof uses of the texts in wip/tpl.
-/
import Derived.Test.YtbgnigjfkbmceaaGreatDoorQc8
open Go.Proofs.Tryz (prog)
set_option maxRecDepth 10000
set_option maxHeartbeats 4000000
set_option linter.unusedVariables false
set_option linter.unusedSimpArgs false
namespace Go.Proofs.YtbgnigjfkbmceaaGreatDoor
open Go.RowKit
theorem MC{f:Aj}{dir:AQ}{name:AT}{n0:Nod}(hn:CR f dir=some n0)(hk:n0.kind=2)(h:(AZ f dir name).2=0):∃e,DL n0.entries name=some e∧AZ f dir name=((dir.1,e.2),0):=by
 unfold AZ at h ⊢;rw[hn]at h ⊢;simp only[hk,if_true]at h ⊢;unfold DL;split at h
 ·exact absurd h (by decide)
 rename_i e he;exact⟨e,he,rfl⟩
def entS(ns:List Nod)(i:Nat)(n0:Nod)(name:AT)(ino:Int):List Nod:=ns.set i {n0 with entries:=Cb n0.entries name ino}
theorem GH(ns:List Nod)(i:Nat)(n0:Nod)(name:AT)(ino:Int):(entS ns i n0 name ino).length=ns.length:=by simp[entS]
theorem QC(es:List Bc)(name:AT)(ino:Int):(Cb es name ino).length≤es.length+1:=by
 by_cases h:ino=0
 ·subst h;rw[Hm];have:(EK name es).length≤es.length:=List.length_filter_le _ _;omega
 rw[(JE es name h).length_eq,List.length_cons];have:(EK name es).length≤es.length:=List.length_filter_le _ _;omega
theorem FlsB.set_{f:Aj}(hf:FlsB f){q:Nat}{d':Dvc}(hn:d'.nodes.length≤1000)(he:∀n∈d'.nodes,n.entries.length≤1000):FlsB (f.set q d'):=by
 refine⟨by simpa using hf.few,fun d hd=>?_,fun d hd n hn'=>?_⟩
 ·rcases List.mem_or_eq_of_mem_set hd with h|h
  ·exact hf.nodes d h
  rw[h];exact hn
 rcases List.mem_or_eq_of_mem_set hd with h|h
 ·exact hf.ents d h n hn'
 subst h;exact he n hn'
theorem FlsV.entS{f:Aj}(hv:FlsV f){q:Nat}{d:Dvc}(hq:f[q]?=some d){i:Nat}{n0:Nod}(hn:d.nodes[i]?=some n0)(name:AT)(ino:Int):FlsB (f.set q {d with nodes:=entS d.nodes i n0 name ino}):=by
 have hd:=hv.vd d (Aw hq);refine hv.b.set_ ?_ ?_
 ·show(Go.Proofs.YtbgnigjfkbmceaaGreatDoor.entS d.nodes i n0 name ino).length≤1000;rw[GH];have:=hd.len;omega
 intro m hm;rcases List.mem_or_eq_of_mem_set hm with h|h
 ·have:=hd.many m h;omega
 rw[h];have:=QC n0.entries name ino;have:=hd.many n0 (Aw hn);show(Cb n0.entries name ino).length≤1000;omega
theorem Kx{d:Dvc}(hd:VD d){i:Nat}{n0:Nod}(hn:d.nodes[i]?=some n0)(name:AT)(ino:Int):entS d.nodes i n0 name ino=Bi d.nodes n0.ino name ino:=by
 unfold entS Bi;rw[←MB hd.asc hn];rfl
theorem Tg{f:Aj}{a:AQ}{q:Nat}{d:Dvc}(ha:a.1=(q:Int))(hq:f[q]?=some d):GZ f a=if(d.nodes.any fun n=>n.ino==a.2)then Bn a.2 d.nodes else 0:=by
 unfold GZ CR;rw[ha,Ki,hq];simp only
 cases h:d.nodes.find? (fun n=>n.ino==a.2)with
 |none=>
   have:d.nodes.any (fun n=>n.ino==a.2)=false:=by
    rw[List.any_eq_false];exact List.find?_eq_none.1 h
   simp[this]
 |some n=>
   have:d.nodes.any (fun n=>n.ino==a.2)=true:=by
    have h2:=List.find?_some h;exact List.any_eq_true.2 ⟨n,List.mem_of_find?_eq_some h,h2⟩
   simp[this]
theorem Ye{f:Aj}{a:AQ}{q:Nat}{d:Dvc}(ha:a.1=(q:Int))(hq:f[q]?=some d)(hl:0<GZ f a):C0 d.nodes a.2=d.nodes:=by
 rw[Tg ha hq]at hl;split at hl
 ·unfold C0;rw[List.filter_eq_self];intro m _;exact decide_eq_true (.inr hl)
 omega
theorem drop_zero{f:Aj}{a:AQ}{q:Nat}{d:Dvc}(ha:a.1=(q:Int))(hq:f[q]?=some d)(hl:GZ f a=0):C0 d.nodes a.2=Cn a.2 d.nodes:=by
 rw[Tg ha hq]at hl;unfold C0 Cn;apply List.filter_congr;intro m hm;split at hl
 ·rw[hl,Bool.eq_iff_iff];simp
 rename_i h
 have hne:m.ino≠a.2:=by
  intro e;exact h (List.any_eq_true.2 ⟨m,hm,by simpa using e⟩)
 rw[Bool.eq_iff_iff];simp[hne]
theorem QD{ns:List Nod}{m:Nod}{i:Int}(hm:m∈ns)(h:m.ino≠i):0<(Cn i ns).length:=List.length_pos_of_mem (List.mem_filter.2 ⟨hm,by simpa using h⟩)
theorem Th{d:Dvc}(hd:VD d){i:Nat}{n0:Nod}(hn:d.nodes[i]?=some n0)(name:AT)(ino:Int):∃m∈entS d.nodes i n0 name ino,m.ino=1:=by
 obtain⟨r,hr,h1,_⟩:=hd.rootMem;rw[Kx hd hn];obtain⟨m,hm,hw⟩:=Jj n0.ino name ino hr;exact⟨m,hm,hw.ino.trans h1⟩
theorem QE(f:Aj)(q:Nat)(d d':Dvc)(a:AQ)(cap cap1:Nat)(hf:FlsB (f.set q d'))(hq:q<f.length)(ha:a.1=(q:Int))(hcap:f.length≤cap)(hcap1:d'.nodes.length≤cap1)(hne:0<(Cn a.2 d'.nodes).length)(hn:d'.next=d.next)(hl:d'.nodes.length=d.nodes.length):
    ACall prog 234 [.agg [.bs 0 0 2 f.length cap], .agg (AN a)] [DB f q d 1 cap cap1,NB d'.nodes cap1] (fun r b t=>t=[]∧r= .tup []∧((C0 d'.nodes a.2=d'.nodes∧b=[DB f q d 1 cap cap1,NB d'.nodes cap1,[.bs 0 0 2 f.length cap],AN a])∨(C0 d'.nodes a.2=Cn a.2 d'.nodes∧∃cap2,(Cn a.2 d'.nodes).length≤cap2∧b=[DB f q {d' with nodes:=Cn a.2 d'.nodes} 4 cap cap2,NB d'.nodes cap1,[.bs 0 0 2 f.length cap],AN a,NB (Cn a.2 d'.nodes) cap2]))):=by
 have hq':(f.set q d')[q]?=some d':=by simp[hq]
 have key:=YP (f.set q d') q d' a cap cap1 hf hq' ha (by simpa using hcap) hcap1 hne;rw[List.length_set,←Tf hn hl]at key;refine key.mono fun r b t ⟨h1,h2,h3⟩=>⟨h1,h2,?_⟩;rcases h3 with⟨h4,h5⟩|⟨h4,cap2,h5,h6⟩
 ·exact .inl ⟨Ye ha hq' h4,h5⟩
 refine .inr ⟨drop_zero ha hq' h4,cap2,h5,?_⟩;rw[Pr]at h6;exact h6
def FR(f:Aj)(dir:AQ)(name:AT):Dm:=
 if CC f dir name≠0 then([],[],CC f dir name)else if(AZ f dir name).2≠0 then([],[],(AZ f dir name).2)else if Ay f (AZ f dir name).1=true then([],[],21)else
 (Fq f dir.1.toNat fun ns=>C0 (Bi ns dir.2 name 0) (AZ f dir name).1.2,[(dir,name,(AZ f dir name).1,(0,0))],0)
def Ek(f:Aj)(dir:AQ)(name:AT):Dm:=
 if CC f dir name≠0 then([],[],CC f dir name)else if(AZ f dir name).2≠0 then([],[],(AZ f dir name).2)else if Ay f (AZ f dir name).1=false then([],[],20)else if Jc f (AZ f dir name).1=false then([],[],39)else
 (Fq f dir.1.toNat fun ns=>C0 (Bi ns dir.2 name 0) (AZ f dir name).1.2,[(dir,name,(AZ f dir name).1,(0,0))],0)
section
theorem Yf(f:Aj)(dir:AQ)(name:AT)(hv:FlsV f)(hs:name.size≤100000):AFn prog 173 [.agg (B0 f), .agg (AN dir), .v (.string name)] (fun r=>r=CE (FR f dir name)):=by
 have hf:=hv.b;refine enter Tryz.func173 rfl rfl rfl rfl rfl 0 rfl ?_;refine w_ (b_ (h:=b_ (h:=Al (h:=a_ (h:=a_ (h:=e_ (q_ (w_ (l_ (h:=l_ (h:=m_ (h:=?_))))))))))));refine A7 rfl (AG (Kl f dir name hf hs) ?_);rintro r rfl;refine a_ (h:=e_ (w_ (m_ (h:=Ap (h:=e_ (?_))))));refine A8 rfl (fun hb1=>?_) (fun hb1=>?_)
 ·have hc1:=bp hb1;refine w_ (Ak (h:=m_ (h:=s_ (h:=a_ (h:=a_ (h:=e_ (A4 (A6 (?_)))))))));refine Ai (r:=CE (FR f dir name)) none (h5:=?_) (h6:=⟨rfl,rfl,rfl⟩);rw[FR,if_pos (by omega)];exact DN _
 have hc1:=bp hb1;refine AB (w_ (l_ (h:=l_ (h:=m_ (h:=?_)))));refine A7 rfl (AG (He f dir name hf) ?_);rintro r rfl;refine m_ (h:=x_ (h:=x_ (h:=Al (h:=s_ (h:=a_ (h:=e_ (q_ (w_ (m_ (h:=Ap (h:=e_ (?_))))))))))));refine A8 rfl (fun hb2=>?_) (fun hb2=>?_)
 ·have hc2:=bp hb2;refine w_ (Ak (h:=m_ (h:=s_ (h:=a_ (h:=a_ (h:=e_ (A4 (A6 (?_)))))))));refine Ai (r:=CE (FR f dir name)) none (h5:=?_) (h6:=⟨rfl,rfl,rfl⟩);rw[FR,if_neg (by omega),if_pos (by omega)];exact DN _
 have hc2:=bp hb2;have hlk:(AZ f dir name).2=0:=by omega
 refine AB (q_ (w_ (l_ (h:=l_ (h:=?_)))));refine A7 rfl (AG (Hd f (AZ f dir name).1 hf) ?_);rintro r rfl;refine e_ (?_);refine A8 rfl (fun hb3=>?_) (fun hb3=>?_)
 ·have hc3:=bp hb3;refine w_ (Ak (h:=s_ (h:=a_ (h:=a_ (h:=e_ (A4 (A6 (?_))))))));refine Ai (r:=CE (FR f dir name)) none (h5:=?_) (h6:=⟨rfl,rfl,rfl⟩);rw[FR,if_neg (by omega),if_neg (by omega),if_pos hc3];exact DN _
 have hc3:=bp hb3;obtain⟨q,i,d,n0,hdq,hq,hn0,hino,hidx,hnode,hk0,hnm⟩:=Gj (name:=name) (dir:=dir) (f:=f) (by omega);have hil:=(At.1 hn0).1;have hql:=(At.1 hq).1;have hvd:=hv.vd d (Aw hq);obtain⟨e,he,hle⟩:=MC hnode hk0 hlk;have hat1:(AZ f dir name).1.1=(q:Int):=by rw[hle];exact hdq
 have hat2:(AZ f dir name).1.2≠1:=by rw[hle];exact(hvd.ent n0 (Aw hn0) e (H5 he).1).2.1
 have hxl:(entS d.nodes i n0 name 0).length=d.nodes.length:=GH _ _ _ _ _
 have hkp:0<(Cn (AZ f dir name).1.2 (entS d.nodes i n0 name 0)).length:=by
  obtain⟨m,hm,hm1⟩:=Th hvd hn0 name 0;exact QD hm (by rw[hm1];exact hat2.symm)
 refine AB (w_ (l_ (h:=?_)));refine A7 rfl (Bk [] rfl (.cons _ _ _ _ _ rfl (AA _) .nil) (by decide) .nil (Kq f q d hf hq (by omega)) ?_);rintro r bc tc ⟨rfl,cap,cap1,hcap,hcap1,rfl,rfl⟩;refine⟨rfl,_,(Kv (n:=4) rfl f q d d.nodes cap cap1:Back _ [] _ [_,_,_,_,_,_]),?_⟩;refine Al (h:=s_ (h:=e_ (w_ (l_ (h:=l_ (h:=m_ (h:=?_)))))));refine A7 rfl (Bk [4,5] rfl (.cons _ _ _ _ _ rfl (AA _) (.cons _ _ _ _ _ rfl (AA _) (.cons _ _ _ _ _ rfl (AA _) (.cons _ _ _ _ _ rfl (AA _) .nil)))) (by decide) (.cons _ _ _ _ _ rfl (GD (by rfl) _ _ _ _ _) (.cons _ _ _ _ _ rfl (Fp _ _ _) .nil)) (M0 f q d n0 i dir name 0 cap cap1 hf hq hdq hidx hn0 hcap hcap1) ?_);rintro r bc tc ⟨rfl,rfl,rfl⟩;refine⟨rfl,_,(Kw (BL rfl) (BL rfl) (by decide) f q d (entS d.nodes i n0 name 0) cap cap1 cap1:Back _ [4,5] _ [_,_,_,_,_,_,_]),?_⟩;refine e_ (w_ (l_ (h:=l_ (h:=?_))));refine A7 rfl (Bk [4,5] rfl (.cons _ _ _ _ _ rfl (AA _) (.cons _ _ _ _ _ rfl (AA _) .nil)) (by decide) (.cons _ _ _ _ _ rfl (GD (by rfl) _ _ _ _ _) (.cons _ _ _ _ _ rfl (Fp _ _ _) .nil)) (QE f q d {d with nodes:=entS d.nodes i n0 name 0} (AZ f dir name).1 cap cap1 (hv.entS hq hn0 name 0) hql hat1 hcap (by rw[GH];exact hcap1) hkp rfl hxl) ?_);rintro r bc tc ⟨rfl,rfl,⟨hns,rfl⟩|⟨hns,cap2,hcap2,rfl⟩⟩
 ·refine⟨rfl,_,(QB (n:=7) rfl (by decide) (by decide) (by decide) f q d (entS d.nodes i n0 name 0) (AZ f dir name).1 f.length cap cap cap1 cap1:Back _ [4,5] _ [_,_,_,_,_,_,_,_,_]),?_⟩;have hx1:(entS d.nodes i n0 name 0).length≤cap1:=by omega
  refine e_ (?_);refine BR (fun t=>t=⟨look [(6, .bp 2 0),(7, .sl 7 [DY (dir,name,(AZ f dir name).1,(0,0))] none),(8, .v (.int .i64 0))],⟨[B0 f,AN dir,B0 (f.set q {d with nodes:=C0 (entS d.nodes i n0 name 0) (AZ f dir name).1.2})],[]⟩⟩) ?_ ?_
  ·skip
   refine Bf ([(0,B0 f),(1,AN dir),(3,AN (AZ f dir name).1),(6,[.bs 4 0 2 f.length cap])]) 9 (h:=AJ 0 (h:=AJ 1 (h:=AU 2 (h:=AJ 3 (h:=?_)))));refine BF 4 rfl (fun _ hS=>FH (y:= .agg (AN (0,0))) (D8 ⟨rfl,rfl⟩) (by repeat (first|exact AA _|exact LeA.nil _|exact LeL.refl _|refine LeA.agg ⟨rfl,rfl⟩|refine LeA.tup ⟨rfl,rfl⟩|exact LeL.nil|refine LeL.cons ⟨rfl,rfl⟩ ⟨rfl,rfl⟩|exact LeA.any _)) ⟨rfl,rfl⟩) ?_;refine c_ 5 rfl (AG (KA dir name (AZ f dir name).1 (0,0)) ?_);rintro r rfl;refine o_ (h:=?_);refine BH 6 rfl (BC rfl rfl rfl rfl rfl rfl (by repeat constructor) (by repeat constructor) ?_);refine o_ (h:=BO 7 (h:=BO 8 (h:=z_ (h:=?_))));refine AE ?_;refine⟨_,rfl,?_⟩;rw[show C0 (entS d.nodes i n0 name 0) (AZ f dir name).1.2=_ from hns]
   first|exact ET 3 2 rfl (congrArg (fun x=>[B0 f,AN dir,x]) (Gi (k:=0) (i:=4) (j:=9) (d:={d with nodes:=Cn (AZ f dir name).1.2 (entS d.nodes i n0 name 0)}) (d':={d with nodes:=Cn (AZ f dir name).1.2 (entS d.nodes i n0 name 0)}) hql rfl rfl hcap hcap2 (BL rfl) (BL rfl) rfl rfl)) (.cons _ _ _ _ rfl (AA _) (.cons _ _ _ _ rfl (AA _) (.cons _ _ _ _ rfl (AA _) .nil)))|exact ET 3 2 rfl (congrArg (fun x=>[B0 f,AN dir,x]) (Gi (k:=0) (i:=4) (j:=5) (d:=d) (d':={d with nodes:=entS d.nodes i n0 name 0}) hql rfl hxl hcap hx1 (BL rfl) (BL rfl) rfl rfl)) (.cons _ _ _ _ rfl (AA _) (.cons _ _ _ _ rfl (AA _) (.cons _ _ _ _ rfl (AA _) .nil)))
  rintro t rfl;refine A4 (?_);refine A9 ?_;rw[FR,if_neg (by omega),if_neg (by omega),if_neg (by simp[hc3]),hdq,Int.toNat_natCast,GG hq,←hino,←Kx (hv.vd d (Aw hq)) hn0];rfl
 refine⟨rfl,_,(QA (n:=7) rfl (by decide) (by decide) (by decide) f q {d with nodes:=Cn (AZ f dir name).1.2 (entS d.nodes i n0 name 0)} (entS d.nodes i n0 name 0) (Cn (AZ f dir name).1.2 (entS d.nodes i n0 name 0)) (AZ f dir name).1 f.length cap cap cap1 cap2:Back _ [4,5] _ [_,_,_,_,_,_,_,_,_,_]),?_⟩;refine e_ (?_);refine BR (fun t=>t=⟨look [(6, .bp 2 0),(7, .sl 7 [DY (dir,name,(AZ f dir name).1,(0,0))] none),(8, .v (.int .i64 0))],⟨[B0 f,AN dir,B0 (f.set q {d with nodes:=C0 (entS d.nodes i n0 name 0) (AZ f dir name).1.2})],[]⟩⟩) ?_ ?_
 ·skip
  refine Bf ([(0,B0 f),(1,AN dir),(3,AN (AZ f dir name).1),(6,[.bs 4 0 2 f.length cap])]) 9 (h:=AJ 0 (h:=AJ 1 (h:=AU 2 (h:=AJ 3 (h:=?_)))));refine BF 4 rfl (fun _ hS=>FH (y:= .agg (AN (0,0))) (D8 ⟨rfl,rfl⟩) (by repeat (first|exact AA _|exact LeA.nil _|exact LeL.refl _|refine LeA.agg ⟨rfl,rfl⟩|refine LeA.tup ⟨rfl,rfl⟩|exact LeL.nil|refine LeL.cons ⟨rfl,rfl⟩ ⟨rfl,rfl⟩|exact LeA.any _)) ⟨rfl,rfl⟩) ?_;refine c_ 5 rfl (AG (KA dir name (AZ f dir name).1 (0,0)) ?_);rintro r rfl;refine o_ (h:=?_);refine BH 6 rfl (BC rfl rfl rfl rfl rfl rfl (by repeat constructor) (by repeat constructor) ?_);refine o_ (h:=BO 7 (h:=BO 8 (h:=z_ (h:=?_))));refine AE ?_;refine⟨_,rfl,?_⟩;rw[show C0 (entS d.nodes i n0 name 0) (AZ f dir name).1.2=_ from hns]
  first|exact ET 3 2 rfl (congrArg (fun x=>[B0 f,AN dir,x]) (Gi (k:=0) (i:=4) (j:=9) (d:={d with nodes:=Cn (AZ f dir name).1.2 (entS d.nodes i n0 name 0)}) (d':={d with nodes:=Cn (AZ f dir name).1.2 (entS d.nodes i n0 name 0)}) hql rfl rfl hcap hcap2 (BL rfl) (BL rfl) rfl rfl)) (.cons _ _ _ _ rfl (AA _) (.cons _ _ _ _ rfl (AA _) (.cons _ _ _ _ rfl (AA _) .nil)))|exact ET 3 2 rfl (congrArg (fun x=>[B0 f,AN dir,x]) (Gi (k:=0) (i:=4) (j:=5) (d:=d) (d':={d with nodes:=entS d.nodes i n0 name 0}) hql rfl hxl hcap hx1 (BL rfl) (BL rfl) rfl rfl)) (.cons _ _ _ _ rfl (AA _) (.cons _ _ _ _ rfl (AA _) (.cons _ _ _ _ rfl (AA _) .nil)))
 rintro t rfl;refine A4 (?_);refine A9 ?_;rw[FR,if_neg (by omega),if_neg (by omega),if_neg (by simp[hc3]),hdq,Int.toNat_natCast,GG hq,←hino,←Kx (hv.vd d (Aw hq)) hn0];rfl
theorem Yg(f:Aj)(dir:AQ)(name:AT)(hv:FlsV f)(hs:name.size≤100000):AFn prog 174 [.agg (B0 f), .agg (AN dir), .v (.string name)] (fun r=>r=CE (Ek f dir name)):=by
 have hf:=hv.b;refine enter Tryz.func174 rfl rfl rfl rfl rfl 0 rfl ?_;refine w_ (b_ (h:=b_ (h:=Al (h:=a_ (h:=a_ (h:=e_ (q_ (w_ (l_ (h:=l_ (h:=m_ (h:=?_))))))))))));refine A7 rfl (AG (Kl f dir name hf hs) ?_);rintro r rfl;refine a_ (h:=e_ (w_ (m_ (h:=Ap (h:=e_ (?_))))));refine A8 rfl (fun hb1=>?_) (fun hb1=>?_)
 ·have hc1:=bp hb1;refine w_ (Ak (h:=m_ (h:=s_ (h:=a_ (h:=a_ (h:=e_ (A4 (A6 (?_)))))))));refine Ai (r:=CE (Ek f dir name)) none (h5:=?_) (h6:=⟨rfl,rfl,rfl⟩);rw[Ek,if_pos (by omega)];exact DN _
 have hc1:=bp hb1;refine AB (w_ (l_ (h:=l_ (h:=m_ (h:=?_)))));refine A7 rfl (AG (He f dir name hf) ?_);rintro r rfl;refine m_ (h:=x_ (h:=x_ (h:=Al (h:=s_ (h:=a_ (h:=e_ (q_ (w_ (m_ (h:=Ap (h:=e_ (?_))))))))))));refine A8 rfl (fun hb2=>?_) (fun hb2=>?_)
 ·have hc2:=bp hb2;refine w_ (Ak (h:=m_ (h:=s_ (h:=a_ (h:=a_ (h:=e_ (A4 (A6 (?_)))))))));refine Ai (r:=CE (Ek f dir name)) none (h5:=?_) (h6:=⟨rfl,rfl,rfl⟩);rw[Ek,if_neg (by omega),if_pos (by omega)];exact DN _
 have hc2:=bp hb2;have hlk:(AZ f dir name).2=0:=by omega
 refine AB (q_ (w_ (l_ (h:=l_ (h:=?_)))));refine A7 rfl (AG (Hd f (AZ f dir name).1 hf) ?_);rintro r rfl;refine B9 (h:=e_ (?_));refine A8 rfl (fun hb3=>?_) (fun hb3=>?_)
 ·have hc3:=bp hb3;refine w_ (Ak (h:=s_ (h:=a_ (h:=a_ (h:=e_ (A4 (A6 (?_))))))));refine Ai (r:=CE (Ek f dir name)) none (h5:=?_) (h6:=⟨rfl,rfl,rfl⟩);rw[Ek,if_neg (by omega),if_neg (by omega),if_pos hc3];exact DN _
 have hc3:=bp hb3;refine AB (q_ (w_ (l_ (h:=l_ (h:=?_)))));refine A7 rfl (AG (ST f (AZ f dir name).1 hf) ?_);rintro r rfl;refine B9 (h:=e_ (?_));refine A8 rfl (fun hb4=>?_) (fun hb4=>?_)
 ·have hc4:=bp hb4;refine w_ (Ak (h:=s_ (h:=a_ (h:=a_ (h:=e_ (A4 (A6 (?_))))))));refine Ai (r:=CE (Ek f dir name)) none (h5:=?_) (h6:=⟨rfl,rfl,rfl⟩);rw[Ek,if_neg (by omega),if_neg (by omega),if_neg (by simp[hc3]),if_pos hc4];exact DN _
 have hc4:=bp hb4;obtain⟨q,i,d,n0,hdq,hq,hn0,hino,hidx,hnode,hk0,hnm⟩:=Gj (name:=name) (dir:=dir) (f:=f) (by omega);have hil:=(At.1 hn0).1;have hql:=(At.1 hq).1;have hvd:=hv.vd d (Aw hq);obtain⟨e,he,hle⟩:=MC hnode hk0 hlk;have hat1:(AZ f dir name).1.1=(q:Int):=by rw[hle];exact hdq
 have hat2:(AZ f dir name).1.2≠1:=by rw[hle];exact(hvd.ent n0 (Aw hn0) e (H5 he).1).2.1
 have hxl:(entS d.nodes i n0 name 0).length=d.nodes.length:=GH _ _ _ _ _
 have hkp:0<(Cn (AZ f dir name).1.2 (entS d.nodes i n0 name 0)).length:=by
  obtain⟨m,hm,hm1⟩:=Th hvd hn0 name 0;exact QD hm (by rw[hm1];exact hat2.symm)
 refine AB (w_ (l_ (h:=?_)));refine A7 rfl (Bk [] rfl (.cons _ _ _ _ _ rfl (AA _) .nil) (by decide) .nil (Kq f q d hf hq (by omega)) ?_);rintro r bc tc ⟨rfl,cap,cap1,hcap,hcap1,rfl,rfl⟩;refine⟨rfl,_,(Kv (n:=4) rfl f q d d.nodes cap cap1:Back _ [] _ [_,_,_,_,_,_]),?_⟩;refine Al (h:=s_ (h:=e_ (w_ (l_ (h:=l_ (h:=m_ (h:=?_)))))));refine A7 rfl (Bk [4,5] rfl (.cons _ _ _ _ _ rfl (AA _) (.cons _ _ _ _ _ rfl (AA _) (.cons _ _ _ _ _ rfl (AA _) (.cons _ _ _ _ _ rfl (AA _) .nil)))) (by decide) (.cons _ _ _ _ _ rfl (GD (by rfl) _ _ _ _ _) (.cons _ _ _ _ _ rfl (Fp _ _ _) .nil)) (M0 f q d n0 i dir name 0 cap cap1 hf hq hdq hidx hn0 hcap hcap1) ?_);rintro r bc tc ⟨rfl,rfl,rfl⟩;refine⟨rfl,_,(Kw (BL rfl) (BL rfl) (by decide) f q d (entS d.nodes i n0 name 0) cap cap1 cap1:Back _ [4,5] _ [_,_,_,_,_,_,_]),?_⟩;refine e_ (w_ (l_ (h:=l_ (h:=?_))));refine A7 rfl (Bk [4,5] rfl (.cons _ _ _ _ _ rfl (AA _) (.cons _ _ _ _ _ rfl (AA _) .nil)) (by decide) (.cons _ _ _ _ _ rfl (GD (by rfl) _ _ _ _ _) (.cons _ _ _ _ _ rfl (Fp _ _ _) .nil)) (QE f q d {d with nodes:=entS d.nodes i n0 name 0} (AZ f dir name).1 cap cap1 (hv.entS hq hn0 name 0) hql hat1 hcap (by rw[GH];exact hcap1) hkp rfl hxl) ?_);rintro r bc tc ⟨rfl,rfl,⟨hns,rfl⟩|⟨hns,cap2,hcap2,rfl⟩⟩
 ·refine⟨rfl,_,(QB (n:=7) rfl (by decide) (by decide) (by decide) f q d (entS d.nodes i n0 name 0) (AZ f dir name).1 f.length cap cap cap1 cap1:Back _ [4,5] _ [_,_,_,_,_,_,_,_,_]),?_⟩;have hx1:(entS d.nodes i n0 name 0).length≤cap1:=by omega
  refine e_ (?_);refine BR (fun t=>t=⟨look [(6, .bp 2 0),(7, .sl 7 [DY (dir,name,(AZ f dir name).1,(0,0))] none),(8, .v (.int .i64 0))],⟨[B0 f,AN dir,B0 (f.set q {d with nodes:=C0 (entS d.nodes i n0 name 0) (AZ f dir name).1.2})],[]⟩⟩) ?_ ?_
  ·skip
   refine Bf ([(0,B0 f),(1,AN dir),(3,AN (AZ f dir name).1),(6,[.bs 4 0 2 f.length cap])]) 9 (h:=AJ 0 (h:=AJ 1 (h:=AU 2 (h:=AJ 3 (h:=?_)))));refine BF 4 rfl (fun _ hS=>FH (y:= .agg (AN (0,0))) (D8 ⟨rfl,rfl⟩) (by repeat (first|exact AA _|exact LeA.nil _|exact LeL.refl _|refine LeA.agg ⟨rfl,rfl⟩|refine LeA.tup ⟨rfl,rfl⟩|exact LeL.nil|refine LeL.cons ⟨rfl,rfl⟩ ⟨rfl,rfl⟩|exact LeA.any _)) ⟨rfl,rfl⟩) ?_;refine c_ 5 rfl (AG (KA dir name (AZ f dir name).1 (0,0)) ?_);rintro r rfl;refine o_ (h:=?_);refine BH 6 rfl (BC rfl rfl rfl rfl rfl rfl (by repeat constructor) (by repeat constructor) ?_);refine o_ (h:=BO 7 (h:=BO 8 (h:=z_ (h:=?_))));refine AE ?_;refine⟨_,rfl,?_⟩;rw[show C0 (entS d.nodes i n0 name 0) (AZ f dir name).1.2=_ from hns]
   first|exact ET 3 2 rfl (congrArg (fun x=>[B0 f,AN dir,x]) (Gi (k:=0) (i:=4) (j:=9) (d:={d with nodes:=Cn (AZ f dir name).1.2 (entS d.nodes i n0 name 0)}) (d':={d with nodes:=Cn (AZ f dir name).1.2 (entS d.nodes i n0 name 0)}) hql rfl rfl hcap hcap2 (BL rfl) (BL rfl) rfl rfl)) (.cons _ _ _ _ rfl (AA _) (.cons _ _ _ _ rfl (AA _) (.cons _ _ _ _ rfl (AA _) .nil)))|exact ET 3 2 rfl (congrArg (fun x=>[B0 f,AN dir,x]) (Gi (k:=0) (i:=4) (j:=5) (d:=d) (d':={d with nodes:=entS d.nodes i n0 name 0}) hql rfl hxl hcap hx1 (BL rfl) (BL rfl) rfl rfl)) (.cons _ _ _ _ rfl (AA _) (.cons _ _ _ _ rfl (AA _) (.cons _ _ _ _ rfl (AA _) .nil)))
  rintro t rfl;refine A4 (?_);refine A9 ?_;rw[Ek,if_neg (by omega),if_neg (by omega),if_neg (by simp[hc3]),if_neg (by simp[hc4]),hdq,Int.toNat_natCast,GG hq,←hino,←Kx (hv.vd d (Aw hq)) hn0];rfl
 refine⟨rfl,_,(QA (n:=7) rfl (by decide) (by decide) (by decide) f q {d with nodes:=Cn (AZ f dir name).1.2 (entS d.nodes i n0 name 0)} (entS d.nodes i n0 name 0) (Cn (AZ f dir name).1.2 (entS d.nodes i n0 name 0)) (AZ f dir name).1 f.length cap cap cap1 cap2:Back _ [4,5] _ [_,_,_,_,_,_,_,_,_,_]),?_⟩;refine e_ (?_);refine BR (fun t=>t=⟨look [(6, .bp 2 0),(7, .sl 7 [DY (dir,name,(AZ f dir name).1,(0,0))] none),(8, .v (.int .i64 0))],⟨[B0 f,AN dir,B0 (f.set q {d with nodes:=C0 (entS d.nodes i n0 name 0) (AZ f dir name).1.2})],[]⟩⟩) ?_ ?_
 ·skip
  refine Bf ([(0,B0 f),(1,AN dir),(3,AN (AZ f dir name).1),(6,[.bs 4 0 2 f.length cap])]) 9 (h:=AJ 0 (h:=AJ 1 (h:=AU 2 (h:=AJ 3 (h:=?_)))));refine BF 4 rfl (fun _ hS=>FH (y:= .agg (AN (0,0))) (D8 ⟨rfl,rfl⟩) (by repeat (first|exact AA _|exact LeA.nil _|exact LeL.refl _|refine LeA.agg ⟨rfl,rfl⟩|refine LeA.tup ⟨rfl,rfl⟩|exact LeL.nil|refine LeL.cons ⟨rfl,rfl⟩ ⟨rfl,rfl⟩|exact LeA.any _)) ⟨rfl,rfl⟩) ?_;refine c_ 5 rfl (AG (KA dir name (AZ f dir name).1 (0,0)) ?_);rintro r rfl;refine o_ (h:=?_);refine BH 6 rfl (BC rfl rfl rfl rfl rfl rfl (by repeat constructor) (by repeat constructor) ?_);refine o_ (h:=BO 7 (h:=BO 8 (h:=z_ (h:=?_))));refine AE ?_;refine⟨_,rfl,?_⟩;rw[show C0 (entS d.nodes i n0 name 0) (AZ f dir name).1.2=_ from hns]
  first|exact ET 3 2 rfl (congrArg (fun x=>[B0 f,AN dir,x]) (Gi (k:=0) (i:=4) (j:=9) (d:={d with nodes:=Cn (AZ f dir name).1.2 (entS d.nodes i n0 name 0)}) (d':={d with nodes:=Cn (AZ f dir name).1.2 (entS d.nodes i n0 name 0)}) hql rfl rfl hcap hcap2 (BL rfl) (BL rfl) rfl rfl)) (.cons _ _ _ _ rfl (AA _) (.cons _ _ _ _ rfl (AA _) (.cons _ _ _ _ rfl (AA _) .nil)))|exact ET 3 2 rfl (congrArg (fun x=>[B0 f,AN dir,x]) (Gi (k:=0) (i:=4) (j:=5) (d:=d) (d':={d with nodes:=entS d.nodes i n0 name 0}) hql rfl hxl hcap hx1 (BL rfl) (BL rfl) rfl rfl)) (.cons _ _ _ _ rfl (AA _) (.cons _ _ _ _ rfl (AA _) (.cons _ _ _ _ rfl (AA _) .nil)))
 rintro t rfl;refine A4 (?_);refine A9 ?_;rw[Ek,if_neg (by omega),if_neg (by omega),if_neg (by simp[hc3]),if_neg (by simp[hc4]),hdq,Int.toNat_natCast,GG hq,←hino,←Kx (hv.vd d (Aw hq)) hn0];rfl
end
section
variable {P:Program}{N:Dim}{ops:Array Oper}{Q:Exit→AS→Prop}{S:AH→Prop}{tl:Nat}
def Ti(ops:Array Oper)(tl:Nat):Bool:=Mg ops tl
end
section
variable {P:Program}{N:Dim}{Q:Exit→AS→Prop}{l:List Oper}{S:AH→Prop}{tl:Nat}{fuel:Nat}{listed:Array Bool}{m:List (Nat×AV)}{h:AH}{op:Op}{ty:TypeId}{pos:String}{af:Array Edge}{gd:Option (Nat×Bool)}
theorem Yh{i d:Nat}{x:AV}(hi:l[i]?=some ⟨some d,op,ty,pos,af,gd⟩)(hd:Nat.blt d N.n=true)(htl:(Ti l.toArray tl&&Mf l.toArray listed&& !Nat.ble tl i&&Region.free .any l.toArray listed i&&(Region.ready .any l.toArray listed).contains i)=true)
    (hw:CP l.toArray (look m) ⟨some d,op,ty,pos,af,gd⟩=some true) (hst:∀h,S h→AStep P ⟨some d,op,ty,pos,af,gd⟩ (CO (look m)) h (fun x' h'=>x'=x∧h'=h)) (hS:S h)
    (H:AAny P N l.toArray Q S tl fuel (listed.setIfInBounds i true) ⟨look ((d,x)::m),h⟩):AAny P N l.toArray Q S tl (fuel+1) listed ⟨look m,h⟩:=by
 simp only[Bool.and_eq_true,Bool.not_eq_true']at htl;obtain⟨⟨⟨⟨t1,t0⟩,t2⟩,t3⟩,t4⟩:=htl;exact AAny.first3 (oi:=⟨some d,op,ty,pos,af,gd⟩) (HQ hi) hd t1 t2 fuel listed ⟨look m,h⟩ (RF t0) (Region.free_spec (HQ hi) t3) (List.contains_iff_mem.1 t4) (.inl ⟨hw,hst⟩) hS H
end
theorem Dp{P:Program}{N:Dim}{Q:Exit→AS→Prop}{l:List Oper}{S:AH→Prop}{tl:Nat}{fuel:Nat}{listed:Array Bool}{m:List (Nat×AV)}{h:AH}{op:Op}{ty:TypeId}{pos:String}{af:Array Edge}{gd:Option (Nat×Bool)}(i:Nat){d:Nat}{x:AV}(hi:l[i]?=some ⟨some d,op,ty,pos,af,gd⟩)(hst:∀h,S h→AStep P ⟨some d,op,ty,pos,af,gd⟩ (CO (look m)) h (fun x' h'=>x'=x∧h'=h))(H:AAny P N l.toArray Q S tl fuel (listed.setIfInBounds i true) ⟨look ((d,x)::m),h⟩)(hd:Nat.blt d N.n=true:=by rfl)(htl:(Ti l.toArray tl&&Mf l.toArray listed&& !Nat.ble tl i&&Region.free .any l.toArray listed i&&(Region.ready .any l.toArray listed).contains i)=true:=by kernel_rfl)(hw:CP l.toArray (look m) ⟨some d,op,ty,pos,af,gd⟩=some true:=by first|rfl|exact Ba rfl rfl (DZ ‹_›)|exact Ba rfl rfl (Da ‹_›)|exact Ba rfl rfl (by simp[*]))(hS:S h:=by repeat (first|exact Lf _|refine Lg rfl ?_)):AAny P N l.toArray Q S tl (fuel+1) listed ⟨look m,h⟩:=Yh hi hd htl hw hst hS H
theorem QF{f:Aj}{a:AQ}{q i:Nat}{d:Dvc}{n:Nod}(ha:a.1=(q:Int))(hq:f[q]?=some d)(hd:Dn d.nodes)(hn:d.nodes[i]?=some n)(hi:n.ino=a.2):FL f a=(i:Int):=by
 rw[PH ha hq];refine S6 hn (by simpa using hi) fun j y hj hy=>?_;obtain⟨l1,e1⟩:=At.1 hn;obtain⟨l2,e2⟩:=At.1 hy;have hp:=List.pairwise_iff_getElem.1 hd j i l2 l1 hj;rw[e1,e2]at hp;have:y.ino≠a.2:=by omega
 simpa using this
theorem Tj(f:Aj)(q:Nat)(d':Dvc)(n:Nod)(i:Nat)(a:AQ)(name:AT)(ino:Int)(cap cap1:Nat)(hf:FlsB (f.set q d'))(hq:q<f.length)(ha:a.1=(q:Int))(hi:FL (f.set q d') a=(i:Int))(hn:d'.nodes[i]?=some n)(hcap:f.length≤cap)(hcap1:d'.nodes.length≤cap1):
    ACall prog 232 [.agg [.bs 0 0 2 f.length cap], .agg (AN a), .v (.string name), .v (.int .i64 ino)] [DB f q d' 1 cap cap1,NB d'.nodes cap1] (fun r b t=>t=[]∧r= .tup []∧b=[DB f q d' 1 cap cap1,NB (entS d'.nodes i n name ino) cap1]):=by
 have key:=M0 (f.set q d') q d' n i a name ino cap cap1 hf (by simp[hq]) ha hi hn (by simpa using hcap) hcap1;rw[List.length_set,Pr]at key;exact key
def EL(f:Aj)(a:AQ)(mode uid gid:Int):Aj×Int:=
 if Dz f a=false then([],2)else if FN (EW mode uid gid (B5 f a))=false then([],22)else(Fq f a.1.toNat fun ns=>CW ns a.2 (EW mode uid gid),0)
def MD(R:Aj×Int):AV:= .tup [.agg (B0 R.1), .v (.int .i64 R.2)]
theorem Tk(e:Int):LeA (.tup [.agg [.v (.slice none 0 0)], .v (.int .i64 e)]) (MD ([],e)):=(by repeat (first|exact AA _|exact LeA.nil _|exact LeL.refl _|refine LeA.agg ?_|refine LeA.tup ?_|exact LeL.nil|refine LeL.cons ?_ ?_|exact LeA.any _))
theorem Yi{n:Nod}(h:FN n=true):n.target.size≤128:=by
 unfold FN at h;split at h
 ·cases h
 split at h
 ·simp[Kj]at h;omega
 have h2:=List.isEmpty_iff.1 h;rw[ByteArray.toList_eq]at h2;have:n.target.data.size=0:=by rw[←Array.length_toList,h2];rfl
 show n.target.data.size≤128;omega
theorem QG{f:Aj}(hv:FlsV f)(a:AQ):(B5 f a).target.size≤128:=by
 rcases J4 f a with⟨-,h⟩|⟨k,i,d,n, -,h1,h2, -, -,h⟩
 ·simp only[B5,h,Option.getD_none];exact BV _
 simp only[B5,h,Option.getD_some];exact Yi ((hv.vd d (Aw h1)).plain n (Aw h2))
def Dq(f:Aj)(dir:AQ)(name:AT)(n:Nod):Dm:=
 if CC f dir name≠0 then([],[],CC f dir name)else if FN n=false then([],[],22)else if(AZ f dir name).2=0 then([],[],17)else
 match EG f dir.1 with
 |none=>([],[],2)
 |some d=>if 16≤d.nodes.length∨d.next=1073741824∨J6 f dir=true then([],[],28)else(f.set dir.1.toNat ⟨d.next+1,Bi d.nodes dir.2 name d.next++[EV n d.next dir.2]⟩,[(dir,name,(0,0),(dir.1,d.next))],0)
theorem Tl{f:Aj}{q:Nat}{d:Dvc}{j j' cap cap1 c:Nat}(m:Nod)(hq:q<f.length):SetAt (DB f q d j cap cap1) (0+q * 2+1) [.bs j' 0 8 (d.nodes.length+1) c] (DB f q {d with nodes:=d.nodes++[m]} j' cap c):=by
 have h:=Pq (d:=d) (d':={d with nodes:=d.nodes++[m]}) (j:=j) (j':=j') (cap:=cap) (cap1:=cap1) (cap1':=c) (k:=1) (cs:=[.bs j' 0 8 (d.nodes++[m]).length c]) hq (by repeat constructor) (by simp)
 rwa [List.length_append]at h
section
theorem Yj(f:Aj)(a:AQ)(mode uid gid:Int)(hv:FlsV f):AFn prog 176 [.agg (B0 f), .agg (AN a), .v (.int .i64 mode), .v (.int .i64 uid), .v (.int .i64 gid)] (fun r=>r=MD (EL f a mode uid gid)):=by
 have hf:=hv.b;have htg:=QG hv a;refine enter Tryz.func176 rfl rfl rfl rfl rfl 0 rfl ?_;refine w_ (b_ (h:=b_ (h:=Al (h:=a_ (h:=e_ (w_ (l_ (h:=l_ (h:=?_)))))))));refine A7 rfl (AG (E0 f a hf) ?_);rintro r rfl;refine m_ (h:=x_ (h:=x_ (h:=Al (h:=s_ (h:=a_ (h:=e_ (q_ (w_ (m_ (h:=B9 (h:=e_ (?_))))))))))));refine A8 rfl (fun hb1=>?_) (fun hb1=>?_)
 ·have hc1:=bp hb1;refine w_ (Ak (h:=s_ (h:=a_ (h:=e_ (A4 (A6 (?_)))))));refine Ai (r:=MD (EL f a mode uid gid)) none (h5:=?_) (h6:=⟨rfl,rfl,rfl⟩);rw[EL,if_pos hc1];exact Tk _
 have hc1:=bp hb1;refine AB (w_ (m_ (h:=m_ (h:=m_ (h:=f_ (h:=s_ (h:=f_ (h:=s_ (h:=f_ (h:=s_ (h:=e_ (q_ (w_ (l_ (h:=?_)))))))))))))));refine A7 rfl (AG (SU (EW mode uid gid (B5 f a)) (by show(B5 f a).target.size≤100000;omega)) ?_);rintro r rfl;refine B9 (h:=e_ (?_));refine A8 rfl (fun hb2=>?_) (fun hb2=>?_)
 ·have hc2:=bp hb2;refine w_ (Ak (h:=s_ (h:=a_ (h:=e_ (A4 (A6 (?_)))))));refine Ai (r:=MD (EL f a mode uid gid)) none (h5:=?_) (h6:=⟨rfl,rfl,rfl⟩);rw[EL,if_neg (by simp[hc1]),if_pos hc2];exact Tk _
 have hc2:=bp hb2;obtain⟨q,i,d,n0,hdq,hq,hn0,hino,hidx,hnode⟩:=(J4 f a).resolve_left (fun h=>by simp[Dz,h.2]at hc1);have hil:=(At.1 hn0).1;have hql:=(At.1 hq).1;have hng:B5 f a=n0:=by simp[B5,hnode]
 refine AB (w_ (l_ (h:=?_)));refine A7 rfl (Bk [] rfl (.cons _ _ _ _ _ rfl (AA _) .nil) (by decide) .nil (Kq f q d hf hq (by omega)) ?_);rintro r bc tc ⟨rfl,cap,cap1,hcap,hcap1,rfl,rfl⟩;refine⟨rfl,_,(Kv (n:=4) rfl f q d d.nodes cap cap1:Back _ [] _ [_,_,_,_,_,_]),?_⟩;have hD0:(DB f q d 5 cap cap1)[0+q * 2+1]?=some (.bs 5 0 8 d.nodes.length cap1):=Hk hql
 have hset:SetAt (NB d.nodes cap1) (0+i * 8) (Am (EW mode uid gid (B5 f a))) (NB (d.nodes.set i (EW mode uid gid (B5 f a))) cap1):=by
  rw[hng];exact Pp (k:=0) hn0 (by repeat constructor) (by simp[Am])
 refine Al (h:=s_ (h:=e_ (q_ (Bf ([(0,B0 f),(1,AN a),(3,Am (EW mode uid gid (B5 f a))),(4,DB f q d 5 cap cap1),(6,[.bs 4 0 2 f.length cap])]) 13 (h:=AO 0 (h:=?_))))))
 first|refine AJ 1 (h:=?_)|refine BF 1 rfl (fun _ hS=>Bt (row:=DB f q d 5 cap cap1) rfl (kb hS rfl) hD0 ⟨rfl,rfl⟩) ?_
 refine AO 2 (h:=?_)
 first|refine AJ 3 (h:=?_)|refine BF 3 rfl (fun _ hS=>Bt (row:=DB f q d 5 cap cap1) rfl (kb hS rfl) hD0 ⟨rfl,rfl⟩) ?_
 refine BF 4 rfl (fun _ hS=>DE (m:=q) rfl rfl hdq hql ⟨rfl,rfl⟩) ?_;refine AO 5 (h:=?_)
 first|refine AJ 6 (h:=?_)|refine BF 6 rfl (fun _ hS=>Bt (row:=DB f q d 5 cap cap1) rfl (kb hS rfl) hD0 ⟨rfl,rfl⟩) ?_
 first|refine AJ 7 (h:=?_)|refine BF 7 rfl (fun _ hS=>Bt (row:=DB f q d 5 cap cap1) rfl (kb hS rfl) hD0 ⟨rfl,rfl⟩) ?_
 first|refine AJ 8 (h:=?_)|refine BF 8 rfl (fun _ hS=>Bt (row:=DB f q d 5 cap cap1) rfl (kb hS rfl) hD0 ⟨rfl,rfl⟩) ?_
 first|refine AJ 10 (h:=?_)|refine BF 10 rfl (fun _ hS=>Bt (row:=DB f q d 5 cap cap1) rfl (kb hS rfl) hD0 ⟨rfl,rfl⟩) ?_
 refine c_ 9 rfl (D3 2 rfl (.cons _ _ _ _ _ rfl (LeA.of_eq (Ji hq hcap hcap1 (BV _) (BV _) rfl rfl)) (.cons _ _ _ _ _ rfl (AA _) .nil)) (Jd f a hf) ?_);rintro r rfl;refine⟨rfl,?_⟩;refine o_ (h:=?_);refine BF 11 rfl (fun _ hS=>DE (m:=i) rfl rfl hidx hil ⟨rfl,rfl⟩) ?_;refine BH 12 rfl (BC rfl rfl rfl rfl rfl rfl hset (by repeat constructor) ?_);refine o_ (h:=z_ (h:=t_ (?_)));refine BR (fun t=>t=⟨look [(10, .bp 2 0),(11, .v (.int .i64 0))],⟨[B0 f,AN a,B0 (f.set q {d with nodes:=d.nodes.set i (EW mode uid gid (B5 f a))})],[]⟩⟩) ?_ ?_
 ·skip
  refine AR (l_ (h:=s_ (h:=a_ (h:=AP (?_)))));refine AE ?_;exact⟨_,rfl,ET 3 2 rfl (congrArg (fun x=>[B0 f,AN a,x]) (Gi (k:=0) (i:=4) (j:=5) (d:=d) (d':={d with nodes:=d.nodes.set i (EW mode uid gid (B5 f a))}) hql rfl (by simp) hcap (by simpa using hcap1) (BL rfl) (BL rfl) rfl rfl)) (.cons _ _ _ _ rfl (AA _) (.cons _ _ _ _ rfl (AA _) .nil))⟩
 rintro t rfl;refine A4 (?_);refine A9 ?_;rw[EL,if_neg (by simp[hc1]),if_neg (by simp[hc2]),hdq,Int.toNat_natCast,GG hq,←hino,←MB (hv.vd d (Aw hq)).asc hn0,←hng];rfl
theorem Yk(f:Aj)(dir:AQ)(name:AT)(n:Nod)(hv:FlsV f)(hs:name.size≤100000)(hns:n.target.size≤100000):AFn prog 177 [.agg (B0 f), .agg (AN dir), .v (.string name), .agg (Am n)] (fun r=>r=CE (Dq f dir name n)):=by
 have hf:=hv.b;obtain⟨e0,he0⟩:∃e0:Int,e0=if CC f dir name≠0 then CC f dir name else if FN n=false then 22 else 0:=⟨_,rfl⟩
 refine enter Tryz.func177 rfl rfl rfl rfl rfl 0 rfl ?_;refine w_ (b_ (h:=b_ (h:=b_ (h:=Al (h:=a_ (h:=a_ (h:=e_ (w_ (l_ (h:=l_ (h:=m_ (h:=?_))))))))))));refine A7 rfl (AG (Kl f dir name hf hs) ?_);rintro r rfl;refine a_ (h:=e_ (?_));refine BR (fun t=>t=⟨look [(2, .v (.string name)),(4, .bp 0 0),(5, .bp 1 0),(7, .bp 2 0),(8, .bp 3 0),(9, .v (.slice none 0 0)),(10, .v (.int .i64 0)),(11, .v (.int .i64 e0))],⟨[B0 f,AN dir,Am n,[.v (.slice none 0 0)]],[]⟩⟩) ?_ ?_
 ·skip
  refine w_ (m_ (h:=AD (h:=m_ (h:=?_))));refine AW true rfl rfl (fun hb1=>?_) (fun hb1=>?_)
  ·have hc1:=bp hb1;refine l_ (h:=?_);refine B4 (AG (SU n hns) ?_);rintro r rfl;refine B9 (h:=AF (h:=e_ (?_)));refine A8 rfl (fun hb2=>?_) (fun hb2=>?_)
   ·have hc2:=bp hb2;have hee:e0=22:=by rw[he0,if_neg (by omega),if_pos hc2]
    refine AR (a_ (h:=AP (?_)));refine AE ?_;refine⟨_,rfl,?_⟩;rw[hee];exact(wk 4 0)
   have hc2:=bp hb2;have hee:e0=CC f dir name:=by rw[he0,if_neg (by omega),if_neg (by simp[hc2]),hc1]
   refine Au (?_);refine AE ?_;refine⟨_,rfl,?_⟩;rw[hee];exact(wk 4 0)
  have hc1:=bp hb1;have hee:e0=CC f dir name:=by rw[he0,if_pos hc1]
  refine A3 (h:=A3 (h:=A3 (h:=AM (h:=e_ (Bp (h:=Au (?_)))))));refine AE ?_;refine⟨_,rfl,?_⟩;rw[hee];exact(wk 4 0)
 rintro t rfl;refine q_ (w_ (m_ (h:=Ap (h:=e_ (?_)))));refine A8 rfl (fun hb3=>?_) (fun hb3=>?_)
 ·have hc3:=bp hb3;refine w_ (Ak (h:=m_ (h:=s_ (h:=a_ (h:=a_ (h:=e_ (A4 (A6 (?_)))))))));refine Ai (r:=CE (Dq f dir name n)) none (h5:=?_) (h6:=⟨rfl,rfl,rfl⟩)
  rw[show Dq f dir name n=([],[],e0) by
   unfold Dq;by_cases h:CC f dir name=0
   ·rw[if_neg (by omega)]at he0 ⊢;by_cases h2:FN n=false
    ·rw[if_pos h2]at he0 ⊢;rw[he0]
    rw[if_neg h2]at he0;omega
   rw[if_pos h]at he0 ⊢;rw[he0]]
  exact DN _
 have hc3:=bp hb3
 have hpl:CC f dir name=0:=by
  by_cases h:CC f dir name=0
  ·exact h
  rw[if_pos h]at he0;omega
 have hpn:¬FN n=false:=by
  intro h;rw[if_neg (by omega),if_pos h]at he0;omega
 refine AB (q_ (w_ (l_ (h:=l_ (h:=m_ (h:=?_))))));refine A7 rfl (AG (He f dir name hf) ?_);rintro r rfl;refine m_ (h:=x_ (h:=x_ (h:=Al (h:=s_ (h:=a_ (h:=e_ (w_ (m_ (h:=AD (h:=e_ (?_)))))))))));refine A8 rfl (fun hb4=>?_) (fun hb4=>?_)
 ·have hc4:=bp hb4;refine w_ (Ak (h:=s_ (h:=a_ (h:=a_ (h:=e_ (A4 (A6 (?_))))))));refine Ai (r:=CE (Dq f dir name n)) none (h5:=?_) (h6:=⟨rfl,rfl,rfl⟩);rw[Dq,if_neg (by omega),if_neg hpn,if_pos (by omega)];exact DN _
 have hc4:=bp hb4;obtain⟨q,i,d,n0,hdq,hq,hn0,hino,hidx,hnode,hk0,hnm⟩:=Gj (name:=name) (dir:=dir) (f:=f) hpl;have hil:=(At.1 hn0).1;have hql:=(At.1 hq).1;have hvd:=hv.vd d (Aw hq);have hatI:EG f dir.1=some d:=by rw[hdq,Ki,hq]
 have hrow:(f.map Cc)[q]?=some (Cc d):=by rw[List.getElem?_map,hq];rfl
 have hnx1:=hvd.next2;have hnx2:=hvd.nextM;have hdl:=hvd.len;refine AB (w_ (f_ (h:=l_ (h:=f_ (h:=l_ (h:=?_))))));refine A7 rfl (Cl (n:=q) rfl rfl hdq hrow ?_);refine l_ (h:=Al (h:=s_ (h:=e_ (q_ (w_ (f_ (h:=l_ (h:=n_ (h:=Cw (h:=m_ (h:=?_)))))))))));refine AW false rfl rfl (fun hb5=>?_) (fun hb5=>?_)
 ·have hc5:=bp hb5;refine A3 (h:=A3 (h:=A3 (h:=AF (h:=m_ (h:=A3 (h:=A3 (h:=A3 (h:=AF (h:=e_ (B8 (h:=w_ (Ak (h:=s_ (h:=a_ (h:=a_ (h:=e_ (A4 (A6 (?_)))))))))))))))))));refine Ai (r:=CE (Dq f dir name n)) none (h5:=?_) (h6:=⟨rfl,rfl,rfl⟩);rw[Dq,if_neg (by omega),if_neg hpn,if_neg (by omega),hatI];simp only;rw[if_pos (by first|exact .inl (by simp at *;omega)|exact .inr (.inl (by omega))|exact .inr (.inr (by assumption)))];exact DN _
 have hc5:=bp hb5;refine f_ (h:=l_ (h:=AD (h:=AM (h:=m_ (h:=?_)))));refine AW false rfl rfl (fun hb6=>?_) (fun hb6=>?_)
 ·have hc6:=bp hb6;refine A3 (h:=A3 (h:=A3 (h:=AF (h:=e_ (B8 (h:=w_ (Ak (h:=s_ (h:=a_ (h:=a_ (h:=e_ (A4 (A6 (?_))))))))))))));refine Ai (r:=CE (Dq f dir name n)) none (h5:=?_) (h6:=⟨rfl,rfl,rfl⟩);rw[Dq,if_neg (by omega),if_neg hpn,if_neg (by omega),hatI];simp only;rw[if_pos (by first|exact .inl (by simp at *;omega)|exact .inr (.inl (by omega))|exact .inr (.inr (by assumption)))];exact DN _
 have hc6:=bp hb6;refine l_ (h:=l_ (h:=?_));refine B4 (AG (PM f dir hf) ?_);rintro r rfl;refine AM (h:=e_ (?_));refine A8 rfl (fun hb7=>?_) (fun hb7=>?_)
 ·have hc7:=bp hb7;refine w_ (Ak (h:=s_ (h:=a_ (h:=a_ (h:=e_ (A4 (A6 (?_))))))));refine Ai (r:=CE (Dq f dir name n)) none (h5:=?_) (h6:=⟨rfl,rfl,rfl⟩);rw[Dq,if_neg (by omega),if_neg hpn,if_neg (by omega),hatI];simp only;rw[if_pos (by first|exact .inl (by simp at *;omega)|exact .inr (.inl (by omega))|exact .inr (.inr (by assumption)))];exact DN _
 have hc7:=bp hb7;refine AB (w_ (l_ (h:=?_)));refine A7 rfl (Bk [] rfl (.cons _ _ _ _ _ rfl (AA _) .nil) (by decide) .nil (Kq f q d hf hq (by omega)) ?_);rintro r bc tc ⟨rfl,cap,cap1,hcap,hcap1,rfl,rfl⟩;refine⟨rfl,_,(Kv (n:=6) rfl f q d d.nodes cap cap1:Back _ [] _ [_,_,_,_,_,_,_,_]),?_⟩;have hD0:(DB f q d 7 cap cap1)[0+q * 2+1]?=some (.bs 7 0 8 d.nodes.length cap1):=Hk hql;obtain⟨mk,hmk⟩:∃mk,mk=EV n d.next dir.2:=⟨_,rfl⟩;refine Al (h:=s_ (h:=e_ (w_ (f_ (h:=l_ (h:=f_ (h:=l_ (h:=f_ (h:=l_ (h:=f_ (h:=l_ (h:=f_ (h:=l_ (h:=f_ (h:=l_ (h:=?_))))))))))))))));refine A7 rfl (FJ (y:= .agg (Am ⟨d.next,n.kind,n.mode,n.uid,n.gid,0,n.target,[]⟩)) (D8 ⟨rfl,rfl⟩) ?_);refine Al (h:=s_ (h:=e_ (?_)));refine BR (fun t=>t=⟨look [(2, .v (.string name)),(5, .bp 1 0),(8, .bp 3 0),(15, .bp 8 0),(16, .bp 9 0)],⟨[B0 f,AN dir,Am n,[.v (.slice none 0 0)],AN (AZ f dir name).1,Cc d,DB f q d 7 cap cap1,NB d.nodes cap1,[.bs 6 0 2 f.length cap],Am mk],[]⟩⟩) ?_ ?_
 ·skip
  refine w_ (f_ (h:=l_ (h:=AD (h:=e_ (?_)))));refine A8 rfl (fun hb8=>?_) (fun hb8=>?_)
  ·have hc8:=bp hb8;have hmk2:mk=⟨d.next,n.kind,n.mode,n.uid,n.gid,dir.2,n.target,[]⟩:=by rw[hmk];unfold EV;rw[if_pos hc8]
   refine AR (f_ (h:=l_ (h:=f_ (h:=s_ (h:=AP (?_))))));refine AE ?_;refine⟨_,rfl,?_⟩;rw[hmk2];exact Bb 10 0 (by simp[Af,Ac,Aa,Bw,Bx,AN,Am,B0,Cc])
  have hc8:=bp hb8;have hmk2:mk=⟨d.next,n.kind,n.mode,n.uid,n.gid,0,n.target,[]⟩:=by rw[hmk];unfold EV;rw[if_neg hc8]
  refine Au (?_);refine AE ?_;refine⟨_,rfl,?_⟩;rw[hmk2];exact Bb 10 0 (by simp[Af,Ac,Aa,Bw,Bx,AN,Am,B0,Cc])
 rintro t rfl;refine BR (fun t=>∃capx,(d.nodes++[mk]).length≤capx∧t=⟨look [(2, .v (.string name)),(5, .bp 1 0),(8, .bp 3 0),(15, .bp 8 0),(16, .bp 9 0)],⟨[B0 f,AN dir,Am n,[.v (.slice none 0 0)],AN (AZ f dir name).1,Cc d,DB f q {d with nodes:=d.nodes++[mk]} 7 cap capx,NB (d.nodes++[mk]) capx,[.bs 6 0 2 f.length cap],Am mk],[]⟩⟩) ?_ ?_
 ·skip
  refine Bf ([(0,B0 f),(1,AN dir),(2,Am n),(3,[.v (.slice none 0 0)]),(4,AN (AZ f dir name).1),(5,Cc d),(6,DB f q d 7 cap cap1),(8,[.bs 6 0 2 f.length cap]),(9,Am mk)]) 16 (h:=?_);refine Dp 0 rfl (fun h0 hS=>Gx rfl ⟨rfl,rfl⟩) ?_
  first|refine Dp 1 rfl (fun h0 hS=>Bt (row:=DB f q d 7 cap cap1) rfl (kb hS rfl) hD0 ⟨rfl,rfl⟩) ?_|refine Dp 1 rfl (fun h0 hS=>Bt rfl (kb hS rfl) rfl ⟨rfl,rfl⟩) ?_
  refine Dp 2 rfl (fun h0 hS=>Gx rfl ⟨rfl,rfl⟩) ?_
  first|refine Dp 3 rfl (fun h0 hS=>Bt (row:=DB f q d 7 cap cap1) rfl (kb hS rfl) hD0 ⟨rfl,rfl⟩) ?_|refine Dp 3 rfl (fun h0 hS=>Bt rfl (kb hS rfl) rfl ⟨rfl,rfl⟩) ?_
  refine Dp 4 rfl (fun h0 hS=>Gx rfl ⟨rfl,rfl⟩) ?_
  first|refine Dp 5 rfl (fun h0 hS=>Bt (row:=DB f q d 7 cap cap1) rfl (kb hS rfl) hD0 ⟨rfl,rfl⟩) ?_|refine Dp 5 rfl (fun h0 hS=>Bt rfl (kb hS rfl) rfl ⟨rfl,rfl⟩) ?_
  refine Dp 6 rfl (fun h0 hS=>Gx rfl ⟨rfl,rfl⟩) ?_
  first|refine Dp 7 rfl (fun h0 hS=>Bt (row:=DB f q d 7 cap cap1) rfl (kb hS rfl) hD0 ⟨rfl,rfl⟩) ?_|refine Dp 7 rfl (fun h0 hS=>Bt rfl (kb hS rfl) rfl ⟨rfl,rfl⟩) ?_
  refine Dp 8 rfl (fun h0 hS=>DE (m:=q) rfl rfl hdq hql ⟨rfl,rfl⟩) ?_;refine Dp 9 rfl (fun h0 hS=>Gx rfl ⟨rfl,rfl⟩) ?_
  first|refine Dp 10 rfl (fun h0 hS=>Bt (row:=DB f q d 7 cap cap1) rfl (kb hS rfl) hD0 ⟨rfl,rfl⟩) ?_|refine Dp 10 rfl (fun h0 hS=>Bt rfl (kb hS rfl) rfl ⟨rfl,rfl⟩) ?_
  first|refine Dp 11 rfl (fun h0 hS=>Bt (row:=DB f q d 7 cap cap1) rfl (kb hS rfl) hD0 ⟨rfl,rfl⟩) ?_|refine Dp 11 rfl (fun h0 hS=>GV rfl (kb hS rfl) rfl ⟨rfl,rfl⟩) ?_
  refine Dp 12 rfl (fun h0 hS=>LW (by repeat (first|exact DenseA.nil _|(apply DenseA.cons;(focus exact rfl);(focus exact rfl);(focus exact rfl);(focus exact rfl))|(apply DenseA.consE;(focus exact rfl);(focus exact rfl);(focus exact rfl)))) rfl rfl rfl rfl ⟨rfl,rfl⟩) ?_;refine c_ 13 rfl (Kh rfl rfl rfl (by rw[Lx hcap1];omega) JD (by omega) (by omega) ?_ ?_)
  ·rintro hg row2 bx2 hs hb;obtain rfl:=TP hs hg;obtain rfl:bx2=[_,_,_,_,_,_,_,_,_,_]:=hb.one.2;have hgx:(d.nodes++[mk]).length≤cap1:=by simpa using hg
   refine o_ (h:=?_);refine Dp 14 rfl (fun h0 hS=>DE (m:=q) rfl rfl hdq hql ⟨rfl,rfl⟩) ?_;refine Dp 15 rfl (fun h0 hS=>Gx rfl ⟨rfl,rfl⟩) ?_;refine BH 16 rfl (BC rfl rfl rfl rfl rfl rfl (Tl mk hql) (by repeat constructor) ?_);refine o_ (h:=z_ (h:=?_));refine AE ?_
   first|exact⟨_,⟨_,hgx,rfl⟩,DQ [0,1,2,3,4,5,6,10,8,9] (fun i hi=>absurd hi (Nat.not_lt_zero i)) (by decide) (.cons _ _ _ _ _ rfl rfl (.cons _ _ _ _ _ rfl rfl (.cons _ _ _ _ _ rfl rfl (.cons _ _ _ _ _ rfl rfl (.cons _ _ _ _ _ rfl rfl (.cons _ _ _ _ _ rfl rfl (.cons _ _ _ _ _ rfl (Jh (by rfl) _ _ _ _ _) (.cons _ _ _ _ _ rfl (H4 _ _ _) (.cons _ _ _ _ _ rfl rfl (.cons _ _ _ _ _ rfl rfl .nil)))))))))) (by repeat (first|exact SubK.nil|refine SubK.cons _ _ _ _ rfl (AA _) ?_))⟩|exact⟨_,⟨_,hgx,rfl⟩,Bb 10 0 (by simp[Af,Ac,Aa,Bw,Bx,AN,Am,B0,Cc])⟩
  rintro hg cap3 k bx2 hcp3 hs;rw[show((NB d.nodes cap1).drop 0).take (d.nodes.length * 8)++CQ (.agg (Am mk))++List.replicate ((cap3 - (d.nodes.length+1)) * 8) AV.any=NB (d.nodes++[mk]) cap3 from TO d.nodes mk cap1 cap3]at hs;obtain⟨rfl,rfl⟩:k=10∧bx2=[_,_,_,_,_,_,_,_,_,_,_]:=hs.eq;have hgx:(d.nodes++[mk]).length≤cap3:=by simpa using hcp3
  refine o_ (h:=?_);refine Dp 14 rfl (fun h0 hS=>DE (m:=q) rfl rfl hdq hql ⟨rfl,rfl⟩) ?_;refine Dp 15 rfl (fun h0 hS=>Gx rfl ⟨rfl,rfl⟩) ?_;refine BH 16 rfl (BC rfl rfl rfl rfl rfl rfl (Tl mk hql) (by repeat constructor) ?_);refine o_ (h:=z_ (h:=?_));refine AE ?_
  first|exact⟨_,⟨_,hgx,rfl⟩,DQ [0,1,2,3,4,5,6,10,8,9] (fun i hi=>absurd hi (Nat.not_lt_zero i)) (by decide) (.cons _ _ _ _ _ rfl rfl (.cons _ _ _ _ _ rfl rfl (.cons _ _ _ _ _ rfl rfl (.cons _ _ _ _ _ rfl rfl (.cons _ _ _ _ _ rfl rfl (.cons _ _ _ _ _ rfl rfl (.cons _ _ _ _ _ rfl (Jh (by rfl) _ _ _ _ _) (.cons _ _ _ _ _ rfl (H4 _ _ _) (.cons _ _ _ _ _ rfl rfl (.cons _ _ _ _ _ rfl rfl .nil)))))))))) (by repeat (first|exact SubK.nil|refine SubK.cons _ _ _ _ rfl (AA _) ?_))⟩|exact⟨_,⟨_,hgx,rfl⟩,Bb 10 0 (by simp[Af,Ac,Aa,Bw,Bx,AN,Am,B0,Cc])⟩
 rintro t ⟨capx,hcapx,rfl⟩;have hasc2:Dn (d.nodes++[mk]):=List.pairwise_append.2 ⟨hvd.asc,List.pairwise_singleton _ _,fun x hx y hy=>by obtain rfl:=List.mem_singleton.1 hy;rw[hmk];exact hvd.lt x hx⟩;have hn2:(d.nodes++[mk])[i]?=some n0:=by rw[Ck hil];exact hn0
 have hidx2:FL (f.set q ⟨d.next+1,d.nodes++[mk]⟩) dir=(i:Int):=QF hdq (d:=⟨d.next+1,d.nodes++[mk]⟩) (by simp[hql]) hasc2 hn2 hino
 have hf2:FlsB (f.set q ⟨d.next+1,d.nodes++[mk]⟩):=hf.set_ (by have:=hvd.len;simp;omega) (fun m hm=>by
  rcases List.mem_append.1 hm with h|h
  ·have:=hvd.many m h;omega
  obtain rfl:=List.mem_singleton.1 h;rw[hmk];simp[EV])
 have hmki:mk.ino=d.next:=by rw[hmk];rfl
 have hmk0:(Am mk)[0+0]?=some (.v (.int .i64 d.next)):=by rw[hmk];rfl
 refine w_ (f_ (h:=l_ (h:=f_ (h:=l_ (h:=?_)))));refine A7 rfl (DE (m:=q) rfl rfl hdq hql ?_);refine f_ (h:=?_);refine A7 rfl (Bt rfl rfl (Y0 hql) ?_);refine A7 rfl (Kb rfl rfl (by dsimp only;omega) ?_);refine A7 rfl (DE (m:=q) rfl rfl hdq hql ?_);refine f_ (h:=?_);refine K1 (BC rfl rfl rfl rfl rfl rfl (Pq (d':=⟨d.next+1,d.nodes++[mk]⟩) (j':=7) (cap1':=capx) (k:=0) (cs:=[.v (.int .i64 (d.next+1))]) hql (by repeat constructor) (by simp)) (by repeat constructor) ?_);refine e_ (w_ (l_ (h:=l_ (h:=m_ (h:=f_ (h:=l_ (h:=?_)))))));refine A7 rfl (Bk [6,7] rfl (.cons _ _ _ _ _ rfl (AA _) (.cons _ _ _ _ _ rfl (AA _) (.cons _ _ _ _ _ rfl (AA _) (.cons _ _ _ _ _ rfl (LeA.of_eq (show AV.v (.int .i64 mk.ino)=_ by rw[hmki])) .nil)))) (by decide) (.cons _ _ _ _ _ rfl (GD (by rfl) _ _ _ _ _) (.cons _ _ _ _ _ rfl (Fp _ _ _) .nil)) (Tj f q ⟨d.next+1,d.nodes++[mk]⟩ n0 i dir name d.next cap capx hf2 hql hdq hidx2 hn2 hcap hcapx) ?_);rintro r bc tc ⟨rfl,rfl,rfl⟩;refine⟨rfl,_,(Kw (BL rfl) (BL rfl) (by decide) f q ⟨d.next+1,d.nodes++[mk]⟩ (entS (d.nodes++[mk]) i n0 name d.next) cap capx capx:Back _ [6,7] _ [_,_,_,_,_,_,_,_,_,_]),?_⟩;refine e_ (?_);refine BR (fun t=>t=⟨look [(8, .bp 3 0),(9, .sl 7 [DY (dir,name,(0,0),(dir.1,d.next))] none),(10, .v (.int .i64 0))],⟨[B0 f,AN dir,Am n,B0 (f.set q ⟨d.next+1,entS (d.nodes++[mk]) i n0 name d.next⟩)],[]⟩⟩) ?_ ?_
 ·skip
  refine Bf ([(0,B0 f),(1,AN dir),(2,Am n),(4,AN (AZ f dir name).1),(5,Cc d),(8,[.bs 6 0 2 f.length cap]),(9,Am mk)]) 13 (h:=AJ 0 (h:=AJ 1 (h:=AU 2 (h:=?_))));refine BF 3 rfl (fun _ hS=>FH (y:= .agg (AN (0,0))) (D8 ⟨rfl,rfl⟩) (by repeat (first|exact AA _|exact LeA.nil _|exact LeL.refl _|refine LeA.agg ⟨rfl,rfl⟩|refine LeA.tup ⟨rfl,rfl⟩|exact LeL.nil|refine LeL.cons ⟨rfl,rfl⟩ ⟨rfl,rfl⟩|exact LeA.any _)) ⟨rfl,rfl⟩) ?_;refine AO 4 (h:=AJ 5 (h:=AO 6 (h:=?_)));refine BF 7 rfl (fun _ hS=>Bt (row:=Am mk) rfl (kb hS rfl) hmk0 ⟨rfl,rfl⟩) ?_;refine Hc 8 (h:=?_);refine c_ 9 rfl (AG (KA dir name (0,0) (dir.1,d.next)) ?_);rintro r rfl;refine o_ (h:=?_);refine BH 10 rfl (BC rfl rfl rfl rfl rfl rfl (by repeat constructor) (by repeat constructor) ?_);refine o_ (h:=BO 11 (h:=BO 12 (h:=z_ (h:=?_))));refine AE ?_;exact⟨_,rfl,ET 4 2 rfl (congrArg (fun x=>[B0 f,AN dir,Am n,x]) (Gi (k:=0) (i:=6) (j:=7) (d:=⟨d.next+1,d.nodes++[mk]⟩) (d':=⟨d.next+1,entS (d.nodes++[mk]) i n0 name d.next⟩) hql rfl (GH _ _ _ _ _) hcap (by rw[GH];exact hcapx) (BL rfl) (BL rfl) rfl rfl)) (.cons _ _ _ _ rfl (AA _) (.cons _ _ _ _ rfl (AA _) (.cons _ _ _ _ rfl (AA _) .nil)))⟩
 rintro t rfl;refine A4 (?_);refine A9 ?_;rw[List.length_map]at hc5;rw[Dq,if_neg (by omega),if_neg hpn,if_neg (by omega),hatI];simp only;rw[if_neg (by rw[hc7];simp;omega),hdq,Int.toNat_natCast,←hino,←Kx hvd hn0,hino,←hmk,show entS d.nodes i n0 name d.next++[mk]=entS (d.nodes++[mk]) i n0 name d.next by unfold entS;rw[List.set_append_left _ _ hil],←hdq];rfl
end
theorem QH(f:Aj)(hf:FlsB f):AFn prog 182 [.agg (B0 f)] (fun r=>r= .agg (B0 f)):=by
 intro w St bl vs hr hv;have hbl:bl=[]:=by have:=hr.bxlen;simpa using this
 subst hbl;simp only[Ab]at hv;obtain⟨z,zs,rfl,hz,rfl⟩:=hv;have hz':B6 St w (.agg (B0 f)) z:=by have:=G3 _ _ hz;simpa[Cv,Dk,B0]using this
 have hF:=T3 hr.stlt hf hz';refine Calls.mono (Old.Copy_any z f w hF) ?_;rintro e w' ⟨dv,L,rfl,hD,hL,hB⟩;have hsz:=hB.size;obtain⟨d1,d2,d3,d4⟩:=hD;let St':Nat→Nat→Prop:=fun b o=>St b o∨(w.heap.size≤b∧b<w'.heap.size);let G':Gh:=⟨St',[],[]⟩;have hfresh:∀{α:Type} {sz:Nat} {cell:α→Nat→Value} {E:TypeId} {v:Value} {xs:List α},Old.OwnL sz cell E w' w.heap.size v xs→∀b,v.ownBlock=some b→∀o,St' b o:=fun h b hb o=> .inr (h.lt b hb)
 have hents:∀(y:Nod×Value),Old.OwnL 2 Old.entCell 234 w' w.heap.size y.2 y.1.entries→B6 St' w' (.sl 2 (y.1.entries.map FA) none) y.2:=by
  intro y hy;refine Lt hy (hfresh hy) (fun _ _=>rfl) fun e _ j av hj=>?_
  match j,hj with
  |0,hj=>injection hj with hj;subst hj;simp only[B6];rfl
  |1,hj=>injection hj with hj;subst hj;simp only[B6];rfl
 have hnod:∀(y:Nod×Value),Old.OwnL 2 Old.entCell 234 w' w.heap.size y.2 y.1.entries→∀j av,(Am y.1)[j]?=some av→B6 St' w' av (Old.nodCell y j):=by
  intro y hy j av hj
  match j,hj with
  |0,hj=>injection hj with hj;subst hj;simp only[B6];rfl
  |1,hj=>injection hj with hj;subst hj;simp only[B6];rfl
  |2,hj=>injection hj with hj;subst hj;simp only[B6];rfl
  |3,hj=>injection hj with hj;subst hj;simp only[B6];rfl
  |4,hj=>injection hj with hj;subst hj;simp only[B6];rfl
  |5,hj=>injection hj with hj;subst hj;simp only[B6];rfl
  |6,hj=>injection hj with hj;subst hj;simp only[B6];rfl
  |7,hj=>injection hj with hj;subst hj;exact hents y hy
  |j+8,hj=>exact absurd hj (by simp[Am])
 have hdev:B6 St' w' (.sl 2 (L.map fun x=>Cc (Old.dvcOf x)) none) dv:=by
  refine Lt d1 (hfresh d1) (fun _ _=>rfl) fun x hx j av hj=>?_;obtain⟨f1,f2,f3⟩:=(d2 x hx).1
  match j,hj with
  |0,hj=>injection hj with hj;subst hj;simp only[B6];rfl
  |1,hj=>
    injection hj with hj;subst hj;have key:=Lt f1 (St:=St') (hfresh f1) (enc:=fun y=>Am y.1) (fun _ _=>rfl) fun z hz j av hj=>hnod z (f2 z hz).1 j av hj;have e:((Old.dvcOf x).nodes.map Am)=x.2.2.map fun y=>Am y.1:=by simp[Old.dvcOf]
    rw[e];exact key
  |j+2,hj=>exact absurd hj (by simp[Cc])
 have hst:∀b o,St b o→b<w.heap.size:=hr.stlt;refine⟨.agg (B0 f),[],[],G',⟨rfl,rfl,rfl⟩,⟨?_,?_,?_,?_,rfl,?_,?_,?_,?_,rfl,?_,?_,?_⟩,⟨?_,?_,?_⟩,?_⟩
 ·intro i b hi;simp at hi
 ·exact⟨hB.os,hB.tape,hB.output,hB.size,fun k hk _=>hB.block k hk⟩
 ·rintro b o (h|h)
  ·have:=hst b o h;omega
  exact h.2
 ·rintro b o (h|h)
  ·exact .inl h
  exact .inr h.1
 ·show([]:List Nat).Nodup;simp
 ·intro b hb;simp[G']at hb
 ·intro b hb;simp[G']at hb
 ·intro i b row hi;simp[G']at hi
 ·intro g n u T sz rows hg;simp[G']at hg
 ·intro g n u hg;simp[G']at hg
 ·intro g g' n n' u u' hg;simp[G']at hg
 ·exact fun b o h=>⟨.inl h,hB.cell (p:=⟨b,o,none⟩) (hst b o h)⟩
 ·intro i b hi;simp at hi
 ·intro g n u hg;simp at hg
 refine Gw _ _ ?_;unfold B0;rw[←hL,Old.flsOf,List.map_map];simp only[B6,Br];have hdev2:B6 St' w' (.sl 2 (L.map (Cc ∘ Old.dvcOf)) none) dv:=hdev;simp only[B6]at hdev2;exact⟨[dv],rfl,dv,[],rfl,hdev2,rfl⟩
def ME(f:Aj)(a top:AQ):Bool:=Hi f top 17 a
def Fr:List Int:=[2,20,22]
def GJ(a b:Int):Int:=if a=2∨b=2 then 2 else if a=20∨b=20 then 20 else if a=22∨b=22 then 22 else 0
theorem Tm{a b:Int}{j:Nat}{x:Int}(hx:Fr[j]?=some x)(ha:∀i y,i<j→Fr[i]?=some y→¬(a=y∨b=y))(h:a=x∨b=x):GJ a b=x:=by
 unfold GJ
 match j,hx with
 |0,hx=>injection hx with hx;subst hx;rw[if_pos h]
 |1,hx=>
   injection hx with hx;subst hx;rw[if_neg (ha 0 2 (by omega) rfl),if_pos h]
 |2,hx=>
   injection hx with hx;subst hx;rw[if_neg (ha 0 2 (by omega) rfl),if_neg (ha 1 20 (by omega) rfl),if_pos h]
 |j+3,hx=>exact absurd hx (by simp[Fr])
theorem Tn(f:Aj)(a:AQ)(name:AT):CC f a name=0∨CC f a name=2∨CC f a name=20∨CC f a name=22:=by
 unfold CC;split
 ·exact .inr (.inl rfl)
 split
 ·split
  ·exact .inl rfl
  exact .inr (.inr (.inr rfl))
 exact .inr (.inr (.inl rfl))
theorem Yl{a b:Int}(ha:∀i y,i<3→Fr[i]?=some y→¬(a=y∨b=y)):GJ a b=0:=by
 unfold GJ;rw[if_neg (ha 0 2 (by omega) rfl),if_neg (ha 1 20 (by omega) rfl),if_neg (ha 2 22 (by omega) rfl)]
theorem QJ{f:Aj}{x y:AQ}{name name2:AT}(h:GJ (CC f x name) (CC f y name2)=0):CC f x name=0∧CC f y name2=0:=by
 unfold GJ at h;split at h
 ·omega
 split at h
 ·omega
 split at h
 ·omega
 rename_i h1 h2 h3;have a:=Tn f x name;have b:=Tn f y name2;omega
def Dr(f:Aj)(src to:AQ)(a o:AQ)(e:Int):Int:=
 if e=0 then(if Ay f o=true∧Ay f a=false then 21 else if Ay f o=false∧Ay f a=true then 20 else if Ay f o=true∧Jc f o=false then 39 else 0)else if J6 f to=true∧src≠to then 28 else 0
def KK(ns:List Nod)(src:AQ)(name:AT)(to:AQ)(name2:AT)(a o:AQ)(e:Int):List Nod:=
 if e=0 then C0 (Bi (Bi ns src.2 name 0) to.2 name2 a.2) o.2 else Bi (Bi ns src.2 name 0) to.2 name2 a.2
def Ho(ns:List Nod)(i:Int)(p:Int)(b:Bool):List Nod:=if b=true then CW ns i (fun n=>{n with parent:=p})else ns
def EM(f:Aj)(src:AQ)(name:AT)(to:AQ)(name2:AT):Dm:=
 if GJ (CC f src name) (CC f to name2)≠0 then([],[],GJ (CC f src name) (CC f to name2))else if(AZ f src name).2≠0 then([],[],(AZ f src name).2)else if src.1≠to.1 then([],[],18)else
 if Ay f (AZ f src name).1=true∧ME f to (AZ f src name).1=true then([],[],22)else if(AZ f to name2).2=0∧(AZ f to name2).1=(AZ f src name).1 then(f,[],0)else
 if Dr f src to (AZ f src name).1 (AZ f to name2).1 (AZ f to name2).2≠0 then([],[],Dr f src to (AZ f src name).1 (AZ f to name2).1 (AZ f to name2).2)else
 (Fq f to.1.toNat fun ns=>Ho (KK ns src name to name2 (AZ f src name).1 (AZ f to name2).1 (AZ f to name2).2) (AZ f src name).1.2 to.2 (Ay f (AZ f src name).1),[(src,name,(AZ f src name).1,(0,0)),(to,name2,(AZ f to name2).1,(AZ f src name).1)],0)
theorem Ym(f:Aj):LeA (.tup [.agg (B0 f), .v (.slice none 0 0), .v (.int .i64 0)]) (CE (f,[],0)):=LeA.tup (.cons (AA _) (.cons (LeA.nil 7) (.cons (AA _) .nil)))
theorem Yn{n:Nat}{bx:List (List AV)}{k i j:Nat}{f:Aj}{q:Nat}{d:Dvc}{cap cap0 cap1:Nat}(hq:q<f.length)(hc:f.length≤cap)(hc1:d.nodes.length≤cap1)(hni:n≤i)(hnj:n≤j)
    (hi:bx[i]?=some (DB f q d j cap cap1)) (hj:bx[j]?=some (NB d.nodes cap1)):Dl (DV n bx (k+2)) (.agg [.bs i 0 2 f.length cap0])= .agg (B0 (f.set q d)):=by
 have key:=Ji (n:=n) (bx:=bx) (k:=k) (i:=i) (j:=j) (f:=f.set q d) (K:=q) (d:=d) (cap:=cap) (cap0:=cap0) (cap1:=cap1) (by simp[hq]) (by simpa using hc) hc1 hni hnj (by rw[hi,Pr]) hj;rw[List.length_set]at key;exact key
theorem Yo{n:Nat}{bx:List (List AV)}{k j sz cap:Nat}{rows:List (List AV)}(hn:n≤j)(hj:bx[j]?=some (CD sz cap rows))(hp:∀r∈rows,∀x∈r,∃v,x= .v v):DV n bx (k+1) j=some (CD sz cap rows):=by
 have:Nat.blt j n=false:=by rw[←Bool.not_eq_true,Nat.blt_eq];omega
 simp only[DV,this,hj,Option.map_some,Lv];rw[Lw _ rfl]
 congr 2
 conv=>rhs;rw[←List.map_id rows]
 apply List.map_congr_left;intro r hr
 conv=>rhs;rw[id,←List.map_id r]
 apply List.map_congr_left;intro x hx;obtain⟨v,rfl⟩:=hp r hr x hx;rfl
theorem Yp(l:List J3):∀r∈l.map DY,∀x∈r,∃v,x= .v v:=by
 intro r hr x hx;obtain⟨c,_,rfl⟩:=List.mem_map.1 hr;simp[DY]at hx;rcases hx with h|h|h|h|h|h|h<;>exact⟨_,h⟩
theorem Yq(l:List J3):∀r∈l.map DY,r.length=7:=by
 intro r hr;obtain⟨c,_,rfl⟩:=List.mem_map.1 hr;rfl
theorem Yr{bx:List (List AV)}(bc:List (List AV))(h:∀r∈bc,∀x∈r,∃v,x= .v v):Back bx [] bc (bx++bc):=by
 refine⟨by simp,fun i row _ h=>?_,fun k i row h=>by simp at h,fun k row hk=>?_⟩
 ·rw[Ck (At.1 h).1];exact h
 rw[Dj (by omega),show bx.length+k - bx.length=k by omega];simp only[List.length_nil,Nat.zero_add]at hk;rw[hk,Lu]
 congr 1
 conv=>lhs;rw[←List.map_id row]
 apply List.map_congr_left;intro x hx;obtain⟨v,rfl⟩:=h row (Aw hk) x hx;rfl
theorem QK{d:Dvc}(hd:Dn d.nodes){i:Nat}{n0:Nod}(hn:d.nodes[i]?=some n0)(name:AT)(ino:Int):entS d.nodes i n0 name ino=Bi d.nodes n0.ino name ino:=by
 unfold entS Bi;rw[←MB hd hn];rfl
section
theorem Ys(d:AQ)(name:AT)(o n:AQ):ACall prog 233 [.agg (AN d), .v (.string name), .agg (AN o), .agg (AN n)] [] (fun r b t=>t=[]∧r= .bs 3 0 7 1 1∧b=[AN d,AN o,AN n,DY (d,name,o,n)]):=by
 refine enter Tryz.func233 rfl rfl rfl rfl rfl 4 rfl ?_;refine w_ (b_ (h:=b_ (h:=b_ (h:=a_ (h:=e_ (w_ (l_ (h:=m_ (h:=l_ (h:=l_ (h:=Ak (h:=?_))))))))))));refine A7 rfl (Wq (k:=3) rfl rfl rfl rfl (by repeat constructor) ?_);refine a_ (h:=e_ (A4 (?_)));refine Ai (r:= .bs 3 0 7 1 1) none (h5:=(AA _)) (h6:=⟨rfl,rfl,rfl⟩)
end
theorem To{n:Nat}{g:Nat→Option (List AV)}{j sz m cap0 cap:Nat}{rows:List (List AV)}(hn:n≤j)(hg:g j=some (CD sz cap rows))(hr:∀r∈rows,r.length=sz)(hm:m=rows.length)(hc:rows.length≤cap):F1 n g (.bs j 0 sz m cap0)= .sl sz rows none:=by
 have:Nat.blt j n=false:=by rw[←Bool.not_eq_true,Nat.blt_eq];omega
 simp only[F1,this];exact Pm hg hr hm hc
theorem Yt(a b c:AQ)(x:J3):∀r∈[AN a,AN b,AN c,DY x],∀y∈r,∃v,y= .v v:=by
 intro r hr y hy;simp only[List.mem_cons,List.not_mem_nil,or_false]at hr;rcases hr with rfl|rfl|rfl|rfl
 ·simp[AN]at hy;rcases hy with h|h<;>exact⟨_,h⟩
 ·simp[AN]at hy;rcases hy with h|h<;>exact⟨_,h⟩
 ·simp[AN]at hy;rcases hy with h|h<;>exact⟨_,h⟩
 simp[DY]at hy;rcases hy with h|h|h|h|h|h|h<;>exact⟨_,h⟩
theorem Tp{j:Nat}{x:Int}(hx:Fr[j]?=some x):x≠0:=by
 match j,hx with
 |0,hx=>injection hx with hx;omega
 |1,hx=>injection hx with hx;omega
 |2,hx=>injection hx with hx;omega
 |j+3,hx=>exact absurd hx (by simp[Fr])
theorem QL{ns:List Nod}{i k:Nat}{n0 m:Nod}(hi:ns[i]?=some n0)(hk:ns[k]?=some m)(name:AT)(ino:Int):∃m',(entS ns i n0 name ino)[k]?=some m'∧m'.ino=m.ino∧m'.entries.length≤m.entries.length+1:=by
 unfold entS;rw[List.getElem?_set];split
 ·rename_i e;subst e;rw[hi]at hk;injection hk with hk;subst hk;exact⟨{n0 with entries:=Cb n0.entries name ino},by rw[if_pos (At.1 hi).1],rfl,QC _ _ _⟩
 exact⟨m,hk,rfl,by omega⟩
theorem Tq{ns:List Nod}{i:Nat}{n0:Nod}(hi:ns[i]?=some n0){name:AT}{ino:Int}{m':Nod}(hm:m'∈entS ns i n0 name ino):∃m∈ns,m'.ino=m.ino∧m'.entries.length≤m.entries.length+1:=by
 rcases List.mem_or_eq_of_mem_set hm with h|h
 ·exact⟨m',h,rfl,by omega⟩
 subst h;exact⟨n0,Aw hi,rfl,QC _ _ _⟩
theorem Tr{ns:List Nod}(h:Dn ns){i:Nat}{n0:Nod}(hn:ns[i]?=some n0)(name:AT)(ino:Int):Dn (entS ns i n0 name ino):=by
 have:=QK (d:=⟨0,ns⟩) h hn name ino;simp only at this;rw[this];exact Ku h _ _ _
theorem Yu(f:Aj)(q:Nat)(d d':Dvc)(n:Nod)(i:Nat)(a:AQ)(name:AT)(ino:Int)(cap cap1:Nat)(hf:FlsB (f.set q d'))(hq:q<f.length)(ha:a.1=(q:Int))(hi:FL (f.set q d') a=(i:Int))(hn:d'.nodes[i]?=some n)(hcap:f.length≤cap)(hcap1:d'.nodes.length≤cap1)(hnx:d'.next=d.next)(hl:d'.nodes.length=d.nodes.length):
    ACall prog 232 [.agg [.bs 0 0 2 f.length cap], .agg (AN a), .v (.string name), .v (.int .i64 ino)] [DB f q d 1 cap cap1,NB d'.nodes cap1] (fun r b t=>t=[]∧r= .tup []∧b=[DB f q ⟨d.next,entS d'.nodes i n name ino⟩ 1 cap cap1,NB (entS d'.nodes i n name ino) cap1]):=by
 have key:=Tj f q d' n i a name ino cap cap1 hf hq ha hi hn hcap hcap1;have e1:DB f q d' 1 cap cap1=DB f q d 1 cap cap1:=by unfold DB FO Gg;rw[hnx,hl]
 have e2:DB f q d 1 cap cap1=DB f q ⟨d.next,entS d'.nodes i n name ino⟩ 1 cap cap1:=by unfold DB FO Gg;rw[GH,hl]
 rw[e1]at key;exact key.mono fun r b t ⟨h1,h2,h3⟩=>⟨h1,h2,by rw[h3,e2]⟩
theorem Yv{f:Aj}(hv:FlsV f){q:Nat}{d:Dvc}(hq:f[q]?=some d){i i2:Nat}{n1 n2:Nod}(hn1:d.nodes[i]?=some n1)(hn2:d.nodes[i2]?=some n2)(name name2:AT)(ai:Int)(ha:∃m∈d.nodes,m.ino=ai):
    ∃(X1 X2:List Nod) (m2:Nod),X1=entS d.nodes i n1 name 0∧X1[i2]?=some m2∧m2.ino=n2.ino∧X2=entS X1 i2 m2 name2 ai∧Dn X1∧Dn X2∧X1.length=d.nodes.length∧X2.length=d.nodes.length∧X2=Bi (Bi d.nodes n1.ino name 0) n2.ino name2 ai∧
     FlsB (f.set q ⟨d.next,X1⟩)∧FlsB (f.set q ⟨d.next,X2⟩)∧(∀m∈X2,m.entries.length≤1000)∧(∃m∈X2,m.ino=1)∧∃m∈X2,m.ino=ai:=by
 have hd:=hv.vd d (Aw hq);obtain⟨m2,hm2,hi2,hl2⟩:=QL hn1 hn2 name 0;have e1:=QK hd.asc hn1 name 0;have a1:=Tr hd.asc hn1 name 0;have e2:=QK (d:=⟨0,entS d.nodes i n1 name 0⟩) a1 hm2 name2 ai;simp only at e2;have a2:=Tr a1 hm2 name2 ai
 have hb2:∀m∈entS (entS d.nodes i n1 name 0) i2 m2 name2 ai,m.entries.length≤1000:=fun m hm=>by
  obtain⟨m',h1,_,h2⟩:=Tq hm2 hm;obtain⟨m'',h3,_,h4⟩:=Tq hn1 h1;have:=hd.many m'' h3;omega
 have hmem:∀x:Int,(∃m∈d.nodes,m.ino=x)→∃m∈entS (entS d.nodes i n1 name 0) i2 m2 name2 ai,m.ino=x:=by
  rintro x ⟨m,hm,rfl⟩;obtain⟨k,hk⟩:=List.getElem?_of_mem hm;obtain⟨m',h1,h2,_⟩:=QL hn1 hk name 0;obtain⟨m'',h3,h4,_⟩:=QL hm2 h1 name2 ai;exact⟨m'',Aw h3,h4.trans h2⟩
 obtain⟨r,hr,hr1,_⟩:=hd.rootMem;refine⟨_,_,m2,rfl,hm2,hi2,rfl,a1,a2,GH _ _ _ _ _,by rw[GH,GH],by rw[e2,e1,hi2],hv.entS hq hn1 name 0,hv.b.set_ ?_ hb2,hb2,hmem 1 ⟨r,hr,hr1⟩,hmem ai ha⟩;show(entS _ _ _ _ _).length≤1000;rw[GH,GH];have:=hd.len;omega
section
theorem Yw(f:Aj)(src:AQ)(name:AT)(to:AQ)(name2:AT)(hv:FlsV f)(hs:name.size≤100000)(hs2:name2.size≤100000):AFn prog 175 [.agg (B0 f), .agg (AN src), .v (.string name), .agg (AN to), .v (.string name2)] (fun r=>r=CE (EM f src name to name2)):=by
 have hf:=hv.b;have P1:=Kl f src name hf hs;have P2:=Kl f to name2 hf hs2;have L1:=He f src name hf;have L2:=He f to name2 hf;obtain⟨pa,hpa⟩:∃x,CC f src name=x:=⟨_,rfl⟩;obtain⟨pb,hpb⟩:∃x,CC f to name2=x:=⟨_,rfl⟩;obtain⟨⟨A,e1⟩,hl1⟩:∃x,AZ f src name=x:=⟨_,rfl⟩;obtain⟨⟨O,e2⟩,hl2⟩:∃x,AZ f to name2=x:=⟨_,rfl⟩;rw[hpa]at P1;rw[hpb]at P2;rw[hl1]at L1;rw[hl2]at L2;simp only at L1 L2
 have hRen:EM f src name to name2=(if GJ pa pb≠0 then([],[],GJ pa pb)else if e1≠0 then([],[],e1)else if src.1≠to.1 then([],[],18)else
     if Ay f A=true∧ME f to A=true then([],[],22)else if e2=0∧O=A then(f,[],0)else if Dr f src to A O e2≠0 then([],[],Dr f src to A O e2)else
     (Fq f to.1.toNat fun ns=>Ho (KK ns src name to name2 A O e2) A.2 to.2 (Ay f A),[(src,name,A,(0,0)),(to,name2,O,A)],0)):=by
  unfold EM;rw[hpa,hpb,hl1,hl2]
 have hol:Fr.length=3:=rfl;refine enter Tryz.func175 rfl rfl rfl rfl rfl 0 rfl ?_;refine w_ (b_ (h:=b_ (h:=b_ (h:=Al (h:=a_ (h:=a_ (h:=e_ (q_ (Cp 10 (h:=AJ 0 (h:=AJ 1 (h:=AU 2 (h:=AJ 4 (h:=AJ 5 (h:=AU 6 (h:=?_))))))))))))))));refine c_ 3 rfl (AG (P1) ?_);rintro r rfl;refine o_ (h:=?_);refine c_ 7 rfl (AG (P2) ?_);rintro r rfl;refine o_ (h:=BO 8 (h:=BO 9 (h:=z_ (h:=t_ (w_ (Bd (h:=a_ (h:=e_ (q_ (w_ (a_ (h:=e_ (Ag (?_))))))))))))));refine Be (fun m t=>∃j:Nat,j≤Fr.length∧m=Fr.length - j∧(∀i y,i<j→Fr[i]?=some y→¬(pa=y∨pb=y))∧t=⟨look [(2, .v (.string name)),(4, .v (.string name2)),(5, .bp 0 0),(6, .bp 1 0),(8, .bp 2 0),(10, .bp 3 0),(13, .v (.int .i64 pa)),(14, .v (.int .i64 pb)),(15, .sl 1 (Fr.map C9) none),(16, .v (.int .i64 (j:Int)))],⟨[B0 f,AN src,AN to,[.v (.slice none 0 0)]],[]⟩⟩) (Fr.length) ((wk 4 0)) (⟨0,BV _,rfl,fun i y hi=>by omega,rfl⟩) ?_;rintro m t ⟨j,hj,rfl,ha,rfl⟩;refine q_ (w_ (m_ (h:=m_ (h:=n_ (h:=BB (h:=e_ (?_)))))));refine A8 rfl (fun hb1=>?_) (fun hb1=>?_)
 ·have hc1:=bp hb1;obtain⟨hlt,x,hx,hrow, -⟩:=C1 C9 (l:=Fr) hc1;refine AB (q_ (Ag (w_ (m_ (h:=m_ (h:=m_ (h:=i_ (h:=l_ (h:=AD (h:=m_ (h:=?_)))))))))));refine AW false rfl rfl (fun hb2=>?_) (fun hb2=>?_)
  ·have hc2:=bp hb2;refine A3 (h:=A3 (h:=A3 (h:=A3 (h:=A3 (h:=A3 (h:=AF (h:=e_ (B8 (h:=q_ (?_))))))))));refine Md (fun _=>True) 8 (by kernel_rfl) ?_;refine Ex (i:=0) rfl rfl (by kernel_rfl) (by first|rfl|exact Ba rfl rfl (DZ ‹_›)|exact Ba rfl rfl (Da ‹_›)|exact Ba rfl rfl (by simp[*])) (fun h0 hS=>D8 ⟨rfl,rfl⟩) trivial ?_;refine Ex (i:=1) rfl rfl (by kernel_rfl) (by first|rfl|exact Ba rfl rfl (DZ ‹_›)|exact Ba rfl rfl (Da ‹_›)|exact Ba rfl rfl (by simp[*])) (fun h0 hS=>HU rfl ⟨rfl,rfl⟩) trivial ?_;refine Ex (i:=2) rfl rfl (by kernel_rfl) (by first|rfl|exact Ba rfl rfl (DZ ‹_›)|exact Ba rfl rfl (Da ‹_›)|exact Ba rfl rfl (by simp[*])) (fun h0 hS=>HU rfl ⟨rfl,rfl⟩) trivial ?_;refine Ex (i:=3) rfl rfl (by kernel_rfl) (by first|rfl|exact Ba rfl rfl (DZ ‹_›)|exact Ba rfl rfl (Da ‹_›)|exact Ba rfl rfl (by simp[*])) (fun h0 hS=>Cl rfl rfl rfl (by first|assumption|rfl) ⟨rfl,rfl⟩) trivial ?_;refine Ex (i:=4) rfl rfl (by kernel_rfl) (by first|rfl|exact Ba rfl rfl (DZ ‹_›)|exact Ba rfl rfl (Da ‹_›)|exact Ba rfl rfl (by simp[*])) (fun h0 hS=>KZ rfl rfl ⟨rfl,rfl⟩) trivial ?_;refine BH 5 rfl (BC rfl rfl rfl rfl rfl rfl (by repeat constructor) (by repeat constructor) ?_);refine⟨.inr trivial,?_⟩;refine Ex (i:=6) rfl rfl (by kernel_rfl) (by first|rfl|exact Ba rfl rfl (DZ ‹_›)|exact Ba rfl rfl (Da ‹_›)|exact Ba rfl rfl (by simp[*])) (fun h0 hS=>FY rfl ⟨rfl,rfl⟩) trivial ?_;refine Ex (i:=7) rfl rfl (by kernel_rfl) (by first|rfl|exact Ba rfl rfl (DZ ‹_›)|exact Ba rfl rfl (Da ‹_›)|exact Ba rfl rfl (by simp[*])) (fun h0 hS=>FY rfl ⟨rfl,rfl⟩) trivial ?_;refine z_ (h:=t_ (A4 (AK (A6 (A6 (AK (A6 (?_))))))));refine Ai (r:=CE (EM f src name to name2)) none (h5:=?_) (h6:=⟨rfl,rfl,rfl⟩);rw[hRen,show GJ pa pb=x from Tm hx ha (.inl hc2),if_pos (Tp hx)];exact DN _
  have hc2:=bp hb2;refine m_ (h:=m_ (h:=m_ (h:=i_ (h:=l_ (h:=AD (h:=AM (h:=e_ (?_))))))));refine A8 rfl (fun hb3=>?_) (fun hb3=>?_)
  ·have hc3:=bp hb3;refine q_ (?_);refine Md (fun _=>True) 8 (by kernel_rfl) ?_;refine Ex (i:=0) rfl rfl (by kernel_rfl) (by first|rfl|exact Ba rfl rfl (DZ ‹_›)|exact Ba rfl rfl (Da ‹_›)|exact Ba rfl rfl (by simp[*])) (fun h0 hS=>D8 ⟨rfl,rfl⟩) trivial ?_;refine Ex (i:=1) rfl rfl (by kernel_rfl) (by first|rfl|exact Ba rfl rfl (DZ ‹_›)|exact Ba rfl rfl (Da ‹_›)|exact Ba rfl rfl (by simp[*])) (fun h0 hS=>HU rfl ⟨rfl,rfl⟩) trivial ?_;refine Ex (i:=2) rfl rfl (by kernel_rfl) (by first|rfl|exact Ba rfl rfl (DZ ‹_›)|exact Ba rfl rfl (Da ‹_›)|exact Ba rfl rfl (by simp[*])) (fun h0 hS=>HU rfl ⟨rfl,rfl⟩) trivial ?_;refine Ex (i:=3) rfl rfl (by kernel_rfl) (by first|rfl|exact Ba rfl rfl (DZ ‹_›)|exact Ba rfl rfl (Da ‹_›)|exact Ba rfl rfl (by simp[*])) (fun h0 hS=>Cl rfl rfl rfl (by first|assumption|rfl) ⟨rfl,rfl⟩) trivial ?_;refine Ex (i:=4) rfl rfl (by kernel_rfl) (by first|rfl|exact Ba rfl rfl (DZ ‹_›)|exact Ba rfl rfl (Da ‹_›)|exact Ba rfl rfl (by simp[*])) (fun h0 hS=>KZ rfl rfl ⟨rfl,rfl⟩) trivial ?_;refine BH 5 rfl (BC rfl rfl rfl rfl rfl rfl (by repeat constructor) (by repeat constructor) ?_);refine⟨.inr trivial,?_⟩;refine Ex (i:=6) rfl rfl (by kernel_rfl) (by first|rfl|exact Ba rfl rfl (DZ ‹_›)|exact Ba rfl rfl (Da ‹_›)|exact Ba rfl rfl (by simp[*])) (fun h0 hS=>FY rfl ⟨rfl,rfl⟩) trivial ?_;refine Ex (i:=7) rfl rfl (by kernel_rfl) (by first|rfl|exact Ba rfl rfl (DZ ‹_›)|exact Ba rfl rfl (Da ‹_›)|exact Ba rfl rfl (by simp[*])) (fun h0 hS=>FY rfl ⟨rfl,rfl⟩) trivial ?_;refine z_ (h:=t_ (A4 (AK (A6 (A6 (AK (A6 (?_))))))));refine Ai (r:=CE (EM f src name to name2)) none (h5:=?_) (h6:=⟨rfl,rfl,rfl⟩);rw[hRen,show GJ pa pb=x from Tm hx ha (.inr hc3),if_pos (Tp hx)];exact DN _
  have hc3:=bp hb3;refine Au (Ah (t_ (AR (m_ (h:=BD (h:=a_ (h:=AP (?_))))))));refine AE ?_;refine⟨_,_,?_,⟨j+1,hlt,rfl,F8 hx ha (not_or.2 ⟨hc2,hc3⟩),rfl⟩,(wk 4 0)⟩;omega
 have hc1:=bp hb1;have e3:=CA C9 (l:=Fr) hj hc1;subst e3;have hord:GJ pa pb=0:=Yl ha;obtain⟨hpl1,hpl2⟩:=QJ (f:=f) (x:=src) (y:=to) (name:=name) (name2:=name2) (by rw[hpa,hpb];exact hord);refine BT (Ao (Ao (BU (t_ (w_ (l_ (h:=l_ (h:=m_ (h:=?_)))))))));refine A7 rfl (AG (L1) ?_);rintro r rfl;refine m_ (h:=x_ (h:=x_ (h:=Al (h:=s_ (h:=a_ (h:=e_ (q_ (w_ (m_ (h:=Ap (h:=e_ (?_))))))))))));refine A8 rfl (fun hb4=>?_) (fun hb4=>?_)
 ·have hc4:=bp hb4;refine w_ (Ak (h:=m_ (h:=s_ (h:=a_ (h:=a_ (h:=e_ (A4 (A6 (?_)))))))));refine Ai (r:=CE (EM f src name to name2)) none (h5:=?_) (h6:=⟨rfl,rfl,rfl⟩);rw[hRen,if_neg (by rw[hord];simp),if_pos hc4];exact DN _
 have hc4:=bp hb4;have he1:e1=0:=by omega
 refine AB (q_ (w_ (f_ (h:=l_ (h:=f_ (h:=l_ (h:=Ap (h:=e_ (?_)))))))));refine A8 rfl (fun hb5=>?_) (fun hb5=>?_)
 ·have hc5:=bp hb5;refine w_ (Ak (h:=s_ (h:=a_ (h:=a_ (h:=e_ (A4 (A6 (?_))))))));refine Ai (r:=CE (EM f src name to name2)) none (h5:=?_) (h6:=⟨rfl,rfl,rfl⟩);rw[hRen,if_neg (by rw[hord];simp),if_neg (by simp[he1]),if_pos hc5];exact DN _
 have hc5:=bp hb5;refine AB (w_ (l_ (h:=l_ (h:=?_))));refine A7 rfl (AG (Hd f A hf) ?_);rintro r rfl;refine a_ (h:=e_ (?_));refine BR (fun t=>(Ay f A=true→ME f to A=false)∧t=⟨look [(2, .v (.string name)),(4, .v (.string name2)),(5, .bp 0 0),(6, .bp 1 0),(8, .bp 2 0),(10, .bp 3 0),(17, .bp 4 0),(19, .v (.bool (Ay f A)))],⟨[B0 f,AN src,AN to,[.v (.slice none 0 0)],AN A],[]⟩⟩) ?_ ?_
 ·skip
  refine w_ (m_ (h:=m_ (h:=?_)));refine AW true rfl rfl (fun hb6=>?_) (fun hb6=>?_)
  ·have hc6:=bp hb6;refine l_ (h:=l_ (h:=l_ (h:=?_)));refine B4 (AG (XQ f to A hf) ?_);rintro r rfl;refine AF (h:=e_ (?_));refine A8 rfl (fun hb7=>?_) (fun hb7=>?_)
   ·have hc7:=bp hb7;refine w_ (Ak (h:=s_ (h:=a_ (h:=a_ (h:=e_ (A4 (A6 (?_))))))));refine Ai (r:=CE (EM f src name to name2)) none (h5:=?_) (h6:=⟨rfl,rfl,rfl⟩);rw[hRen,if_neg (by rw[hord];simp),if_neg (by simp[he1]),if_neg (by simp[hc5]),if_pos ⟨hc6,hc7⟩];exact DN _
   have hc7:=bp hb7;have hbl:Ay f A=true→ME f to A=false:=fun _=>hc7;refine Au (?_);refine AE ?_;exact⟨_,⟨hbl,rfl⟩,(wk 5 0)⟩
  have hc6:=bp hb6;have hbl:Ay f A=true→ME f to A=false:=fun h=>absurd (h.symm.trans hc6) (by decide);refine A3 (h:=A3 (h:=A3 (h:=A3 (h:=AM (h:=e_ (Bp (h:=Au (?_))))))));refine AE ?_;exact⟨_,⟨hbl,rfl⟩,(wk 5 0)⟩
 rintro t ⟨hbl,rfl⟩;refine w_ (l_ (h:=l_ (h:=m_ (h:=?_))));refine A7 rfl (AG (L2) ?_);rintro r rfl;refine m_ (h:=x_ (h:=x_ (h:=Al (h:=s_ (h:=a_ (h:=e_ (?_)))))));refine BR (fun t=>(e2=0→O≠A)∧t=⟨look [(2, .v (.string name)),(4, .v (.string name2)),(5, .bp 0 0),(6, .bp 1 0),(8, .bp 2 0),(10, .bp 3 0),(17, .bp 4 0),(18, .v (.int .i64 e2)),(19, .v (.bool (Ay f A))),(20, .bp 5 0)],⟨[B0 f,AN src,AN to,[.v (.slice none 0 0)],AN A,AN O],[]⟩⟩) ?_ ?_
 ·skip
  refine w_ (m_ (h:=AD (h:=m_ (h:=?_))));refine AW true rfl rfl (fun hb8=>?_) (fun hb8=>?_)
  ·have hc8:=bp hb8;refine l_ (h:=l_ (h:=?_));refine B4 (Ha rfl rfl (by repeat constructor) (by repeat constructor) (fun w=>Nc _ _ _ _ w) (by kernel_rfl) ?_);refine AF (h:=e_ (?_));refine A8 rfl (fun hb9=>?_) (fun hb9=>?_)
   ·have hc9:=bp hb9;refine w_ (l_ (h:=?_));refine A7 rfl (AG (QH f hf) ?_);rintro r rfl;refine s_ (h:=a_ (h:=a_ (h:=e_ (A4 (A6 (?_))))));refine Ai (r:=CE (EM f src name to name2)) none (h5:=?_) (h6:=⟨rfl,rfl,rfl⟩);rw[hRen,if_neg (by rw[hord];simp),if_neg (by simp[he1]),if_neg (by simp[hc5]),if_neg (fun h=>absurd h.2 (by rw[hbl h.1];decide)),if_pos ⟨hc8,hc9⟩];exact Ym _
   have hc9:=bp hb9;have hoa:e2=0→O≠A:=fun _=>hc9;refine Au (?_);refine AE ?_;exact⟨_,⟨hoa,rfl⟩,(wk 6 0)⟩
  have hc8:=bp hb8;have hoa:e2=0→O≠A:=fun h=>absurd h hc8;refine A3 (h:=A3 (h:=A3 (h:=AM (h:=e_ (Bp (h:=Au (?_)))))));refine AE ?_;exact⟨_,⟨hoa,rfl⟩,(wk 6 0)⟩
 rintro t ⟨hoa,rfl⟩;refine BR (fun t=>Dr f src to A O e2=0∧t=⟨look [(2, .v (.string name)),(4, .v (.string name2)),(5, .bp 0 0),(6, .bp 1 0),(8, .bp 2 0),(10, .bp 3 0),(17, .bp 4 0),(18, .v (.int .i64 e2)),(19, .v (.bool (Ay f A))),(20, .bp 5 0)],⟨[B0 f,AN src,AN to,[.v (.slice none 0 0)],AN A,AN O],[]⟩⟩) ?_ ?_
 ·skip
  refine w_ (m_ (h:=AD (h:=e_ (?_))));refine A8 rfl (fun hb10=>?_) (fun hb10=>?_)
  ·have hc10:=bp hb10;refine w_ (l_ (h:=l_ (h:=?_)));refine A7 rfl (AG (Hd f O hf) ?_);rintro r rfl;refine a_ (h:=e_ (q_ (w_ (m_ (h:=m_ (h:=?_))))));refine AW true rfl rfl (fun hb11=>?_) (fun hb11=>?_)
   ·have hc11:=bp hb11;refine m_ (h:=B9 (h:=AF (h:=e_ (?_))));refine A8 rfl (fun hb12=>?_) (fun hb12=>?_)
    ·have hc12:=bp hb12;refine w_ (Ak (h:=s_ (h:=a_ (h:=a_ (h:=e_ (A4 (A6 (A6 (?_)))))))));refine Ai (r:=CE (EM f src name to name2)) none (h5:=?_) (h6:=⟨rfl,rfl,rfl⟩);have h2:Dr f src to A O e2=21:=by unfold Dr;simp[hc10,hc11,hc12]
     rw[hRen,if_neg (by rw[hord];simp),if_neg (by simp[he1]),if_neg (by simp[hc5]),if_neg (fun h=>absurd h.2 (by rw[hbl h.1];decide)),if_neg (fun h=>hoa h.1 h.2),h2,if_pos (by decide)];exact DN _
    have hc12:=bp hb12;refine AB (q_ (w_ (m_ (h:=B9 (h:=m_ (h:=A3 (h:=AM (h:=e_ (Bp (h:=AB (w_ (m_ (h:=m_ (h:=l_ (h:=l_ (h:=?_))))))))))))))));refine B4 (AG (ST f O hf) ?_);rintro r rfl;refine B9 (h:=AF (h:=e_ (?_)));refine A8 rfl (fun hb13=>?_) (fun hb13=>?_)
    ·have hc13:=bp hb13;refine w_ (Ak (h:=s_ (h:=a_ (h:=a_ (h:=e_ (A4 (A6 (?_))))))));refine Ai (r:=CE (EM f src name to name2)) none (h5:=?_) (h6:=⟨rfl,rfl,rfl⟩);have h2:Dr f src to A O e2=39:=by unfold Dr;simp[hc10,hc11,hc12,hc13]
     rw[hRen,if_neg (by rw[hord];simp),if_neg (by simp[he1]),if_neg (by simp[hc5]),if_neg (fun h=>absurd h.2 (by rw[hbl h.1];decide)),if_neg (fun h=>hoa h.1 h.2),h2,if_pos (by decide)];exact DN _
    have hc13:=bp hb13;have h2:Dr f src to A O e2=0:=by unfold Dr;simp[hc10,hc11,hc12,hc13]
    refine Au (?_);refine AE ?_;exact⟨_,⟨h2,rfl⟩,(wk 6 0)⟩
   have hc11:=bp hb11;refine A3 (h:=A3 (h:=AM (h:=e_ (Bp (h:=AB (q_ (w_ (m_ (h:=B9 (h:=m_ (h:=m_ (h:=AF (h:=e_ (?_))))))))))))));refine A8 rfl (fun hb14=>?_) (fun hb14=>?_)
   ·have hc14:=bp hb14;refine w_ (Ak (h:=s_ (h:=a_ (h:=a_ (h:=e_ (A4 (A6 (A6 (?_)))))))));refine Ai (r:=CE (EM f src name to name2)) none (h5:=?_) (h6:=⟨rfl,rfl,rfl⟩);have h2:Dr f src to A O e2=20:=by unfold Dr;simp[hc10,hc11,hc14]
    rw[hRen,if_neg (by rw[hord];simp),if_neg (by simp[he1]),if_neg (by simp[hc5]),if_neg (fun h=>absurd h.2 (by rw[hbl h.1];decide)),if_neg (fun h=>hoa h.1 h.2),h2,if_pos (by decide)];exact DN _
   have hc14:=bp hb14;have h2:Dr f src to A O e2=0:=by unfold Dr;simp[hc10,hc11,hc14]
   refine AB (w_ (m_ (h:=m_ (h:=A3 (h:=A3 (h:=A3 (h:=A3 (h:=AM (h:=e_ (Bp (h:=Au (?_))))))))))));refine AE ?_;exact⟨_,⟨h2,rfl⟩,(wk 6 0)⟩
  have hc10:=bp hb10;refine w_ (l_ (h:=l_ (h:=?_)));refine A7 rfl (AG (PM f to hf) ?_);rintro r rfl;refine m_ (h:=?_);refine AW true rfl rfl (fun hb15=>?_) (fun hb15=>?_)
  ·have hc15:=bp hb15;refine l_ (h:=l_ (h:=?_));refine B4 (Ha rfl rfl (by repeat constructor) (by repeat constructor) (fun w=>SV _ _ _ _ w) (by kernel_rfl) ?_);refine AF (h:=e_ (?_));refine A8 rfl (fun hb16=>?_) (fun hb16=>?_)
   ·have hc16:=bp hb16;refine w_ (Ak (h:=s_ (h:=a_ (h:=a_ (h:=e_ (A4 (A6 (?_))))))));refine Ai (r:=CE (EM f src name to name2)) none (h5:=?_) (h6:=⟨rfl,rfl,rfl⟩);have h2:Dr f src to A O e2=28:=by unfold Dr;rw[if_neg hc10,if_pos ⟨hc15,hc16⟩]
    rw[hRen,if_neg (by rw[hord];simp),if_neg (by simp[he1]),if_neg (by simp[hc5]),if_neg (fun h=>absurd h.2 (by rw[hbl h.1];decide)),if_neg (fun h=>hoa h.1 h.2),h2,if_pos (by decide)];exact DN _
   have hc16:=bp hb16;have h2:Dr f src to A O e2=0:=by unfold Dr;rw[if_neg hc10,if_neg (fun h=>h.2 hc16)]
   refine Au (?_);refine AE ?_;exact⟨_,⟨h2,rfl⟩,(wk 6 0)⟩
  have hc15:=bp hb15;have h2:Dr f src to A O e2=0:=by unfold Dr;rw[if_neg hc10,if_neg (fun h=>absurd (h.1.symm.trans hc15) (by decide))]
  refine A3 (h:=A3 (h:=A3 (h:=AM (h:=e_ (Bp (h:=Au (?_)))))));refine AE ?_;exact⟨_,⟨h2,rfl⟩,(wk 6 0)⟩
 rintro t ⟨h2,rfl⟩;obtain⟨q,i,d,n1,hsq,hq,hn1,hn1i,hidx,hnode,hk1,hnm1⟩:=Gj hpl1;obtain⟨q',i2,d',n2,htq,hq',hn2,hn2i, -,hnode2,hk2,hnm2⟩:=Gj hpl2;obtain rfl:q=q':=by omega
 obtain rfl:d=d':=Option.some.inj (hq.symm.trans hq');have hvd:=hv.vd d (Aw hq);have hql:=(At.1 hq).1;have hil:=(At.1 hn1).1;obtain⟨e,he,hle⟩:=MC hnode hk1 (by rw[hl1];exact he1);have hA1:A=(src.1,e.2):=by rw[hl1]at hle;exact congrArg Prod.fst hle
 have hAm:∃m∈d.nodes,m.ino=A.2:=by rw[hA1];exact(hvd.ent n1 (Aw hn1) e (H5 he).1).2.2
 obtain⟨X1,X2,m2,hX1,hm2,hm2i,hX2,hasc1,hasc2,hx1l,hx2l,hX2D,hf1,hf2,hb2,⟨r,hr,hr1⟩,⟨am,ham,hami⟩⟩:=Yv hv hq hn1 hn2 name name2 A.2 hAm;have hidx2:FL (f.set q ⟨d.next,X1⟩) to=(i2:Int):=QF htq (d:=⟨d.next,X1⟩) (by simp[hql]) hasc1 hm2 (hm2i.trans hn2i)
 have hoo:e2=0→O.1=(q:Int)∧0<(Cn O.2 X2).length:=by
  intro h;obtain⟨e',he',hle'⟩:=MC hnode2 hk2 (by rw[hl2];exact h);have hO1:O=(to.1,e'.2):=by rw[hl2]at hle';exact congrArg Prod.fst hle'
  refine⟨by rw[hO1];exact htq,QD hr ?_⟩;rw[hr1,hO1];exact(hvd.ent n2 (Aw hn2) e' (H5 he').1).2.1.symm
 have hO1:e2=0→O.1=A.1:=fun h=>by rw[(hoo h).1,hA1];exact hsq.symm
 obtain⟨NS,hNS⟩:∃NS,NS=(if e2=0 then C0 X2 O.2 else X2):=⟨_,rfl⟩
 have hNSf:NS=X2∨(e2=0∧NS=C0 X2 O.2):=by
  by_cases h:e2=0
  ·exact .inr ⟨h,by rw[hNS,if_pos h]⟩
  exact .inl (by rw[hNS,if_neg h])
 have hsub:NS.Sublist X2:=by
  rcases hNSf with h|⟨_,h⟩
  ·rw[h];exact List.Sublist.refl _
  rw[h];exact List.filter_sublist
 have hasc3:Dn NS:=hasc2.sublist hsub
 have hAN:am∈NS:=by
  rcases hNSf with h|⟨h0,h⟩
  ·rw[h];exact ham
  rw[h];refine List.mem_filter.2 ⟨ham,decide_eq_true (.inl fun e=>hoa h0 ?_)⟩;exact Prod.ext (hO1 h0) (by rw[←e,hami])
 obtain⟨i3,hm3⟩:=List.getElem?_of_mem hAN;have hil3:=(At.1 hm3).1;have hf3:FlsB (f.set q ⟨d.next,NS⟩):=hf.set_ (by have:=hsub.length_le;have:=hvd.len;show NS.length≤1000;omega) fun m hm=>hb2 m (hsub.subset hm);have hidx3:FL (f.set q ⟨d.next,NS⟩) A=(i3:Int):=QF (by rw[hA1];exact hsq) (d:=⟨d.next,NS⟩) (by simp[hql]) hasc3 hm3 hami;obtain⟨m3,rfl⟩:∃m3,m3=am:=⟨_,rfl⟩;have hm3i:=hami;obtain⟨NS2,hNS2⟩:∃NS2,NS2=Ho NS A.2 to.2 (Ay f A):=⟨_,rfl⟩;refine w_ (l_ (h:=?_));refine A7 rfl (Bk [] rfl (.cons _ _ _ _ _ rfl (AA _) .nil) (by decide) .nil (Kq f q d hf hq (by omega)) ?_);rintro r bc tc ⟨rfl,cap,cap1,hcap,hcap1,rfl,rfl⟩;refine⟨rfl,_,(Kv (n:=6) rfl f q d d.nodes cap cap1:Back _ [] _ [_,_,_,_,_,_,_,_]),?_⟩;have hcx1:X1.length≤cap1:=by omega
 have hcx2:X2.length≤cap1:=by omega
 refine Al (h:=s_ (h:=e_ (w_ (l_ (h:=l_ (h:=m_ (h:=?_)))))));refine A7 rfl (Bk [6,7] rfl (.cons _ _ _ _ _ rfl (AA _) (.cons _ _ _ _ _ rfl (AA _) (.cons _ _ _ _ _ rfl (AA _) (.cons _ _ _ _ _ rfl (AA _) .nil)))) (by decide) (.cons _ _ _ _ _ rfl (GD (by rfl) _ _ _ _ _) (.cons _ _ _ _ _ rfl (Fp _ _ _) .nil)) (M0 f q d n1 i src name 0 cap cap1 hf hq hsq hidx hn1 hcap hcap1) ?_);rintro r bc tc ⟨rfl,rfl,rfl⟩;rw[show d.nodes.set i {n1 with entries:=Cb n1.entries name 0}=X1 from hX1.symm];refine⟨rfl,_,(Kw (BL rfl) (BL rfl) (by decide) f q d X1 cap cap1 cap1:Back _ [6,7] _ [_,_,_,_,_,_,_,_,_]),?_⟩;refine e_ (w_ (l_ (h:=l_ (h:=m_ (h:=f_ (h:=l_ (h:=?_)))))));refine A7 rfl (Bk [6,7] rfl (.cons _ _ _ _ _ rfl (AA _) (.cons _ _ _ _ _ rfl (AA _) (.cons _ _ _ _ _ rfl (AA _) (.cons _ _ _ _ _ rfl (AA _) .nil)))) (by decide) (.cons _ _ _ _ _ rfl (GD (by rfl) _ _ _ _ _) (.cons _ _ _ _ _ rfl (Fp _ _ _) .nil)) (Yu f q d ⟨d.next,X1⟩ m2 i2 to name2 A.2 cap cap1 hf1 hql htq hidx2 hm2 hcap hcx1 rfl hx1l) ?_);rintro r bc tc ⟨rfl,rfl,rfl⟩;refine⟨rfl,?_⟩;dsimp only;rw[←hX2];refine⟨_,(Kw (BL rfl) (BL rfl) (by decide) f q ⟨d.next,X2⟩ X2 cap cap1 cap1:Back _ [6,7] _ [_,_,_,_,_,_,_,_,_]),?_⟩;refine e_ (?_);refine BR (fun t=>∃capx,NS.length≤capx∧t=⟨look [(2, .v (.string name)),(4, .v (.string name2)),(6, .bp 1 0),(8, .bp 2 0),(10, .bp 3 0),(17, .bp 4 0),(19, .v (.bool (Ay f A))),(20, .bp 5 0),(22, .bp 8 0)],⟨[B0 f,AN src,AN to,[.v (.slice none 0 0)],AN A,AN O,DB f q ⟨d.next,NS⟩ 7 cap capx,NB NS capx,[.bs 6 0 2 f.length cap]],[]⟩⟩) ?_ ?_
 ·skip
  refine w_ (m_ (h:=AD (h:=e_ (?_))));refine A8 rfl (fun hb17=>?_) (fun hb17=>?_)
  ·have hc17:=bp hb17;have he2:e2=0:=hc17;obtain⟨hoq,hkp⟩:=hoo he2;refine AR (l_ (h:=l_ (h:=?_)));refine A7 rfl (Bk [6,7] rfl (.cons _ _ _ _ _ rfl (AA _) (.cons _ _ _ _ _ rfl (AA _) .nil)) (by decide) (.cons _ _ _ _ _ rfl (GD (by rfl) _ _ _ _ _) (.cons _ _ _ _ _ rfl (Fp _ _ _) .nil)) (QE f q ⟨d.next,X2⟩ ⟨d.next,X2⟩ O cap cap1 hf2 hql hoq hcap hcx2 hkp rfl rfl) ?_);rintro r bc tc ⟨rfl,rfl,⟨hns,rfl⟩|⟨hns,cap2,hcap2,rfl⟩⟩
   ·refine⟨rfl,_,(QB (n:=9) rfl (by decide) (by decide) (by decide) f q ⟨d.next,X2⟩ X2 O f.length cap cap cap1 cap1:Back _ [6,7] _ [_,_,_,_,_,_,_,_,_,_,_]),?_⟩;obtain rfl:NS=X2:=by rw[hNS,if_pos (by assumption)];exact hns
    refine AP (?_);refine AE ?_
    first|exact⟨_,⟨_,hcap2,rfl⟩,DQ [0,1,2,3,4,5,6,11,8] (fun i hi=>absurd hi (Nat.not_lt_zero i)) (by decide) (.cons _ _ _ _ _ rfl rfl (.cons _ _ _ _ _ rfl rfl (.cons _ _ _ _ _ rfl rfl (.cons _ _ _ _ _ rfl rfl (.cons _ _ _ _ _ rfl rfl (.cons _ _ _ _ _ rfl rfl (.cons _ _ _ _ _ rfl (Jh (by rfl) _ _ _ _ _) (.cons _ _ _ _ _ rfl (H4 _ _ _) (.cons _ _ _ _ _ rfl rfl .nil))))))))) (by repeat (first|exact SubK.nil|refine SubK.cons _ _ _ _ rfl (AA _) ?_))⟩|exact⟨_,⟨_,hcx2,rfl⟩,Bb 9 0 (by simp[Af,Ac,Aa,Bw,Bx,AN,B0])⟩
   refine⟨rfl,_,(QA (n:=9) rfl (by decide) (by decide) (by decide) f q ⟨d.next,Cn O.2 X2⟩ X2 (Cn O.2 X2) O f.length cap cap cap1 cap2:Back _ [6,7] _ [_,_,_,_,_,_,_,_,_,_,_,_]),?_⟩;have hNSk:NS=Cn O.2 X2:=by rw[hNS,if_pos (by assumption)];exact hns
   rw[←hNSk]at hcap2;rw[←hNSk];refine AP (?_);refine AE ?_
   first|exact⟨_,⟨_,hcap2,rfl⟩,DQ [0,1,2,3,4,5,6,11,8] (fun i hi=>absurd hi (Nat.not_lt_zero i)) (by decide) (.cons _ _ _ _ _ rfl rfl (.cons _ _ _ _ _ rfl rfl (.cons _ _ _ _ _ rfl rfl (.cons _ _ _ _ _ rfl rfl (.cons _ _ _ _ _ rfl rfl (.cons _ _ _ _ _ rfl rfl (.cons _ _ _ _ _ rfl (Jh (by rfl) _ _ _ _ _) (.cons _ _ _ _ _ rfl (H4 _ _ _) (.cons _ _ _ _ _ rfl rfl .nil))))))))) (by repeat (first|exact SubK.nil|refine SubK.cons _ _ _ _ rfl (AA _) ?_))⟩|exact⟨_,⟨_,hcx2,rfl⟩,Bb 9 0 (by simp[Af,Ac,Aa,Bw,Bx,AN,B0])⟩
  have hc17:=bp hb17;have he2:¬e2=0:=hc17;obtain rfl:NS=X2:=by rw[hNS,if_neg he2]
  refine Au (?_);refine AE ?_
  first|exact⟨_,⟨_,hcap2,rfl⟩,DQ [0,1,2,3,4,5,6,11,8] (fun i hi=>absurd hi (Nat.not_lt_zero i)) (by decide) (.cons _ _ _ _ _ rfl rfl (.cons _ _ _ _ _ rfl rfl (.cons _ _ _ _ _ rfl rfl (.cons _ _ _ _ _ rfl rfl (.cons _ _ _ _ _ rfl rfl (.cons _ _ _ _ _ rfl rfl (.cons _ _ _ _ _ rfl (Jh (by rfl) _ _ _ _ _) (.cons _ _ _ _ _ rfl (H4 _ _ _) (.cons _ _ _ _ _ rfl rfl .nil))))))))) (by repeat (first|exact SubK.nil|refine SubK.cons _ _ _ _ rfl (AA _) ?_))⟩|exact⟨_,⟨_,hcx2,rfl⟩,Bb 9 0 (by simp[Af,Ac,Aa,Bw,Bx,AN,B0])⟩
 rintro t ⟨capx,hcapx,rfl⟩;refine BR (fun t=>t=⟨look [(2, .v (.string name)),(4, .v (.string name2)),(6, .bp 1 0),(8, .bp 2 0),(10, .bp 3 0),(17, .bp 4 0),(20, .bp 5 0),(22, .bp 8 0)],⟨[B0 f,AN src,AN to,[.v (.slice none 0 0)],AN A,AN O,DB f q ⟨d.next,NS⟩ 7 cap capx,NB NS2 capx,[.bs 6 0 2 f.length cap]],[]⟩⟩) ?_ ?_
 ·skip
  refine w_ (m_ (h:=e_ (?_)));refine A8 rfl (fun hb18=>?_) (fun hb18=>?_)
  ·have hc18:=bp hb18;have e4:NS.set i3 {m3 with parent:=to.2}=NS2:=by rw[hNS2,Ho,if_pos hc18,MB hasc3 hm3 (fun n=>{n with parent:=to.2}),hm3i]
   have hset3:SetAt (NB NS capx) (0+i3 * 8+5) [.v (.int .i64 to.2)] (NB NS2 capx):=by
    rw[←e4];exact Pp hm3 (by repeat constructor) (by simp)
   refine Bf ([(0,B0 f),(1,AN src),(2,AN to),(3,[.v (.slice none 0 0)]),(4,AN A),(5,AN O),(6,DB f q ⟨d.next,NS⟩ 7 cap capx),(8,[.bs 6 0 2 f.length cap])]) 15 (h:=AO 0 (h:=?_))
   first|refine AJ 1 (h:=?_)|refine BF 1 rfl (fun _ hS=>Bt (row:=DB f q ⟨d.next,NS⟩ 7 cap capx) rfl (kb hS rfl) (Hk hql) ⟨rfl,rfl⟩) ?_
   refine AO 2 (h:=?_)
   first|refine AJ 3 (h:=?_)|refine BF 3 rfl (fun _ hS=>Bt (row:=DB f q ⟨d.next,NS⟩ 7 cap capx) rfl (kb hS rfl) (Hk hql) ⟨rfl,rfl⟩) ?_
   refine BF 4 rfl (fun _ hS=>DE (m:=q) rfl rfl htq hql ⟨rfl,rfl⟩) ?_;refine AO 5 (h:=?_)
   first|refine AJ 6 (h:=?_)|refine BF 6 rfl (fun _ hS=>Bt (row:=DB f q ⟨d.next,NS⟩ 7 cap capx) rfl (kb hS rfl) (Hk hql) ⟨rfl,rfl⟩) ?_
   first|refine AJ 7 (h:=?_)|refine BF 7 rfl (fun _ hS=>Bt (row:=DB f q ⟨d.next,NS⟩ 7 cap capx) rfl (kb hS rfl) (Hk hql) ⟨rfl,rfl⟩) ?_
   first|refine AJ 8 (h:=?_)|refine BF 8 rfl (fun _ hS=>Bt (row:=DB f q ⟨d.next,NS⟩ 7 cap capx) rfl (kb hS rfl) (Hk hql) ⟨rfl,rfl⟩) ?_
   refine AO 10 (h:=?_)
   first|refine AJ 11 (h:=?_)|refine BF 11 rfl (fun _ hS=>Bt (row:=DB f q ⟨d.next,NS⟩ 7 cap capx) rfl (kb hS rfl) (Hk hql) ⟨rfl,rfl⟩) ?_
   refine c_ 9 rfl (D3 2 rfl (.cons _ _ _ _ _ rfl (LeA.of_eq (Yn (d:=⟨d.next,NS⟩) hql hcap hcapx (BV _) (BV _) rfl rfl)) (.cons _ _ _ _ _ rfl (AA _) .nil)) (Jd (f.set q ⟨d.next,NS⟩) A hf3) ?_);rintro r rfl;refine⟨rfl,?_⟩;refine o_ (h:=?_);refine BF 12 rfl (fun _ hS=>DE (m:=i3) rfl rfl hidx3 hil3 ⟨rfl,rfl⟩) ?_;refine AO 13 (h:=?_);refine BH 14 rfl (BC rfl rfl rfl rfl rfl rfl hset3 (by repeat constructor) ?_);refine o_ (h:=z_ (h:=?_));refine AE ?_;exact⟨_,rfl,Bb 9 0 (by simp[Af,Ac,Aa,Bw,Bx,AN,B0])⟩
  have hc18:=bp hb18;obtain rfl:NS2=NS:=by rw[hNS2,Ho,if_neg (by rw[hc18];decide)]
  refine Au (?_);refine AE ?_;exact⟨_,rfl,Bb 9 0 (by simp[Af,Ac,Aa,Bw,Bx,AN,B0])⟩
 rintro t rfl;have hl3:NS2.length=NS.length:=by rw[hNS2];unfold Ho;split<;>simp[CW]
 have hcapx2:NS2.length≤capx:=by omega
 refine BR (fun t=>t=⟨look [(10, .bp 3 0),(11, .sl 7 ([(src,name,A,(0,0)),(to,name2,O,A)].map DY) none),(12, .v (.int .i64 0))],⟨[B0 f,AN src,AN to,B0 (f.set q ⟨d.next,NS2⟩)],[]⟩⟩) ?_ ?_
 ·skip
  refine Bf ([(0,B0 f),(1,AN src),(2,AN to),(4,AN A),(5,AN O),(6,DB f q ⟨d.next,NS⟩ 7 cap capx),(7,NB NS2 capx),(8,[.bs 6 0 2 f.length cap])]) 15 (h:=AJ 0 (h:=AJ 1 (h:=AU 2 (h:=AJ 3 (h:=?_)))));refine BF 4 rfl (fun _ hS=>FH (y:= .agg (AN (0,0))) (D8 ⟨rfl,rfl⟩) (by repeat (first|exact AA _|exact LeA.nil _|exact LeL.refl _|refine LeA.agg ⟨rfl,rfl⟩|refine LeA.tup ⟨rfl,rfl⟩|exact LeL.nil|refine LeL.cons ⟨rfl,rfl⟩ ⟨rfl,rfl⟩|exact LeA.any _)) ⟨rfl,rfl⟩) ?_;refine AJ 6 (h:=AU 7 (h:=AJ 8 (h:=AJ 9 (h:=?_))));refine c_ 5 rfl (Bk [] rfl (.cons _ _ _ _ _ rfl (AA _) (.cons _ _ _ _ _ rfl (AA _) (.cons _ _ _ _ _ rfl (AA _) (.cons _ _ _ _ _ rfl (AA _) .nil)))) (by decide) .nil (Ys src name A (0,0)) ?_);rintro r bc tc ⟨rfl,rfl,rfl⟩;refine⟨rfl,_,(Yr _ (Yt _ _ _ _):Back _ [] _ [_,_,_,_,_,_,_,_,_,_,_,_,_]),?_⟩;refine o_ (h:=?_);refine c_ 10 rfl (AG (KA to name2 O A) ?_);rintro r rfl;refine o_ (h:=?_);refine c_ 11 rfl (Kh rfl rfl rfl (BL rfl) JD (by omega) (by omega) (fun h=>absurd h (by omega)) ?_);rintro hg cap4 k bx2 hcp4 hs;obtain⟨rfl,rfl⟩:k=13∧bx2=[_,_,_,_,_,_,_,_,_,_,_,_,_,CD 7 cap4 ([(src,name,A,(0,0)),(to,name2,O,A)].map DY)]:=hs.eq;refine o_ (h:=?_);refine BH 12 rfl (BC rfl rfl rfl rfl rfl rfl (by repeat constructor) (by repeat constructor) ?_);refine o_ (h:=BO 13 (h:=BO 14 (h:=z_ (h:=?_))));refine AE ?_;exact⟨_,rfl,ET 4 2 rfl (congrArg (fun x=>[B0 f,AN src,AN to,x]) (Gi (k:=0) (i:=6) (j:=7) (d:=⟨d.next,NS⟩) (d':=⟨d.next,NS2⟩) hql rfl hl3 hcap hcapx2 (BL rfl) (BL rfl) rfl rfl)) (.cons _ _ _ _ rfl (AA _) (.cons _ _ _ _ rfl (LeA.of_eq (To (rows:=[(src,name,A,(0,0)),(to,name2,O,A)].map DY) (BL rfl) (Yo (n:=4) (k:=1) (j:=13) (BL rfl) rfl (Yp _)) (Yq _) rfl hcp4)) (.cons _ _ _ _ rfl (AA _) .nil)))⟩
 rintro t rfl;refine A4 (?_);refine A9 ?_;rw[hRen,if_neg (by rw[hord];simp),if_neg (by simp[he1]),if_neg (by simp[hc5]),if_neg (fun h=>absurd h.2 (by rw[hbl h.1];decide)),if_neg (fun h=>hoa h.1 h.2),if_neg (by rw[h2];simp),htq,Int.toNat_natCast,GG hq,show KK d.nodes src name to name2 A O e2=NS by rw[hNS,hX2D,hn1i,hn2i];rfl,←hNS2];rfl
end
end Go.Proofs.YtbgnigjfkbmceaaGreatDoor
