/-
  Part 12 of the proof of WatchReplacedP: what the statement's proof uses of the texts in wip/tpl.
-/
import Derived.Lib.AppendZerosOnto
import Derived.Test.YtobclmbkdhbnpaaGreatDoorQa11
open Go.Proofs.Tryz (prog)
set_option maxRecDepth 10000
set_option maxHeartbeats 4000000
set_option linter.unusedVariables false
set_option linter.unusedSimpArgs false
namespace Go.Proofs.YtobclmbkdhbnpaaGreatDoor
open Go.RowKit
def ChgOf(f:AT)(Q:Dl):Prop:=(∃dir name a,Q=E1 f dir name a)∨(∃dir name,Q=FQ f dir name)∨(∃dir name,Q=Eu f dir name)∨(∃src name to name2,Q=CG f src name to name2)∨(∃dir name n,Q=Du f dir name n)
theorem ChgOf.okay{f:AT}{Q:Dl}(h:ChgOf f Q)(hv:FlsV f):Hq f Q:=by
 rcases h with⟨_,_,_,rfl⟩|⟨_,_,rfl⟩|⟨_,_,rfl⟩|⟨_,_,_,_,rfl⟩|⟨_,_,_,rfl⟩
 ·exact K7 hv _ _ _
 ·exact K8 hv _ _
 ·exact K9 hv _ _
 ·exact GU hv _ _ _ _
 exact Hs hv _ _ _
def Qk(i:Nat)(n:Nod):List Bp:=n.entries.map fun e=>(((i:Int),n.ino),e.1,(0,0),((i:Int),e.2))
def Ql(i:Nat)(ns:List Nod):List Bp:=ns.flatMap (Qk i)
def Kz(f:AT)(i:Nat):List Bp:=match f[i]? with
 |some d=>Ql i d.nodes
 |none=>[]
def Ga(f:AT):List Bp:=(List.range f.length).flatMap (Kz f)
def OE(c x:Bp):Bool:= !decide (x.1=c.1)|| !decide (x.2.1=c.2.1)
def JZ(l:List Bp)(c:Bp):List Bp:=l.filter (OE c)++(if c.2.2.2=(0,0)then[]else[(c.1,c.2.1,(0,0),c.2.2.2)])
def b6(l:List Bp)(cs:List Bp):List Bp:=cs.foldl JZ l
def Qm(a b:List Bp):Bool:=decide (a.length=b.length)&&a.all fun x=>b.any fun y=>decide (x=y)
theorem b7{f:AT}{x:Bp}:x∈Ga f↔∃(i:Nat) (d:Dvc),f[i]?=some d∧∃n∈d.nodes,∃e∈n.entries,x=(((i:Int),n.ino),e.1,(0,0),((i:Int),e.2)):=by
 unfold Ga;rw[List.mem_flatMap];constructor
 ·rintro⟨i,_,h⟩;unfold Kz at h;split at h
  ·rename_i d hd;unfold Ql Qk at h;obtain⟨n,hn,h⟩:=List.mem_flatMap.1 h;obtain⟨e,he,rfl⟩:=List.mem_map.1 h;exact⟨i,d,hd,n,hn,e,he,rfl⟩
  cases h
 rintro⟨i,d,hd,n,hn,e,he,rfl⟩;refine⟨i,List.mem_range.2 (Ai.1 hd).1,?_⟩;unfold Kz;rw[hd];exact List.mem_flatMap.2 ⟨n,hn,List.mem_map.2 ⟨e,he,rfl⟩⟩
theorem L0{f:AT}(hv:FlsV f):(Ga f).Nodup:=by
 unfold Ga List.Nodup;rw[List.pairwise_flatMap];constructor
 ·intro i _;unfold Kz;split
  ·rename_i d hd;have hvd:=hv.vd d (Aj hd);unfold Ql;rw[List.pairwise_flatMap];constructor
   ·intro n hn;unfold Qk;rw[List.pairwise_map];exact List.Pairwise.imp (R:=fun a b:B1=>DA a.1 b.1=true) (fun{a b} h (e:(((i:Int),n.ino),a.1,((0:Int),(0:Int)),((i:Int),a.2))=((((i:Int),n.ino),b.1,(0,0),((i:Int),b.2)):Bp))=>Kj (a:=a.1) (b:=b.1) h (congrArg (fun x:Bp=>x.2.1) e)) (hvd.sorted n hn)
   refine hvd.asc.imp fun{a b} h x hx y hy e=>?_;obtain⟨_,_,rfl⟩:=List.mem_map.1 hx;obtain⟨_,_,rfl⟩:=List.mem_map.1 hy;have:=congrArg (fun x:Bp=>x.1.2) e;simp only at this;omega
  exact List.Pairwise.nil
 refine List.pairwise_lt_range.imp fun{a b} h x hx y hy e=>?_
 have hk:∀(i:Nat) (x:Bp),x∈Kz f i→x.1.1=(i:Int):=by
  intro i x hx;unfold Kz at hx;split at hx
  ·obtain⟨n,_,hx⟩:=List.mem_flatMap.1 hx;obtain⟨_,_,rfl⟩:=List.mem_map.1 hx;rfl
  cases hx
 have h1:=hk a x hx;have h2:=hk b y hy;rw[e]at h1;omega
theorem Qn{l:List Bp}{c x:Bp}:x∈JZ l c↔(x∈l∧¬(x.1=c.1∧x.2.1=c.2.1))∨(c.2.2.2≠(0,0)∧x=(c.1,c.2.1,(0,0),c.2.2.2)):=by
 unfold JZ;rw[List.mem_append,List.mem_filter]
 have e:(OE c x=true)↔¬(x.1=c.1∧x.2.1=c.2.1):=by
  unfold OE;by_cases h1:x.1=c.1<;>by_cases h2:x.2.1=c.2.1<;>simp[h1,h2]
 rw[e];refine or_congr Iff.rfl ?_;split
 ·rename_i h;simp[h]
 rename_i h;simp[h]
theorem Qo{l:List Bp}(h:l.Nodup)(c:Bp):(JZ l c).Nodup:=by
 unfold JZ;rw[List.nodup_append];refine⟨h.filter _,by split<;>simp,?_⟩;intro a ha b hb e;subst e;split at hb
 ·cases hb
 rw[List.mem_singleton]at hb;have:=(List.mem_filter.1 ha).2;rw[hb]at this;simp[OE]at this
theorem Qp{α:Type}:∀{xs l:List α},xs.Nodup→(∀x∈xs,x∈l)→xs.length≤l.length
 |[],_,_,_=>BJ _
 |x::r,l,h,hs=>by
   obtain⟨h1,h2⟩:=List.nodup_cons.1 h;obtain⟨s,t,rfl⟩:=List.append_of_mem (hs x (by simp))
   have:=Qp (xs:=r) (l:=s++t) h2 fun y hy=>by
    have:=hs y (by simp[hy]);have hne:y≠x:=fun e=>h1 (e ▸ hy);simp only[List.mem_append,List.mem_cons]at this ⊢;rcases this with h|h|h
    ·exact .inl h
    ·exact absurd h hne
    exact .inr h
   simp only[List.length_append,List.length_cons]at this ⊢;omega
theorem Qq{a b:List Bp}(ha:a.Nodup)(hb:b.Nodup)(h:∀x,x∈a↔x∈b):Qm a b=true:=by
 have h1:=Qp ha fun x hx=>(h x).1 hx;have h2:=Qp hb fun x hx=>(h x).2 hx;unfold Qm;simp only[Bool.and_eq_true,decide_eq_true_eq,List.all_eq_true,List.any_eq_true];exact⟨by omega,fun x hx=>⟨x,(h x).1 hx,rfl⟩⟩
def PE(ns:List Nod)(i:Int)(e:B1):Prop:=∃n∈ns,n.ino=i∧e∈n.entries
theorem Qr{es:List B1}{name:AE}{ino:Int}{e:B1}:e∈CU es name ino↔(e∈es∧e.1≠name)∨(ino≠0∧e=(name,ino)):=by
 have hw:e∈Ds name es↔e∈es∧e.1≠name:=by unfold Ds;rw[List.mem_filter];simp
 by_cases h:ino=0
 ·subst h;rw[Fk,hw];simp
 rw[(H0 es name h).mem_iff,List.mem_cons,hw];simp only[ne_eq,h,not_false_eq_true,true_and];exact Or.comm
theorem Mb{ns:List Nod}{p:Int}{name:AE}{ino:Int}{n0:Nod}(h0:n0∈ns)(hp:n0.ino=p){i:Int}{e:B1}:PE (BS ns p name ino) i e↔(PE ns i e∧¬(i=p∧e.1=name))∨(ino≠0∧i=p∧e=(name,ino)):=by
 unfold PE;constructor
 ·rintro⟨m,hm,hi,he⟩;obtain⟨n,hn,w⟩:=Dt hm;rw[w.ents]at he;have hni:n.ino=i:=by rw[←hi,w.ino]
  split at he
  ·rename_i hnp;rcases Qr.1 he with⟨h1,h2⟩|⟨h1,h2⟩
   ·exact .inl ⟨⟨n,hn,hni,h1⟩,fun h=>h2 h.2⟩
   exact .inr ⟨h1,by omega,h2⟩
  rename_i hnp;exact .inl ⟨⟨n,hn,hni,he⟩,fun h=>hnp (by omega)⟩
 rintro(⟨⟨n,hn,hi,he⟩,hne⟩|⟨h1,h2,h3⟩)
 ·obtain⟨m,hm,w⟩:=GR p name ino hn;refine⟨m,hm,by rw[w.ino];exact hi,?_⟩;rw[w.ents];split
  ·rename_i hnp;exact Qr.2 (.inl ⟨he,fun h=>hne ⟨by omega,h⟩⟩)
  exact he
 obtain⟨m,hm,w⟩:=GR p name ino h0;refine⟨m,hm,by rw[w.ino];omega,?_⟩;rw[w.ents,if_pos hp];exact Qr.2 (.inr ⟨h1,h3⟩)
theorem UU{ns:List Nod}{j:Int}(h:∀m∈ns,m.ino=j→m.entries=[]){i:Int}{e:B1}:PE (Bx ns j) i e↔PE ns i e:=by
 unfold PE;constructor
 ·rintro⟨m,hm,hi,he⟩;exact⟨m,(K4.1 hm).1,hi,he⟩
 rintro⟨m,hm,hi,he⟩;refine⟨m,K4.2 ⟨hm, .inl fun hj=>?_⟩,hi,he⟩;rw[h m hm hj]at he;cases he
theorem b8{ns:List Nod}{a p:Int}{b:Bool}{i:Int}{e:B1}:PE (FS ns a p b) i e↔PE ns i e:=by
 unfold FS;split
 ·unfold PE CZ;constructor
  ·rintro⟨m,hm,hi,he⟩;obtain⟨n,hn,rfl⟩:=List.mem_map.1 hm;refine⟨n,hn,?_,?_⟩
   ·rw[←hi];split<;>rfl
   revert he;split<;>exact id
  rintro⟨n,hn,hi,he⟩;refine⟨_,List.mem_map.2 ⟨n,hn,rfl⟩,?_,?_⟩
  ·rw[←hi];split<;>rfl
  split<;>exact he
 exact Iff.rfl
theorem b9{ns:List Nod}{m:Nod}(h:m.entries=[]){i:Int}{e:B1}:PE (ns++[m]) i e↔PE ns i e:=by
 unfold PE;constructor
 ·rintro⟨n,hn,hi,he⟩;rcases List.mem_append.1 hn with hn|hn
  ·exact⟨n,hn,hi,he⟩
  rw[List.mem_singleton.1 hn,h]at he;cases he
 rintro⟨n,hn,hi,he⟩;exact⟨n,List.mem_append_left _ hn,hi,he⟩
theorem UV{f:AT}{x:Bp}:x∈Ga f↔∃(i:Nat) (d:Dvc),f[i]?=some d∧∃e,PE d.nodes x.1.2 e∧x=(((i:Int),x.1.2),e.1,(0,0),((i:Int),e.2)):=by
 rw[b7];constructor
 ·rintro⟨i,d,hd,n,hn,e,he,rfl⟩;exact⟨i,d,hd,e,⟨n,hn,rfl,he⟩,rfl⟩
 rintro⟨i,d,hd,e,⟨n,hn,hi,he⟩,hx⟩;exact⟨i,d,hd,n,hn,e,he,by rw[hx,hi]⟩
theorem Qs{f:AT}{q:Nat}{d:Dvc}(hq:f[q]?=some d){ns':List Nod}(nx:Int){p:Int}{name:AE}{ino:Int}{c:Bp}(h:∀i e,PE ns' i e↔(PE d.nodes i e∧¬(i=p∧e.1=name))∨(ino≠0∧i=p∧e=(name,ino)))(h1:c.1=((q:Int),p))(h2:c.2.1=name)(h3:c.2.2.2=if ino=0 then(0,0)else((q:Int),ino))(x:Bp):x∈JZ (Ga f) c↔x∈Ga (f.set q ⟨nx,ns'⟩):=by
 have hql:=(Ai.1 hq).1;rw[Qn,UV,UV,h1,h2,h3];constructor
 ·rintro(⟨⟨i,d',hd',e,hpe,hx⟩,hne⟩|⟨hn,hx⟩)
  ·by_cases hi:i=q
   ·subst hi;obtain rfl:d=d':=Option.some.inj (hq.symm.trans hd');refine⟨i,⟨nx,ns'⟩,by simp[hql],e,(h _ _).2 (.inl ⟨hpe,fun hh=>hne ?_⟩),hx⟩;rw[hx];exact⟨Prod.ext rfl hh.1,hh.2⟩
   exact⟨i,d',by rw[List.getElem?_set,if_neg (fun e=>hi e.symm)];exact hd',e,hpe,hx⟩
  have hi0:ino≠0:=fun hh=>hn (if_pos hh);rw[if_neg hi0]at hx;refine⟨q,⟨nx,ns'⟩,by simp[hql],(name,ino),(h _ _).2 (.inr ⟨hi0,by rw[hx],rfl⟩),?_⟩;rw[hx]
 rintro⟨i,d',hd',e,hpe,hx⟩;by_cases hi:i=q
 ·subst hi;have:d'=⟨nx,ns'⟩:=by simpa[hql]using hd'.symm
  subst this;rcases(h _ _).1 hpe with⟨hpe',hne⟩|⟨hi0,hp,he⟩
  ·refine .inl ⟨⟨i,d,hq,e,hpe',hx⟩,fun hh=>hne ?_⟩;rw[hx]at hh;refine⟨?_,hh.2⟩;rw[hx];exact congrArg (fun y:A9=>y.2) hh.1
  right;rw[if_neg hi0];refine⟨fun hh=>hi0 (congrArg (fun y:A9=>y.2) hh),?_⟩;rw[hx,he,hp]
 rw[List.getElem?_set,if_neg (fun e=>hi e.symm)]at hd';refine .inl ⟨⟨i,d',hd',e,hpe,hx⟩,fun hh=>hi ?_⟩;rw[hx]at hh;have:=congrArg (fun y:A9=>y.1) hh.1;simp only at this;omega
theorem UW{g:AT}(hv:FlsV g){q:Nat}{d:Dvc}(hq:g[q]?=some d){dir:A9}(hd:dir.1=(q:Int)){e:B1}(h:PE d.nodes dir.2 e):AD g dir e.1=((dir.1,e.2),0):=by
 obtain⟨n,hn,hi,he⟩:=h;have hvd:=hv.vd d (Aj hq);have hnl:=Ks hd hq hvd.asc hn hi;have hk:=hvd.dirOf hn he;unfold AD;rw[hnl];simp only[hk,if_true];split
 ·rename_i hx;exact absurd rfl (MA (es:=n.entries) (name:=e.1) hx e he)
 rename_i e' hx;obtain⟨h1,h2⟩:=FO (es:=n.entries) (name:=e.1) hx;rw[Nv (hvd.sorted n hn) h1 he h2]
theorem UX{g:AT}{q:Nat}{d:Dvc}(hq:g[q]?=some d){dir:A9}(hd:dir.1=(q:Int)){name:AE}(h:∀e,PE d.nodes dir.2 e→e.1≠name):(AD g dir name).1=(0,0):=by
 unfold AD;split
 ·rfl
 rename_i n hn;split
 ·split
  ·rfl
  rename_i e he;exfalso;unfold Bo at hn;rw[hd,Hg,hq]at hn;have h1:=List.mem_of_find?_eq_some hn;have h2:=List.find?_some hn;simp only[beq_iff_eq]at h2;obtain⟨h3,h4⟩:=FO (es:=n.entries) (name:=name) he;exact h e ⟨n,h1,h2,h3⟩ h4
 rfl
theorem bA{f g:AT}{q:Nat}{d:Dvc}{ns':List Nod}{nx:Int}(hql:q<f.length)(hg:g=f.set q ⟨nx,ns'⟩)(hv:FlsV g){p:Int}{name:AE}{ino:Int}{c:Bp}(h:∀i e,PE ns' i e↔(PE d.nodes i e∧¬(i=p∧e.1=name))∨(ino≠0∧i=p∧e=(name,ino)))(h1:c.1=((q:Int),p))(h2:c.2.1=name)(h3:c.2.2.2=if ino=0 then(0,0)else((q:Int),ino)):(AD g c.1 c.2.1).1=c.2.2.2:=by
 have hq:g[q]?=some ⟨nx,ns'⟩:=by rw[hg];simp[hql]
 rw[h1,h2,h3];split
 ·rename_i h0;refine UX hq rfl fun e he hn=>?_;rcases(h _ _).1 he with⟨_,hh⟩|⟨hh,_⟩
  ·exact hh ⟨rfl,hn⟩
  exact hh h0
 rename_i h0;rw[UW hv hq (dir:=((q:Int),p)) rfl (e:=(name,ino)) ((h _ _).2 (.inr ⟨h0,rfl,rfl⟩))]
structure KeptF(f g:AT)(cs:List Bp):Prop where
 alike:Qm (b6 (Ga f) cs) (Ga g)=true
 look:∀c∈cs,(AD f c.1 c.2.1).1=c.2.2.1∧(AD g c.1 c.2.1).1=c.2.2.2∧c.2.2.1≠c.2.2.2
 twice:∀c1 c2,cs=[c1,c2]→¬(c1.1=c2.1∧c1.2.1=c2.2.1)
theorem Qt{f g:AT}(hv:FlsV f)(hvg:FlsV g){q:Nat}{d:Dvc}(hq:f[q]?=some d){ns':List Nod}{nx:Int}(hg:g=f.set q ⟨nx,ns'⟩){p:Int}{name:AE}{ino:Int}{c:Bp}(h:∀i e,PE ns' i e↔(PE d.nodes i e∧¬(i=p∧e.1=name))∨(ino≠0∧i=p∧e=(name,ino)))(h1:c.1=((q:Int),p))(h2:c.2.1=name)(h3:c.2.2.2=if ino=0 then(0,0)else((q:Int),ino))(hold:(AD f c.1 c.2.1).1=c.2.2.1)(hne:c.2.2.1≠c.2.2.2):KeptF f g [c]:=by
 refine⟨?_,?_,?_⟩
 ·refine Qq (Qo (L0 hv) c) (L0 hvg) fun x=>?_;rw[hg];exact Qs hq nx h h1 h2 h3 x
 ·intro c' hc;rw[List.mem_singleton.1 hc];exact⟨hold,bA (Ai.1 hq).1 hg hvg h h1 h2 h3,hne⟩
 intro c1 c2 e;cases e
theorem bB{ns:List Nod}{p:Int}{name:AE}{j:Int}(h:∀m∈ns,m.ino=j→m.entries=[]):∀m∈BS ns p name 0,m.ino=j→m.entries=[]:=by
 intro m hm hi;obtain⟨n,hn,w⟩:=Dt hm;have:=h n hn (by rw[←w.ino];exact hi);rw[w.ents,this];split
 ·rw[Fk];rfl
 rfl
theorem UY{f:AT}(hv:FlsV f){dir:A9}{name:AE}(hpl:C6 f dir name=0)(hl:(AD f dir name).2=0)(hem:∀m,Bo f (AD f dir name).1=some m→m.entries=[])(hvg:FlsV (FP f dir.1.toNat fun ns=>Bx (BS ns dir.2 name 0) (AD f dir name).1.2)):
    KeptF f (FP f dir.1.toNat fun ns=>Bx (BS ns dir.2 name 0) (AD f dir name).1.2) [(dir,name,(AD f dir name).1,(0,0))]:=by
 obtain⟨q,i,d,n0,hdq,hq,hn0,hino,hidx,hnode,hk0,hnm⟩:=Ea hpl;have hvd:=hv.vd d (Aj hq);obtain⟨e,m,he,hle,hm,hei,he1,hmn⟩:=JQ hv hdq hq hn0 hnode hk0 (name:=name) hl;have hm0:=hem m hmn;have hA2:(AD f dir name).1.2=m.ino:=by rw[hle];exact hei
 refine Qt hv hvg hq (by rw[hdq,Int.toNat_natCast,F7 hq]) (p:=dir.2) (name:=name) (ino:=0) (c:=(dir,name,(AD f dir name).1,(0,0))) (fun i e=>?_) (Prod.ext hdq rfl) rfl rfl rfl ?_
 ·rw[UU (bB fun y hy hyi=>?_),Mb (Aj hn0) hino];obtain rfl:y=m:=Cy hvd.asc hy hm (by rw[hyi,hA2]);exact hm0
 intro h;have:(AD f dir name).1.2=0:=congrArg (fun y:A9=>y.2) h;have:=hvd.pos hm;omega
theorem bC{f:AT}(hv:FlsV f){Q:Dl}(h:ChgOf f Q)(h0:Q.2.2=0):KeptF f Q.1 Q.2.1:=by
 have hok:=(h.okay hv h0).1;rcases h with⟨dir,name,a,rfl⟩|⟨dir,name,rfl⟩|⟨dir,name,rfl⟩|⟨src,name,to,name2,rfl⟩|⟨dir,name,n,rfl⟩
 ·unfold E1 at h0 hok ⊢;split at h0
  ·rename_i hh;exact absurd h0 hh
  rename_i hpl;rw[if_neg hpl]at hok ⊢;split at h0
  ·exact absurd h0 (by decide)
  rename_i hha;rw[if_neg hha]at hok ⊢;split at h0
  ·exact absurd h0 (by decide)
  rename_i hdv;rw[if_neg hdv]at hok ⊢;split at h0
  ·exact absurd h0 (by decide)
  rename_i hkd;rw[if_neg hkd]at hok ⊢;split at h0
  ·exact absurd h0 (by decide)
  rename_i hlk;rw[if_neg hlk]at hok ⊢;split at h0
  ·exact absurd h0 (by decide)
  rename_i hfl;rw[if_neg hfl]at hok ⊢;obtain⟨q,i,d,n0,hdq,hq,hn0,hino,hidx,hnode,hk0,hnm⟩:=Ea (f:=f) (dir:=dir) (name:=name) (by omega);have hvd:=hv.vd d (Aj hq);obtain⟨q2,i2,d2,m,haq,hq2,hm,hmi,hmn,hmg⟩:=K5 (f:=f) (a:=a) (by simpa using hha);have hpos:=(hv.vd d2 (Aj hq2)).pos (Aj hm);have ha0:a.2≠0:=by omega
  have haq':a.1=(q:Int):=by omega
  refine Qt hv hok hq (ns':=BS d.nodes dir.2 name a.2) (nx:=d.next) (by show FP f dir.1.toNat _=_;rw[hdq,Int.toNat_natCast,F7 hq];rfl) (p:=dir.2) (name:=name) (ino:=a.2) (fun i e=>Mb (Aj hn0) hino) (Prod.ext hdq rfl) rfl ?_ (K6 hnode hk0 hlk).2 ?_
  ·rw[if_neg ha0];exact Prod.ext haq' rfl
  intro hh;exact ha0 (congrArg (fun y:A9=>y.2) hh).symm
 ·unfold FQ at h0 hok ⊢;split at h0
  ·rename_i hh;exact absurd h0 hh
  rename_i hpl;rw[if_neg hpl]at hok ⊢;split at h0
  ·rename_i hh;exact absurd h0 hh
  rename_i hlk;rw[if_neg hlk]at hok ⊢;split at h0
  ·exact absurd h0 (by decide)
  rename_i hdr;rw[if_neg hdr]at hok ⊢;refine UY hv (by omega) (by omega) (fun m hm=>?_) hok;obtain⟨q2,i2,d2,m',haq,hq2,hm2,hmi,hmn,hmg⟩:=K5 (f:=f) (a:=(AD f dir name).1) (by simp[Cc,hm]);obtain rfl:m=m':=Option.some.inj (hm.symm.trans hmn);exact((hv.vd d2 (Aj hq2)).leaf m (Aj hm2) fun hk=>hdr ((Hr hm).2 hk)).2
 ·unfold Eu at h0 hok ⊢;split at h0
  ·rename_i hh;exact absurd h0 hh
  rename_i hpl;rw[if_neg hpl]at hok ⊢;split at h0
  ·rename_i hh;exact absurd h0 hh
  rename_i hlk;rw[if_neg hlk]at hok ⊢;split at h0
  ·exact absurd h0 (by decide)
  rename_i hdr;rw[if_neg hdr]at hok ⊢;split at h0
  ·exact absurd h0 (by decide)
  rename_i hem;rw[if_neg hem]at hok ⊢;exact UY hv (by omega) (by omega) (fun m hm=>(Nz hm).1 (by simpa using hem)) hok
 ·unfold CG at h0 hok ⊢;split at h0
  ·rename_i hh;exact absurd h0 hh
  rename_i hord;rw[if_neg hord]at hok ⊢;split at h0
  ·rename_i hh;exact absurd h0 hh
  rename_i hl1;rw[if_neg hl1]at hok ⊢;split at h0
  ·exact absurd h0 (by decide)
  rename_i hdev;rw[if_neg hdev]at hok ⊢;split at h0
  ·exact absurd h0 (by decide)
  rename_i hbel;rw[if_neg hbel]at hok ⊢;split at h0
  ·rename_i hsame;rw[if_pos hsame];exact⟨Qq (L0 hv) (L0 hv) fun x=>Iff.rfl,fun c hc=>(by cases hc),fun c1 c2 e=>(by cases e)⟩
  rename_i hsame;rw[if_neg hsame]at hok ⊢;split at h0
  ·rename_i hh;exact absurd h0 hh
  rename_i hr2;rw[if_neg hr2]at hok ⊢;obtain⟨hpl1,hpl2⟩:=Ny (f:=f) (x:=src) (y:=to) (name:=name) (name2:=name2) (by omega);obtain⟨q,i,d,n1,hsq,hq,hn1,hn1i,hidx,hnode,hk1,hnm1⟩:=Ea hpl1;obtain⟨q',i2,d',n2,htq,hq',hn2,hn2i, -,hnode2,hk2,hnm2⟩:=Ea hpl2;obtain rfl:q=q':=by omega
  obtain rfl:d=d':=Option.some.inj (hq.symm.trans hq');have hvd:=hv.vd d (Aj hq);have hm1:=Aj hn1;have hm2:=Aj hn2;have hql:=(Ai.1 hq).1;obtain⟨e,m,he,hle,hm,hem,he1,hmn⟩:=JQ hv hsq hq hn1 hnode hk1 (name:=name) (by omega);have hA2:(AD f src name).1.2=m.ino:=by rw[hle];exact hem
  have hA1:(AD f src name).1.1=(q:Int):=by rw[hle];exact hsq
  have hpos:(AD f src name).1.2≠0:=by have:=hvd.pos hm;omega
  have hne:¬(src=to∧name=name2):=by
   rintro⟨rfl,rfl⟩;exact hsame ⟨by omega,rfl⟩
  have hO:(AD f to name2).2=0→∀y∈d.nodes,y.ino=(AD f to name2).1.2→y.entries=[]∧y.ino≠to.2:=by
   intro hz y hy hyi;have hr3:DQ f src to (AD f src name).1 (AD f to name2).1 (AD f to name2).2=0:=by omega
   unfold DQ at hr3;rw[if_pos hz]at hr3;obtain⟨eo,o,heo,hleo,hom,heoi,heo1,hon⟩:=JQ hv htq hq hn2 hnode2 hk2 (name:=name2) hz;have hO2:(AD f to name2).1.2=eo.2:=by rw[hleo]
   obtain rfl:y=o:=Cy hvd.asc hy hom (by rw[hyi,hO2,heoi])
   have hoe:y.entries=[]:=by
    have hdo:=Hr hon;by_cases hok2:y.kind=2
    ·rw[if_neg (fun hh=>by
        rw[if_pos hh]at hr3;exact absurd hr3 (by decide))]at hr3
     rw[if_neg (fun hh=>by rw[hdo.2 hok2]at hh;exact absurd hh.1 (by decide))]at hr3;split at hr3
     ·exact absurd hr3 (by decide)
     rename_i h5;refine(Nz hon).1 ?_
     cases hem2:Hj f (AD f to name2).1 with
     |true=>rfl
     |false=>exact absurd ⟨hdo.2 hok2,hem2⟩ h5
    exact(hvd.leaf y hom hok2).2
   refine⟨hoe,fun hto=>?_⟩;obtain rfl:y=n2:=Cy hvd.asc hy hm2 (by omega);have:=(FO heo).1;rw[hoe]at this;cases this
  have hPE:∀i e,PE (FS (GT d.nodes src name to name2 (AD f src name).1 (AD f to name2).1 (AD f to name2).2) (AD f src name).1.2 to.2 (Ag f (AD f src name).1)) i e↔(PE (BS d.nodes src.2 name 0) i e∧¬(i=to.2∧e.1=name2))∨((AD f src name).1.2≠0∧i=to.2∧e=(name2,(AD f src name).1.2)):=by
   intro i e;obtain⟨m2,hm2',w2⟩:=GR src.2 name 0 hm2;have hE:=Mb (ns:=BS d.nodes src.2 name 0) (p:=to.2) (name:=name2) (ino:=(AD f src name).1.2) hm2' (by rw[w2.ino];exact hn2i) (i:=i) (e:=e);rw[b8];unfold GT;split
   ·rename_i hz;rw[UU,hE];intro y hy hyi;obtain⟨y1,h1,w1⟩:=Dt hy;obtain⟨y2,h2,w2⟩:=Dt h1;obtain⟨h3,h4⟩:=hO hz y2 h2 (by rw[←w2.ino,←w1.ino];exact hyi);rw[w1.ents,if_neg (by rw[w2.ino];exact h4),w2.ents,h3];split
    ·rw[Fk];rfl
    rfl
   exact hE
  have hPE1:∀i e,PE (BS d.nodes src.2 name 0) i e↔(PE d.nodes i e∧¬(i=src.2∧e.1=name))∨((0:Int)≠0∧i=src.2∧e=(name,0)):=fun i e=>Mb hm1 hn1i
  have hset:(FP f to.1.toNat fun ns=>FS (GT ns src name to name2 (AD f src name).1 (AD f to name2).1 (AD f to name2).2) (AD f src name).1.2 to.2 (Ag f (AD f src name).1))=f.set q ⟨d.next,FS (GT d.nodes src name to name2 (AD f src name).1 (AD f to name2).1 (AD f to name2).2) (AD f src name).1.2 to.2 (Ag f (AD f src name).1)⟩:=by
   rw[htq,Int.toNat_natCast,F7 hq]
  dsimp only at hok ⊢;rw[hset]at hok ⊢;generalize hns':FS (GT d.nodes src name to name2 (AD f src name).1 (AD f to name2).1 (AD f to name2).2) (AD f src name).1.2 to.2 (Ag f (AD f src name).1)=ns' at hPE hok ⊢;have hq1:(f.set q ⟨d.next,BS d.nodes src.2 name 0⟩)[q]?=some ⟨d.next,BS d.nodes src.2 name 0⟩:=by simp[hql]
  have hqg:(f.set q ⟨d.next,ns'⟩)[q]?=some ⟨d.next,ns'⟩:=by simp[hql]
  have hs:src=((q:Int),src.2):=Prod.ext hsq rfl;have ht:to=((q:Int),to.2):=Prod.ext htq rfl;have hA:(AD f src name).1=((q:Int),(AD f src name).1.2):=Prod.ext hA1 rfl;have hA0:(AD f src name).1≠(0,0):=fun hh=>hpos (congrArg (fun y:A9=>y.2) hh);refine⟨?_,?_,?_⟩
  ·refine Qq (Qo (Qo (L0 hv) _) _) (L0 hok) fun x=>?_;have e1:=Qs hq d.next hPE1 (c:=(src,name,(AD f src name).1,(0,0))) hs rfl rfl;have e2:=Qs hq1 d.next hPE (c:=(to,name2,(AD f to name2).1,(AD f src name).1)) ht rfl (by rw[if_neg hpos];exact hA) x;rw[List.set_set]at e2;rw[←e2];show x∈JZ (JZ (Ga f) _) _↔_;rw[Qn,Qn (l:=Ga (f.set q ⟨d.next,BS d.nodes src.2 name 0⟩)),e1 x]
  ·intro c hc;simp only[List.mem_cons,List.not_mem_nil,or_false]at hc;rcases hc with rfl|rfl
   ·refine⟨rfl,?_,hA0⟩;show(AD (f.set q ⟨d.next,ns'⟩) src name).1=(0,0);refine UX hqg hsq fun e he hn=>?_;rcases(hPE _ _).1 he with⟨h1,_⟩|⟨_,h2,h3⟩
    ·rcases(hPE1 _ _).1 h1 with⟨_,h4⟩|⟨h4,_⟩
     ·exact h4 ⟨rfl,hn⟩
     exact h4 rfl
    rw[h3]at hn;exact hne ⟨Prod.ext (by omega) h2,hn.symm⟩
   refine⟨rfl,?_,?_⟩
   ·show(AD (f.set q ⟨d.next,ns'⟩) to name2).1=(AD f src name).1;rw[UW hok hqg htq (e:=(name2,(AD f src name).1.2)) ((hPE _ _).2 (.inr ⟨hpos,rfl,rfl⟩))];exact Prod.ext (by show to.1=_;omega) rfl
   show(AD f to name2).1≠(AD f src name).1;intro hh;by_cases hz:(AD f to name2).2=0
   ·exact hsame ⟨hz,hh⟩
   rw[(K6 hnode2 hk2 hz).2]at hh;exact hA0 hh.symm
  intro c1 c2 hc;injection hc with h1 h2;injection h2 with h2 _;rw[←h1,←h2];exact hne
 unfold Du at h0 hok ⊢;split at h0
 ·rename_i hh;exact absurd h0 hh
 rename_i hpl;rw[if_neg hpl]at hok ⊢;split at h0
 ·exact absurd h0 (by decide)
 rename_i hpn;rw[if_neg hpn]at hok ⊢;split at h0
 ·exact absurd h0 (by decide)
 rename_i hlk;rw[if_neg hlk]at hok ⊢;obtain⟨q,i,d,n0,hdq,hq,hn0,hino,hidx,hnode,hk0,hnm⟩:=Ea (f:=f) (dir:=dir) (name:=name) (by omega);have hvd:=hv.vd d (Aj hq);rw[hdq,Hg,hq]at h0 hok ⊢;dsimp only at h0 hok ⊢;split at h0
 ·exact absurd h0 (by decide)
 rename_i hfl;rw[if_neg hfl]at hok ⊢;have hnx:d.next≠0:=by have:=hvd.next2;omega
 refine Qt hv hok hq (by show f.set _ _=_;rw[Int.toNat_natCast]) (p:=dir.2) (name:=name) (ino:=d.next) (fun i e=>?_) (Prod.ext hdq rfl) rfl ?_ (K6 hnode hk0 hlk).2 ?_
 ·rw[b9 rfl];exact Mb (Aj hn0) hino
 ·rw[if_neg hnx]
 intro hh;exact hnx (congrArg (fun y:A9=>y.2) hh).symm
end Go.Proofs.YtobclmbkdhbnpaaGreatDoor
namespace Go.Proofs.YtobclmbkdhbnpaaGreatDoor
structure Itm where
 given:AE
 path:AE
 dir:A9
 name:AE
 file:A9
 role:Int
 kind:Int
 mode:Int
 uid:Int
 gid:Int
 perm:Int
end Go.Proofs.YtobclmbkdhbnpaaGreatDoor
namespace Go.Proofs.YtobclmbkdhbnpaaGreatDoor
open Go.RowKit
theorem bD(d m:AE):(D7 d m).size≤d.size+1+m.size:=by
 unfold D7;split
 ·rw[ByteArray.size_append];omega
 rw[ByteArray.size_append,ByteArray.size_append];show d.size+1+m.size≤_;omega
theorem bF{s:Spc}(hv:SpcV s)(pre:List A9):(GZ s pre).size≤1+13 * pre.length:=by
 have key:∀(l:List AE) (d:AE),(∀x∈l,x.size≤12)→(l.foldl D7 d).size≤d.size+13 * l.length:=by
  intro l
  induction l with
  |nil=>intro d _;simp
  |cons x l ih=>
    intro d h;have h1:=ih (D7 d x) fun y hy=>h y (List.mem_cons_of_mem _ hy);have h2:=h x (List.mem_cons_self ..);have h3:=bD d x;rw[List.foldl_cons,List.length_cons];omega
 have h:=key (Cn s pre).reverse ⟨#[47]⟩ (fun x hx=>by
  rw[List.mem_reverse]at hx;obtain⟨y,_,rfl⟩:=List.mem_map.1 hx
  exact Qe hv.files y)
 have h2:(Cn s pre).length≤pre.length:=by unfold Cn;rw[List.length_map];exact List.length_filter_le _ _
 rw[List.length_reverse]at h;have:(⟨#[47]⟩:AE).size=1:=rfl;unfold GZ;omega
theorem Qu{s:Spc}(hv:SpcV s)(a:A9):(Bk s a).1.size≤1000:=by
 unfold Bk;split
 ·have h3:=UL s (Bd s.files) a;have h4:=UH hv.files;refine Nat.le_trans (bF hv _) ?_;refine Nat.le_trans (Nat.add_le_add_left (Nat.mul_le_mul_left 13 ((List.takeWhile_sublist _).length_le)) 1) ?_;omega
 exact BJ _
theorem UZ(d:AE)(h:0<d.size):d.data.toList.getLast?=some 47↔(((d[d.size - 1]'(by omega)).toNat:Int)=47):=by
 have hl:d.data.toList.length=d.size:=by simp
 rw[List.getLast?_eq_getElem?,hl,BM (by omega)];show some (d[d.size - 1]'(by omega))=some 47↔_;rw[Option.some.injEq];constructor
 ·intro e;rw[e];rfl
 intro e;refine UInt8.toNat_inj.1 ?_;show _=47;omega
theorem bG{d m:AE}(h:¬0<d.size):D7 d m=d++⟨#[47]⟩++m:=by
 refine if_neg fun e=>?_;have hl:d.data.toList.length=d.size:=by simp
 rw[List.getLast?_eq_getElem?,List.getElem?_eq_none (by omega)]at e;cases e
section
theorem Ua(d m:AE)(hd:d.size≤1000000)(hm:m.size≤1000000):AFn prog 91 [.v (.string d), .v (.string m)] (fun r=>r= .v (.string (D7 d m))):=by
 refine enter Tryz.func91 rfl rfl rfl rfl rfl 0 rfl ?_;refine w_ (a_ (h:=e_ (q_ (w_ (m_ (h:=n_ (h:=CS (h:=m_ (h:=?_)))))))));refine As true rfl rfl (fun hb1=>?_) (fun hb1=>?_)
 ·have hc1:=bp hb1;refine m_ (h:=m_ (h:=n_ (h:=PS (h:=?_))));refine Aw (Hk (n:=d.size - 1) Tryz.underlying9 rfl rfl (by omega) (by omega) ?_);refine Ac (h:=AU (h:=e_ (?_)));refine A8 rfl (fun hb2=>?_) (fun hb2=>?_)
  ·have hc2:=bp hb2;refine w_ (m_ (h:=m_ (h:=?_)));refine A7 rfl (Ef rfl rfl (by omega) ?_);refine a_ (h:=e_ (A6 (A4 (?_))));refine AA ?_;rw[show D7 d m=d++m from if_pos ((UZ d (by omega)).2 hc2)];rfl
  have hc2:=bp hb2;refine AN (w_ (m_ (h:=?_)));refine A7 rfl (Ef rfl rfl (by show d.size+1≤_;omega) ?_);refine m_ (h:=?_);refine A7 rfl (Ef rfl rfl (by rw[ByteArray.size_append];show d.size+1+m.size≤_;omega) ?_);refine a_ (h:=e_ (A6 (?_)));refine AA ?_;rw[show D7 d m=d++⟨#[47]⟩++m from if_neg (fun h=>hc2 ((UZ d (by omega)).1 h))];rfl
 have hc1:=bp hb1;refine A3 (h:=A3 (h:=A3 (h:=A3 (h:=A3 (h:=A3 (h:=Ah (h:=e_ (F5 (h:=AN (w_ (m_ (h:=?_))))))))))));refine A7 rfl (Ef rfl rfl (by show d.size+1≤_;omega) ?_);refine m_ (h:=?_);refine A7 rfl (Ef rfl rfl (by rw[ByteArray.size_append];show d.size+1+m.size≤_;omega) ?_);refine a_ (h:=e_ (A6 (?_)));refine AA ?_;rw[bG (by omega)];rfl
theorem bH(s:Spc)(a:A9)(hs:SpcB s):AFn prog 128 [.agg (Al s.files), .agg (AB a)] (fun r=>r= .v (.string (C9 s a))):=by
 have hen:=Kc hs.files (a.1,(AZ s.files a).parent);change (Ew s a).entries.length≤1000 at hen;refine enter Tryz.func128 rfl rfl rfl rfl rfl 0 rfl ?_;refine w_ (b_ (h:=b_ (h:=a_ (h:=e_ (w_ (l_ (h:=l_ (h:=?_))))))));refine A7 rfl (AK (Dm s.files a hs.files) ?_);rintro r rfl
 skip
 refine m_ (h:=x_ (h:=x_ (h:=Af (h:=s_ (h:=a_ (h:=e_ (w_ (l_ (h:=f_ (h:=l_ (h:=f_ (h:=l_ (h:=Aa (h:=?_))))))))))))));refine A7 rfl (AK (Dm s.files (a.1,(AZ s.files a).parent) hs.files) ?_);rintro r rfl
 skip
 refine m_ (h:=x_ (h:=x_ (h:=Af (h:=s_ (h:=a_ (h:=e_ (q_ (w_ (a_ (h:=e_ (Ao (?_))))))))))));refine Bm (fun m t=>∃j:Nat,j≤(Ew s a).entries.length∧m=(Ew s a).entries.length - j∧(∀i y,i<j→(Ew s a).entries[i]?=some y→decide (y.2=a.2)=false)∧t=⟨look [(3, .bp 1 0),(7, .bp 3 0),(9, .v (.int .i64 (j:Int)))],⟨[Al s.files,AB a,Ab (AZ s.files a),Ab (Ew s a)],[]⟩⟩) ((Ew s a).entries.length) ((wk 4 0)) (⟨0,by omega,rfl,fun i y hi=>by omega,rfl⟩) ?_;rintro m t ⟨j,hj,rfl,ha,rfl⟩;refine q_ (w_ (m_ (h:=f_ (h:=l_ (h:=n_ (h:=BO (h:=e_ (?_))))))));refine A8 rfl (fun hb1=>?_) (fun hb1=>?_)
 ·have hc1:=bp hb1;obtain⟨hlt,x,hy,hrow, -⟩:=CF C7 hc1;refine AN (q_ (Ao (q_ (Dk 9 (h:=AQ 0 (h:=AF 1 (h:=AP 2 (h:=Dr 3 (h:=AQ 4 (h:=AF 5 (h:=AQ 6 (h:=AF 7 (h:=GL 8 (h:=z_ (h:=t_ (?_))))))))))))))));refine A8 rfl (fun hb2=>?_) (fun hb2=>?_)
  ·have hc2:=bp hb2;refine w_ (f_ (h:=l_ (h:=m_ (h:=i_ (h:=f_ (h:=l_ (h:=a_ (h:=e_ (A6 (AR (A4 (A4 (AR (A4 (?_)))))))))))))));refine AA ?_;rw[show C9 s a=x.1 by simp only[C9];rw[GM hy (by simpa using hc2) ha];rfl];rfl
  have hc2:=bp hb2;refine BA (Au (t_ (AX (m_ (h:=B2 (h:=a_ (h:=AW (?_))))))));refine AJ ?_;refine⟨_,_,?_,⟨j+1,by omega,rfl,EW hy ha (by simpa using hc2),rfl⟩,(wk 4 0)⟩;omega
 have hc1:=bp hb1;have e3:=Cx C7 hj hc1;subst e3;refine BU (Am (Am (BV (t_ (w_ (a_ (h:=e_ (A6 (?_)))))))));refine AA ?_;rw[show C9 s a=⟨#[]⟩ by simp only[C9];rw[GN ha];rfl];rfl
end
def Cq(s:AE):List AV:=[.v (.string s)]
theorem Ub{P:Program}{ev:Operand→Option AV}{h:AH}{R:AV→AH→Prop}{d:Option Tmp}{ty:TypeId}{pos:String}{af:Array Edge}{gd:Option (Nat×Bool)}{T:TypeId}{x lo hi:Operand}{s:ByteArray}{a k:Nat}{i j:Int}(hu:P.underlying T=some .string)
    (hx:ev x=some (.v (.string s))) (hl:ev lo=some (.v (.int .i64 i))) (hh:ev hi=some (.v (.int .i64 j))) (hi':i=(a:Int)) (hj:j=(k:Int)) (h1:a≤k) (h2:k≤s.size) (hR:R (.v (.string (s.extract a k))) h):AStep P ⟨d, .slice T x (some lo) (some hi) none,ty,pos,af,gd⟩ ev h R:=by
 refine Cv (fun _ G w ec _ he=>?_) hR;have k1:=he x (by simp[Op.operands]) _ hx;have k2:=he lo (by simp[Op.operands]) _ hl;have k3:=he hi (by simp[Op.operands]) _ hh;simp only[rep]at k1 k2 k3;subst hi' hj;refine⟨.string (s.extract a k),?_,by simp only[rep]⟩;simp[execOp,k1,k2,k3,Instr.sliceAt,Instr.slice,Instr.sliceBounds,Instr.sliceBound,asIntOf,run_underlying hu,h1,h2]
def Ck(s:AE):Bool:=decide (s.data.toList.head?=some 47)
def BF(s:AE):Bool:=decide (s.data.toList.getLast?=some 47)
theorem OF{s:AE}(h:0<s.size):Ck s=decide (((s[0]'h).toNat:Int)=47):=by
 unfold Ck;rw[Z7 s h,Bool.eq_iff_iff];simp
theorem OG{s:AE}(h:0<s.size):BF s=decide (((s[s.size - 1]'(by omega)).toNat:Int)=47):=by
 unfold BF;rw[Z8 s h,Bool.eq_iff_iff];simp
theorem OH{s:AE}(h:¬0<s.size):Ck s=false:=by
 have:s.data.toList=[]:=DE (by rw[←Lib.size_eq];omega);unfold Ck;rw[this];rfl
theorem OJ{s:AE}(h:¬0<s.size):BF s=false:=by
 have:s.data.toList=[]:=DE (by rw[←Lib.size_eq];omega);unfold BF;rw[this];rfl
theorem Uc{s:AE}{k:Nat}(h:k<s.size)(h47:((s[k]'h).toNat:Int)=47):s.data.toList[k]?=some 47:=by
 rw[Lib.data_getElem? s k h]
 congr 1
 refine UInt8.toNat_inj.1 ?_;show _=47;omega
theorem Ud{s:AE}{f k:Nat}{ps:List AE}(hI:E4 s.data.toList f k (CC ps))(h:k=s.size∨s.data.toList[k]?=some 47):E4 s.data.toList (k+1) (k+1) (CC ps++one_ ((s.data.toList.drop f).take (k - f))):=by
 rcases h with h|h
 ·rw[Lib.size_eq]at h;subst h;exact Z3 hI
 exact Z2 hI h
theorem Ue{s:AE}{f k:Nat}{ps:List AE}(hI:E4 s.data.toList f k (CC ps))(hk:k≤s.size)(h:k=s.size∨s.data.toList[k]?=some 47)(hf:f<k):E4 s.data.toList (k+1) (k+1) (CC (ps++[s.extract f k])):=Z9 (Ud hI h) (Z5 (Z6 s hf hk))
theorem Uf{s:AE}{f k:Nat}{ps:List AE}(hI:E4 s.data.toList f k (CC ps))(h:k=s.size∨s.data.toList[k]?=some 47)(hf:¬f<k):E4 s.data.toList (k+1) (k+1) (CC ps):=ZA (Ud hI h) (by omega)
theorem bJ{s:AE}{f k:Nat}{ps:List AE}(hI:E4 s.data.toList f k (CC ps))(h:k<s.size)(h47:¬((s[k]'h).toNat:Int)=47):E4 s.data.toList f (k+1) (CC ps):=Z1 hI (Lib.data_getElem? s k h) (fun e=>h47 (by rw[e];rfl))
theorem Ug(ps:List AE):ps.length≤(D6 (CC ps)).length:=by
 induction ps with
 |nil=>simp
 |cons p ps ih=>
   have:CC (p::ps)=p.data.toList::CC ps:=rfl;rw[this,GC];simp;omega
theorem Qv{s:AE}{ps:List AE}(h:CC ps=By s.data.toList){i:Nat}{x:AE}(hx:ps[i]?=some x):x.size≤s.size:=by
 rw[Lib.size_eq,Lib.size_eq s];refine ZF ?_;rw[←h];exact List.mem_map.2 ⟨x,Aj hx,rfl⟩
theorem bK{ps:List AE}{j:Nat}{x t:AE}(hx:ps[j]?=some x)(h:t.data.toList=D6 ((CC ps).take j)):(t++(⟨#[47]⟩++x)).data.toList=D6 ((CC ps).take (j+1)):=by
 have e:(CC ps)[j]?=some x.data.toList:=by unfold CC;rw[List.getElem?_map,hx];rfl
 rw[List.take_add_one,e,QP,←h];simp[D6]
theorem Mc{a b:AE}(h:a.data.toList=b.data.toList):a=b:=ByteArray.ext (Array.toList_inj.1 h)
theorem bL{s:AE}{ps:List AE}(h:CC ps=By s.data.toList){i:Nat}{x:AE}(hx:ps[i]?=some x)(hn:D4 x=false):Dp s.data.toList=false:=by
 rw[←QS];unfold MS;rw[←h];have:(CC ps).all E3=false:=List.all_eq_false.2 ⟨x.data.toList,List.mem_map.2 ⟨x,Aj hx,rfl⟩,by rw[←O8,hn];simp⟩;rw[this,Bool.false_and]
theorem bM{s t1:AE}{ps:List AE}(h:CC ps=By s.data.toList)(ha:∀(i:Nat) (y:AE),i<ps.length→ps[i]?=some y→D4 y=true)(ht:t1.data.toList=D6 ((CC ps).take ps.length))(h3:¬s=⟨#[47]⟩)(h0:0<ps.length):Dp s.data.toList=decide (s=t1):=by
 have hl:(CC ps).length=ps.length:=by simp[CC]
 rw[List.take_of_length_le (by omega)]at ht;rw[←QS];unfold MS;rw[←h,←ht]
 have h1:(CC ps).all E3=true:=List.all_eq_true.2 fun y hy=>by
  obtain⟨z,hz,rfl⟩:=List.mem_map.1 hy;obtain⟨i,hi⟩:=List.getElem?_of_mem hz;rw[←O8];exact ha i z (Ai.1 hi).1 hi
 have h2:decide (s.data.toList=[47])=false:=decide_eq_false fun e=>h3 (Mc e);have h4:CC ps≠[]:=fun e=>by rw[e]at hl;simp at hl;omega
 rw[h1,h2,decide_eq_true h4];simp only[Bool.true_and,Bool.false_or];rw[Bool.eq_iff_iff,decide_eq_true_iff,decide_eq_true_iff];exact⟨fun e=>Mc e,fun e=>by rw[e]⟩
theorem bO{s:AE}{ps:List AE}(h:CC ps=By s.data.toList)(h3:¬s=⟨#[47]⟩)(h0:ps.length=0):Dp s.data.toList=false:=by
 have e:CC ps=[]:=by rw[DE h0];rfl
 rw[←QS];unfold MS;rw[←h,e];have h2:decide (s.data.toList=[47])=false:=decide_eq_false fun e=>h3 (Mc e);rw[h2];simp
section
theorem Qw(s:AE)(hs:s.size≤100000):AFn prog 86 [.v (.string s)] (fun r=>∃ps:List AE,CC ps=By s.data.toList∧r= .tup [.sl 1 (ps.map Cq) none, .v (.bool (Ck s)), .v (.bool (BF s))]):=by
 have hsz:=Lib.size_eq s;refine enter Tryz.func86 rfl rfl rfl rfl rfl 0 rfl ?_;refine w_ (a_ (h:=a_ (h:=a_ (h:=e_ (w_ (a_ (h:=e_ (w_ (a_ (h:=e_ (q_ (w_ (a_ (h:=e_ (Ao (?_))))))))))))))));refine S4 5 9 1 rfl (by repeat constructor) ?_;refine Bm (fun m t=>∃(f k:Nat) (ps:List AE),k≤s.size+1∧f≤k∧ps.length≤k∧m=s.size+1 - k∧E4 s.data.toList f k (CC ps)∧t=⟨look [(0, .v (.string s)),(5, .sl 1 (ps.map Cq) (some 0)),(6, .v (.int .i64 (f:Int))),(7, .v (.int .i64 (k:Int)))],⟨[],[(9,1,ps.map Cq)]⟩⟩) (s.size+1) ((wk 0 1)) (⟨0,0,[],by omega,by omega,by simp,rfl,Z4 _,rfl⟩) ?_;rintro m t ⟨f,k,ps,hk,hfk,hpl,rfl,hI,rfl⟩;refine q_ (w_ (m_ (h:=m_ (h:=n_ (h:=Lo (h:=e_ (?_)))))));refine A8 rfl (fun hb1=>?_) (fun hb1=>?_)
 ·have hc1:=bp hb1;refine AN (q_ (Ao (w_ (m_ (h:=m_ (h:=n_ (h:=Ac (h:=m_ (h:=?_)))))))));refine As false rfl rfl (fun hb2=>?_) (fun hb2=>?_)
  ·have hc2:=bp hb2;refine A3 (h:=A3 (h:=A3 (h:=A3 (h:=AU (h:=e_ (BQ (h:=q_ (w_ (m_ (h:=m_ (h:=CS (h:=e_ (?_)))))))))))));refine A8 rfl (fun hb3=>?_) (fun hb3=>?_)
   ·have hc3:=bp hb3;have hnx:=Ue hI (by omega) (.inl (by omega)) (by omega);refine AX (m_ (h:=m_ (h:=m_ (h:=m_ (h:=?_)))));refine A7 rfl (Ub (a:=f) (k:=k) Tryz.underlying9 rfl rfl rfl rfl rfl (by omega) (by omega) ?_);refine C2 (h:=?_)
    first|refine A7 rfl (Eo rfl rfl rfl (by simp;omega) (by repeat constructor) ?_)|refine A7 rfl (Ep rfl rfl (by simp;omega) (by repeat constructor) ?_)
    refine a_ (h:=e_ (AX (m_ (h:=B2 (h:=a_ (h:=AW (Au (t_ (AX (m_ (h:=B2 (h:=a_ (h:=AW (?_))))))))))))));refine AJ ?_;refine⟨_,_,?_,⟨_,k+1,_,by omega,by omega,(by(try simp only[List.length_append,List.length_cons,List.length_nil]);omega),rfl,hnx,rfl⟩,(by(try simp only[List.map_append,List.map_cons,List.map_nil]);exact B7 0 1 rfl rfl rfl rfl ((by repeat (first|exact Sub.nil|refine B9 rfl rfl ?_|refine BC ?_|refine BD rfl ?_|refine BE rfl ?_))))⟩;omega
   have hc3:=bp hb3;have hnx:=Uf hI (.inl (by omega)) (by omega);refine AN (AX (m_ (h:=B2 (h:=a_ (h:=AW (Au (t_ (AX (m_ (h:=B2 (h:=a_ (h:=AW (?_)))))))))))));refine AJ ?_;refine⟨_,_,?_,⟨_,k+1,_,by omega,by omega,(by(try simp only[List.length_append,List.length_cons,List.length_nil]);omega),rfl,hnx,rfl⟩,(by(try simp only[List.map_append,List.map_cons,List.map_nil]);exact B7 0 1 rfl rfl rfl rfl ((by repeat (first|exact Sub.nil|refine B9 rfl rfl ?_|refine BC ?_|refine BD rfl ?_|refine BE rfl ?_))))⟩;omega
  have hc2:=bp hb2;refine m_ (h:=m_ (h:=?_));refine Aw (Hk (n:=k) Tryz.underlying9 rfl rfl rfl (by omega) ?_);refine Ac (h:=Ah (h:=e_ (?_)));refine A8 rfl (fun hb4=>?_) (fun hb4=>?_)
  ·have hc4:=bp hb4;refine q_ (w_ (m_ (h:=m_ (h:=CS (h:=e_ (?_))))));refine A8 rfl (fun hb5=>?_) (fun hb5=>?_)
   ·have hc5:=bp hb5;have hnx:=Ue hI (by omega) (.inr (Uc (by omega) hc4)) (by omega);refine AX (m_ (h:=m_ (h:=m_ (h:=m_ (h:=?_)))));refine A7 rfl (Ub (a:=f) (k:=k) Tryz.underlying9 rfl rfl rfl rfl rfl (by omega) (by omega) ?_);refine C2 (h:=?_)
    first|refine A7 rfl (Eo rfl rfl rfl (by simp;omega) (by repeat constructor) ?_)|refine A7 rfl (Ep rfl rfl (by simp;omega) (by repeat constructor) ?_)
    refine a_ (h:=e_ (AX (m_ (h:=B2 (h:=a_ (h:=AW (Au (t_ (AX (m_ (h:=B2 (h:=a_ (h:=AW (?_))))))))))))));refine AJ ?_;refine⟨_,_,?_,⟨_,k+1,_,by omega,by omega,(by(try simp only[List.length_append,List.length_cons,List.length_nil]);omega),rfl,hnx,rfl⟩,(by(try simp only[List.map_append,List.map_cons,List.map_nil]);exact B7 0 1 rfl rfl rfl rfl ((by repeat (first|exact Sub.nil|refine B9 rfl rfl ?_|refine BC ?_|refine BD rfl ?_|refine BE rfl ?_))))⟩;omega
   have hc5:=bp hb5;have hnx:=Uf hI (.inr (Uc (by omega) hc4)) (by omega);refine AN (AX (m_ (h:=B2 (h:=a_ (h:=AW (Au (t_ (AX (m_ (h:=B2 (h:=a_ (h:=AW (?_)))))))))))));refine AJ ?_;refine⟨_,_,?_,⟨_,k+1,_,by omega,by omega,(by(try simp only[List.length_append,List.length_cons,List.length_nil]);omega),rfl,hnx,rfl⟩,(by(try simp only[List.map_append,List.map_cons,List.map_nil]);exact B7 0 1 rfl rfl rfl rfl ((by repeat (first|exact Sub.nil|refine B9 rfl rfl ?_|refine BC ?_|refine BD rfl ?_|refine BE rfl ?_))))⟩;omega
  have hc4:=bp hb4;have hnx:=bJ hI (by omega) hc4;refine BA (Au (t_ (AX (m_ (h:=B2 (h:=a_ (h:=AW (?_))))))));refine AJ ?_;refine⟨_,_,?_,⟨_,k+1,_,by omega,by omega,(by(try simp only[List.length_append,List.length_cons,List.length_nil]);omega),rfl,hnx,rfl⟩,(by(try simp only[List.map_append,List.map_cons,List.map_nil]);exact B7 0 1 rfl rfl rfl rfl ((by repeat (first|exact Sub.nil|refine B9 rfl rfl ?_|refine BC ?_|refine BD rfl ?_|refine BE rfl ?_))))⟩;omega
 have hc1:=bp hb1;refine BU (Am (Am (BV (t_ (q_ (Dk 23 (h:=AP 0 (h:=AP 1 (h:=JF 2 (h:=Js 3 (h:=AP 4 (h:=?_))))))))))));refine Da (j:=4) rfl (fun hb6=>?_) (fun hb6=>?_)
 ·have hc6:=bp hb6;refine AP 5 (h:=?_);refine F1 (i:=6) rfl (Hk (n:=0) Tryz.underlying9 rfl rfl rfl (by omega) ⟨rfl,rfl⟩) ?_;refine GL 7 (h:=CQ 8 (h:=AP 9 (h:=JF 10 (h:=Js 11 (h:=AP 12 (h:=?_))))));refine Da (j:=12) rfl (fun hb7=>?_) (fun hb7=>?_)
  ·have hc7:=bp hb7;refine AP 13 (h:=AP 14 (h:=JF 15 (h:=Ln 16 (h:=?_))));refine F1 (i:=17) rfl (Hk (n:=s.size - 1) Tryz.underlying9 rfl rfl (by omega) (by omega) ⟨rfl,rfl⟩) ?_;refine GL 18 (h:=CQ 19 (h:=BN 20 (h:=BN 21 (h:=BN 22 (h:=z_ (h:=t_ (A6 (?_))))))));refine AA ?_;refine⟨ps,O7 hI (by omega),?_⟩
   first|(rw[OF (by omega),OG (by omega)];rfl)|(rw[OH (by omega),OJ (by omega)];rfl)|(exfalso;omega)
  have hc7:=bp hb7;refine AG 13 (h:=AG 14 (h:=AG 15 (h:=AG 16 (h:=AG 17 (h:=AG 18 (h:=CR 19 (h:=BN 20 (h:=BN 21 (h:=BN 22 (h:=z_ (h:=t_ (A6 (?_)))))))))))));refine AA ?_;refine⟨ps,O7 hI (by omega),?_⟩
  first|(rw[OF (by omega),OG (by omega)];rfl)|(rw[OH (by omega),OJ (by omega)];rfl)|(exfalso;omega)
 have hc6:=bp hb6;refine AG 5 (h:=AG 6 (h:=AG 7 (h:=CR 8 (h:=AP 9 (h:=JF 10 (h:=Js 11 (h:=AP 12 (h:=?_))))))));refine Da (j:=12) rfl (fun hb8=>?_) (fun hb8=>?_)
 ·have hc8:=bp hb8;refine AP 13 (h:=AP 14 (h:=JF 15 (h:=Ln 16 (h:=?_))));refine F1 (i:=17) rfl (Hk (n:=s.size - 1) Tryz.underlying9 rfl rfl (by omega) (by omega) ⟨rfl,rfl⟩) ?_;refine GL 18 (h:=CQ 19 (h:=BN 20 (h:=BN 21 (h:=BN 22 (h:=z_ (h:=t_ (A6 (?_))))))));refine AA ?_;refine⟨ps,O7 hI (by omega),?_⟩
  first|(rw[OF (by omega),OG (by omega)];rfl)|(rw[OH (by omega),OJ (by omega)];rfl)|(exfalso;omega)
 have hc8:=bp hb8;refine AG 13 (h:=AG 14 (h:=AG 15 (h:=AG 16 (h:=AG 17 (h:=AG 18 (h:=CR 19 (h:=BN 20 (h:=BN 21 (h:=BN 22 (h:=z_ (h:=t_ (A6 (?_)))))))))))));refine AA ?_;refine⟨ps,O7 hI (by omega),?_⟩
 first|(rw[OF (by omega),OG (by omega)];rfl)|(rw[OH (by omega),OJ (by omega)];rfl)|(exfalso;omega)
theorem Uh(s:AE)(hs:s.size≤50000):AFn prog 57 [.v (.string s)] (fun r=>r= .v (.bool (Dp s.data.toList))):=by
 have hsz:=Lib.size_eq s;refine enter Tryz.func57 rfl rfl rfl rfl rfl 0 rfl ?_;refine w_ (a_ (h:=e_ (w_ (m_ (h:=?_)))));refine A7 rfl (AK (Qw s (by omega)) ?_);rintro r ⟨ps,hps,rfl⟩;have hpl:(ps.map Cq).length=ps.length:=by simp
 have hfl:=QX s.data.toList;rw[←hps]at hfl;have hpm:=Ug ps;refine m_ (h:=x_ (h:=x_ (h:=x_ (h:=a_ (h:=a_ (h:=a_ (h:=e_ (w_ (a_ (h:=e_ (q_ (w_ (a_ (h:=e_ (Ao (?_))))))))))))))));refine Bm (fun m t=>∃(j:Nat) (t1:AE),j≤ps.length∧m=ps.length - j∧(∀i y,i<j→ps[i]?=some y→D4 y=true)∧t1.data.toList=D6 ((CC ps).take j)∧t=⟨look [(0, .v (.string s)),(3, .sl 1 (ps.map Cq) none),(6, .v (.string t1)),(7, .v (.int .i64 (j:Int)))],⟨[],[]⟩⟩) (ps.length) ((wk 0 0)) (⟨0,⟨#[]⟩,by omega,rfl,fun i y hi=>by omega,rfl,rfl⟩) ?_;rintro m t ⟨j,t1,hj,rfl,ha,ht1,rfl⟩;refine q_ (w_ (m_ (h:=m_ (h:=n_ (h:=BO (h:=e_ (?_)))))));refine A8 rfl (fun hb1=>?_) (fun hb1=>?_)
 ·have hc1:=bp hb1;obtain⟨hlt,x,hy,hrow, -⟩:=CF Cq hc1;have ht2:t1.size≤s.size+1:=by rw[Lib.size_eq,ht1];exact Nat.le_trans (ZE _ _) (by omega)
  refine AN (q_ (Ao (q_ (w_ (m_ (h:=m_ (h:=?_)))))));refine A7 rfl (CM (n:=j) rfl rfl rfl hrow ?_);refine l_ (h:=?_);refine A7 rfl (AK (Ng x (by have:=Qv hps hy;omega)) ?_);rintro r rfl;refine BZ (h:=e_ (?_));refine A8 rfl (fun hb2=>?_) (fun hb2=>?_)
  ·have hc2:=bp hb2;refine w_ (a_ (h:=e_ (A6 (A4 (AR (A4 (A4 (AR (A4 (?_))))))))));refine AA ?_;exact vb (bL hps hy hc2).symm
  have hc2:=bp hb2;refine AN (AX (m_ (h:=m_ (h:=m_ (h:=?_)))));refine A7 rfl (CM (n:=j) rfl rfl rfl hrow ?_);refine l_ (h:=?_);refine A7 rfl (Ef rfl rfl (by have:=Qv hps hy;show 1+x.size≤_;omega) ?_);refine A7 rfl (Ef rfl rfl (by have:=Qv hps hy;rw[ByteArray.size_append];show t1.size+(1+x.size)≤_;omega) ?_);refine a_ (h:=AW (Au (t_ (AX (m_ (h:=B2 (h:=a_ (h:=AW (?_)))))))));refine AJ ?_;refine⟨_,_,?_,⟨j+1,t1++(⟨#[47]⟩++x),by omega,rfl,EW hy ha hc2,bK hy ht1,rfl⟩,(wk 0 0)⟩;omega
 have hc1:=bp hb1;refine BU (Am (Am (BV (t_ (w_ (m_ (h:=Ac (h:=m_ (h:=?_)))))))));refine As false rfl rfl (fun hb3=>?_) (fun hb3=>?_)
 ·have hc3:=bp hb3;refine A3 (h:=A3 (h:=A3 (h:=A3 (h:=EV (h:=EV (h:=EV (h:=A3 (h:=AU (h:=a_ (h:=e_ (A6 (?_))))))))))));refine AA ?_;exact vb (by rw[hc3];rfl)
 have hc3:=bp hb3;refine m_ (h:=n_ (h:=CS (h:=m_ (h:=?_))));refine As true rfl rfl (fun hb4=>?_) (fun hb4=>?_)
 ·have hc4:=bp hb4;refine m_ (h:=m_ (h:=Ac (h:=AU (h:=Ah (h:=a_ (h:=e_ (A6 (?_))))))));refine AA ?_;have e:=Cx Cq hj hc1;subst e;exact vb (bM hps ha ht1 hc3 (by omega)).symm
 have hc4:=bp hb4;refine A3 (h:=A3 (h:=A3 (h:=Ah (h:=Ah (h:=a_ (h:=e_ (A6 (?_))))))));refine AA ?_;have e:=Cx Cq hj hc1;subst e;exact vb (bO hps hc3 (by omega)).symm
end
theorem Ui{f:AT}{a:A9}(h:Ag f a=true):(AZ f a).ino=a.2:=by
 obtain⟨q,d,m,_,_,_,h4,h5,_⟩:=JW (f:=f) (a:=a) (by rw[h];simp);rw[h5,h4]
theorem Qx{s:Spc}{d:Int}(h:(Bu s d).isSome=true):Bu s d=some ((Bu s d).getD (0,0)):=by
 cases ho:Bu s d with
 |none=>rw[ho]at h;cases h
 |some o=>rfl
theorem bQ{s:Spc}{d:Int}(h:(Bu s d).isSome=false):Bu s d=none:=by
 cases ho:Bu s d with
 |none=>rfl
 |some o=>rw[ho]at h;cases h
theorem OK{s:Spc}{a:A9}(k:Nat)(h:Ag s.files a=false):DY s (k+1) a=(0,0):=by unfold DY;rw[h];rfl
theorem Qy{s:Spc}{a:A9}(k:Nat)(h:Ag s.files a=true)(h1:¬a.2=1):DY s (k+1) a=(a.1,(AZ s.files a).parent):=by unfold DY;rw[if_pos h,if_pos h1]
theorem Qz{s:Spc}{a:A9}(k:Nat)(h:Ag s.files a=true)(h1:a.2=1)(ho:(Bu s a.1).isSome=true):DY s (k+1) a=DY s k ((Bu s a.1).getD (0,0)):=by
 conv=>lhs;unfold DY
 rw[if_pos h,if_neg (by simpa using h1),Qx ho];rfl
theorem R4{s:Spc}{a:A9}(k:Nat)(h:Ag s.files a=true)(h1:a.2=1)(ho:(Bu s a.1).isSome=false):DY s (k+1) a=a:=by
 conv=>lhs;unfold DY
 rw[if_pos h,if_neg (by simpa using h1),bQ ho]
section
theorem Uj{s:Spc}(hs:SpcB s)(hv:SpcV s)(a:A9)
    (hrec:Ag s.files a=true→∀b,Cm s a=some b→AFn prog 90 [.agg (Ar s), .agg (AB b)] (fun r=>r= .tup [.v (.string (Bk s b).1), .v (.bool (Bk s b).2)])):
    AFn prog 90 [.agg (Ar s), .agg (AB a)] (fun r=>r= .tup [.v (.string (Bk s a).1), .v (.bool (Bk s a).2)]):=by
 have hnm:=Qe hv.files a;have hwz:=Qu hv;refine enter Tryz.func90 rfl rfl rfl rfl rfl 0 rfl ?_;refine w_ (b_ (h:=b_ (h:=a_ (h:=a_ (h:=e_ (q_ (w_ (f_ (h:=l_ (h:=l_ (h:=?_)))))))))));refine A7 rfl (AK (Fi s.files a hs.files) ?_);rintro r rfl;refine BZ (h:=m_ (h:=?_));refine As false rfl rfl (fun hb1=>?_) (fun hb1=>?_)
 ·have hc1:=bp hb1;refine A3 (h:=A3 (h:=A3 (h:=A3 (h:=A3 (h:=AU (h:=e_ (BQ (h:=w_ (a_ (h:=a_ (h:=e_ (A6 (A4 (?_))))))))))))));refine AA ?_
  first|(rw[Ky hv (by simp_all)];rfl)|(rw[hw1];first|rfl|(rw[←hw2];rfl))|(rw[h00,Ma hv (by rw[←h00];exact hc1)];rfl)
 have hc1:=bp hb1;refine l_ (h:=f_ (h:=l_ (h:=?_)));refine Aw (AK (Ls s a.1 hs) ?_);rintro r rfl;refine BZ (h:=Ah (h:=e_ (?_)));refine A8 rfl (fun hb2=>?_) (fun hb2=>?_)
 ·have hc2:=bp hb2;refine w_ (a_ (h:=a_ (h:=e_ (A6 (A4 (?_))))));refine AA ?_
  first|(rw[Ky hv (by simp_all)];rfl)|(rw[hw1];first|rfl|(rw[←hw2];rfl))|(rw[h00,Ma hv (by rw[←h00];exact hc1)];rfl)
 have hc2:=bp hb2;refine AN (q_ (w_ (f_ (h:=l_ (h:=Ac (h:=e_ (?_)))))));refine A8 rfl (fun hb3=>?_) (fun hb3=>?_)
 ·have hc3:=bp hb3;refine q_ (w_ (l_ (h:=f_ (h:=l_ (h:=?_)))));refine A7 rfl (AK (PY s a.1 hs) ?_);rintro r rfl;refine m_ (h:=x_ (h:=x_ (h:=Af (h:=s_ (h:=a_ (h:=e_ (w_ (m_ (h:=e_ (?_))))))))));refine A8 rfl (fun hb4=>?_) (fun hb4=>?_)
  ·have hc4:=bp hb4;have hst:Cm s a=some ((Bu s a.1).getD (0,0)):=by unfold Cm;rw[if_neg (by simpa using hc3)];exact Qx hc4
   obtain⟨hw1,hw2⟩:=UM hv hc1 hc2 (fun e=>by rw[e,Qh hv]at hc4;cases hc4) hst;rw[if_pos hc3]at hw1;refine w_ (l_ (h:=l_ (h:=?_)));refine A7 rfl (AK (hrec hc1 _ hst) ?_);rintro r rfl
   skip
   refine x_ (h:=x_ (h:=a_ (h:=a_ (h:=e_ (A6 (A4 (A4 (?_))))))));refine AA ?_
   first|(rw[Ky hv (by simp_all)];rfl)|(rw[hw1];first|rfl|(rw[←hw2];rfl))|(rw[h00,Ma hv (by rw[←h00];exact hc1)];rfl)
  have hc4:=bp hb4
  have h00:a=(0,1):=by
   refine Prod.ext ?_ hc3;have:=hc2;unfold C4 at this;rw[hc4,Bool.false_or]at this;exact of_decide_eq_true this
  refine AN (w_ (a_ (h:=a_ (h:=e_ (A6 (A4 (?_)))))));refine AA ?_
  first|(rw[Ky hv (by simp_all)];rfl)|(rw[hw1];first|rfl|(rw[←hw2];rfl))|(rw[h00,Ma hv (by rw[←h00];exact hc1)];rfl)
 have hc3:=bp hb3;have hst:Cm s a=some (a.1,(AZ s.files a).parent):=if_pos hc3;obtain⟨hw1,hw2⟩:=UM hv hc1 hc2 (fun e=>hc3 (by rw[e])) hst;rw[if_neg hc3]at hw1;refine AN (w_ (f_ (h:=l_ (h:=l_ (h:=?_)))));refine A7 rfl (AK (Dm s.files a hs.files) ?_);rintro r rfl;refine m_ (h:=x_ (h:=x_ (h:=Af (h:=s_ (h:=a_ (h:=e_ (w_ (l_ (h:=f_ (h:=l_ (h:=f_ (h:=l_ (h:=Aa (h:=?_))))))))))))));refine A7 rfl (AK (hrec hc1 _ hst) ?_);rintro r rfl
 skip
 refine m_ (h:=x_ (h:=x_ (h:=a_ (h:=a_ (h:=e_ (w_ (m_ (h:=f_ (h:=l_ (h:=l_ (h:=?_)))))))))));refine A7 rfl (AK (bH s a hs) ?_);rintro r rfl;refine A7 rfl (AK (Ua (Bk s (a.1,(AZ s.files a).parent)).1 (C9 s a) (by have:=hwz (a.1,(AZ s.files a).parent);omega) (by omega)) ?_);rintro r rfl;refine m_ (h:=a_ (h:=a_ (h:=e_ (A6 (?_)))));refine AA ?_
 first|(rw[Ky hv (by simp_all)];rfl)|(rw[hw1];first|rfl|(rw[←hw2];rfl))|(rw[h00,Ma hv (by rw[←h00];exact hc1)];rfl)
theorem bR{s:Spc}(hs:SpcB s)(hv:SpcV s)(a:A9):AFn prog 90 [.agg (Ar s), .agg (AB a)] (fun r=>r= .tup [.v (.string (Bk s a).1), .v (.bool (Bk s a).2)]):=by
 have key:∀(k:Nat) (a:A9),ends s k a→AFn prog 90 [.agg (Ar s), .agg (AB a)] (fun r=>r= .tup [.v (.string (Bk s a).1), .v (.bool (Bk s a).2)]):=by
  intro k
  induction k with
  |zero=>intro a h;exact Uj hs hv a fun hd=>by rw[show Ag s.files a=false from h]at hd;cases hd
  |succ k ih=>intro a h;exact Uj hs hv a fun hd b hb=>ih b (h.resolve_left (by rw[hd];simp) b hb)
 exact key _ a (H5 hv a)
theorem bS{s:Spc}(hs:SpcB s)(a:A9)(p:Nat)(hrec:(Bu s a.1).isSome=true→AFn prog 89 [.agg (Ar s), .agg (AB ((Bu s a.1).getD (0,0)))] (fun r=>r= .agg (AB (DY s p ((Bu s a.1).getD (0,0)))))):
    AFn prog 89 [.agg (Ar s), .agg (AB a)] (fun r=>r= .agg (AB (DY s (p+1) a))):=by
 have hde:=G7 s.files a;refine enter Tryz.func89 rfl rfl rfl rfl rfl 0 rfl ?_;refine w_ (b_ (h:=b_ (h:=Af (h:=e_ (w_ (f_ (h:=l_ (h:=l_ (h:=?_)))))))));refine A7 rfl (AK (Dm s.files a hs.files) ?_);rintro r rfl;refine m_ (h:=x_ (h:=x_ (h:=Af (h:=s_ (h:=a_ (h:=e_ (q_ (w_ (m_ (h:=BZ (h:=m_ (h:=?_))))))))))));refine As false rfl rfl (fun hb1=>?_) (fun hb1=>?_)
 ·have hc1:=bp hb1;refine A3 (h:=A3 (h:=A3 (h:=AU (h:=e_ (BQ (h:=w_ (Aa (h:=s_ (h:=e_ (A6 (A4 (?_))))))))))));refine AA ?_;rw[OK p (by rw[hde,hc1];rfl)];rfl
 have hc1:=bp hb1;refine f_ (h:=l_ (h:=BX (h:=Ah (h:=e_ (?_)))));refine A8 rfl (fun hb2=>?_) (fun hb2=>?_)
 ·have hc2:=bp hb2;refine w_ (Aa (h:=s_ (h:=e_ (A6 (A4 (?_))))));refine AA ?_;rw[OK p (by rw[hde,decide_eq_false hc2,Bool.and_false])];rfl
 have hc2:=bp hb2;refine AN (q_ (w_ (f_ (h:=l_ (h:=BX (h:=e_ (?_)))))));refine A8 rfl (fun hb3=>?_) (fun hb3=>?_)
 ·have hc3:=bp hb3;refine w_ (f_ (h:=l_ (h:=f_ (h:=l_ (h:=Aa (h:=s_ (h:=e_ (A6 (A4 (?_))))))))));refine AA ?_;rw[Qy p (by rw[hde,hc1,decide_eq_true hc2];rfl) hc3];rfl
 have hc3:=bp hb3;refine AN (q_ (w_ (l_ (h:=f_ (h:=l_ (h:=?_))))));refine A7 rfl (AK (PY s a.1 hs) ?_);rintro r rfl;refine m_ (h:=x_ (h:=x_ (h:=Af (h:=s_ (h:=a_ (h:=e_ (w_ (m_ (h:=e_ (?_))))))))));refine A8 rfl (fun hb4=>?_) (fun hb4=>?_)
 ·have hc4:=bp hb4;refine w_ (l_ (h:=l_ (h:=?_)));refine A7 rfl (AK (hrec hc4) ?_);rintro r rfl;refine s_ (h:=e_ (A6 (A4 (?_))));refine AA ?_;rw[Qz p (by rw[hde,hc1,decide_eq_true hc2];rfl) hc3 hc4];rfl
 have hc4:=bp hb4;refine AN (w_ (l_ (h:=s_ (h:=e_ (A6 (?_))))));refine AA ?_;rw[R4 p (by rw[hde,hc1,decide_eq_true hc2];rfl) hc3 hc4];rfl
theorem bT{s:Spc}(hs:SpcB s)(hv:SpcV s):∀(p:Nat) (a:A9),JX s a.1<p→AFn prog 89 [.agg (Ar s), .agg (AB a)] (fun r=>r= .agg (AB (DY s p a))):=by
 intro p
 induction p with
 |zero=>intro a h;omega
 |succ p ih=>intro a hp;exact bS hs a p fun ho=>ih _ (by have:=U6 hv (Qx ho);omega)
theorem bU{s:Spc}(hs:SpcB s)(hv:SpcV s)(a:A9):AFn prog 123 [.agg (Ar s), .agg (AB a)] (fun r=>r= .agg (AB (DY s (s.mounts.length+1) a))):=by
 have hfew:=hs.few;have hml:(s.mounts.map Co).length=s.mounts.length:=by simp
 refine enter Tryz.func123 rfl rfl rfl rfl rfl 0 rfl ?_;refine w_ (b_ (h:=b_ (h:=Af (h:=e_ (q_ (w_ (f_ (h:=l_ (h:=n_ (h:=B2 (h:=m_ (h:=e_ (Ao (?_))))))))))))));refine Bm (fun m t=>∃(j:Nat) (b:A9),j≤s.mounts.length+1∧m=s.mounts.length+1 - j∧DY s (s.mounts.length+1 - j) b=DY s (s.mounts.length+1) a∧t=⟨look [(2, .bp 0 0),(3, .bp 1 0),(4, .bp 2 0),(11, .v (.int .i64 (((s.mounts.map Co).length:Int)+1))),(12, .v (.int .i64 (j:Int)))],⟨[Ar s,AB b,[.v (.int .i64 0), .v (.int .i64 0)]],[]⟩⟩) (s.mounts.length+1) ((wk 3 0)) (⟨0,a,by omega,rfl,rfl,rfl⟩) ?_;rintro m t ⟨j,b,hj,rfl,hit,rfl⟩;have hde:=G7 s.files b;refine w_ (BO (h:=e_ (q_ (?_))));refine A8 rfl (fun hb1=>?_) (fun hb1=>?_)
 ·have hc1:=bp hb1;obtain⟨k,hk⟩:∃k,s.mounts.length+1 - j=k+1:=⟨s.mounts.length - j,by omega⟩;rw[hk]at hit;refine AN (q_ (Ao (w_ (f_ (h:=l_ (h:=l_ (h:=?_)))))));refine A7 rfl (AK (Gw s.files b hs.files) ?_);rintro r rfl;refine m_ (h:=x_ (h:=x_ (h:=Af (h:=s_ (h:=a_ (h:=e_ (q_ (w_ (m_ (h:=BZ (h:=m_ (h:=?_))))))))))));refine As false rfl rfl (fun hb2=>?_) (fun hb2=>?_)
  ·have hc2:=bp hb2;refine A3 (h:=A3 (h:=A3 (h:=AU (h:=e_ (BQ (h:=w_ (Aa (h:=s_ (h:=e_ (A6 (A4 (AR (A4 (A4 (AR (A4 (?_)))))))))))))))));refine AA ?_;rw[←hit,OK k (by rw[hde,hc2];rfl)];rfl
  have hc2:=bp hb2;refine f_ (h:=l_ (h:=BX (h:=Ah (h:=e_ (?_)))));refine A8 rfl (fun hb3=>?_) (fun hb3=>?_)
  ·have hc3:=bp hb3;refine w_ (Aa (h:=s_ (h:=e_ (A6 (A4 (AR (A4 (A4 (AR (A4 (?_)))))))))));refine AA ?_;rw[←hit,OK k (by rw[hde,decide_eq_false hc3,Bool.and_false])];rfl
  have hc3:=bp hb3;refine AN (q_ (w_ (f_ (h:=l_ (h:=BX (h:=e_ (?_)))))));refine A8 rfl (fun hb4=>?_) (fun hb4=>?_)
  ·have hc4:=bp hb4;have hdd:Ag s.files b=true:=by rw[hde,hc2,decide_eq_true hc3];rfl
   have hb1:¬b.2=1:=by rw[←Ui hdd];exact hc4
   refine w_ (f_ (h:=l_ (h:=f_ (h:=l_ (h:=Aa (h:=s_ (h:=e_ (A6 (A4 (AR (A4 (A4 (AR (A4 (?_)))))))))))))));refine AA ?_;rw[←hit,Qy k hdd hb1];rfl
  have hc4:=bp hb4;have hdd:Ag s.files b=true:=by rw[hde,hc2,decide_eq_true hc3];rfl
  have hb1:b.2=1:=by rw[←Ui hdd];exact hc4
  refine AN (w_ (l_ (h:=f_ (h:=l_ (h:=?_)))));refine A7 rfl (AK (Pa s b.1 hs) ?_);rintro r rfl;refine m_ (h:=x_ (h:=x_ (h:=Af (h:=s_ (h:=a_ (h:=e_ (q_ (w_ (m_ (h:=BZ (h:=m_ (h:=?_))))))))))));refine As false rfl rfl (fun hb5=>?_) (fun hb5=>?_)
  ·have hc5:=bp hb5;refine A3 (h:=A3 (h:=A3 (h:=AU (h:=e_ (BQ (h:=w_ (l_ (h:=s_ (h:=e_ (A6 (A4 (AR (A4 (A4 (AR (A4 (?_)))))))))))))))));refine AA ?_;rw[←hit,R4 k hdd hb1 hc5];rfl
  have hc5:=bp hb5;refine f_ (h:=l_ (h:=Ac (h:=Ah (h:=e_ (?_)))));refine A8 rfl (fun hb6=>?_) (fun hb6=>?_)
  ·have hc6:=bp hb6;refine w_ (l_ (h:=s_ (h:=e_ (A6 (A4 (AR (A4 (A4 (AR (A4 (?_)))))))))));refine AA ?_;exfalso;rw[hc6,Qh hv]at hc5;cases hc5
  have hc6:=bp hb6;refine AN (AX (l_ (h:=s_ (h:=AW (Au (t_ (AX (B2 (h:=m_ (h:=AW (?_)))))))))));refine AJ ?_;refine⟨_,_,?_,⟨j+1,((Bu s b.1).getD (0,0)),by omega,rfl,(by rw[←hit,Qz k hdd hb1 hc5,show s.mounts.length+1 - (j+1)=k by omega]),rfl⟩,(wk 3 0)⟩;omega
 have hc1:=bp hb1;refine BU (Am (Am (BV (t_ (w_ (l_ (h:=s_ (h:=e_ (A6 (?_))))))))));refine AA ?_;have ej:s.mounts.length+1 - j=0:=by omega
 rw[ej]at hit;rw[←hit];rfl
end
end Go.Proofs.YtobclmbkdhbnpaaGreatDoor
namespace Go.Proofs.YtobclmbkdhbnpaaGreatDoor
section
variable {s:Spc}(hv:SpcV s)
include hv
omit hv in
theorem L3{a:A9}(h:(Bk s a).2=true):Ag s.files a=true∧C4 s a.1=true:=by
 unfold Bk at h;split at h
 ·rename_i c;exact⟨c.1,c.2.1⟩
 cases h
theorem R5{d:Int}(h0:0≤d)(h1:d<(s.files.length:Int)):Ag s.files (d,1)=true:=by
 obtain⟨q,rfl⟩:=Int.eq_ofNat_of_zero_le h0;have hq:s.files[q]?=some s.files[q]:=BM (by omega);obtain⟨r,rest,hr,h2,h3,_⟩:=(hv.files.vd _ (Aj hq)).root;exact(Hr (Qf hv hq (by rw[hr];exact List.mem_cons_self ..) h2)).2 h3
end
end Go.Proofs.YtobclmbkdhbnpaaGreatDoor
namespace Go.Proofs.YtobclmbkdhbnpaaGreatDoor
structure Fnd where
 dir:A9
 name:AE
 file:A9
 ex:Bool
 slash:Bool
 path:AE
def D8:Fnd:=⟨(0,0),⟨#[]⟩,(0,0),false,false,⟨#[]⟩⟩
def Ax(x:Fnd):List AV:=[.v (.int .i64 x.dir.1), .v (.int .i64 x.dir.2), .v (.string x.name), .v (.int .i64 x.file.1), .v (.int .i64 x.file.2), .v (.bool x.ex), .v (.bool x.slash), .v (.string x.path)]
def Cd(s:AE):List AE:=(By s.data.toList).map fun l=>⟨l.toArray⟩
theorem Uk(s:AE):CC (Cd s)=By s.data.toList:=by
 unfold CC Cd;rw[List.map_map];have:((fun x:AE=>x.data.toList) ∘ fun l:Bs=>(⟨l.toArray⟩:AE))=id:=by funext l;simp
 rw[this,List.map_id]
theorem Ul:∀{a b:List AE},CC a=CC b→a=b
 |[],[],_=>rfl
 |[],_::_,h=>by simp[CC]at h
 |_::_,[],h=>by simp[CC]at h
 |x::a,y::b,h=>by
   simp only[CC,List.map_cons,List.cons.injEq]at h;rw[Mc h.1,Ul (a:=a) (b:=b) h.2]
theorem R6{s:AE}{ps:List AE}(h:CC ps=By s.data.toList):ps=Cd s:=Ul (h.trans (Uk s).symm)
theorem L4(s:AE):(Cd s).length≤s.size+1:=by
 have h1:=Ug (Cd s);have h2:=QX s.data.toList;rw[←Uk]at h2;rw[Lib.size_eq];omega
def D9(s:Spc):A9:=Ci s s.mounts.length (0,1)
structure Lk where
 ps:List AE
 dir:A9
 name:AE
 file:A9
 ex:Bool
 links:Nat
abbrev OL:AE:=⟨#[46]⟩
abbrev Md:AE:=⟨#[46,46]⟩
def Bv(s:Spc)(fl:Bool)(p:AE)(ps:List AE)(a:A9)(lk:Nat):Int ⊕ Lk:=
 if Ag s.files a=false then .inl 20
 else if 12<p.size then .inl 36
 else if p=OL then .inr ⟨ps,a,⟨#[]⟩,a,true,lk⟩
 else if p=Md then .inr ⟨ps,Ci s s.mounts.length (DY s (s.mounts.length+1) a),⟨#[]⟩,Ci s s.mounts.length (DY s (s.mounts.length+1) a),true,lk⟩
 else if(AD s.files a p).2≠0 then(if ps≠[]∨D4 p=false then .inl 2 else .inr ⟨[],a,p,(0,0),false,lk⟩)
 else if(AZ s.files (AD s.files a p).1).kind=3∧(ps≠[]∨fl=true)then
  (if lk=8 then .inl 40 else
    .inr ⟨Cd (AZ s.files (AD s.files a p).1).target++ps,if Ck (AZ s.files (AD s.files a p).1).target=true then D9 s else a,⟨#[]⟩,if Ck (AZ s.files (AD s.files a p).1).target=true then D9 s else a,true,lk+1⟩)
 else .inr ⟨ps,a,p,Ci s s.mounts.length (AD s.files a p).1,true,lk⟩
def Me:Lk:=⟨[],(0,0),⟨#[]⟩,(0,0),false,0⟩
def De(s:Spc)(fl:Bool):Nat→Lk→Int×Lk
 |0,σ=>(0,σ)
 |k+1,σ=>match σ.ps with
   |[]=>(0,σ)
   |p::ps=>match Bv s fl p ps σ.file σ.links with
     | .inl e=>(e,Me)
     | .inr τ=>De s fl k τ
def EE(σ:Lk):Nat:=(8 - σ.links) * 200+σ.ps.length
section
variable {s:Spc}(hv:FlsV s.files)
include hv
theorem R7{fl:Bool}{p:AE}{ps:List AE}{a:A9}{lk:Nat}{τ:Lk}(h8:lk≤8)(h:Bv s fl p ps a lk= .inr τ):τ.links≤8∧EE τ<(8 - lk) * 200+(ps.length+1):=by
 unfold Bv at h;split at h
 ·cases h
 split at h
 ·cases h
 split at h
 ·injection h with h;subst h;exact⟨h8,by unfold EE;simp only;omega⟩
 split at h
 ·injection h with h;subst h;exact⟨h8,by unfold EE;simp only;omega⟩
 split at h
 ·split at h
  ·cases h
  injection h with h;subst h;exact⟨h8,by unfold EE;simp only[List.length_nil];omega⟩
 split at h
 ·split at h
  ·cases h
  rename_i h9;injection h with h;subst h;have ht:=MM hv (AD s.files a p).1;have hl:=L4 (AZ s.files (AD s.files a p).1).target;refine⟨by simp only;omega,?_⟩;unfold EE;simp only[List.length_append]
  have:(8 - lk) * 200=(8 - (lk+1)) * 200+200:=by
   rw[show 8 - lk=(8 - (lk+1))+1 by omega,Nat.add_mul]
  omega
 injection h with h;subst h;exact⟨h8,by unfold EE;simp only;omega⟩
theorem bV(fl:Bool):∀(k k':Nat) (σ:Lk),σ.links≤8→EE σ≤k→EE σ≤k'→De s fl k σ=De s fl k' σ:=by
 intro k
 induction k with
 |zero=>
   intro k' σ h8 h h'
   have he:σ.ps=[]:=by
    unfold EE at h;exact DE (by omega)
   cases k' with
   |zero=>rfl
   |succ k'=>unfold De;rw[he]
 |succ k ih=>
   intro k' σ h8 h h'
   cases hps:σ.ps with
   |nil=>cases k'<;>(unfold De;rw[hps])
   |cons p ps=>
     have hm:EE σ=(8 - σ.links) * 200+(ps.length+1):=by unfold EE;rw[hps];rfl
     cases k' with
     |zero=>rw[hm]at h';omega
     |succ k'=>
       unfold De;rw[hps];simp only
       cases hs:Bv s fl p ps σ.file σ.links with
       |inl e=>rfl
       |inr τ=>
         simp only;obtain⟨h1,h2⟩:=R7 hv h8 hs;exact ih k' τ h1 (by omega) (by omega)
end
def Df(s:Spc)(fl:Bool)(σ:Lk):Int×Lk:=De s fl (EE σ) σ
theorem R8{s:Spc}{fl:Bool}{σ:Lk}(h:σ.ps=[]):Df s fl σ=(0,σ):=by
 unfold Df
 cases EE σ with
 |zero=>rfl
 |succ k=>unfold De;rw[h]
theorem Um{s:Spc}(hv:FlsV s.files){fl:Bool}{σ:Lk}{p:AE}{ps:List AE}(h8:σ.links≤8)(h:σ.ps=p::ps):Df s fl σ=match Bv s fl p ps σ.file σ.links with
    | .inl e=>(e,Me)
    | .inr τ=>Df s fl τ:=by
 have hm:EE σ=((8 - σ.links) * 200+ps.length)+1:=by unfold EE;rw[h];rfl
 unfold Df;rw[hm]
 conv=>lhs;unfold De
 rw[h];simp only
 cases hs:Bv s fl p ps σ.file σ.links with
 |inl e=>rfl
 |inr τ=>
   simp only;obtain⟨h1,h2⟩:=R7 hv h8 hs;exact bV hv fl _ _ τ h1 (by omega) (Av _)
def Fq(s:Spc)(sl:Bool)(τ:Lk):Fnd:=⟨τ.dir,τ.name,τ.file,τ.ex,sl,if(Bk s τ.dir).2=true then(if τ.name=⟨#[]⟩then(Bk s τ.dir).1 else D7 (Bk s τ.dir).1 τ.name)else⟨#[]⟩⟩
def FV(ps:List AE)(a:A9):Lk:=⟨ps,a,⟨#[]⟩,a,true,0⟩
def Bb(s:Spc)(start:A9)(p:AE)(fl:Bool):Fnd×Int:=
 if p=⟨#[]⟩then(D8,2)else if 128<p.size then(D8,36)
 else if Ag s.files (if Ck p=true then D9 s else start)=false then(D8,2)
 else if(Df s (fl||BF p) (FV (Cd p) (if Ck p=true then D9 s else start))).1≠0 then(D8,(Df s (fl||BF p) (FV (Cd p) (if Ck p=true then D9 s else start))).1)
 else if BF p=true∧(Df s (fl||BF p) (FV (Cd p) (if Ck p=true then D9 s else start))).2.ex=true∧Ag s.files (Df s (fl||BF p) (FV (Cd p) (if Ck p=true then D9 s else start))).2.file=false then(D8,20)
 else(Fq s (BF p) (Df s (fl||BF p) (FV (Cd p) (if Ck p=true then D9 s else start))).2,0)
end Go.Proofs.YtobclmbkdhbnpaaGreatDoor
namespace Go.Proofs.YtobclmbkdhbnpaaGreatDoor
open Go.RowKit
structure Dsc where
 fd:Int
 file:A9
 flags:Int
structure Prc where
 pid:Int
 ppid:Int
 uid:Int
 euid:Int
 gid:Int
 egid:Int
 auid:Int
 ses:Int
 cwd:A9
 comm:AE
 exe:AE
 opens:List Dsc
 audited:Bool
structure Tab where
 next:Int
 nextS:Int
 ps:List Prc
structure Syst where
 spc:Spc
 tab:Tab
structure Cal where
 num:Int
 a0:Int
 a1:Int
 a2:Int
 a3:Int
 paths:List AE
 args:List AE
structure Res where
 exit:Int
 child:Int
 gone:Int
 items:List Itm
 changes:List Bp
structure Wrk where
 s:Syst
 p:Prc
 c:Cal
 found:List Fnd
 r:Res
def bW:Prc:=⟨0,0,0,0,0,0,0,0,(0,0),⟨#[]⟩,⟨#[]⟩,[],false⟩
def DS:Tab:=⟨0,0,[]⟩
def Fr:Res:=⟨0,0,0,[],[]⟩
def R9(cwd:A9):Tab:=⟨2,1,[⟨1,0,0,0,0,0,4294967295,4294967295,cwd,⟨#[105,110,105,116]⟩,⟨#[47,105,110,105,116]⟩,[],true⟩]⟩
def L5(t:Tab)(pid:Int):Option Prc:=t.ps.find? fun p=>decide (p.pid=pid)
def E5(t:Tab)(pid:Int):Bool:=(L5 t pid).isSome
def Az(t:Tab)(pid:Int):Prc:=(L5 t pid).getD bW
def Gb(t:Tab)(p:Prc):Tab:=⟨t.next,t.nextS,t.ps.map fun x=>if x.pid=p.pid then p else x⟩
def RA(t:Tab)(pid:Int):Tab×Int×Int:=
 if E5 t pid=false then(DS,0,3)else if 16≤(t.ps.length:Int)∨t.next=1073741824 then(DS,0,11)
 else(⟨t.next+1,t.nextS,t.ps++[{Az t pid with pid:=t.next,ppid:=pid}]⟩,t.next,0)
def bY(pid:Int)(p:Prc):Prc:=if p.ppid=pid then{p with ppid:=1}else p
def Un(t:Tab)(pid:Int):Tab×Int:=
 if E5 t pid=false then(DS,3)else if pid=1 then(DS,1)
 else(⟨t.next,t.nextS,(t.ps.filter fun p=>decide (p.pid≠pid)).map (bY pid)⟩,0)
def Ja(priv:Bool)(real eff n:Int):Int×Int×Int:=if priv=true then(n,n,0)else if n=real∨n=eff then(real,n,0)else(0,0,1)
def RB(n:Int):Bool:=decide (0≤n)&&decide (n<4294967295)
def bZ(t:Tab)(pid u:Int):Tab×Int:=
 if E5 t pid=false then(DS,3)else if RB u=false then(DS,22)
 else if(Ja (decide ((Az t pid).euid=0)) (Az t pid).uid (Az t pid).euid u).2.2≠0 then(DS,(Ja (decide ((Az t pid).euid=0)) (Az t pid).uid (Az t pid).euid u).2.2)
 else(Gb t {Az t pid with uid:=(Ja (decide ((Az t pid).euid=0)) (Az t pid).uid (Az t pid).euid u).1,euid:=(Ja (decide ((Az t pid).euid=0)) (Az t pid).uid (Az t pid).euid u).2.1},0)
def cA(t:Tab)(pid u:Int):Tab×Int:=
 if E5 t pid=false then(DS,3)else if RB u=false then(DS,22)
 else if(Ja (decide ((Az t pid).euid=0)) (Az t pid).gid (Az t pid).egid u).2.2≠0 then(DS,(Ja (decide ((Az t pid).euid=0)) (Az t pid).gid (Az t pid).egid u).2.2)
 else(Gb t {Az t pid with gid:=(Ja (decide ((Az t pid).euid=0)) (Az t pid).gid (Az t pid).egid u).1,egid:=(Ja (decide ((Az t pid).euid=0)) (Az t pid).gid (Az t pid).egid u).2.1},0)
def cB(t:Tab)(pid auid:Int):Tab×Int:=
 if E5 t pid=false then(DS,3)else if RB auid=false then(DS,22)
 else if(Az t pid).auid≠4294967295∧(Az t pid).euid≠0 then(DS,1)else if t.nextS=1073741824 then(DS,11)
 else(⟨t.next,t.nextS+1,(Gb t {Az t pid with auid:=auid,ses:=t.nextS}).ps⟩,0)
def EF:Nat→List Dsc→Nat
 |k,[]=>k
 |k,d::r=>if d.fd=(k:Int)then EF (k+1) r else k
def L6(l:List Dsc)(fd:Nat)(x:Dsc):List Dsc:=l.take fd++x::l.drop fd
def Ej(t:Tab)(pid:Int)(a:A9)(flags:Int):Tab×Int×Int:=
 if E5 t pid=false then(DS,0,3)else if 8≤((Az t pid).opens.length:Int)then(DS,0,24)
 else(Gb t {Az t pid with opens:=L6 (Az t pid).opens (EF 0 (Az t pid).opens) ⟨(EF 0 (Az t pid).opens:Nat),a,flags⟩},(EF 0 (Az t pid).opens:Nat),0)
def cC(t:Tab)(pid fd:Int):Tab×Int:=
 if E5 t pid=false then(DS,3)else if(((Az t pid).opens.filter fun d=>decide (d.fd≠fd)).length:Int)=((Az t pid).opens.length:Int)then(DS,9)
 else(Gb t {Az t pid with opens:=(Az t pid).opens.filter fun d=>decide (d.fd≠fd)},0)
def cF(t:Tab)(pid:Int)(dir:A9):Tab×Int:=if E5 t pid=false then(DS,3)else(Gb t {Az t pid with cwd:=dir},0)
def cG(t:Tab)(pid:Int)(exe comm:AE):Tab×Int:=if E5 t pid=false then(DS,3)else(Gb t {Az t pid with exe:=exe,comm:=comm},0)
def cH(t:Tab)(pid target:Int)(ends:Bool):Tab×Int:=
 if E5 t pid=false then(DS,3)else if E5 t target=false then(DS,3)
 else if target=1∨(Az t pid).euid≠0∧(Az t pid).euid≠(Az t target).uid then(DS,1)
 else if ends=true then Un t target else(t,0)
def KG:List (AE×Int×Int×Int×Int):=[(⟨#[102,111,114,107]⟩,0,0,0,0),
 (⟨#[101,120,101,99,118,101]⟩,0,1,0,4),
 (⟨#[101,120,105,116]⟩,1,0,0,0),
 (⟨#[115,101,116,117,105,100]⟩,1,0,0,0),
 (⟨#[115,101,116,103,105,100]⟩,1,0,0,0),
 (⟨#[108,111,103,105,110]⟩,1,0,0,0),
 (⟨#[111,112,101,110]⟩,2,1,0,0),
 (⟨#[99,108,111,115,101]⟩,1,0,0,0),
 (⟨#[108,105,110,107]⟩,0,2,0,0),
 (⟨#[115,121,109,108,105,110,107]⟩,0,1,1,1),
 (⟨#[117,110,108,105,110,107]⟩,0,1,0,0),
 (⟨#[109,107,100,105,114]⟩,1,1,0,0),
 (⟨#[114,109,100,105,114]⟩,0,1,0,0),
 (⟨#[114,101,110,97,109,101]⟩,0,2,0,0),
 (⟨#[99,104,109,111,100]⟩,1,1,0,0),
 (⟨#[99,104,111,119,110]⟩,2,1,0,0),
 (⟨#[99,104,100,105,114]⟩,0,1,0,0),
 (⟨#[109,111,117,110,116]⟩,1,1,0,0),
 (⟨#[117,109,111,117,110,116]⟩,1,0,0,0),
 (⟨#[99,111,110,110,101,99,116]⟩,1,0,1,1),
 (⟨#[107,105,108,108]⟩,2,0,0,0),
 (⟨#[116,114,117,110,99,97,116,101]⟩,1,1,0,0)]
def Dx(n:Int):AE×Int×Int×Int×Int:=if n<0∨22≤n then(⟨#[]⟩,0,0,0,0)else(KG[n.toNat]?).getD (⟨#[]⟩,0,0,0,0)
def L7(c:Cal):List Int:=[c.a0,c.a1,c.a2,c.a3]
def Bn(c:Cal):Int:=
 if(Dx c.num).1=⟨#[]⟩then 100 else if(((L7 c).drop (Dx c.num).2.1.toNat).any fun x=>decide (x≠0))=true then 101
 else if(c.paths.length:Int)≠(Dx c.num).2.2.1∨(c.args.length:Int)<(Dx c.num).2.2.2.1∨(Dx c.num).2.2.2.2<(c.args.length:Int)then 101
 else if(c.paths.any fun p=>decide (128<p.size))=true then 102 else if(c.args.any fun p=>decide (64<p.size))=true then 102 else 0
def Ek(n:Nod)(euid egid:Int):Int:=
 if euid=n.uid then GJ .i64 (NL .i64 n.mode 6) 7 else if egid=n.gid then GJ .i64 (NL .i64 n.mode 3) 7 else GJ .i64 n.mode 7
def Eb(n:Nod)(euid egid want:Int):Bool:=
 if want<0∨7<want then false
 else if euid=0 then decide (GJ .i64 want 1=0)||decide (n.kind=2)||decide (GJ .i64 n.mode 73≠0)
 else decide (GJ .i64 (Ek n euid egid) want=want)
def C1(a f:Int):Bool:=decide (GJ .i64 a f≠0)
def Ce(c:Cal):List Int:=
 if c.num=1 then[1]else if c.num=6 then[(if C1 c.a0 1=true then 4 else 0)+(if C1 c.a0 22=true then 2 else 0)]
 else if c.num=8 then[8,2]else if c.num=13 then[2,2]else if c.num=14∨c.num=15∨c.num=17 then[8]else if c.num=16 then[4]else[2]
def Cf(c:Cal):Bool:=
 if c.num=6 then decide (GJ .i64 c.a0 32=0)else decide (c.num=1∨c.num=14∨c.num=15∨c.num=16∨c.num=17∨c.num=21)
def Mf(n:Int):Bool:=decide (0≤n)&&decide (n≤511)
def L8(c:Cal):AE:=c.args.headD ⟨#[]⟩
def DN(p:Prc)(c:Cal):Int:=
 if c.num=6 then(if c.a0<0∨63<c.a0∨GJ .i64 c.a0 3=0∨Mf c.a1=false then 22 else if 8≤(p.opens.length:Int)then 24 else 0)
 else if c.num=9 then(if L8 c=⟨#[]⟩then 2 else if(L8 c).data.toList.any (fun b=>decide (b=0))=true then 22 else 0)
 else if c.num=11∨c.num=14 then(if Mf c.a0=false then 22 else 0)
 else if c.num=15 then(if c.a0<0∨4294967295<c.a0∨c.a1<0∨4294967295<c.a1 then 22 else 0)
 else if c.num=17 then(if p.euid≠0 then 1 else 0)
 else if c.num=21 then(if c.a0<0 then 22 else 0)else 0
def Mg(s:Spc)(given:AE)(perm:Int)(f:Fnd):Itm:=
 ⟨given,f.path,f.dir,f.name,f.file,1,(AZ s.files f.file).kind,(AZ s.files f.file).mode,(AZ s.files f.file).uid,(AZ s.files f.file).gid,perm⟩
def El(given:AE)(perm:Int):Itm:=⟨given,⟨#[]⟩,(0,0),⟨#[]⟩,(0,0),1,0,0,0,0,perm⟩
def EP(s:Spc)(cwd:A9)(fl:Bool)(x:List Itm×List Fnd×Int)(g:AE×Int):List Itm×List Fnd×Int:=
 if x.2.2=0 then
  (if(Bb s cwd g.1 fl).2=0 then(x.1++[Mg s g.1 g.2 (Bb s cwd g.1 fl).1],x.2.1++[(Bb s cwd g.1 fl).1],0)else(x.1++[El g.1 g.2],x.2.1++[(Bb s cwd g.1 fl).1],(Bb s cwd g.1 fl).2))
 else(x.1++[El g.1 g.2],x.2.1++[D8],x.2.2)
def Hw(s:Spc)(cwd:A9)(fl:Bool)(l:List (AE×Int))(e:Int):List Itm×List Fnd×Int:=l.foldl (EP s cwd fl) ([],[],e)
def Ay(w:Wrk)(i:Nat):Fnd:=(w.found[i]?).getD D8
def Dg(w:Wrk)(a:A9)(want:Int):Bool:=Eb (AZ w.s.spc.files a) w.p.euid w.p.egid want
def Hy(w:Wrk)(i:Nat):Bool:=Ag w.s.spc.files (Ay w i).file
def Hz(w:Wrk)(a:A9):Bool:=(C3 w.s.spc a).isSome||w.s.tab.ps.any fun p=>decide (p.cwd=a)
def C5(w:Wrk)(R:Dl):Wrk×Int:=if R.2.2=0 then({w with s:=⟨⟨R.1,w.s.spc.mounts⟩,w.s.tab⟩,r:={w.r with changes:=R.2.1}},0)else(w,R.2.2)
def Dy(w:Wrk)(R:Tab×Int):Wrk×Int:=if R.2=0 then({w with s:=⟨w.s.spc,R.1⟩},0)else(w,R.2)
def Uo(n:Nod)(a:A9)(x:Itm):Itm:={x with role:=2,file:=a,kind:=n.kind,mode:=n.mode,uid:=n.uid,gid:=n.gid}
def H6(w:Wrk)(i:Nat)(a:A9):Wrk:={w with r:={w.r with items:=w.r.items.modify i (Uo (AZ w.s.spc.files a) a)}}
def cJ:Bp:=((0,0),⟨#[]⟩,(0,0),(0,0))
def Up(l:List Bp):A9:=(l.headD cJ).2.2.2
def Mh(w:Wrk)(n:Nod):Nod:={n with uid:=w.p.euid,gid:=w.p.egid}
def EG(w:Wrk)(i:Nat)(n:Nod):Dl:=Du w.s.spc.files (Ay w i).dir (Ay w i).name (Mh w n)
def Cr(w:Wrk)(i:Nat)(n:Nod):Wrk×Int:=
 if(EG w i n).2.2=0 then(H6 (C5 w (EG w i n)).1 i (Up (EG w i n).2.1),0)else(w,(EG w i n).2.2)
def FW(w:Wrk)(i:Nat)(role:Int):Wrk:={w with r:={w.r with items:=w.r.items.modify i fun x=>{x with role:=role}}}
def Uq(w:Wrk)(n:Int):Wrk:={w with r:={w.r with exit:=n}}
def FX(mode:Int):Nod:=⟨0,1,mode,0,0,0,⟨#[]⟩,[]⟩
def J0(w:Wrk)(a:A9):Wrk×Int:=Dy (Uq w (Ej w.s.tab w.p.pid a w.c.a0).2.1) ((Ej w.s.tab w.p.pid a w.c.a0).1,(Ej w.s.tab w.p.pid a w.c.a0).2.2)
def J1(a:Int):Int:=(if C1 a 1=true then 4 else 0)+(if C1 a 18=true then 2 else 0)
def CK(w:Wrk):Wrk×Int:=
 if(Ay w 0).ex=true then
  (if C1 w.c.a0 4=true∧C1 w.c.a0 8=true then(w,17)
  else if(AZ w.s.spc.files (Ay w 0).file).kind=3 then(w,40)
  else if(AZ w.s.spc.files (Ay w 0).file).kind=2∧C1 w.c.a0 22=true then(w,21)
  else if Dg w (Ay w 0).file (J1 w.c.a0)=false then(w,13)
  else J0 w (Ay w 0).file)
 else
  (if C1 w.c.a0 4=false then(w,2)else if(Ay w 0).slash=true then(w,21)else if Dg w (Ay w 0).dir 2=false then(w,13)
  else if(Cr w 0 (FX w.c.a1)).2≠0 then Cr w 0 (FX w.c.a1)
  else J0 (Cr w 0 (FX w.c.a1)).1 (Up (Cr w 0 (FX w.c.a1)).1.r.changes))
def cK(w:Wrk):Wrk×Int:=
 if(Ay w 0).ex=false then(w,2)else if Hy w 0=true then(w,1)else if(Ay w 1).ex=true then(w,17)else if(Ay w 1).slash=true then(w,2)
 else if(Ay w 0).file.1≠(Ay w 1).dir.1 then(w,18)else if Dg w (Ay w 1).dir 2=false then(w,13)
 else if(E1 w.s.spc.files (Ay w 1).dir (Ay w 1).name (Ay w 0).file).2.2≠0 then(w,(E1 w.s.spc.files (Ay w 1).dir (Ay w 1).name (Ay w 0).file).2.2)
 else(H6 (C5 w (E1 w.s.spc.files (Ay w 1).dir (Ay w 1).name (Ay w 0).file)).1 1 (Ay w 0).file,0)
def Ur(w:Wrk)(R:Dl):Wrk×Int:=if R.2.2≠0 then(w,R.2.2)else(FW (C5 w R).1 0 3,0)
def cL(w:Wrk):Wrk×Int:=
 if(Ay w 0).ex=false then(w,2)
 else if w.c.num=10 then
  (if(Ay w 0).name=⟨#[]⟩∨Hy w 0=true then(w,21)else if Dg w (Ay w 0).dir 2=false then(w,13)
  else Ur w (FQ w.s.spc.files (Ay w 0).dir (Ay w 0).name))
 else
  (if(Ay w 0).name=⟨#[]⟩then(w,16)else if Hy w 0=false then(w,20)
  else if Hz w (AD w.s.spc.files (Ay w 0).dir (Ay w 0).name).1=true then(w,16)else if Dg w (Ay w 0).dir 2=false then(w,13)
  else Ur w (Eu w.s.spc.files (Ay w 0).dir (Ay w 0).name))
def H7(w:Wrk)(R:Dl)(x:A9):Wrk×Int:=
 if R.2.2≠0 then(w,R.2.2)else if 0<(R.2.1.length:Int)then(H6 (FW (C5 w R).1 0 3) 1 x,0)else((C5 w R).1,0)
def EH(w:Wrk):Wrk×Int:=
 if(Ay w 0).ex=false then(w,2)else if(Ay w 0).name=⟨#[]⟩∨(Ay w 1).name=⟨#[]⟩then(w,16)
 else if(Ay w 1).slash=true∧Hy w 0=false then(w,20)else if(Ay w 0).dir.1≠(Ay w 1).dir.1 then(w,18)
 else if Dg w (Ay w 0).dir 2=false∨Dg w (Ay w 1).dir 2=false then(w,13)
 else if(AD w.s.spc.files (Ay w 1).dir (Ay w 1).name).2=0∧(AD w.s.spc.files (Ay w 1).dir (Ay w 1).name).1≠(AD w.s.spc.files (Ay w 0).dir (Ay w 0).name).1∧Ag w.s.spc.files (AD w.s.spc.files (Ay w 1).dir (Ay w 1).name).1=true∧Hz w (AD w.s.spc.files (Ay w 1).dir (Ay w 1).name).1=true then(w,16)
 else H7 w (CG w.s.spc.files (Ay w 0).dir (Ay w 0).name (Ay w 1).dir (Ay w 1).name) (AD w.s.spc.files (Ay w 0).dir (Ay w 0).name).1
def Us(w:Wrk)(R:AT×Int):Wrk×Int:=C5 w (R.1,[],R.2)
def cM(w:Wrk):Wrk×Int:=
 if(Ay w 0).ex=false then(w,2)
 else if w.c.num=14 then
  (if w.p.euid≠0∧w.p.euid≠(AZ w.s.spc.files (Ay w 0).file).uid then(w,1)
  else Us w (GA w.s.spc.files (Ay w 0).file w.c.a0 (AZ w.s.spc.files (Ay w 0).file).uid (AZ w.s.spc.files (Ay w 0).file).gid))
 else if w.p.euid≠0 then(w,1)else Us w (GA w.s.spc.files (Ay w 0).file (AZ w.s.spc.files (Ay w 0).file).mode w.c.a0 w.c.a1)
def cO(w:Wrk)(R:Spc×Int):Wrk×Int:=if R.2=0 then({w with s:=⟨R.1,w.s.tab⟩},0)else(w,R.2)
def cQ(w:Wrk):Wrk×Int:=
 if(Ay w 0).ex=false then(w,2)
 else if w.c.num=1 then(if Hy w 0=true∨Dg w (Ay w 0).file 1=false then(w,13)else Dy w (cG w.s.tab w.p.pid (Ay w 0).path (Ay w 0).name))
 else if w.c.num=16 then(if Hy w 0=false then(w,20)else if Dg w (Ay w 0).file 1=false then(w,13)else Dy w (cF w.s.tab w.p.pid (Ay w 0).file))
 else if w.c.num=17 then(if Hy w 0=false then(w,20)else cO w (DD w.s.spc w.c.a0 (Ay w 0).file))
 else if Hy w 0=true then(w,21)else if Dg w (Ay w 0).file 2=false then(w,13)else(w,0)
def cR(t:AE):Nod:=⟨0,3,511,0,0,0,t,[]⟩
def cT(mode:Int):Nod:=⟨0,2,mode,0,0,0,⟨#[]⟩,[]⟩
def cU(w:Wrk):Wrk×Int:=
 if(Ay w 0).ex=true then(w,17)else if(Ay w 0).slash=true∧w.c.num=9 then(w,2)else if Dg w (Ay w 0).dir 2=false then(w,13)
 else if w.c.num=9 then Cr w 0 (cR (L8 w.c))else Cr w 0 (cT w.c.a0)
def cV(t:Tab)(dev:Int):Bool:=t.ps.any fun p=>decide (p.cwd.1=dev)||p.opens.any fun d=>decide (d.file.1=dev)
def cW(w:Wrk)(R:Spc×Int):Wrk×Int:=if R.2=0 then({w with s:=⟨R.1,w.s.tab⟩,r:={w.r with gone:=w.c.a0}},0)else(w,R.2)
def cY(w:Wrk):Wrk×Int:=
 if w.p.euid≠0 then(w,1)else if w.c.a0=0∨C4 w.s.spc w.c.a0=false then(w,22)else if cV w.s.tab w.c.a0=true then(w,16)
 else cW w (ZH w.s.spc w.c.a0)
def cZ(w:Wrk)(n:Int):Wrk:={w with r:={w.r with exit:=n,child:=n}}
def d6(w:Wrk):Wrk×Int:=
 if w.c.num=0 then Dy (cZ w (RA w.s.tab w.p.pid).2.1) ((RA w.s.tab w.p.pid).1,(RA w.s.tab w.p.pid).2.2)
 else if w.c.num=2 then Dy w (Un w.s.tab w.p.pid)
 else if w.c.num=3 then Dy w (bZ w.s.tab w.p.pid w.c.a0)
 else if w.c.num=4 then Dy w (cA w.s.tab w.p.pid w.c.a0)
 else if w.c.num=5 then Dy w (cB w.s.tab w.p.pid w.c.a0)
 else if w.c.num=7 then Dy w (cC w.s.tab w.p.pid w.c.a0)
 else if w.c.num=18 then cY w
 else if w.c.num=19 then(if w.c.a0<0∨65535<w.c.a0∨L8 w.c=⟨#[]⟩then(w,22)else if w.c.a0=0 then(w,111)else(w,0))
 else if w.c.a1<0∨64<w.c.a1 then(w,22)else Dy w (cH w.s.tab w.p.pid w.c.a0 (decide (w.c.a1≠0)))
def DT(w:Wrk):Wrk×Int:=
 if w.c.num=6 then CK w else if w.c.num=8 then cK w else if w.c.num=10∨w.c.num=12 then cL w else if w.c.num=13 then EH w
 else if w.c.num=14∨w.c.num=15 then cM w else if w.c.num=1∨w.c.num=16∨w.c.num=17∨w.c.num=21 then cQ w
 else if w.c.num=9∨w.c.num=11 then cU w else d6 w
def GF(s:Syst)(p:Prc)(c:Cal):List Itm×List Fnd×Int:=Hw s.spc p.cwd (Cf c) (c.paths.zip (Ce c)) (DN p c)
def F9(s:Syst)(pid:Int)(c:Cal):Wrk:=⟨s,Az s.tab pid,c,(GF s (Az s.tab pid) c).2.1,{Fr with items:=(GF s (Az s.tab pid) c).1}⟩
def H8(n:Int):Syst×Int:=if(EY n).2≠0 then(⟨⟨[],[]⟩,DS⟩,(EY n).2)else(⟨⟨(EY n).1,[]⟩,R9 (0,1)⟩,0)
def Jb(d:Dsc):List AV:=[.v (.int .i64 d.fd), .v (.int .i64 d.file.1), .v (.int .i64 d.file.2), .v (.int .i64 d.flags)]
def Bl(p:Prc):List AV:=[.v (.int .i64 p.pid), .v (.int .i64 p.ppid), .v (.int .i64 p.uid), .v (.int .i64 p.euid), .v (.int .i64 p.gid), .v (.int .i64 p.egid), .v (.int .i64 p.auid), .v (.int .i64 p.ses), .v (.int .i64 p.cwd.1), .v (.int .i64 p.cwd.2), .v (.string p.comm), .v (.string p.exe), .sl 4 (p.opens.map Jb) none, .v (.bool p.audited)]
def CD(t:Tab):List AV:=[.v (.int .i64 t.next), .v (.int .i64 t.nextS), .sl 14 (t.ps.map Bl) none]
def Cs(s:Syst):List AV:=[.sl 2 (s.spc.files.map Be) none, .sl 3 (s.spc.mounts.map Co) none, .v (.int .i64 s.tab.next), .v (.int .i64 s.tab.nextS), .sl 14 (s.tab.ps.map Bl) none]
def FY(s:AE):List AV:=[.v (.string s)]
def EQ(c:Cal):List AV:=[.v (.int .i64 c.num), .v (.int .i64 c.a0), .v (.int .i64 c.a1), .v (.int .i64 c.a2), .v (.int .i64 c.a3), .sl 1 (c.paths.map FY) none, .sl 1 (c.args.map FY) none]
def CE(y:Itm):List AV:=[.v (.string y.given), .v (.string y.path), .v (.int .i64 y.dir.1), .v (.int .i64 y.dir.2), .v (.string y.name), .v (.int .i64 y.file.1), .v (.int .i64 y.file.2), .v (.int .i64 y.role), .v (.int .i64 y.kind), .v (.int .i64 y.mode), .v (.int .i64 y.uid), .v (.int .i64 y.gid), .v (.int .i64 y.perm)]
def FA(r:Res):List AV:=[.v (.int .i64 r.exit), .v (.int .i64 r.child), .v (.int .i64 r.gone), .sl 13 (r.items.map CE) none, .sl 7 (r.changes.map CN) none]
def D0(w:Wrk)(fnd its:AV):List AV:=
 [.sl 2 (w.s.spc.files.map Be) none, .sl 3 (w.s.spc.mounts.map Co) none, .v (.int .i64 w.s.tab.next), .v (.int .i64 w.s.tab.nextS), .sl 14 (w.s.tab.ps.map Bl) none,
 .v (.int .i64 w.p.pid), .v (.int .i64 w.p.ppid), .v (.int .i64 w.p.uid), .v (.int .i64 w.p.euid), .v (.int .i64 w.p.gid), .v (.int .i64 w.p.egid), .v (.int .i64 w.p.auid), .v (.int .i64 w.p.ses), .v (.int .i64 w.p.cwd.1), .v (.int .i64 w.p.cwd.2), .v (.string w.p.comm), .v (.string w.p.exe), .sl 4 (w.p.opens.map Jb) none, .v (.bool w.p.audited),
 .v (.int .i64 w.c.num), .v (.int .i64 w.c.a0), .v (.int .i64 w.c.a1), .v (.int .i64 w.c.a2), .v (.int .i64 w.c.a3), .sl 1 (w.c.paths.map FY) none, .sl 1 (w.c.args.map FY) none,fnd,
 .v (.int .i64 w.r.exit), .v (.int .i64 w.r.child), .v (.int .i64 w.r.gone),its, .sl 7 (w.r.changes.map CN) none]
structure TabB(t:Tab):Prop where
 few:t.ps.length≤16
 opens:∀p∈t.ps,p.opens.length≤8
 next:t.next≤1073741824
 nextS:t.nextS≤1073741824
structure RowF(sz:Nat){α:Type}(F:α→List AV):Prop where
 len:∀x,(F x).length=sz
 flat:∀x,∀y∈F x,(∃v,y= .v v)∨∃s r,y= .sl s r none
 pos:0<sz
def LB(sz:Nat){α:Type}(F:α→List AV)(l:List α)(cap:Nat):List AV:=CJ sz cap (l.map F)
section
variable {α:Type}{sz:Nat}{F:α→List AV}(hF:RowF sz F)
include hF
theorem KH(l:List α):∀r∈l.map F,r.length=sz:=by
 intro r hr;obtain⟨x,_,rfl⟩:=List.mem_map.1 hr;exact hF.len x
theorem RC{l:List α}{cap:Nat}(h:l.length≤cap):(LB sz F l cap).length=cap * sz:=Pg (KH hF l) (by simpa using h)
theorem d7{g:AV→AV}(hv:∀x,g (.v x)= .v x)(hs:∀sz rows,g (.sl sz rows none)= .sl sz rows none)(x:α):(F x).map g=F x:=by
 conv=>rhs;rw[←List.map_id (F x)]
 apply List.map_congr_left;intro y hy;rcases hF.flat x y hy with⟨v,rfl⟩|⟨s,r,rfl⟩
 ·exact hv v
 exact hs s r
theorem RD{g:AV→AV}(hany:g .any= .any)(hv:∀x,g (.v x)= .v x)(hs:∀sz rows,g (.sl sz rows none)= .sl sz rows none)(l:List α)(cap:Nat):(LB sz F l cap).map g=LB sz F l cap:=by
 unfold LB;rw[M4 g hany,List.map_map]
 congr 1
 apply List.map_congr_left;intro x _;exact d7 hF hv hs x
theorem GG(g:Nat→Option Nat)(l:List α)(cap:Nat):DH g (LB sz F l cap)=LB sz F l cap:=by
 rw[M2];exact RD hF rfl (fun _=>rfl) (fun _ _=>rfl) l cap
theorem H9(g:Nat→Option Nat)(l:List α)(cap:Nat):FH g (LB sz F l cap)=LB sz F l cap:=by
 rw[Nq];exact RD hF rfl (fun _=>rfl) (fun _ _=>rfl) l cap
theorem d8(g:Nat→Option (List AV))(l:List α)(cap:Nat):G5 g (LB sz F l cap)=LB sz F l cap:=by
 rw[M3];exact RD hF rfl (fun _=>rfl) (fun _ _=>rfl) l cap
theorem d9{n m:Nat}(x:α):Aq n m (F x)=true:=by
 refine Ps.2 fun y hy=>?_;rcases hF.flat x y hy with⟨v,rfl⟩|⟨s,r,rfl⟩<;>rfl
theorem Bt{n m:Nat}{l:List α}{cap:Nat}:Aq n m (LB sz F l cap)=true:=by
 refine Pt fun r hr=>?_;obtain⟨x,_,rfl⟩:=List.mem_map.1 hr;exact d9 hF x
theorem dA{n:Nat}{bx:List (List AV)}{k j:Nat}{l:List α}{cap:Nat}(hn:n≤j)(hj:bx[j]?=some (LB sz F l cap)):DV n bx (k+1) j=some (LB sz F l cap):=by
 have:Nat.blt j n=false:=by rw[←Bool.not_eq_true,Nat.blt_eq];omega
 simp only[DV,this,hj,Option.map_some,d8 hF]
theorem RE{n:Nat}{bx:List (List AV)}{k j:Nat}{l:List α}{cap cap0:Nat}(hn:Nat.ble n j=true)(hj:bx[j]?=some (LB sz F l cap))(hc:l.length≤cap):Eh n (DV n bx (k+1)) (.bs j 0 sz l.length cap0)= .sl sz (l.map F) none:=
 Ta (B6 hn) (dA hF (B6 hn) hj) (KH hF l) (by simp) (by simpa using hc)
theorem dB{l:List α}{cap i k:Nat}{x:α}{y:AV}(h:l[i]?=some x)(hx:(F x)[k]?=some y):(LB sz F l cap)[0+i * sz+k]?=some y:=M6 (KH hF l) (by rw[List.getElem?_map,h];rfl) hx
theorem Jc{l:List α}{cap i k:Nat}{x x':α}{cs:List AV}(h:l[i]?=some x)(hs:SetAt (F x) k cs (F x'))(hne:cs≠[]):SetAt (LB sz F l cap) (0+i * sz+k) cs (LB sz F (l.set i x') cap):=by
 have key:=Pw (cap:=cap) (KH hF l) (by rw[List.getElem?_map,h];rfl) hs hne;rw[←List.map_set]at key;exact key
theorem Ut{l:List α}{cap i:Nat}{x x':α}(h:l[i]?=some x):SetAt (LB sz F l cap) (0+i * sz) (F x') (LB sz F (l.set i x') cap):=by
 have hne:F x'≠[]:=fun e=>by have h1:=hF.len x';have h2:=hF.pos;rw[e]at h1;simp at h1;omega
 have hs:SetAt (F x) 0 (F x') (F x'):=by
  have:=SetAt.whole (xs:=F x') (l:=F x) (b:=[]) (by rw[hF.len,hF.len])
  simpa using this
 have key:=Jc hF (cap:=cap) h hs hne
 simpa using key
theorem Uu(x:α)(cap:Nat):F x++List.replicate ((cap - 1) * sz) .any=LB sz F [x] cap:=by
 have _:=hF;unfold LB CJ;simp
theorem Uv(acc:List α)(x:α)(cap0 cap:Nat):((LB sz F acc cap0).drop 0).take (acc.length * sz)++F x++List.replicate ((cap - (acc.length+1)) * sz) .any=LB sz F (acc++[x]) cap:=by
 unfold LB;rw[So (KH hF acc) (by simp),List.map_append];rfl
theorem Uw{acc:List α}{x:α}{cap:Nat}{row:List AV}(hs:SetAt (LB sz F acc cap) (0+acc.length * sz) (F x) row)(hc:acc.length+1≤cap):row=LB sz F (acc++[x]) cap:=by
 have key:=Sn (rows:=acc.map F) (sz:=sz) (cap:=cap) (r:=F x) (row':=row) (KH hF acc) (hF.len x) hF.pos (by simpa using hc) (by rw[List.length_map];exact hs);rw[key];unfold LB;rw[List.map_append];rfl
end
theorem EJ:RowF 14 Bl:=⟨fun _=>rfl,fun x y h=>by simp[Bl]at h;rcases h with h|h|h|h|h|h|h|h|h|h|h|h|h|h<;>first|exact .inl ⟨_,h⟩|exact .inr ⟨_,_,h⟩,by decide⟩
theorem BL:RowF 13 CE:=⟨fun _=>rfl,fun x y h=>by simp[CE]at h;rcases h with h|h|h|h|h|h|h|h|h|h|h|h|h<;>exact .inl ⟨_,h⟩,by decide⟩
theorem Cw{f:Nat→Option AV}{bx:List (List AV)}{tk:List (Nat×Nat×List (List AV))}{l:List (Nat×AV)}{N:Dim}(n m:Nat){bx':List (List AV)}{tk':List (Nat×Nat×List (List AV))}(hbp:At n m bx'=true)(hn:Nat.ble N.ni n=true:=by rfl)(hb:bx.take n=bx':=by rfl)(ht:tk.take m=tk':=by rfl)(hl:Sub n m f l:=by repeat (first|exact Sub.nil|refine Sub.cons _ _ _ rfl rfl ?_|refine Sub.any _ _ ?_|refine Sub.sl _ _ _ _ _ rfl ?_|refine Sub.slnil _ _ _ rfl ?_|(apply Sub.of;(focus exact rfl);(focus exact LeA.of_eq (vb (by simp[*])));(focus exact rfl)))):Weak N ⟨f,⟨bx,tk⟩⟩ ⟨look l,⟨bx',tk'⟩⟩:=B7 n m hn hb ht hbp hl
def Dh(bx:List (List AV))(g:Nat→Option Nat):List Nat→List (List AV)→List (List AV)
 |[],bc=>bx++bc.map (DH g)
 |i::is,[]=>Dh bx g is []
 |i::is,r::bc=>Dh (bx.set i (DH g r)) g is bc
theorem Ux{g:Nat→Option Nat}:∀(is:List Nat) (bx bc:List (List AV)),is.length≤bc.length→(Dh bx g is bc).length=bx.length+(bc.length - is.length)
 |[],bx,bc,_=>by simp[Dh]
 |i::is,bx,[],h=>by simp at h
 |i::is,bx,r::bc,h=>by
   unfold Dh;rw[Ux is _ bc (by simpa using h)];simp
theorem OM{g:Nat→Option Nat}:∀(is:List Nat) (bx bc:List (List AV)) (i:Nat),i∉is→i<bx.length→(Dh bx g is bc)[i]?=bx[i]?
 |[],bx,bc,i,_,hi=>by unfold Dh;rw[Ca hi]
 |j::is,bx,[],i,h,hi=>by
   unfold Dh;exact OM is bx [] i (fun hm=>h (List.mem_cons_of_mem _ hm)) hi
 |j::is,bx,r::bc,i,h,hi=>by
   unfold Dh;rw[OM is _ bc i (fun hm=>h (List.mem_cons_of_mem _ hm)) (by simpa using hi),List.getElem?_set_ne (fun e=>h (by rw[e];exact List.mem_cons_self ..))]
theorem Uy{g:Nat→Option Nat}:∀(is:List Nat) (bx bc:List (List AV)) (k i:Nat) (row:List AV),is.Nodup→i<bx.length→is[k]?=some i→bc[k]?=some row→(Dh bx g is bc)[i]?=some (DH g row)
 |[],_,_,_,_,_,_,_,h,_=>by simp at h
 |j::is,bx,[],k,i,row,_,_,_,h=>by simp at h
 |j::is,bx,r::bc,0,i,row,hn,hi,h1,h2=>by
   simp at h1 h2;subst h1 h2;unfold Dh;rw[OM is _ bc j (List.nodup_cons.1 hn).1 (by simpa using hi),List.getElem?_set_self hi]
 |j::is,bx,r::bc,k+1,i,row,hn,hi,h1,h2=>by
   unfold Dh;exact Uy is _ bc k i row (List.nodup_cons.1 hn).2 (by simpa using hi) (by simpa using h1) (by simpa using h2)
theorem Uz{g:Nat→Option Nat}:∀(is:List Nat) (bx bc:List (List AV)) (k:Nat) (row:List AV),bc[is.length+k]?=some row→(Dh bx g is bc)[bx.length+k]?=some (DH g row)
 |[],bx,bc,k,row,h=>by
   unfold Dh;rw[DP (by omega),show bx.length+k - bx.length=k by omega,List.getElem?_map];simp at h;rw[h];rfl
 |j::is,bx,[],k,row,h=>by simp at h
 |j::is,bx,r::bc,k,row,h=>by
   unfold Dh;have:=Uz (g:=g) is (bx.set j (DH g r)) bc k row (by simpa[Nat.add_right_comm]using h)
   simpa using this
theorem RF{bx:List (List AV)}{is:List Nat}{bc:List (List AV)}(hn:is.Nodup)(hi:∀i∈is,i<bx.length)(hl:is.length≤bc.length):Back bx is bc (Dh bx (E0 is bx.length) is bc):=by
 refine⟨Ux is bx bc hl,fun i row h1 h2=>?_,fun k i row h1 h2=>?_,fun k row h=>Uz is bx bc k row h⟩
 ·rw[OM is bx bc i h1 (Ai.1 h2).1];exact h2
 exact Uy is bx bc k i row hn (hi i (Aj h1)) h1 h2
end Go.Proofs.YtobclmbkdhbnpaaGreatDoor
