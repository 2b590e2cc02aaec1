/-
  Part 7 of the proof of WatchNamesP: what the statement's proof uses of the texts in wip/tpl.
-/
import Derived.Test.YtobclmbkdhbnpaaGreatDoorQb6
open Go.Proofs.Tryz (prog)
set_option maxRecDepth 10000
set_option maxHeartbeats 4000000
set_option linter.unusedVariables false
set_option linter.unusedSimpArgs false
namespace Go.Proofs.YtobclmbkdhbnpaaGreatDoor
theorem RZ:∀x:List UInt8,Op.bytesLess x x=false
 |[]=>rfl
 |a::x=>by simp[Op.bytesLess,RZ x]
theorem Ra:∀x y z:List UInt8,Op.bytesLess x y=true→Op.bytesLess y z=true→Op.bytesLess x z=true
 |_,[],_,h,_=>by cases ‹List UInt8›<;>simp[Op.bytesLess]at h
 |_,_::_,[],_,h=>by simp[Op.bytesLess]at h
 |[],_::_,_::_,_,_=>rfl
 |a::x,b::y,c::z,h,k=>by
   simp only[Op.bytesLess,Bool.or_eq_true,Bool.and_eq_true,decide_eq_true_iff,beq_iff_eq]at h k ⊢;rcases h with h|⟨rfl,h⟩
   ·rcases k with k|⟨rfl,k⟩
    ·exact .inl (UInt8.lt_trans h k)
    exact .inl h
   rcases k with k|⟨rfl,k⟩
   ·exact .inl k
   exact .inr ⟨rfl,Ra x y z h k⟩
theorem Rb:∀x y:List UInt8,Op.bytesLess x y=false→x≠y→Op.bytesLess y x=true
 |[],[],_,h=>absurd rfl h
 |[],_::_,h,_=>by simp[Op.bytesLess]at h
 |_::_,[],_,_=>rfl
 |a::x,b::y,h,k=>by
   simp only[Op.bytesLess,Bool.or_eq_false_iff,decide_eq_false_iff_not,Bool.and_eq_false_iff,beq_eq_false_iff_ne]at h;simp only[Op.bytesLess,Bool.or_eq_true,Bool.and_eq_true,decide_eq_true_iff,beq_iff_eq];by_cases e:a=b
   ·subst e;right;refine⟨rfl,Rb x y ?_ (fun e=>k (by rw[e]))⟩;rcases h.2 with h|h
    ·exact absurd rfl h
    exact h
   left;have h1:¬a.toNat<b.toNat:=h.1;have h2:a.toNat≠b.toNat:=fun e'=>e (UInt8.toNat_inj.1 e');show b.toNat<a.toNat;omega
theorem Wo(a:AB):EK a a=false:=RZ _
theorem Wp{a b c:AB}(h:EK a b=true)(k:EK b c=true):EK a c=true:=Ra _ _ _ h k
theorem Rc{a b:AB}(h:EK a b=false)(k:a≠b):EK b a=true:=by
 refine Rb _ _ h fun e=>k ?_;have:=MC a b;rw[e]at this
 simpa using this
theorem L6{a b:AB}(h:EK a b=true):a≠b:=by rintro rfl;rw[Wo]at h;cases h
def EU(es:List B6):Prop:=es.Pairwise fun a b=>EK a.1 b.1=true
def Ds(name:AB)(es:List B6):List B6:=es.filter fun e=>decide (e.1≠name)
theorem L7(name:AB)(ino:Int):∀es:List B6,Eo name ino true es=Ds name es
 |[]=>rfl
 |e::r=>by
   unfold Eo;simp only[Bool.not_true,Bool.false_and,Bool.true_or];rw[L7 name ino r];unfold Ds;rw[List.filter_cons];by_cases h:e.1=name<;>simp[h]
theorem G9(es:List B6)(name:AB):CE es name 0=Ds name es:=L7 name 0 es
theorem OV(name:AB)(ino:Int):∀es:List B6,(Eo name ino false es).Perm ((name,ino)::Ds name es)
 |[]=>by simp[Eo,Ds]
 |e::r=>by
   unfold Eo;simp only[Bool.not_false,Bool.true_and,Bool.false_or]
   cases hlt:EK e.1 name with
   |false=>
     simp only[Bool.not_false,if_true];rw[L7 name ino r];unfold Ds;rw[List.filter_cons];by_cases h:e.1=name<;>simp[h]
   |true=>
     have hne:=L6 hlt;have ih:=OV name ino r;unfold Ds at ih ⊢;rw[List.filter_cons];simp only[Bool.not_true,Bool.false_eq_true,if_false,List.nil_append,hne,ne_eq,not_false_eq_true,decide_true,if_true];exact(List.Perm.cons e ih).trans (List.Perm.swap _ _ _)
theorem Gi(es:List B6)(name:AB){ino:Int}(h:ino≠0):(CE es name ino).Perm ((name,ino)::Ds name es):=by
 unfold CE;rw[show(ino==0)=false by simpa using h];exact OV name ino es
theorem OW{es:List B6}(h:EU es)(name:AB):EU (Ds name es):=List.Pairwise.filter _ h
theorem Rd(name:AB)(ino:Int):∀es:List B6,EU es→EU (Eo name ino false es)
 |[],_=>by simp[Eo,EU]
 |e::r,h=>by
   obtain⟨h1,h2⟩:=List.pairwise_cons.1 h;unfold Eo;simp only[Bool.not_false,Bool.true_and,Bool.false_or]
   cases hlt:EK e.1 name with
   |false=>
     simp only[Bool.not_false,if_true];rw[L7 name ino r]
     have hr:∀x∈Ds name r,EK name x.1=true:=fun x hx=>by
      obtain⟨hx1,_⟩:=List.mem_filter.1 hx;have h3:=h1 x hx1;by_cases he:e.1=name
      ·rw[←he];exact h3
      exact Wp (Rc hlt he) h3
     by_cases he:e.1=name
     ·simp only[he,if_true,List.nil_append,List.cons_append];exact List.pairwise_cons.2 ⟨hr,OW h2 name⟩
     simp only[he,if_false,List.cons_append,List.nil_append];refine List.pairwise_cons.2 ⟨?_,List.pairwise_cons.2 ⟨fun x hx=>h1 x (List.mem_filter.1 hx).1,OW h2 name⟩⟩;intro x hx;rcases List.mem_cons.1 hx with rfl|hx
     ·exact Rc hlt he
     exact hr x hx
   |true=>
     have hne:=L6 hlt;simp only[Bool.not_true,Bool.false_eq_true,if_false,List.nil_append,hne,List.cons_append];refine List.pairwise_cons.2 ⟨fun x hx=>?_,Rd name ino r h2⟩;have hx':=(OV name ino r).mem_iff.1 hx;rcases List.mem_cons.1 hx' with rfl|hx'
     ·exact hlt
     exact h1 x (List.mem_filter.1 hx').1
theorem Jj{es:List B6}(h:EU es)(name:AB)(ino:Int):EU (CE es name ino):=by
 unfold CE
 cases (ino==0)with
 |true=>rw[L7];exact OW h name
 |false=>exact Rd name ino es h
def Cw(es:List B6)(name:AB):Option B6:=es.find? fun e:B6=>decide (e.1=name)
theorem GA{es:List B6}{name:AB}{e:B6}(h:Cw es name=some e):e∈es∧e.1=name:=by
 have h1:=List.find?_some h;exact⟨List.mem_of_find?_eq_some h,by simpa using h1⟩
theorem MQ{es:List B6}{name:AB}(h:Cw es name=none):∀e∈es,e.1≠name:=fun e he=>by
 have:=List.find?_eq_none.1 h e he
 simpa using this
theorem MR{es:List B6}{name:AB}(h:Cw es name=none):Ds name es=es:=by
 unfold Ds;rw[List.filter_eq_self];intro e he
 simpa using MQ h e he
theorem MS{es:List B6}(hs:EU es){name:AB}{e:B6}(h:Cw es name=some e):es.Perm (e::Ds name es):=by
 induction es with
 |nil=>simp[Cw]at h
 |cons x r ih=>
   obtain⟨h1,h2⟩:=List.pairwise_cons.1 hs;unfold Cw at h;rw[List.find?_cons]at h;unfold Ds;rw[List.filter_cons];by_cases hx:x.1=name
   ·simp only[hx,decide_true,Option.some.injEq]at h;subst h
    have:r.filter (fun e=>decide (e.1≠name))=r:=by
     rw[List.filter_eq_self];intro y hy;have:=L6 (h1 y hy);simp only[ne_eq,decide_not,Bool.not_eq_true',decide_eq_false_iff_not];rw[←hx];exact fun e=>this e.symm
    rw[this];simp[hx]
   simp only[hx,decide_false]at h;have:=ih h2 h;simp only[ne_eq,hx,not_false_eq_true,decide_true,if_true];exact(List.Perm.cons x this).trans (List.Perm.swap _ _ _)
theorem MT{i:Int}{a b:List B6}(h:a.Perm b):CV i a=CV i b:=h.countP_eq _
theorem MU(i:Int)(e:B6)(es:List B6):CV i (e::es)=CV i es+(if e.2=i then 1 else 0):=by
 unfold CV;rw[List.countP_cons];by_cases h:e.2=i<;>simp[h]
theorem Re{i:Int}{es:List B6}:0<CV i es↔∃e∈es,e.2=i:=by
 unfold CV;rw[List.countP_pos_iff];simp
theorem L8{i:Int}{ns:List Nod}:0<Bc i ns↔∃n∈ns,∃e∈n.entries,e.2=i:=by
 unfold Bc;rw[Re];constructor
 ·rintro⟨e,he,h⟩;obtain⟨n,hn,he⟩:=List.mem_flatMap.1 he;exact⟨n,hn,e,he,h⟩
 rintro⟨n,hn,e,he,h⟩;exact⟨e,List.mem_flatMap.2 ⟨n,hn,he⟩,h⟩
theorem OX(i:Int)(a b:List Nod):Bc i (a++b)=Bc i a+Bc i b:=by
 unfold Bc CV;rw[List.flatMap_append,List.countP_append]
theorem Jk(i:Int)(n:Nod)(b:List Nod):Bc i (n::b)=CV i n.entries+Bc i b:=by
 unfold Bc CV;rw[List.flatMap_cons,List.countP_append]
def Ck(ns:List Nod)(ino:Int)(g:Nod→Nod):List Nod:=ns.map fun n=>if n.ino=ino then g n else n
def DQ(ns:List Nod):Prop:=ns.Pairwise fun a b=>a.ino<b.ino
theorem D2{ns:List Nod}(h:DQ ns){a b:Nod}(ha:a∈ns)(hb:b∈ns)(e:a.ino=b.ino):a=b:=by
 induction ns with
 |nil=>cases ha
 |cons x r ih=>
   obtain⟨h1,h2⟩:=List.pairwise_cons.1 h;rcases List.mem_cons.1 ha with rfl|ha
   ·rcases List.mem_cons.1 hb with rfl|hb
    ·rfl
    have:=h1 b hb;omega
   rcases List.mem_cons.1 hb with hb|hb
   ·subst hb;have:=h1 a (by assumption);omega
   exact ih h2 (by assumption) hb
theorem Rf{ns:List Nod}(h:DQ ns){n:Nod}(hn:n∈ns):∃A B,ns=A++n::B∧(∀m∈A,m.ino≠n.ino)∧∀m∈B,m.ino≠n.ino:=by
 obtain⟨A,B,rfl⟩:=List.append_of_mem hn;obtain⟨h1,h2,h3⟩:=List.pairwise_append.1 h;obtain⟨h4,_⟩:=List.pairwise_cons.1 h2;exact⟨A,B,rfl,fun m hm=>by have:=h3 m hm n (by simp);omega,fun m hm=>by have:=h4 m hm;omega⟩
theorem Wq{A B:List Nod}{n:Nod}(hA:∀m∈A,m.ino≠n.ino)(hB:∀m∈B,m.ino≠n.ino)(g:Nod→Nod):Ck (A++n::B) n.ino g=A++g n::B:=by
 unfold Ck;rw[List.map_append,List.map_cons,if_pos rfl]
 congr 1
 ·rw[List.map_congr_left (g:=id) fun m hm=>by simp[hA m hm]];simp
 congr 1
 rw[List.map_congr_left (g:=id) fun m hm=>by simp[hB m hm]];simp
theorem Rg{ns:List Nod}{ino:Int}{g:Nod→Nod}{m:Nod}:m∈Ck ns ino g↔∃n∈ns,m=if n.ino=ino then g n else n:=by
 unfold Ck;rw[List.mem_map];constructor
 ·rintro⟨n,hn,rfl⟩;exact⟨n,hn,rfl⟩
 rintro⟨n,hn,rfl⟩;exact⟨n,hn,rfl⟩
theorem Wr{ns:List Nod}{ino:Int}{g:Nod→Nod}(hg:∀n,(g n).ino=n.ino):(Ck ns ino g).map (·.ino)=ns.map (·.ino):=by
 unfold Ck;rw[List.map_map];apply List.map_congr_left;intro n _;simp only[Function.comp];split
 ·exact hg n
 rfl
theorem OY{ns:List Nod}:DQ ns↔(ns.map (·.ino)).Pairwise (· < ·):=by
 unfold DQ;rw[List.pairwise_map]
theorem Ws{ns:List Nod}(h:DQ ns)(ino:Int){g:Nod→Nod}(hg:∀n,(g n).ino=n.ino):DQ (Ck ns ino g):=by
 rw[OY]at h ⊢;rw[Wr hg];exact h
theorem Rh{ns:List Nod}(h:DQ ns){n:Nod}(hn:n∈ns)(g:Nod→Nod)(i:Int):Bc i (Ck ns n.ino g)+CV i n.entries=Bc i ns+CV i (g n).entries:=by
 obtain⟨A,B,rfl,hA,hB⟩:=Rf h hn;rw[Wq hA hB];simp only[OX,Jk];omega
end Go.Proofs.YtobclmbkdhbnpaaGreatDoor
namespace Go.Proofs.YtobclmbkdhbnpaaGreatDoor
structure VD(d:Dvc):Prop where
 len:d.nodes.length≤16
 next2:2≤d.next
 nextM:d.next≤1073741824
 root:∃r rest,d.nodes=r::rest∧r.ino=1∧r.kind=2∧r.parent=1
 asc:DQ d.nodes
 lt:∀n∈d.nodes,n.ino<d.next
 plain:∀n∈d.nodes,ES n=true
 leaf:∀n∈d.nodes,n.kind≠2→n.parent=0∧n.entries=[]
 many:∀n∈d.nodes,n.entries.length≤12
 sorted:∀n∈d.nodes,EU n.entries
 ent:∀n∈d.nodes,∀e∈n.entries,Da e.1=true∧e.2≠1∧∃m∈d.nodes,m.ino=e.2
 link:∀n∈d.nodes,n.ino≠1→0<Bc n.ino d.nodes
 one:∀n∈d.nodes,n.ino≠1→n.kind=2→Bc n.ino d.nodes=1
 par:∀n∈d.nodes,n.ino≠1→n.kind=2→∃p∈d.nodes,p.ino=n.parent∧∃e∈p.entries,e.2=n.ino
 rank:∃rk:Int→Nat,∀n∈d.nodes,n.ino≠1→n.kind=2→rk n.parent<rk n.ino
theorem VD.pos{d:Dvc}(h:VD d){n:Nod}(hn:n∈d.nodes):1≤n.ino:=by
 obtain⟨r,rest,hr,h1,_⟩:=h.root;have ha:=h.asc;rw[hr]at hn ha;rcases List.mem_cons.1 hn with rfl|hn
 ·omega
 have:=(List.pairwise_cons.1 ha).1 n hn;omega
theorem VD.rootMem{d:Dvc}(h:VD d):∃r∈d.nodes,r.ino=1∧r.kind=2∧r.parent=1:=by
 obtain⟨r,rest,hr,h1,h2,h3⟩:=h.root;exact⟨r,by rw[hr];simp,h1,h2,h3⟩
theorem VD.isRoot{d:Dvc}(h:VD d){n:Nod}(hn:n∈d.nodes)(h1:n.ino=1):n.kind=2∧n.parent=1:=by
 obtain⟨r,hr,h2,h3,h4⟩:=h.rootMem;obtain rfl:=D2 h.asc hn hr (by omega);exact⟨h3,h4⟩
theorem VD.dirOf{d:Dvc}(h:VD d){n:Nod}(hn:n∈d.nodes){e:B6}(he:e∈n.entries):n.kind=2:=by
 apply Classical.byContradiction;intro hk;rw[(h.leaf n hn hk).2]at he;cases he
def L9(name:AB)(ino:Int)(n:Nod):Nod:={n with entries:=CE n.entries name ino}
def BN(ns:List Nod)(p:Int)(name:AB)(ino:Int):List Nod:=Ck ns p (L9 name ino)
structure AsWas(p:Int)(name:AB)(to_:Int)(n m:Nod):Prop where
 ino:m.ino=n.ino
 kind:m.kind=n.kind
 parent:m.parent=n.parent
 plain:ES m=ES n
 ents:m.entries=if n.ino=p then CE n.entries name to_ else n.entries
theorem OZ(p:Int)(name:AB)(ino:Int)(n:Nod):AsWas p name ino n (if n.ino=p then L9 name ino n else n):=by
 by_cases h:n.ino=p
 ·simp only[h,if_true];exact⟨h ▸ rfl,rfl,rfl,rfl,by simp[h,L9]⟩
 simp only[h,if_false];exact⟨rfl,rfl,rfl,rfl,by simp[h]⟩
theorem E9{ns:List Nod}{p:Int}{name:AB}{ino:Int}{m:Nod}(h:m∈BN ns p name ino):∃n∈ns,AsWas p name ino n m:=by
 obtain⟨n,hn,rfl⟩:=Rg.1 h;exact⟨n,hn,OZ p name ino n⟩
theorem Hb{ns:List Nod}(p:Int)(name:AB)(ino:Int){n:Nod}(h:n∈ns):∃m∈BN ns p name ino,AsWas p name ino n m:=⟨_,Rg.2 ⟨n,h,rfl⟩,OZ p name ino n⟩
theorem Jl{ns:List Nod}(h:DQ ns)(p:Int)(name:AB)(ino:Int):DQ (BN ns p name ino):=Ws h p fun _=>rfl
theorem Oa(ns:List Nod)(p:Int)(name:AB)(ino:Int):(BN ns p name ino).length=ns.length:=by simp[BN,Ck]
theorem LA{ns:List Nod}(h:DQ ns){n0:Nod}(hn:n0∈ns)(name:AB)(ino i:Int):Bc i (BN ns n0.ino name ino)+CV i n0.entries=Bc i ns+CV i (CE n0.entries name ino):=Rh h hn (L9 name ino) i
theorem Ob{ns:List Nod}(p:Int)(name:AB)(ino:Int)(h:∃r rest,ns=r::rest∧r.ino=1∧r.kind=2∧r.parent=1):∃r rest,BN ns p name ino=r::rest∧r.ino=1∧r.kind=2∧r.parent=1:=by
 obtain⟨r,rest,rfl,h1,h2,h3⟩:=h;have:=OZ p name ino r;exact⟨_,_,rfl,this.ino.trans h1,this.kind.trans h2,this.parent.trans h3⟩
def b1(p:Prop)[Decidable p]:Nat:=if p then 1 else 0
theorem Ri{es:List B6}(hs:EU es){name:AB}{e:B6}(h:Cw es name=some e)(i:Int):CV i (CE es name 0)+b1 (e.2=i)=CV i es:=by
 rw[G9,MT (MS hs h),MU];rfl
theorem Oc{es:List B6}{name:AB}(h:Cw es name=none){ino:Int}(h0:ino≠0)(i:Int):CV i (CE es name ino)=CV i es+b1 (ino=i):=by
 rw[MT (Gi es name h0),MU,MR h];rfl
theorem Wt{es:List B6}(hs:EU es){name:AB}{e:B6}(h:Cw es name=some e){ino:Int}(h0:ino≠0)(i:Int):CV i (CE es name ino)+b1 (e.2=i)=CV i es+b1 (ino=i):=by
 rw[MT (Gi es name h0),MT (MS hs h),MU,MU];show CV i _+b1 (ino=i)+b1 (e.2=i)=CV i _+b1 (e.2=i)+b1 (ino=i);omega
theorem LC{es:List B6}{name:AB}{ino:Int}{e:B6}(h:e∈CE es name ino):e∈es∨(e=(name,ino)∧ino≠0):=by
 by_cases h0:ino=0
 ·subst h0;rw[G9]at h;exact .inl (List.mem_filter.1 h).1
 rcases List.mem_cons.1 ((Gi es name h0).mem_iff.1 h)with h|h
 ·exact .inr ⟨h,h0⟩
 exact .inl (List.mem_filter.1 h).1
theorem LD{es:List B6}{name:AB}{ino:Int}{e:B6}(h:e∈es)(hn:e.1≠name):e∈CE es name ino:=by
 have hw:e∈Ds name es:=List.mem_filter.2 ⟨h,by simpa using hn⟩;by_cases h0:ino=0
 ·subst h0;rw[G9];exact hw
 exact(Gi es name h0).mem_iff.2 (List.mem_cons_of_mem _ hw)
theorem Rj{es:List B6}{name:AB}{ino:Int}(h0:ino≠0):(name,ino)∈CE es name ino:=(Gi es name h0).mem_iff.2 (by simp)
theorem LE{p:Prop}[Decidable p](h:p):b1 p=1:=if_pos h
theorem J8{p:Prop}[Decidable p](h:¬p):b1 p=0:=if_neg h
theorem VD.cnt_next{d:Dvc}(h:VD d){i:Int}(hi:d.next≤i):Bc i d.nodes=0:=by
 apply Classical.byContradiction;intro hc;obtain⟨n,hn,e,he,rfl⟩:=L8.1 (Nat.pos_of_ne_zero hc);obtain⟨m,hm,e2⟩:=(h.ent n hn e he).2.2;have:=h.lt m hm;omega
theorem VD.make{d:Dvc}(h:VD d){n0:Nod}(hn0:n0∈d.nodes)(hk:n0.kind=2){name:AB}(hname:Da name=true)(hnew:Cw n0.entries name=none){n:Nod}(hp:ES n=true)(hlen:d.nodes.length<16)(hnx:d.next<1073741824)(hfull:n0.entries.length<12):
    VD ⟨d.next+1,BN d.nodes n0.ino name d.next++[E0 n d.next n0.ino]⟩:=by
 have hnext0:d.next≠0:=by have:=h.next2;omega
 have hcnt:∀i,Bc i (BN d.nodes n0.ino name d.next++[E0 n d.next n0.ino])=Bc i d.nodes+b1 (d.next=i):=by
  intro i;have h1:=LA h.asc hn0 name d.next i;rw[Oc hnew hnext0]at h1;rw[OX,Jk];have h2:CV i (E0 n d.next n0.ino).entries=0:=rfl;have h3:Bc i []=0:=rfl;omega
 have hmem:∀m,m∈BN d.nodes n0.ino name d.next++[E0 n d.next n0.ino]→(∃n'∈d.nodes,AsWas n0.ino name d.next n' m)∨m=E0 n d.next n0.ino:=by
  intro m hm;rcases List.mem_append.1 hm with hm|hm
  ·exact .inl (E9 hm)
  exact .inr (by simpa using hm)
 have hto:∀n'∈d.nodes,∃m∈BN d.nodes n0.ino name d.next++[E0 n d.next n0.ino],AsWas n0.ino name d.next n' m:=fun n' hn'=>by
  obtain⟨m,hm,hw⟩:=Hb n0.ino name d.next hn';exact⟨m,List.mem_append_left _ hm,hw⟩
 have hold:∀{n' m:Nod} {e:B6},AsWas n0.ino name d.next n' m→n'∈d.nodes→e∈n'.entries→e∈m.entries:=by
  intro n' m e hw hn' he;rw[hw.ents];split
  ·rename_i heq;obtain rfl:=D2 h.asc hn' hn0 heq;exact LD he (MQ hnew e he)
  exact he
 refine⟨?_,?_,?_,?_,?_,?_,?_,?_,?_,?_,?_,?_,?_,?_,?_⟩
 ·show(BN d.nodes n0.ino name d.next++[E0 n d.next n0.ino]).length≤16;rw[List.length_append,Oa];simp;omega
 ·show 2≤d.next+1;have:=h.next2;omega
 ·show d.next+1≤1073741824;omega
 ·obtain⟨r,rest,hr,h1⟩:=Ob n0.ino name d.next h.root;exact⟨r,rest++[E0 n d.next n0.ino],by show _++_=_;rw[hr];rfl,h1⟩
 ·refine List.pairwise_append.2 ⟨Jl h.asc _ _ _,by simp,fun a ha b hb=>?_⟩;obtain⟨n',hn',hw⟩:=E9 ha;simp at hb;subst hb;have:=h.lt n' hn';rw[hw.ino];exact this
 ·intro m hm;show m.ino<d.next+1;rcases hmem m hm with⟨n',hn',hw⟩|rfl
  ·have:=h.lt n' hn';rw[hw.ino];omega
  show d.next<d.next+1;omega
 ·intro m hm;rcases hmem m hm with⟨n',hn',hw⟩|rfl
  ·rw[hw.plain];exact h.plain n' hn'
  exact hp
 ·intro m hm hk';rcases hmem m hm with⟨n',hn',hw⟩|rfl
  ·rw[hw.kind]at hk';obtain⟨h1,h2⟩:=h.leaf n' hn' hk';refine⟨hw.parent.trans h1,?_⟩;rw[hw.ents,if_neg,h2];intro e;obtain rfl:=D2 h.asc hn' hn0 e;exact hk' hk
  exact⟨if_neg hk',rfl⟩
 ·intro m hm;rcases hmem m hm with⟨n',hn',hw⟩|rfl
  ·rw[hw.ents];split
   ·rename_i heq;obtain rfl:=D2 h.asc hn' hn0 heq;rw[(Gi _ name hnext0).length_eq,List.length_cons,MR hnew];omega
   exact h.many n' hn'
  exact BC _
 ·intro m hm;rcases hmem m hm with⟨n',hn',hw⟩|rfl
  ·rw[hw.ents];split
   ·exact Jj (h.sorted n' hn') _ _
   exact h.sorted n' hn'
  exact List.Pairwise.nil
 ·intro m hm e he;rcases hmem m hm with⟨n',hn',hw⟩|rfl
  ·have key:(e∈n'.entries)∨e=(name,d.next):=by
      rw[hw.ents]at he;split at he
      ·rcases LC he with h1|h1
       ·exact .inl h1
       exact .inr h1.1
      exact .inl he
   rcases key with h1|rfl
   ·obtain⟨k1,k2,q,hq,k3⟩:=h.ent n' hn' e h1;obtain⟨m',hm',hw'⟩:=hto q hq;exact⟨k1,k2,m',hm',hw'.ino.trans k3⟩
   exact⟨hname,by show d.next≠1;have:=h.next2;omega,E0 n d.next n0.ino,by simp,rfl⟩
  cases he
 ·intro m hm h1;rw[hcnt];rcases hmem m hm with⟨n',hn',hw⟩|rfl
  ·have:=h.link n' hn' (by rw[←hw.ino];exact h1);rw[hw.ino];omega
  have:b1 (d.next=(E0 n d.next n0.ino).ino)=1:=LE rfl;omega
 ·intro m hm h1 h2;rw[hcnt];rcases hmem m hm with⟨n',hn',hw⟩|rfl
  ·have:=h.one n' hn' (by rw[←hw.ino];exact h1) (by rw[←hw.kind];exact h2);rw[hw.ino,this,J8 (by have:=h.lt n' hn';omega)]
  have e1:b1 (d.next=(E0 n d.next n0.ino).ino)=1:=LE rfl;have e2:Bc (E0 n d.next n0.ino).ino d.nodes=0:=h.cnt_next (Int.le_refl _);omega
 ·intro m hm h1 h2;rcases hmem m hm with⟨n',hn',hw⟩|rfl
  ·obtain⟨p,hp',k1,e,he,k2⟩:=h.par n' hn' (by rw[←hw.ino];exact h1) (by rw[←hw.kind];exact h2);obtain⟨q,hq,hwq⟩:=hto p hp';exact⟨q,hq,by rw[hwq.ino,hw.parent];exact k1,e,hold hwq hp' he,by rw[hw.ino];exact k2⟩
  obtain⟨q,hq,hwq⟩:=hto n0 hn0;refine⟨q,hq,?_,(name,d.next),?_,rfl⟩
  ·rw[hwq.ino];exact(if_pos h2).symm
  rw[hwq.ents,if_pos rfl];exact Rj hnext0
 obtain⟨rk,hrk⟩:=h.rank;refine⟨fun i=>if i=d.next then rk n0.ino+1 else rk i,?_⟩;intro m hm h1 h2;rcases hmem m hm with⟨n',hn',hw⟩|rfl
 ·have hlt:=h.lt n' hn';have h1':n'.ino≠1:=by rw[←hw.ino];exact h1
  have h2':n'.kind=2:=by rw[←hw.kind];exact h2
  obtain⟨p,hp',k1,_⟩:=h.par n' hn' h1' h2';have hlp:=h.lt p hp';simp only;rw[hw.ino,hw.parent,if_neg (by omega),if_neg (by omega)];exact hrk n' hn' h1' h2'
 have e1:(E0 n d.next n0.ino).parent=n0.ino:=if_pos h2;have e2:(E0 n d.next n0.ino).ino=d.next:=rfl;have hl:=h.lt n0 hn0;simp only;rw[e1,e2,if_pos rfl,if_neg (by omega)];omega
theorem VD.linked{d:Dvc}(h:VD d){n0 a:Nod}(hn0:n0∈d.nodes)(hk:n0.kind=2)(ha:a∈d.nodes)(hka:a.kind≠2){name:AB}(hname:Da name=true)(hnew:Cw n0.entries name=none)(hfull:n0.entries.length<12):
    VD ⟨d.next,BN d.nodes n0.ino name a.ino⟩:=by
 have ha0:a.ino≠0:=by have:=h.pos ha;omega
 have ha1:a.ino≠1:=fun e=>hka (h.isRoot ha e).1
 have hcnt:∀i,Bc i (BN d.nodes n0.ino name a.ino)=Bc i d.nodes+b1 (a.ino=i):=by
  intro i;have h1:=LA h.asc hn0 name a.ino i;rw[Oc hnew ha0]at h1;omega
 have hto:=fun n' (hn':n'∈d.nodes)=>Hb n0.ino name a.ino hn'
 have hold:∀{n' m:Nod} {e:B6},AsWas n0.ino name a.ino n' m→n'∈d.nodes→e∈n'.entries→e∈m.entries:=by
  intro n' m e hw hn' he;rw[hw.ents];split
  ·rename_i heq;obtain rfl:=D2 h.asc hn' hn0 heq;exact LD he (MQ hnew e he)
  exact he
 refine⟨by rw[Oa];exact h.len,h.next2,h.nextM,Ob _ _ _ h.root,Jl h.asc _ _ _,?_,?_,?_,?_,?_,?_,?_,?_,?_,?_⟩
 ·intro m hm;obtain⟨n',hn',hw⟩:=E9 hm;rw[hw.ino];exact h.lt n' hn'
 ·intro m hm;obtain⟨n',hn',hw⟩:=E9 hm;rw[hw.plain];exact h.plain n' hn'
 ·intro m hm hk';obtain⟨n',hn',hw⟩:=E9 hm;rw[hw.kind]at hk';obtain⟨h1,h2⟩:=h.leaf n' hn' hk';refine⟨hw.parent.trans h1,?_⟩;rw[hw.ents,if_neg,h2];intro e;obtain rfl:=D2 h.asc hn' hn0 e;exact hk' hk
 ·intro m hm;obtain⟨n',hn',hw⟩:=E9 hm;rw[hw.ents];split
  ·rename_i heq;obtain rfl:=D2 h.asc hn' hn0 heq;rw[(Gi _ name ha0).length_eq,List.length_cons,MR hnew];omega
  exact h.many n' hn'
 ·intro m hm;obtain⟨n',hn',hw⟩:=E9 hm;rw[hw.ents];split
  ·exact Jj (h.sorted n' hn') _ _
  exact h.sorted n' hn'
 ·intro m hm e he;obtain⟨n',hn',hw⟩:=E9 hm
  have key:(e∈n'.entries)∨e=(name,a.ino):=by
   rw[hw.ents]at he;split at he
   ·rcases LC he with h1|h1
    ·exact .inl h1
    exact .inr h1.1
   exact .inl he
  rcases key with h1|rfl
  ·obtain⟨k1,k2,q,hq,k3⟩:=h.ent n' hn' e h1;obtain⟨m',hm',hw'⟩:=hto q hq;exact⟨k1,k2,m',hm',hw'.ino.trans k3⟩
  obtain⟨m',hm',hw'⟩:=hto a ha;exact⟨hname,ha1,m',hm',hw'.ino⟩
 ·intro m hm h1;obtain⟨n',hn',hw⟩:=E9 hm;rw[hcnt,hw.ino];have:=h.link n' hn' (by rw[←hw.ino];exact h1);omega
 ·intro m hm h1 h2;obtain⟨n',hn',hw⟩:=E9 hm;rw[hcnt,hw.ino,h.one n' hn' (by rw[←hw.ino];exact h1) (by rw[←hw.kind];exact h2),J8];intro e;obtain rfl:=D2 h.asc hn' ha e.symm;exact hka (by rw[←hw.kind];exact h2)
 ·intro m hm h1 h2;obtain⟨n',hn',hw⟩:=E9 hm;obtain⟨p,hp',k1,e,he,k2⟩:=h.par n' hn' (by rw[←hw.ino];exact h1) (by rw[←hw.kind];exact h2);obtain⟨q,hq,hwq⟩:=hto p hp';exact⟨q,hq,by rw[hwq.ino,hw.parent];exact k1,e,hold hwq hp' he,by rw[hw.ino];exact k2⟩
 obtain⟨rk,hrk⟩:=h.rank;refine⟨rk,fun m hm h1 h2=>?_⟩;obtain⟨n',hn',hw⟩:=E9 hm;rw[hw.ino,hw.parent];exact hrk n' hn' (by rw[←hw.ino];exact h1) (by rw[←hw.kind];exact h2)
def Rk(mode uid gid:Int)(n:Nod):Nod:={n with mode:=mode,uid:=uid,gid:=gid}
end Go.Proofs.YtobclmbkdhbnpaaGreatDoor
namespace Go.Proofs.YtobclmbkdhbnpaaGreatDoor
def C1(ns:List Nod)(i:Int):List Nod:=ns.filter fun m=>decide (m.ino≠i∨0<Bc i ns)
theorem LF{ns:List Nod}{i:Int}{m:Nod}:m∈C1 ns i↔m∈ns∧(m.ino≠i∨0<Bc i ns):=by
 unfold C1;rw[List.mem_filter,decide_eq_true_iff]
theorem Rl{ns:List Nod}{p:Nod→Bool}(h:∀m∈ns,p m=false→m.entries=[])(i:Int):Bc i (ns.filter p)=Bc i ns:=by
 induction ns with
 |nil=>rfl
 |cons x r ih=>
   rw[List.filter_cons];have ih':=ih fun m hm=>h m (by simp[hm])
   cases hp:p x with
   |true=>simp only[if_true];rw[Jk,Jk,ih']
   |false=>
     simp only[Bool.false_eq_true,if_false];rw[Jk,h x (by simp) hp,ih'];simp[CV]
theorem Od{es:List B6}(hs:EU es){a b:B6}(ha:a∈es)(hb:b∈es)(e:a.1=b.1):a=b:=by
 induction es with
 |nil=>cases ha
 |cons x r ih=>
   obtain⟨h1,h2⟩:=List.pairwise_cons.1 hs;rcases List.mem_cons.1 ha with rfl|ha
   ·rcases List.mem_cons.1 hb with rfl|hb
    ·rfl
    exact absurd e (L6 (h1 b hb))
   rcases List.mem_cons.1 hb with hb|hb
   ·subst hb;exact absurd e.symm (L6 (h1 a (by assumption)))
   exact ih h2 (by assumption) hb
theorem VD.removed{d:Dvc}(h:VD d){n0 a:Nod}(hn0:n0∈d.nodes)(ha:a∈d.nodes)(hae:a.entries=[]){name:AB}{e0:B6}(he0:Cw n0.entries name=some e0)(hea:e0.2=a.ino):
    VD ⟨d.next,C1 (BN d.nodes n0.ino name 0) a.ino⟩:=by
 obtain⟨hem,hen⟩:=GA he0;have ha1:a.ino≠1:=by rw[←hea];exact(h.ent n0 hn0 e0 hem).2.1
 have hk:n0.kind=2:=h.dirOf hn0 hem
 have hna:n0.ino≠a.ino:=fun e=>by
  obtain rfl:=D2 h.asc hn0 ha e;rw[hae]at hem;cases hem
 have hcnt1:∀i,Bc i (BN d.nodes n0.ino name 0)+b1 (a.ino=i)=Bc i d.nodes:=by
  intro i;have h1:=LA h.asc hn0 name 0 i;have h2:=Ri (h.sorted n0 hn0) he0 i;rw[hea]at h2;omega
 have hcnt:∀i,Bc i (C1 (BN d.nodes n0.ino name 0) a.ino)=Bc i (BN d.nodes n0.ino name 0):=by
  refine fun i=>Rl (fun m hm hp=>?_) i;have hp':=of_decide_eq_false hp;obtain⟨n',hn',hw⟩:=E9 hm;have hmi:m.ino=a.ino:=Classical.byContradiction fun h=>hp' (.inl h);obtain rfl:=D2 h.asc hn' ha (hw.ino.symm.trans hmi);rw[hw.ents,if_neg (fun e=>hna e.symm),hae]
 have hkeep:∀{m:Nod},m∈BN d.nodes n0.ino name 0→(m.ino=a.ino→0<Bc a.ino (BN d.nodes n0.ino name 0))→m∈C1 (BN d.nodes n0.ino name 0) a.ino:=by
  intro m hm hc;refine LF.2 ⟨hm,?_⟩;by_cases e:m.ino=a.ino
  ·exact .inr (hc e)
  exact .inl e
 have hfrom:∀{m:Nod},m∈C1 (BN d.nodes n0.ino name 0) a.ino→(∃n'∈d.nodes,AsWas n0.ino name 0 n' m)∧m∈BN d.nodes n0.ino name 0∧(m.ino≠a.ino∨0<Bc a.ino (BN d.nodes n0.ino name 0)):=by
  intro m hm;obtain⟨h1,h2⟩:=LF.1 hm;exact⟨E9 h1,h1,h2⟩
 have hsub:∀{n' m:Nod} {e:B6},AsWas n0.ino name 0 n' m→e∈m.entries→e∈n'.entries:=by
  intro n' m e hw he;rw[hw.ents]at he;split at he
  ·rcases LC he with h1|h1
   ·exact h1
   exact absurd rfl h1.2
  exact he
 refine⟨?_,h.next2,h.nextM,?_,?_,?_,?_,?_,?_,?_,?_,?_,?_,?_,?_⟩
 ·have h1:(C1 (BN d.nodes n0.ino name 0) a.ino).length≤(BN d.nodes n0.ino name 0).length:=List.length_filter_le _ _;rw[Oa]at h1;exact Nat.le_trans h1 h.len
 ·obtain⟨r,rest,hr,h1,h2,h3⟩:=Ob n0.ino name 0 h.root;refine⟨r,rest.filter fun m=>decide (m.ino≠a.ino∨0<Bc a.ino (BN d.nodes n0.ino name 0)),?_,h1,h2,h3⟩;show C1 (BN d.nodes n0.ino name 0) a.ino=_;unfold C1
  conv=>lhs;rw[hr]
  rw[List.filter_cons,if_pos (decide_eq_true (.inl (by rw[h1];exact fun e=>ha1 e.symm))),hr]
 ·exact List.Pairwise.filter _ (Jl h.asc _ _ _)
 ·intro m hm;obtain⟨⟨n',hn',hw⟩,_⟩:=hfrom hm;rw[hw.ino];exact h.lt n' hn'
 ·intro m hm;obtain⟨⟨n',hn',hw⟩,_⟩:=hfrom hm;rw[hw.plain];exact h.plain n' hn'
 ·intro m hm hk';obtain⟨⟨n',hn',hw⟩,_⟩:=hfrom hm;rw[hw.kind]at hk';obtain⟨h1,h2⟩:=h.leaf n' hn' hk';refine⟨hw.parent.trans h1,?_⟩;rw[hw.ents,if_neg,h2];intro e;obtain rfl:=D2 h.asc hn' hn0 e;exact hk' hk
 ·intro m hm;obtain⟨⟨n',hn',hw⟩,_⟩:=hfrom hm;rw[hw.ents];split
  ·rw[G9];exact Nat.le_trans (List.length_filter_le _ _) (h.many n' hn')
  exact h.many n' hn'
 ·intro m hm;obtain⟨⟨n',hn',hw⟩,_⟩:=hfrom hm;rw[hw.ents];split
  ·exact Jj (h.sorted n' hn') _ _
  exact h.sorted n' hn'
 ·intro m hm e he;obtain⟨⟨n',hn',hw⟩,hm1,_⟩:=hfrom hm;obtain⟨k1,k2,q,hq,k3⟩:=h.ent n' hn' e (hsub hw he);obtain⟨m',hm',hw'⟩:=Hb n0.ino name 0 hq;refine⟨k1,k2,m',hkeep hm' (fun e1=>L8.2 ⟨m,hm1,e,he,?_⟩),hw'.ino.trans k3⟩;rw[←k3,←hw'.ino,e1]
 ·intro m hm h1;rw[hcnt];obtain⟨⟨n',hn',hw⟩,_,h2⟩:=hfrom hm;have h3:=hcnt1 m.ino;by_cases e:m.ino=a.ino
  ·rw[e]at h2 ⊢;rcases h2 with h2|h2
   ·exact absurd rfl h2
   exact h2
  rw[J8 (fun h=>e h.symm)]at h3;have:=h.link n' hn' (by rw[←hw.ino];exact h1);rw[←hw.ino]at this;omega
 ·intro m hm h1 h4;rw[hcnt];obtain⟨⟨n',hn',hw⟩,_,h2⟩:=hfrom hm;have h3:=hcnt1 m.ino;have h5:=h.one n' hn' (by rw[←hw.ino];exact h1) (by rw[←hw.kind];exact h4);rw[←hw.ino]at h5;by_cases e:m.ino=a.ino
  ·exfalso;rw[LE e.symm]at h3;rcases h2 with h2|h2
   ·exact h2 e
   rw[←e]at h2;omega
  rw[J8 (fun h=>e h.symm)]at h3;omega
 ·intro m hm h1 h4;obtain⟨⟨n',hn',hw⟩,_,h2⟩:=hfrom hm;obtain⟨p,hp',k1,e,he,k2⟩:=h.par n' hn' (by rw[←hw.ino];exact h1) (by rw[←hw.kind];exact h4);obtain⟨q,hq,hwq⟩:=Hb n0.ino name 0 hp'
  have hpa:p.ino≠a.ino:=fun e'=>by
   obtain rfl:=D2 h.asc hp' ha e';rw[hae]at he;cases he
  have hna':n'.ino≠a.ino:=fun e'=>by
   have h3:=hcnt1 m.ino;have h5:=h.one n' hn' (by rw[←hw.ino];exact h1) (by rw[←hw.kind];exact h4);rw[←hw.ino]at h5 e';rw[LE e'.symm]at h3;rcases h2 with h2|h2
   ·exact h2 e'
   rw[←e']at h2;omega
  refine⟨q,hkeep hq (fun e'=>absurd (hwq.ino.symm.trans e') hpa),by rw[hwq.ino,hw.parent];exact k1,e,?_,by rw[hw.ino];exact k2⟩;rw[hwq.ents];split
  ·rename_i heq;obtain rfl:=D2 h.asc hp' hn0 heq;refine LD he fun hnm=>?_;have:=Od (h.sorted p hp') he hem (hnm.trans hen.symm);rw[this,hea]at k2;exact hna' k2.symm
  exact he
 obtain⟨rk,hrk⟩:=h.rank;refine⟨rk,fun m hm h1 h2=>?_⟩;obtain⟨⟨n',hn',hw⟩,_⟩:=hfrom hm;rw[hw.ino,hw.parent];exact hrk n' hn' (by rw[←hw.ino];exact h1) (by rw[←hw.kind];exact h2)
end Go.Proofs.YtobclmbkdhbnpaaGreatDoor
namespace Go.Proofs.YtobclmbkdhbnpaaGreatDoor
theorem Rm:∀(xs l:List Int),xs.Nodup→(∀x∈xs,x∈l)→xs.length≤l.length
 |[],_,_,_=>BC _
 |x::xs,l,hd,hs=>by
   obtain⟨h1,h2⟩:=List.nodup_cons.1 hd;have hx:x∈l:=hs x (by simp);have ih:=Rm xs (l.erase x) h2 fun y hy=>(List.mem_erase_of_ne (fun e:y=x=>h1 (e ▸ hy))).2 (hs y (by simp[hy]));have hl:=List.length_erase_of_mem hx;have hp:0<l.length:=List.length_pos_of_mem hx;simp only[List.length_cons];omega
def LG(ns:List Nod):Nat→Int→Int→Prop
 |0,x,y=>x=y
 |k+1,x,y=>∃n∈ns,n.ino=x∧n.ino≠1∧n.kind=2∧LG ns k n.parent y
def F9(ns:List Nod)(x y:Int):Prop:=∃k,LG ns k x y
theorem Rn{ns:List Nod}{rk:Int→Nat}(hrk:∀n∈ns,n.ino≠1→n.kind=2→rk n.parent<rk n.ino):∀(k:Nat) (x y:Int),LG ns k x y→∃l:List Int,l.length=k∧l.Nodup∧∀z∈l,(∃n∈ns,n.ino=z)∧rk y<rk z∧rk z≤rk x
 |0,_,_,_=>⟨[],rfl,List.nodup_nil,by simp⟩
 |k+1,x,y,h=>by
   obtain⟨n,hn,rfl,h1,h2,h3⟩:=h;obtain⟨l,e,hd,hl⟩:=Rn hrk k _ _ h3;have hlt:=hrk n hn h1 h2
   have hy:rk y≤rk n.parent:=by
    cases l with
    |nil=>
      have hk:k=0:=by simpa using e.symm
      subst hk;have:n.parent=y:=h3;rw[this];exact Av _
    |cons z l=>
      have:=hl z (by simp);omega
   refine⟨n.ino::l,by simp[e],List.nodup_cons.2 ⟨fun hm=>?_,hd⟩,?_⟩
   ·have:=(hl _ hm).2.2;omega
   intro z hz;rcases List.mem_cons.1 hz with rfl|hz
   ·exact⟨⟨n,hn,rfl⟩,by omega,Av _⟩
   obtain⟨q1,q2,q3⟩:=hl z hz;exact⟨q1,q2,by omega⟩
theorem VD.anc_len{d:Dvc}(h:VD d){k:Nat}{x:Int}{a:Nod}(ha:a∈d.nodes)(hk:LG d.nodes k x a.ino):k+1≤d.nodes.length:=by
 obtain⟨rk,hrk⟩:=h.rank;obtain⟨l,e,hd,hl⟩:=Rn hrk k x a.ino hk
 have:=Rm (a.ino::l) (d.nodes.map (·.ino)) (List.nodup_cons.2 ⟨fun hm=>by have:=(hl _ hm).2.1;omega,hd⟩) (fun z hz=>by
  rcases List.mem_cons.1 hz with rfl|hz
  ·exact List.mem_map.2 ⟨a,ha,rfl⟩
  obtain⟨n,hn,e⟩:=(hl z hz).1
  exact List.mem_map.2 ⟨n,hn,e⟩)
 simp only[List.length_cons,List.length_map]at this;omega
def E3(p1 p2:Int)(name name2:AB)(a:Int)(n:Nod):List B6:=
 let es:=if n.ino=p1 then CE n.entries name 0 else n.entries
 if n.ino=p2 then CE es name2 a else es
def GB(p1 p2:Int)(name name2:AB)(a:Int)(n:Nod):Nod:=
 {n with entries:=E3 p1 p2 name name2 a n,parent:=if n.ino=a∧n.kind=2 then p2 else n.parent}
def DG(ns:List Nod)(p1 p2:Int)(name name2:AB)(a:Int):List Nod:=ns.map (GB p1 p2 name name2 a)
def Ff(p:Int)(n:Nod):Nod:=if n.kind=2 then{n with parent:=p}else n
theorem Ro(ns:List Nod)(p1 p2:Int)(name name2:AB)(a:Int):Ck (BN (BN ns p1 name 0) p2 name2 a) a (Ff p2)=DG ns p1 p2 name name2 a:=by
 unfold BN Ck DG;rw[List.map_map,List.map_map];apply List.map_congr_left;intro n _;obtain⟨ino,kind,mode,uid,gid,parent,target,entries⟩:=n;simp only[Function.comp];unfold GB E3 L9 Ff;by_cases h1:ino=p1<;>by_cases h2:ino=p2<;>by_cases h3:ino=a<;>by_cases h4:kind=2<;>simp[h1,h2,h3,h4]<;>(try simp_all)
theorem Wu{es:List B6}{name name2:AB}(h:name≠name2):Cw (Ds name es) name2=Cw es name2:=by
 unfold Cw Ds;rw[List.find?_filter]
 congr 1
 funext e
 by_cases h2:e.1=name2
 ·have:e.1≠name:=fun e'=>h (e'.symm.trans h2);simp[h2];intro e';exact h e'.symm
 simp[h2]
end Go.Proofs.YtobclmbkdhbnpaaGreatDoor
namespace Go.Proofs.YtobclmbkdhbnpaaGreatDoor
section
variable {p1 p2:Int}{name name2:AB}{a:Int}{n:Nod}
theorem Wv{e:B6}(h:e∈E3 p1 p2 name name2 a n):e∈n.entries∨(n.ino=p2∧e=(name2,a)):=by
 unfold E3 at h
 have base:∀{x:B6},x∈(if n.ino=p1 then CE n.entries name 0 else n.entries)→x∈n.entries:=by
  intro x hx;split at hx
  ·rcases LC hx with h1|h1
   ·exact h1
   exact absurd rfl h1.2
  exact hx
 simp only at h;split at h
 ·rename_i h2;rcases LC h with h1|h1
  ·exact .inl (base h1)
  exact .inr ⟨h2,h1.1⟩
 exact .inl (base h)
theorem Ww{e:B6}(h:e∈n.entries)(h1:n.ino=p1→e.1≠name)(h2:n.ino=p2→e.1≠name2):e∈E3 p1 p2 name name2 a n:=by
 unfold E3
 have base:e∈(if n.ino=p1 then CE n.entries name 0 else n.entries):=by
  split
  ·rename_i e1;exact LD h (h1 e1)
  exact h
 simp only;split
 ·rename_i e2;exact LD base (h2 e2)
 exact base
theorem Wx(h:n.ino=p2)(ha:a≠0):(name2,a)∈E3 p1 p2 name name2 a n:=by
 unfold E3;simp only[h,if_true];exact Rj ha
theorem Wy(h:EU n.entries):EU (E3 p1 p2 name name2 a n):=by
 unfold E3
 have base:EU (if n.ino=p1 then CE n.entries name 0 else n.entries):=by
  split
  ·exact Jj h _ _
  exact h
 simp only;split
 ·exact Jj base _ _
 exact base
end
open Classical in
noncomputable def LH (S:Int→Prop) (rk:Int→Nat) (c:Nat) (x:Int):Nat:=if S x then rk x+c else rk x
theorem Oe{S:Int→Prop}{rk:Int→Nat}{c:Nat}{x:Int}(h:S x):LH S rk c x=rk x+c:=by unfold LH;rw[if_pos h]
theorem Of{S:Int→Prop}{rk:Int→Nat}{c:Nat}{x:Int}(h:¬S x):LH S rk c x=rk x:=by unfold LH;rw[if_neg h]
theorem VD.renamed{d:Dvc}(h:VD d){n1 n2 a:Nod}(hn1:n1∈d.nodes)(hn2:n2∈d.nodes)(ha:a∈d.nodes)(hk2:n2.kind=2){name name2:AB}{e1:B6}(he1:Cw n1.entries name=some e1)(hea:e1.2=a.ino)
    (hname2:Da name2=true) (hdiff:n1.ino=n2.ino→name≠name2) (hanc:a.kind=2→¬F9 d.nodes n2.ino a.ino) {oi:Int}
    (ho:(Cw n2.entries name2=none∧(n2.entries.length<12∨n1.ino=n2.ino)∧oi=0)∨(∃eo o,Cw n2.entries name2=some eo∧o∈d.nodes∧eo.2=oi∧o.ino=oi∧oi≠a.ino∧o.entries=[])):
    VD ⟨d.next,C1 (DG d.nodes n1.ino n2.ino name name2 a.ino) oi⟩:=by
 obtain⟨hem,hen⟩:=GA he1;have ha1:a.ino≠1:=by rw[←hea];exact(h.ent n1 hn1 e1 hem).2.1
 have ha0:a.ino≠0:=by have:=h.pos ha;omega
 have hoa:oi≠a.ino:=by
  rcases ho with⟨_,_,h1⟩|⟨_,_,_,_,_,_,h1,_⟩
  ·omega
  exact h1
 have ho1:oi≠1:=by
  rcases ho with⟨_,_,h1⟩|⟨eo,o,h1,_,h2,_⟩
  ·omega
  obtain⟨q1,_⟩:=GA h1;rw[←h2];exact(h.ent n2 hn2 eo q1).2.1
 have hoe:∀m∈d.nodes,m.ino=oi→m.entries=[]:=by
  intro m hm e;rcases ho with⟨_,_,h1⟩|⟨eo,o,_,h1,_,h2,_,h3⟩
  ·have:=h.pos hm;omega
  obtain rfl:=D2 h.asc hm h1 (by omega);exact h3
 have hm2:=Hb n1.ino name 0 hn2;obtain⟨m2,hm2,hw2⟩:=hm2
 have hf2:Cw m2.entries name2=Cw n2.entries name2:=by
  rw[hw2.ents];split
  ·rename_i e;rw[G9,Wu (hdiff e.symm)]
  rfl
 have hasc1:=Jl h.asc n1.ino name 0;have hasc2:=Jl hasc1 n2.ino name2 a.ino
 have hsort2:EU m2.entries:=by
  rw[hw2.ents];split
  ·exact Jj (h.sorted n2 hn2) _ _
  exact h.sorted n2 hn2
 have hcntR:∀i,1≤i→Bc i (DG d.nodes n1.ino n2.ino name name2 a.ino)+b1 (oi=i)=Bc i d.nodes:=by
  intro i hi;have c1:=LA h.asc hn1 name 0 i;have c2:=Ri (h.sorted n1 hn1) he1 i;rw[hea]at c2;have c3:=LA hasc1 hm2 name2 a.ino i;rw[hw2.ino]at c3;obtain⟨m',hm',hw'⟩:=Hb n1.ino name 0 ha;obtain⟨m'',hm'',hw''⟩:=Hb (ns:=BN d.nodes n1.ino name 0) n2.ino name2 a.ino hm';have c4:=Rh hasc2 hm'' (Ff n2.ino) i;have e4:(Ff n2.ino m'').entries=m''.entries:=by unfold Ff;split<;>rfl
  rw[e4,hw''.ino,hw'.ino,Ro]at c4;rcases ho with⟨h1,_,h2⟩|⟨eo,o,h1,_,h2,_⟩
  ·have c5:=Oc (hf2.trans h1) ha0 i;rw[J8 (show¬oi=i by omega)];omega
  have c5:=Wt hsort2 (hf2.trans h1) ha0 i;rw[h2]at c5;omega
 have hmem:∀{m:Nod},m∈C1 (DG d.nodes n1.ino n2.ino name name2 a.ino) oi→(∃n∈d.nodes,m=GB n1.ino n2.ino name name2 a.ino n)∧m∈DG d.nodes n1.ino n2.ino name name2 a.ino∧(m.ino≠oi∨0<Bc oi (DG d.nodes n1.ino n2.ino name name2 a.ino)):=by
  intro m hm;obtain⟨q1,q2⟩:=LF.1 hm;obtain⟨n,hn,e⟩:=List.mem_map.1 q1;exact⟨⟨n,hn,e.symm⟩,q1,q2⟩
 have hkeep:∀{n:Nod},n∈d.nodes→(n.ino=oi→0<Bc oi (DG d.nodes n1.ino n2.ino name name2 a.ino))→GB n1.ino n2.ino name name2 a.ino n∈C1 (DG d.nodes n1.ino n2.ino name name2 a.ino) oi:=by
  intro n hn hc;refine LF.2 ⟨List.mem_map.2 ⟨n,hn,rfl⟩,?_⟩;by_cases e:n.ino=oi
  ·exact .inr (hc e)
  exact .inl e
 have hcnt:∀i,Bc i (C1 (DG d.nodes n1.ino n2.ino name name2 a.ino) oi)=Bc i (DG d.nodes n1.ino n2.ino name name2 a.ino):=by
  refine fun i=>Rl (fun m hm hp=>?_) i;have hp':=of_decide_eq_false hp;obtain⟨n,hn,rfl⟩:=List.mem_map.1 hm;have hmi:n.ino=oi:=Classical.byContradiction fun h=>hp' (.inl h);have h0:=hoe n hn hmi
  have q1:n.ino≠n1.ino:=fun e=>by
   obtain rfl:=D2 h.asc hn hn1 e;rw[h0]at hem;cases hem
  have q2:n.ino≠n2.ino:=fun e=>by
   obtain rfl:=D2 h.asc hn hn2 e;rcases ho with⟨_,_,h1⟩|⟨eo,o,h1,_⟩
   ·have:=h.pos hn;omega
   obtain⟨q,_⟩:=GA h1;rw[h0]at q;cases q
  show E3 n1.ino n2.ino name name2 a.ino n=[];unfold E3;simp only[q1,q2,if_false];exact h0
 have hdo:∀{n:Nod},n∈d.nodes→n.ino≠1→n.kind=2→(n.ino≠oi∨0<Bc oi (DG d.nodes n1.ino n2.ino name name2 a.ino))→n.ino≠oi:=by
  intro n hn h1 h2 hc e;rcases hc with hc|hc
  ·exact hc e
  have c1:=h.one n hn h1 h2;have c2:=hcntR n.ino (h.pos hn);rw[LE e.symm]at c2;rw[←e]at hc;omega
 refine⟨?_,h.next2,h.nextM,?_,?_,?_,?_,?_,?_,?_,?_,?_,?_,?_,?_⟩
 ·have q1:(C1 (DG d.nodes n1.ino n2.ino name name2 a.ino) oi).length≤(DG d.nodes n1.ino n2.ino name name2 a.ino).length:=List.length_filter_le _ _;have q2:(DG d.nodes n1.ino n2.ino name name2 a.ino).length=d.nodes.length:=by simp[DG]
  have:=h.len;show(C1 _ _).length≤16;omega
 ·obtain⟨r,rest,hr,h1,h2,h3⟩:=h.root;refine⟨GB n1.ino n2.ino name name2 a.ino r,(rest.map (GB n1.ino n2.ino name name2 a.ino)).filter fun m=>decide (m.ino≠oi∨0<Bc oi (DG d.nodes n1.ino n2.ino name name2 a.ino)),?_,h1,h2,?_⟩
  ·show C1 (DG d.nodes n1.ino n2.ino name name2 a.ino) oi=_;have e:DG d.nodes n1.ino n2.ino name name2 a.ino=GB n1.ino n2.ino name name2 a.ino r::rest.map (GB n1.ino n2.ino name name2 a.ino):=by unfold DG;rw[hr];rfl
   unfold C1
   conv=>lhs;arg 2;rw[e]
   rw[List.filter_cons,if_pos (decide_eq_true (.inl (by show r.ino≠oi;rw[h1];exact fun e=>ho1 e.symm)))]
  show(if r.ino=a.ino∧r.kind=2 then n2.ino else r.parent)=1;rw[if_neg (fun e=>ha1 (by rw[←e.1];exact h1))];exact h3
 ·refine List.Pairwise.filter _ ?_;show DQ (DG d.nodes n1.ino n2.ino name name2 a.ino);rw[OY]
  have e:(DG d.nodes n1.ino n2.ino name name2 a.ino).map (·.ino)=d.nodes.map (·.ino):=by
   unfold DG;rw[List.map_map];rfl
  rw[e,←OY];exact h.asc
 ·intro m hm;obtain⟨⟨n,hn,rfl⟩,_⟩:=hmem hm;exact h.lt n hn
 ·intro m hm;obtain⟨⟨n,hn,rfl⟩,_⟩:=hmem hm;exact h.plain n hn
 ·intro m hm hk;obtain⟨⟨n,hn,rfl⟩,_⟩:=hmem hm;have hk':n.kind≠2:=hk;obtain⟨q1,q2⟩:=h.leaf n hn hk';refine⟨?_,?_⟩
  ·show(if n.ino=a.ino∧n.kind=2 then n2.ino else n.parent)=0;rw[if_neg (fun e=>hk' e.2)];exact q1
  show E3 n1.ino n2.ino name name2 a.ino n=[]
  have r1:n.ino≠n1.ino:=fun e=>by
   obtain rfl:=D2 h.asc hn hn1 e;rw[q2]at hem;cases hem
  have r2:n.ino≠n2.ino:=fun e=>by
   obtain rfl:=D2 h.asc hn hn2 e;exact hk' hk2
  unfold E3;simp only[r1,r2,if_false];exact q2
 ·intro m hm;obtain⟨⟨n,hn,rfl⟩,_⟩:=hmem hm;show(E3 n1.ino n2.ino name name2 a.ino n).length≤12;by_cases q2:n.ino=n2.ino
  ·obtain rfl:=D2 h.asc hn hn2 q2
   have e2:E3 n1.ino n.ino name name2 a.ino n=CE m2.entries name2 a.ino:=by
    unfold E3;simp only[if_true];rw[hw2.ents]
   rw[e2,(Gi _ name2 ha0).length_eq,List.length_cons];rcases ho with⟨h1,h2,_⟩|⟨eo,o,h1,_⟩
   ·rw[MR (hf2.trans h1),hw2.ents];rcases h2 with h2|h2
    ·split
     ·rw[G9];have:(Ds name n.entries).length≤n.entries.length:=List.length_filter_le _ _;omega
     omega
    rw[if_pos h2.symm,G9];obtain rfl:=D2 h.asc hn1 hn h2;have:=(MS (h.sorted n1 hn1) he1).length_eq;rw[List.length_cons]at this;have:=h.many n1 hn1;omega
   have c1:=(MS hsort2 (hf2.trans h1)).length_eq;rw[List.length_cons]at c1
   have c2:m2.entries.length≤n.entries.length:=by
    rw[hw2.ents];split
    ·rw[G9];exact List.length_filter_le _ _
    exact Av _
   have:=h.many n hn;omega
  unfold E3;simp only[q2,if_false];split
  ·rw[G9];exact Nat.le_trans (List.length_filter_le _ _) (h.many n hn)
  exact h.many n hn
 ·intro m hm;obtain⟨⟨n,hn,rfl⟩,_⟩:=hmem hm;exact Wy (h.sorted n hn)
 ·intro m hm e he;obtain⟨⟨n,hn,rfl⟩,hmR,_⟩:=hmem hm;have he':e∈E3 n1.ino n2.ino name name2 a.ino n:=he;rcases Wv he' with q|⟨_,rfl⟩
  ·obtain⟨k1,k2,x,hx,k3⟩:=h.ent n hn e q;refine⟨k1,k2,_,hkeep hx (fun e1=>L8.2 ⟨_,hmR,e,he,?_⟩),k3⟩;rw[←k3,e1]
  exact⟨hname2,ha1,_,hkeep ha (fun e1=>absurd e1.symm hoa),rfl⟩
 ·intro m hm h1;rw[hcnt];obtain⟨⟨n,hn,rfl⟩,_,hc⟩:=hmem hm;have h1':n.ino≠1:=h1;show 0<Bc n.ino _;have c1:=hcntR n.ino (h.pos hn);by_cases e:n.ino=oi
  ·rcases hc with hc|hc
   ·exact absurd e hc
   rw[e];exact hc
  rw[J8 (fun h=>e h.symm)]at c1;have:=h.link n hn h1';omega
 ·intro m hm h1 h2;rw[hcnt];obtain⟨⟨n,hn,rfl⟩,_,hc⟩:=hmem hm;have h1':n.ino≠1:=h1;have h2':n.kind=2:=h2;show Bc n.ino _=1;have c1:=hcntR n.ino (h.pos hn);rw[J8 (fun e=>hdo hn h1' h2' hc e.symm)]at c1;have:=h.one n hn h1' h2';omega
 ·intro m hm h1 h2;obtain⟨⟨n,hn,rfl⟩,_,hc⟩:=hmem hm;have h1':n.ino≠1:=h1;have h2':n.kind=2:=h2;have hno:=hdo hn h1' h2' hc;by_cases hna:n.ino=a.ino
  ·refine⟨_,hkeep hn2 (fun e=>?_),?_,(name2,a.ino),Wx rfl ha0,hna.symm⟩
   ·exfalso;rcases ho with⟨_,_,q⟩|⟨eo,o,q,_⟩
    ·have:=h.pos hn2;omega
    obtain⟨q1,_⟩:=GA q;rw[hoe n2 hn2 e]at q1;cases q1
   show n2.ino=if n.ino=a.ino∧n.kind=2 then n2.ino else n.parent
   rw[if_pos ⟨hna,h2'⟩]
  obtain⟨p,hp,k1,e,he,k2⟩:=h.par n hn h1' h2';refine⟨_,hkeep hp (fun e'=>?_),?_,e,Ww he (fun e' hnm=>?_) (fun e' hnm=>?_),k2⟩
  ·exfalso;rw[hoe p hp e']at he;cases he
  ·show p.ino=if n.ino=a.ino∧n.kind=2 then n2.ino else n.parent
   rw[if_neg (fun q=>hna q.1)];exact k1
  ·obtain rfl:=D2 h.asc hp hn1 e';have:=Od (h.sorted p hp) he hem (hnm.trans hen.symm);rw[this,hea]at k2;exact hna k2.symm
  obtain rfl:=D2 h.asc hp hn2 e';rcases ho with⟨q,_⟩|⟨eo,o,q,_,q2,_⟩
  ·exact MQ q e he hnm
  obtain⟨r1,r2⟩:=GA q;have:=Od (h.sorted p hp) he r1 (hnm.trans r2.symm);rw[this,q2]at k2;exact hno k2.symm
 obtain⟨rk,hrk⟩:=h.rank;by_cases hka:a.kind=2
 ·have hS:=hanc hka;refine⟨LH (fun x=>F9 d.nodes x a.ino) rk (rk n2.ino+1),fun m hm h1 h2=>?_⟩;obtain⟨⟨n,hn,rfl⟩,_,_⟩:=hmem hm;have h1':n.ino≠1:=h1;have h2':n.kind=2:=h2;have eP:(GB n1.ino n2.ino name name2 a.ino n).parent=if n.ino=a.ino∧n.kind=2 then n2.ino else n.parent:=rfl
  have eI:(GB n1.ino n2.ino name name2 a.ino n).ino=n.ino:=rfl;rw[eP,eI];by_cases hna:n.ino=a.ino
  ·rw[if_pos ⟨hna,h2'⟩,Of (S:=fun x=>F9 d.nodes x a.ino) hS,Oe (S:=fun x=>F9 d.nodes x a.ino) (show F9 d.nodes n.ino a.ino from⟨0,hna⟩)];omega
  have hlt:=hrk n hn h1' h2';rw[if_neg (fun q=>hna q.1)];by_cases hA:F9 d.nodes n.ino a.ino
  ·have hP:F9 d.nodes n.parent a.ino:=by
      obtain⟨k,hk⟩:=hA
      cases k with
      |zero=>exact absurd hk hna
      |succ k=>
        obtain⟨n',hn',e1,_,_,q⟩:=hk;obtain rfl:=D2 h.asc hn' hn e1;exact⟨k,q⟩
   rw[Oe (S:=fun x=>F9 d.nodes x a.ino) hP,Oe (S:=fun x=>F9 d.nodes x a.ino) hA];omega
  have hP:¬F9 d.nodes n.parent a.ino:=fun⟨k,hk⟩=>hA ⟨k+1,n,hn,rfl,h1',h2',hk⟩;rw[Of (S:=fun x=>F9 d.nodes x a.ino) hP,Of (S:=fun x=>F9 d.nodes x a.ino) hA];exact hlt
 refine⟨rk,fun m hm h1 h2=>?_⟩;obtain⟨⟨n,hn,rfl⟩,_,_⟩:=hmem hm;have h2':n.kind=2:=h2;show rk (if n.ino=a.ino∧n.kind=2 then n2.ino else n.parent)<rk n.ino
 rw[if_neg (fun q=>hka (by
  obtain rfl:=D2 h.asc hn ha q.1
  exact q.2))]
 exact hrk n hn h1 h2'
end Go.Proofs.YtobclmbkdhbnpaaGreatDoor
namespace Go.Proofs.YtobclmbkdhbnpaaGreatDoor
open Go.RowKit
theorem Wz(n:Nat):∀j,De [] n j=some (n+j):=fun j=>by simp[De]
theorem MV{bx:List (List AV)}{n:Nat}(hn:bx.length=n)(f:AR)(q:Nat)(d:Dvc)(ns:List Nod)(cap cap1:Nat):Back bx [] [DB f q d 1 cap cap1,NB ns cap1] (bx++[DB f q d (n+1) cap cap1,NB ns cap1]):=by
 subst hn;refine⟨by simp,fun i row _ h=>?_,fun k i row h=>by simp at h,fun k row h=>?_⟩
 ·rw[CO (Ag.1 h).1];exact h
 rw[DM (by omega),show bx.length+k - bx.length=k by omega];simp only[List.length_nil,Nat.zero_add]at h
 match k,h with
 |0,h=>injection h with h;subst h;rw[Fd (Wz _ 1)];rfl
 |1,h=>injection h with h;subst h;rw[FS];rfl
 |k+2,h=>simp at h
theorem LJ{bx:List (List AV)}{i0 i1:Nat}(h0:i0<bx.length)(h1:i1<bx.length)(hne:i0≠i1)(f:AR)(q:Nat)(d:Dvc)(ns:List Nod)(cap cap1 cap1':Nat):
    Back bx [i0,i1] [DB f q d 1 cap cap1,NB ns cap1'] ((bx.set i0 (DB f q d i1 cap cap1)).set i1 (NB ns cap1')):=by
 refine⟨by simp,fun i row hi h=>?_,fun k i row h hr=>?_,fun k row h=>by simp at h⟩
 ·simp only[List.mem_cons,List.not_mem_nil,or_false,not_or]at hi;rw[List.getElem?_set_ne (Ne.symm hi.2),List.getElem?_set_ne (Ne.symm hi.1)];exact h
 match k,h,hr with
 |0,h,hr=>
   simp at h hr;subst h;subst hr;rw[List.getElem?_set_ne (Ne.symm hne),List.getElem?_set_self h0,Fd (g:=De [i0,i1] bx.length) (j:=1) (j':=i1) rfl]
 |1,h,hr=>
   simp at h hr;subst h;subst hr;rw[List.getElem?_set_self (by simpa using h1),FS]
 |k+2,h,_=>simp at h
theorem Rp{bx:List (List AV)}{n i0 i1:Nat}(hn:bx.length=n)(h0:i0<n)(h1:i1<n)(hne:i0≠i1)(f:AR)(q:Nat)(d:Dvc)(ns ns':List Nod)(a:A6)(l cap0 cap cap1 cap2:Nat):
    Back bx [i0,i1] [DB f q d 4 cap cap2,NB ns cap1,[.bs 0 0 2 l cap0],A7 a,NB ns' cap2] ((bx.set i0 (DB f q d (n+2) cap cap2)).set i1 (NB ns cap1)++[[.bs i0 0 2 l cap0],A7 a,NB ns' cap2]):=by
 subst hn;have hl:((bx.set i0 (DB f q d (bx.length+2) cap cap2)).set i1 (NB ns cap1)).length=bx.length:=by simp
 refine⟨by simp,fun i row hi h=>?_,fun k i row h hr=>?_,fun k row h=>?_⟩
 ·simp only[List.mem_cons,List.not_mem_nil,or_false,not_or]at hi;rw[CO (by rw[hl];exact(Ag.1 h).1),List.getElem?_set_ne (Ne.symm hi.2),List.getElem?_set_ne (Ne.symm hi.1)];exact h
 ·match k,h,hr with
  |0,h,hr=>
    simp at h hr;subst h;subst hr;rw[CO (by rw[hl];exact h0),List.getElem?_set_ne (Ne.symm hne),List.getElem?_set_self h0,Fd (g:=De [i0,i1] bx.length) (j:=4) (j':=bx.length+2) rfl]
  |1,h,hr=>
    simp at h hr;subst h;subst hr;rw[CO (by rw[hl];exact h1),List.getElem?_set_self (by simpa using h1),FS]
  |k+2,h,_=>simp at h
 rw[DM (by rw[hl];omega),hl,show bx.length+k - bx.length=k by omega]
 match k,h with
 |0,h=>injection h with h;subst h;rfl
 |1,h=>injection h with h;subst h;rfl
 |2,h=>injection h with h;subst h;rw[FS];rfl
 |k+3,h=>rw[List.getElem?_eq_none (by simp;omega)]at h;cases h
theorem Rq{bx:List (List AV)}{n i0 i1:Nat}(hn:bx.length=n)(h0:i0<n)(h1:i1<n)(hne:i0≠i1)(f:AR)(q:Nat)(d:Dvc)(ns:List Nod)(a:A6)(l cap0 cap cap1 cap1':Nat):
    Back bx [i0,i1] [DB f q d 1 cap cap1,NB ns cap1',[.bs 0 0 2 l cap0],A7 a] ((bx.set i0 (DB f q d i1 cap cap1)).set i1 (NB ns cap1')++[[.bs i0 0 2 l cap0],A7 a]):=by
 subst hn;have hl:((bx.set i0 (DB f q d i1 cap cap1)).set i1 (NB ns cap1')).length=bx.length:=by simp
 refine⟨by simp,fun i row hi h=>?_,fun k i row h hr=>?_,fun k row h=>?_⟩
 ·simp only[List.mem_cons,List.not_mem_nil,or_false,not_or]at hi;rw[CO (by rw[hl];exact(Ag.1 h).1),List.getElem?_set_ne (Ne.symm hi.2),List.getElem?_set_ne (Ne.symm hi.1)];exact h
 ·match k,h,hr with
  |0,h,hr=>
    simp at h hr;subst h;subst hr;rw[CO (by rw[hl];exact h0),List.getElem?_set_ne (Ne.symm hne),List.getElem?_set_self h0,Fd (g:=De [i0,i1] bx.length) (j:=1) (j':=i1) rfl]
  |1,h,hr=>
    simp at h hr;subst h;subst hr;rw[CO (by rw[hl];exact h1),List.getElem?_set_self (by simpa using h1),FS]
  |k+2,h,_=>simp at h
 rw[DM (by rw[hl];omega),hl,show bx.length+k - bx.length=k by omega]
 match k,h with
 |0,h=>injection h with h;subst h;rfl
 |1,h=>injection h with h;subst h;rfl
 |k+2,h=>rw[List.getElem?_eq_none (by simp;omega)]at h;cases h
theorem Rr{f:AR}{q:Nat}{d d':Dvc}(hn:d'.next=d.next)(hl:d'.nodes.length=d.nodes.length)(j cap cap1:Nat):DB f q d j cap cap1=DB (f.set q d') q d' j cap cap1:=by
 unfold DB ET FR;rw[List.map_set,List.set_set,hn,hl]
theorem J9{n:Nat}{bx:List (List AV)}{k i j:Nat}{f:AR}{q:Nat}{d d':Dvc}{cap cap0 cap1:Nat}(hq:q<f.length)(hn:d'.next=d.next)(hl:d'.nodes.length=d.nodes.length)(hc:f.length≤cap)(hc1:d'.nodes.length≤cap1)(hni:n≤i)(hnj:n≤j)
    (hi:bx[i]?=some (DB f q d j cap cap1)) (hj:bx[j]?=some (NB d'.nodes cap1)):F5 n (D7 n bx (k+2)) [.bs i 0 2 f.length cap0]=Am (f.set q d'):=by
 have:Nat.blt i n=false:=by rw[←Bool.not_eq_true,Nat.blt_eq];omega
 have key:=J5 (n:=n) (bx:=bx) (k:=k) (i:=i) (j:=j) (f:=f.set q d') (K:=q) (d:=d') (cap:=cap) (cap0:=cap0) (cap1:=cap1) (by simp[hq]) (by simpa using hc) hc1 hni hnj (by rw[hi,Rr hn hl]) hj;rw[List.length_set]at key;have key2:AV.agg [DO (D7 n bx (k+2)) (.bs i 0 2 f.length cap0)]=AV.agg (Am (f.set q d')):=key;have e:F5 n (D7 n bx (k+2)) [.bs i 0 2 f.length cap0]=[DO (D7 n bx (k+2)) (.bs i 0 2 f.length cap0)]:=by simp only[F5,EH,this]
 rw[e];injection key2
structure FlsV(f:AR):Prop where
 few:f.length≤3
 vd:∀d∈f,VD d
theorem FlsV.b{f:AR}(h:FlsV f):FlsB f:=⟨by have:=h.few;omega,fun d hd=>by have:=(h.vd d hd).len;omega,fun d hd n hn=>by have:=(h.vd d hd).many n hn;omega⟩
theorem MW{ns:List Nod}(h:DQ ns){i:Nat}{n:Nod}(hi:ns[i]?=some n)(g:Nod→Nod):ns.set i (g n)=Ck ns n.ino g:=by
 apply List.ext_getElem?;intro k;unfold Ck;rw[List.getElem?_map,List.getElem?_set];have hil:=(Ag.1 hi).1;split
 ·rename_i e;subst e;rw[hi];simp[hil]
 rename_i e
 cases hk:ns[k]? with
 |none=>rfl
 |some m=>
   have:m.ino≠n.ino:=by
    intro em;obtain⟨l1,e1⟩:=Ag.1 hi;obtain⟨l2,e2⟩:=Ag.1 hk;have hp:=List.pairwise_iff_getElem.1 h;rcases Nat.lt_or_gt_of_ne e with hlt|hlt
    ·have:=hp i k l1 l2 hlt;rw[e1,e2]at this;omega
    have:=hp k i l2 l1 hlt;rw[e1,e2]at this;omega
   simp[this]
def GC(f:AR)(q:Nat)(g:List Nod→List Nod):AR:=f.modify q fun d=>{d with nodes:=g d.nodes}
theorem JA{f:AR}{q:Nat}{d:Dvc}(h:f[q]?=some d)(g:List Nod→List Nod):GC f q g=f.set q {d with nodes:=g d.nodes}:=by
 apply List.ext_getElem?;intro k;unfold GC;rw[List.getElem?_modify,List.getElem?_set];split
 ·rename_i e;subst e;rw[h];simp[(Ag.1 h).1]
 simp
theorem GD{f:AR}{dir:A6}{name:AB}(h:C9 f dir name=0):∃(q i:Nat) (d:Dvc) (n0:Nod),dir.1=(q:Int)∧f[q]?=some d∧d.nodes[i]?=some n0∧n0.ino=dir.2∧ER f dir=(i:Int)∧Bj f dir=some n0∧n0.kind=2∧Da name=true:=by
 rcases H5 f dir with⟨_,h2⟩|⟨q,i,d,n,h1,h2,h3,h4,h5,h6⟩
 ·simp[C9,h2]at h
 refine⟨q,i,d,n,h1,h2,h3,h4,h5,h6,?_⟩;simp only[C9,h6]at h;split at h
 ·rename_i hk;split at h
  ·rename_i hn;exact⟨hk,hn⟩
  omega
 omega
def CH(R:Df):AV:= .tup [.agg (Am R.1), .sl 7 (R.2.1.map C2) none, .v (.int .i64 R.2.2)]
theorem DR(e:Int):LeA (.tup [.agg [.v (.slice none 0 0)], .v (.slice none 0 0), .v (.int .i64 e)]) (CH ([],[],e)):=(by repeat (first|exact AM _|exact LeA.nil _|exact LeL.refl _|refine LeA.agg ?_|refine LeA.tup ?_|exact LeL.nil|refine LeL.cons ?_ ?_|exact LeA.any _))
def DS(f:AR)(dir:A6)(name:AB)(a:A6):Df:=
 if C9 f dir name≠0 then([],[],C9 f dir name)else if Cd f a=false then([],[],2)else if a.1≠dir.1 then([],[],18)else if(AU f a).kind=2 then([],[],1)else
 if(AK f dir name).2=0 then([],[],17)else if GW f dir=true then([],[],28)else(GC f dir.1.toNat fun ns=>BN ns dir.2 name a.2,[(dir,name,(0,0),a)],0)
section
theorem X0(f:AR)(dir:A6)(name:AB)(a:A6)(hv:FlsV f)(hs:name.size≤100000):AFn prog 19 [.agg (Am f), .agg (A7 dir), .v (.string name), .agg (A7 a)] (fun r=>r=CH (DS f dir name a)):=by
 have hf:=hv.b;refine enter Tryz.func19 rfl rfl rfl rfl rfl 0 rfl ?_;refine w_ (b_ (h:=b_ (h:=b_ (h:=Ak (h:=a_ (h:=a_ (h:=e_ (q_ (w_ (l_ (h:=l_ (h:=m_ (h:=?_)))))))))))));refine A8 rfl (AN (Kj f dir name hf hs) ?_);rintro r rfl;refine a_ (h:=e_ (w_ (m_ (h:=Bf (h:=e_ (?_))))));refine AA rfl (fun hb1=>?_) (fun hb1=>?_)
 ·have hc1:=bp hb1;refine w_ (Aa (h:=m_ (h:=s_ (h:=a_ (h:=a_ (h:=e_ (A4 (A9 (?_)))))))));refine BS (r:=CH (DS f dir name a)) none (h5:=?_) (h6:=⟨rfl,rfl,rfl⟩);rw[DS,if_pos (by omega)];exact DR _
 have hc1:=bp hb1;refine AO (w_ (l_ (h:=l_ (h:=?_))));refine A8 rfl (AN (E1 f a hf) ?_);rintro r rfl;refine m_ (h:=x_ (h:=x_ (h:=Ak (h:=s_ (h:=a_ (h:=e_ (q_ (w_ (m_ (h:=Bt (h:=e_ (?_))))))))))));refine AA rfl (fun hb2=>?_) (fun hb2=>?_)
 ·have hc2:=bp hb2;refine w_ (Aa (h:=s_ (h:=a_ (h:=a_ (h:=e_ (A4 (A9 (?_))))))));refine BS (r:=CH (DS f dir name a)) none (h5:=?_) (h6:=⟨rfl,rfl,rfl⟩);rw[DS,if_neg (by omega),if_pos hc2];exact DR _
 have hc2:=bp hb2;refine AO (q_ (w_ (f_ (h:=l_ (h:=f_ (h:=l_ (h:=Bf (h:=e_ (?_)))))))));refine AA rfl (fun hb3=>?_) (fun hb3=>?_)
 ·have hc3:=bp hb3;refine w_ (Aa (h:=s_ (h:=a_ (h:=a_ (h:=e_ (A4 (A9 (?_))))))));refine BS (r:=CH (DS f dir name a)) none (h5:=?_) (h6:=⟨rfl,rfl,rfl⟩);rw[DS,if_neg (by omega),if_neg (by simp[hc2]),if_pos (by omega)];exact DR _
 have hc3:=bp hb3;refine AO (q_ (w_ (f_ (h:=l_ (h:=Ah (h:=e_ (?_)))))));refine AA rfl (fun hb4=>?_) (fun hb4=>?_)
 ·have hc4:=bp hb4;refine w_ (Aa (h:=s_ (h:=a_ (h:=a_ (h:=e_ (A4 (A9 (?_))))))));refine BS (r:=CH (DS f dir name a)) none (h5:=?_) (h6:=⟨rfl,rfl,rfl⟩);rw[DS,if_neg (by omega),if_neg (by simp[hc2]),if_neg (by omega),if_pos hc4];exact DR _
 have hc4:=bp hb4;refine AO (q_ (w_ (l_ (h:=l_ (h:=m_ (h:=?_))))));refine A8 rfl (AN (H7 f dir name hf) ?_);rintro r rfl;refine m_ (h:=x_ (h:=x_ (h:=Ak (h:=s_ (h:=a_ (h:=e_ (w_ (m_ (h:=Ah (h:=e_ (?_)))))))))));refine AA rfl (fun hb5=>?_) (fun hb5=>?_)
 ·have hc5:=bp hb5;refine w_ (Aa (h:=s_ (h:=a_ (h:=a_ (h:=e_ (A4 (A9 (?_))))))));refine BS (r:=CH (DS f dir name a)) none (h5:=?_) (h6:=⟨rfl,rfl,rfl⟩);rw[DS,if_neg (by omega),if_neg (by simp[hc2]),if_neg (by omega),if_neg hc4,if_pos hc5];exact DR _
 have hc5:=bp hb5;refine AO (q_ (w_ (l_ (h:=l_ (h:=?_)))));refine A8 rfl (AN (Nt f dir hf) ?_);rintro r rfl;refine e_ (?_);refine AA rfl (fun hb6=>?_) (fun hb6=>?_)
 ·have hc6:=bp hb6;refine w_ (Aa (h:=s_ (h:=a_ (h:=a_ (h:=e_ (A4 (A9 (?_))))))));refine BS (r:=CH (DS f dir name a)) none (h5:=?_) (h6:=⟨rfl,rfl,rfl⟩);rw[DS,if_neg (by omega),if_neg (by simp[hc2]),if_neg (by omega),if_neg hc4,if_neg hc5,if_pos hc6];exact DR _
 have hc6:=bp hb6;obtain⟨q,i,d,n0,hdq,hq,hn0,hino,hidx,hnode,hk0,hnm⟩:=GD (name:=name) (dir:=dir) (f:=f) (by omega);have hil:=(Ag.1 hn0).1;have hql:=(Ag.1 hq).1;refine AO (w_ (l_ (h:=?_)));refine A8 rfl (DN [] rfl (.cons _ _ _ _ _ rfl (AM _) .nil) (by decide) .nil (MK f q d hf hq (by omega)) ?_);rintro r bc tc ⟨rfl,cap,cap1,hcap,hcap1,rfl,rfl⟩;refine⟨rfl,_,(MV (n:=6) rfl f q d d.nodes cap cap1:Back _ [] _ [_,_,_,_,_,_,_,_]),?_⟩;refine Ak (h:=s_ (h:=e_ (w_ (l_ (h:=l_ (h:=m_ (h:=f_ (h:=l_ (h:=?_)))))))));refine A8 rfl (DN [6,7] rfl (.cons _ _ _ _ _ rfl (AM _) (.cons _ _ _ _ _ rfl (AM _) (.cons _ _ _ _ _ rfl (AM _) (.cons _ _ _ _ _ rfl (AM _) .nil)))) (by decide) (.cons _ _ _ _ _ rfl (Fd (by rfl) _ _ _ _ _) (.cons _ _ _ _ _ rfl (FS _ _ _) .nil)) (MP f q d n0 i dir name a.2 cap cap1 hf hq hdq hidx hn0 hcap hcap1) ?_);rintro r bc tc ⟨rfl,rfl,rfl⟩;refine⟨rfl,_,(LJ (BK rfl) (BK rfl) (by decide) f q d _ cap cap1 cap1:Back _ [6,7] _ [_,_,_,_,_,_,_,_,_]),?_⟩;refine e_ (?_);refine BR (fun t=>t=⟨look [(8, .bp 3 0),(9, .sl 7 [C2 (dir,name,(0,0),a)] none),(10, .v (.int .i64 0))],⟨[Am f,A7 dir,A7 a,Am (f.set q {d with nodes:=d.nodes.set i {n0 with entries:=CE n0.entries name a.2}})],[]⟩⟩) ?_ ?_
 ·skip
  refine Bo ([(0,Am f),(1,A7 dir),(2,A7 a),(6,DB f q d 7 cap cap1),(7,NB (d.nodes.set i {n0 with entries:=CE n0.entries name a.2}) cap1),(8,[.bs 6 0 2 f.length cap])]) 9 (h:=AF 0 (h:=AF 1 (h:=AQ 2 (h:=?_))));refine B5 3 rfl (fun _ hS=>F1 (y:= .agg (A7 (0,0))) (D8 ⟨rfl,rfl⟩) (by repeat (first|exact AM _|exact LeA.nil _|exact LeL.refl _|refine LeA.agg ⟨rfl,rfl⟩|refine LeA.tup ⟨rfl,rfl⟩|exact LeL.nil|refine LeL.cons ⟨rfl,rfl⟩ ⟨rfl,rfl⟩|exact LeA.any _)) ⟨rfl,rfl⟩) ?_;refine AF 4 (h:=?_);refine c_ 5 rfl (AN (Kk dir name (0,0) a) ?_);rintro r rfl;refine o_ (h:=?_);refine BA 6 rfl (B1 rfl rfl rfl rfl rfl rfl (by repeat constructor) (by repeat constructor) ?_);refine o_ (h:=BO 7 (h:=BO 8 (h:=z_ (h:=?_))));refine AG ?_;exact⟨_,rfl,Fx 4 2 rfl (by show[_,_,_,F5 4 (D7 4 _ 2) [.bs 6 0 2 f.length cap]]=_;rw[J9 (k:=0) (i:=6) (j:=7) (d:=d) (d':={d with nodes:=d.nodes.set i {n0 with entries:=CE n0.entries name a.2}}) hql rfl (by simp) hcap (by simpa using hcap1) (by decide) (by decide) rfl rfl];rfl) (.cons _ _ _ _ rfl (AM _) (.cons _ _ _ _ rfl (AM _) (.cons _ _ _ _ rfl (AM _) .nil)))⟩
 rintro t rfl;refine A4 (?_);refine AD ?_;rw[DS,if_neg (by omega),if_neg (by simp[hc2]),if_neg (by omega),if_neg hc4,if_neg hc5,if_neg (by simp[hc6]),hdq,Int.toNat_natCast,JA hq,←hino];unfold BN;rw[←MW (hv.vd d (Au hq)).asc hn0];rfl
end
theorem MX{f:AR}{dir:A6}{name:AB}{n0:Nod}(hn:Bj f dir=some n0)(hk:n0.kind=2)(h:(AK f dir name).2=0):∃e,Cw n0.entries name=some e∧AK f dir name=((dir.1,e.2),0):=by
 unfold AK at h ⊢;rw[hn]at h ⊢;simp only[hk,if_true]at h ⊢;unfold Cw;split at h
 ·exact absurd h (by decide)
 rename_i e he;exact⟨e,he,rfl⟩
def entS(ns:List Nod)(i:Nat)(n0:Nod)(name:AB)(ino:Int):List Nod:=ns.set i {n0 with entries:=CE n0.entries name ino}
theorem Fg(ns:List Nod)(i:Nat)(n0:Nod)(name:AB)(ino:Int):(entS ns i n0 name ino).length=ns.length:=by simp[entS]
theorem Og(es:List B6)(name:AB)(ino:Int):(CE es name ino).length≤es.length+1:=by
 by_cases h:ino=0
 ·subst h;rw[G9];have:(Ds name es).length≤es.length:=List.length_filter_le _ _;omega
 rw[(Gi es name h).length_eq,List.length_cons];have:(Ds name es).length≤es.length:=List.length_filter_le _ _;omega
theorem FlsB.set_{f:AR}(hf:FlsB f){q:Nat}{d':Dvc}(hn:d'.nodes.length≤1000)(he:∀n∈d'.nodes,n.entries.length≤1000):FlsB (f.set q d'):=by
 refine⟨by simpa using hf.few,fun d hd=>?_,fun d hd n hn'=>?_⟩
 ·rcases List.mem_or_eq_of_mem_set hd with h|h
  ·exact hf.nodes d h
  rw[h];exact hn
 rcases List.mem_or_eq_of_mem_set hd with h|h
 ·exact hf.ents d h n hn'
 subst h;exact he n hn'
theorem FlsV.entS{f:AR}(hv:FlsV f){q:Nat}{d:Dvc}(hq:f[q]?=some d){i:Nat}{n0:Nod}(hn:d.nodes[i]?=some n0)(name:AB)(ino:Int):FlsB (f.set q {d with nodes:=entS d.nodes i n0 name ino}):=by
 have hd:=hv.vd d (Au hq);refine hv.b.set_ ?_ ?_
 ·show(Go.Proofs.YtobclmbkdhbnpaaGreatDoor.entS d.nodes i n0 name ino).length≤1000;rw[Fg];have:=hd.len;omega
 intro m hm;rcases List.mem_or_eq_of_mem_set hm with h|h
 ·have:=hd.many m h;omega
 rw[h];have:=Og n0.entries name ino;have:=hd.many n0 (Au hn);show(CE n0.entries name ino).length≤1000;omega
theorem MY{d:Dvc}(hd:VD d){i:Nat}{n0:Nod}(hn:d.nodes[i]?=some n0)(name:AB)(ino:Int):entS d.nodes i n0 name ino=BN d.nodes n0.ino name ino:=by
 unfold entS BN;rw[←MW hd.asc hn];rfl
theorem Rs{f:AR}{a:A6}{q:Nat}{d:Dvc}(ha:a.1=(q:Int))(hq:f[q]?=some d):FQ f a=if(d.nodes.any fun n=>n.ino==a.2)then Bc a.2 d.nodes else 0:=by
 unfold FQ Bj;rw[ha,Hw,hq];simp only
 cases h:d.nodes.find? (fun n=>n.ino==a.2)with
 |none=>
   have:d.nodes.any (fun n=>n.ino==a.2)=false:=by
    rw[List.any_eq_false];exact List.find?_eq_none.1 h
   simp[this]
 |some n=>
   have:d.nodes.any (fun n=>n.ino==a.2)=true:=by
    have h2:=List.find?_some h;exact List.any_eq_true.2 ⟨n,List.mem_of_find?_eq_some h,h2⟩
   simp[this]
theorem X3{f:AR}{a:A6}{q:Nat}{d:Dvc}(ha:a.1=(q:Int))(hq:f[q]?=some d)(hl:0<FQ f a):C1 d.nodes a.2=d.nodes:=by
 rw[Rs ha hq]at hl;split at hl
 ·unfold C1;rw[List.filter_eq_self];intro m _;exact decide_eq_true (.inr hl)
 omega
theorem drop_zero{f:AR}{a:A6}{q:Nat}{d:Dvc}(ha:a.1=(q:Int))(hq:f[q]?=some d)(hl:FQ f a=0):C1 d.nodes a.2=Ct a.2 d.nodes:=by
 rw[Rs ha hq]at hl;unfold C1 Ct;apply List.filter_congr;intro m hm;split at hl
 ·rw[hl,Bool.eq_iff_iff];simp
 rename_i h
 have hne:m.ino≠a.2:=by
  intro e;exact h (List.any_eq_true.2 ⟨m,hm,by simpa using e⟩)
 rw[Bool.eq_iff_iff];simp[hne]
theorem Rt{ns:List Nod}{m:Nod}{i:Int}(hm:m∈ns)(h:m.ino≠i):0<(Ct i ns).length:=List.length_pos_of_mem (List.mem_filter.2 ⟨hm,by simpa using h⟩)
theorem X4{d:Dvc}(hd:VD d){i:Nat}{n0:Nod}(hn:d.nodes[i]?=some n0)(name:AB)(ino:Int):∃m∈entS d.nodes i n0 name ino,m.ino=1:=by
 obtain⟨r,hr,h1,_⟩:=hd.rootMem;rw[MY hd hn];obtain⟨m,hm,hw⟩:=Hb n0.ino name ino hr;exact⟨m,hm,hw.ino.trans h1⟩
theorem Ru(f:AR)(q:Nat)(d d':Dvc)(a:A6)(cap cap1:Nat)(hf:FlsB (f.set q d'))(hq:q<f.length)(ha:a.1=(q:Int))(hcap:f.length≤cap)(hcap1:d'.nodes.length≤cap1)(hne:0<(Ct a.2 d'.nodes).length)(hn:d'.next=d.next)(hl:d'.nodes.length=d.nodes.length):
    ACall prog 38 [.agg [.bs 0 0 2 f.length cap], .agg (A7 a)] [DB f q d 1 cap cap1,NB d'.nodes cap1] (fun r b t=>t=[]∧r= .tup []∧((C1 d'.nodes a.2=d'.nodes∧b=[DB f q d 1 cap cap1,NB d'.nodes cap1,[.bs 0 0 2 f.length cap],A7 a])∨(C1 d'.nodes a.2=Ct a.2 d'.nodes∧∃cap2,(Ct a.2 d'.nodes).length≤cap2∧b=[DB f q {d' with nodes:=Ct a.2 d'.nodes} 4 cap cap2,NB d'.nodes cap1,[.bs 0 0 2 f.length cap],A7 a,NB (Ct a.2 d'.nodes) cap2]))):=by
 have hq':(f.set q d')[q]?=some d':=by simp[hq]
 have key:=Wn (f.set q d') q d' a cap cap1 hf hq' ha (by simpa using hcap) hcap1 hne;rw[List.length_set,←Rr hn hl]at key;refine key.mono fun r b t ⟨h1,h2,h3⟩=>⟨h1,h2,?_⟩;rcases h3 with⟨h4,h5⟩|⟨h4,cap2,h5,h6⟩
 ·exact .inl ⟨X3 ha hq' h4,h5⟩
 refine .inr ⟨drop_zero ha hq' h4,cap2,h5,?_⟩;rw[OO]at h6;exact h6
def EV(f:AR)(dir:A6)(name:AB):Df:=
 if C9 f dir name≠0 then([],[],C9 f dir name)else if(AK f dir name).2≠0 then([],[],(AK f dir name).2)else if Al f (AK f dir name).1=true then([],[],21)else
 (GC f dir.1.toNat fun ns=>C1 (BN ns dir.2 name 0) (AK f dir name).1.2,[(dir,name,(AK f dir name).1,(0,0))],0)
def X5(f:AR)(dir:A6)(name:AB):Df:=
 if C9 f dir name≠0 then([],[],C9 f dir name)else if(AK f dir name).2≠0 then([],[],(AK f dir name).2)else if Al f (AK f dir name).1=false then([],[],20)else if H6 f (AK f dir name).1=false then([],[],39)else
 (GC f dir.1.toNat fun ns=>C1 (BN ns dir.2 name 0) (AK f dir name).1.2,[(dir,name,(AK f dir name).1,(0,0))],0)
section
theorem X6(f:AR)(dir:A6)(name:AB)(hv:FlsV f)(hs:name.size≤100000):AFn prog 21 [.agg (Am f), .agg (A7 dir), .v (.string name)] (fun r=>r=CH (EV f dir name)):=by
 have hf:=hv.b;refine enter Tryz.func21 rfl rfl rfl rfl rfl 0 rfl ?_;refine w_ (b_ (h:=b_ (h:=Ak (h:=a_ (h:=a_ (h:=e_ (q_ (w_ (l_ (h:=l_ (h:=m_ (h:=?_))))))))))));refine A8 rfl (AN (Kj f dir name hf hs) ?_);rintro r rfl;refine a_ (h:=e_ (w_ (m_ (h:=Bf (h:=e_ (?_))))));refine AA rfl (fun hb1=>?_) (fun hb1=>?_)
 ·have hc1:=bp hb1;refine w_ (Aa (h:=m_ (h:=s_ (h:=a_ (h:=a_ (h:=e_ (A4 (A9 (?_)))))))));refine BS (r:=CH (EV f dir name)) none (h5:=?_) (h6:=⟨rfl,rfl,rfl⟩);rw[EV,if_pos (by omega)];exact DR _
 have hc1:=bp hb1;refine AO (w_ (l_ (h:=l_ (h:=m_ (h:=?_)))));refine A8 rfl (AN (H7 f dir name hf) ?_);rintro r rfl;refine m_ (h:=x_ (h:=x_ (h:=Ak (h:=s_ (h:=a_ (h:=e_ (q_ (w_ (m_ (h:=Bf (h:=e_ (?_))))))))))));refine AA rfl (fun hb2=>?_) (fun hb2=>?_)
 ·have hc2:=bp hb2;refine w_ (Aa (h:=m_ (h:=s_ (h:=a_ (h:=a_ (h:=e_ (A4 (A9 (?_)))))))));refine BS (r:=CH (EV f dir name)) none (h5:=?_) (h6:=⟨rfl,rfl,rfl⟩);rw[EV,if_neg (by omega),if_pos (by omega)];exact DR _
 have hc2:=bp hb2;have hlk:(AK f dir name).2=0:=by omega
 refine AO (q_ (w_ (l_ (h:=l_ (h:=?_)))));refine A8 rfl (AN (GX f (AK f dir name).1 hf) ?_);rintro r rfl;refine e_ (?_);refine AA rfl (fun hb3=>?_) (fun hb3=>?_)
 ·have hc3:=bp hb3;refine w_ (Aa (h:=s_ (h:=a_ (h:=a_ (h:=e_ (A4 (A9 (?_))))))));refine BS (r:=CH (EV f dir name)) none (h5:=?_) (h6:=⟨rfl,rfl,rfl⟩);rw[EV,if_neg (by omega),if_neg (by omega),if_pos hc3];exact DR _
 have hc3:=bp hb3;obtain⟨q,i,d,n0,hdq,hq,hn0,hino,hidx,hnode,hk0,hnm⟩:=GD (name:=name) (dir:=dir) (f:=f) (by omega);have hil:=(Ag.1 hn0).1;have hql:=(Ag.1 hq).1;have hvd:=hv.vd d (Au hq);obtain⟨e,he,hle⟩:=MX hnode hk0 hlk;have hat1:(AK f dir name).1.1=(q:Int):=by rw[hle];exact hdq
 have hat2:(AK f dir name).1.2≠1:=by rw[hle];exact(hvd.ent n0 (Au hn0) e (GA he).1).2.1
 have hxl:(entS d.nodes i n0 name 0).length=d.nodes.length:=Fg _ _ _ _ _
 have hkp:0<(Ct (AK f dir name).1.2 (entS d.nodes i n0 name 0)).length:=by
  obtain⟨m,hm,hm1⟩:=X4 hvd hn0 name 0;exact Rt hm (by rw[hm1];exact hat2.symm)
 refine AO (w_ (l_ (h:=?_)));refine A8 rfl (DN [] rfl (.cons _ _ _ _ _ rfl (AM _) .nil) (by decide) .nil (MK f q d hf hq (by omega)) ?_);rintro r bc tc ⟨rfl,cap,cap1,hcap,hcap1,rfl,rfl⟩;refine⟨rfl,_,(MV (n:=4) rfl f q d d.nodes cap cap1:Back _ [] _ [_,_,_,_,_,_]),?_⟩;refine Ak (h:=s_ (h:=e_ (w_ (l_ (h:=l_ (h:=m_ (h:=?_)))))));refine A8 rfl (DN [4,5] rfl (.cons _ _ _ _ _ rfl (AM _) (.cons _ _ _ _ _ rfl (AM _) (.cons _ _ _ _ _ rfl (AM _) (.cons _ _ _ _ _ rfl (AM _) .nil)))) (by decide) (.cons _ _ _ _ _ rfl (Fd (by rfl) _ _ _ _ _) (.cons _ _ _ _ _ rfl (FS _ _ _) .nil)) (MP f q d n0 i dir name 0 cap cap1 hf hq hdq hidx hn0 hcap hcap1) ?_);rintro r bc tc ⟨rfl,rfl,rfl⟩;refine⟨rfl,_,(LJ (BK rfl) (BK rfl) (by decide) f q d (entS d.nodes i n0 name 0) cap cap1 cap1:Back _ [4,5] _ [_,_,_,_,_,_,_]),?_⟩;refine e_ (w_ (l_ (h:=l_ (h:=?_))));refine A8 rfl (DN [4,5] rfl (.cons _ _ _ _ _ rfl (AM _) (.cons _ _ _ _ _ rfl (AM _) .nil)) (by decide) (.cons _ _ _ _ _ rfl (Fd (by rfl) _ _ _ _ _) (.cons _ _ _ _ _ rfl (FS _ _ _) .nil)) (Ru f q d {d with nodes:=entS d.nodes i n0 name 0} (AK f dir name).1 cap cap1 (hv.entS hq hn0 name 0) hql hat1 hcap (by rw[Fg];exact hcap1) hkp rfl hxl) ?_);rintro r bc tc ⟨rfl,rfl,⟨hns,rfl⟩|⟨hns,cap2,hcap2,rfl⟩⟩
 ·refine⟨rfl,_,(Rq (n:=7) rfl (by decide) (by decide) (by decide) f q d (entS d.nodes i n0 name 0) (AK f dir name).1 f.length cap cap cap1 cap1:Back _ [4,5] _ [_,_,_,_,_,_,_,_,_]),?_⟩;have hx1:(entS d.nodes i n0 name 0).length≤cap1:=by omega
  refine e_ (?_);refine BR (fun t=>t=⟨look [(6, .bp 2 0),(7, .sl 7 [C2 (dir,name,(AK f dir name).1,(0,0))] none),(8, .v (.int .i64 0))],⟨[Am f,A7 dir,Am (f.set q {d with nodes:=C1 (entS d.nodes i n0 name 0) (AK f dir name).1.2})],[]⟩⟩) ?_ ?_
  ·skip
   refine Bo ([(0,Am f),(1,A7 dir),(3,A7 (AK f dir name).1),(6,[.bs 4 0 2 f.length cap])]) 9 (h:=AF 0 (h:=AF 1 (h:=AQ 2 (h:=AF 3 (h:=?_)))));refine B5 4 rfl (fun _ hS=>F1 (y:= .agg (A7 (0,0))) (D8 ⟨rfl,rfl⟩) (by repeat (first|exact AM _|exact LeA.nil _|exact LeL.refl _|refine LeA.agg ⟨rfl,rfl⟩|refine LeA.tup ⟨rfl,rfl⟩|exact LeL.nil|refine LeL.cons ⟨rfl,rfl⟩ ⟨rfl,rfl⟩|exact LeA.any _)) ⟨rfl,rfl⟩) ?_;refine c_ 5 rfl (AN (Kk dir name (AK f dir name).1 (0,0)) ?_);rintro r rfl;refine o_ (h:=?_);refine BA 6 rfl (B1 rfl rfl rfl rfl rfl rfl (by repeat constructor) (by repeat constructor) ?_);refine o_ (h:=BO 7 (h:=BO 8 (h:=z_ (h:=?_))));refine AG ?_;refine⟨_,rfl,?_⟩;rw[show C1 (entS d.nodes i n0 name 0) (AK f dir name).1.2=_ from hns]
   first|exact Fx 3 2 rfl (congrArg (fun x=>[Am f,A7 dir,x]) (J9 (k:=0) (i:=4) (j:=9) (d:={d with nodes:=Ct (AK f dir name).1.2 (entS d.nodes i n0 name 0)}) (d':={d with nodes:=Ct (AK f dir name).1.2 (entS d.nodes i n0 name 0)}) hql rfl rfl hcap hcap2 (BK rfl) (BK rfl) rfl rfl)) (.cons _ _ _ _ rfl (AM _) (.cons _ _ _ _ rfl (AM _) (.cons _ _ _ _ rfl (AM _) .nil)))|exact Fx 3 2 rfl (congrArg (fun x=>[Am f,A7 dir,x]) (J9 (k:=0) (i:=4) (j:=5) (d:=d) (d':={d with nodes:=entS d.nodes i n0 name 0}) hql rfl hxl hcap hx1 (BK rfl) (BK rfl) rfl rfl)) (.cons _ _ _ _ rfl (AM _) (.cons _ _ _ _ rfl (AM _) (.cons _ _ _ _ rfl (AM _) .nil)))
  rintro t rfl;refine A4 (?_);refine AD ?_;rw[EV,if_neg (by omega),if_neg (by omega),if_neg (by simp[hc3]),hdq,Int.toNat_natCast,JA hq,←hino,←MY (hv.vd d (Au hq)) hn0];rfl
 refine⟨rfl,_,(Rp (n:=7) rfl (by decide) (by decide) (by decide) f q {d with nodes:=Ct (AK f dir name).1.2 (entS d.nodes i n0 name 0)} (entS d.nodes i n0 name 0) (Ct (AK f dir name).1.2 (entS d.nodes i n0 name 0)) (AK f dir name).1 f.length cap cap cap1 cap2:Back _ [4,5] _ [_,_,_,_,_,_,_,_,_,_]),?_⟩;refine e_ (?_);refine BR (fun t=>t=⟨look [(6, .bp 2 0),(7, .sl 7 [C2 (dir,name,(AK f dir name).1,(0,0))] none),(8, .v (.int .i64 0))],⟨[Am f,A7 dir,Am (f.set q {d with nodes:=C1 (entS d.nodes i n0 name 0) (AK f dir name).1.2})],[]⟩⟩) ?_ ?_
 ·skip
  refine Bo ([(0,Am f),(1,A7 dir),(3,A7 (AK f dir name).1),(6,[.bs 4 0 2 f.length cap])]) 9 (h:=AF 0 (h:=AF 1 (h:=AQ 2 (h:=AF 3 (h:=?_)))));refine B5 4 rfl (fun _ hS=>F1 (y:= .agg (A7 (0,0))) (D8 ⟨rfl,rfl⟩) (by repeat (first|exact AM _|exact LeA.nil _|exact LeL.refl _|refine LeA.agg ⟨rfl,rfl⟩|refine LeA.tup ⟨rfl,rfl⟩|exact LeL.nil|refine LeL.cons ⟨rfl,rfl⟩ ⟨rfl,rfl⟩|exact LeA.any _)) ⟨rfl,rfl⟩) ?_;refine c_ 5 rfl (AN (Kk dir name (AK f dir name).1 (0,0)) ?_);rintro r rfl;refine o_ (h:=?_);refine BA 6 rfl (B1 rfl rfl rfl rfl rfl rfl (by repeat constructor) (by repeat constructor) ?_);refine o_ (h:=BO 7 (h:=BO 8 (h:=z_ (h:=?_))));refine AG ?_;refine⟨_,rfl,?_⟩;rw[show C1 (entS d.nodes i n0 name 0) (AK f dir name).1.2=_ from hns]
  first|exact Fx 3 2 rfl (congrArg (fun x=>[Am f,A7 dir,x]) (J9 (k:=0) (i:=4) (j:=9) (d:={d with nodes:=Ct (AK f dir name).1.2 (entS d.nodes i n0 name 0)}) (d':={d with nodes:=Ct (AK f dir name).1.2 (entS d.nodes i n0 name 0)}) hql rfl rfl hcap hcap2 (BK rfl) (BK rfl) rfl rfl)) (.cons _ _ _ _ rfl (AM _) (.cons _ _ _ _ rfl (AM _) (.cons _ _ _ _ rfl (AM _) .nil)))|exact Fx 3 2 rfl (congrArg (fun x=>[Am f,A7 dir,x]) (J9 (k:=0) (i:=4) (j:=5) (d:=d) (d':={d with nodes:=entS d.nodes i n0 name 0}) hql rfl hxl hcap hx1 (BK rfl) (BK rfl) rfl rfl)) (.cons _ _ _ _ rfl (AM _) (.cons _ _ _ _ rfl (AM _) (.cons _ _ _ _ rfl (AM _) .nil)))
 rintro t rfl;refine A4 (?_);refine AD ?_;rw[EV,if_neg (by omega),if_neg (by omega),if_neg (by simp[hc3]),hdq,Int.toNat_natCast,JA hq,←hino,←MY (hv.vd d (Au hq)) hn0];rfl
end
section
variable {P:Program}{N:Dim}{ops:Array Oper}{Q:Exit→AS→Prop}{S:AH→Prop}{tl:Nat}
def Rv(ops:Array Oper)(tl:Nat):Bool:=Le ops tl
end
section
variable {P:Program}{N:Dim}{Q:Exit→AS→Prop}{l:List Oper}{S:AH→Prop}{tl:Nat}{fuel:Nat}{listed:Array Bool}{m:List (Nat×AV)}{h:AH}{op:Op}{ty:TypeId}{pos:String}{af:Array Edge}{gd:Option (Nat×Bool)}
theorem X7{i d:Nat}{x:AV}(hi:l[i]?=some ⟨some d,op,ty,pos,af,gd⟩)(hd:Nat.blt d N.n=true)(htl:(Rv l.toArray tl&&Ld l.toArray listed&& !Nat.ble tl i&&Region.free .any l.toArray listed i&&(Region.ready .any l.toArray listed).contains i)=true)
    (hw:C8 l.toArray (look m) ⟨some d,op,ty,pos,af,gd⟩=some true) (hst:∀h,S h→AStep P ⟨some d,op,ty,pos,af,gd⟩ (Bx (look m)) h (fun x' h'=>x'=x∧h'=h)) (hS:S h)
    (H:AAny P N l.toArray Q S tl fuel (listed.setIfInBounds i true) ⟨look ((d,x)::m),h⟩):AAny P N l.toArray Q S tl (fuel+1) listed ⟨look m,h⟩:=by
 simp only[Bool.and_eq_true,Bool.not_eq_true']at htl;obtain⟨⟨⟨⟨t1,t0⟩,t2⟩,t3⟩,t4⟩:=htl;exact AAny.first3 (oi:=⟨some d,op,ty,pos,af,gd⟩) (Fq hi) hd t1 t2 fuel listed ⟨look m,h⟩ (Pp t0) (Region.free_spec (Fq hi) t3) (List.contains_iff_mem.1 t4) (.inl ⟨hw,hst⟩) hS H
end
theorem DT{P:Program}{N:Dim}{Q:Exit→AS→Prop}{l:List Oper}{S:AH→Prop}{tl:Nat}{fuel:Nat}{listed:Array Bool}{m:List (Nat×AV)}{h:AH}{op:Op}{ty:TypeId}{pos:String}{af:Array Edge}{gd:Option (Nat×Bool)}(i:Nat){d:Nat}{x:AV}(hi:l[i]?=some ⟨some d,op,ty,pos,af,gd⟩)(hst:∀h,S h→AStep P ⟨some d,op,ty,pos,af,gd⟩ (Bx (look m)) h (fun x' h'=>x'=x∧h'=h))(H:AAny P N l.toArray Q S tl fuel (listed.setIfInBounds i true) ⟨look ((d,x)::m),h⟩)(hd:Nat.blt d N.n=true:=by rfl)(htl:(Rv l.toArray tl&&Ld l.toArray listed&& !Nat.ble tl i&&Region.free .any l.toArray listed i&&(Region.ready .any l.toArray listed).contains i)=true:=by kernel_rfl)(hw:C8 l.toArray (look m) ⟨some d,op,ty,pos,af,gd⟩=some true:=by first|rfl|exact AE rfl rfl (Az ‹_›)|exact AE rfl rfl (B0 ‹_›)|exact AE rfl rfl (by simp[*]))(hS:S h:=by repeat (first|exact Ke _|refine Kf rfl ?_)):AAny P N l.toArray Q S tl (fuel+1) listed ⟨look m,h⟩:=X7 hi hd htl hw hst hS H
end Go.Proofs.YtobclmbkdhbnpaaGreatDoor
